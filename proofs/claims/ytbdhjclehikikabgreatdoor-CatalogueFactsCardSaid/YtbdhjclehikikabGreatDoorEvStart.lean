/- The start: memory as the row hands it over; what a run of the evaluator then says of the call. -/
import Derived.Test.YtbdhjclehikikabGreatDoorEvCall
namespace Go.Ev
open Go.RowKit
set_option linter.unusedVariables false
set_option linter.unusedSimpArgs false

/-- The size of a block of cells. -/
def bsz (w : World) (b : Nat) : Nat := match w.heap[b]? with | some (.cells c _ _) => c.size | _ => 0
/-- At the start: the package-level variables. -/
noncomputable def mu0 (w : World) : Mu := fun id => if id.toNat < 64 then some ⟨id.toNat, 0, bsz w id.toNat⟩ else none

theorem layTables_spec : ∀ (l : List (AV × Nat)) (i : Nat) (t : Tr AO) (id : Pos) (o : AO), (layTables l i t).get id = some o →
    (∃ j x c, l[j]? = some x ∧ id = pathOf (i + j) ∧ lay x.2 x.1 0 .leaf = some c ∧ o = .cells c x.2 true) ∨ t.get id = some o
  | [], i, t, id, o, h => .inr h
  | x :: l, i, t, id, o, h => by
    change (layTables l (Nat.succ i) (Option.casesOn (motive := fun _ => Tr AO) (lay x.2 x.1 0 .leaf) t (fun c => t.set (.cells c x.2 true) (pathOf i)))).get id = some o at h
    rcases layTables_spec l _ _ id o h with ⟨j, y, c, h1, h2, h3, h4⟩ | h1
    · exact .inl ⟨j + 1, y, c, by simpa using h1, by rw [h2]; congr 1; omega, h3, h4⟩
    · cases hl : lay x.2 x.1 0 .leaf with
      | none => rw [hl] at h1; exact .inr h1
      | some c =>
        rw [hl] at h1
        change (t.set (.cells c x.2 true) (pathOf i)).get id = some o at h1
        rw [Tr.get_set] at h1
        by_cases he : id = pathOf i
        · rw [if_pos he] at h1; cases h1; exact .inl ⟨0, x, c, rfl, he, hl, rfl⟩
        · rw [if_neg he] at h1; exact .inr h1

/-- The tables hold what they are said to hold. -/
def TabOK (w : World) (l : List (AV × Nat)) : Prop :=
  ∀ (i : Nat) (x : AV × Nat), l[i]? = some x → ∃ (c : Array Value) (el : TypeId) (fz : Nat × Nat) (vs : List Value), w.heap[i]? = some (.cells c el fz) ∧ unfz fz c.size ∧ c.size = x.2 ∧ (∀ μ, VRL μ x.1 vs) ∧ ∀ (k : Nat) (v : Value), vs[k]? = some v → c[k]? = some v

theorem start_HR {l : List (AV × Nat)} (hlen : l.length ≤ 64) {w : World} (ht : TabOK w l) : HR (mu0 w) w.heap.size (startWith l 64) w := by
  have hmu : ∀ id B, mu0 w id = some B → id.toNat < 64 ∧ B = ⟨id.toNat, 0, bsz w id.toNat⟩ := by
    intro id B h
    unfold mu0 at h
    split at h
    · rename_i hlt; cases h; exact ⟨hlt, rfl⟩
    · cases h
  have hn : (startWith l 64).n.toNat = 64 := toNat_pathOf 64
  have hlive : ∀ id o, (startWith l 64).t.get id = some o → ∃ j x c, l[j]? = some x ∧ id = pathOf j ∧ lay x.2 x.1 0 .leaf = some c ∧ o = .cells c x.2 true := by
    intro id o h
    rcases layTables_spec l 0 .leaf id o h with ⟨j, x, c, h1, h2, h3, h4⟩ | h1
    · exact ⟨j, x, c, h1, by rw [h2]; congr 1; omega, h3, h4⟩
    · cases h1
  refine ⟨?_, ?_, ?_, ?_, ?_, ?_, Nat.le_refl _⟩
  · intro id B h; rw [hn]; exact (hmu id B h).1
  · intro id o h
    obtain ⟨j, x, c, h1, h2, _⟩ := hlive id o h
    have := (List.getElem?_eq_some_iff.1 h1).1
    rw [hn, h2, toNat_pathOf]; omega
  · intro id B o h1 h2
    obtain ⟨hlt, rfl⟩ := hmu id B h1
    obtain ⟨j, x, c, h3, h4, h5, h6⟩ := hlive id o h2
    subst h6
    obtain ⟨cs, el, fz, vs, g1, g0, g9, g2, g3⟩ := ht j x h3
    have hid : id.toNat = j := by rw [h4, toNat_pathOf]
    have hb : bsz w id.toNat = cs.size := by rw [hid]; unfold bsz; rw [g1]
    obtain ⟨k1, k2, k3⟩ := lay_spec x.2 h5 (g2 (mu0 w))
    have hle : x.2 ≤ cs.size := by
      rcases Nat.eq_zero_or_pos x.2 with e | e
      · omega
      · have hlt : x.2 - 1 < vs.length := by omega
        have := g3 (x.2 - 1) _ (List.getElem?_eq_getElem hlt)
        have := (Array.getElem?_eq_some_iff.1 this).1
        omega
    refine ⟨by rw [hb]; exact hle, cs, el, fz, by show w.heap[id.toNat]? = _; rw [hid]; exact g1, by show 0 + bsz w id.toNat ≤ _; omega, ⟨g0, fun _ => g9⟩, ?_⟩
    intro k v hk
    rcases k3 k v hk with ⟨_, a2, cv, a3, a4⟩ | ⟨_, a2⟩
    · refine ⟨by show k < bsz w id.toNat; omega, cv, ?_, a4⟩
      show cs[0 + k]? = some cv
      rw [Nat.zero_add]
      exact g3 k cv (by simpa using a3)
    · cases a2
  · intro i j A B o p hij h1 h2 h3 h4 e
    obtain ⟨_, rfl⟩ := hmu i A h1
    obtain ⟨_, rfl⟩ := hmu j B h2
    obtain ⟨j1, _, _, _, e1, _⟩ := hlive i o h3
    obtain ⟨j2, _, _, _, e2, _⟩ := hlive j p h4
    have e : i.toNat = j.toNat := e
    rw [e1, e2, toNat_pathOf, toNat_pathOf] at e
    exact hij (by rw [e1, e2, e])
  · intro id B o h1 h2 h3
    obtain ⟨j, x, c, _, _, _, h6⟩ := hlive id o h2
    subst h6; cases h3
  · intro g hg
    exact ⟨bsz w g, by unfold mu0; rw [toNat_pathOf, if_pos hg]⟩

theorem isTrue_inv {c : CR} (h : c.isTrue = true) : ∃ h', c = .ret (.bool true) h' := by
  unfold CR.isTrue at h
  split at h
  · rename_i b h'; subst h; exact ⟨h', rfl⟩
  · cases h

/-- WHAT A RUN SAYS: the call returns true, and of what was there nothing has changed. -/
theorem run_true {P : Program} (hm : P.follows .mixedOrders = true) (hcl : Callable P) {l : List (AV × Nat)} {n fuel : Nat} {f : FuncId} {as : AV} (hrun : (callN P fuel n (.fn f) as (startWith l 64)).isTrue = true) (hlen : l.length ≤ 64)
    {w : World} (ht : TabOK w l) {cargs : Array Value} (hargs : ∀ μ, VRL μ as cargs.toList) : Calls P f cargs w fun e w' => e = .returned (.bool true) ∧ Below w.heap.size w w' := by
  obtain ⟨h', hc⟩ := isTrue_inv hrun
  have h := (callN_sound (B0 := w.heap.size) hm hcl fuel n (.fn f) as _ _ h' hc (mu0 w) w (start_HR hlen ht)).2 cargs (hargs _)
  exact h.mono fun e w' ⟨cv, μ', he, hv, hp⟩ => by
    have : cv = .bool true := by simpa [VR] using hv
    exact ⟨by rw [he, this], hp.below⟩

/-- No function with a body bears the one name that is not entered. -/
def calmNames (P : Program) : Bool := P.funcs.all fun fn => fn.name != "runtime.NumGoroutine"
theorem callable_of {P : Program} (h : calmNames P = true) : Callable P := by
  intro f fn args w hf hb
  have hne : (fn.name == "runtime.NumGoroutine") = false := by
    unfold calmNames at h
    have := Array.all_eq_true.1 h
    obtain ⟨hlt, he⟩ := Array.getElem?_eq_some_iff.1 hf
    have := this f hlt
    rw [he] at this
    simpa [bne] using this
  obtain ⟨c, hc⟩ := Option.isSome_iff_exists.1 hb
  have hne' : ¬ fn.name = "runtime.NumGoroutine" := fun e => by rw [e] at hne; simp at hne
  simp [callFunc, go_sem, hf, hc, hne']

theorem intsAV_sound (k : IntKind) : ∀ (l : List Int) (μ : Mu), VRL μ (intsAV k l) (l.map (Value.int k))
  | [], μ => rfl
  | n :: l, μ => ⟨_, _, rfl, rfl, intsAV_sound k l μ⟩
theorem ints_unique {k : IntKind} : ∀ (l : List Int) {μ : Mu} {vs : List Value}, VRL μ (intsAV k l) vs → vs = l.map (Value.int k)
  | [], μ, vs, h => h
  | n :: l, μ, vs, h => by
    obtain ⟨v, r, rfl, h1, h2⟩ := h
    have h1 : v = .int k n := List.head_eq_of_cons_eq h1
    rw [h1, ints_unique l h2]; rfl
end Go.Ev
