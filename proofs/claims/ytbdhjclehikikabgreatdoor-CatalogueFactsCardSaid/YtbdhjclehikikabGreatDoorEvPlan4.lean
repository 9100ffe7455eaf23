/- Regions whose order is open: the evaluator goes ahead; what may change memory is carried out. -/
import Derived.Test.YtbdhjclehikikabGreatDoorEvPlan3
namespace Go.Ev
open Go.RowKit
set_option linter.unusedVariables false
set_option linter.unusedSimpArgs false
variable {P : Program} {B0 : Nat} {cx : Cx} {ops : Array Oper} {ms : Tr Nat} {pl : List PI} {r0 : Tr AV} {m : List Pos} {μ0 : Mu} {h0 : Heap} {w0 : World} {a0 : Act} {x : R}

theorem putR_get {d : Option Tmp} {nt : Nat} {v : AV} {r r' : Tr AV} (hp : putR d nt v r = some r') :
    (∀ s, d = some s → r'.get (pathOf s) = some v ∧ s < nt) ∧ ∀ s, d ≠ some s → r'.get (pathOf s) = r.get (pathOf s) := by
  unfold putR at hp
  cases d with
  | none => cases hp; exact ⟨by simp, fun _ _ => rfl⟩
  | some d =>
    simp only at hp
    cases hl : natLt d nt with
    | false => rw [hl] at hp; cases hp
    | true =>
      rw [hl] at hp
      cases hp
      refine ⟨fun s hs => ?_, fun s hs => ?_⟩
      · cases hs; rw [Tr.get_set, if_pos rfl]; exact ⟨rfl, natLt_iff.1 hl⟩
      · rw [Tr.get_set, if_neg (fun e => hs (by rw [pathOf_inj e]))]
theorem FloatFact.mono {o : Oper} {rp : Tr AV} {hc hc' : Heap} {μ μ' : Mu} {v : AV} {j : Option Pos} (hf : FloatFact P o rp hc μ v j) (hn : hc.n.toNat ≤ hc'.n.toNat) (hload : ∀ f, cls o.op = .load f → f P rp hc = some v → f P rp hc' = some v)
    (hget : ∀ f id ob, cls o.op = .alloc f → j = some id → hc.t.get id = some ob → hc'.t.get id = some ob) (hμ : ∀ id, id.toNat < hc.n.toNat → μ' id = μ id) : FloatFact P o rp hc' μ' v j := by
  unfold FloatFact at hf ⊢
  cases hcl : cls o.op with
  | pure f => rw [hcl] at hf; exact hf
  | load f => rw [hcl] at hf; exact hload f hcl hf
  | alloc f =>
    rw [hcl] at hf
    obtain ⟨A, t, id, e1, e2, e3, e4, e5, e6, e7⟩ := hf
    exact ⟨A, t, id, e1, e2, e3, e4, hget f id _ hcl e1 e5, by rw [hμ id e7]; exact e6, by omega⟩
  | bad => rw [hcl] at hf; exact hf
  | eff f => rw [hcl] at hf; exact hf

/-- One operation that waits is added. -/
theorem add_float (G : Good ops ms pl) {D : Nat → Prop} {a : Act} {w : World} {pr t : List PI} {y : PI} {rc r' : Tr AV} {hc hc' : Heap} {μ : Mu} {J : Nat → Option Pos} (M : Mid P B0 cx ops ms pl r0 m μ0 h0 w0 a0 x D a w pr (y :: t) rc hc μ J)
    (he : y.eff = false) {v : AV} (hp : putR y.o.dst cx.nt v rc = some r') (hrun : doPlan ops t cx r' m hc' = x) (hn : hc.n.toNat ≤ hc'.n.toNat) (hHR : HR μ B0 hc' w) (hget : ∀ id ob, hc.t.get id = some ob → hc'.t.get id = some ob)
    (hload : ∀ (f : Program → Tr AV → Heap → Option AV) rp v, LoadMono f → f P rp hc = some v → f P rp hc' = some v) (jn : Option Pos) (hj : ∀ q, jn = some q → q = hc.n ∧ hc.n.toNat < hc'.n.toNat)
    (hfact : (wantedA ops y.o rc = .no ∧ v = .tup .nil) ∨ (wantedA ops y.o rc = .yes ∧ FloatFact P y.o rc hc' μ v jn)) :
    Mid P B0 cx ops ms pl r0 m μ0 h0 w0 a0 x D a w (pr ++ [y]) t r' hc' μ (fun i => if i = y.i then jn else J i) := by
  have hin : ∀ z ∈ pr, z ∈ pl := fun z hz => by rw [M.split]; exact List.mem_append.2 (.inl hz)
  have hyin : y ∈ pl := by rw [M.split]; simp
  have hpair : ∀ z ∈ pr, okPair ops ms z y = true := fun z hz => G.before M.split hz
  have hne : ∀ z ∈ pr, z.i ≠ y.i := fun z hz => okPair_ne (hpair z hz)
  have hyD : ¬ D y.i := fun hD => by
    obtain ⟨z, hz, e⟩ := M.done _ hD
    exact hne z hz e
  obtain ⟨g1, g2⟩ := putR_get hp
  have hyw : ∀ z ∈ pr, ∀ s, z.o.dst = some s → y.o.dst ≠ some s := fun z hz s e1 e2 => okPair_ww (hpair z hz) e1 e2
  have mem : ∀ z, z ∈ pr ++ [y] → z ∈ pr ∨ z = y := fun z hz => by simpa using hz
  refine ⟨by rw [M.split]; simp, hrun, ?_, ?_, ⟨M.post.ext, Nat.le_trans M.post.le hn, hHR, M.post.below⟩, M.size, M.dfr, ?_, ?_, ?_, ?_, ?_, ?_, ?_⟩
  · intro i hi
    obtain ⟨z, hz, e⟩ := M.done i hi
    exact ⟨z, by simp [hz], e⟩
  · intro z hz hze
    rcases mem z hz with h | h
    · exact M.effs z h hze
    · subst h; rw [he] at hze; cases hze
  · intro s u hu hno
    have hs := hno y (by simp) hyD
    rw [g2 s hs] at hu
    exact M.slots s u hu (fun z hz hzD => hno z (by simp [hz]) hzD)
  · intro z hz hzD s hzs u hu
    rcases mem z hz with h | h
    · exact M.olds z h hzD s hzs u hu
    · subst h
      have hnw : ∀ q ∈ pr, q.o.dst ≠ some s := fun q hq e => hyw q hq s e hzs
      rw [← M.unwr s hnw] at hu
      exact M.slots s u hu (fun q hq _ => hnw q hq)
  · intro s hs
    rw [g2 s (hs y (by simp))]
    exact M.unwr s (fun z hz => hs z (by simp [hz]))
  · intro z hz hzD
    rcases mem z hz with h | h
    · obtain ⟨rp, u, f1, f2, f3⟩ := M.fact z h hzD
      rw [show (if z.i = y.i then jn else J z.i) = J z.i from if_neg (hne z h)]
      refine ⟨rp, u, fun d hd => ?_, fun s hs => ⟨?_, ?_⟩, f3.imp id (fun f => ⟨f.1, f.2.mono hn (fun f hf => hload f rp u (cls_mono _ f hf)) (fun f id ob _ _ => hget id ob) (fun _ _ => rfl)⟩)⟩
      · rw [g2 d (hyw z h d hd)]; exact f1 d hd
      · rintro ⟨q, hq, hqz, hqs, hqp⟩
        rcases mem q hq with h' | h'
        · rw [g2 s (hyw q h' s hqs)]
          exact (f2 s hs).1 ⟨q, h', hqz, hqs, hqp⟩
        · subst h'
          rw [okPair_pre (hpair z h)] at hqp; cases hqp
      · intro hq
        exact (f2 s hs).2 (fun q hq' => hq q (by simp [hq']))
    · subst h
      rw [show (if z.i = z.i then jn else J z.i) = jn from if_pos rfl]
      refine ⟨rc, v, fun d hd => g1 d hd, fun s hs => ⟨?_, ?_⟩, hfact⟩
      · rintro ⟨q, hq, hqz, hqs, hqp⟩
        rcases mem q hq with h' | h'
        · exact (g2 s (hyw q h' s hqs)).symm
        · subst h'; exact absurd rfl hqz
      · intro hq
        refine M.unwr s (fun q hq' e => ?_)
        have := hq q (by simp [hq']) (hne q hq') e
        rw [okPair_wr (hpair q hq') e hs] at this
        cases this
  · intro z hz q hq
    rcases mem z hz with h | h
    · rw [if_neg (hne z h)] at hq
      have := M.jlt z h q hq; omega
    · subst h
      rw [if_pos rfl] at hq
      obtain ⟨rfl, hlt⟩ := hj q hq
      exact hlt
  · intro z hz q hq
    rcases mem z hz with h | h
    · rw [if_neg (hne z h)] at hq
      exact M.jge z h q hq
    · subst h
      rw [if_pos rfl] at hq
      obtain ⟨rfl, hlt⟩ := hj q hq
      exact M.post.le
  · intro z hz u hu hzu p q hp' hq'
    rcases mem z hz with h | h
    · rw [if_neg (hne z h)] at hp'
      rcases mem u hu with h2 | h2
      · rw [if_neg (hne u h2)] at hq'
        exact M.apart z h u h2 hzu p q hp' hq'
      · subst h2
        rw [if_pos rfl] at hq'
        obtain ⟨rfl, _⟩ := hj q hq'
        have := M.jlt z h p hp'
        intro e; subst e; omega
    · subst h
      rw [if_pos rfl] at hp'
      obtain ⟨rfl, _⟩ := hj p hp'
      rcases mem u hu with h2 | h2
      · rw [if_neg (hne u h2)] at hq'
        have := M.jlt u h2 q hq'
        intro e; subst e; omega
      · exact absurd h2.symm (fun e => hzu (by rw [e]))

/-- The evaluator goes on to the next operation that may change memory. -/
theorem advance (hP : cx.P = P) (G : Good ops ms pl) (hx : x ≠ .fail) {D : Nat → Prop} {a : Act} {w : World} {μ : Mu} : ∀ (suf : List PI) {pr : List PI} {rc : Tr AV} {hc : Heap} {J : Nat → Option Pos},
    Mid P B0 cx ops ms pl r0 m μ0 h0 w0 a0 x D a w pr suf rc hc μ J →
    ∃ pr' suf' rc' hc' J', Mid P B0 cx ops ms pl r0 m μ0 h0 w0 a0 x D a w pr' suf' rc' hc' μ J' ∧ (suf' = [] ∨ ∃ y t, suf' = y :: t ∧ y.eff = true)
  | [], pr, rc, hc, J, M => ⟨pr, [], rc, hc, J, M, .inl rfl⟩
  | y :: t, pr, rc, hc, J, M => by
    cases he : y.eff with
    | true => exact ⟨pr, y :: t, rc, hc, J, M, .inr ⟨y, t, rfl, he⟩⟩
    | false =>
      have hyin : y ∈ pl := by rw [M.split]; simp
      obtain ⟨hop, heff⟩ := G.at_ y hyin
      have hr := M.run
      change doAt ops y.o cx rc m hc (fun r' m' h' => Bool.casesOn (motive := fun _ => R) (recheck ops cx.P y.pend rc hc h') .fail (doPlan ops t cx r' m' h')) = x at hr
      obtain ⟨v, h', r', h1, h2, h3⟩ := doAt_inv hr hx
      rw [G.none_ y hyin he] at h3
      have h3 : doPlan ops t cx r' m h' = x := h3
      have hrel := M.post.rel
      have hs : hc.n.succ.toNat = hc.n.toNat + 1 := Pos.toNat_succ _
      have hfr : ∀ id ob, hc.t.get id = some ob → id ≠ hc.n := fun id ob e e' => by have := hrel.live id ob e; subst e'; omega
      rcases h1 with ⟨hw, hres⟩ | ⟨hw, rfl, rfl⟩
      · rcases isEff_cases y.o with ⟨_, hcl⟩ | hcl
        · have hxo : ∀ {res : OR}, xOp y.o.op cx.P rc hc = res → (∀ f as h1, res ≠ .enter f as h1) → (∀ f as h1, res ≠ .round f as h1) → res = .val v h' := by
            intro res e n1 n2
            rcases hres with g | ⟨f, as, h1, g, _⟩ | ⟨f, as, h1, g, _⟩
            · rw [← e]; exact g
            · exact absurd (e.symm.trans g) (n1 f as h1)
            · exact absurd (e.symm.trans g) (n2 f as h1)
          rcases hcl with ⟨f, hcl⟩ | ⟨f, hcl⟩ | ⟨f, hcl⟩
          · cases hf : f P rc with
            | none => 
              have : OR.fail = OR.val v h' := hxo (by unfold xOp; rw [hcl, hP]; simp only [hf]) (by simp) (by simp)
              cases this
            | some u =>
              have : OR.val u hc = OR.val v h' := hxo (by unfold xOp; rw [hcl, hP]; simp only [hf]) (by simp) (by simp)
              cases this
              exact advance hP G hx t (add_float G M he h2 h3 (Nat.le_refl _) hrel (fun _ _ e => e) (fun _ _ _ _ e => e) none (by simp) (.inr ⟨hw, by unfold FloatFact; rw [hcl]; exact hf⟩))
          · cases hf : f P rc hc with
            | none => 
              have : OR.fail = OR.val v h' := hxo (by unfold xOp; rw [hcl, hP]; simp only [hf]) (by simp) (by simp)
              cases this
            | some u =>
              have : OR.val u hc = OR.val v h' := hxo (by unfold xOp; rw [hcl, hP]; simp only [hf]) (by simp) (by simp)
              cases this
              exact advance hP G hx t (add_float G M he h2 h3 (Nat.le_refl _) hrel (fun _ _ e => e) (fun _ _ _ _ e => e) none (by simp) (.inr ⟨hw, by unfold FloatFact; rw [hcl]; exact hf⟩))
          · cases hf : f P rc with
            | none => 
              have : OR.fail = OR.val v h' := hxo (by unfold xOp; rw [hcl, hP]; simp only [hf]) (by simp) (by simp)
              cases this
            | some A =>
              have hnc : newCells A.l A.n hc A.k = OR.val v h' := hxo (by unfold xOp; rw [hcl, hP]; simp only [hf]) newCells_not.1 newCells_not.2
              obtain ⟨tt, e1, rfl, rfl⟩ := newCells_cases hnc
              have hgg : ∀ id ob, hc.t.get id = some ob → (Tr.set (AO.cells tt A.n false) hc.t hc.n).get id = some ob := fun id ob e => by
                rw [Tr.get_set, if_neg (hfr id ob e)]; exact e
              have hnone : μ hc.n = none := by
                cases e : μ hc.n with
                | none => rfl
                | some C => exact absurd (hrel.fresh _ _ e) (by omega)
              refine advance hP G hx t (add_float G M he h2 h3 (by show hc.n.toNat ≤ hc.n.succ.toNat; omega) (hrel.free _) hgg (fun g rp u hg e => hg P rp hc u hc.n hc.n.succ _ hfr e) (some hc.n) (fun q e => by
                cases e; exact ⟨rfl, by show hc.n.toNat < hc.n.succ.toNat; omega⟩) (.inr ⟨hw, ?_⟩))
              unfold FloatFact
              rw [hcl]
              refine ⟨A, tt, hc.n, rfl, hf, e1, rfl, ?_, hnone, by show hc.n.toNat < hc.n.succ.toNat; omega⟩
              show (Tr.set (AO.cells tt A.n false) hc.t hc.n).get hc.n = _
              rw [Tr.get_set, if_pos rfl]
        · rw [heff, hcl] at he; cases he
      · exact advance hP G hx t (add_float G M he h2 h3 (Nat.le_refl _) hrel (fun _ _ e => e) (fun _ _ _ _ e => e) none (by simp) (.inl ⟨hw, rfl⟩))
end Go.Ev
