/- Regions whose order is open: whatever order is drawn, what comes out is what the evaluator's one order gives. -/
import Derived.Test.YtbdhjclehikikabGreatDoorEvLocal
import Derived.Orders
namespace Go.Ev
open Go.RowKit
set_option linter.unusedVariables false
set_option linter.unusedSimpArgs false

/-! ### What precedes what -/
/-- A set of places that holds with each place what its edges name. -/
def EC (ops : Array Oper) (D : Nat → Prop) : Prop := ∀ i o, D i → ops[i]? = some o → ∀ e ∈ o.after.toList, Region.binds .any e = true → D e.on
theorem maskOf_test (ms : Tr Nat) (j : Nat) : ∀ (es : List Edge), (maskOf ms es).testBit j = true → ∃ e ∈ es, Region.binds .any e = true ∧ (j = e.on ∨ pre ms j e.on = true)
  | [], h => by simp [maskOf] at h
  | e :: es, h => by
    change (Bool.casesOn (motive := fun _ => Nat) (Region.binds .any e) (maskOf ms es) (Nat.lor (Nat.lor (bit e.on) ((ms.get (pathOf e.on)).getD 0)) (maskOf ms es))).testBit j = true at h
    cases hb : Region.binds .any e with
    | false =>
      rw [hb] at h
      obtain ⟨e', h1, h2⟩ := maskOf_test ms j es h
      exact ⟨e', by simp [h1], h2⟩
    | true =>
      rw [hb] at h
      simp only [lor_test, Bool.or_eq_true] at h
      rcases h with (h | h) | h
      · rw [bit_test] at h
        exact ⟨e, by simp, hb, .inl (of_decide_eq_true h).symm⟩
      · exact ⟨e, by simp, hb, .inr ((hasBit_iff _ _).2 h)⟩
      · obtain ⟨e', h1, h2⟩ := maskOf_test ms j es h
        exact ⟨e', by simp [h1], h2⟩
/-- The masks say only what is so of every closed set. -/
def MS (ops : Array Oper) (D : Nat → Prop) (ms : Tr Nat) : Prop := ∀ k o, ops[k]? = some o → (∀ e ∈ o.after.toList, Region.binds .any e = true → D e.on) → ∀ j, pre ms j k = true → D j
theorem preM_sound {ops : Array Oper} {D : Nat → Prop} (hD : EC ops D) : ∀ (l : List Oper) (i : Nat) (ms : Tr Nat), (∀ (n : Nat) o, l[n]? = some o → ops[i + n]? = some o) → MS ops D ms → (∀ k, ms.get (pathOf k) ≠ none → k < i ∧ k < ops.size) → MS ops D (preM l i ms)
  | [], i, ms, _, h, _ => h
  | o :: l, i, ms, hl, h, hk => by
    have ho : ops[i]? = some o := by simpa using hl 0 o rfl
    have hi : i < ops.size := (Array.getElem?_eq_some_iff.1 ho).1
    show MS ops D (preM l (Nat.succ i) (ms.set (maskOf ms o.after.toList) (pathOf i)))
    refine preM_sound hD l (i + 1) _ (fun n o' hn => by have := hl (n + 1) o' (by simpa using hn); rwa [show i + (n + 1) = i + 1 + n by omega] at this) ?_ ?_
    · intro k o' ho' he j hj
      unfold pre at hj
      rw [Tr.get_set] at hj
      by_cases hki : k = i
      · subst hki
        rw [if_pos rfl] at hj
        rw [ho] at ho'
        cases ho'
        have hj := (hasBit_iff _ _).1 hj
        obtain ⟨e, h1, h2, h3⟩ := maskOf_test ms j _ hj
        have hDe := he e h1 h2
        rcases h3 with rfl | h3
        · exact hDe
        · have hne : ms.get (pathOf e.on) ≠ none := by
            intro hn
            unfold pre at h3
            rw [hn] at h3
            have := (hasBit_iff _ _).1 h3
            simp at this
          obtain ⟨_, hlt⟩ := hk _ hne
          exact h e.on (ops[e.on]) (Array.getElem?_eq_getElem hlt) (hD e.on _ hDe (Array.getElem?_eq_getElem hlt)) j h3
      · rw [if_neg (fun e => hki (pathOf_inj e))] at hj
        exact h k o' ho' he j hj
    · intro k hk'
      rw [Tr.get_set] at hk'
      by_cases hki : k = i
      · subst hki; exact ⟨by omega, hi⟩
      · rw [if_neg (fun e => hki (pathOf_inj e))] at hk'
        have := hk k hk'
        exact ⟨by omega, this.2⟩
theorem masks_sound {ops : Array Oper} {D : Nat → Prop} (hD : EC ops D) : MS ops D (preM ops.toList 0 .leaf) :=
  preM_sound hD ops.toList 0 .leaf (fun n o h => by simpa using h) (fun k o _ _ j hj => by
    unfold pre at hj
    have := (hasBit_iff _ _).1 hj
    simp [Tr.get_leaf] at this) (fun k h => absurd rfl h)

/-! ### The one order -/
/-- What the look over the one order has found. -/
structure Good (ops : Array Oper) (ms : Tr Nat) (pl : List PI) : Prop where
  at_ : ∀ x ∈ pl, ops[x.i]? = some x.o ∧ x.eff = isEff x.o
  pendAt : ∀ x ∈ pl, ∀ p ∈ x.pend, ops[p.1]? = some p.2
  none_ : ∀ x ∈ pl, x.eff = false → x.pend = []
  pair : ∀ pr y suf, pl = pr ++ y :: suf → (∀ x ∈ pr, okPair ops ms x y = true) ∧ ∀ p ∈ y.pend, okPend ops ms pr p = true
  all : ∀ i, i < ops.size → ∃ x ∈ pl, x.i = i
  self : ∀ x ∈ pl, pre ms x.i x.i = false
  edge : ∀ i o, ops[i]? = some o → ∀ e ∈ o.after.toList, Region.binds .any e = true → pre ms e.on i = true ∧ e.on < ops.size

theorem chkP_sound {ops : Array Oper} {ms : Tr Nat} : ∀ (l acc : List PI), chkP ops ms acc l = true → ∀ pr y suf, l = pr ++ y :: suf → (∀ x, x ∈ acc ∨ x ∈ pr → okPair ops ms x y = true) ∧ ∀ p ∈ y.pend, ∀ x, x ∈ acc ∨ x ∈ pr → (Nat.beq (Nat.land (wMask x.o) (rMask ops p.2)) 0 || pre ms x.i p.1) = true
  | [], acc, h, pr, y, suf, e => absurd e (by simp)
  | z :: l, acc, h, pr, y, suf, e => by
    unfold chkP at h
    simp only [Bool.and_eq_true] at h
    obtain ⟨⟨⟨h1, h2⟩, _⟩, h3⟩ := h
    cases pr with
    | nil =>
      simp only [List.nil_append, List.cons.injEq] at e
      obtain ⟨rfl, rfl⟩ := e
      refine ⟨fun x hx => ?_, fun p hp x hx => ?_⟩
      · rcases hx with hx | hx
        · exact List.all_eq_true.1 h1 x hx
        · exact absurd hx (by simp)
      · rcases hx with hx | hx
        · exact List.all_eq_true.1 (List.all_eq_true.1 h2 p hp) x hx
        · exact absurd hx (by simp)
    | cons u pr =>
      simp only [List.cons_append, List.cons.injEq] at e
      obtain ⟨rfl, rfl⟩ := e
      obtain ⟨g1, g2⟩ := chkP_sound _ (z :: acc) h3 pr y suf rfl
      have key : ∀ x, x ∈ acc ∨ x ∈ z :: pr → x ∈ z :: acc ∨ x ∈ pr := by
        intro x hx
        rcases hx with hx | hx
        · exact .inl (by simp [hx])
        · rcases List.mem_cons.1 hx with e | e
          · subst e; exact .inl (by simp)
          · exact .inr e
      exact ⟨fun x hx => g1 x (key x hx), fun p hp x hx => g2 p hp x (key x hx)⟩

theorem chkP_self {ops : Array Oper} {ms : Tr Nat} : ∀ (l acc : List PI), chkP ops ms acc l = true → ∀ x ∈ l, pre ms x.i x.i = false
  | [], acc, h, x, hx => absurd hx (by simp)
  | z :: l, acc, h, x, hx => by
    unfold chkP at h
    simp only [Bool.and_eq_true, Bool.not_eq_true'] at h
    obtain ⟨⟨⟨h1, h2⟩, h4⟩, h3⟩ := h
    rcases List.mem_cons.1 hx with e | e
    · subst e; exact h4
    · exact chkP_self l _ h3 x e
theorem pickP_mem {ms : Tr Nat} {done : Nat} {b : Bool} : ∀ {l : List (Nat × Oper)} {q : (Nat × Oper) × List (Nat × Oper)}, pickP ms done b l = some q → q.1 ∈ l ∧ ∀ x ∈ q.2, x ∈ l
  | [], q, h => by cases h
  | x :: t, q, h => by
    unfold pickP at h
    split at h
    · cases h; exact ⟨by simp, fun y hy => by simp [hy]⟩
    · cases hp : pickP ms done b t with
      | none => rw [hp] at h; cases h
      | some q' =>
        rw [hp] at h
        cases h
        obtain ⟨h1, h2⟩ := pickP_mem hp
        refine ⟨by simp [h1], fun y hy => ?_⟩
        rcases List.mem_cons.1 hy with e | e
        · simp [e]
        · simp [h2 y e]
theorem planGo_mem {ms : Tr Nat} {ops : Array Oper} : ∀ (n done : Nat) (rem : List (Nat × Oper)) (acc : List PI),
    (∀ p ∈ rem, ops[p.1]? = some p.2) → (∀ x ∈ acc, ops[x.i]? = some x.o ∧ x.eff = isEff x.o ∧ (∀ p ∈ x.pend, ops[p.1]? = some p.2) ∧ (x.eff = false → x.pend = [])) →
    ∀ x ∈ planGo ms n done rem acc, ops[x.i]? = some x.o ∧ x.eff = isEff x.o ∧ (∀ p ∈ x.pend, ops[p.1]? = some p.2) ∧ (x.eff = false → x.pend = [])
  | 0, done, rem, acc, hr, ha, x, hx => ha x (by unfold planGo at hx; simpa using hx)
  | n + 1, done, rem, acc, hr, ha, x, hx => by
    unfold planGo at hx
    have pk : ∀ q, (match pickP ms done false rem with | some q => some q | none => pickP ms done true rem) = some q → q.1 ∈ rem ∧ ∀ x ∈ q.2, x ∈ rem := by
      intro q hq
      split at hq
      · rename_i q' hq'; cases hq; exact pickP_mem hq'
      · exact pickP_mem hq
    split at hx
    · exact ha x (by simpa using hx)
    · rename_i y rest hq
      obtain ⟨h1, h2⟩ := pk _ hq
      refine planGo_mem n _ rest _ (fun p hp => hr p (h2 p hp)) ?_ x hx
      intro z hz
      rcases List.mem_cons.1 hz with e | e
      · subst e
        refine ⟨hr _ h1, rfl, ?_, ?_⟩
        · intro p hp
          simp only at hp
          split at hp
          · unfold pendOf at hp
            rw [List.mem_map] at hp
            obtain ⟨u, hu, rfl⟩ := hp
            exact (ha u (List.mem_filter.1 hu).1).1
          · exact absurd hp (by simp)
        · intro he
          simp only at he ⊢
          rw [he]; rfl
      · exact ha z e
theorem planOf_good {ops : Array Oper} {pl : List PI} (h : planOf ops = some pl) : Good ops (preM ops.toList 0 .leaf) pl := by
  unfold planOf at h
  simp only at h
  split at h
  · rename_i hc
    cases h
    simp only [Bool.and_eq_true] at hc
    obtain ⟨⟨h1, h2⟩, h3⟩ := hc
    have hm := planGo_mem (ms := preM ops.toList 0 .leaf) (ops := ops) ops.size 0 (ops.toList.zipIdx.map fun x => (x.2, x.1)) [] (by
      intro p hp
      rw [List.mem_map] at hp
      obtain ⟨q, hq, rfl⟩ := hp
      have := List.mem_zipIdx hq
      obtain ⟨g1, g2, g3⟩ := this
      simp at g2 g3
      simp [g3, Array.getElem?_eq_getElem g2]) (by simp)
    refine ⟨fun x hx => ⟨(hm x hx).1, (hm x hx).2.1⟩, fun x hx => (hm x hx).2.2.1, fun x hx => (hm x hx).2.2.2, ?_, ?_, chkP_self _ [] h1, ?_⟩
    · intro pr y suf e
      obtain ⟨g1, g2⟩ := chkP_sound _ [] h1 pr y suf e
      exact ⟨fun x hx => g1 x (.inr hx), fun p hp => List.all_eq_true.2 (fun x hx => g2 p hp x (.inr hx))⟩
    · intro i hi
      have := List.all_eq_true.1 h2 i (List.mem_range.2 hi)
      rw [List.any_eq_true] at this
      obtain ⟨x, hx, e⟩ := this
      exact ⟨x, hx, Nat.eq_of_beq_eq_true e⟩
    · intro i o ho e he hb
      unfold edgeOK at h3
      have hi : i < ops.size := (Array.getElem?_eq_some_iff.1 ho).1
      have := List.all_eq_true.1 h3 i (List.mem_range.2 hi)
      rw [ho] at this
      have := List.all_eq_true.1 this e he
      rw [hb] at this
      simp only [Bool.not_true, Bool.false_or, Bool.and_eq_true] at this
      exact ⟨this.1, natLt_iff.1 this.2⟩
  · cases h
end Go.Ev
