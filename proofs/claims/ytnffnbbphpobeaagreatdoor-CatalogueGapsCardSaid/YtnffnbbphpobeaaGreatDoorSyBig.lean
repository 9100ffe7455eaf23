/- Contracts of functions of plain values. -/
import Derived.Test.YtnffnbbphpobeaaGreatDoorSyNum
namespace Go.Sy
open Go.RowKit
set_option linter.unusedVariables false
set_option linter.unusedSectionVars false
variable [Tabs] {P : Program}
theorem pairwise_of {l : List (Cn P)} (h : (l.map Cn.f).Nodup) : l.Pairwise (fun c d => c.f ≠ d.f) := by
  induction l with
  | nil => exact .nil
  | cons c l ih =>
    simp only [List.map_cons, List.nodup_cons] at h
    refine List.pairwise_cons.2 ⟨fun d hd e => h.1 ?_, ih h.2⟩
    rw [e]
    exact List.mem_map.2 ⟨d, hd, rfl⟩
/-- A call whose contract is known. -/
theorem callT_go {l : List (Cn P)} (hl : (l.map Cn.f).Nodup) (i : Nat) {c : Cn P} (hc : l[i]? = some c) (a : c.α) (hok : c.ok a) {as : AV} {h : Heap} (hbor : BorOK h as) (has : c.as a = borV c.flat h as) {K : AV → Heap → Prop}
    (hk : K (c.v a) (match c.flat with | true => h | false => frz h (lent as))) : ∃ v h', callT l (.fn c.f) as h = .ret v h' ∧ K v h' := by
  refine ⟨_, _, callT_mem (pairwise_of hl) (List.mem_of_getElem? hc) (v := c.v a) (h' := if c.flat then h else frz h (lent as)) ⟨rfl, hbor, ⟨a, hok, has, rfl⟩, rfl⟩, ?_⟩
  cases hf : c.flat with
  | true => rw [hf] at hk; simpa using hk
  | false => rw [hf] at hk; simpa using hk
/-- No cell of a value leads to memory. -/
def flatC : AV → Bool
  | .bool _ => true
  | .int _ _ => true
  | .str _ => true
  | .nilp => true
  | .nili => true
  | .nilf => true
  | .nils => true
  | _ => false
theorem flatC_sound {a : AV} (h : flatC a = true) : FlatV a := by
  intro μ μ' cv hv
  cases a <;> first | exact hv | cases h
theorem flat_list : ∀ {l : List AV}, (∀ a ∈ l, flatC a = true) → ∀ (μ μ' : Mu) (xs : List Value), VRL μ (catL l .nil) xs → VRL μ' (catL l .nil) xs
  | [], _, _, _, _, h => h
  | a :: l, hl, μ, μ', xs, h => by
    obtain ⟨v, r, e, h1, h2⟩ := h
    exact ⟨v, r, e, flatC_sound (hl a (by simp)) μ μ' v h1, flat_list (fun b hb => hl b (by simp [hb])) μ μ' r h2⟩
theorem Enc.flatV {α : Type} (E : Enc α) (x : α) (h : ∀ a ∈ E.cs x, flatC a = true) : FlatV (E.v x) := by
  unfold Enc.v
  split
  · intro μ μ' cv hv
    obtain ⟨c, e, h1⟩ := hv
    exact ⟨c, e, flat_list h μ μ' _ h1⟩
  · split
    · rename_i a l he; exact flatC_sound (h a (by rw [he]; simp))
    · rename_i he; exact absurd he (E.ne_nil x)
section
variable {α β γ ρ : Type}
/-- Of no argument. -/
def Cn.of0 (R : Enc ρ) (f : FuncId) (y : ρ) (pf : PF P f .nil (R.v y)) (bd : ∃ fn, P.funcs[f]? = some fn ∧ fn.body.isSome = true) : Cn P where
  f := f
  flat := false
  α := Unit
  as := fun _ => .nil
  v := fun _ => R.v y
  ok := fun _ => True
  inj := fun _ _ _ _ _ => rfl
  dp := fun _ => trivial
  pv := fun _ => R.pureV _
  fl := fun h => by cases h
  pf := fun _ _ => pf
  bd := bd
/-- Of one argument. -/
def Cn.of1 (A : Enc α) (R : Enc ρ) (f : FuncId) (flat : Bool) (ok : α → Prop) (g : α → ρ) (fl : flat = true → ∀ y, ∀ a ∈ R.cs y, flatC a = true) (pf : ∀ a, ok a → PF P f (.cons (A.v a) .nil) (R.v (g a))) (bd : ∃ fn, P.funcs[f]? = some fn ∧ fn.body.isSome = true) : Cn P where
  f := f
  flat := flat
  α := α
  as := fun a => .cons (A.v a) .nil
  v := fun a => R.v (g a)
  ok := ok
  inj := fun a b _ _ h => by injection h with h1 _; rw [A.v_inj h1]
  dp := fun a => ⟨A.dpV a, trivial⟩
  pv := fun a => R.pureV _
  fl := fun h a => R.flatV _ (fl h _)
  pf := pf
  bd := bd
def Cn.of2 (A : Enc α) (B : Enc β) (R : Enc ρ) (f : FuncId) (flat : Bool) (ok : α → β → Prop) (g : α → β → ρ) (fl : flat = true → ∀ y, ∀ a ∈ R.cs y, flatC a = true) (pf : ∀ a b, ok a b → PF P f (.cons (A.v a) (.cons (B.v b) .nil)) (R.v (g a b))) (bd : ∃ fn, P.funcs[f]? = some fn ∧ fn.body.isSome = true) : Cn P where
  f := f
  flat := flat
  α := α × β
  as := fun a => .cons (A.v a.1) (.cons (B.v a.2) .nil)
  v := fun a => R.v (g a.1 a.2)
  ok := fun a => ok a.1 a.2
  inj := fun a b _ _ h => by injection h with h1 h; injection h with h2 _; rw [A.v_inj h1, B.v_inj h2]
  dp := fun a => ⟨A.dpV _, B.dpV _, trivial⟩
  pv := fun a => R.pureV _
  fl := fun h a => R.flatV _ (fl h _)
  pf := fun a h => pf _ _ h
  bd := bd
/-- Of two arguments, with two results. -/
def Cn.of2t {σ : Type} (A : Enc α) (B : Enc β) (R : Enc ρ) (S : Enc σ) (f : FuncId) (ok : α → β → Prop) (g : α → β → ρ) (k : α → β → σ) (pf : ∀ a b, ok a b → PF P f (.cons (A.v a) (.cons (B.v b) .nil)) (.tup (.cons (R.v (g a b)) (.cons (S.v (k a b)) .nil)))) (bd : ∃ fn, P.funcs[f]? = some fn ∧ fn.body.isSome = true) : Cn P where
  f := f
  flat := false
  α := α × β
  as := fun a => .cons (A.v a.1) (.cons (B.v a.2) .nil)
  v := fun a => .tup (.cons (R.v (g a.1 a.2)) (.cons (S.v (k a.1 a.2)) .nil))
  ok := fun a => ok a.1 a.2
  inj := fun a b _ _ h => by injection h with h1 h; injection h with h2 _; rw [A.v_inj h1, B.v_inj h2]
  dp := fun a => ⟨A.dpV _, B.dpV _, trivial⟩
  pv := fun a => .tup (.cons (R.pureV _) (.cons (S.pureV _) .nil))
  fl := fun h => by cases h
  pf := fun a h => pf _ _ h
  bd := bd
/-- With three. -/
def Cn.of2t3 {σ τ : Type} (A : Enc α) (B : Enc β) (R : Enc ρ) (S : Enc σ) (T : Enc τ) (f : FuncId) (ok : α → β → Prop) (g : α → β → ρ) (k : α → β → σ) (m : α → β → τ) (pf : ∀ a b, ok a b → PF P f (.cons (A.v a) (.cons (B.v b) .nil)) (.tup (.cons (R.v (g a b)) (.cons (S.v (k a b)) (.cons (T.v (m a b)) .nil))))) (bd : ∃ fn, P.funcs[f]? = some fn ∧ fn.body.isSome = true) : Cn P where
  f := f
  flat := false
  α := α × β
  as := fun a => .cons (A.v a.1) (.cons (B.v a.2) .nil)
  v := fun a => .tup (.cons (R.v (g a.1 a.2)) (.cons (S.v (k a.1 a.2)) (.cons (T.v (m a.1 a.2)) .nil)))
  ok := fun a => ok a.1 a.2
  inj := fun a b _ _ h => by injection h with h1 h; injection h with h2 _; rw [A.v_inj h1, B.v_inj h2]
  dp := fun a => ⟨A.dpV _, B.dpV _, trivial⟩
  pv := fun a => .tup (.cons (R.pureV _) (.cons (S.pureV _) (.cons (T.pureV _) .nil)))
  fl := fun h => by cases h
  pf := fun a h => pf _ _ h
  bd := bd
end
end Go.Sy
/- Magnitudes and integers of any size, and what is reckoned digit by digit. -/
namespace Go.Sy
set_option linter.unusedVariables false
set_option linter.unusedSectionVars false
attribute [local instance] tb0
theorem dgN_getElem : ∀ {n v i : Nat} (h : i < (dgN n v).length), (dgN n v)[i] = ((v / 4294967296 ^ i % 4294967296 : Nat) : Int)
  | 0, v, i, h => by simp [dgN] at h
  | n + 1, v, 0, h => by simp [dgN]
  | n + 1, v, i + 1, h => by
    simp only [dgN, List.getElem_cons_succ]
    rw [dgN_getElem, Nat.pow_succ, Nat.mul_comm _ 4294967296, Nat.div_div_eq_div_mul]
theorem dg_getElem {v i : Nat} (h : i < (dg v).length) : (dg v)[i] = ((v / 4294967296 ^ i % 4294967296 : Nat) : Int) := dgN_getElem h
theorem val_take_dgN : ∀ (n v i : Nat), i ≤ n → val ((dgN n v).take i) = v % 4294967296 ^ i
  | n, v, 0, _ => by simp [val, Nat.mod_one]
  | 0, v, i + 1, h => by omega
  | n + 1, v, i + 1, h => by
    simp only [dgN, List.take_succ_cons, val]
    rw [val_take_dgN n _ i (by omega), show (((v % 4294967296 : Nat) : Int)).toNat = v % 4294967296 from rfl, Nat.pow_succ, Nat.mul_comm _ 4294967296, Nat.mod_mul]
theorem val_take_succ {l : List Int} {i : Nat} (h : i < l.length) : val (l.take (i + 1)) = val (l.take i) + 4294967296 ^ i * l[i].toNat := by
  rw [List.take_succ_eq_append_getElem h, val_append, List.length_take_of_le (by omega)]
  simp [val]
theorem val_snoc (l : List Int) (x : Int) : val (l ++ [x]) = val l + 4294967296 ^ l.length * x.toNat := by
  rw [val_append]; simp [val]
theorem DG.append {l m : List Int} : DG (l ++ m) ↔ DG l ∧ DG m := by
  unfold DG; simp only [List.mem_append]
  exact ⟨fun h => ⟨fun x hx => h x (.inl hx), fun x hx => h x (.inr hx)⟩, fun h x hx => hx.elim (h.1 x) (h.2 x)⟩
theorem DG.get {l : List Int} (h : DG l) {i : Nat} (hi : i < l.length) : 0 ≤ l[i] ∧ l[i] < 4294967296 := h _ (List.getElem_mem hi)
theorem DG.set {l : List Int} (h : DG l) (i : Nat) {x : Int} (h1 : 0 ≤ x) (h2 : x < 4294967296) : DG (l.set i x) := fun y hy => by
  rcases List.mem_or_eq_of_mem_set hy with e | e
  · exact h y e
  · exact e ▸ ⟨h1, h2⟩
theorem DG.take {l : List Int} (h : DG l) (i : Nat) : DG (l.take i) := fun y hy => h y (List.mem_of_mem_take hy)
theorem val_set : ∀ {l : List Int} {i : Nat} (hi : i < l.length) (x : Int), val (l.set i x) + 4294967296 ^ i * l[i].toNat = val l + 4294967296 ^ i * x.toNat
  | y :: l, 0, hi, x => by simp [val]; omega
  | y :: l, i + 1, hi, x => by
    have := val_set (l := l) (i := i) (by simpa using hi) x
    simp only [List.set_cons_succ, val, List.getElem_cons_succ, Nat.pow_succ]
    have e1 : ∀ n : Nat, 4294967296 ^ i * 4294967296 * n = 4294967296 * (4294967296 ^ i * n) := fun n => by rw [Nat.mul_comm (4294967296 ^ i), Nat.mul_assoc]
    rw [e1, e1]
    omega
theorem val_zeros : ∀ n, val (List.replicate n (0 : Int)) = 0
  | 0 => rfl
  | n + 1 => by simp [List.replicate_succ, val, val_zeros n]
/-- A list whose end is zeros: the next one is set. -/
theorem set_zeros {p : List Int} {n : Nat} {x : Int} (h : 0 < n) : (p ++ List.replicate n (0 : Int)).set p.length x = (p ++ [x]) ++ List.replicate (n - 1) 0 := by
  obtain ⟨m, rfl⟩ : ∃ m, n = m + 1 := ⟨n - 1, by omega⟩
  rw [List.set_append_right _ _ (by omega)]
  simp [List.replicate_succ]
/-- Digits up to a place, all zeros behind it. -/
theorem val_of_tail {l : List Int} {k : Nat} (h : ∀ j (hj : j < l.length), k ≤ j → l[j] = 0) : val l = val (l.take k) := by
  conv => lhs; rw [← List.take_append_drop k l]
  rw [val_append]
  have : l.drop k = List.replicate (l.drop k).length 0 := by
    apply List.eq_replicate_of_mem
    intro b hb
    obtain ⟨j, hj, rfl⟩ := List.mem_iff_getElem.1 hb
    rw [List.getElem_drop]
    exact h _ _ (by omega)
  rw [this, val_zeros]
  simp
/-! ### Encodings -/
/-- Digits of a magnitude. -/
def eDig : Enc (List Int) := (eInt .u32).list
/-- A magnitude. -/
def eMag : Enc Nat := eDig.by dg (fun _ _ h => dg_inj h)
theorem sgn_inj : ∀ x y : Int, (decide (x < 0), x.natAbs) = (decide (y < 0), y.natAbs) → x = y := by
  intro x y h
  injection h with h1 h2
  have h1 : (x < 0) = (y < 0) := by simpa using h1
  by_cases hx : x < 0
  · have hy : y < 0 := h1 ▸ hx
    omega
  · have hy : ¬ y < 0 := h1 ▸ hx
    omega
/-- An integer. -/
def eBig : Enc Int := (eBool.pair eMag).by (fun x => (decide (x < 0), x.natAbs)) sgn_inj
/-- An integer by its sign and its magnitude. -/
def sgn (neg : Bool) (m : Nat) : Int := match neg with | true => -m | false => m
/-- Of a size that fits into memory. -/
def Small (v : Nat) : Prop := v < 4294967296 ^ 134217728
theorem Small.nd {v : Nat} (h : Small v) : nd v ≤ 134217728 := nd_le h
end Go.Sy
