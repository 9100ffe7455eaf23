/- What a slice of ints, and one of arcs, that lie in memory are told as. -/
import Derived.Test.YtpbjekedjbjeeaaGreatDoorSyE9
import Derived.WalkKit
import Derived.ProofKit
import Derived.ChangeSlices
namespace Go.Sy
open Go.RowKit Go.Proofs Go.ChangeShapes Go.WideShapes
set_option linter.unusedVariables false
set_option linter.unusedSimpArgs false
/-- Cells, whatever the memory. -/
def LTold (a : AV) (zs : List Value) : Prop := ∀ μ, VRL μ a zs
theorem vrl_cat {μ : Mu} : ∀ {l : List AV} {t : AV} {xs ys : List Value}, VRL μ (catL l .nil) xs → VRL μ t ys → VRL μ (catL l t) (xs ++ ys)
  | [], t, xs, ys, h, k => by
    obtain rfl : xs = [] := h
    exact k
  | a :: l, t, xs, ys, h, k => by
    obtain ⟨v, r, rfl, h1, h2⟩ := h
    exact ⟨v, r ++ ys, rfl, h1, vrl_cat h2 k⟩
section
attribute [local instance] tb0
theorem told_list {α : Type} (E : Enc α) (f : Nat → α) (g : Nat → List Value) : ∀ (idx : List Nat), (∀ i ∈ idx, LTold (E.c (f i) .nil) (g i)) → LTold (E.l (idx.map f)) (idx.flatMap g)
  | [], _, μ => rfl
  | i :: idx, h, μ => vrl_cat (h i (by simp) μ) (told_list E f g idx (fun j hj => h j (by simp [hj])) μ)
end
theorem flat_at (g : Nat → List Value) (m : Nat) (hg : ∀ i, (g i).length = m) : ∀ (n j : Nat) (z : Value), ((List.range n).flatMap g)[j]? = some z → ∃ i k, i < n ∧ k < m ∧ j = i * m + k ∧ (g i)[k]? = some z
  | 0, j, z, h => by simp at h
  | n + 1, j, z, h => by
    rw [List.range_succ, List.flatMap_append] at h
    have hl : ∀ n, ((List.range n).flatMap g).length = n * m := fun n => by
      induction n with
      | zero => simp
      | succ n ih => rw [List.range_succ, List.flatMap_append, List.length_append, ih]; simp [hg, Nat.add_mul]
    by_cases hj : j < n * m
    · rw [List.getElem?_append_left (by rw [hl]; exact hj)] at h
      obtain ⟨i, k, h1, h2, h3, h4⟩ := flat_at g m hg n j z h
      exact ⟨i, k, by omega, h2, h3, h4⟩
    · rw [List.getElem?_append_right (by rw [hl]; omega), hl] at h
      have h' : (g n)[j - n * m]? = some z := by simpa using h
      have hk := (List.getElem?_eq_some_iff.1 h').1
      rw [hg] at hk
      exact ⟨n, j - n * m, by omega, hk, by omega, h'⟩
/-- A slice that lies in memory, and what it is told as. -/
def SlTold (W : World) (v : Value) (n : Nat) (a : AV) : Prop :=
  (v = .slice none 0 0 ∧ n = 0 ∧ a = .nil) ∨ ∃ (b o c : Nat) (zs : List Value), v = .slice (some ⟨b, o, none⟩) n c ∧ n ≤ c ∧ LTold a zs ∧ ∀ j z, zs[j]? = some z → W.cell? ⟨b, o + j, none⟩ = some z
section
variable {P : Program} {H : Type} {enc : TypeId × Value → H} {W : World} {t e : TypeId} {v : Value} {d : DataW H} {p : List MemPlace}
/-- A slice's elements, each of so many cells. -/
theorem sl_told {α : Type} (E : Enc α) (m : Nat) (ht : P.underlying t = some (.slice e)) (hc : P.cellsOf e = m)
    (hel : ∀ (fuel : Nat) (cs : List Value) (x : DataW H × List MemPlace), DataW.trod enc P W 0 (fun _ => true) true fuel e cs = some x → ∃ y : α, LTold (E.c y .nil) cs)
    (hval : Value.okWide P W .any 0 t v) (h : DataW.Trod enc P W 0 (fun _ => true) true t v d p) : ∃ l : List α, SlTold W v l.length (E.l l) := by
  unfold Value.okWide at hval
  rw [ht] at hval
  have hval : Cell.okWide P W .any 0 t v := hval
  unfold Cell.okWide at hval
  rw [ht] at hval
  have hval : Cell.ok P W .any 0 t v := by
    cases v <;> exact hval
  obtain ⟨fuel, hf⟩ := h
  cases v with
  | slice a0 len cap =>
    rcases DataW.trod_slice ht hf with ⟨hcs, hx⟩ | ⟨a, len', cap', elems, rest, n, _, hcs, _, _, hl, _, hlen, hels, _, _⟩
    · simp [Value.cells] at hcs
      obtain ⟨rfl, rfl, rfl⟩ := hcs
      exact ⟨[], .inl ⟨rfl, rfl, rfl⟩⟩
    · simp [Value.cells] at hcs
      obtain ⟨rfl, rfl, rfl⟩ := hcs
      unfold Cell.ok at hval
      rw [ht] at hval
      obtain ⟨_, _, _, hspot, _⟩ := hval
      obtain ⟨b, off, spot⟩ := a
      have hspot : spot = none := hspot
      subst hspot
      rcases Nat.eq_zero_or_pos len with rfl | hp
      · exact ⟨[], .inr ⟨b, off, cap, [], rfl, hl, fun μ => rfl, fun j z hz => by simp at hz⟩⟩
      have one : ∀ i, i < len → ∃ (y : α) (cs : List Value), cs.length = m ∧ LTold (E.c y .nil) cs ∧ ∀ k z, cs[k]? = some z → W.cell? ⟨b, off + i * m + k, none⟩ = some z := fun i hi => by
        have h1 := hels i hi
        rw [List.getElem?_eq_getElem (by omega), hc, Option.bind_eq_some_iff] at h1
        obtain ⟨cs, h2, h3⟩ := h1
        obtain ⟨y, hy⟩ := hel n cs _ h3
        obtain ⟨_, h4, h5⟩ := World.cells?_some h2
        refine ⟨y, cs, h4, hy, fun k z hz => ?_⟩
        have hk := (List.getElem?_eq_some_iff.1 hz).1
        have := h5 k (by omega)
        rw [add_plain, add_plain, hz] at this
        exact this
      have key : ∀ i, ∃ (y : α) (cs : List Value), cs.length = m ∧ LTold (E.c y .nil) cs ∧ (i < len → ∀ k z, cs[k]? = some z → W.cell? ⟨b, off + i * m + k, none⟩ = some z) := fun i => by
        by_cases hi : i < len
        · obtain ⟨y, cs, h1, h2, h3⟩ := one i hi
          exact ⟨y, cs, h1, h2, fun _ => h3⟩
        · obtain ⟨y, cs, h1, h2, _⟩ := one 0 hp
          exact ⟨y, cs, h1, h2, fun h => absurd h hi⟩
      obtain ⟨f, hf⟩ := Classical.axiomOfChoice key
      obtain ⟨g, hg⟩ := Classical.axiomOfChoice hf
      refine ⟨(List.range len).map f, .inr ⟨b, off, cap, (List.range len).flatMap g, by simp, by simpa using hl, told_list E f g _ (fun i _ => (hg i).2.1), fun j z hz => ?_⟩⟩
      obtain ⟨i, k, h1, h2, h3, h4⟩ := flat_at g m (fun i => (hg i).1) len j z hz
      have := (hg i).2.2 h1 k z h4
      rw [h3, ← Nat.add_assoc]
      exact this
  | _ => exact (by unfold Cell.ok at hval; rw [ht] at hval; exact hval.elim)
/-- Of ints. -/
theorem ints_told {k : IntKind} (ht : P.underlying t = some (.slice e)) (he : P.underlying e = some (.int k)) (hc : P.cellsOf e = 1) (hval : Value.okWide P W .any 0 t v) (h : DataW.Trod enc P W 0 (fun _ => true) true t v d p) :
    ∃ l : List Int, SlTold W v l.length ((eInt k).l l) := sl_told (eInt k) 1 ht hc (fun fuel cs x hx => by
  obtain ⟨n, rfl, _, _⟩ := DataW.trod_int he hx
  exact ⟨n, fun μ => ⟨_, [], rfl, rfl, rfl⟩⟩) hval h
/-- Of arcs. -/
theorem arcs_told {f0 f1 f2 f3 f4 : Field} {ti ts : TypeId} (ht : P.underlying t = some (.slice e)) (he : P.underlying e = some (.struct #[f0, f1, f2, f3, f4])) (hc : P.cellsOf e = 5)
    (hi : P.underlying ti = some (.int .i64)) (hs : P.underlying ts = some .string) (ci : P.cellsOf ti = 1) (cs' : P.cellsOf ts = 1)
    (o0 : f0.offset = 0 ∧ f0.type = ti) (o1 : f1.offset = 1 ∧ f1.type = ti) (o2 : f2.offset = 2 ∧ f2.type = ti) (o3 : f3.offset = 3 ∧ f3.type = ti) (o4 : f4.offset = 4 ∧ f4.type = ts)
    (hval : Value.okWide P W .any 0 t v) (h : DataW.Trod enc P W 0 (fun _ => true) true t v d p) : ∃ l : List Ar, SlTold W v l.length (eArc.l l) := sl_told eArc 5 ht hc (fun fuel cs x hx => by
  obtain ⟨xs, n, _, _, h1, h2, h3⟩ := DataW.trod_struct he hx
  rw [hc] at h1
  have h2 : xs.length = 5 := h2
  obtain ⟨c0, c1, c2, c3, c4, rfl⟩ : ∃ c0 c1 c2 c3 c4, cs = [c0, c1, c2, c3, c4] := by
    match cs, h1 with
    | [c0, c1, c2, c3, c4], _ => exact ⟨c0, c1, c2, c3, c4, rfl⟩
  have g0 := h3 0 f0 rfl
  have g1 := h3 1 f1 rfl
  have g2 := h3 2 f2 rfl
  have g3 := h3 3 f3 rfl
  have g4 := h3 4 f4 rfl
  rw [List.getElem?_eq_getElem (by omega)] at g0 g1 g2 g3 g4
  rw [o0.1, o0.2, ci] at g0
  rw [o1.1, o1.2, ci] at g1
  rw [o2.1, o2.2, ci] at g2
  rw [o3.1, o3.2, ci] at g3
  rw [o4.1, o4.2, cs'] at g4
  obtain ⟨n0, e0, _, _⟩ := DataW.trod_int hi g0
  obtain ⟨n1, e1, _, _⟩ := DataW.trod_int hi g1
  obtain ⟨n2, e2, _, _⟩ := DataW.trod_int hi g2
  obtain ⟨n3, e3, _, _⟩ := DataW.trod_int hi g3
  obtain ⟨b4, e4, _, _⟩ := DataW.trod_string hs g4
  obtain rfl : c0 = .int .i64 n0 := by injection e0
  obtain rfl : c1 = .int .i64 n1 := by injection e1
  obtain rfl : c2 = .int .i64 n2 := by injection e2
  obtain rfl : c3 = .int .i64 n3 := by injection e3
  obtain rfl : c4 = .string b4 := by injection e4
  exact ⟨(((n0, n1), (n2, n3)), b4.data.toList.map UInt8.toNat), fun μ => ⟨_, _, rfl, rfl, _, _, rfl, rfl, _, _, rfl, rfl, _, _, rfl, rfl, _, [], rfl, ⟨_, rfl, rfl⟩, rfl⟩⟩) hval h
end
end Go.Sy
