/- CatalogueChecks: the calls known beforehand. -/
import Derived.Test.YtbdhjclehikikaaGreatDoorEvOver
import Derived.Test.YtbdhjclehikikaaGreatDoorShelf
import Derived.Lib.ItoaLen
import Derived.KernelRfl
namespace Go.Ev
open Go.RowKit Go.Proofs Go.Sort
set_option linter.unusedVariables false
set_option maxRecDepth 100000

theorem tryz_mixed : Tryz.prog.follows .mixedOrders = true := by kernel_rfl
theorem tryz_callable : Callable Tryz.prog := callable_of (by kernel_rfl)

/-- The powers of ten. -/
def pow10 : List Int := [1, 10, 100, 1000, 10000, 100000, 1000000, 10000000, 100000000, 1000000000, 10000000000, 100000000000, 1000000000000, 10000000000000, 100000000000000, 1000000000000000, 10000000000000000, 100000000000000000, 1000000000000000000, 10000000000000000000]
theorem pow10_eq : pow10 = Lib.pow10Tab := by decide +kernel
noncomputable def tabs : List (AV × Nat) := [(intsAV .u64 pow10, 20)]

theorem known_true : (callN Tryz.prog 1000 30 (.fn 4) .nil (startWith tabs 64)).isTrue = true := by decide +kernel

/-- The table, as the contracts ask for it. -/
theorem tabIs_of {w : World} (h : TabOK w tabs) : Lib.TabIs Tryz.prog w "internal/strconv.uint64pow10" .u64 Lib.pow10Tab := by
  obtain ⟨c, el, fz, vs, h1, h2, h3, h4, h5⟩ := h 0 _ rfl
  have hg : Tryz.prog.globalNamed "internal/strconv.uint64pow10" = some 0 := by kernel_rfl
  have hvs : vs = pow10.map (Value.int .u64) := by
    have e1 := h4 (fun _ => none)
    have e2 := intsAV_sound .u64 pow10 (fun _ => none)
    exact ints_unique pow10 e1
  unfold Lib.TabIs World.var?
  rw [hg, ← pow10_eq]
  show (match w.heap[0]? with | some (.cells cs _ _) => some cs | _ => none) = _
  rw [h1]
  show some c = _
  congr 1
  apply Array.ext
  · rw [h3]; rfl
  · intro i hi1 hi2
    have hlen : (pow10.map (Value.int .u64))[i]? = some ((pow10.map fun z => Value.int .u64 z).toArray[i]) := by
      rw [← List.getElem?_toArray]; exact Array.getElem?_eq_getElem hi2
    have := h5 i _ (by rw [hvs]; exact hlen)
    rw [Array.getElem?_eq_getElem hi1] at this
    exact Option.some.inj this

noncomputable section
/-- What is known beforehand: 'known' returns true; Itoa of an int that is not known whole returns some text. -/
def chkOv (t : Tgt) (xs : AV) (h : Heap) : Option CR :=
  match t with
  | .fn f => Bool.casesOn (motive := fun _ => Option CR) (Nat.beq f 4)
      (Bool.casesOn (motive := fun _ => Option CR) (Nat.beq f 16) none
        (match xs with
         | .cons (.rng k lo hi) .nil => Bool.casesOn (motive := fun _ => Option CR) (band (band (keq k .i64) (band (decide (-9223372036854775808 ≤ lo)) (decide (hi ≤ 9223372036854775807)))) (tab0In .u64 pow10 h)) none (some (.ret (.ustr 21) h))
         | _ => none))
      (match xs with
       | .nil => Bool.casesOn (motive := fun _ => Option CR) (tab0In .u64 pow10 h) none (some (.ret (.bool true) h))
       | _ => none)
  | .rd _ => none
end

theorem below_grow {w : World} (k : Nat) (os : Array Obj) : Below w.heap.size w (grow (w.drewN k) os) :=
  ⟨rfl, rfl, rfl, by show w.heap.size ≤ (w.heap ++ os).size; simp, fun b hb => by show (w.heap ++ os)[b]? = w.heap[b]?; rw [Array.getElem?_append_left hb]⟩

theorem chkOv_ok (B0 : Nat) : OvOK Tryz.prog B0 chkOv := by
  intro t xs h v h' hc μ w hr
  have hc : (chkOv t xs h).getD .fail = .ret v h' := hc
  cases t with
  | rd id => cases hc
  | fn f =>
    simp only [chkOv] at hc
    cases h4 : Nat.beq f 4 with
    | true =>
      have hf := Nat.eq_of_beq_eq_true h4
      subst hf
      rw [h4] at hc
      cases xs with
      | nil =>
        simp only at hc
        cases ht : tab0In .u64 pow10 h with
        | false => rw [ht] at hc; cases hc
        | true =>
          rw [ht] at hc
          cases hc
          refine ⟨fun cargs => tryz_callable 4 _ cargs w Tryz.func4 (by kernel_rfl), fun cargs hargs => ?_⟩
          have hnil : cargs = #[] := by
            have : cargs.toList = [] := hargs
            simpa using this
          subst hnil
          exact (run_true tryz_mixed tryz_callable known_true (by decide) (tab0_ok hr ht) (cargs := #[]) (fun _ => rfl)).mono fun e w' ⟨he, hb⟩ =>
            ⟨.bool true, μ, he, rfl, Post.same hr hb⟩
      | _ => cases hc
    | false =>
      rw [h4] at hc
      simp only at hc
      cases h16 : Nat.beq f 16 with
      | false => rw [h16] at hc; cases hc
      | true =>
        have hf := Nat.eq_of_beq_eq_true h16
        subst hf
        rw [h16] at hc
        simp only at hc
        split at hc
        · rename_i k lo hi hc0
          cases hb : band (band (keq k .i64) (band (decide (-9223372036854775808 ≤ lo)) (decide (hi ≤ 9223372036854775807)))) (tab0In .u64 pow10 h) with
          | false => rw [hb] at hc; cases hc
          | true =>
            rw [hb] at hc
            cases hc
            obtain ⟨hb, ht⟩ := band_iff.1 hb
            obtain ⟨hk, hb⟩ := band_iff.1 hb
            obtain ⟨hlo, hhi⟩ := band_iff.1 hb
            have hk := keq_iff.1 hk
            subst hk
            have hlo := of_decide_eq_true hlo
            have hhi := of_decide_eq_true hhi
            refine ⟨fun cargs => tryz_callable 16 _ cargs w Tryz.func16 (by kernel_rfl), fun cargs hargs => ?_⟩
            obtain ⟨x, s, hx, ⟨n, hn, hn1, hn2⟩, hs⟩ := hargs
            have hs : s = [] := hs
            subst hs
            have hn : x = .int .i64 n := List.head_eq_of_cons_eq hn
            subst hn
            have hcargs : cargs = #[.int .i64 n] := by
              cases cargs; simp at hx; rw [hx]
            subst hcargs
            exact (Tryz.strconv_Itoa n (by omega) (by omega) w (tabIs_of (tab0_ok hr ht))).mono fun e w' ⟨he, k, os, hw⟩ => by
              subst hw
              refine ⟨_, μ, he, ⟨_, rfl, ?_⟩, Post.same hr (below_grow k os)⟩
              have := Lib.itoa_length_le n (by omega) (by omega)
              simpa [ByteArray.size] using this
        · cases hc

/-- WHAT A RUN OF THE LAW SAYS. -/
theorem chk_run {xs : AV} (hrun : (callO Tryz.prog chkOv 1000 30 (.fn 3) xs (startWith tabs 64)).isTrue = true) {w : World} (ht : TabOK w tabs) {cargs : Array Value} (hargs : ∀ μ, VRL μ xs cargs.toList) :
    Calls Tryz.prog 3 cargs w fun e w' => e = .returned (.bool true) ∧ Below w.heap.size w w' :=
  run_trueO tryz_mixed tryz_callable chkOv_ok hrun (by decide) ht hargs
end Go.Ev
