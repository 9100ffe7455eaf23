/- BlockingNil: what the law does, for whatever slice of ints and whatever int. -/
import Derived.Test.YtpobfongnlbcpaaGreatDoorStO5
namespace Go.Sy
open Go.RowKit Go.Proofs
set_option linter.unusedVariables false
set_option maxRecDepth 1000000
set_option maxHeartbeats 0
noncomputable def undefs (n : Nat) : AV := Nat.rec .nil (fun _ t => .cons .undef t) n
theorem undefs_ok {μ : Mu} : ∀ {n : Nat} {xs : List Value}, xs.length = n → VRL μ (undefs n) xs
  | 0, [], _ => rfl
  | n + 1, x :: xs, h => ⟨x, xs, rfl, ⟨x, rfl⟩, undefs_ok (by simpa using h)⟩
  | 0, _ :: _, h => by simp at h
  | _ + 1, [], h => by simp at h
/-- A slice of so many elements, of which nothing is known, and an int. -/
noncomputable def argsN (n : Nat) : AV := .cons (.ro n (undefs n)) (.cons .undef .nil)
noncomputable def chk (n : Nat) : Bool := (callO Tryz.prog stov6 1000 40 (.fn 3) (argsN n) (startWith Tabs.l 64)).isTrue
theorem chk_low : band (chk 0) (band (chk 1) (band (chk 2) (band (chk 3) (band (chk 4) (band (chk 5) (band (chk 6) (band (chk 7) (band (chk 8) (band (chk 9) (chk 10)))))))))) = true := by decide +kernel
theorem chk_high (m : Nat) : chk (m + 11) = true := by kernel_rfl
theorem chk_all (n : Nat) : chk n = true := by
  rcases Nat.lt_or_ge n 11 with h | h
  · have h0 := chk_low
    have h1 := band_iff.1 h0
    have h2 := band_iff.1 h1.2
    have h3 := band_iff.1 h2.2
    have h4 := band_iff.1 h3.2
    have h5 := band_iff.1 h4.2
    have h6 := band_iff.1 h5.2
    have h7 := band_iff.1 h6.2
    have h8 := band_iff.1 h7.2
    have h9 := band_iff.1 h8.2
    have h10 := band_iff.1 h9.2
    have : n = 0 ∨ n = 1 ∨ n = 2 ∨ n = 3 ∨ n = 4 ∨ n = 5 ∨ n = 6 ∨ n = 7 ∨ n = 8 ∨ n = 9 ∨ n = 10 := by omega
    rcases this with rfl | rfl | rfl | rfl | rfl | rfl | rfl | rfl | rfl | rfl | rfl
    · exact h1.1
    · exact h2.1
    · exact h3.1
    · exact h4.1
    · exact h5.1
    · exact h6.1
    · exact h7.1
    · exact h8.1
    · exact h9.1
    · exact h10.1
    · exact h10.2
  · obtain ⟨m, rfl⟩ : ∃ m, n = m + 11 := ⟨n - 11, by omega⟩
    exact chk_high m
/-- WHAT A RUN SAYS of arguments that lie in memory. -/
theorem run_trueS {P : Program} (hm : P.follows .mixedOrders = true) (hcl : Callable P) {ov : Tgt → AV → Heap → Option CR} (hov : ∀ B0, OvOK P B0 ov) {n fuel : Nat} {f : FuncId} {l : AV} (hrun : (callO P ov fuel n (.fn f) l (startWith Tabs.l 64)).isTrue = true) (hlen : Tabs.l.length ≤ 64)
    {w : World} (ht : TabOK w Tabs.l) {cargs : Array Value} (hargs : VRL (mu0 w (sealBelow w (w.heap.size + 64))) l cargs.toList) : Calls P f cargs w fun e w' => e = .returned (.bool true) ∧ Below w.heap.size w w' := by
  obtain ⟨h', hc⟩ := isTrue_inv hrun
  have h := (callO_sound (B0 := w.heap.size) hm hcl (hov _) fuel n (.fn f) l _ _ h' hc (mu0 w _) w (start_HR hlen (sealBelow_ok w (w.heap.size + 64)) (ht.shut (by omega)))).2 cargs hargs
  exact h.mono fun e w' ⟨cv, μ', he, hv, hp⟩ => by
    have : cv = .bool true := by simpa [VR] using hv
    exact ⟨by rw [he, this], hp.below⟩
def Told (W : World) (v i : Value) : Prop := Calls Tryz.prog 3 #[v, i] W fun e w => e = .returned (.bool true) ∧ Below W.heap.size W w
/-- A slice that lies in memory. -/
def Lies (W : World) (v : Value) : Prop := v = .slice none 0 0 ∨ ∃ (b o n c : Nat) (zs : List Value), v = .slice (some ⟨b, o, none⟩) n c ∧ n ≤ c ∧ zs.length = n ∧ ∀ j z, zs[j]? = some z → W.cell? ⟨b, o + j, none⟩ = some z
theorem told_all {W : World} (ht : TabOK W Tabs.l) {v i : Value} (hv : Lies W v) : Told W v i := by
  have key : ∀ n, VR1 (mu0 W (sealBelow W (W.heap.size + 64))) (.ro n (undefs n)) v → Told W v i := fun n h =>
    run_trueS p_mixed p_callable stov6_ok (chk_all n) (by decide) ht ⟨_, _, rfl, h, _, _, rfl, ⟨_, rfl⟩, rfl⟩
  rcases hv with rfl | ⟨b, o, n, c, zs, rfl, hc, hz, hcell⟩
  · exact key 0 ⟨[], rfl, .inr ⟨rfl, rfl, rfl⟩⟩
  · refine key n ⟨zs, undefs_ok hz, .inl ⟨b, o, c, rfl, hc, ?_⟩⟩
    cases zs with
    | nil => exact .inl rfl
    | cons z zs =>
      have h0 := hcell 0 z rfl
      unfold World.cell? at h0
      split at h0
      · rename_i arr el fz hg
        refine .inr ⟨arr, ?_, fun j x hj => ?_⟩
        · show sealBelow W (W.heap.size + 64) b = some arr
          have hlt := (Array.getElem?_eq_some_iff.1 hg).1
          have hlt : b < W.heap.size := hlt
          unfold sealBelow
          rw [if_pos (by omega)]
          have hg : W.heap[b]? = some (.cells arr el fz) := hg
          rw [hg]
        · have h1 := hcell j x hj
          unfold World.cell? at h1
          have hg : W.heap[b]? = some (.cells arr el fz) := hg
          simp only [hg] at h1
          simpa using h1
      · cases h0
end Go.Sy
