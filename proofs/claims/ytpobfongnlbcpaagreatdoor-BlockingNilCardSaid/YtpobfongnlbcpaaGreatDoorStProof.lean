/- BlockingNil returns true for whatever slice of ints and whatever int; its tied card. -/
import Derived.Test.YtpobfongnlbcpaaGreatDoorStLaw
import Derived.Test.YtpobfongnlbcpaaGreatDoorStFacts
import Derived.Test.YtpobfongnlbcpaaGreatDoorRows
import Derived.Test.YtpobfongnlbcpaaGreatDoorTie
import Derived.Test.YtpobfongnlbcpaaGreatDoorCards
import Derived.WalkKit
import Derived.ProofKit
import Derived.LaidMore
import Derived.OpenShut
import Derived.Stop.Joined
import Derived.SevenTiedAt
import Derived.Lay
import Derived.Lib.LaidTab
import Derived.Lib.LaidU8
import Derived.ChangeSlices
namespace Go.Proofs.YtpobfongnlbcpaaGreatDoor
open Go.ChangeShapes Go.WideShapes Go.ChangeAt Go.RowKit
set_option linter.unusedVariables false
theorem own : ownKnob Tryz.prog.godebug = none := by kernel_rfl
theorem laidOut : laidOutB Tryz.prog = true := by kernel_rfl
theorem cells3 : Tryz.prog.cellsOf 3 = 1 := by kernel_rfl
/-- A table among the variables, off the row's condition. -/
theorem tab_at {W : World} {nm : String} {g : Nat} {t e : TypeId} {n : Nat} {k : IntKind} {zs : List Int} (hr : Lib.VarReads Tryz.prog W nm (Lib.tabData k zs)) (hg : Tryz.prog.globalNamed nm = some g) (ht : (Tryz.prog.globals[g]?).map (·.type) = some t)
    (hu : Tryz.prog.underlying t = some (.array n e)) (he : Tryz.prog.underlying e = some (.int k)) (hce : Tryz.prog.cellsOf e = 1) (hct : Tryz.prog.cellsOf t = n) :
    ∃ (c : Array Value) (el : TypeId) (fz : Nat × Nat), W.heap[g]? = some (.cells c el fz) ∧ c.toList = zs.map fun z => Value.int k z := by
  obtain ⟨g', t', cs, fuel, p, h1, h2, h3, h4⟩ := hr
  obtain rfl := Option.some.inj (hg.symm.trans h1)
  obtain rfl := Option.some.inj (ht.symm.trans h2)
  have hcs := Lib.cells_of_tab (zs := zs) hu he hce hct h4
  unfold World.var? at h3
  rw [hg] at h3
  have h3 : (match W.heap[g]? with | some (.cells cs _ _) => some cs | _ => none) = some cs := h3
  split at h3
  · rename_i c el fz hc
    cases h3
    exact ⟨_, el, fz, hc, hcs⟩
  · cases h3
theorem tabs_of_laid {W : World} (h : laidMetH Tryz.prog Rows.blockingNilRow.laid W) : Sy.TabOK W (@Sy.Tabs.l Sy.tb1) := by
  rw [MakeChecks.laidMetH_plain _ _ _ (by kernel_rfl)] at h
  have r5 : Lib.VarReads Tryz.prog W "internal/strconv.uint64pow10" (Lib.tabData .u64 Sy.pow10) := Lib.laidMet.reads h (by simp [Rows.blockingNilRow]; first | exact rfl | exact .inl rfl | exact .inr (.inl rfl) | exact .inr (.inr (.inl rfl)) | exact .inr (.inr rfl))
  have r6 : Lib.VarReads Tryz.prog W "math/bits.deBruijn64tab" (Lib.tabData .u8 Sy.deB64) := Lib.laidMet.reads h (by simp [Rows.blockingNilRow]; first | exact rfl | exact .inl rfl | exact .inr (.inl rfl) | exact .inr (.inr (.inl rfl)) | exact .inr (.inr rfl))
  have r7 : Lib.VarReads Tryz.prog W "math/bits.deBruijn32tab" (Lib.tabData .u8 Sy.deB32) := Lib.laidMet.reads h (by simp [Rows.blockingNilRow]; first | exact rfl | exact .inl rfl | exact .inr (.inl rfl) | exact .inr (.inr (.inl rfl)) | exact .inr (.inr rfl))
  obtain ⟨c5, e5, f5, h5, k5⟩ := tab_at (g := 5) r5 (by kernel_rfl) (by kernel_rfl) Tryz.underlying491 Tryz.underlying183 (by kernel_rfl) (by kernel_rfl)
  obtain ⟨c6, e6, f6, h6, k6⟩ := tab_at (g := 6) r6 (by kernel_rfl) (by kernel_rfl) Tryz.underlying498 Tryz.underlying5 (by kernel_rfl) (by kernel_rfl)
  obtain ⟨c7, e7, f7, h7, k7⟩ := tab_at (g := 7) r7 (by kernel_rfl) (by kernel_rfl) Tryz.underlying518 Tryz.underlying5 (by kernel_rfl) (by kernel_rfl)
  have mk : ∀ {g : Nat} {k : IntKind} {zs : List Int} {c : Array Value} {e : TypeId} {f : Nat × Nat}, W.heap[g]? = some (.cells c e f) → (c.toList = zs.map fun z => Value.int k z) → ∃ (c : Array Value) (el : TypeId) (fz : Nat × Nat) (vs : List Value), W.heap[g]? = some (.cells c el fz) ∧ c.size = zs.length ∧ (∀ μ, Sy.VRL μ (Sy.intsAV k zs) vs) ∧ ∀ (k : Nat) (v : Value), vs[k]? = some v → c[k]? = some v := by
    intro g k zs c e f hc hk
    refine ⟨c, e, f, zs.map (Value.int k), hc, by rw [← Array.length_toList, hk]; simp, fun μ => Sy.intsAV_sound k zs μ, fun j v hj => ?_⟩
    have : c.toList[j]? = some v := by rw [hk]; exact hj
    simpa using this
  intro i x hi hu
  rcases i with _ | _ | _ | _ | _ | _ | _ | _ | i
  · cases hi; exact absurd rfl hu
  · cases hi; exact absurd rfl hu
  · cases hi; exact absurd rfl hu
  · cases hi; exact absurd rfl hu
  · cases hi; exact absurd rfl hu
  · cases hi; exact mk h5 k5
  · cases hi; exact mk h6 k6
  · cases hi; exact mk h7 k7
  · cases hi
/-- The slice that is handed over lies in memory. -/
theorem lies {P : Program} (u3 : P.underlying 3 = some (.int .i64)) (c3 : P.cellsOf 3 = 1) {W : World} {t : TypeId} {v : Value} {H : Type} {enc : TypeId × Value → H} {d : DataW H} {p : List MemPlace} (ht : P.underlying t = some (.slice 3)) (hval : Value.okWide P W .any 0 t v) (h : DataW.Trod enc P W 0 (fun _ => true) true t v d p) : Sy.Lies W v := by
  unfold Value.okWide at hval
  rw [ht] at hval
  have hval : Cell.okWide P W .any 0 t v := hval
  unfold Cell.okWide at hval
  rw [ht] at hval
  have hval : Cell.ok P W .any 0 t v := by
    cases v <;> exact hval
  obtain ⟨fuel, hf⟩ := h
  cases v with
  | slice a0 len cap =>
    rcases open_ints ht u3 c3 hf with ⟨hcs, hx⟩ | ⟨a, len', cap', zs, hcs, _, hl, hm, hz, hx, hcell, hwz⟩
    · simp [Value.cells] at hcs
      obtain ⟨rfl, rfl, rfl⟩ := hcs
      exact .inl rfl
    · simp [Value.cells] at hcs
      obtain ⟨rfl, rfl, rfl⟩ := hcs
      unfold Cell.ok at hval
      rw [ht] at hval
      obtain ⟨_, _, _, hspot, _⟩ := hval
      obtain ⟨b, off, spot⟩ := a
      have hspot : spot = none := hspot
      subst hspot
      simp only [if_true] at hz
      refine .inr ⟨b, off, len, cap, (zs.take len).map (Value.int .i64), rfl, hl, by simp; omega, fun j z hj => ?_⟩
      rw [List.getElem?_map, Option.map_eq_some_iff] at hj
      obtain ⟨y, hy, rfl⟩ := hj
      rw [List.getElem?_take] at hy
      split at hy
      · have := hcell j (by omega)
        rw [List.getD_eq_getElem?_getD, hy, add_plain] at this
        exact this
      · cases hy
  | _ => exact (by unfold Cell.ok at hval; rw [ht] at hval; exact hval.elim)

set_option maxRecDepth 100000 in
theorem lifted (os : Os) (started : os.Started) (H : Type) (enc : TypeId × Value → H) :
    ReturnsInHanded {} Tryz.checked os 3 .any (fun w args => (Rows.blockingNilSpec.pre enc Tryz.prog Tryz.f3 [] false w args ∧ laidMetH Tryz.prog Rows.blockingNilRow.laid w) ∧ sizedMet enc Tryz.prog Tryz.f3 (OpenSpec.ofChange Rows.blockingNilSpec) false w args)
      (Rows.blockingNilSpec.post enc Tryz.prog Tryz.f3 false true false false) := by
  refine returnsInHanded_of_change_and (C := Tryz.checked) (X := fun w _ => laidMetH Tryz.prog Rows.blockingNilRow.laid w) (fun _ _ _ hh h => h.of_heap hh) own started (by kernel_rfl) Tryz.func3
    (ChangeSpec.witness_shaped (enc := enc) (C := Tryz.checked) (os := os) (X := fun w _ => laidMetH Tryz.prog Rows.blockingNilRow.laid w) false (World.laidAll Tryz.prog os Rows.blockingNilRow.laid) #[.slice none 0 0, .int .i64 0] 8 (World.laidAll_os _ _ _) (World.shaped_of_ZipB (by kernel_rfl) (by kernel_rfl)) (by kernel_rfl) (by kernel_rfl) (by kernel_rfl)
      (by rw [MakeChecks.laidMetH_plain _ _ _ (by kernel_rfl)]; exact laidMet_laidAll _ (by kernel_rfl) (by kernel_rfl))) ?_
  intro W base args ds gs before hval0 hW _ _ hL _
  have hval : ∀ (j : Nat) t v, Tryz.f3.params[j]? = some t → args[j]? = some v → Value.okWide Tryz.prog W .any base t v := hval0
  have hW' := hW
  obtain ⟨p, q, hA0, hV, rfl, hfz, hnd⟩ := hW
  have hA : DataW.TrodAll enc Tryz.prog W 0 (fun _ => true) true Tryz.f3.params.toList args.toList ds p := hA0
  rw [Tryz.params3] at hA hval
  obtain ⟨v0, vs0, d0, ds0, p0, q0, hargs, rfl, rfl, h0, r0⟩ := trodAll_cons hA
  obtain ⟨v1, vs1, d1, ds1, p1, q1, rfl, rfl, rfl, h1, r1⟩ := trodAll_cons r0
  obtain ⟨rfl, rfl, rfl⟩ := trodAll_nil r1
  obtain rfl : args = #[v0, v1] := by cases args; simp_all
  obtain ⟨rfl, rfl⟩ := trodVars_none hV
  have hlies := lies Tryz.underlying3 cells3 Tryz.underlying22 (hval 0 22 v0 rfl rfl) h0
  obtain ⟨a1, rfl, rfl, rfl, w1⟩ := open_int Tryz.underlying3 (hval 1 3 v1 rfl rfl) h1
  clear hA0 hval0
  simp only [List.append_nil] at hW'
  have hlt : ∀ x ∈ p0, x.block < W.heap.size := fun x hx => by
    have := hW'.lt x (by simpa using hx)
    simpa using this
  refine (Sy.told_all (tabs_of_laid hL) hlies).mono fun e W' ⟨he, hb⟩ => ?_
  subst he
  have h0' := Below.trod laidOut (by kernel_rfl) (of_decide_eq_true (by kernel_rfl)) h0 hb hlt
  exact ⟨_, rfl, ⟨_, _, _, [], _, [], hW', trodAll_cons_mk (shut_bool Tryz.underlying4 _) trodAll_mk0, trodAll_cons_mk h0' (trodAll_cons_mk (shut_int Tryz.underlying3 w1) trodAll_mk0), rfl, hb.frame _, fun h => by cases h⟩⟩

theorem over : Rows.BlockingNilSaid :=
  OpenClaim.holds_of_wide 3 Tryz.f3 rfl rfl rfl rfl rfl rfl rfl ⟨rfl, rfl, rfl, rfl, rfl⟩ rfl rfl rfl rfl rfl (by kernel_rfl) Tryz.func3 joined1
    (of_decide_eq_true (by kernel_rfl)) (by unfold Func.isWrapper; first | (rw [if_pos (by decide +kernel)]; kernel_rfl) | (rw [if_neg (by decide +kernel)]; exact ⟨rfl, rfl⟩))
    (fun os started H enc _ => lifted os started H enc)

theorem card_holds : Rows.BlockingNilCardSaid :=
  Claim7.holds_tied_plain_at .later [] [.data, .data, .data, .data, .sentinel, .sentinel, .pinned] true (true, "f8d115a818eb4ac89ff01ab16f74b34bdc5c3dfa573551a8ef4e14098e74b030") true
    over (fun _ h => by cases h) (by kernel_rfl) (fun _ h => by cases h) blockingNil_row_tie rfl ⟨rfl, rfl⟩ (by kernel_rfl) rfl
    (fun f fn hf hfn => by
      obtain rfl : f = 3 := Option.some.inj ((show Tryz.prog.funcNamed "dowel/dowellaw21.BlockingNil" = some 3 by kernel_rfl).symm.trans hf) |>.symm
      obtain rfl : fn = Tryz.f3 := (Option.some.inj (Tryz.func3.symm.trans hfn)).symm
      exact ⟨by kernel_rfl, fun j t ht => by
        rw [Tryz.params3] at ht
        have h3 : t = 22 ∨ t = 3 := by
          rcases j with _ | _ | j
          · exact .inl (by simpa using ht.symm)
          · exact .inr (by simpa using ht.symm)
          · simp at ht
        rcases h3 with rfl | rfl
        · exact (show Tryz.prog.wantsStandIn 22 = false by kernel_rfl)
        · exact (show Tryz.prog.wantsStandIn 3 = false by kernel_rfl)⟩)
    goes1
#print axioms card_holds
end Go.Proofs.YtpobfongnlbcpaaGreatDoor
