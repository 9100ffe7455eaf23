/- BlockingGraphs: its tied card, of what the law returns (ToldAll). -/
import Derived.Test.YtpbjekedjbjeeaaGreatDoorSyEb
import Derived.Test.YtpbjekedjbjeeaaGreatDoorStBase
import Derived.Test.YtpbjekedjbjeeaaGreatDoorSyFacts
import Derived.Test.YtpbjekedjbjeeaaGreatDoorRows
import Derived.Test.YtpbjekedjbjeeaaGreatDoorTie
import Derived.Test.YtpbjekedjbjeeaaGreatDoorCards
import Derived.WalkKit
import Derived.ProofKit
import Derived.LaidMore
import Derived.OpenShut
import Derived.Stop.Joined
import Derived.SevenTiedAt
import Derived.Lay
import Derived.Lib.LaidTab
import Derived.Lib.LaidU8
import Derived.ChangeSlices
namespace Go.Proofs.YtpbjekedjbjeeaaGreatDoor
open Go.ChangeShapes Go.WideShapes Go.ChangeAt Go.RowKit
set_option linter.unusedVariables false
/-- What the law returns of arguments that lie in memory. -/
def ToldAll : Prop := ∀ (W : World), Sy.TabOK W (@Sy.Tabs.l Sy.tb1) → ∀ (v0 v1 : Value) (s : List Int) (l : List Sy.Ar), Sy.SlTold W v0 s.length ((Sy.eInt .i64).l s) → Sy.SlTold W v1 l.length (Sy.eArc.l l) →
    Calls Tryz.prog 3 #[v0, v1] W fun e w => e = .returned (.bool true) ∧ Below W.heap.size W w
theorem own : ownKnob Tryz.prog.godebug = none := by kernel_rfl
theorem laidOut : laidOutB Tryz.prog = true := by kernel_rfl
theorem cells3 : Tryz.prog.cellsOf 3 = 1 := by kernel_rfl
theorem cellsArc : Tryz.prog.cellsOf 34 = 5 := by kernel_rfl
theorem cellsNum : Tryz.prog.cellsOf 32 = 1 := by kernel_rfl
/-- A table among the variables, off the row's condition. -/
theorem tab_at {W : World} {nm : String} {g : Nat} {t e : TypeId} {n : Nat} {k : IntKind} {zs : List Int} (hr : Lib.VarReads Tryz.prog W nm (Lib.tabData k zs)) (hg : Tryz.prog.globalNamed nm = some g) (ht : (Tryz.prog.globals[g]?).map (·.type) = some t)
    (hu : Tryz.prog.underlying t = some (.array n e)) (he : Tryz.prog.underlying e = some (.int k)) (hce : Tryz.prog.cellsOf e = 1) (hct : Tryz.prog.cellsOf t = n) :
    ∃ (c : Array Value) (el : TypeId) (fz : Nat × Nat), W.heap[g]? = some (.cells c el fz) ∧ c.toList = zs.map fun z => Value.int k z := by
  obtain ⟨g', t', cs, fuel, p, h1, h2, h3, h4⟩ := hr
  obtain rfl := Option.some.inj (hg.symm.trans h1)
  obtain rfl := Option.some.inj (ht.symm.trans h2)
  have hcs := Lib.cells_of_tab (zs := zs) hu he hce hct h4
  unfold World.var? at h3
  rw [hg] at h3
  have h3 : (match W.heap[g]? with | some (.cells cs _ _) => some cs | _ => none) = some cs := h3
  split at h3
  · rename_i c el fz hc
    cases h3
    exact ⟨_, el, fz, hc, hcs⟩
  · cases h3
theorem tabs_of_laid {W : World} (h : laidMetH Tryz.prog Rows.blockingGraphsRow.laid W) : Sy.TabOK W (@Sy.Tabs.l Sy.tb1) := by
  rw [MakeChecks.laidMetH_plain _ _ _ (by kernel_rfl)] at h
  have r5 : Lib.VarReads Tryz.prog W "internal/strconv.uint64pow10" (Lib.tabData .u64 Sy.pow10) := Lib.laidMet.reads h (by simp [Rows.blockingGraphsRow]; first | exact rfl | exact .inl rfl | exact .inr (.inl rfl) | exact .inr (.inr (.inl rfl)) | exact .inr (.inr rfl))
  have r6 : Lib.VarReads Tryz.prog W "math/bits.deBruijn64tab" (Lib.tabData .u8 Sy.deB64) := Lib.laidMet.reads h (by simp [Rows.blockingGraphsRow]; first | exact rfl | exact .inl rfl | exact .inr (.inl rfl) | exact .inr (.inr (.inl rfl)) | exact .inr (.inr rfl))
  have r7 : Lib.VarReads Tryz.prog W "math/bits.deBruijn32tab" (Lib.tabData .u8 Sy.deB32) := Lib.laidMet.reads h (by simp [Rows.blockingGraphsRow]; first | exact rfl | exact .inl rfl | exact .inr (.inl rfl) | exact .inr (.inr (.inl rfl)) | exact .inr (.inr rfl))
  obtain ⟨c5, e5, f5, h5, k5⟩ := tab_at (g := 0) r5 (by kernel_rfl) (by kernel_rfl) Tryz.underlying398 Tryz.underlying133 (by kernel_rfl) (by kernel_rfl)
  obtain ⟨c6, e6, f6, h6, k6⟩ := tab_at (g := 2) r6 (by kernel_rfl) (by kernel_rfl) Tryz.underlying409 Tryz.underlying5 (by kernel_rfl) (by kernel_rfl)
  obtain ⟨c7, e7, f7, h7, k7⟩ := tab_at (g := 3) r7 (by kernel_rfl) (by kernel_rfl) Tryz.underlying442 Tryz.underlying5 (by kernel_rfl) (by kernel_rfl)
  have mk : ∀ {g : Nat} {k : IntKind} {zs : List Int} {c : Array Value} {e : TypeId} {f : Nat × Nat}, W.heap[g]? = some (.cells c e f) → (c.toList = zs.map fun z => Value.int k z) → ∃ (c : Array Value) (el : TypeId) (fz : Nat × Nat) (vs : List Value), W.heap[g]? = some (.cells c el fz) ∧ c.size = zs.length ∧ (∀ μ, Sy.VRL μ (Sy.intsAV k zs) vs) ∧ ∀ (k : Nat) (v : Value), vs[k]? = some v → c[k]? = some v := by
    intro g k zs c e f hc hk
    refine ⟨c, e, f, zs.map (Value.int k), hc, by rw [← Array.length_toList, hk]; simp, fun μ => Sy.intsAV_sound k zs μ, fun j v hj => ?_⟩
    have : c.toList[j]? = some v := by rw [hk]; exact hj
    simpa using this
  intro i x hi hu
  rcases i with _ | _ | _ | _ | i
  · cases hi; exact mk h5 k5
  · cases hi; exact absurd rfl hu
  · cases hi; exact mk h6 k6
  · cases hi; exact mk h7 k7
  · cases hi
set_option maxRecDepth 100000 in
theorem lifted (hT : ToldAll) (os : Os) (started : os.Started) (H : Type) (enc : TypeId × Value → H) :
    ReturnsInHanded {} Tryz.checked os 3 .any (fun w args => (Rows.blockingGraphsSpec.pre enc Tryz.prog Tryz.f3 [] false w args ∧ laidMetH Tryz.prog Rows.blockingGraphsRow.laid w) ∧ sizedMet enc Tryz.prog Tryz.f3 (OpenSpec.ofChange Rows.blockingGraphsSpec) false w args)
      (Rows.blockingGraphsSpec.post enc Tryz.prog Tryz.f3 false true false false) := by
  refine returnsInHanded_of_change_and (C := Tryz.checked) (X := fun w _ => laidMetH Tryz.prog Rows.blockingGraphsRow.laid w) (fun _ _ _ hh h => h.of_heap hh) own started (by kernel_rfl) Tryz.func3
    (ChangeSpec.witness_shaped (enc := enc) (C := Tryz.checked) (os := os) (X := fun w _ => laidMetH Tryz.prog Rows.blockingGraphsRow.laid w) false (World.laidAll Tryz.prog os Rows.blockingGraphsRow.laid) #[.slice none 0 0, .slice none 0 0] 8 (World.laidAll_os _ _ _) (World.shaped_of_ZipB (by kernel_rfl) (by kernel_rfl)) (by kernel_rfl) (by kernel_rfl) (by kernel_rfl)
      (by rw [MakeChecks.laidMetH_plain _ _ _ (by kernel_rfl)]; exact laidMet_laidAll _ (by kernel_rfl) (by kernel_rfl))) ?_
  intro W base args ds gs before hval0 hW _ _ hL _
  have hval : ∀ (j : Nat) t v, Tryz.f3.params[j]? = some t → args[j]? = some v → Value.okWide Tryz.prog W .any base t v := hval0
  have hW' := hW
  obtain ⟨p, q, hA0, hV, rfl, hfz, hnd⟩ := hW
  have hA : DataW.TrodAll enc Tryz.prog W 0 (fun _ => true) true Tryz.f3.params.toList args.toList ds p := hA0
  rw [Tryz.params3] at hA hval
  obtain ⟨v0, vs0, d0, ds0, p0, q0, hargs, rfl, rfl, h0, r0⟩ := trodAll_cons hA
  obtain ⟨v1, vs1, d1, ds1, p1, q1, rfl, rfl, rfl, h1, r1⟩ := trodAll_cons r0
  obtain ⟨rfl, rfl, rfl⟩ := trodAll_nil r1
  obtain rfl : args = #[v0, v1] := by cases args; simp_all
  obtain ⟨rfl, rfl⟩ := trodVars_none hV
  obtain ⟨s, hs⟩ := Sy.ints_told Tryz.underlying22 Tryz.underlying3 cells3 (hval 0 22 v0 rfl rfl) h0
  obtain ⟨l, hl⟩ := Sy.arcs_told Tryz.underlying23 Tryz.underlying34 cellsArc Tryz.underlying3 Tryz.underlying32 cells3 cellsNum ⟨rfl, rfl⟩ ⟨rfl, rfl⟩ ⟨rfl, rfl⟩ ⟨rfl, rfl⟩ ⟨rfl, rfl⟩ (hval 1 23 v1 rfl rfl) h1
  clear hA0 hval0
  simp only [List.append_nil] at hW'
  have hlt0 : ∀ x ∈ p0, x.block < W.heap.size := fun x hx => by
    have := hW'.lt x (by simp [hx])
    simpa using this
  have hlt1 : ∀ x ∈ p1, x.block < W.heap.size := fun x hx => by
    have := hW'.lt x (by simp [hx])
    simpa using this
  refine (hT _ (tabs_of_laid hL) _ _ _ _ hs hl).mono fun e W' ⟨he, hb⟩ => ?_
  subst he
  have h0' := Below.trod laidOut (by kernel_rfl) (of_decide_eq_true (by kernel_rfl)) h0 hb hlt0
  have h1' := Below.trod laidOut (by kernel_rfl) (of_decide_eq_true (by kernel_rfl)) h1 hb hlt1
  exact ⟨_, rfl, ⟨_, _, _, [], _, [], hW', trodAll_cons_mk (shut_bool Tryz.underlying4 _) trodAll_mk0, trodAll_cons_mk h0' (trodAll_cons_mk h1' trodAll_mk0), rfl, hb.frame _, fun h => by cases h⟩⟩

theorem over (hT : ToldAll) : Rows.BlockingGraphsSaid :=
  OpenClaim.holds_of_wide 3 Tryz.f3 rfl rfl rfl rfl rfl rfl rfl ⟨rfl, rfl, rfl, rfl, rfl⟩ rfl rfl rfl rfl rfl (by kernel_rfl) Tryz.func3 joined1
    (of_decide_eq_true (by kernel_rfl)) (by unfold Func.isWrapper; first | (rw [if_pos (by decide +kernel)]; kernel_rfl) | (rw [if_neg (by decide +kernel)]; exact ⟨rfl, rfl⟩))
    (fun os started H enc _ => lifted hT os started H enc)

theorem card_of (hT : ToldAll) : Rows.BlockingGraphsCardSaid :=
  Claim7.holds_tied_plain_at .later [] [.data, .data, .data, .data, .sentinel, .sentinel, .pinned] true (true, "ea786f615460f24af2d0a2c33bb3f5ea24759a671588b97620b9dc394364d4a1") true
    (over hT) (fun _ h => by cases h) (by kernel_rfl) (fun _ h => by cases h) blockingGraphs_row_tie rfl ⟨rfl, rfl⟩ (by kernel_rfl) rfl
    (fun f fn hf hfn => by
      obtain rfl : f = 3 := Option.some.inj ((show Tryz.prog.funcNamed "dowel/dowellaw21.BlockingGraphs" = some 3 by kernel_rfl).symm.trans hf) |>.symm
      obtain rfl : fn = Tryz.f3 := (Option.some.inj (Tryz.func3.symm.trans hfn)).symm
      exact ⟨by kernel_rfl, fun j t ht => by
        rw [Tryz.params3] at ht
        have h3 : t = 22 ∨ t = 23 := by
          rcases j with _ | _ | j
          · exact .inl (by simpa using ht.symm)
          · exact .inr (by simpa using ht.symm)
          · simp at ht
        rcases h3 with rfl | rfl
        · exact (show Tryz.prog.wantsStandIn 22 = false by kernel_rfl)
        · exact (show Tryz.prog.wantsStandIn 23 = false by kernel_rfl)⟩)
    goes1
end Go.Proofs.YtpbjekedjbjeeaaGreatDoor
