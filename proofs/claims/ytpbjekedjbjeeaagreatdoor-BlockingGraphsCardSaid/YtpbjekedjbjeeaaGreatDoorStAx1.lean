/- What is known beforehand, level 3. -/
import Derived.Test.YtpbjekedjbjeeaaGreatDoorStMDi0
import Derived.Test.YtpbjekedjbjeeaaGreatDoorStMCe0
import Derived.Test.YtpbjekedjbjeeaaGreatDoorStMPl0
import Derived.Test.YtpbjekedjbjeeaaGreatDoorStBase
import Derived.Test.YtpbjekedjbjeeaaGreatDoorSyBox
import Derived.Test.YtpbjekedjbjeeaaGreatDoorSyZ
namespace Go.Sy
open Go.RowKit Go.Proofs
set_option linter.unusedVariables false
set_option maxRecDepth 1000000
set_option maxHeartbeats 0
noncomputable def stDiAll : List (AV × AV) := stDi0
theorem stmemDi : ∀ e ∈ stDiAll, @PF tb1 Tryz.prog 221 e.1 e.2 ∧ DP e.1 ∧ DP e.2 :=
  ranAll_ok p_mixed p_callable stov2_ok (by decide) stranDi0
noncomputable def stdDi : Dc Tryz.prog := Dc.memo 221 stDiAll stmemDi (hasbody rfl rfl)
noncomputable def stVoAll : List (AV × AV) := stVo0
theorem stmemVo : ∀ e ∈ stVoAll, @PF tb1 Tryz.prog 188 e.1 e.2 ∧ DP e.1 ∧ DP e.2 :=
  ranAll_ok p_mixed p_callable stov2_ok (by decide) stranVo0
noncomputable def stdVo : Dc Tryz.prog := Dc.memo 188 stVoAll stmemVo (hasbody rfl rfl)
noncomputable def stPlAll : List (AV × AV) := stPl0
theorem stmemPl : ∀ e ∈ stPlAll, @PF tb1 Tryz.prog 122 e.1 e.2 ∧ DP e.1 ∧ DP e.2 :=
  ranAll_ok p_mixed p_callable stov2_ok (by decide) stranPl0
noncomputable def stdPl : Dc Tryz.prog := Dc.memo 122 stPlAll stmemPl (hasbody rfl rfl)
noncomputable def stCeAll : List (AV × AV) := stCe0
theorem stmemCe : ∀ e ∈ stCeAll, @PF tb1 Tryz.prog 187 e.1 e.2 ∧ DP e.1 ∧ DP e.2 :=
  ranAll_ok p_mixed p_callable stov2_ok (by decide) stranCe0
noncomputable def stdCe : Dc Tryz.prog := Dc.memo 187 stCeAll stmemCe (hasbody rfl rfl)
noncomputable def stdc3 : List (Dc Tryz.prog) := stdDi :: stdVo :: stdPl :: stdCe :: stdc2
noncomputable def stov3 : Tgt → AV → Heap → Option CR := ovD (dcTab stdc3)
theorem stov3_ok (B0 : Nat) : OvOK Tryz.prog B0 stov3 := ovD_ok p_callable _ B0
end Go.Sy
/- meeting.Axes: its pieces. -/
namespace Go.Sy
open Go.RowKit Go.Proofs
set_option linter.unusedVariables false
set_option maxRecDepth 1000000
set_option maxHeartbeats 0
noncomputable def axFn : Func := Tryz.f174
noncomputable def axC : Code := axFn.body.getD .skip
noncomputable def axCx (call : Tgt → AV → Heap → CR) : Cx := ⟨Tryz.prog, 174, axFn.ntmps, none, call, 1000⟩
/-- The six axes of boxes, as the map holds them. -/
noncomputable def axK (x y z : List Nat) : AV := .agg (.cons (.str x) (.cons (.str y) (.cons (.str z) .nil)))
noncomputable def axV (x y z : Int) : AV := .agg (qz [x, y, z] .nil)
noncomputable def axEs : List (AV × AV) := [(axK [45, 49] [48] [48], axV (-1) 0 0), (axK [49] [48] [48], axV 1 0 0), (axK [48] [48] [45, 49], axV 0 0 (-1)), (axK [48] [48] [49], axV 0 0 1), (axK [48] [45, 49] [48], axV 0 (-1) 0), (axK [48] [49] [48], axV 0 1 0)]
noncomputable def axOut : AV := .ro 6 (qz [-1, 0, 0, 0, -1, 0, 0, 0, -1, 0, 0, 1, 0, 1, 0, 1, 0, 0] .nil)
noncomputable def nthSeq (k : Nat) (c : Code) : Code := match dropSeq k c with | .seq a _ => a | c => c
/-- The state ahead of the range over the map. -/
noncomputable def axR : Tr AV := (Tr.leaf.set (.ptr (pathOf 67) 0) (pathOf 5)).set .nils (pathOf 14)
noncomputable def axH (n : Pos) : Heap := ⟨(Tr.leaf.set (.cells (Tr.leaf.set (.map (pathOf 66)) (pathOf 0)) 1 false) (pathOf 67)).set (.mp axEs) (pathOf 66), n⟩
/-- Which entries came last: thirty classes. -/
noncomputable def axCls (n : Pos) (h : Heap) : Nat := match h.t.get n with | some (.mi _ _ (j :: k :: _)) => Nat.add (Nat.mul 5 j) (match Nat.ble (Nat.succ j) k with | true => Nat.pred k | false => k) | _ => 30
noncomputable def axLeaf (call : Tgt → AV → Heap → CR) (n : Pos) (i : Nat) (x : R) : Bool :=
  R.casesOn (motive := fun _ => Bool) x false (fun r m h => Bool.casesOn (motive := fun _ => Bool) (Nat.beq (axCls n h) i) true (kFin Tryz.prog axFn axOut (xCode (dropSeq 8 axC) (axCx call) r m h))) (fun _ _ _ _ => false) (fun _ _ _ => false)
noncomputable def axRng (n : Pos) (x : R) : Bool := R.casesOn (motive := fun _ => Bool) x false (fun r m h => Nat.ble (axCls n h) 29) (fun _ _ _ _ => false) (fun _ _ _ => false)
noncomputable def axFull (call : Tgt → AV → Heap → CR) (x : R) : Bool := R.casesOn (motive := fun _ => Bool) x false (fun r m h => kFin Tryz.prog axFn axOut (xCode (dropSeq 8 axC) (axCx call) r m h)) (fun _ _ _ _ => false) (fun _ _ _ => false)
noncomputable def axPre (ov : Tgt → AV → Heap → Option CR) (xs : AV) : Option St := oB (argsR xs 0 axFn.ntmps .leaf) fun r => xPre 7 axC (axCx (callO Tryz.prog ov 1000 30)) r [] (startWith Tabs.l 64)
theorem axC_ok : axFn.body = some axC := rfl
end Go.Sy
/- meeting.Axes: the comparison of the six axes; every order of the map's entries. -/
namespace Go.Sy
open Go.RowKit Go.Proofs
set_option linter.unusedVariables false
set_option maxRecDepth 1000000
set_option maxHeartbeats 0
noncomputable section
/-- The next name ahead of the range. -/
def axN : Pos := pathOf 512
def axI : List (Int × Int × Int) := [(-1, 0, 0), (1, 0, 0), (0, 0, -1), (0, 0, 1), (0, -1, 0), (0, 1, 0)]
def sgn3 (a b : Int) (k : Int) : Int := match ilt a b with | true => -1 | false => (match ilt b a with | true => 1 | false => k)
def cmp3 (a b : Int × Int × Int) : Int := sgn3 a.1 b.1 (sgn3 a.2.1 b.2.1 (sgn3 a.2.2 b.2.2 0))
def axCmpT : List (AV × AV) := axI.flatMap fun a => axI.map fun b => (.cons (axV a.1 a.2.1 a.2.2) (.cons (axV b.1 b.2.1 b.2.2) .nil), .int .i64 (cmp3 a b))
end
theorem axCmp_ran : ranAll Tryz.prog ov0 227 axCmpT = true := by decide +kernel
noncomputable def d_axCmp : Dc Tryz.prog := Dc.memo 227 axCmpT (ranAll_ok p_mixed p_callable ov0_ok (by decide) axCmp_ran) (hasbody rfl rfl)
noncomputable def axOv : Tgt → AV → Heap → Option CR := ovD (dcTab (d_axCmp :: dc0))
theorem axOv_ok (B0 : Nat) : OvOK Tryz.prog B0 axOv := ovD_ok p_callable _ B0
noncomputable def axCall : Tgt → AV → Heap → CR := callO Tryz.prog axOv 1000 30
theorem axCall_ok (B0 : Nat) : CallOK Tryz.prog B0 axCall := callO_sound p_mixed p_callable (axOv_ok B0) 1000 30
end Go.Sy
