/- What is known beforehand, level 3. -/
import Derived.Test.YtemoafmennfhhaaGreatDoorStMPe0
import Derived.Test.YtemoafmennfhhaaGreatDoorStMPe1
import Derived.Test.YtemoafmennfhhaaGreatDoorStMDi0
import Derived.Test.YtemoafmennfhhaaGreatDoorStMPl0
import Derived.Test.YtemoafmennfhhaaGreatDoorStMMo0
import Derived.Test.YtemoafmennfhhaaGreatDoorSyAlt4
namespace Go.Sy
open Go.RowKit Go.Proofs
set_option linter.unusedVariables false
set_option maxRecDepth 1000000
set_option maxHeartbeats 0
noncomputable def stPeAll : List (AV × AV):=stPe0++(stPe1++(stPe2++(stPe3++(stPe4++(stPe5++(stPe6++(stPe7++(stPe8++(stPe9++(stPe10++(stPe11++(stPe12++(stPe13++(stPe14++(stPe15++(stPe16++(stPe17++(stPe18++(stPe19++(stPe20++(stPe21++(stPe22++(stPe23++(stPe24++(stPe25++(stPe26++(stPe27++(stPe28++(stPe29++(stPe30++(stPe31++(stPe32++(stPe33++(stPe34++(stPe35)))))))))))))))))))))))))))))))))))
theorem stmemPe : ∀ e ∈ stPeAll,@PF tb1 Tryz.prog 268 e.1 e.2∧DP e.1∧DP e.2 :=
  ranAll_ok p_mixed p_callable stov2_ok (by decide) (ranAll_app stranPe0 (ranAll_app stranPe1 (ranAll_app stranPe2 (ranAll_app stranPe3 (ranAll_app stranPe4 (ranAll_app stranPe5 (ranAll_app stranPe6 (ranAll_app stranPe7 (ranAll_app stranPe8 (ranAll_app stranPe9 (ranAll_app stranPe10 (ranAll_app stranPe11 (ranAll_app stranPe12 (ranAll_app stranPe13 (ranAll_app stranPe14 (ranAll_app stranPe15 (ranAll_app stranPe16 (ranAll_app stranPe17 (ranAll_app stranPe18 (ranAll_app stranPe19 (ranAll_app stranPe20 (ranAll_app stranPe21 (ranAll_app stranPe22 (ranAll_app stranPe23 (ranAll_app stranPe24 (ranAll_app stranPe25 (ranAll_app stranPe26 (ranAll_app stranPe27 (ranAll_app stranPe28 (ranAll_app stranPe29 (ranAll_app stranPe30 (ranAll_app stranPe31 (ranAll_app stranPe32 (ranAll_app stranPe33 (ranAll_app stranPe34 stranPe35)))))))))))))))))))))))))))))))))))
noncomputable def stdPe : Dc Tryz.prog:=Dc.memo 268 stPeAll stmemPe (hasbody rfl rfl)
noncomputable def stDiAll : List (AV × AV):=stDi0++(stDi1++(stDi2++(stDi3++(stDi4++(stDi5++(stDi6++(stDi7++(stDi8++(stDi9++(stDi10++(stDi11++(stDi12++(stDi13++(stDi14++(stDi15++(stDi16++(stDi17++(stDi18++(stDi19++(stDi20++(stDi21++(stDi22++(stDi23)))))))))))))))))))))))
theorem stmemDi : ∀ e ∈ stDiAll,@PF tb1 Tryz.prog 313 e.1 e.2∧DP e.1∧DP e.2 :=
  ranAll_ok p_mixed p_callable stov2_ok (by decide) (ranAll_app stranDi0 (ranAll_app stranDi1 (ranAll_app stranDi2 (ranAll_app stranDi3 (ranAll_app stranDi4 (ranAll_app stranDi5 (ranAll_app stranDi6 (ranAll_app stranDi7 (ranAll_app stranDi8 (ranAll_app stranDi9 (ranAll_app stranDi10 (ranAll_app stranDi11 (ranAll_app stranDi12 (ranAll_app stranDi13 (ranAll_app stranDi14 (ranAll_app stranDi15 (ranAll_app stranDi16 (ranAll_app stranDi17 (ranAll_app stranDi18 (ranAll_app stranDi19 (ranAll_app stranDi20 (ranAll_app stranDi21 (ranAll_app stranDi22 stranDi23)))))))))))))))))))))))
noncomputable def stdDi : Dc Tryz.prog:=Dc.memo 313 stDiAll stmemDi (hasbody rfl rfl)
noncomputable def stPlAll : List (AV × AV):=stPl0++(stPl1++(stPl2++(stPl3++(stPl4++(stPl5++(stPl6++(stPl7++(stPl8++(stPl9++(stPl10++(stPl11++(stPl12++(stPl13++(stPl14++(stPl15++(stPl16++(stPl17++(stPl18++(stPl19++(stPl20++(stPl21++(stPl22++(stPl23++(stPl24++(stPl25++(stPl26++(stPl27++(stPl28++(stPl29++(stPl30++(stPl31++(stPl32++(stPl33++(stPl34++(stPl35++(stPl36++(stPl37++(stPl38++(stPl39)))))))))))))))))))))))))))))))))))))))
theorem stmemPl : ∀ e ∈ stPlAll,@PF tb1 Tryz.prog 275 e.1 e.2∧DP e.1∧DP e.2 :=
  ranAll_ok p_mixed p_callable stov2_ok (by decide) (ranAll_app stranPl0 (ranAll_app stranPl1 (ranAll_app stranPl2 (ranAll_app stranPl3 (ranAll_app stranPl4 (ranAll_app stranPl5 (ranAll_app stranPl6 (ranAll_app stranPl7 (ranAll_app stranPl8 (ranAll_app stranPl9 (ranAll_app stranPl10 (ranAll_app stranPl11 (ranAll_app stranPl12 (ranAll_app stranPl13 (ranAll_app stranPl14 (ranAll_app stranPl15 (ranAll_app stranPl16 (ranAll_app stranPl17 (ranAll_app stranPl18 (ranAll_app stranPl19 (ranAll_app stranPl20 (ranAll_app stranPl21 (ranAll_app stranPl22 (ranAll_app stranPl23 (ranAll_app stranPl24 (ranAll_app stranPl25 (ranAll_app stranPl26 (ranAll_app stranPl27 (ranAll_app stranPl28 (ranAll_app stranPl29 (ranAll_app stranPl30 (ranAll_app stranPl31 (ranAll_app stranPl32 (ranAll_app stranPl33 (ranAll_app stranPl34 (ranAll_app stranPl35 (ranAll_app stranPl36 (ranAll_app stranPl37 (ranAll_app stranPl38 stranPl39)))))))))))))))))))))))))))))))))))))))
noncomputable def stdPl : Dc Tryz.prog:=Dc.memo 275 stPlAll stmemPl (hasbody rfl rfl)
noncomputable def stdc3 : List (Dc Tryz.prog):=stdPe::stdDi::stdPl::stdc2
noncomputable def stov3 : Tgt → AV → Heap → Option CR:=ovD (dcTab stdc3)
theorem stov3_ok (B0 : Nat) : OvOK Tryz.prog B0 stov3:=ovD_ok p_callable _ B0
end Go.Sy
namespace Go.Sy
open Go.RowKit Go.Proofs
set_option linter.unusedVariables false
set_option maxRecDepth 1000000
set_option maxHeartbeats 0
noncomputable def axFn : Func:=Tryz.f263
noncomputable def axC : Code:=axFn.body.getD .skip
noncomputable def axCx (call : Tgt → AV → Heap → CR) : Cx:=⟨Tryz.prog,263,axFn.ntmps,none,call,1000⟩
noncomputable def axK (x y z : List Nat) : AV:=.agg (.cons (.str x) (.cons (.str y) (.cons (.str z) .nil)))
noncomputable def axV (x y z : Int) : AV:=.agg (qz [x,y,z] .nil)
noncomputable def axEs : List (AV × AV):=[(axK [45,49] [48] [48],axV (-1) 0 0),(axK [49] [48] [48],axV 1 0 0),(axK [48] [48] [45,49],axV 0 0 (-1)),(axK [48] [48] [49],axV 0 0 1),(axK [48] [45,49] [48],axV 0 (-1) 0),(axK [48] [49] [48],axV 0 1 0)]
noncomputable def axOut : AV:=.ro 6 (qz [-1,0,0,0,-1,0,0,0,-1,0,0,1,0,1,0,1,0,0] .nil)
noncomputable def nthSeq (k : Nat) (c : Code) : Code:=match dropSeq k c with | .seq a _=>a | c=>c
noncomputable def axR : Tr AV:=(Tr.leaf.set (.ptr (pathOf 67) 0) (pathOf 5)).set .nils (pathOf 14)
noncomputable def axH (n : Pos) : Heap:=⟨(Tr.leaf.set (.cells (Tr.leaf.set (.map (pathOf 66)) (pathOf 0)) 1 false) (pathOf 67)).set (.mp axEs) (pathOf 66),n⟩
noncomputable def axCls (n : Pos) (h : Heap) : Nat:=match h.t.get n with | some (.mi _ _ (j::k::_))=>Nat.add (Nat.mul 5 j) (match Nat.ble (Nat.succ j) k with | true=>Nat.pred k | false=>k) | _=>30
noncomputable def axLeaf (call : Tgt → AV → Heap → CR) (n : Pos) (i : Nat) (x : R) : Bool :=
  R.casesOn (motive:=fun _=>Bool) x false (fun r m h=>Bool.casesOn (motive:=fun _=>Bool) (Nat.beq (axCls n h) i) true (kFin Tryz.prog axFn axOut (xCode (dropSeq 8 axC) (axCx call) r m h))) (fun _ _ _ _=>false) (fun _ _ _=>false)
noncomputable def axRng (n : Pos) (x : R) : Bool:=R.casesOn (motive:=fun _=>Bool) x false (fun r m h=>Nat.ble (axCls n h) 29) (fun _ _ _ _=>false) (fun _ _ _=>false)
noncomputable def axFull (call : Tgt → AV → Heap → CR) (x : R) : Bool:=R.casesOn (motive:=fun _=>Bool) x false (fun r m h=>kFin Tryz.prog axFn axOut (xCode (dropSeq 8 axC) (axCx call) r m h)) (fun _ _ _ _=>false) (fun _ _ _=>false)
theorem axC_ok : axFn.body = some axC:=rfl
end Go.Sy
namespace Go.Sy
open Go.RowKit Go.Proofs
set_option linter.unusedVariables false
set_option maxRecDepth 1000000
set_option maxHeartbeats 0
noncomputable section
def axN : Pos:=pathOf 512
def axI : List (Int × Int × Int):=[(-1,0,0),(1,0,0),(0,0,-1),(0,0,1),(0,-1,0),(0,1,0)]
def sgn3 (a b : Int) (k : Int) : Int:=match ilt a b with | true=>-1 | false=>(match ilt b a with | true=>1 | false=>k)
def cmp3 (a b : Int × Int × Int) : Int:=sgn3 a.1 b.1 (sgn3 a.2.1 b.2.1 (sgn3 a.2.2 b.2.2 0))
def axCmpT : List (AV × AV):=axI.flatMap fun a=>axI.map fun b=>(.cons (axV a.1 a.2.1 a.2.2) (.cons (axV b.1 b.2.1 b.2.2) .nil),.int .i64 (cmp3 a b))
end
theorem axCmp_ran : ranAll Tryz.prog ov0 315 axCmpT = true:=by decide +kernel
noncomputable def d_axCmp : Dc Tryz.prog:=Dc.memo 315 axCmpT (ranAll_ok p_mixed p_callable ov0_ok (by decide) axCmp_ran) (hasbody rfl rfl)
noncomputable def axOv : Tgt → AV → Heap → Option CR:=ovD (dcTab (d_axCmp::dc0))
theorem axOv_ok (B0 : Nat) : OvOK Tryz.prog B0 axOv:=ovD_ok p_callable _ B0
noncomputable def axCall : Tgt → AV → Heap → CR:=callO Tryz.prog axOv 1000 30
theorem axCall_ok (B0 : Nat) : CallOK Tryz.prog B0 axCall:=callO_sound p_mixed p_callable (axOv_ok B0) 1000 30
end Go.Sy
