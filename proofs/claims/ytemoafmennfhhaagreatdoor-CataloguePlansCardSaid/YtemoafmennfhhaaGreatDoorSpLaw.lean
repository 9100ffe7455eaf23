/- CataloguePlans: a run of the law. -/
import Derived.Test.YtemoafmennfhhaaGreatDoorStPq
namespace Go.Sy
open Go.RowKit Go.Proofs
set_option linter.unusedVariables false
set_option maxRecDepth 1000000
set_option maxHeartbeats 0
def args3 (x y z : AV) : AV:=.cons x (.cons y (.cons z .nil))
noncomputable def chk (l : List (Dc Tryz.prog)) (x y z : AV) : Bool:=(callO Tryz.prog (ovL l) 1000 40 (.fn 3) (args3 x y z) (startWith Tabs.l 64)).isTrue
def Told (W : World) (a b c : Int) : Prop:=Calls Tryz.prog 3 #[.int .u8 a,.int .u8 b,.int .u8 c] W fun e w=>e = .returned (.bool true)∧Below W.heap.size W w
theorem told_of {l : List (Dc Tryz.prog)} {x y z : AV} (h : chk l x y z = true) {a b c : Int} (hx : ∀ μ,VR1 μ x (.int .u8 a)) (hy : ∀ μ,VR1 μ y (.int .u8 b)) (hz : ∀ μ,VR1 μ z (.int .u8 c)) {W : World} (ht : TabOK W Tabs.l) : Told W a b c :=
  run_trueO p_mixed p_callable (ovL_ok l) h (by decide) ht (fun μ=>⟨_,_,rfl,hx μ,_,_,rfl,hy μ,_,_,rfl,hz μ,rfl⟩)
theorem in_cls {n m r : Int} (h0 : 0 ≤ n) (h1 : n ≤ 255) (hm : r < 0) (hm0 : 0 ≤ m) (h : n % m = r + m) (μ : Mu) : VR1 μ (.rng .u8 m r) (.int .u8 n):=⟨n,rfl,fun e=>by omega,fun _=>⟨h0,h1,h⟩⟩
end Go.Sy
