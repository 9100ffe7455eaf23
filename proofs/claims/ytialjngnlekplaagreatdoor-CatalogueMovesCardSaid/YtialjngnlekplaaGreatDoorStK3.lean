/- CatalogueMoves: runs. -/
import Derived.Test.YtialjngnlekplaaGreatDoorStLaw
namespace Go.Sy
open Go.RowKit Go.Proofs
set_option linter.unusedVariables false
set_option maxRecDepth 1000000
set_option maxHeartbeats 0
theorem ra_1_4_2 : chkA gM0_2 (stC0_4 3) (u 6 (-6)) (u 5 (-1)) (u 4 (-2)) = true:=by decide +kernel
theorem rb_1_4_2 : chkB gM0_2 (stC0_4 3) = true:=by decide +kernel
theorem ra_1_2_2 : chkA gM0_2 (stC0_2 3) (u 6 (-6)) (u 5 (-3)) (u 4 (-2)) = true:=by decide +kernel
theorem rb_1_2_2 : chkB gM0_2 (stC0_2 3) = true:=by decide +kernel
theorem ra_6_3_2 : chkA gM5_2 (stC5_3 3) (u 6 (-1)) (u 4 (-1)) (u 4 (-2)) = true:=by decide +kernel
theorem rb_6_3_2 : chkB gM5_2 (stC5_3 3) = true:=by decide +kernel
theorem ra_2_2_2 : chkA gM1_2 (stC1_2 3) (u 6 (-5)) (u 3 (-1)) (u 4 (-2)) = true:=by decide +kernel
theorem rb_2_2_2 : chkB gM1_2 (stC1_2 3) = true:=by decide +kernel
theorem ra_4_1_2 : chkA gM3_2 (stC3_1 3) (u 6 (-3)) (u 3 (-2)) (u 4 (-2)) = true:=by decide +kernel
theorem rb_4_1_2 : chkB gM3_2 (stC3_1 3) = true:=by decide +kernel
theorem ra_6_2_2 : chkA gM5_2 (stC5_2 3) (u 6 (-1)) (u 4 (-2)) (u 4 (-2)) = true:=by decide +kernel
theorem rb_6_2_2 : chkB gM5_2 (stC5_2 3) = true:=by decide +kernel
theorem ra_2_1_2 : chkA gM1_2 (stC1_1 3) (u 6 (-5)) (u 3 (-2)) (u 4 (-2)) = true:=by decide +kernel
theorem rb_2_1_2 : chkB gM1_2 (stC1_1 3) = true:=by decide +kernel
theorem ra_4_0_2 : chkA gM3_2 (stC3_0 3) (u 6 (-3)) (u 3 (-3)) (u 4 (-2)) = true:=by decide +kernel
theorem rb_4_0_2 : chkB gM3_2 (stC3_0 3) = true:=by decide +kernel
theorem ra_6_1_2 : chkA gM5_2 (stC5_1 3) (u 6 (-1)) (u 4 (-3)) (u 4 (-2)) = true:=by decide +kernel
theorem rb_6_1_2 : chkB gM5_2 (stC5_1 3) = true:=by decide +kernel
theorem ra_3_0_2 : chkA gM2_2 (stC2_0 3) (u 6 (-4)) (u 3 (-3)) (u 4 (-2)) = true:=by decide +kernel
theorem rb_3_0_2 : chkB gM2_2 (stC2_0 3) = true:=by decide +kernel
theorem ra_6_0_2 : chkA gM5_2 (stC5_0 3) (u 6 (-1)) (u 4 (-4)) (u 4 (-2)) = true:=by decide +kernel
theorem rb_6_0_2 : chkB gM5_2 (stC5_0 3) = true:=by decide +kernel
end Go.Sy
namespace Go.Sy
open Go.RowKit Go.Proofs
set_option linter.unusedVariables false
set_option maxRecDepth 1000000
set_option maxHeartbeats 0
theorem ra_1_4_3 : chkA gM0_3 (stC0_4 4) (u 6 (-6)) (u 5 (-1)) (u 4 (-1)) = true:=by decide +kernel
theorem rb_1_4_3 : chkB gM0_3 (stC0_4 4) = true:=by decide +kernel
theorem ra_1_2_3 : chkA gM0_3 (stC0_2 4) (u 6 (-6)) (u 5 (-3)) (u 4 (-1)) = true:=by decide +kernel
theorem rb_1_2_3 : chkB gM0_3 (stC0_2 4) = true:=by decide +kernel
theorem ra_6_3_3 : chkA gM5_3 (stC5_3 4) (u 6 (-1)) (u 4 (-1)) (u 4 (-1)) = true:=by decide +kernel
theorem rb_6_3_3 : chkB gM5_3 (stC5_3 4) = true:=by decide +kernel
theorem ra_2_2_3 : chkA gM1_3 (stC1_2 4) (u 6 (-5)) (u 3 (-1)) (u 4 (-1)) = true:=by decide +kernel
theorem rb_2_2_3 : chkB gM1_3 (stC1_2 4) = true:=by decide +kernel
theorem ra_4_1_3 : chkA gM3_3 (stC3_1 4) (u 6 (-3)) (u 3 (-2)) (u 4 (-1)) = true:=by decide +kernel
theorem rb_4_1_3 : chkB gM3_3 (stC3_1 4) = true:=by decide +kernel
theorem ra_6_2_3 : chkA gM5_3 (stC5_2 4) (u 6 (-1)) (u 4 (-2)) (u 4 (-1)) = true:=by decide +kernel
theorem rb_6_2_3 : chkB gM5_3 (stC5_2 4) = true:=by decide +kernel
theorem ra_2_1_3 : chkA gM1_3 (stC1_1 4) (u 6 (-5)) (u 3 (-2)) (u 4 (-1)) = true:=by decide +kernel
theorem rb_2_1_3 : chkB gM1_3 (stC1_1 4) = true:=by decide +kernel
theorem ra_4_0_3 : chkA gM3_3 (stC3_0 4) (u 6 (-3)) (u 3 (-3)) (u 4 (-1)) = true:=by decide +kernel
theorem rb_4_0_3 : chkB gM3_3 (stC3_0 4) = true:=by decide +kernel
theorem ra_6_1_3 : chkA gM5_3 (stC5_1 4) (u 6 (-1)) (u 4 (-3)) (u 4 (-1)) = true:=by decide +kernel
theorem rb_6_1_3 : chkB gM5_3 (stC5_1 4) = true:=by decide +kernel
theorem ra_3_0_3 : chkA gM2_3 (stC2_0 4) (u 6 (-4)) (u 3 (-3)) (u 4 (-1)) = true:=by decide +kernel
theorem rb_3_0_3 : chkB gM2_3 (stC2_0 4) = true:=by decide +kernel
theorem ra_6_0_3 : chkA gM5_3 (stC5_0 4) (u 6 (-1)) (u 4 (-4)) (u 4 (-1)) = true:=by decide +kernel
theorem rb_6_0_3 : chkB gM5_3 (stC5_0 4) = true:=by decide +kernel
end Go.Sy
