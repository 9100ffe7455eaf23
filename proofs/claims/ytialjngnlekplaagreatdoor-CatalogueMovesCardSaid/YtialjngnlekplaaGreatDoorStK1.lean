/- CatalogueMoves: runs. -/
import Derived.Test.YtialjngnlekplaaGreatDoorStLaw
namespace Go.Sy
open Go.RowKit Go.Proofs
set_option linter.unusedVariables false
set_option maxRecDepth 1000000
set_option maxHeartbeats 0
theorem ra_1_4_0 : chkA gM0_0 (stC0_4 1) (u 6 (-6)) (u 5 (-1)) (u 4 (-4)) = true:=by decide +kernel
theorem rb_1_4_0 : chkB gM0_0 (stC0_4 1) = true:=by decide +kernel
theorem ra_1_2_0 : chkA gM0_0 (stC0_2 1) (u 6 (-6)) (u 5 (-3)) (u 4 (-4)) = true:=by decide +kernel
theorem rb_1_2_0 : chkB gM0_0 (stC0_2 1) = true:=by decide +kernel
theorem ra_6_3_0 : chkA gM5_0 (stC5_3 1) (u 6 (-1)) (u 4 (-1)) (u 4 (-4)) = true:=by decide +kernel
theorem rb_6_3_0 : chkB gM5_0 (stC5_3 1) = true:=by decide +kernel
theorem ra_2_2_0 : chkA gM1_0 (stC1_2 1) (u 6 (-5)) (u 3 (-1)) (u 4 (-4)) = true:=by decide +kernel
theorem rb_2_2_0 : chkB gM1_0 (stC1_2 1) = true:=by decide +kernel
theorem ra_4_1_0 : chkA gM3_0 (stC3_1 1) (u 6 (-3)) (u 3 (-2)) (u 4 (-4)) = true:=by decide +kernel
theorem rb_4_1_0 : chkB gM3_0 (stC3_1 1) = true:=by decide +kernel
theorem ra_6_2_0 : chkA gM5_0 (stC5_2 1) (u 6 (-1)) (u 4 (-2)) (u 4 (-4)) = true:=by decide +kernel
theorem rb_6_2_0 : chkB gM5_0 (stC5_2 1) = true:=by decide +kernel
theorem ra_2_1_0 : chkA gM1_0 (stC1_1 1) (u 6 (-5)) (u 3 (-2)) (u 4 (-4)) = true:=by decide +kernel
theorem rb_2_1_0 : chkB gM1_0 (stC1_1 1) = true:=by decide +kernel
theorem ra_4_0_0 : chkA gM3_0 (stC3_0 1) (u 6 (-3)) (u 3 (-3)) (u 4 (-4)) = true:=by decide +kernel
theorem rb_4_0_0 : chkB gM3_0 (stC3_0 1) = true:=by decide +kernel
theorem ra_6_1_0 : chkA gM5_0 (stC5_1 1) (u 6 (-1)) (u 4 (-3)) (u 4 (-4)) = true:=by decide +kernel
theorem rb_6_1_0 : chkB gM5_0 (stC5_1 1) = true:=by decide +kernel
theorem ra_3_0_0 : chkA gM2_0 (stC2_0 1) (u 6 (-4)) (u 3 (-3)) (u 4 (-4)) = true:=by decide +kernel
theorem rb_3_0_0 : chkB gM2_0 (stC2_0 1) = true:=by decide +kernel
theorem ra_6_0_0 : chkA gM5_0 (stC5_0 1) (u 6 (-1)) (u 4 (-4)) (u 4 (-4)) = true:=by decide +kernel
theorem rb_6_0_0 : chkB gM5_0 (stC5_0 1) = true:=by decide +kernel
end Go.Sy
namespace Go.Sy
open Go.RowKit Go.Proofs
set_option linter.unusedVariables false
set_option maxRecDepth 1000000
set_option maxHeartbeats 0
theorem ra_1_4_1 : chkA gM0_1 (stC0_4 2) (u 6 (-6)) (u 5 (-1)) (u 4 (-3)) = true:=by decide +kernel
theorem rb_1_4_1 : chkB gM0_1 (stC0_4 2) = true:=by decide +kernel
theorem ra_1_2_1 : chkA gM0_1 (stC0_2 2) (u 6 (-6)) (u 5 (-3)) (u 4 (-3)) = true:=by decide +kernel
theorem rb_1_2_1 : chkB gM0_1 (stC0_2 2) = true:=by decide +kernel
theorem ra_6_3_1 : chkA gM5_1 (stC5_3 2) (u 6 (-1)) (u 4 (-1)) (u 4 (-3)) = true:=by decide +kernel
theorem rb_6_3_1 : chkB gM5_1 (stC5_3 2) = true:=by decide +kernel
theorem ra_2_2_1 : chkA gM1_1 (stC1_2 2) (u 6 (-5)) (u 3 (-1)) (u 4 (-3)) = true:=by decide +kernel
theorem rb_2_2_1 : chkB gM1_1 (stC1_2 2) = true:=by decide +kernel
theorem ra_4_1_1 : chkA gM3_1 (stC3_1 2) (u 6 (-3)) (u 3 (-2)) (u 4 (-3)) = true:=by decide +kernel
theorem rb_4_1_1 : chkB gM3_1 (stC3_1 2) = true:=by decide +kernel
theorem ra_6_2_1 : chkA gM5_1 (stC5_2 2) (u 6 (-1)) (u 4 (-2)) (u 4 (-3)) = true:=by decide +kernel
theorem rb_6_2_1 : chkB gM5_1 (stC5_2 2) = true:=by decide +kernel
theorem ra_2_1_1 : chkA gM1_1 (stC1_1 2) (u 6 (-5)) (u 3 (-2)) (u 4 (-3)) = true:=by decide +kernel
theorem rb_2_1_1 : chkB gM1_1 (stC1_1 2) = true:=by decide +kernel
theorem ra_4_0_1 : chkA gM3_1 (stC3_0 2) (u 6 (-3)) (u 3 (-3)) (u 4 (-3)) = true:=by decide +kernel
theorem rb_4_0_1 : chkB gM3_1 (stC3_0 2) = true:=by decide +kernel
theorem ra_6_1_1 : chkA gM5_1 (stC5_1 2) (u 6 (-1)) (u 4 (-3)) (u 4 (-3)) = true:=by decide +kernel
theorem rb_6_1_1 : chkB gM5_1 (stC5_1 2) = true:=by decide +kernel
theorem ra_3_0_1 : chkA gM2_1 (stC2_0 2) (u 6 (-4)) (u 3 (-3)) (u 4 (-3)) = true:=by decide +kernel
theorem rb_3_0_1 : chkB gM2_1 (stC2_0 2) = true:=by decide +kernel
theorem ra_6_0_1 : chkA gM5_1 (stC5_0 2) (u 6 (-1)) (u 4 (-4)) (u 4 (-3)) = true:=by decide +kernel
theorem rb_6_0_1 : chkB gM5_1 (stC5_0 2) = true:=by decide +kernel
end Go.Sy
