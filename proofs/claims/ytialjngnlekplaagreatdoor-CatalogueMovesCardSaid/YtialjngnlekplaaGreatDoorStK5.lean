/- CatalogueMoves: runs. -/
import Derived.Test.YtialjngnlekplaaGreatDoorStLaw
namespace Go.Sy
open Go.RowKit Go.Proofs
set_option linter.unusedVariables false
set_option maxRecDepth 1000000
set_option maxHeartbeats 0
theorem ra_1_3_0 : chkA gM0_0 (stC0_3 1) (u 6 (-6)) (u 5 (-2)) (u 4 (-4)) = true:=by decide +kernel
theorem rb_1_3_0 : chkB gM0_0 (stC0_3 1) = true:=by decide +kernel
theorem ra_4_2_0 : chkA gM3_0 (stC3_2 1) (u 6 (-3)) (u 3 (-1)) (u 4 (-4)) = true:=by decide +kernel
theorem rb_4_2_0 : chkB gM3_0 (stC3_2 1) = true:=by decide +kernel
theorem ra_1_1_0 : chkA gM0_0 (stC0_1 1) (u 6 (-6)) (u 5 (-4)) (u 4 (-4)) = true:=by decide +kernel
theorem rb_1_1_0 : chkB gM0_0 (stC0_1 1) = true:=by decide +kernel
theorem ra_3_2_0 : chkA gM2_0 (stC2_2 1) (u 6 (-4)) (u 3 (-1)) (u 4 (-4)) = true:=by decide +kernel
theorem rb_3_2_0 : chkB gM2_0 (stC2_2 1) = true:=by decide +kernel
theorem ra_5_2_0 : chkA gM4_0 (stC4_2 1) (u 6 (-2)) (u 3 (-1)) (u 4 (-4)) = true:=by decide +kernel
theorem rb_5_2_0 : chkB gM4_0 (stC4_2 1) = true:=by decide +kernel
theorem ra_1_0_0 : chkA gM0_0 (stC0_0 1) (u 6 (-6)) (u 5 (-5)) (u 4 (-4)) = true:=by decide +kernel
theorem rb_1_0_0 : chkB gM0_0 (stC0_0 1) = true:=by decide +kernel
theorem ra_3_1_0 : chkA gM2_0 (stC2_1 1) (u 6 (-4)) (u 3 (-2)) (u 4 (-4)) = true:=by decide +kernel
theorem rb_3_1_0 : chkB gM2_0 (stC2_1 1) = true:=by decide +kernel
theorem ra_5_1_0 : chkA gM4_0 (stC4_1 1) (u 6 (-2)) (u 3 (-2)) (u 4 (-4)) = true:=by decide +kernel
theorem rb_5_1_0 : chkB gM4_0 (stC4_1 1) = true:=by decide +kernel
theorem ra_2_0_0 : chkA gM1_0 (stC1_0 1) (u 6 (-5)) (u 3 (-3)) (u 4 (-4)) = true:=by decide +kernel
theorem rb_2_0_0 : chkB gM1_0 (stC1_0 1) = true:=by decide +kernel
theorem ra_5_0_0 : chkA gM4_0 (stC4_0 1) (u 6 (-2)) (u 3 (-3)) (u 4 (-4)) = true:=by decide +kernel
theorem rb_5_0_0 : chkB gM4_0 (stC4_0 1) = true:=by decide +kernel
end Go.Sy
namespace Go.Sy
open Go.RowKit Go.Proofs
set_option linter.unusedVariables false
set_option maxRecDepth 1000000
set_option maxHeartbeats 0
theorem ra_1_3_1 : chkA gM0_1 (stC0_3 2) (u 6 (-6)) (u 5 (-2)) (u 4 (-3)) = true:=by decide +kernel
theorem rb_1_3_1 : chkB gM0_1 (stC0_3 2) = true:=by decide +kernel
theorem ra_4_2_1 : chkA gM3_1 (stC3_2 2) (u 6 (-3)) (u 3 (-1)) (u 4 (-3)) = true:=by decide +kernel
theorem rb_4_2_1 : chkB gM3_1 (stC3_2 2) = true:=by decide +kernel
theorem ra_1_1_1 : chkA gM0_1 (stC0_1 2) (u 6 (-6)) (u 5 (-4)) (u 4 (-3)) = true:=by decide +kernel
theorem rb_1_1_1 : chkB gM0_1 (stC0_1 2) = true:=by decide +kernel
theorem ra_3_2_1 : chkA gM2_1 (stC2_2 2) (u 6 (-4)) (u 3 (-1)) (u 4 (-3)) = true:=by decide +kernel
theorem rb_3_2_1 : chkB gM2_1 (stC2_2 2) = true:=by decide +kernel
theorem ra_5_2_1 : chkA gM4_1 (stC4_2 2) (u 6 (-2)) (u 3 (-1)) (u 4 (-3)) = true:=by decide +kernel
theorem rb_5_2_1 : chkB gM4_1 (stC4_2 2) = true:=by decide +kernel
theorem ra_1_0_1 : chkA gM0_1 (stC0_0 2) (u 6 (-6)) (u 5 (-5)) (u 4 (-3)) = true:=by decide +kernel
theorem rb_1_0_1 : chkB gM0_1 (stC0_0 2) = true:=by decide +kernel
theorem ra_3_1_1 : chkA gM2_1 (stC2_1 2) (u 6 (-4)) (u 3 (-2)) (u 4 (-3)) = true:=by decide +kernel
theorem rb_3_1_1 : chkB gM2_1 (stC2_1 2) = true:=by decide +kernel
theorem ra_5_1_1 : chkA gM4_1 (stC4_1 2) (u 6 (-2)) (u 3 (-2)) (u 4 (-3)) = true:=by decide +kernel
theorem rb_5_1_1 : chkB gM4_1 (stC4_1 2) = true:=by decide +kernel
theorem ra_2_0_1 : chkA gM1_1 (stC1_0 2) (u 6 (-5)) (u 3 (-3)) (u 4 (-3)) = true:=by decide +kernel
theorem rb_2_0_1 : chkB gM1_1 (stC1_0 2) = true:=by decide +kernel
theorem ra_5_0_1 : chkA gM4_1 (stC4_0 2) (u 6 (-2)) (u 3 (-3)) (u 4 (-3)) = true:=by decide +kernel
theorem rb_5_0_1 : chkB gM4_1 (stC4_0 2) = true:=by decide +kernel
end Go.Sy
