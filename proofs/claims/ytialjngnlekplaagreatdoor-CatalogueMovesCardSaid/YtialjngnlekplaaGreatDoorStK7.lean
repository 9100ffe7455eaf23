/- CatalogueMoves: runs. -/
import Derived.Test.YtialjngnlekplaaGreatDoorStLaw
namespace Go.Sy
open Go.RowKit Go.Proofs
set_option linter.unusedVariables false
set_option maxRecDepth 1000000
set_option maxHeartbeats 0
theorem ra_1_3_2 : chkA gM0_2 (stC0_3 3) (u 6 (-6)) (u 5 (-2)) (u 4 (-2)) = true:=by decide +kernel
theorem rb_1_3_2 : chkB gM0_2 (stC0_3 3) = true:=by decide +kernel
theorem ra_4_2_2 : chkA gM3_2 (stC3_2 3) (u 6 (-3)) (u 3 (-1)) (u 4 (-2)) = true:=by decide +kernel
theorem rb_4_2_2 : chkB gM3_2 (stC3_2 3) = true:=by decide +kernel
theorem ra_1_1_2 : chkA gM0_2 (stC0_1 3) (u 6 (-6)) (u 5 (-4)) (u 4 (-2)) = true:=by decide +kernel
theorem rb_1_1_2 : chkB gM0_2 (stC0_1 3) = true:=by decide +kernel
theorem ra_3_2_2 : chkA gM2_2 (stC2_2 3) (u 6 (-4)) (u 3 (-1)) (u 4 (-2)) = true:=by decide +kernel
theorem rb_3_2_2 : chkB gM2_2 (stC2_2 3) = true:=by decide +kernel
theorem ra_5_2_2 : chkA gM4_2 (stC4_2 3) (u 6 (-2)) (u 3 (-1)) (u 4 (-2)) = true:=by decide +kernel
theorem rb_5_2_2 : chkB gM4_2 (stC4_2 3) = true:=by decide +kernel
theorem ra_1_0_2 : chkA gM0_2 (stC0_0 3) (u 6 (-6)) (u 5 (-5)) (u 4 (-2)) = true:=by decide +kernel
theorem rb_1_0_2 : chkB gM0_2 (stC0_0 3) = true:=by decide +kernel
theorem ra_3_1_2 : chkA gM2_2 (stC2_1 3) (u 6 (-4)) (u 3 (-2)) (u 4 (-2)) = true:=by decide +kernel
theorem rb_3_1_2 : chkB gM2_2 (stC2_1 3) = true:=by decide +kernel
theorem ra_5_1_2 : chkA gM4_2 (stC4_1 3) (u 6 (-2)) (u 3 (-2)) (u 4 (-2)) = true:=by decide +kernel
theorem rb_5_1_2 : chkB gM4_2 (stC4_1 3) = true:=by decide +kernel
theorem ra_2_0_2 : chkA gM1_2 (stC1_0 3) (u 6 (-5)) (u 3 (-3)) (u 4 (-2)) = true:=by decide +kernel
theorem rb_2_0_2 : chkB gM1_2 (stC1_0 3) = true:=by decide +kernel
theorem ra_5_0_2 : chkA gM4_2 (stC4_0 3) (u 6 (-2)) (u 3 (-3)) (u 4 (-2)) = true:=by decide +kernel
theorem rb_5_0_2 : chkB gM4_2 (stC4_0 3) = true:=by decide +kernel
end Go.Sy
namespace Go.Sy
open Go.RowKit Go.Proofs
set_option linter.unusedVariables false
set_option maxRecDepth 1000000
set_option maxHeartbeats 0
theorem ra_1_3_3 : chkA gM0_3 (stC0_3 4) (u 6 (-6)) (u 5 (-2)) (u 4 (-1)) = true:=by decide +kernel
theorem rb_1_3_3 : chkB gM0_3 (stC0_3 4) = true:=by decide +kernel
theorem ra_4_2_3 : chkA gM3_3 (stC3_2 4) (u 6 (-3)) (u 3 (-1)) (u 4 (-1)) = true:=by decide +kernel
theorem rb_4_2_3 : chkB gM3_3 (stC3_2 4) = true:=by decide +kernel
theorem ra_1_1_3 : chkA gM0_3 (stC0_1 4) (u 6 (-6)) (u 5 (-4)) (u 4 (-1)) = true:=by decide +kernel
theorem rb_1_1_3 : chkB gM0_3 (stC0_1 4) = true:=by decide +kernel
theorem ra_3_2_3 : chkA gM2_3 (stC2_2 4) (u 6 (-4)) (u 3 (-1)) (u 4 (-1)) = true:=by decide +kernel
theorem rb_3_2_3 : chkB gM2_3 (stC2_2 4) = true:=by decide +kernel
theorem ra_5_2_3 : chkA gM4_3 (stC4_2 4) (u 6 (-2)) (u 3 (-1)) (u 4 (-1)) = true:=by decide +kernel
theorem rb_5_2_3 : chkB gM4_3 (stC4_2 4) = true:=by decide +kernel
theorem ra_1_0_3 : chkA gM0_3 (stC0_0 4) (u 6 (-6)) (u 5 (-5)) (u 4 (-1)) = true:=by decide +kernel
theorem rb_1_0_3 : chkB gM0_3 (stC0_0 4) = true:=by decide +kernel
theorem ra_3_1_3 : chkA gM2_3 (stC2_1 4) (u 6 (-4)) (u 3 (-2)) (u 4 (-1)) = true:=by decide +kernel
theorem rb_3_1_3 : chkB gM2_3 (stC2_1 4) = true:=by decide +kernel
theorem ra_5_1_3 : chkA gM4_3 (stC4_1 4) (u 6 (-2)) (u 3 (-2)) (u 4 (-1)) = true:=by decide +kernel
theorem rb_5_1_3 : chkB gM4_3 (stC4_1 4) = true:=by decide +kernel
theorem ra_2_0_3 : chkA gM1_3 (stC1_0 4) (u 6 (-5)) (u 3 (-3)) (u 4 (-1)) = true:=by decide +kernel
theorem rb_2_0_3 : chkB gM1_3 (stC1_0 4) = true:=by decide +kernel
theorem ra_5_0_3 : chkA gM4_3 (stC4_0 4) (u 6 (-2)) (u 3 (-3)) (u 4 (-1)) = true:=by decide +kernel
theorem rb_5_0_3 : chkB gM4_3 (stC4_0 4) = true:=by decide +kernel
end Go.Sy
