/- The tables of sweep.Witness, put together. -/
import Derived.Test.YtialjngnlekplaaGreatDoorStWr1
import Derived.Test.YtialjngnlekplaaGreatDoorStWr3
import Derived.Test.YtialjngnlekplaaGreatDoorStWr5
import Derived.Test.YtialjngnlekplaaGreatDoorStWr7
namespace Go.Sy
open Go.RowKit Go.Proofs
set_option linter.unusedVariables false
set_option maxRecDepth 1000000
set_option maxHeartbeats 0
def stB0 : List Q6:=W0_0++(W0_1++(W0_2++(W0_3++(W0_4++(W0_5++(W0_6++(W0_7)))))))
theorem stx0_0 : RanW gL0_0 (wiT stS0 1 stB0):=wj w0_0_0 (wj w0_0_1 (wj w0_0_2 (wj w0_0_3 (wj w0_0_4 (wj w0_0_5 (wj w0_0_6 w0_0_7))))))
theorem sts0_0 : solsB 1 stS0 = true:=by decide +kernel
noncomputable def gM0_0 : List (Dc Tryz.prog):=gWit stS0 1 stB0 gL0_0 sts0_0 stx0_0
theorem stx0_1 : RanW gL0_1 (wiT stS0 2 stB0):=wj w0_1_0 (wj w0_1_1 (wj w0_1_2 (wj w0_1_3 (wj w0_1_4 (wj w0_1_5 (wj w0_1_6 w0_1_7))))))
theorem sts0_1 : solsB 2 stS0 = true:=by decide +kernel
noncomputable def gM0_1 : List (Dc Tryz.prog):=gWit stS0 2 stB0 gL0_1 sts0_1 stx0_1
theorem stx0_2 : RanW gL0_2 (wiT stS0 3 stB0):=wj w0_2_0 (wj w0_2_1 (wj w0_2_2 (wj w0_2_3 (wj w0_2_4 (wj w0_2_5 (wj w0_2_6 w0_2_7))))))
theorem sts0_2 : solsB 3 stS0 = true:=by decide +kernel
noncomputable def gM0_2 : List (Dc Tryz.prog):=gWit stS0 3 stB0 gL0_2 sts0_2 stx0_2
theorem stx0_3 : RanW gL0_3 (wiT stS0 4 stB0):=wj w0_3_0 (wj w0_3_1 (wj w0_3_2 (wj w0_3_3 (wj w0_3_4 (wj w0_3_5 (wj w0_3_6 w0_3_7))))))
theorem sts0_3 : solsB 4 stS0 = true:=by decide +kernel
noncomputable def gM0_3 : List (Dc Tryz.prog):=gWit stS0 4 stB0 gL0_3 sts0_3 stx0_3
def stB1 : List Q6:=W1_0++(W1_1++(W1_2++(W1_3++(W1_4++(W1_5++(W1_6++(W1_7++(W1_8))))))))
theorem stx1_0 : RanW gL1_0 (wiT stS1 1 stB1):=wj w1_0_0 (wj w1_0_1 (wj w1_0_2 (wj w1_0_3 (wj w1_0_4 (wj w1_0_5 (wj w1_0_6 (wj w1_0_7 w1_0_8)))))))
theorem sts1_0 : solsB 1 stS1 = true:=by decide +kernel
noncomputable def gM1_0 : List (Dc Tryz.prog):=gWit stS1 1 stB1 gL1_0 sts1_0 stx1_0
theorem stx1_1 : RanW gL1_1 (wiT stS1 2 stB1):=wj w1_1_0 (wj w1_1_1 (wj w1_1_2 (wj w1_1_3 (wj w1_1_4 (wj w1_1_5 (wj w1_1_6 (wj w1_1_7 w1_1_8)))))))
theorem sts1_1 : solsB 2 stS1 = true:=by decide +kernel
noncomputable def gM1_1 : List (Dc Tryz.prog):=gWit stS1 2 stB1 gL1_1 sts1_1 stx1_1
theorem stx1_2 : RanW gL1_2 (wiT stS1 3 stB1):=wj w1_2_0 (wj w1_2_1 (wj w1_2_2 (wj w1_2_3 (wj w1_2_4 (wj w1_2_5 (wj w1_2_6 (wj w1_2_7 w1_2_8)))))))
theorem sts1_2 : solsB 3 stS1 = true:=by decide +kernel
noncomputable def gM1_2 : List (Dc Tryz.prog):=gWit stS1 3 stB1 gL1_2 sts1_2 stx1_2
theorem stx1_3 : RanW gL1_3 (wiT stS1 4 stB1):=wj w1_3_0 (wj w1_3_1 (wj w1_3_2 (wj w1_3_3 (wj w1_3_4 (wj w1_3_5 (wj w1_3_6 (wj w1_3_7 w1_3_8)))))))
theorem sts1_3 : solsB 4 stS1 = true:=by decide +kernel
noncomputable def gM1_3 : List (Dc Tryz.prog):=gWit stS1 4 stB1 gL1_3 sts1_3 stx1_3
def stB2 : List Q6:=W2_0++(W2_1++(W2_2++(W2_3++(W2_4++(W2_5++(W2_6++(W2_7++(W2_8++(W2_9++(W2_10++(W2_11++(W2_12++(W2_13++(W2_14++(W2_15)))))))))))))))
theorem stx2_0 : RanW gL2_0 (wiT stS2 1 stB2):=wj w2_0_0 (wj w2_0_1 (wj w2_0_2 (wj w2_0_3 (wj w2_0_4 (wj w2_0_5 (wj w2_0_6 (wj w2_0_7 (wj w2_0_8 (wj w2_0_9 (wj w2_0_10 (wj w2_0_11 (wj w2_0_12 (wj w2_0_13 (wj w2_0_14 w2_0_15))))))))))))))
theorem sts2_0 : solsB 1 stS2 = true:=by decide +kernel
noncomputable def gM2_0 : List (Dc Tryz.prog):=gWit stS2 1 stB2 gL2_0 sts2_0 stx2_0
theorem stx2_1 : RanW gL2_1 (wiT stS2 2 stB2):=wj w2_1_0 (wj w2_1_1 (wj w2_1_2 (wj w2_1_3 (wj w2_1_4 (wj w2_1_5 (wj w2_1_6 (wj w2_1_7 (wj w2_1_8 (wj w2_1_9 (wj w2_1_10 (wj w2_1_11 (wj w2_1_12 (wj w2_1_13 (wj w2_1_14 w2_1_15))))))))))))))
theorem sts2_1 : solsB 2 stS2 = true:=by decide +kernel
noncomputable def gM2_1 : List (Dc Tryz.prog):=gWit stS2 2 stB2 gL2_1 sts2_1 stx2_1
theorem stx2_2 : RanW gL2_2 (wiT stS2 3 stB2):=wj w2_2_0 (wj w2_2_1 (wj w2_2_2 (wj w2_2_3 (wj w2_2_4 (wj w2_2_5 (wj w2_2_6 (wj w2_2_7 (wj w2_2_8 (wj w2_2_9 (wj w2_2_10 (wj w2_2_11 (wj w2_2_12 (wj w2_2_13 (wj w2_2_14 w2_2_15))))))))))))))
theorem sts2_2 : solsB 3 stS2 = true:=by decide +kernel
noncomputable def gM2_2 : List (Dc Tryz.prog):=gWit stS2 3 stB2 gL2_2 sts2_2 stx2_2
theorem stx2_3 : RanW gL2_3 (wiT stS2 4 stB2):=wj w2_3_0 (wj w2_3_1 (wj w2_3_2 (wj w2_3_3 (wj w2_3_4 (wj w2_3_5 (wj w2_3_6 (wj w2_3_7 (wj w2_3_8 (wj w2_3_9 (wj w2_3_10 (wj w2_3_11 (wj w2_3_12 (wj w2_3_13 (wj w2_3_14 w2_3_15))))))))))))))
theorem sts2_3 : solsB 4 stS2 = true:=by decide +kernel
noncomputable def gM2_3 : List (Dc Tryz.prog):=gWit stS2 4 stB2 gL2_3 sts2_3 stx2_3
def stB3 : List Q6:=W3_0++(W3_1++(W3_2++(W3_3++(W3_4++(W3_5++(W3_6++(W3_7++(W3_8++(W3_9++(W3_10++(W3_11++(W3_12))))))))))))
theorem stx3_0 : RanW gL3_0 (wiT stS3 1 stB3):=wj w3_0_0 (wj w3_0_1 (wj w3_0_2 (wj w3_0_3 (wj w3_0_4 (wj w3_0_5 (wj w3_0_6 (wj w3_0_7 (wj w3_0_8 (wj w3_0_9 (wj w3_0_10 (wj w3_0_11 w3_0_12)))))))))))
theorem sts3_0 : solsB 1 stS3 = true:=by decide +kernel
noncomputable def gM3_0 : List (Dc Tryz.prog):=gWit stS3 1 stB3 gL3_0 sts3_0 stx3_0
theorem stx3_1 : RanW gL3_1 (wiT stS3 2 stB3):=wj w3_1_0 (wj w3_1_1 (wj w3_1_2 (wj w3_1_3 (wj w3_1_4 (wj w3_1_5 (wj w3_1_6 (wj w3_1_7 (wj w3_1_8 (wj w3_1_9 (wj w3_1_10 (wj w3_1_11 w3_1_12)))))))))))
theorem sts3_1 : solsB 2 stS3 = true:=by decide +kernel
noncomputable def gM3_1 : List (Dc Tryz.prog):=gWit stS3 2 stB3 gL3_1 sts3_1 stx3_1
theorem stx3_2 : RanW gL3_2 (wiT stS3 3 stB3):=wj w3_2_0 (wj w3_2_1 (wj w3_2_2 (wj w3_2_3 (wj w3_2_4 (wj w3_2_5 (wj w3_2_6 (wj w3_2_7 (wj w3_2_8 (wj w3_2_9 (wj w3_2_10 (wj w3_2_11 w3_2_12)))))))))))
theorem sts3_2 : solsB 3 stS3 = true:=by decide +kernel
noncomputable def gM3_2 : List (Dc Tryz.prog):=gWit stS3 3 stB3 gL3_2 sts3_2 stx3_2
theorem stx3_3 : RanW gL3_3 (wiT stS3 4 stB3):=wj w3_3_0 (wj w3_3_1 (wj w3_3_2 (wj w3_3_3 (wj w3_3_4 (wj w3_3_5 (wj w3_3_6 (wj w3_3_7 (wj w3_3_8 (wj w3_3_9 (wj w3_3_10 (wj w3_3_11 w3_3_12)))))))))))
theorem sts3_3 : solsB 4 stS3 = true:=by decide +kernel
noncomputable def gM3_3 : List (Dc Tryz.prog):=gWit stS3 4 stB3 gL3_3 sts3_3 stx3_3
def stB4 : List Q6:=W4_0++(W4_1++(W4_2++(W4_3++(W4_4++(W4_5++(W4_6++(W4_7++(W4_8++(W4_9++(W4_10++(W4_11++(W4_12))))))))))))
theorem stx4_0 : RanW gL4_0 (wiT stS4 1 stB4):=wj w4_0_0 (wj w4_0_1 (wj w4_0_2 (wj w4_0_3 (wj w4_0_4 (wj w4_0_5 (wj w4_0_6 (wj w4_0_7 (wj w4_0_8 (wj w4_0_9 (wj w4_0_10 (wj w4_0_11 w4_0_12)))))))))))
theorem sts4_0 : solsB 1 stS4 = true:=by decide +kernel
noncomputable def gM4_0 : List (Dc Tryz.prog):=gWit stS4 1 stB4 gL4_0 sts4_0 stx4_0
theorem stx4_1 : RanW gL4_1 (wiT stS4 2 stB4):=wj w4_1_0 (wj w4_1_1 (wj w4_1_2 (wj w4_1_3 (wj w4_1_4 (wj w4_1_5 (wj w4_1_6 (wj w4_1_7 (wj w4_1_8 (wj w4_1_9 (wj w4_1_10 (wj w4_1_11 w4_1_12)))))))))))
theorem sts4_1 : solsB 2 stS4 = true:=by decide +kernel
noncomputable def gM4_1 : List (Dc Tryz.prog):=gWit stS4 2 stB4 gL4_1 sts4_1 stx4_1
theorem stx4_2 : RanW gL4_2 (wiT stS4 3 stB4):=wj w4_2_0 (wj w4_2_1 (wj w4_2_2 (wj w4_2_3 (wj w4_2_4 (wj w4_2_5 (wj w4_2_6 (wj w4_2_7 (wj w4_2_8 (wj w4_2_9 (wj w4_2_10 (wj w4_2_11 w4_2_12)))))))))))
theorem sts4_2 : solsB 3 stS4 = true:=by decide +kernel
noncomputable def gM4_2 : List (Dc Tryz.prog):=gWit stS4 3 stB4 gL4_2 sts4_2 stx4_2
theorem stx4_3 : RanW gL4_3 (wiT stS4 4 stB4):=wj w4_3_0 (wj w4_3_1 (wj w4_3_2 (wj w4_3_3 (wj w4_3_4 (wj w4_3_5 (wj w4_3_6 (wj w4_3_7 (wj w4_3_8 (wj w4_3_9 (wj w4_3_10 (wj w4_3_11 w4_3_12)))))))))))
theorem sts4_3 : solsB 4 stS4 = true:=by decide +kernel
noncomputable def gM4_3 : List (Dc Tryz.prog):=gWit stS4 4 stB4 gL4_3 sts4_3 stx4_3
def stB5 : List Q6:=W5_0++(W5_1++(W5_2++(W5_3++(W5_4++(W5_5++(W5_6++(W5_7++(W5_8++(W5_9++(W5_10++(W5_11++(W5_12))))))))))))
theorem stx5_0 : RanW gL5_0 (wiT stS5 1 stB5):=wj w5_0_0 (wj w5_0_1 (wj w5_0_2 (wj w5_0_3 (wj w5_0_4 (wj w5_0_5 (wj w5_0_6 (wj w5_0_7 (wj w5_0_8 (wj w5_0_9 (wj w5_0_10 (wj w5_0_11 w5_0_12)))))))))))
theorem sts5_0 : solsB 1 stS5 = true:=by decide +kernel
noncomputable def gM5_0 : List (Dc Tryz.prog):=gWit stS5 1 stB5 gL5_0 sts5_0 stx5_0
theorem stx5_1 : RanW gL5_1 (wiT stS5 2 stB5):=wj w5_1_0 (wj w5_1_1 (wj w5_1_2 (wj w5_1_3 (wj w5_1_4 (wj w5_1_5 (wj w5_1_6 (wj w5_1_7 (wj w5_1_8 (wj w5_1_9 (wj w5_1_10 (wj w5_1_11 w5_1_12)))))))))))
theorem sts5_1 : solsB 2 stS5 = true:=by decide +kernel
noncomputable def gM5_1 : List (Dc Tryz.prog):=gWit stS5 2 stB5 gL5_1 sts5_1 stx5_1
theorem stx5_2 : RanW gL5_2 (wiT stS5 3 stB5):=wj w5_2_0 (wj w5_2_1 (wj w5_2_2 (wj w5_2_3 (wj w5_2_4 (wj w5_2_5 (wj w5_2_6 (wj w5_2_7 (wj w5_2_8 (wj w5_2_9 (wj w5_2_10 (wj w5_2_11 w5_2_12)))))))))))
theorem sts5_2 : solsB 3 stS5 = true:=by decide +kernel
noncomputable def gM5_2 : List (Dc Tryz.prog):=gWit stS5 3 stB5 gL5_2 sts5_2 stx5_2
theorem stx5_3 : RanW gL5_3 (wiT stS5 4 stB5):=wj w5_3_0 (wj w5_3_1 (wj w5_3_2 (wj w5_3_3 (wj w5_3_4 (wj w5_3_5 (wj w5_3_6 (wj w5_3_7 (wj w5_3_8 (wj w5_3_9 (wj w5_3_10 (wj w5_3_11 w5_3_12)))))))))))
theorem sts5_3 : solsB 4 stS5 = true:=by decide +kernel
noncomputable def gM5_3 : List (Dc Tryz.prog):=gWit stS5 4 stB5 gL5_3 sts5_3 stx5_3
end Go.Sy
