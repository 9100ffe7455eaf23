/- The tables of sweep.Witness, put together. -/
import Derived.Test.YtemoafmennfhhaaGreatDoorStWr1
import Derived.Test.YtemoafmennfhhaaGreatDoorStWr3
import Derived.Test.YtemoafmennfhhaaGreatDoorStWr5
import Derived.Test.YtemoafmennfhhaaGreatDoorStWr7
namespace Go.Sy
open Go.RowKit Go.Proofs
set_option linter.unusedVariables false
set_option maxRecDepth 1000000
set_option maxHeartbeats 0
def stB0 : List Q6:=stW0_0
theorem stx0_0 : RanW gL0_0 (wiT stS0 1 stB0):=stwr0_0_0
theorem sts0_0 : solsB 1 stS0 = true:=by decide +kernel
noncomputable def gM0_0 : List (Dc Tryz.prog):=gWit stS0 1 stB0 gL0_0 sts0_0 stx0_0
theorem stx0_1 : RanW gL0_1 (wiT stS0 2 stB0):=stwr0_1_0
theorem sts0_1 : solsB 2 stS0 = true:=by decide +kernel
noncomputable def gM0_1 : List (Dc Tryz.prog):=gWit stS0 2 stB0 gL0_1 sts0_1 stx0_1
theorem stx0_2 : RanW gL0_2 (wiT stS0 3 stB0):=stwr0_2_0
theorem sts0_2 : solsB 3 stS0 = true:=by decide +kernel
noncomputable def gM0_2 : List (Dc Tryz.prog):=gWit stS0 3 stB0 gL0_2 sts0_2 stx0_2
theorem stx0_3 : RanW gL0_3 (wiT stS0 4 stB0):=stwr0_3_0
theorem sts0_3 : solsB 4 stS0 = true:=by decide +kernel
noncomputable def gM0_3 : List (Dc Tryz.prog):=gWit stS0 4 stB0 gL0_3 sts0_3 stx0_3
def stB1 : List Q6:=stW1_0
theorem stx1_0 : RanW gL1_0 (wiT stS1 1 stB1):=stwr1_0_0
theorem sts1_0 : solsB 1 stS1 = true:=by decide +kernel
noncomputable def gM1_0 : List (Dc Tryz.prog):=gWit stS1 1 stB1 gL1_0 sts1_0 stx1_0
theorem stx1_1 : RanW gL1_1 (wiT stS1 2 stB1):=stwr1_1_0
theorem sts1_1 : solsB 2 stS1 = true:=by decide +kernel
noncomputable def gM1_1 : List (Dc Tryz.prog):=gWit stS1 2 stB1 gL1_1 sts1_1 stx1_1
theorem stx1_2 : RanW gL1_2 (wiT stS1 3 stB1):=stwr1_2_0
theorem sts1_2 : solsB 3 stS1 = true:=by decide +kernel
noncomputable def gM1_2 : List (Dc Tryz.prog):=gWit stS1 3 stB1 gL1_2 sts1_2 stx1_2
theorem stx1_3 : RanW gL1_3 (wiT stS1 4 stB1):=stwr1_3_0
theorem sts1_3 : solsB 4 stS1 = true:=by decide +kernel
noncomputable def gM1_3 : List (Dc Tryz.prog):=gWit stS1 4 stB1 gL1_3 sts1_3 stx1_3
def stB2 : List Q6:=stW2_0++(stW2_1)
theorem stx2_0 : RanW gL2_0 (wiT stS2 1 stB2):=ranW_app stwr2_0_0 stwr2_0_1
theorem sts2_0 : solsB 1 stS2 = true:=by decide +kernel
noncomputable def gM2_0 : List (Dc Tryz.prog):=gWit stS2 1 stB2 gL2_0 sts2_0 stx2_0
theorem stx2_1 : RanW gL2_1 (wiT stS2 2 stB2):=ranW_app stwr2_1_0 stwr2_1_1
theorem sts2_1 : solsB 2 stS2 = true:=by decide +kernel
noncomputable def gM2_1 : List (Dc Tryz.prog):=gWit stS2 2 stB2 gL2_1 sts2_1 stx2_1
theorem stx2_2 : RanW gL2_2 (wiT stS2 3 stB2):=ranW_app stwr2_2_0 stwr2_2_1
theorem sts2_2 : solsB 3 stS2 = true:=by decide +kernel
noncomputable def gM2_2 : List (Dc Tryz.prog):=gWit stS2 3 stB2 gL2_2 sts2_2 stx2_2
theorem stx2_3 : RanW gL2_3 (wiT stS2 4 stB2):=ranW_app stwr2_3_0 stwr2_3_1
theorem sts2_3 : solsB 4 stS2 = true:=by decide +kernel
noncomputable def gM2_3 : List (Dc Tryz.prog):=gWit stS2 4 stB2 gL2_3 sts2_3 stx2_3
def stB3 : List Q6:=stW3_0++(stW3_1++(stW3_2++(stW3_3++(stW3_4++(stW3_5++(stW3_6++(stW3_7++(stW3_8++(stW3_9++(stW3_10++(stW3_11++(stW3_12++(stW3_13++(stW3_14++(stW3_15++(stW3_16++(stW3_17++(stW3_18++(stW3_19++(stW3_20++(stW3_21++(stW3_22++(stW3_23)))))))))))))))))))))))
theorem stx3_0 : RanW gL3_0 (wiT stS3 1 stB3):=ranW_app stwr3_0_0 (ranW_app stwr3_0_1 (ranW_app stwr3_0_2 (ranW_app stwr3_0_3 (ranW_app stwr3_0_4 (ranW_app stwr3_0_5 (ranW_app stwr3_0_6 (ranW_app stwr3_0_7 (ranW_app stwr3_0_8 (ranW_app stwr3_0_9 (ranW_app stwr3_0_10 (ranW_app stwr3_0_11 (ranW_app stwr3_0_12 (ranW_app stwr3_0_13 (ranW_app stwr3_0_14 (ranW_app stwr3_0_15 (ranW_app stwr3_0_16 (ranW_app stwr3_0_17 (ranW_app stwr3_0_18 (ranW_app stwr3_0_19 (ranW_app stwr3_0_20 (ranW_app stwr3_0_21 (ranW_app stwr3_0_22 stwr3_0_23))))))))))))))))))))))
theorem sts3_0 : solsB 1 stS3 = true:=by decide +kernel
noncomputable def gM3_0 : List (Dc Tryz.prog):=gWit stS3 1 stB3 gL3_0 sts3_0 stx3_0
theorem stx3_1 : RanW gL3_1 (wiT stS3 2 stB3):=ranW_app stwr3_1_0 (ranW_app stwr3_1_1 (ranW_app stwr3_1_2 (ranW_app stwr3_1_3 (ranW_app stwr3_1_4 (ranW_app stwr3_1_5 (ranW_app stwr3_1_6 (ranW_app stwr3_1_7 (ranW_app stwr3_1_8 (ranW_app stwr3_1_9 (ranW_app stwr3_1_10 (ranW_app stwr3_1_11 (ranW_app stwr3_1_12 (ranW_app stwr3_1_13 (ranW_app stwr3_1_14 (ranW_app stwr3_1_15 (ranW_app stwr3_1_16 (ranW_app stwr3_1_17 (ranW_app stwr3_1_18 (ranW_app stwr3_1_19 (ranW_app stwr3_1_20 (ranW_app stwr3_1_21 (ranW_app stwr3_1_22 stwr3_1_23))))))))))))))))))))))
theorem sts3_1 : solsB 2 stS3 = true:=by decide +kernel
noncomputable def gM3_1 : List (Dc Tryz.prog):=gWit stS3 2 stB3 gL3_1 sts3_1 stx3_1
theorem stx3_2 : RanW gL3_2 (wiT stS3 3 stB3):=ranW_app stwr3_2_0 (ranW_app stwr3_2_1 (ranW_app stwr3_2_2 (ranW_app stwr3_2_3 (ranW_app stwr3_2_4 (ranW_app stwr3_2_5 (ranW_app stwr3_2_6 (ranW_app stwr3_2_7 (ranW_app stwr3_2_8 (ranW_app stwr3_2_9 (ranW_app stwr3_2_10 (ranW_app stwr3_2_11 (ranW_app stwr3_2_12 (ranW_app stwr3_2_13 (ranW_app stwr3_2_14 (ranW_app stwr3_2_15 (ranW_app stwr3_2_16 (ranW_app stwr3_2_17 (ranW_app stwr3_2_18 (ranW_app stwr3_2_19 (ranW_app stwr3_2_20 (ranW_app stwr3_2_21 (ranW_app stwr3_2_22 stwr3_2_23))))))))))))))))))))))
theorem sts3_2 : solsB 3 stS3 = true:=by decide +kernel
noncomputable def gM3_2 : List (Dc Tryz.prog):=gWit stS3 3 stB3 gL3_2 sts3_2 stx3_2
theorem stx3_3 : RanW gL3_3 (wiT stS3 4 stB3):=ranW_app stwr3_3_0 (ranW_app stwr3_3_1 (ranW_app stwr3_3_2 (ranW_app stwr3_3_3 (ranW_app stwr3_3_4 (ranW_app stwr3_3_5 (ranW_app stwr3_3_6 (ranW_app stwr3_3_7 (ranW_app stwr3_3_8 (ranW_app stwr3_3_9 (ranW_app stwr3_3_10 (ranW_app stwr3_3_11 (ranW_app stwr3_3_12 (ranW_app stwr3_3_13 (ranW_app stwr3_3_14 (ranW_app stwr3_3_15 (ranW_app stwr3_3_16 (ranW_app stwr3_3_17 (ranW_app stwr3_3_18 (ranW_app stwr3_3_19 (ranW_app stwr3_3_20 (ranW_app stwr3_3_21 (ranW_app stwr3_3_22 stwr3_3_23))))))))))))))))))))))
theorem sts3_3 : solsB 4 stS3 = true:=by decide +kernel
noncomputable def gM3_3 : List (Dc Tryz.prog):=gWit stS3 4 stB3 gL3_3 sts3_3 stx3_3
def stB4 : List Q6:=stW4_0++(stW4_1)
theorem stx4_0 : RanW gL4_0 (wiT stS4 1 stB4):=ranW_app stwr4_0_0 stwr4_0_1
theorem sts4_0 : solsB 1 stS4 = true:=by decide +kernel
noncomputable def gM4_0 : List (Dc Tryz.prog):=gWit stS4 1 stB4 gL4_0 sts4_0 stx4_0
theorem stx4_1 : RanW gL4_1 (wiT stS4 2 stB4):=ranW_app stwr4_1_0 stwr4_1_1
theorem sts4_1 : solsB 2 stS4 = true:=by decide +kernel
noncomputable def gM4_1 : List (Dc Tryz.prog):=gWit stS4 2 stB4 gL4_1 sts4_1 stx4_1
theorem stx4_2 : RanW gL4_2 (wiT stS4 3 stB4):=ranW_app stwr4_2_0 stwr4_2_1
theorem sts4_2 : solsB 3 stS4 = true:=by decide +kernel
noncomputable def gM4_2 : List (Dc Tryz.prog):=gWit stS4 3 stB4 gL4_2 sts4_2 stx4_2
theorem stx4_3 : RanW gL4_3 (wiT stS4 4 stB4):=ranW_app stwr4_3_0 stwr4_3_1
theorem sts4_3 : solsB 4 stS4 = true:=by decide +kernel
noncomputable def gM4_3 : List (Dc Tryz.prog):=gWit stS4 4 stB4 gL4_3 sts4_3 stx4_3
def stB5 : List Q6:=stW5_0++(stW5_1)
theorem stx5_0 : RanW gL5_0 (wiT stS5 1 stB5):=ranW_app stwr5_0_0 stwr5_0_1
theorem sts5_0 : solsB 1 stS5 = true:=by decide +kernel
noncomputable def gM5_0 : List (Dc Tryz.prog):=gWit stS5 1 stB5 gL5_0 sts5_0 stx5_0
theorem stx5_1 : RanW gL5_1 (wiT stS5 2 stB5):=ranW_app stwr5_1_0 stwr5_1_1
theorem sts5_1 : solsB 2 stS5 = true:=by decide +kernel
noncomputable def gM5_1 : List (Dc Tryz.prog):=gWit stS5 2 stB5 gL5_1 sts5_1 stx5_1
theorem stx5_2 : RanW gL5_2 (wiT stS5 3 stB5):=ranW_app stwr5_2_0 stwr5_2_1
theorem sts5_2 : solsB 3 stS5 = true:=by decide +kernel
noncomputable def gM5_2 : List (Dc Tryz.prog):=gWit stS5 3 stB5 gL5_2 sts5_2 stx5_2
theorem stx5_3 : RanW gL5_3 (wiT stS5 4 stB5):=ranW_app stwr5_3_0 stwr5_3_1
theorem sts5_3 : solsB 4 stS5 = true:=by decide +kernel
noncomputable def gM5_3 : List (Dc Tryz.prog):=gWit stS5 4 stB5 gL5_3 sts5_3 stx5_3
end Go.Sy
