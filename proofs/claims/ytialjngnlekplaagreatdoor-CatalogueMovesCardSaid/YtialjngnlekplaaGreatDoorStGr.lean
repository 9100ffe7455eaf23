/- What is known beforehand, by kind and scale. -/
import Derived.Test.YtialjngnlekplaaGreatDoorStG7
namespace Go.Sy
open Go.RowKit Go.Proofs
set_option linter.unusedVariables false
set_option maxRecDepth 1000000
set_option maxHeartbeats 0
noncomputable section
abbrev RanOf (l : List (AV × AV)) : Prop:=ranAll Tryz.prog stov1 175 l = true
abbrev RanPe (l : List (AV × AV)) : Prop:=ranAll Tryz.prog stov2 178 l = true
abbrev RanDi (l : List (AV × AV)) : Prop:=ranAll Tryz.prog stov2 212 l = true
abbrev RanPl (l : List (AV × AV)) : Prop:=ranAll Tryz.prog stov2 185 l = true
def gList {of pe di pl : List (AV × AV)} (h1 : RanOf of) (h2 : RanPe pe) (h3 : RanDi di) (h4 : RanPl pl) : List (Dc Tryz.prog) :=
  d_Iv di (ranAll_ok p_mixed p_callable stov2_ok (by decide) h3) (hasbody rfl rfl)::d_St di (ranAll_ok p_mixed p_callable stov2_ok (by decide) h3) (hasbody rfl rfl) ::
  Dc.memo 178 pe (ranAll_ok p_mixed p_callable stov2_ok (by decide) h2) (hasbody rfl rfl)::Dc.memo 212 di (ranAll_ok p_mixed p_callable stov2_ok (by decide) h3) (hasbody rfl rfl) ::
  Dc.memo 185 pl (ranAll_ok p_mixed p_callable stov2_ok (by decide) h4) (hasbody rfl rfl) ::
  Dc.memo 175 of (ranAll_ok p_mixed p_callable stov1_ok (by decide) h1) (hasbody rfl rfl)::stdc1
def ovL (l : List (Dc Tryz.prog)) : Tgt → AV → Heap → Option CR:=ovD (dcTab l)
theorem ovL_ok (l : List (Dc Tryz.prog)) (B0 : Nat) : OvOK Tryz.prog B0 (ovL l):=ovD_ok p_callable _ B0
theorem rOf0_0 : RanOf (stOf41 ++(stOf42)):=ranAll_app stranOf41 stranOf42
theorem rPe0_0 : RanPe ([]):=rfl
theorem rDi0_0 : RanDi (stDi10):=stranDi10
theorem rPl0_0 : RanPl (stPl20 ++(stPl21)):=ranAll_app stranPl20 stranPl21
def gL0_0 : List (Dc Tryz.prog):=gList rOf0_0 rPe0_0 rDi0_0 rPl0_0
theorem rOf0_1 : RanOf (stOf20 ++(stOf21 ++(stOf61))):=ranAll_app stranOf20 (ranAll_app stranOf21 stranOf61)
theorem rPe0_1 : RanPe ([]):=rfl
theorem rDi0_1 : RanDi (stDi5 ++(stDi15)):=ranAll_app stranDi5 stranDi15
theorem rPl0_1 : RanPl (stPl10 ++(stPl30)):=ranAll_app stranPl10 stranPl30
def gL0_1 : List (Dc Tryz.prog):=gList rOf0_1 rPe0_1 rDi0_1 rPl0_1
theorem rOf0_2 : RanOf (stOf17 ++(stOf18)):=ranAll_app stranOf17 stranOf18
theorem rPe0_2 : RanPe ([]):=rfl
theorem rDi0_2 : RanDi (stDi4):=stranDi4
theorem rPl0_2 : RanPl (stPl8 ++(stPl9)):=ranAll_app stranPl8 stranPl9
def gL0_2 : List (Dc Tryz.prog):=gList rOf0_2 rPe0_2 rDi0_2 rPl0_2
theorem rOf0_3 : RanOf (stOf1 ++(stOf4 ++(stOf5 ++(stOf51 ++(stOf62))))):=ranAll_app stranOf1 (ranAll_app stranOf4 (ranAll_app stranOf5 (ranAll_app stranOf51 stranOf62)))
theorem rPe0_3 : RanPe ([]):=rfl
theorem rDi0_3 : RanDi (stDi0 ++(stDi1 ++(stDi12 ++(stDi15)))):=ranAll_app stranDi0 (ranAll_app stranDi1 (ranAll_app stranDi12 stranDi15))
theorem rPl0_3 : RanPl (stPl0 ++(stPl2 ++(stPl25 ++(stPl31)))):=ranAll_app stranPl0 (ranAll_app stranPl2 (ranAll_app stranPl25 stranPl31))
def gL0_3 : List (Dc Tryz.prog):=gList rOf0_3 rPe0_3 rDi0_3 rPl0_3
theorem rOf1_0 : RanOf (stOf16 ++(stOf17 ++(stOf39 ++(stOf40 ++(stOf58))))):=ranAll_app stranOf16 (ranAll_app stranOf17 (ranAll_app stranOf39 (ranAll_app stranOf40 stranOf58)))
theorem rPe1_0 : RanPe (stPe5 ++(stPe15 ++(stPe25 ++(stPe26)))):=ranAll_app stranPe5 (ranAll_app stranPe15 (ranAll_app stranPe25 stranPe26))
theorem rDi1_0 : RanDi (stDi4 ++(stDi9 ++(stDi10 ++(stDi14)))):=ranAll_app stranDi4 (ranAll_app stranDi9 (ranAll_app stranDi10 stranDi14))
theorem rPl1_0 : RanPl (stPl8 ++(stPl19 ++(stPl20 ++(stPl29)))):=ranAll_app stranPl8 (ranAll_app stranPl19 (ranAll_app stranPl20 stranPl29))
def gL1_0 : List (Dc Tryz.prog):=gList rOf1_0 rPe1_0 rDi1_0 rPl1_0
theorem rOf1_1 : RanOf (stOf9 ++(stOf10 ++(stOf29 ++(stOf30 ++(stOf60))))):=ranAll_app stranOf9 (ranAll_app stranOf10 (ranAll_app stranOf29 (ranAll_app stranOf30 stranOf60)))
theorem rPe1_1 : RanPe (stPe3 ++(stPe10 ++(stPe11 ++(stPe27)))):=ranAll_app stranPe3 (ranAll_app stranPe10 (ranAll_app stranPe11 stranPe27))
theorem rDi1_1 : RanDi (stDi2 ++(stDi7 ++(stDi15))):=ranAll_app stranDi2 (ranAll_app stranDi7 stranDi15)
theorem rPl1_1 : RanPl (stPl4 ++(stPl5 ++(stPl14 ++(stPl15 ++(stPl30))))):=ranAll_app stranPl4 (ranAll_app stranPl5 (ranAll_app stranPl14 (ranAll_app stranPl15 stranPl30)))
def gL1_1 : List (Dc Tryz.prog):=gList rOf1_1 rPe1_1 rDi1_1 rPl1_1
theorem rOf1_2 : RanOf (stOf8 ++(stOf9 ++(stOf24 ++(stOf25 ++(stOf42))))):=ranAll_app stranOf8 (ranAll_app stranOf9 (ranAll_app stranOf24 (ranAll_app stranOf25 stranOf42)))
theorem rPe1_2 : RanPe (stPe2 ++(stPe3 ++(stPe8 ++(stPe9 ++(stPe16))))):=ranAll_app stranPe2 (ranAll_app stranPe3 (ranAll_app stranPe8 (ranAll_app stranPe9 stranPe16)))
theorem rDi1_2 : RanDi (stDi2 ++(stDi6 ++(stDi10))):=ranAll_app stranDi2 (ranAll_app stranDi6 stranDi10)
theorem rPl1_2 : RanPl (stPl4 ++(stPl12 ++(stPl21))):=ranAll_app stranPl4 (ranAll_app stranPl12 stranPl21)
def gL1_2 : List (Dc Tryz.prog):=gList rOf1_2 rPe1_2 rDi1_2 rPl1_2
theorem rOf1_3 : RanOf (stOf1 ++(stOf18 ++(stOf19 ++(stOf28 ++(stOf29 ++(stOf50 ++(stOf51))))))):=ranAll_app stranOf1 (ranAll_app stranOf18 (ranAll_app stranOf19 (ranAll_app stranOf28 (ranAll_app stranOf29 (ranAll_app stranOf50 stranOf51)))))
theorem rPe1_3 : RanPe (stPe6 ++(stPe10 ++(stPe20 ++(stPe21)))):=ranAll_app stranPe6 (ranAll_app stranPe10 (ranAll_app stranPe20 stranPe21))
theorem rDi1_3 : RanDi (stDi0 ++(stDi4 ++(stDi7 ++(stDi12)))):=ranAll_app stranDi0 (ranAll_app stranDi4 (ranAll_app stranDi7 stranDi12))
theorem rPl1_3 : RanPl (stPl0 ++(stPl9 ++(stPl14 ++(stPl25)))):=ranAll_app stranPl0 (ranAll_app stranPl9 (ranAll_app stranPl14 stranPl25))
def gL1_3 : List (Dc Tryz.prog):=gList rOf1_3 rPe1_3 rDi1_3 rPl1_3
theorem rOf2_0 : RanOf (stOf36 ++(stOf37 ++(stOf41 ++(stOf48 ++(stOf49 ++(stOf56 ++(stOf57 ++(stOf58 ++(stOf59))))))))):=ranAll_app stranOf36 (ranAll_app stranOf37 (ranAll_app stranOf41 (ranAll_app stranOf48 (ranAll_app stranOf49 (ranAll_app stranOf56 (ranAll_app stranOf57 (ranAll_app stranOf58 stranOf59)))))))
theorem rPe2_0 : RanPe (stPe14 ++(stPe19 ++(stPe20 ++(stPe24 ++(stPe25 ++(stPe26)))))):=ranAll_app stranPe14 (ranAll_app stranPe19 (ranAll_app stranPe20 (ranAll_app stranPe24 (ranAll_app stranPe25 stranPe26))))
theorem rDi2_0 : RanDi (stDi9 ++(stDi10 ++(stDi12 ++(stDi14)))):=ranAll_app stranDi9 (ranAll_app stranDi10 (ranAll_app stranDi12 stranDi14))
theorem rPl2_0 : RanPl (stPl18 ++(stPl20 ++(stPl24 ++(stPl28 ++(stPl29))))):=ranAll_app stranPl18 (ranAll_app stranPl20 (ranAll_app stranPl24 (ranAll_app stranPl28 stranPl29)))
def gL2_0 : List (Dc Tryz.prog):=gList rOf2_0 rPe2_0 rDi2_0 rPl2_0
theorem rOf2_1 : RanOf (stOf14 ++(stOf15 ++(stOf16 ++(stOf21 ++(stOf22 ++(stOf29 ++(stOf37 ++(stOf38 ++(stOf43 ++(stOf44)))))))))):=ranAll_app stranOf14 (ranAll_app stranOf15 (ranAll_app stranOf16 (ranAll_app stranOf21 (ranAll_app stranOf22 (ranAll_app stranOf29 (ranAll_app stranOf37 (ranAll_app stranOf38 (ranAll_app stranOf43 stranOf44))))))))
theorem rPe2_1 : RanPe (stPe5 ++(stPe14 ++(stPe15 ++(stPe17)))):=ranAll_app stranPe5 (ranAll_app stranPe14 (ranAll_app stranPe15 stranPe17))
theorem rDi2_1 : RanDi (stDi3 ++(stDi4 ++(stDi5 ++(stDi7 ++(stDi9 ++(stDi10 ++(stDi11))))))):=ranAll_app stranDi3 (ranAll_app stranDi4 (ranAll_app stranDi5 (ranAll_app stranDi7 (ranAll_app stranDi9 (ranAll_app stranDi10 stranDi11)))))
theorem rPl2_1 : RanPl (stPl7 ++(stPl8 ++(stPl10 ++(stPl11 ++(stPl14 ++(stPl18 ++(stPl19 ++(stPl21 ++(stPl22))))))))):=ranAll_app stranPl7 (ranAll_app stranPl8 (ranAll_app stranPl10 (ranAll_app stranPl11 (ranAll_app stranPl14 (ranAll_app stranPl18 (ranAll_app stranPl19 (ranAll_app stranPl21 stranPl22)))))))
def gL2_1 : List (Dc Tryz.prog):=gList rOf2_1 rPe2_1 rDi2_1 rPl2_1
theorem rOf2_2 : RanOf (stOf3 ++(stOf9 ++(stOf17 ++(stOf46 ++(stOf47 ++(stOf48 ++(stOf56))))))):=ranAll_app stranOf3 (ranAll_app stranOf9 (ranAll_app stranOf17 (ranAll_app stranOf46 (ranAll_app stranOf47 (ranAll_app stranOf48 stranOf56)))))
theorem rPe2_2 : RanPe (stPe1 ++(stPe18 ++(stPe19 ++(stPe24)))):=ranAll_app stranPe1 (ranAll_app stranPe18 (ranAll_app stranPe19 stranPe24))
theorem rDi2_2 : RanDi (stDi0 ++(stDi1 ++(stDi2 ++(stDi4 ++(stDi11 ++(stDi12 ++(stDi14))))))):=ranAll_app stranDi0 (ranAll_app stranDi1 (ranAll_app stranDi2 (ranAll_app stranDi4 (ranAll_app stranDi11 (ranAll_app stranDi12 stranDi14)))))
theorem rPl2_2 : RanPl (stPl1 ++(stPl4 ++(stPl8 ++(stPl23 ++(stPl24 ++(stPl28)))))):=ranAll_app stranPl1 (ranAll_app stranPl4 (ranAll_app stranPl8 (ranAll_app stranPl23 (ranAll_app stranPl24 stranPl28))))
def gL2_2 : List (Dc Tryz.prog):=gList rOf2_2 rPe2_2 rDi2_2 rPl2_2
theorem rOf2_3 : RanOf (stOf1 ++(stOf2 ++(stOf7 ++(stOf20 ++(stOf23 ++(stOf35 ++(stOf36 ++(stOf45 ++(stOf46))))))))):=ranAll_app stranOf1 (ranAll_app stranOf2 (ranAll_app stranOf7 (ranAll_app stranOf20 (ranAll_app stranOf23 (ranAll_app stranOf35 (ranAll_app stranOf36 (ranAll_app stranOf45 stranOf46)))))))
theorem rPe2_3 : RanPe (stPe0 ++(stPe1 ++(stPe7 ++(stPe13 ++(stPe18))))):=ranAll_app stranPe0 (ranAll_app stranPe1 (ranAll_app stranPe7 (ranAll_app stranPe13 stranPe18)))
theorem rDi2_3 : RanDi (stDi0 ++(stDi1 ++(stDi5 ++(stDi8 ++(stDi9 ++(stDi11)))))):=ranAll_app stranDi0 (ranAll_app stranDi1 (ranAll_app stranDi5 (ranAll_app stranDi8 (ranAll_app stranDi9 stranDi11))))
theorem rPl2_3 : RanPl (stPl0 ++(stPl1 ++(stPl3 ++(stPl10 ++(stPl11 ++(stPl17 ++(stPl18 ++(stPl22 ++(stPl23))))))))):=ranAll_app stranPl0 (ranAll_app stranPl1 (ranAll_app stranPl3 (ranAll_app stranPl10 (ranAll_app stranPl11 (ranAll_app stranPl17 (ranAll_app stranPl18 (ranAll_app stranPl22 stranPl23)))))))
def gL2_3 : List (Dc Tryz.prog):=gList rOf2_3 rPe2_3 rDi2_3 rPl2_3
theorem rOf3_0 : RanOf (stOf25 ++(stOf26 ++(stOf27 ++(stOf28)))):=ranAll_app stranOf25 (ranAll_app stranOf26 (ranAll_app stranOf27 stranOf28))
theorem rPe3_0 : RanPe (stPe9 ++(stPe10)):=ranAll_app stranPe9 stranPe10
theorem rDi3_0 : RanDi (stDi6 ++(stDi7)):=ranAll_app stranDi6 stranDi7
theorem rPl3_0 : RanPl (stPl12 ++(stPl13 ++(stPl14))):=ranAll_app stranPl12 (ranAll_app stranPl13 stranPl14)
def gL3_0 : List (Dc Tryz.prog):=gList rOf3_0 rPe3_0 rDi3_0 rPl3_0
theorem rOf3_1 : RanOf (stOf0 ++(stOf1 ++(stOf33 ++(stOf34)))):=ranAll_app stranOf0 (ranAll_app stranOf1 (ranAll_app stranOf33 stranOf34))
theorem rPe3_1 : RanPe (stPe0 ++(stPe12 ++(stPe13))):=ranAll_app stranPe0 (ranAll_app stranPe12 stranPe13)
theorem rDi3_1 : RanDi (stDi0 ++(stDi8)):=ranAll_app stranDi0 stranDi8
theorem rPl3_1 : RanPl (stPl0 ++(stPl16 ++(stPl17))):=ranAll_app stranPl0 (ranAll_app stranPl16 stranPl17)
def gL3_1 : List (Dc Tryz.prog):=gList rOf3_1 rPe3_1 rDi3_1 rPl3_1
theorem rOf3_2 : RanOf (stOf10 ++(stOf11 ++(stOf12 ++(stOf31 ++(stOf32 ++(stOf33)))))):=ranAll_app stranOf10 (ranAll_app stranOf11 (ranAll_app stranOf12 (ranAll_app stranOf31 (ranAll_app stranOf32 stranOf33))))
theorem rPe3_2 : RanPe (stPe3 ++(stPe4 ++(stPe12))):=ranAll_app stranPe3 (ranAll_app stranPe4 stranPe12)
theorem rDi3_2 : RanDi (stDi2 ++(stDi3 ++(stDi7 ++(stDi8)))):=ranAll_app stranDi2 (ranAll_app stranDi3 (ranAll_app stranDi7 stranDi8))
theorem rPl3_2 : RanPl (stPl5 ++(stPl6 ++(stPl15 ++(stPl16)))):=ranAll_app stranPl5 (ranAll_app stranPl6 (ranAll_app stranPl15 stranPl16))
def gL3_2 : List (Dc Tryz.prog):=gList rOf3_2 rPe3_2 rDi3_2 rPl3_2
theorem rOf3_3 : RanOf (stOf12 ++(stOf13 ++(stOf50 ++(stOf54)))):=ranAll_app stranOf12 (ranAll_app stranOf13 (ranAll_app stranOf50 stranOf54))
theorem rPe3_3 : RanPe (stPe4 ++(stPe20 ++(stPe22 ++(stPe23)))):=ranAll_app stranPe4 (ranAll_app stranPe20 (ranAll_app stranPe22 stranPe23))
theorem rDi3_3 : RanDi (stDi3 ++(stDi12 ++(stDi13))):=ranAll_app stranDi3 (ranAll_app stranDi12 stranDi13)
theorem rPl3_3 : RanPl (stPl6 ++(stPl25 ++(stPl27))):=ranAll_app stranPl6 (ranAll_app stranPl25 stranPl27)
def gL3_3 : List (Dc Tryz.prog):=gList rOf3_3 rPe3_3 rDi3_3 rPl3_3
theorem rOf4_0 : RanOf (stOf6 ++(stOf36 ++(stOf37 ++(stOf44 ++(stOf45 ++(stOf55)))))):=ranAll_app stranOf6 (ranAll_app stranOf36 (ranAll_app stranOf37 (ranAll_app stranOf44 (ranAll_app stranOf45 stranOf55))))
theorem rPe4_0 : RanPe (stPe2 ++(stPe14 ++(stPe17 ++(stPe23 ++(stPe24))))):=ranAll_app stranPe2 (ranAll_app stranPe14 (ranAll_app stranPe17 (ranAll_app stranPe23 stranPe24)))
theorem rDi4_0 : RanDi (stDi1 ++(stDi9 ++(stDi11 ++(stDi13)))):=ranAll_app stranDi1 (ranAll_app stranDi9 (ranAll_app stranDi11 stranDi13))
theorem rPl4_0 : RanPl (stPl3 ++(stPl18 ++(stPl22 ++(stPl27)))):=ranAll_app stranPl3 (ranAll_app stranPl18 (ranAll_app stranPl22 stranPl27))
def gL4_0 : List (Dc Tryz.prog):=gList rOf4_0 rPe4_0 rDi4_0 rPl4_0
theorem rOf4_1 : RanOf (stOf15 ++(stOf22 ++(stOf23 ++(stOf37 ++(stOf38 ++(stOf43 ++(stOf51 ++(stOf52 ++(stOf59))))))))):=ranAll_app stranOf15 (ranAll_app stranOf22 (ranAll_app stranOf23 (ranAll_app stranOf37 (ranAll_app stranOf38 (ranAll_app stranOf43 (ranAll_app stranOf51 (ranAll_app stranOf52 stranOf59)))))))
theorem rPe4_1 : RanPe (stPe7 ++(stPe14 ++(stPe16 ++(stPe21 ++(stPe22 ++(stPe26 ++(stPe27))))))):=ranAll_app stranPe7 (ranAll_app stranPe14 (ranAll_app stranPe16 (ranAll_app stranPe21 (ranAll_app stranPe22 (ranAll_app stranPe26 stranPe27)))))
theorem rDi4_1 : RanDi (stDi3 ++(stDi5 ++(stDi9 ++(stDi10 ++(stDi12 ++(stDi13 ++(stDi14))))))):=ranAll_app stranDi3 (ranAll_app stranDi5 (ranAll_app stranDi9 (ranAll_app stranDi10 (ranAll_app stranDi12 (ranAll_app stranDi13 stranDi14)))))
theorem rPl4_1 : RanPl (stPl7 ++(stPl11 ++(stPl18 ++(stPl19 ++(stPl21 ++(stPl25 ++(stPl26 ++(stPl29)))))))):=ranAll_app stranPl7 (ranAll_app stranPl11 (ranAll_app stranPl18 (ranAll_app stranPl19 (ranAll_app stranPl21 (ranAll_app stranPl25 (ranAll_app stranPl26 stranPl29))))))
def gL4_1 : List (Dc Tryz.prog):=gList rOf4_1 rPe4_1 rDi4_1 rPl4_1
theorem rOf4_2 : RanOf (stOf3 ++(stOf4 ++(stOf24 ++(stOf31 ++(stOf61 ++(stOf62)))))):=ranAll_app stranOf3 (ranAll_app stranOf4 (ranAll_app stranOf24 (ranAll_app stranOf31 (ranAll_app stranOf61 stranOf62))))
theorem rPe4_2 : RanPe (stPe1 ++(stPe8 ++(stPe11 ++(stPe12 ++(stPe28 ++(stPe29)))))):=ranAll_app stranPe1 (ranAll_app stranPe8 (ranAll_app stranPe11 (ranAll_app stranPe12 (ranAll_app stranPe28 stranPe29))))
theorem rDi4_2 : RanDi (stDi0 ++(stDi1 ++(stDi6 ++(stDi7 ++(stDi15))))):=ranAll_app stranDi0 (ranAll_app stranDi1 (ranAll_app stranDi6 (ranAll_app stranDi7 stranDi15)))
theorem rPl4_2 : RanPl (stPl1 ++(stPl2 ++(stPl12 ++(stPl15 ++(stPl30 ++(stPl31)))))):=ranAll_app stranPl1 (ranAll_app stranPl2 (ranAll_app stranPl12 (ranAll_app stranPl15 (ranAll_app stranPl30 stranPl31))))
def gL4_2 : List (Dc Tryz.prog):=gList rOf4_2 rPe4_2 rDi4_2 rPl4_2
theorem rOf4_3 : RanOf (stOf2 ++(stOf6 ++(stOf7 ++(stOf8 ++(stOf20 ++(stOf23 ++(stOf53))))))):=ranAll_app stranOf2 (ranAll_app stranOf6 (ranAll_app stranOf7 (ranAll_app stranOf8 (ranAll_app stranOf20 (ranAll_app stranOf23 stranOf53)))))
theorem rPe4_3 : RanPe (stPe2 ++(stPe6 ++(stPe7 ++(stPe22)))):=ranAll_app stranPe2 (ranAll_app stranPe6 (ranAll_app stranPe7 stranPe22))
theorem rDi4_3 : RanDi (stDi0 ++(stDi1 ++(stDi2 ++(stDi5 ++(stDi13))))):=ranAll_app stranDi0 (ranAll_app stranDi1 (ranAll_app stranDi2 (ranAll_app stranDi5 stranDi13)))
theorem rPl4_3 : RanPl (stPl1 ++(stPl3 ++(stPl4 ++(stPl10 ++(stPl11 ++(stPl26)))))):=ranAll_app stranPl1 (ranAll_app stranPl3 (ranAll_app stranPl4 (ranAll_app stranPl10 (ranAll_app stranPl11 stranPl26))))
def gL4_3 : List (Dc Tryz.prog):=gList rOf4_3 rPe4_3 rDi4_3 rPl4_3
theorem rOf5_0 : RanOf (stOf5 ++(stOf6 ++(stOf37 ++(stOf40 ++(stOf41 ++(stOf44 ++(stOf51 ++(stOf61 ++(stOf62))))))))):=ranAll_app stranOf5 (ranAll_app stranOf6 (ranAll_app stranOf37 (ranAll_app stranOf40 (ranAll_app stranOf41 (ranAll_app stranOf44 (ranAll_app stranOf51 (ranAll_app stranOf61 stranOf62)))))))
theorem rPe5_0 : RanPe (stPe1 ++(stPe2 ++(stPe14 ++(stPe15 ++(stPe16 ++(stPe17 ++(stPe21 ++(stPe28)))))))):=ranAll_app stranPe1 (ranAll_app stranPe2 (ranAll_app stranPe14 (ranAll_app stranPe15 (ranAll_app stranPe16 (ranAll_app stranPe17 (ranAll_app stranPe21 stranPe28))))))
theorem rDi5_0 : RanDi (stDi1 ++(stDi9 ++(stDi10 ++(stDi11 ++(stDi12 ++(stDi15)))))):=ranAll_app stranDi1 (ranAll_app stranDi9 (ranAll_app stranDi10 (ranAll_app stranDi11 (ranAll_app stranDi12 stranDi15))))
theorem rPl5_0 : RanPl (stPl2 ++(stPl3 ++(stPl18 ++(stPl20 ++(stPl22 ++(stPl25 ++(stPl30 ++(stPl31)))))))):=ranAll_app stranPl2 (ranAll_app stranPl3 (ranAll_app stranPl18 (ranAll_app stranPl20 (ranAll_app stranPl22 (ranAll_app stranPl25 (ranAll_app stranPl30 stranPl31))))))
def gL5_0 : List (Dc Tryz.prog):=gList rOf5_0 rPe5_0 rDi5_0 rPl5_0
theorem rOf5_1 : RanOf (stOf15 ++(stOf21 ++(stOf22 ++(stOf23 ++(stOf42 ++(stOf43 ++(stOf52 ++(stOf55 ++(stOf56 ++(stOf57 ++(stOf58))))))))))):=ranAll_app stranOf15 (ranAll_app stranOf21 (ranAll_app stranOf22 (ranAll_app stranOf23 (ranAll_app stranOf42 (ranAll_app stranOf43 (ranAll_app stranOf52 (ranAll_app stranOf55 (ranAll_app stranOf56 (ranAll_app stranOf57 stranOf58)))))))))
theorem rPe5_1 : RanPe (stPe7 ++(stPe16 ++(stPe22 ++(stPe24 ++(stPe25))))):=ranAll_app stranPe7 (ranAll_app stranPe16 (ranAll_app stranPe22 (ranAll_app stranPe24 stranPe25)))
theorem rDi5_1 : RanDi (stDi3 ++(stDi5 ++(stDi10 ++(stDi13 ++(stDi14))))):=ranAll_app stranDi3 (ranAll_app stranDi5 (ranAll_app stranDi10 (ranAll_app stranDi13 stranDi14)))
theorem rPl5_1 : RanPl (stPl7 ++(stPl10 ++(stPl11 ++(stPl21 ++(stPl26 ++(stPl27 ++(stPl28 ++(stPl29)))))))):=ranAll_app stranPl7 (ranAll_app stranPl10 (ranAll_app stranPl11 (ranAll_app stranPl21 (ranAll_app stranPl26 (ranAll_app stranPl27 (ranAll_app stranPl28 stranPl29))))))
def gL5_1 : List (Dc Tryz.prog):=gList rOf5_1 rPe5_1 rDi5_1 rPl5_1
theorem rOf5_2 : RanOf (stOf3 ++(stOf4 ++(stOf14 ++(stOf23 ++(stOf24 ++(stOf30 ++(stOf31 ++(stOf60 ++(stOf61))))))))):=ranAll_app stranOf3 (ranAll_app stranOf4 (ranAll_app stranOf14 (ranAll_app stranOf23 (ranAll_app stranOf24 (ranAll_app stranOf30 (ranAll_app stranOf31 (ranAll_app stranOf60 stranOf61)))))))
theorem rPe5_2 : RanPe (stPe1 ++(stPe4 ++(stPe5 ++(stPe7 ++(stPe8 ++(stPe11 ++(stPe27 ++(stPe28)))))))):=ranAll_app stranPe1 (ranAll_app stranPe4 (ranAll_app stranPe5 (ranAll_app stranPe7 (ranAll_app stranPe8 (ranAll_app stranPe11 (ranAll_app stranPe27 stranPe28))))))
theorem rDi5_2 : RanDi (stDi0 ++(stDi1 ++(stDi3 ++(stDi5 ++(stDi6 ++(stDi7 ++(stDi15))))))):=ranAll_app stranDi0 (ranAll_app stranDi1 (ranAll_app stranDi3 (ranAll_app stranDi5 (ranAll_app stranDi6 (ranAll_app stranDi7 stranDi15)))))
theorem rPl5_2 : RanPl (stPl1 ++(stPl2 ++(stPl7 ++(stPl11 ++(stPl12 ++(stPl15 ++(stPl30))))))):=ranAll_app stranPl1 (ranAll_app stranPl2 (ranAll_app stranPl7 (ranAll_app stranPl11 (ranAll_app stranPl12 (ranAll_app stranPl15 stranPl30)))))
def gL5_2 : List (Dc Tryz.prog):=gList rOf5_2 rPe5_2 rDi5_2 rPl5_2
theorem rOf5_3 : RanOf (stOf2 ++(stOf7 ++(stOf8 ++(stOf19 ++(stOf20 ++(stOf45 ++(stOf53 ++(stOf54 ++(stOf55 ++(stOf63)))))))))):=ranAll_app stranOf2 (ranAll_app stranOf7 (ranAll_app stranOf8 (ranAll_app stranOf19 (ranAll_app stranOf20 (ranAll_app stranOf45 (ranAll_app stranOf53 (ranAll_app stranOf54 (ranAll_app stranOf55 stranOf63))))))))
theorem rPe5_3 : RanPe (stPe2 ++(stPe6 ++(stPe18 ++(stPe22 ++(stPe23 ++(stPe29)))))):=ranAll_app stranPe2 (ranAll_app stranPe6 (ranAll_app stranPe18 (ranAll_app stranPe22 (ranAll_app stranPe23 stranPe29))))
theorem rDi5_3 : RanDi (stDi0 ++(stDi1 ++(stDi2 ++(stDi4 ++(stDi5 ++(stDi11 ++(stDi13 ++(stDi15)))))))):=ranAll_app stranDi0 (ranAll_app stranDi1 (ranAll_app stranDi2 (ranAll_app stranDi4 (ranAll_app stranDi5 (ranAll_app stranDi11 (ranAll_app stranDi13 stranDi15))))))
theorem rPl5_3 : RanPl (stPl1 ++(stPl3 ++(stPl4 ++(stPl9 ++(stPl10 ++(stPl22 ++(stPl26 ++(stPl27 ++(stPl31))))))))):=ranAll_app stranPl1 (ranAll_app stranPl3 (ranAll_app stranPl4 (ranAll_app stranPl9 (ranAll_app stranPl10 (ranAll_app stranPl22 (ranAll_app stranPl26 (ranAll_app stranPl27 stranPl31)))))))
def gL5_3 : List (Dc Tryz.prog):=gList rOf5_3 rPe5_3 rDi5_3 rPl5_3
end
end Go.Sy
