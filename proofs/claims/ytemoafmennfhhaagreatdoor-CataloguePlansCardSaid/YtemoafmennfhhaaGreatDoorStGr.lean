/- What is known beforehand, by kind and scale. -/
import Derived.Test.YtemoafmennfhhaaGreatDoorStG7
namespace Go.Sy
open Go.RowKit Go.Proofs
set_option linter.unusedVariables false
set_option maxRecDepth 1000000
set_option maxHeartbeats 0
noncomputable section
abbrev RanOf (l : List (AV × AV)) : Prop:=ranAll Tryz.prog stov1 265 l = true
abbrev RanPe (l : List (AV × AV)) : Prop:=ranAll Tryz.prog stov2 268 l = true
abbrev RanDi (l : List (AV × AV)) : Prop:=ranAll Tryz.prog stov2 313 l = true
abbrev RanPl (l : List (AV × AV)) : Prop:=ranAll Tryz.prog stov2 275 l = true
def gList {of pe di pl : List (AV × AV)} (h1 : RanOf of) (h2 : RanPe pe) (h3 : RanDi di) (h4 : RanPl pl) : List (Dc Tryz.prog) :=
  d_Iv di (ranAll_ok p_mixed p_callable stov2_ok (by decide) h3) (hasbody rfl rfl)::d_St di (ranAll_ok p_mixed p_callable stov2_ok (by decide) h3) (hasbody rfl rfl) ::
  Dc.memo 268 pe (ranAll_ok p_mixed p_callable stov2_ok (by decide) h2) (hasbody rfl rfl)::Dc.memo 313 di (ranAll_ok p_mixed p_callable stov2_ok (by decide) h3) (hasbody rfl rfl) ::
  Dc.memo 275 pl (ranAll_ok p_mixed p_callable stov2_ok (by decide) h4) (hasbody rfl rfl) ::
  Dc.memo 265 of (ranAll_ok p_mixed p_callable stov1_ok (by decide) h1) (hasbody rfl rfl)::stdc1
def ovL (l : List (Dc Tryz.prog)) : Tgt → AV → Heap → Option CR:=ovD (dcTab l)
theorem ovL_ok (l : List (Dc Tryz.prog)) (B0 : Nat) : OvOK Tryz.prog B0 (ovL l):=ovD_ok p_callable _ B0
theorem rOf0_0 : RanOf (stOf0):=stranOf0
theorem rPe0_0 : RanPe ([]):=rfl
theorem rDi0_0 : RanDi (stDi0):=stranDi0
theorem rPl0_0 : RanPl (stPl0):=stranPl0
def gL0_0 : List (Dc Tryz.prog):=gList rOf0_0 rPe0_0 rDi0_0 rPl0_0
theorem rOf0_1 : RanOf (stOf1):=stranOf1
theorem rPe0_1 : RanPe ([]):=rfl
theorem rDi0_1 : RanDi (stDi1):=stranDi1
theorem rPl0_1 : RanPl (stPl1):=stranPl1
def gL0_1 : List (Dc Tryz.prog):=gList rOf0_1 rPe0_1 rDi0_1 rPl0_1
theorem rOf0_2 : RanOf (stOf2):=stranOf2
theorem rPe0_2 : RanPe ([]):=rfl
theorem rDi0_2 : RanDi (stDi2):=stranDi2
theorem rPl0_2 : RanPl (stPl2):=stranPl2
def gL0_2 : List (Dc Tryz.prog):=gList rOf0_2 rPe0_2 rDi0_2 rPl0_2
theorem rOf0_3 : RanOf (stOf3):=stranOf3
theorem rPe0_3 : RanPe ([]):=rfl
theorem rDi0_3 : RanDi (stDi3):=stranDi3
theorem rPl0_3 : RanPl (stPl3):=stranPl3
def gL0_3 : List (Dc Tryz.prog):=gList rOf0_3 rPe0_3 rDi0_3 rPl0_3
theorem rOf1_0 : RanOf (stOf4++(stOf5++(stOf6))):=ranAll_app stranOf4 (ranAll_app stranOf5 stranOf6)
theorem rPe1_0 : RanPe (stPe0++(stPe1)):=ranAll_app stranPe0 stranPe1
theorem rDi1_0 : RanDi (stDi4):=stranDi4
theorem rPl1_0 : RanPl (stPl4++(stPl5)):=ranAll_app stranPl4 stranPl5
def gL1_0 : List (Dc Tryz.prog):=gList rOf1_0 rPe1_0 rDi1_0 rPl1_0
theorem rOf1_1 : RanOf (stOf7++(stOf8++(stOf9))):=ranAll_app stranOf7 (ranAll_app stranOf8 stranOf9)
theorem rPe1_1 : RanPe (stPe2++(stPe3)):=ranAll_app stranPe2 stranPe3
theorem rDi1_1 : RanDi (stDi5):=stranDi5
theorem rPl1_1 : RanPl (stPl6++(stPl7)):=ranAll_app stranPl6 stranPl7
def gL1_1 : List (Dc Tryz.prog):=gList rOf1_1 rPe1_1 rDi1_1 rPl1_1
theorem rOf1_2 : RanOf (stOf10++(stOf11++(stOf12))):=ranAll_app stranOf10 (ranAll_app stranOf11 stranOf12)
theorem rPe1_2 : RanPe (stPe4++(stPe5)):=ranAll_app stranPe4 stranPe5
theorem rDi1_2 : RanDi (stDi6):=stranDi6
theorem rPl1_2 : RanPl (stPl8++(stPl9)):=ranAll_app stranPl8 stranPl9
def gL1_2 : List (Dc Tryz.prog):=gList rOf1_2 rPe1_2 rDi1_2 rPl1_2
theorem rOf1_3 : RanOf (stOf13++(stOf14++(stOf15))):=ranAll_app stranOf13 (ranAll_app stranOf14 stranOf15)
theorem rPe1_3 : RanPe (stPe6++(stPe7)):=ranAll_app stranPe6 stranPe7
theorem rDi1_3 : RanDi (stDi7):=stranDi7
theorem rPl1_3 : RanPl (stPl10++(stPl11)):=ranAll_app stranPl10 stranPl11
def gL1_3 : List (Dc Tryz.prog):=gList rOf1_3 rPe1_3 rDi1_3 rPl1_3
theorem rOf2_0 : RanOf (stOf0++(stOf5++(stOf16++(stOf17++(stOf18++(stOf19)))))):=ranAll_app stranOf0 (ranAll_app stranOf5 (ranAll_app stranOf16 (ranAll_app stranOf17 (ranAll_app stranOf18 stranOf19))))
theorem rPe2_0 : RanPe (stPe8++(stPe9)):=ranAll_app stranPe8 stranPe9
theorem rDi2_0 : RanDi (stDi0++(stDi4++(stDi8))):=ranAll_app stranDi0 (ranAll_app stranDi4 stranDi8)
theorem rPl2_0 : RanPl (stPl0++(stPl4++(stPl12++(stPl13)))):=ranAll_app stranPl0 (ranAll_app stranPl4 (ranAll_app stranPl12 stranPl13))
def gL2_0 : List (Dc Tryz.prog):=gList rOf2_0 rPe2_0 rDi2_0 rPl2_0
theorem rOf2_1 : RanOf (stOf1++(stOf8++(stOf20++(stOf21++(stOf22++(stOf23)))))):=ranAll_app stranOf1 (ranAll_app stranOf8 (ranAll_app stranOf20 (ranAll_app stranOf21 (ranAll_app stranOf22 stranOf23))))
theorem rPe2_1 : RanPe (stPe10++(stPe11)):=ranAll_app stranPe10 stranPe11
theorem rDi2_1 : RanDi (stDi1++(stDi5++(stDi9))):=ranAll_app stranDi1 (ranAll_app stranDi5 stranDi9)
theorem rPl2_1 : RanPl (stPl1++(stPl6++(stPl14++(stPl15)))):=ranAll_app stranPl1 (ranAll_app stranPl6 (ranAll_app stranPl14 stranPl15))
def gL2_1 : List (Dc Tryz.prog):=gList rOf2_1 rPe2_1 rDi2_1 rPl2_1
theorem rOf2_2 : RanOf (stOf2++(stOf11++(stOf24++(stOf25++(stOf26++(stOf27)))))):=ranAll_app stranOf2 (ranAll_app stranOf11 (ranAll_app stranOf24 (ranAll_app stranOf25 (ranAll_app stranOf26 stranOf27))))
theorem rPe2_2 : RanPe (stPe12++(stPe13)):=ranAll_app stranPe12 stranPe13
theorem rDi2_2 : RanDi (stDi2++(stDi6++(stDi10))):=ranAll_app stranDi2 (ranAll_app stranDi6 stranDi10)
theorem rPl2_2 : RanPl (stPl2++(stPl8++(stPl16++(stPl17)))):=ranAll_app stranPl2 (ranAll_app stranPl8 (ranAll_app stranPl16 stranPl17))
def gL2_2 : List (Dc Tryz.prog):=gList rOf2_2 rPe2_2 rDi2_2 rPl2_2
theorem rOf2_3 : RanOf (stOf3++(stOf14++(stOf28++(stOf29++(stOf30++(stOf31)))))):=ranAll_app stranOf3 (ranAll_app stranOf14 (ranAll_app stranOf28 (ranAll_app stranOf29 (ranAll_app stranOf30 stranOf31))))
theorem rPe2_3 : RanPe (stPe14++(stPe15)):=ranAll_app stranPe14 stranPe15
theorem rDi2_3 : RanDi (stDi3++(stDi7++(stDi11))):=ranAll_app stranDi3 (ranAll_app stranDi7 stranDi11)
theorem rPl2_3 : RanPl (stPl3++(stPl10++(stPl18++(stPl19)))):=ranAll_app stranPl3 (ranAll_app stranPl10 (ranAll_app stranPl18 stranPl19))
def gL2_3 : List (Dc Tryz.prog):=gList rOf2_3 rPe2_3 rDi2_3 rPl2_3
theorem rOf3_0 : RanOf (stOf32++(stOf33++(stOf34))):=ranAll_app stranOf32 (ranAll_app stranOf33 stranOf34)
theorem rPe3_0 : RanPe (stPe16):=stranPe16
theorem rDi3_0 : RanDi (stDi12):=stranDi12
theorem rPl3_0 : RanPl (stPl20++(stPl21)):=ranAll_app stranPl20 stranPl21
def gL3_0 : List (Dc Tryz.prog):=gList rOf3_0 rPe3_0 rDi3_0 rPl3_0
theorem rOf3_1 : RanOf (stOf35++(stOf36++(stOf37))):=ranAll_app stranOf35 (ranAll_app stranOf36 stranOf37)
theorem rPe3_1 : RanPe (stPe17):=stranPe17
theorem rDi3_1 : RanDi (stDi13):=stranDi13
theorem rPl3_1 : RanPl (stPl22++(stPl23)):=ranAll_app stranPl22 stranPl23
def gL3_1 : List (Dc Tryz.prog):=gList rOf3_1 rPe3_1 rDi3_1 rPl3_1
theorem rOf3_2 : RanOf (stOf38++(stOf39++(stOf40))):=ranAll_app stranOf38 (ranAll_app stranOf39 stranOf40)
theorem rPe3_2 : RanPe (stPe18):=stranPe18
theorem rDi3_2 : RanDi (stDi14):=stranDi14
theorem rPl3_2 : RanPl (stPl24++(stPl25)):=ranAll_app stranPl24 stranPl25
def gL3_2 : List (Dc Tryz.prog):=gList rOf3_2 rPe3_2 rDi3_2 rPl3_2
theorem rOf3_3 : RanOf (stOf41++(stOf42++(stOf43))):=ranAll_app stranOf41 (ranAll_app stranOf42 stranOf43)
theorem rPe3_3 : RanPe (stPe19):=stranPe19
theorem rDi3_3 : RanDi (stDi15):=stranDi15
theorem rPl3_3 : RanPl (stPl26++(stPl27)):=ranAll_app stranPl26 stranPl27
def gL3_3 : List (Dc Tryz.prog):=gList rOf3_3 rPe3_3 rDi3_3 rPl3_3
theorem rOf4_0 : RanOf (stOf16++(stOf18++(stOf44++(stOf45++(stOf46))))):=ranAll_app stranOf16 (ranAll_app stranOf18 (ranAll_app stranOf44 (ranAll_app stranOf45 stranOf46)))
theorem rPe4_0 : RanPe (stPe8++(stPe9++(stPe20++(stPe21)))):=ranAll_app stranPe8 (ranAll_app stranPe9 (ranAll_app stranPe20 stranPe21))
theorem rDi4_0 : RanDi (stDi8++(stDi16)):=ranAll_app stranDi8 stranDi16
theorem rPl4_0 : RanPl (stPl12++(stPl13++(stPl28++(stPl29)))):=ranAll_app stranPl12 (ranAll_app stranPl13 (ranAll_app stranPl28 stranPl29))
def gL4_0 : List (Dc Tryz.prog):=gList rOf4_0 rPe4_0 rDi4_0 rPl4_0
theorem rOf4_1 : RanOf (stOf20++(stOf22++(stOf47++(stOf48++(stOf49))))):=ranAll_app stranOf20 (ranAll_app stranOf22 (ranAll_app stranOf47 (ranAll_app stranOf48 stranOf49)))
theorem rPe4_1 : RanPe (stPe10++(stPe11++(stPe22++(stPe23)))):=ranAll_app stranPe10 (ranAll_app stranPe11 (ranAll_app stranPe22 stranPe23))
theorem rDi4_1 : RanDi (stDi9++(stDi17)):=ranAll_app stranDi9 stranDi17
theorem rPl4_1 : RanPl (stPl14++(stPl15++(stPl30++(stPl31)))):=ranAll_app stranPl14 (ranAll_app stranPl15 (ranAll_app stranPl30 stranPl31))
def gL4_1 : List (Dc Tryz.prog):=gList rOf4_1 rPe4_1 rDi4_1 rPl4_1
theorem rOf4_2 : RanOf (stOf24++(stOf26++(stOf50++(stOf51++(stOf52))))):=ranAll_app stranOf24 (ranAll_app stranOf26 (ranAll_app stranOf50 (ranAll_app stranOf51 stranOf52)))
theorem rPe4_2 : RanPe (stPe12++(stPe13++(stPe24++(stPe25)))):=ranAll_app stranPe12 (ranAll_app stranPe13 (ranAll_app stranPe24 stranPe25))
theorem rDi4_2 : RanDi (stDi10++(stDi18)):=ranAll_app stranDi10 stranDi18
theorem rPl4_2 : RanPl (stPl16++(stPl17++(stPl32++(stPl33)))):=ranAll_app stranPl16 (ranAll_app stranPl17 (ranAll_app stranPl32 stranPl33))
def gL4_2 : List (Dc Tryz.prog):=gList rOf4_2 rPe4_2 rDi4_2 rPl4_2
theorem rOf4_3 : RanOf (stOf28++(stOf30++(stOf53++(stOf54++(stOf55))))):=ranAll_app stranOf28 (ranAll_app stranOf30 (ranAll_app stranOf53 (ranAll_app stranOf54 stranOf55)))
theorem rPe4_3 : RanPe (stPe14++(stPe15++(stPe26++(stPe27)))):=ranAll_app stranPe14 (ranAll_app stranPe15 (ranAll_app stranPe26 stranPe27))
theorem rDi4_3 : RanDi (stDi11++(stDi19)):=ranAll_app stranDi11 stranDi19
theorem rPl4_3 : RanPl (stPl18++(stPl19++(stPl34++(stPl35)))):=ranAll_app stranPl18 (ranAll_app stranPl19 (ranAll_app stranPl34 stranPl35))
def gL4_3 : List (Dc Tryz.prog):=gList rOf4_3 rPe4_3 rDi4_3 rPl4_3
theorem rOf5_0 : RanOf (stOf16++(stOf18++(stOf44++(stOf45++(stOf46++(stOf56++(stOf57))))))):=ranAll_app stranOf16 (ranAll_app stranOf18 (ranAll_app stranOf44 (ranAll_app stranOf45 (ranAll_app stranOf46 (ranAll_app stranOf56 stranOf57)))))
theorem rPe5_0 : RanPe (stPe20++(stPe21++(stPe28++(stPe29)))):=ranAll_app stranPe20 (ranAll_app stranPe21 (ranAll_app stranPe28 stranPe29))
theorem rDi5_0 : RanDi (stDi8++(stDi16++(stDi20))):=ranAll_app stranDi8 (ranAll_app stranDi16 stranDi20)
theorem rPl5_0 : RanPl (stPl12++(stPl13++(stPl28++(stPl29++(stPl36))))):=ranAll_app stranPl12 (ranAll_app stranPl13 (ranAll_app stranPl28 (ranAll_app stranPl29 stranPl36)))
def gL5_0 : List (Dc Tryz.prog):=gList rOf5_0 rPe5_0 rDi5_0 rPl5_0
theorem rOf5_1 : RanOf (stOf20++(stOf22++(stOf47++(stOf48++(stOf49++(stOf58++(stOf59))))))):=ranAll_app stranOf20 (ranAll_app stranOf22 (ranAll_app stranOf47 (ranAll_app stranOf48 (ranAll_app stranOf49 (ranAll_app stranOf58 stranOf59)))))
theorem rPe5_1 : RanPe (stPe22++(stPe23++(stPe30++(stPe31)))):=ranAll_app stranPe22 (ranAll_app stranPe23 (ranAll_app stranPe30 stranPe31))
theorem rDi5_1 : RanDi (stDi9++(stDi17++(stDi21))):=ranAll_app stranDi9 (ranAll_app stranDi17 stranDi21)
theorem rPl5_1 : RanPl (stPl14++(stPl15++(stPl30++(stPl31++(stPl37))))):=ranAll_app stranPl14 (ranAll_app stranPl15 (ranAll_app stranPl30 (ranAll_app stranPl31 stranPl37)))
def gL5_1 : List (Dc Tryz.prog):=gList rOf5_1 rPe5_1 rDi5_1 rPl5_1
theorem rOf5_2 : RanOf (stOf24++(stOf26++(stOf50++(stOf51++(stOf52++(stOf60++(stOf61))))))):=ranAll_app stranOf24 (ranAll_app stranOf26 (ranAll_app stranOf50 (ranAll_app stranOf51 (ranAll_app stranOf52 (ranAll_app stranOf60 stranOf61)))))
theorem rPe5_2 : RanPe (stPe24++(stPe25++(stPe32++(stPe33)))):=ranAll_app stranPe24 (ranAll_app stranPe25 (ranAll_app stranPe32 stranPe33))
theorem rDi5_2 : RanDi (stDi10++(stDi18++(stDi22))):=ranAll_app stranDi10 (ranAll_app stranDi18 stranDi22)
theorem rPl5_2 : RanPl (stPl16++(stPl17++(stPl32++(stPl33++(stPl38))))):=ranAll_app stranPl16 (ranAll_app stranPl17 (ranAll_app stranPl32 (ranAll_app stranPl33 stranPl38)))
def gL5_2 : List (Dc Tryz.prog):=gList rOf5_2 rPe5_2 rDi5_2 rPl5_2
theorem rOf5_3 : RanOf (stOf28++(stOf30++(stOf53++(stOf54++(stOf55++(stOf62++(stOf63))))))):=ranAll_app stranOf28 (ranAll_app stranOf30 (ranAll_app stranOf53 (ranAll_app stranOf54 (ranAll_app stranOf55 (ranAll_app stranOf62 stranOf63)))))
theorem rPe5_3 : RanPe (stPe26++(stPe27++(stPe34++(stPe35)))):=ranAll_app stranPe26 (ranAll_app stranPe27 (ranAll_app stranPe34 stranPe35))
theorem rDi5_3 : RanDi (stDi11++(stDi19++(stDi23))):=ranAll_app stranDi11 (ranAll_app stranDi19 stranDi23)
theorem rPl5_3 : RanPl (stPl18++(stPl19++(stPl34++(stPl35++(stPl39))))):=ranAll_app stranPl18 (ranAll_app stranPl19 (ranAll_app stranPl34 (ranAll_app stranPl35 stranPl39)))
def gL5_3 : List (Dc Tryz.prog):=gList rOf5_3 rPe5_3 rDi5_3 rPl5_3
end
end Go.Sy
