/- CatalogueMoves: what memory holds behind the first pieces, by kind and count. -/
import Derived.Test.YtialjngnlekplaaGreatDoorStWo
import Derived.Test.YtialjngnlekplaaGreatDoorSyCut
namespace Go.Sy
open Go.RowKit Go.Proofs
set_option linter.unusedVariables false
set_option maxRecDepth 1000000
set_option maxHeartbeats 0
noncomputable section
def cutSol (T : List (List B6)) (l : List (Nat × Nat)) : AV:=List.rec (motive:=fun _=>AV) .nil (fun x _ r=>.cons (.int .i64 1) (.cons (.gs (pathOf x.1) (wNth T x.2).length 3) r)) l
def cutC (T : List (List B6)) (S A F nF L M N : Nat) (mv : List Int) (l : List (Nat × Nat)) (s : Nat) : Cst where
  R:=[(12,.ptr (pathOf S) 0),(14,.gs (pathOf A) l.length 1),(10,.ptr (pathOf F) 0),(16,.int .i64 0)]
  H:=(pathOf S,.c [(0,.gs (pathOf L) l.length 2)] 1)::(pathOf A,.l (iz .i64 ((List.range l.length).map Int.ofNat) .nil) false)::(pathOf F,.c [(1,match mv with | []=>.nils | _=>.gs (pathOf M) (mv.length / 2) 2)] nF) ::
    (pathOf L,.l (cutSol T l) false)::((match mv with | []=>[] | _=>[(pathOf M,.l (iz .i64 mv .nil) false)])++l.map fun x=>(pathOf x.1,.l (witCells s (wNth T x.2)) false))
  n:=pathOf N
def stC0_0 : Nat → Cst:=cutC stS0 534 539 282 13 533 249 604 [0,0,0,1,0,2,0,3,0,5,1,0,1,1,1,2,1,3,1,4] [(495,0),(530,1)]
def stC0_1 : Nat → Cst:=cutC stS0 780 787 402 13 779 337 852 [0,0,0,1,0,2,0,3,0,5,1,0,1,1,1,2,1,3,2,0,2,1,2,2,2,3,2,4] [(705,0),(740,1),(776,2)]
def stC0_2 : Nat → Cst:=cutC stS0 1012 1021 502 13 1011 415 1086 [0,0,0,1,0,2,0,3,0,5,1,0,1,1,1,2,1,3,2,0,2,1,2,2,2,3,3,0,3,1,3,2,3,3,3,4] [(900,0),(935,1),(971,2),(1008,3)]
def stC0_3 : Nat → Cst:=cutC stS0 1250 1261 602 13 1249 493 1326 [0,0,0,1,0,2,0,3,0,5,1,0,1,1,1,2,1,3,2,0,2,1,2,2,2,3,3,0,3,1,3,2,3,3,4,0,4,1,4,2,4,3,4,4] [(1100,0),(1135,1),(1171,2),(1208,3),(1246,4)]
def stC0_4 : Nat → Cst:=cutC stS0 1494 1507 702 13 1493 571 1572 [0,0,0,1,0,2,0,3,0,5,1,0,1,1,1,2,1,3,2,0,2,1,2,2,2,3,3,0,3,1,3,2,3,3,4,0,4,1,4,2,4,3,5,0,5,1,5,2,5,3,5,4] [(1305,0),(1340,1),(1376,2),(1413,3),(1451,4),(1490,5)]
def stC1_0 : Nat → Cst:=cutC stS1 686 691 296 13 685 277 756 [0,4,0,5,1,4,1,5] [(647,0),(682,1)]
def stC1_1 : Nat → Cst:=cutC stS1 981 988 403 13 980 372 1053 [0,4,0,5,1,4,1,5,2,4,2,5] [(906,2),(941,1),(977,3)]
def stC1_2 : Nat → Cst:=cutC stS1 1290 1299 510 13 1289 467 1364 [0,4,0,5,1,4,1,5,2,4,2,5,3,4,3,5] [(1178,4),(1213,1),(1249,3),(1286,5)]
def stC2_0 : Nat → Cst:=cutC stS2 828 833 339 13 827 328 898 [0,2,0,3,1,2,1,3] [(775,0),(824,1)]
def stC2_1 : Nat → Cst:=cutC stS2 1127 1134 454 13 1126 425 1199 [0,2,0,3,1,3,2,2] [(1024,2),(1073,1),(1123,3)]
def stC2_2 : Nat → Cst:=cutC stS2 1448 1457 581 13 1447 528 1522 [0,2,0,3,1,3,3,2] [(1294,4),(1343,1),(1393,3),(1444,5)]
def stC3_0 : Nat → Cst:=cutC stS3 838 843 305 13 837 0 908 [] [(754,0),(834,1)]
def stC3_1 : Nat → Cst:=cutC stS3 1232 1239 406 13 1231 0 1304 [] [(1067,0),(1147,1),(1228,2)]
def stC3_2 : Nat → Cst:=cutC stS3 1651 1660 508 13 1650 0 1725 [] [(1404,0),(1484,1),(1565,2),(1647,3)]
def stC4_0 : Nat → Cst:=cutC stS4 998 1005 419 13 997 374 1070 [0,5,2,0,2,1,2,2,2,3,2,4] [(923,0),(958,1),(994,2)]
def stC4_1 : Nat → Cst:=cutC stS4 1265 1274 544 13 1264 461 1339 [0,5,3,0,3,1,3,2,3,3,3,4] [(1153,3),(1188,1),(1224,4),(1261,5)]
def stC4_2 : Nat → Cst:=cutC stS4 1562 1573 693 13 1561 560 1638 [0,5,4,0,4,1,4,2,4,3,4,4] [(1412,6),(1447,1),(1483,4),(1520,7),(1558,8)]
def stC5_0 : Nat → Cst:=cutC stS5 738 743 294 13 737 285 808 [0,1,1,0] [(699,0),(734,1)]
def stC5_1 : Nat → Cst:=cutC stS5 965 972 386 13 964 355 1037 [0,1,2,0] [(890,2),(925,1),(961,3)]
def stC5_2 : Nat → Cst:=cutC stS5 1210 1219 490 13 1209 431 1284 [0,1,3,0] [(1098,4),(1133,1),(1169,3),(1206,5)]
def stC5_3 : Nat → Cst:=cutC stS5 1473 1484 606 13 1472 513 1549 [0,1,4,0] [(1323,6),(1358,1),(1394,3),(1431,5),(1469,7)]
end
end Go.Sy
namespace Go.Sy
open Go.RowKit Go.Proofs
set_option linter.unusedVariables false
set_option maxRecDepth 1000000
set_option maxHeartbeats 0
abbrev u (m r : Int) : AV:=.rng .u8 m r
def args3 (x y z : AV) : AV:=.cons x (.cons y (.cons z .nil))
noncomputable def bodyC : Code:=match Tryz.f4.body with | some c=>c | none=>.skip
noncomputable def rOf (xs : AV) : Tr AV:=match argsR xs 0 Tryz.f4.ntmps .leaf with | some r=>r | none=>.leaf
noncomputable def chkA (l : List (Dc Tryz.prog)) (C : Cst) (x y z : AV) : Bool:=preB Tryz.prog 4 Tryz.f4 bodyC (callO Tryz.prog (ovL l) 1000 40) 10 1000 (rOf (args3 x y z)) C
noncomputable def chkB (l : List (Dc Tryz.prog)) (C : Cst) : Bool:=kFin Tryz.prog Tryz.f4 (.bool true) (xCode (dropSeq 10 bodyC) ⟨Tryz.prog,4,Tryz.f4.ntmps,none,callO Tryz.prog (ovL l) 1000 40,1000⟩ (regsT C.R) [] C.h)
def Told (W : World) (a b c : Int) : Prop:=Calls Tryz.prog 4 #[.int .u8 a,.int .u8 b,.int .u8 c] W fun e w=>e = .returned (.bool true)∧Below W.heap.size W w
theorem told_of {l : List (Dc Tryz.prog)} {C : Cst} {m1 r1 m2 r2 m3 r3 : Int} (hA : chkA l C (.rng .u8 m1 r1) (.rng .u8 m2 r2) (.rng .u8 m3 r3) = true) (hB : chkB l C = true) {a b c : Int} (hx : ∀ μ,VR1 μ (.rng .u8 m1 r1) (.int .u8 a)) (hy : ∀ μ,VR1 μ (.rng .u8 m2 r2) (.int .u8 b)) (hz : ∀ μ,VR1 μ (.rng .u8 m3 r3) (.int .u8 c)) {W : World} (ht : TabOK W Tabs.l) : Told W a b c :=
  PF.told (PF.of_cut (c:=bodyC) p_mixed (by decide) (fn:=Tryz.f4) rfl rfl (xs:=args3 (.rng .u8 m1 r1) (.rng .u8 m2 r2) (.rng .u8 m3 r3)) (r:=rOf (args3 (.rng .u8 m1 r1) (.rng .u8 m2 r2) (.rng .u8 m3 r3))) rfl (.cons PureV.rng (.cons PureV.rng (.cons PureV.rng .nil)))
    (fun B0=>callO_sound p_mixed p_callable (ovL_ok l B0) 1000 40) hA hB) ht (by decide) (fun μ=>⟨_,_,rfl,hx μ,_,_,rfl,hy μ,_,_,rfl,hz μ,rfl⟩)
theorem in_cls {n m r : Int} (h0 : 0 ≤ n) (h1 : n ≤ 255) (hm : r < 0) (hm0 : 0 ≤ m) (h : n % m = r + m) (μ : Mu) : VR1 μ (.rng .u8 m r) (.int .u8 n):=⟨n,rfl,fun e=>by omega,fun _=>⟨h0,h1,h⟩⟩
end Go.Sy
