/- A piece of the proof, made small by a program of ours. -/
import Derived.Test.YtilmgbneiikbiaaGreatDoorP10
set_option linter.all false
set_option maxRecDepth 1000000
set_option maxHeartbeats 0
namespace Go.Sy
noncomputable section
open Go.RowKit Go.Proofs Go.Proofs.Tryz
section
attribute [local irreducible] Cw bq PF Sub
attribute [local instance] fp
theorem ak.func {h:Heap} {fn:Fn} {f f' c c':AV} (h1:bq h f f') (h2:bq h c c'):ak h (.func fn f c) (.func fn f' c'):=by
 intro μ B0 w cv hr hv;obtain⟨F,C,e,h0,g1,g2⟩:=hv;unfold bq at h1 h2;exact⟨F,C,e,h0,h1 μ B0 w _ hr g1,h2 μ B0 w _ hr g2⟩
attribute [local irreducible] ak
end
section
attribute [local irreducible] Cw ak bq PF Sub dw
section
attribute [local instance] fp
def Zn (a b:dh):AV:= .func (.func 269) .nil (.cons (.dq (aN.c a .nil) 0) (.cons (.dq (aN.c b .nil) 0) .nil))
theorem Zo (a b:dh):DP (Zn a b):=⟨aB,aN.lH a .nil,aN.lH b .nil,aB⟩
theorem Zp (a b:dh):dQ 195 (.cons (aN.v a) (.cons (aN.v b) .nil)) (Zn a b):=by
 refine PF.go af ae [] (fn:=f195) rfl rfl rfl λB0 hc=>?_;conv=>whnf
 exact .func .nil (.cons (.ptr rfl rfl (.cons (.pure (aQ.list.an _)) (.cons (.pure (bC.list.an _)) (.cons (.pure (jD.list.an _)) .nil)))) (.cons (.ptr rfl rfl (.cons (.pure (aQ.list.an _)) (.cons (.pure (bC.list.an _)) (.cons (.pure (jD.list.an _)) .nil)))) .nil))
def xT:Cn prog:=Cn.mk 195 false (dh×dh) (λx=> .cons (aN.v x.1) (.cons (aN.v x.2) .nil)) (λx=>Zn x.1 x.2) (λ_=>True)
 (λa b _ _ h=>by injection h with h1 h;injection h with h2 _;rw [aN.bO h1,aN.bO h2]) (λx=>⟨aN.jm _,aN.jm _,aB⟩)
 (λx=>br (Zo x.1 x.2)) (λh=>by cases h) (λx _=>Zp x.1 x.2) (aw rfl rfl)
end
theorem Nr [aT] {ι:Type} {F:Av ι} {call:eL ->AV ->Heap ->CR} {id:Pos} {xs:AV} {h:Heap} (dD:∀i,F.ok i ->h≠F.h0 i) {K:AV ->Heap ->Prop} (hk:∃v h',call (.rd id) xs h= .ret v h'/\K v h'):∃v h',ou id F call (.rd id) xs h= .ret v h'/\K v h':=by
 obtain⟨v,h',e,k⟩:=hk;refine⟨v,h',?_,k⟩;unfold ou;rw [dif_neg]
 .exact e
 .rintro ⟨i,hi,_,_,e⟩;exact dD i hi e
def gK (a b:dh) (n:Q3):Bool:=match gD 0 (Q.cmp (eG a n).1 (eG b n).2)with|true=>true|false=>gD 0 (Q.cmp (eG b n).1 (eG a n).2)
structure vu (a b:dh) (n:Q3):Prop where
 ea:Ck a n
 eb:Ck b n
 c:dt (eG a n).1 (eG b n).2
 d:dt (eG b n).1 (eG a n).2
def pnR (a b:dh):List (Nat×AV):=[(0,aN.v a),(1,aN.v b),(2,.ptr (pathOf 64) 0),(3,.ptr (pathOf 65) 0),(4,.ptr (pathOf 66) 0),(10,aN.v a),(11,aN.v b),(12,Zn a b)]
def agC (st:Bool) (a b:dh):AO:= .loop (Bool.casesOn st true false) (Bool.casesOn (motive:=λ_=>Option (Option Nat)) st none (some none)) 134 (bl (pnR a b)) f134.ntmps (po (vK f134)).1 (po (vK f134)).2.1 (po (vK f134)).2.2 (pathOf 67)
def xU (a b:dh) (st:Bool) (r:List (Nat×AO)):List (Nat×AO):=(64,cl (od a))::(65,cl (od b))::(66,cl [.bool false])::(67,.marks)::(68,agC st a b)::r
def kr (a b:dh):Av (dh×lS) where
 ar:=λi=> .cons (aQ.v i.2.1) .nil
 h0:=λi=>hp (xU a b false [(69,cl (od i.1)),(70,cl (bC.cs i.2))]) 71
 v:=λi=> .bool (aY (gK a b i.2.1))
 H:=λi=>(xU a b (gK a b i.2.1) [(69,cl (od i.1)),(70,cl (bC.cs i.2))]).map λx=>(pathOf x.1,x.2)
 N:=λ_=>pathOf 80
 ok:=λi=>vu a b i.2.1
 inj:=by
  rintro ⟨s,f⟩ ⟨s',f'⟩ _ _ e1 e2;injection e1 with e0 _;have e1:f.1=f'.1:=aQ.bO e0;have g1:some (cl (od s))=some (cl (od s')):=congrArg (λh:Heap=>h.t.get (pathOf 69)) e2;have g2:some (cl (bC.cs f))=some (cl (bC.cs f')):=congrArg (λh:Heap=>h.t.get (pathOf 70)) e2;show _/\List.map _ (xU a b (gK a b f.1) [(69,cl (od s)),(70,cl (bC.cs f))])=List.map _ (xU a b (gK a b f'.1) [(69,cl (od s')),(70,cl (bC.cs f'))])/\_;rw [e1,Option.some.inj g1,Option.some.inj g2];exact⟨rfl,rfl,rfl⟩
def lI (a b:dh):Av (Q3×Q3) where
 ar:=λi=> .cons (aQ.v (aG i.1 i.2)) .nil
 h0:=λi=>hp (xU a b false [(69,cl (oc i.1)),(70,cl (oc i.2)),(71,cl (oc (aG i.1 i.2)))]) 72
 v:=λi=> .bool (aY (gK a b (aG i.1 i.2)))
 H:=λi=>(xU a b (gK a b (aG i.1 i.2)) [(69,cl (oc i.1)),(70,cl (oc i.2)),(71,cl (oc (aG i.1 i.2)))]).map λx=>(pathOf x.1,x.2)
 N:=λ_=>pathOf 80
 ok:=λi=>vu a b (aG i.1 i.2)
 inj:=by
  rintro ⟨d,e⟩ ⟨d',e'⟩ _ _ e1 e2;injection e1 with e0 _;have e1:aG d e=aG d' e':=aQ.bO e0;have g1:some (cl (oc d))=some (cl (oc d')):=congrArg (λh:Heap=>h.t.get (pathOf 69)) e2;have g2:some (cl (oc e))=some (cl (oc e')):=congrArg (λh:Heap=>h.t.get (pathOf 70)) e2;show _/\List.map _ (xU a b (gK a b (aG d e)) [(69,cl (oc d)),(70,cl (oc e)),(71,cl (oc (aG d e)))])=List.map _ (xU a b (gK a b (aG d' e')) [(69,cl (oc d')),(70,cl (oc e')),(71,cl (oc (aG d' e')))])/\_;rw [e1,Option.some.inj g1,Option.some.inj g2];exact⟨rfl,rfl,rfl⟩
section
abbrev iP7:aT:=pR fp 7
attribute [local instance] iP7
def Zq:List (Cn prog):=[Cn.lift iP7 pH,Cn.lift iP7 ch]
theorem ai7 (a b:dh) (s:dh) (f:lS) (n:Q3) (h:vu a b n) (B0:Nat):RdW prog B0 (pathOf 68) 134 f134.ntmps (po (vK f134)).2.1 (po (vK f134)).2.2 (aH Zq)
  ((bl (pnR a b)).set (aQ.v n) (pathOf 13)) (hp (xU a b false [(69,cl (od s)),(70,cl (bC.cs f))]) 71) (.bool (aY (gK a b n))) ((xU a b (gK a b n) [(69,cl (od s)),(70,cl (bC.cs f))]).map λx=>(pathOf x.1,x.2)) (pathOf 80):=by
 obtain⟨h1,h2,h3,h4⟩:=h;have hc:=az (P:=prog) ae Zq B0;obtain⟨W,hW⟩:∃W,W=gK a b n:=⟨_,rfl⟩
 rw [<-hW];unfold gK at hW;refine kE (cx:=⟨_,_,_,_,aH Zq,0⟩) af rfl hc _ (aC ?_);refine kE (cx:=⟨_,_,_,_,aH Zq,0⟩) af rfl hc _ (aC ?_);refine cg Zq 0 (Cn.lift iP7 pH) (a,n) h1 (aE ?_);refine cg Zq 0 (Cn.lift iP7 pH) (b,n) h2 (aE ?_);refine cg Zq 1 (Cn.lift iP7 ch) ((eG a n).1,(eG b n).2) h3 (aE ?_);refine ay (λk1=>?_) (λk1=>?_)
 .have k1:gD 0 (Q.cmp (eG a n).1 (eG b n).2)=true:=k1;rw [k1]at hW;subst hW;refine aE ?_;repeat' first|exact aB|exact rfl|refine And.intro ?_ ?_
 .have k1:gD 0 (Q.cmp (eG a n).1 (eG b n).2)=false:=k1;rw [k1]at hW;refine aE ?_;refine cg Zq 1 (Cn.lift iP7 ch) ((eG b n).1,(eG a n).2) h4 (aE ?_);refine ay (λk2=>?_) (λk2=>?_);all_goals
   rw [show gD 0 (Q.cmp (eG b n).1 (eG a n).2)=_ from k2]at hW;subst hW;refine aE ?_;repeat' first|exact aB|exact rfl|refine And.intro ?_ ?_
theorem xW (a b:dh) (s:dh) (f:lS) {st:Bool} (hb:gK a b f.1=st):(kr a b).H (s,f)=(xU a b st [(69,cl (od s)),(70,cl (bC.cs f))]).map λx=>(pathOf x.1,x.2):=by subst hb;rfl
theorem xX (a b:dh) (s:dh) (f:lS) {st:Bool} (hb:gK a b f.1=st):(kr a b).v (s,f)= .bool (aY st):=by subst hb;rfl
theorem ai8 (a b:dh) (B0:Nat) (i:_×_) (hi:(kr a b).ok i):∃(fn:FuncId) (kl:Tr AV) (nt:Nat) (ps:Array Tmp) (assign body:Code) (Aq:Pos) (r:Tr AV) (jV:eL ->AV ->Heap ->CR),((kr a b).h0 i).t.get (pathOf 68)=some (.loop true none fn kl nt ps assign body Aq)/\oW ps.toList ((kr a b).ar i) nt kl=some r/\
  ((kr a b).h0 i).n.toNat=64+7/\((kr a b).h0 i).n.toNat<=((kr a b).N i).toNat/\RdW prog B0 (pathOf 68) fn nt assign body jV r ((kr a b).h0 i) ((kr a b).v i) ((kr a b).H i) ((kr a b).N i):=
 ⟨_,_,_,_,_,_,_,_,aH Zq,rfl,rfl,rfl,(show(pathOf 71).toNat<=(pathOf 80).toNat by decide),ai7 a b i.1 i.2 i.2.1 hi B0⟩
end
section
abbrev iP8:aT:=pR fp 8
attribute [local instance] iP8
def Zr:List (Cn prog):=[Cn.lift iP8 pH,Cn.lift iP8 ch]
theorem ai9 (a b:dh) (x y z:Q3) (n:Q3) (h:vu a b n) (B0:Nat):RdW prog B0 (pathOf 68) 134 f134.ntmps (po (vK f134)).2.1 (po (vK f134)).2.2 (aH Zr)
  ((bl (pnR a b)).set (aQ.v n) (pathOf 13)) (hp (xU a b false [(69,cl (oc x)),(70,cl (oc y)),(71,cl (oc z))]) 72) (.bool (aY (gK a b n))) ((xU a b (gK a b n) [(69,cl (oc x)),(70,cl (oc y)),(71,cl (oc z))]).map λx=>(pathOf x.1,x.2)) (pathOf 80):=by
 obtain⟨h1,h2,h3,h4⟩:=h;have hc:=az (P:=prog) ae Zr B0;obtain⟨W,hW⟩:∃W,W=gK a b n:=⟨_,rfl⟩
 rw [<-hW];unfold gK at hW;refine kE (cx:=⟨_,_,_,_,aH Zr,0⟩) af rfl hc _ (aC ?_);refine kE (cx:=⟨_,_,_,_,aH Zr,0⟩) af rfl hc _ (aC ?_);refine cg Zr 0 (Cn.lift iP8 pH) (a,n) h1 (aE ?_);refine cg Zr 0 (Cn.lift iP8 pH) (b,n) h2 (aE ?_);refine cg Zr 1 (Cn.lift iP8 ch) ((eG a n).1,(eG b n).2) h3 (aE ?_);refine ay (λk1=>?_) (λk1=>?_)
 .have k1:gD 0 (Q.cmp (eG a n).1 (eG b n).2)=true:=k1;rw [k1]at hW;subst hW;refine aE ?_;repeat' first|exact aB|exact rfl|refine And.intro ?_ ?_
 .have k1:gD 0 (Q.cmp (eG a n).1 (eG b n).2)=false:=k1;rw [k1]at hW;refine aE ?_;refine cg Zr 1 (Cn.lift iP8 ch) ((eG b n).1,(eG a n).2) h4 (aE ?_);refine ay (λk2=>?_) (λk2=>?_);all_goals
   rw [show gD 0 (Q.cmp (eG b n).1 (eG a n).2)=_ from k2]at hW;subst hW;refine aE ?_;repeat' first|exact aB|exact rfl|refine And.intro ?_ ?_
theorem Ns (a b:dh) (x y:Q3) {st:Bool} (hb:gK a b (aG x y)=st):(lI a b).H (x,y)=(xU a b st [(69,cl (oc x)),(70,cl (oc y)),(71,cl (oc (aG x y)))]).map λx=>(pathOf x.1,x.2):=by subst hb;rfl
theorem Nt (a b:dh) (x y:Q3) {st:Bool} (hb:gK a b (aG x y)=st):(lI a b).v (x,y)= .bool (aY st):=by subst hb;rfl
theorem aja (a b:dh) (B0:Nat) (i:_×_) (hi:(lI a b).ok i):∃(fn:FuncId) (kl:Tr AV) (nt:Nat) (ps:Array Tmp) (assign body:Code) (Aq:Pos) (r:Tr AV) (jV:eL ->AV ->Heap ->CR),((lI a b).h0 i).t.get (pathOf 68)=some (.loop true none fn kl nt ps assign body Aq)/\oW ps.toList ((lI a b).ar i) nt kl=some r/\
  ((lI a b).h0 i).n.toNat=64+8/\((lI a b).h0 i).n.toNat<=((lI a b).N i).toNat/\RdW prog B0 (pathOf 68) fn nt assign body jV r ((lI a b).h0 i) ((lI a b).v i) ((lI a b).H i) ((lI a b).N i):=
 ⟨_,_,_,_,_,_,_,_,aH Zr,rfl,rfl,rfl,(show(pathOf 72).toNat<=(pathOf 80).toNat by decide),ai9 a b i.1 i.2 (aG i.1 i.2) (aG i.1 i.2) hi B0⟩
end
def zR (a b:dh):List Q3:=a.2.1.map (·.1)++(b.2.1.map (·.1)++(dw a).flatMap λx=>((dw b).map λy=>aG x y).filter λn=>aY (cT n))
structure sU (a b:dh):Prop where
 na:a.2.1.length<=1000000
 nb:b.2.1.length<=1000000
 da:zI a
 db:zI b
 la:(dw a).length<=1000000
 lb:(dw b).length<=1000000
 cr:∀x∈dw a,∀y∈dw b,pA x y/\rP dt (aG x y) z3
 sp:∀n∈zR a b,vu a b n
theorem lg [aT] {ι:Type} {F:Av ι} {call:eL ->AV ->Heap ->CR} {id:Pos} (i:ι) (hi:F.ok i) {v:AV} {H:List (Pos×AO)} (hv:F.v i=v) (hH:F.H i=H) {xs:AV} {h:Heap} {K:AV ->Heap ->Prop} (hk:K v ⟨bV H,F.N i⟩) (ea:xs=F.ar i:=by rfl) (eh:h=F.h0 i:=by rfl):∃v h',ou id F call (.rd id) xs h= .ret v h'/\K v h':=by
 subst hv hH;exact Ye i hi ea eh hk
section
abbrev iP5:aT:=pR fp 5
attribute [local instance] iP5
def tP5:List (Cn prog):=[Cn.lift iP5 wu,Cn.lift iP5 qP,Cn.lift iP5 mH]
def cP5 (a b:dh):eL ->AV ->Heap ->CR:=ou (pathOf 68) (kr a b) (ou (pathOf 68) (lI a b) (aH tP5))
theorem ad2 (a b:dh) (B0:Nat):aU prog B0 (cP5 a b):=
 zg 7 (zg 8 (az ae tP5 B0) (lI a b) (by decide) (aja a b B0)) (kr a b) (by decide) (ai8 a b B0)
def pnA (a b:dh):AV:= .cons (.yield (pathOf 68)) (.cons (.dq (aN.c a .nil) 0) (.cons (.dq (aN.c b .nil) 0) .nil))
theorem ajb (a b:dh) (h:sU a b) (B0:Nat) {r:Tr AV} (hr:iH (pnA a b) 0 f269.ntmps .leaf=some r):
  Cw prog B0 ⟨prog,269,f269.ntmps,none,cP5 a b,0⟩ (vK f269) r [] (hp (xU a b false []) 69)
   (QK (fK prog f269 (.aS .nil) ((xU a b ((zR a b).any (gK a b)) []).map λx=>(pathOf x.1,x.2)) (pathOf 90)) (fK prog f269 (.aS .nil) ((xU a b ((zR a b).any (gK a b)) []).map λx=>(pathOf x.1,x.2)) (pathOf 90)) (λ_ _ _ _=>False)):=by
 cases hr;obtain⟨hna,hnb,hda,hdb,hla,hlb,hcr,fw⟩:=h;have hc:=ad2 a b B0;refine aD (cx:=⟨_,_,_,_,cP5 a b,0⟩) af rfl rfl hc _ ?_;obtain⟨W,hW⟩:∃W,W=(zR a b).any (gK a b):=⟨_,rfl⟩
 rw [<-hW];unfold zR at hW fw;have ajc:∀x∈dw a,∀y∈dw b,cT (aG x y)=false ->vu a b (aG x y):=λx hx y hy e=>fw _ (List.mem_append_right _ (List.mem_append_right _ (List.mem_flatMap.2 ⟨x,hx,List.mem_filter.2 ⟨List.mem_map_of_mem hy,by rw [e];rfl⟩⟩)));refine aE ?_;refine⟨_,rfl,aC ?_⟩;refine⟨_,rfl,aC ?_⟩;refine Cw.bH af rfl rfl hc 3 (aE ?_);refine Cw.lp (σ:=Unit) af rfl rfl hc a.2.1.length (λq _=>[(0,.yield (pathOf 68)),(1,.dq (aN.c a .nil) 0),(2,.dq (aN.c b .nil) 0),(5,.ptr (pathOf 69) 0),(16,.agg (aN.c a (aN.c b .nil))),(17,.int .i64 0),(21,bC.list.v a.2.1),(22,.int .i64 (a.2.1.length:Int)),(23,.int .i64 (q:Int))])
  (λq _=>hp (xU a b false [(69,cl (od a))]) 70) (λq _=>((a.2.1.drop q).map (·.1)++(b.2.1.map (·.1)++((dw a).flatMap λx=>((dw b).map λy=>aG x y).filter λn=>aY (cT n)))).any (gK a b)=W) () hW.symm (sb [(64,64),(65,65),(66,66),(67,67),(68,68),(69,69)]) (λq _ hq hs=>?_)
 conv=>whnf
 refine ay (λh1=>?_) (λh1=>?_)
 .have hq:=pT h1;have cE:=pS hq (by omega);rw [List.drop_eq_getElem_cons hq,List.map_cons,List.cons_append,List.any_cons]at hs;have gy:vu a b a.2.1[q].1:=fw _ (List.mem_append_left _ (List.mem_map_of_mem (List.getElem_mem hq)));conv=>whnf
  refine aL.go q rfl hq (aC ?_);refine⟨_,bC.rd rfl hq,aE ?_⟩;generalize a.2.1[q]=f at*;cases hb:gK a b f.1 with
  |true=>
   rw [hb]at hs;have hs:true=W:=hs;subst hs;refine lg (F:=kr a b) (a,f) gy (xX a b a f hb) (xW a b a f hb) (aE ?_);repeat' first|exact aB|exact rfl|refine And.intro ?_ ?_
  |false=>
   rw [hb,Bool.false_or]at hs;refine lg (F:=kr a b) (a,f) gy (xX a b a f hb) (xW a b a f hb) (aE ?_);exact⟨(),hq,hs,sb [(64,64),(65,65),(66,66),(67,67),(68,68),(69,69)]⟩
 .obtain rfl:=rN hq h1;rw [List.drop_length,List.map_nil,List.nil_append]at hs;have hW:=hs.symm;clear hs;refine aE ?_;refine Cw.lp (σ:=Unit) af rfl rfl hc b.2.1.length (λq _=>[(0,.yield (pathOf 68)),(1,.dq (aN.c a .nil) 0),(2,.dq (aN.c b .nil) 0),(5,.ptr (pathOf 69) 0),(16,.agg (aN.c a (aN.c b .nil))),(17,.int .i64 1),(21,bC.list.v b.2.1),(22,.int .i64 (b.2.1.length:Int)),(23,.int .i64 (q:Int))])
   (λq _=>hp (xU a b false [(69,cl (od b))]) 70) (λq _=>((b.2.1.drop q).map (·.1)++((dw a).flatMap λx=>((dw b).map λy=>aG x y).filter λn=>aY (cT n))).any (gK a b)=W) () hW.symm (sb [(64,64),(65,65),(66,66),(67,67),(68,68),(69,70)]) (λq _ hq hs=>?_)
  conv=>whnf
  refine ay (λh1=>?_) (λh1=>?_)
  .have hq:=pT h1;have cE:=pS hq (by omega);rw [List.drop_eq_getElem_cons hq,List.map_cons,List.cons_append,List.any_cons]at hs;have gy:vu a b b.2.1[q].1:=fw _ (List.mem_append_right _ (List.mem_append_left _ (List.mem_map_of_mem (List.getElem_mem hq))));conv=>whnf
   refine aL.go q rfl hq (aC ?_);refine⟨_,bC.rd rfl hq,aE ?_⟩;generalize b.2.1[q]=f at*;cases hb:gK a b f.1 with
   |true=>
    rw [hb]at hs;have hs:true=W:=hs;subst hs;refine lg (F:=kr a b) (b,f) gy (xX a b b f hb) (xW a b b f hb) (aE ?_);repeat' first|exact aB|exact rfl|refine And.intro ?_ ?_
   |false=>
    rw [hb,Bool.false_or]at hs;refine lg (F:=kr a b) (b,f) gy (xX a b b f hb) (xW a b b f hb) (aE ?_);exact⟨(),hq,hs,sb [(64,64),(65,65),(66,66),(67,67),(68,68),(69,69)]⟩
  .obtain rfl:=rN hq h1;rw [List.drop_length,List.map_nil,List.nil_append]at hs;have hW:=hs.symm;clear hs;refine aE ?_;refine⟨_,rfl,aC ?_⟩;refine lQ (lQ (cg tP5 0 (Cn.lift iP5 wu) b hdb (aE ?_)));refine⟨_,rfl,aC ?_⟩;refine lQ (lQ (cg tP5 0 (Cn.lift iP5 wu) a hda (aE ?_)));refine Cw.lp (σ:=Unit) af rfl rfl hc (dw a).length (λq _=>[(0,.yield (pathOf 68)),(8,aQ.list.v (dw b)),(37,aQ.list.v (dw a)),(38,.int .i64 ((dw a).length:Int)),(39,.int .i64 (q:Int))])
    (λq _=>hp (xU a b false []) 69) (λq _=>(((dw a).drop q).flatMap λx=>((dw b).map λy=>aG x y).filter λn=>aY (cT n)).any (gK a b)=W) () hW.symm (sb [(64,64),(65,65),(66,66),(67,67),(68,68)]) (λq _ hq hs=>?_)
   conv=>whnf
   refine ay (λh1=>?_) (λh1=>?_)
   .have hq:=pT h1;have cE:=pS hq (by omega);rw [List.drop_eq_getElem_cons hq,List.flatMap_cons]at hs;have As:(dw a)[q]∈dw a:=List.getElem_mem hq;conv=>whnf
    refine aL.go q rfl hq (aC ?_);refine⟨_,aQ.rd rfl hq,aE ?_⟩;obtain⟨R,hR⟩:∃R,R=((dw a).drop (q+1)).flatMap λx=>((dw b).map λy=>aG x y).filter λn=>aY (cT n):=⟨_,rfl⟩
    rw [<-hR]at hs;generalize (dw a)[q]=x at*;refine Cw.lp (σ:=Unit) af rfl rfl hc (dw b).length (λp _=>[(0,.yield (pathOf 68)),(8,aQ.list.v (dw b)),(10,.ptr (pathOf 69) 0),(37,aQ.list.v (dw a)),(38,.int .i64 ((dw a).length:Int)),(39,.int .i64 (q:Int)),(43,aQ.list.v (dw b)),(44,.int .i64 ((dw b).length:Int)),(45,.int .i64 (p:Int))])
     (λp _=>hp (xU a b false [(69,cl (oc x))]) 70) (λp _=>((((dw b).drop p).map λy=>aG x y).filter (λn=>aY (cT n))++R).any (gK a b)=W) () hs (sb [(64,64),(65,65),(66,66),(67,67),(68,68),(69,69)]) (λp _ hp fw=>?_)
    conv=>whnf
    refine ay (λh2=>?_) (λh2=>?_)
    .have hp:=pT h2;have UG:=pS hp (by omega);rw [List.drop_eq_getElem_cons hp,List.map_cons]at fw;have hcy:=hcr _ As _ (List.getElem_mem hp);have hsy:cT (aG x (dw b)[p])=false ->vu a b (aG x (dw b)[p]):=λe=>ajc x As _ (List.getElem_mem hp) e;conv=>whnf
     refine aL.go p rfl hp (aC ?_);refine⟨_,aQ.rd rfl hp,aE ?_⟩;generalize (dw b)[p]=y at*;refine lQ (lQ (cg tP5 1 (Cn.lift iP5 qP) (x,y) hcy.1 (aE ?_)));refine lQ (lQ (cg tP5 2 (Cn.lift iP5 mH) (aG x y) hcy.2 (aE ?_)));cases hz:cT (aG x y)with
     |true=>
      rw [List.filter_cons_of_neg (by rw [hz];exact Bool.false_ne_true)]at fw;refine aE ?_;exact⟨(),hp,fw,sb [(64,64),(65,65),(66,66),(67,67),(68,68),(69,69)]⟩
     |false=>
      rw [List.filter_cons_of_pos (by rw [hz];rfl),List.cons_append,List.any_cons]at fw;have gy:=hsy hz;refine aE ?_;cases hb:gK a b (aG x y)with
      |true=>
       rw [hb]at fw;have fw:true=W:=fw;subst fw;refine Nr ?_ (lg (F:=lI a b) (x,y) gy (Nt a b x y hb) (Ns a b x y hb) ?_)
       .exact λi _ e=>absurd (congrArg Heap.n e) (show pathOf 72≠pathOf 71 by decide)
       refine aE ?_;repeat' first|exact aB|exact rfl|refine And.intro ?_ ?_
      |false=>
       rw [hb,Bool.false_or]at fw;refine Nr ?_ (lg (F:=lI a b) (x,y) gy (Nt a b x y hb) (Ns a b x y hb) ?_)
       .exact λi _ e=>absurd (congrArg Heap.n e) (show pathOf 72≠pathOf 71 by decide)
       refine aE ?_;exact⟨(),hp,fw,sb [(64,64),(65,65),(66,66),(67,67),(68,68),(69,69)]⟩
    .obtain rfl:=rN hp h2;rw [List.drop_length,List.map_nil,List.filter_nil,List.nil_append,hR]at fw;refine aE ?_;exact⟨(),hq,fw,sb [(64,64),(65,65),(66,66),(67,67),(68,68)]⟩
   .obtain rfl:=rN hq h1;rw [List.drop_length]at hs;have hs:false=W:=hs;subst hs;refine aE ?_;repeat' first|exact aB|exact rfl|refine And.intro ?_ ?_
end
section
attribute [local instance] fp
def UL:Av (dh×dh) where
 ar:=λi=>pnA i.1 i.2
 h0:=λi=>hp (xU i.1 i.2 false []) 69
 v:=λ_=> .aS .nil
 H:=λi=>(xU i.1 i.2 ((zR i.1 i.2).any (gK i.1 i.2)) []).map λx=>(pathOf x.1,x.2)
 N:=λ_=>pathOf 90
 ok:=λi=>sU i.1 i.2
 inj:=by
  rintro ⟨a,b⟩ ⟨a',b'⟩ _ _ e1 e2;injection e1 with _ e1;injection e1 with e3 e4;injection e4 with e4 _;injection e3 with e3 _;injection e4 with e4 _;have e3:a=a':=by have:=aN.bO (congrArg AV.agg e3);exact this
  have e4:b=b':=by have:=aN.bO (congrArg AV.agg e4);exact this
  rw [e3,e4];exact⟨rfl,rfl,rfl⟩
theorem UM (a b:dh) {st:Bool} (hb:(zR a b).any (gK a b)=st):UL.H (a,b)=(xU a b st []).map λx=>(pathOf x.1,x.2):=by subst hb;rfl
def qZ (a b:dh):Bool:=aY ((zR a b).any (gK a b))
theorem vv [aT] {ι:Type} {F:Av ι} {call:eL ->AV ->Heap ->CR} {f0:FuncId} (i:ι) (hi:F.ok i) {H:List (Pos×AO)} (hH:F.H i=H) {xs:AV} {h:Heap} (ea:xs=F.ar i:=by rfl) (eh:h=F.h0 i:=by rfl):fQ f0 F call (.fn f0) xs h= .ret (F.v i) ⟨bV H,F.N i⟩:=by
 subst hH ea eh;exact BS i hi
def cPn:eL ->AV ->Heap ->CR:=fQ 269 UL (aH (P:=prog) [xT])
theorem UN (B0:Nat):aU prog B0 cPn:=
 jX ae 5 (az ae [xT] B0) (fn:=f269) rfl rfl UL (λi hi=>⟨_,_,rfl,rfl,(show(pathOf 69).toNat<=(pathOf 90).toNat by decide),ajb i.1 i.2 hi B0 rfl⟩)
theorem agD (a b:dh) (h:sU a b):dQ 134 (.cons (aN.v a) (.cons (aN.v b) .nil)) (bG.v (qZ a b)):=by
 refine PF.of_wp af (by decide) (fn:=f134) rfl rfl rfl (.cons (aN.an _) (.cons (aN.an _) .nil)) (call:=cPn) (λB0=>UN B0) λB0=>?_;have hc:=UN B0;unfold qZ;conv=>whnf
 refine bS (by decide) (cg [xT] 0 xT (a,b) aB (aE ?_) (hl:=List.nodup_cons.2 ⟨List.not_mem_nil,List.nodup_nil⟩));cases hb:(zR a b).any (gK a b)with
 |true=>
  refine Cw.range af rfl hc rfl rfl (vv (F:=UL) (a,b) h (UM a b hb)) (x:=_) rfl ?_ ?_
  .intro e;cases e
  refine aE ?_;exact ak.same rfl .bool
 |false=>
  refine Cw.range af rfl hc rfl rfl (vv (F:=UL) (a,b) h (UM a b hb)) (x:=_) rfl ?_ ?_
  .intro e;cases e
  refine aE ?_;exact ak.same rfl .bool
def UO:Cn prog:= .kP aN aN bG 134 true sU qZ fF agD (aw rfl rfl)
end
end
section
attribute [local instance] bZ
abbrev Rgs:=List (List Int)
def lh:List (Rgs×List Ug):=[
 ([[0,1,3,2],[0,2,6,4],[0,4,5,1],[1,5,7,3],[2,3,7,6],[4,6,7,5]],[(0,1,0,2),(0,2,0,1),(0,4,1,2),(1,3,0,3),(1,5,2,3),(2,3,0,4),(2,6,1,4),(3,7,3,4),(4,5,2,5),(4,6,1,5),(5,7,3,5),(6,7,4,5)]),
 ([[0,1,3,2],[0,2,4],[0,4,5,1],[1,5,3],[2,3,5,4]],[(0,1,0,2),(0,2,0,1),(0,4,1,2),(1,3,0,3),(1,5,2,3),(2,3,0,4),(2,4,1,4),(3,5,3,4),(4,5,2,4)]),
 ([[0,1,5,4],[0,2,3,1],[0,4,2],[1,3,5],[2,4,5,3]],[(0,1,0,1),(0,2,1,2),(0,4,0,2),(1,3,1,3),(1,5,0,3),(2,3,1,4),(2,4,2,4),(3,5,3,4),(4,5,0,4)]),
 ([[0,1,2],[0,2,3],[0,3,1],[1,3,2]],[(0,1,0,2),(0,2,0,1),(0,3,1,2),(1,2,0,3),(1,3,2,3),(2,3,1,3)]),
 ([[0,1,3],[0,2,1],[0,3,2],[1,2,3]],[(0,1,0,1),(0,2,1,2),(0,3,0,2),(1,2,1,3),(1,3,0,3),(2,3,2,3)])]
def pN (r:Rgs):List Ug:=((lh.find? λx=>x.1==r).map (·.2)).getD []
theorem re {P:Program} (hm:P.follows .mixedOrders=true) (eH:eO P) {ov:eL ->AV ->Heap ->Option CR} (Ip:∀B0,xw P B0 ov) (hlen:aT.l.length<=64) {f:FuncId} {a v:AV} (hp:dj a) (h:sM P ov f (a,v)=true):PF P f a v:=by
 unfold sM at h;split at h
 .rename_i v1 hh bu;split at h
  .rename_i u hs;have e:u=v:=Kh h;rw [<-e];exact PF.of_run hm eH Ip hlen hp bu (ik _ hs).1
  .cases h
 .cases h
abbrev NO:=Q3×Q
def fcs:List NO ->Rgs ->List lS
 |x::l,r::m=>(x.1,x.2,r)::fcs l m|_,_=>[]
theorem Zs (a0 a1 a2 a3 a4 a5:NO):sM prog vq 193 (.cons (bC.list.v (fcs [a0,a1,a2,a3,a4,a5] (lh.map (·.1))[0]!)) .nil,jD.list.v (lh.map (·.2))[0]!)=true:=by kernel_rfl
theorem Zt (a0 a1 a2 a3 a4:NO):sM prog vq 193 (.cons (bC.list.v (fcs [a0,a1,a2,a3,a4] (lh.map (·.1))[1]!)) .nil,jD.list.v (lh.map (·.2))[1]!)=true:=by kernel_rfl
theorem Zu (a0 a1 a2 a3 a4:NO):sM prog vq 193 (.cons (bC.list.v (fcs [a0,a1,a2,a3,a4] (lh.map (·.1))[2]!)) .nil,jD.list.v (lh.map (·.2))[2]!)=true:=by kernel_rfl
theorem Zv (a0 a1 a2 a3:NO):sM prog vq 193 (.cons (bC.list.v (fcs [a0,a1,a2,a3] (lh.map (·.1))[3]!)) .nil,jD.list.v (lh.map (·.2))[3]!)=true:=by kernel_rfl
theorem Zw (a0 a1 a2 a3:NO):sM prog vq 193 (.cons (bC.list.v (fcs [a0,a1,a2,a3] (lh.map (·.1))[4]!)) .nil,jD.list.v (lh.map (·.2))[4]!)=true:=by kernel_rfl
theorem Zx (fs:List lS) (h:fs.map (·.2.2)∈lh.map (·.1)):PF prog 193 (.cons (bC.list.v fs) .nil) (jD.list.v (pN (fs.map (·.2.2)))):=by
 simp only [lh,List.map_cons,List.map_nil,List.mem_cons,List.not_mem_nil,or_false]at h;rcases h with h|h|h|h|h
 .have hl:fs.length=6:=by rw [<-List.length_map (f:=λx:lS=>x.2.2),h];rfl
  match fs,hl with
  |[(n0,o0,r0),(n1,o1,r1),(n2,o2,r2),(n3,o3,r3),(n4,o4,r4),(n5,o5,r5)],_=>
   simp only [List.map_cons,List.map_nil,List.cons.injEq,and_true]at h;obtain⟨rfl,rfl,rfl,rfl,rfl,rfl⟩:=h;exact re af ae iR (by decide) (.cons (bC.list.an _) .nil) (Zs (n0,o0) (n1,o1) (n2,o2) (n3,o3) (n4,o4) (n5,o5))
 .have hl:fs.length=5:=by rw [<-List.length_map (f:=λx:lS=>x.2.2),h];rfl
  match fs,hl with
  |[(n0,o0,r0),(n1,o1,r1),(n2,o2,r2),(n3,o3,r3),(n4,o4,r4)],_=>
   simp only [List.map_cons,List.map_nil,List.cons.injEq,and_true]at h;obtain⟨rfl,rfl,rfl,rfl,rfl⟩:=h;exact re af ae iR (by decide) (.cons (bC.list.an _) .nil) (Zt (n0,o0) (n1,o1) (n2,o2) (n3,o3) (n4,o4))
 .have hl:fs.length=5:=by rw [<-List.length_map (f:=λx:lS=>x.2.2),h];rfl
  match fs,hl with
  |[(n0,o0,r0),(n1,o1,r1),(n2,o2,r2),(n3,o3,r3),(n4,o4,r4)],_=>
   simp only [List.map_cons,List.map_nil,List.cons.injEq,and_true]at h;obtain⟨rfl,rfl,rfl,rfl,rfl⟩:=h;exact re af ae iR (by decide) (.cons (bC.list.an _) .nil) (Zu (n0,o0) (n1,o1) (n2,o2) (n3,o3) (n4,o4))
 .have hl:fs.length=4:=by rw [<-List.length_map (f:=λx:lS=>x.2.2),h];rfl
  match fs,hl with
  |[(n0,o0,r0),(n1,o1,r1),(n2,o2,r2),(n3,o3,r3)],_=>
   simp only [List.map_cons,List.map_nil,List.cons.injEq,and_true]at h;obtain⟨rfl,rfl,rfl,rfl⟩:=h;exact re af ae iR (by decide) (.cons (bC.list.an _) .nil) (Zv (n0,o0) (n1,o1) (n2,o2) (n3,o3))
 .have hl:fs.length=4:=by rw [<-List.length_map (f:=λx:lS=>x.2.2),h];rfl
  match fs,hl with
  |[(n0,o0,r0),(n1,o1,r1),(n2,o2,r2),(n3,o3,r3)],_=>
   simp only [List.map_cons,List.map_nil,List.cons.injEq,and_true]at h;obtain⟨rfl,rfl,rfl,rfl⟩:=h;exact re af ae iR (by decide) (.cons (bC.list.an _) .nil) (Zw (n0,o0) (n1,o1) (n2,o2) (n3,o3))
def Nu:Cn prog:= .mU bC.list jD.list 193 false (λfs=>fs.map (·.2.2)∈lh.map (·.1)) (λfs=>pN (fs.map (·.2.2))) (λe=>by cases e) Zx (aw rfl rfl)
end
end
end Go.Sy
