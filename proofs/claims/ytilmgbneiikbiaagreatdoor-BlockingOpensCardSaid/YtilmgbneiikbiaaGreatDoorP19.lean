/- A piece of the proof, made small by a program of ours. -/
import Derived.Test.YtilmgbneiikbiaaGreatDoorP18
set_option linter.all false
set_option maxRecDepth 1000000
set_option maxHeartbeats 0
namespace Go.Sy
noncomputable section
open Go.RowKit Go.Proofs Go.Proofs.Tryz
section
attribute [local irreducible] Cw ak bq PF Sub
attribute [local instance] bZ
def jd (a:iL) (x:iF):fA:=zZ (fx a x.2.1) (nF x.2.2)
def Fq (a:iL):List fA:=a.2.map (jd a)
structure aet (a:iL):Prop where
 n:a.2.length<=1000
 pt:∀x∈a.2,ZU a x.2.1
 so:∀x∈a.2,Ab x.2.2/\Cs (fx a x.2.1) (nF x.2.2)
def aeu:List (Cn prog):=[Cn.lift bZ NR,EM]
theorem aaf (a:iL) (h:aet a):PF prog 40 (.cons (eA.v a) .nil) (bM.list.v (Fq a)):=by
 obtain⟨hn,hpt,hso⟩:=h;unfold Fq;refine PF.go af ae aeu (fn:=f40) rfl rfl rfl λB0 hc=>?_;conv=>whnf
 refine Cw.lp (σ:=Unit) af rfl rfl hc a.2.length (λq _=>[(1,.ptr (pathOf 64) 0),(3,.gs (pathOf 65) q 2),(11,fk.list.v a.2),(12,.int .i64 (a.2.length:Int)),(13,.int .i64 (q:Int))])
  (λq _=>hp [(64,cl (eA.cs a)),(65,.gl (bM.l ((a.2.take q).map (jd a))) false)] 66) (λ_ _=>True) () trivial (sb [(64,64),(65,0)]) (λq _ hq _=>?_)
 conv=>whnf
 refine ay (λk1=>?_) (λk1=>?_)
 .have hq:=pT k1;have cE:=pS hq (by omega);have Ri:=bM.pq (jd a) hq;have hm:=List.getElem_mem hq;have h1:=hpt _ hm;have h2:=hso _ hm;conv=>whnf
  refine aL.go q rfl hq (aC ?_);refine⟨_,fk.rd rfl hq,aE ?_⟩;refine cg aeu 0 (Cn.lift bZ NR) (a,a.2[q].2.1) h1 (aE ?_);refine cg aeu 1 EM (fx a a.2[q].2.1,a.2[q].2.2) h2 (aE ?_);refine⟨_,rfl,aC ?_⟩;refine⟨bM.ap (q:=q) (gg (Nat.le_of_lt hq)) (by omega),aE ?_⟩;exact⟨(),hq,aB,sb [(64,64),(65,70)]⟩
 .obtain rfl:=rN hq k1;rw [List.take_length];refine aE ?_;exact bM.gG rfl rfl (List.length_map ..).symm
def NS:Cn prog:= .mU eA bM.list 40 false aet Fq (λe=>by cases e) aaf (aw rfl rfl)
def lk (a:iL):List fA:=match aY (bD (uh a) 0)with|true=>[]|false=>Fq a
structure NT (a:iL):Prop where
 ck:NN a
 pl:uh a=0 ->aet a
def aev:List (Cn prog):=[HN,NS]
theorem Vy (a:iL) (h:NT a):PF prog 11 (.cons (eA.v a) .nil) (.aS (.cons (bM.list.v (lk a)) (.cons (fj.v (uh a)) .nil))):=by
 obtain⟨h1,h2⟩:=h;refine PF.go af ae aev (fn:=f11) rfl rfl rfl λB0 hc=>?_;unfold lk;conv=>whnf
 refine cg aev 0 HN a h1 (aE ?_);refine ay (λk1=>?_) (λk1=>?_)
 .have k1:aY (bD (uh a) 0)=true:=k1;rw [k1];refine aE ?_;exact .aS (.cons .bt (.cons (.pure .int) .nil))
 .have k1:aY (bD (uh a) 0)=false:=k1;have hz:uh a=0:=by
   cases hb:bD (uh a) 0 with
   |true=>exact bh.1 hb|false=>rw [hb]at k1;cases k1
  rw [k1,hz];refine aE ?_;refine cg aev 1 NS a (h2 hz) (aE ?_);exact ak.pure (.aS (.cons (bM.list.an (Fq a)) (.cons .int .nil)))
def oM:Cn prog:= .agV eA bM.list fj 11 NT lk uh Vy (aw rfl rfl)
end
section
attribute [local irreducible] Cw ak bq PF Sub
section
attribute [local instance] fp
def fPr (l:List fA):AV:= .func (.func 78) .nil (.cons (.dq (bM.list.c l .nil) 0) .nil)
theorem aew (l:List fA):DP (fPr l):=⟨aB,bM.list.lH l .nil,aB⟩
theorem Vz (l:List fA):dQ 42 (.cons (bM.list.v l) .nil) (fPr l):=by
 refine PF.go af ae [] (fn:=f42) rfl rfl rfl λB0 hc=>?_;conv=>whnf
 exact .func .nil (.cons (.ptr rfl rfl (.cons (.pure (bM.list.an _)) .nil)) .nil)
def HO:Cn prog:=Cn.mk 42 false (List fA) (λx=> .cons (bM.list.v x) .nil) fPr (λ_=>True)
 (λa b _ _ h=>by injection h with h1 _;rw [bM.list.bO h1]) (λx=>⟨bM.list.jm _,aB⟩)
 (λx=>br (aew x)) (λh=>by cases h) (λx _=>Vz x) (aw rfl rfl)
end
abbrev OP:=Option (Nat×Nat)
def OP.x (o:OP):Int:=match o with|some z=>z.1|none=>0
def OP.y (o:OP):Int:=match o with|some z=>z.2|none=>0
def OP.e (o:OP) (e:Int):Int:=match o with|some _=>25|none=>e
def snR (a:iL) (l:List fA) (e:Int):List (Nat×AV):=[(0,eA.v a),(1,.ptr (pathOf 64) 0),(2,.ptr (pathOf 65) 0),(3,.ptr (pathOf 66) 0),(4,.ptr (pathOf 67) 0),(5,bM.list.v l),(7,.aS (.cons (bM.list.v l) (.cons (.int .i64 e) .nil))),(8,eA.v a),(9,.aS (.cons (bM.list.v l) (.cons (.int .i64 e) .nil))),(10,bM.list.v l),(11,.int .i64 e),(12,bM.list.v l),(13,fPr l)]
def Cy (st:Bool) (a:iL) (l:List fA) (e:Int):AO:= .loop (Bool.casesOn st true false) (Bool.casesOn (motive:=λ_=>Option (Option Nat)) st none (some none)) 14 (bl (snR a l e)) f14.ntmps (po (vK f14)).1 (po (vK f14)).2.1 (po (vK f14)).2.2 (pathOf 68)
def Fs (a:iL) (l:List fA) (e:Int) (o:OP) (r:List (Nat×AO)):List (Nat×AO):=(64,cl (eA.cs a))::(65,cl [.int .i64 o.x])::(66,cl [.int .i64 o.y])::(67,cl [.int .i64 (o.e e)])::(68,.marks)::(69,Cy o.isSome a l e)::r
def Xm (i k:Nat) (s:Int):OP:=match bD s 3 with|true=>some (i,k)|false=>none
def lJ (a:iL) (l:List fA) (e:Int):Av (fA×Nat×Nat×Int) where
 ar:=λi=> .cons (.agg (.cons (.int .i64 (i.2.1:Int)) (.cons (.int .i64 (i.2.2.1:Int)) (.cons (.int .i64 i.2.2.2) .nil)))) .nil
 h0:=λi=>hp (Fs a l e none [(70,cl (bM.cs i.1))]) 71
 v:=λi=> .bool (aY (bD i.2.2.2 3))
 H:=λi=>(Fs a l e (Xm i.2.1 i.2.2.1 i.2.2.2) [(70,cl (bM.cs i.1))]).map λx=>(pathOf x.1,x.2)
 N:=λ_=>pathOf 80
 ok:=λi=>True
 inj:=by
  rintro ⟨x,i,k,s⟩ ⟨x',i',k',s'⟩ _ _ e1 e2;injection e1 with e1 _;injection e1 with e1;injection e1 with e3 e1;injection e1 with e4 e1;injection e1 with e5 _;injection e3 with _ e3;injection e4 with _ e4;injection e5 with _ e5;have f3:i=i':=Int.ofNat_inj.1 e3;have f4:k=k':=Int.ofNat_inj.1 e4;have f5:s=s':=e5;clear e3 e4 e5;have g1:some (cl (bM.cs x))=some (cl (bM.cs x')):=congrArg (λh:Heap=>h.t.get (pathOf 70)) e2;subst f3 f4 f5;show _/\List.map _ (Fs a l e (Xm i k s) [(70,cl (bM.cs x))])=List.map _ (Fs a l e (Xm i k s) [(70,cl (bM.cs x'))])/\_;rw [Option.some.inj g1];exact⟨rfl,rfl,rfl⟩
section
abbrev iS7:aT:=pR bZ 7
attribute [local instance] iS7
theorem ajz (a:iL) (l:List fA) (e:Int) (x:fA) (i k:Nat) (s:Int) (B0:Nat):RdW prog B0 (pathOf 69) 14 f14.ntmps (po (vK f14)).2.1 (po (vK f14)).2.2 (aH (P:=prog) [])
  ((bl (snR a l e)).set (.agg (.cons (.int .i64 (i:Int)) (.cons (.int .i64 (k:Int)) (.cons (.int .i64 s) .nil)))) (pathOf 14)) (hp (Fs a l e none [(70,cl (bM.cs x))]) 71) (.bool (aY (bD s 3))) ((Fs a l e (Xm i k s) [(70,cl (bM.cs x))]).map λx=>(pathOf x.1,x.2)) (pathOf 80):=by
 have hc:=az (P:=prog) ae [] B0;refine kE (cx:=⟨_,_,_,_,aH (P:=prog) [],0⟩) af rfl hc _ (aC ?_);refine kE (cx:=⟨_,_,_,_,aH (P:=prog) [],0⟩) af rfl hc _ (aC ?_);refine ay (λk1=>?_) (λk1=>?_);all_goals
  unfold Xm;rw [show bD s 3=_ from k1];refine aE ?_;repeat' first|exact aB|exact rfl|refine And.intro ?_ ?_
theorem NU (a:iL) (l:List fA) (e:Int) (x:fA) (i k:Nat) {s:Int} {o:OP} (hb:Xm i k s=o):(lJ a l e).H (x,i,k,s)=(Fs a l e o [(70,cl (bM.cs x))]).map λx=>(pathOf x.1,x.2):=by subst hb;rfl
theorem NV (a:iL) (l:List fA) (e:Int) (x:fA) (i k:Nat) {s:Int} {t:Bool} (hb:bD s 3=t):(lJ a l e).v (x,i,k,s)= .bool (aY t):=by subst hb;rfl
theorem ajA (a:iL) (l:List fA) (e:Int) (B0:Nat) (i:fA×Nat×Nat×Int) (hi:(lJ a l e).ok i):∃(fn:FuncId) (kl:Tr AV) (nt:Nat) (ps:Array Tmp) (assign body:Code) (Aq:Pos) (r:Tr AV) (jV:eL ->AV ->Heap ->CR),((lJ a l e).h0 i).t.get (pathOf 69)=some (.loop true none fn kl nt ps assign body Aq)/\oW ps.toList ((lJ a l e).ar i) nt kl=some r/\
  ((lJ a l e).h0 i).n.toNat=64+7/\((lJ a l e).h0 i).n.toNat<=((lJ a l e).N i).toNat/\RdW prog B0 (pathOf 69) fn nt assign body jV r ((lJ a l e).h0 i) ((lJ a l e).v i) ((lJ a l e).H i) ((lJ a l e).N i):=
 ⟨_,_,_,_,_,_,_,_,aH (P:=prog) [],rfl,rfl,rfl,(show(pathOf 71).toNat<=(pathOf 80).toNat by decide),ajz a l e i.1 i.2.1 i.2.2.1 i.2.2.2 B0⟩
end
def vC (x:fA) (i:Nat):Nat ->List fA ->OP
 |_,[]=>none|k,y::r=>match bD (iJ x y) 3 with|true=>some (i,k)|false=>vC x i (k+1) r
def orO (a b:OP):OP:=match a with|some z=>some z|none=>b
def oN:Nat ->List fA ->OP
 |_,[]=>none|i,x::r=>orO (vC x i (i+1) r) (oN (i+1) r)
section
abbrev iS6:aT:=pR bZ 6
attribute [local instance] iS6
def tS6:List (Cn prog):=[Cn.tabs (T:=bZ) (T':=iS6) rfl Cp]
def cS6 (a:iL) (l:List fA) (e:Int):eL ->AV ->Heap ->CR:=ou (pathOf 69) (lJ a l e) (aH tS6)
theorem aex (a:iL) (l:List fA) (e:Int) (B0:Nat):aU prog B0 (cS6 a l e):=zg 7 (az ae tS6 B0) (lJ a l e) (by decide) (ajA a l e B0)
def snA (l:List fA):AV:= .cons (.yield (pathOf 69)) (.cons (.dq (bM.list.c l .nil) 0) .nil)
structure VC (l:List fA):Prop where
 n:l.length<=1000000
 s:∀x∈l,∀y∈l,nD x y
theorem ajB (a:iL) (l:List fA) (e:Int) (h:VC l) (B0:Nat) {r:Tr AV} (hr:iH (snA l) 0 f78.ntmps .leaf=some r):
  Cw prog B0 ⟨prog,78,f78.ntmps,none,cS6 a l e,0⟩ (vK f78) r [] (hp (Fs a l e none []) 70)
   (QK (fK prog f78 (.aS .nil) ((Fs a l e (oN 0 l) []).map λx=>(pathOf x.1,x.2)) (pathOf 90)) (fK prog f78 (.aS .nil) ((Fs a l e (oN 0 l) []).map λx=>(pathOf x.1,x.2)) (pathOf 90)) (λ_ _ _ _=>False)):=by
 cases hr;obtain⟨hn,mw⟩:=h;have hc:=aex a l e B0;have kO:(tS6.map Cn.f).Nodup:=List.nodup_cons.2 ⟨List.not_mem_nil,List.nodup_nil⟩;refine aD (cx:=⟨_,_,_,_,cS6 a l e,0⟩) af rfl rfl hc _ ?_;obtain⟨W,hW⟩:∃W,W=oN 0 l:=⟨_,rfl⟩
 rw [<-hW];conv=>whnf
 refine⟨_,rfl,aC ?_⟩;refine Cw.lp (σ:=Unit) af rfl rfl hc l.length (λq _=>[(0,.yield (pathOf 69)),(1,.dq (bM.list.c l .nil) 0),(7,bM.list.v l),(8,.int .i64 (l.length:Int)),(9,.int .i64 (q:Int))])
  (λq _=>hp (Fs a l e none []) 70) (λq _=>oN q (l.drop q)=W) () hW.symm (sb [(64,64),(65,65),(66,66),(67,67),(68,68),(69,69)]) (λq _ hq hs=>?_)
 conv=>whnf
 refine ay (λk1=>?_) (λk1=>?_)
 .have hq:=pT k1;have cE:=pS hq (by omega);rw [List.drop_eq_getElem_cons hq]at hs;have hs:orO (vC l[q] q (q+1) (l.drop (q+1))) (oN (q+1) (l.drop (q+1)))=W:=hs;have As:l[q]∈l:=List.getElem_mem hq;conv=>whnf
  refine aL.go q rfl hq (aC ?_);refine⟨_,bM.rd rfl hq,aE ?_⟩;generalize l[q]=x at*;obtain⟨R,hR⟩:∃R,R=oN (q+1) (l.drop (q+1)):=⟨_,rfl⟩
  rw [<-hR]at hs;refine Cw.lp (σ:=Unit) af rfl rfl hc (l.length - (q+1)) (λp _=>[(0,.yield (pathOf 69)),(1,.dq (bM.list.c l .nil) 0),(3,.int .i64 (q:Int)),(4,.ptr (pathOf 70) 0),(5,.int .i64 ((q+1+p:Nat):Int)),(7,bM.list.v l),(8,.int .i64 (l.length:Int)),(9,.int .i64 (q:Int))])
   (λp _=>hp (Fs a l e none [(70,cl (bM.cs x))]) 71) (λp _=>orO (vC x q (q+1+p) (l.drop (q+1+p))) R=W) () hs (sb [(64,64),(65,65),(66,66),(67,67),(68,68),(69,69),(70,70)]) (λp _ hp fw=>?_)
  conv=>whnf
  refine⟨_,rfl,aC ?_⟩;refine ay (λk2=>?_) (λk2=>?_)
  .have lq:q+1+p<l.length:=pT k2;have UG:=pS lq (by omega);rw [List.drop_eq_getElem_cons lq]at fw;have fw:orO (match bD (iJ x l[q+1+p]) 3 with|true=>some (q,q+1+p)|false=>vC x q (q+1+p+1) (l.drop (q+1+p+1))) R=W:=fw;have hym:=mw _ As _ (List.getElem_mem lq);conv=>whnf
   repeat(first|(refine nw ?_;conv=>whnf)|(refine⟨_,rfl,?_⟩;conv=>whnf))
   refine aL.go (q+1+p) rfl lq (aC ?_);refine⟨_,bM.rd rfl lq,aE ?_⟩;generalize l[q+1+p]=y at*;refine lQ (cg tS6 0 (Cn.tabs (T:=bZ) (T':=iS6) rfl Cp) (x,y) hym (aE ?_) (hl:=kO));refine ay (λk3=>?_) (λk3=>?_)
   .have k3:aY (bD (iJ x y) 1)=true:=k3;refine aE ?_;cases hb:bD (iJ x y) 3 with
    |true=>
     have ho:Xm q (q+1+p) (iJ x y)=some (q,q+1+p):=(by unfold Xm;rw [hb]);rw [hb]at fw;have fw:some (q,q+1+p)=W:=fw;subst fw;refine lg (F:=lJ a l e) (x,q,q+1+p,iJ x y) trivial (NV a l e x q (q+1+p) hb) (NU a l e x q (q+1+p) ho) (aE ?_);repeat' first|exact aB|exact rfl|refine And.intro ?_ ?_
    |false=>
     have ho:Xm q (q+1+p) (iJ x y)=none:=(by unfold Xm;rw [hb]);rw [hb]at fw;have fw:orO (vC x q (q+1+(p+1)) (l.drop (q+1+(p+1)))) R=W:=fw;refine lg (F:=lJ a l e) (x,q,q+1+p,iJ x y) trivial (NV a l e x q (q+1+p) hb) (NU a l e x q (q+1+p) ho) (aE ?_);exact⟨(),by omega,fw,sb [(64,64),(65,65),(66,66),(67,67),(68,68),(69,69),(70,70)]⟩
   .have k3:aY (bD (iJ x y) 1)=false:=k3;have hb:bD (iJ x y) 3=false:=by
     cases h1:bD (iJ x y) 1 with
     |false=>rw [h1]at k3;cases k3|true=>rw [bh.1 h1];rfl
    rw [hb]at fw;have fw:orO (vC x q (q+1+(p+1)) (l.drop (q+1+(p+1)))) R=W:=fw;refine aE ?_;exact⟨(),by omega,fw,sb [(64,64),(65,65),(66,66),(67,67),(68,68),(69,69),(70,70)]⟩
  .have hpe:p=l.length - (q+1):=by
    have:=aX.1 k2;have this:((l.length:Nat):Int)<=((q+1+p:Nat):Int):=this;omega
   rw [List.drop_eq_nil_of_le (by omega)]at fw;have fw:R=W:=fw;rw [hR]at fw;refine aE ?_;exact⟨(),hq,fw,sb [(64,64),(65,65),(66,66),(67,67),(68,68),(69,69)]⟩
 .obtain rfl:=rN hq k1;rw [List.drop_length]at hs;have hs:none=W:=hs;subst hs;refine aE ?_;repeat' first|exact aB|exact rfl|refine And.intro ?_ ?_
end
def VD:Av (iL×List fA×Int) where
 ar:=λi=>snA i.2.1
 h0:=λi=>hp (Fs i.1 i.2.1 i.2.2 none []) 70
 v:=λ_=> .aS .nil
 H:=λi=>(Fs i.1 i.2.1 i.2.2 (oN 0 i.2.1) []).map λx=>(pathOf x.1,x.2)
 N:=λ_=>pathOf 90
 ok:=λi=>VC i.2.1
 inj:=by
  rintro ⟨a,l,e⟩ ⟨a',l',e'⟩ _ _ e1 e2;injection e1 with _ e1;injection e1 with e1 _;injection e1 with e1 _;have e3:l=l':=by
   injection e1 with e1 _;exact bM.list.bO e1
  have g1:some (cl (eA.cs a))=some (cl (eA.cs a')):=congrArg (λh:Heap=>h.t.get (pathOf 64)) e2;have g2:some (AV.int .i64 e)=some (.int .i64 e'):=congrArg (λh:Heap=>match h.t.get (pathOf 67)with|some (.cells t _ _)=>t.get (pathOf 0)|_=>none) e2;have g3:some (Cy false a l e)=some (Cy false a' l' e'):=congrArg (λh:Heap=>h.t.get (pathOf 69)) e2;injection g2 with g2;injection g2 with _ g2;have g4:bl (snR a l e)=bl (snR a' l' e'):=by injection g3 with g3;injection g3
  have g5:∀st,Cy st a l e=Cy st a' l' e':=λst=>by unfold Cy;rw [g4]
  have g6:(Fs a l e (oN 0 l) [])=Fs a' l' e' (oN 0 l') []:=by
   unfold Fs;rw [g5,Option.some.inj g1,g2,e3]
  exact⟨rfl,congrArg (List.map λx=>(pathOf x.1,x.2)) g6,rfl⟩
theorem VE (a:iL) (l:List fA) (e:Int) {o:OP} (hb:oN 0 l=o):VD.H (a,l,e)=(Fs a l e o []).map λx=>(pathOf x.1,x.2):=by subst hb;rfl
def tSn:List (Cn prog):=[oM,Cn.lift bZ HO]
def cSn:eL ->AV ->Heap ->CR:=fQ 78 VD (aH tSn)
theorem VF (B0:Nat):aU prog B0 cSn:=
 jX ae 6 (az ae tSn B0) (fn:=f78) rfl rfl VD (λi hi=>⟨_,_,rfl,rfl,(show(pathOf 70).toNat<=(pathOf 90).toNat by decide),ajB i.1 i.2.1 i.2.2 hi B0 rfl⟩)
def vD (a:iL):OP:=oN 0 (lk a)
structure HP (a:iL):Prop where
 pl:NT a
 sn:VC (lk a)
def Lf (a:iL):AV:= .aS (.cons (fj.v (vD a).x) (.cons (fj.v (vD a).y) (.cons (fj.v ((vD a).e (uh a))) .nil)))
theorem aag (a:iL) (h:HP a):PF prog 14 (.cons (eA.v a) .nil) (Lf a):=by
 obtain⟨h1,h2⟩:=h;refine PF.of_wp af (by decide) (fn:=f14) rfl rfl rfl (.cons (eA.an _) .nil) (call:=cSn) (λB0=>VF B0) λB0=>?_;have hc:=VF B0;unfold Lf vD;conv=>whnf
 refine bS (by decide) (cg tSn 0 oM a h1 (aE ?_));refine bS (by decide) (cg tSn 1 (Cn.lift bZ HO) (lk a) aB (aE ?_));cases hb:oN 0 (lk a)with
 |some z=>
  refine Cw.range af rfl hc rfl rfl (vv (F:=VD) (a,lk a,uh a) h2 (VE a (lk a) (uh a) hb)) (x:=_) rfl ?_ ?_
  .intro e;cases e
  refine aE ?_;exact ak.pure (.aS (.cons .int (.cons .int (.cons .int .nil))))
 |none=>
  refine Cw.range af rfl hc rfl rfl (vv (F:=VD) (a,lk a,uh a) h2 (VE a (lk a) (uh a) hb)) (x:=_) rfl ?_ ?_
  .intro e;cases e
  refine aE ?_;exact ak.pure (.aS (.cons .int (.cons .int (.cons .int .nil))))
def vE:Cn prog:=Cn.mk 14 true iL (λa=> .cons (eA.v a) .nil) Lf HP (λa b _ _ h=>by injection h with h1 _;rw [eA.bO h1]) (λa=>⟨eA.jm _,aB⟩) (λa=> .aS (.cons .int (.cons .int (.cons .int .nil)))) (λ_ _=>λ_ _ _ h=>h) aag (aw rfl rfl)
end
end
end Go.Sy
namespace Go.Sy
noncomputable section
open Go.RowKit Go.Proofs Go.Proofs.Tryz
section
attribute [local irreducible] Cw ak bq PF Sub
section
attribute [local instance] fp
end
section
abbrev ag4:aT:=pR bZ 12
attribute [local instance] ag4
end
section
abbrev ajC:aT:=pR bZ 8
attribute [local instance] ajC
end
attribute [local instance] bZ
end
end
end Go.Sy
namespace Go.Sy
noncomputable section
open Go.RowKit Go.Proofs Go.Proofs.Tryz
section
structure GS (s:dh):Prop where
 v0:0<s.1.length
 v1:s.1.length<=16
 v:∀x∈s.1,Bv 25 15 x
 f0:0<s.2.1.length
 f1:s.2.1.length<=10
 f:∀x∈s.2.1,Bv 66 80 x.1/\x.2.2.length<=16/\∃i:Nat,i<s.1.length/\x.2.2.head?=some (i:Int)
 z:∃x∈s.2.1,cT x.1=false
 e1:s.2.2.length<=12
 e:∀x∈s.2.2,(∃i:Nat,x.1=(i:Int)/\i<s.1.length)/\∃j:Nat,x.2.1=(j:Int)/\j<s.1.length
variable {s s':dh} {l:List Q3} {v n d:Q3}
theorem EN {i:Nat} (h:∀x∈l,Bv 25 15 x):Bv 25 15 (l.getD i z3):=by
 rcases Nat.lt_or_ge i l.length with k|k
 .rw [show l.getD i z3=l[i] by simp [List.getD,k]];exact h _ (List.getElem_mem k)
 .rw [show l.getD i z3=z3 by simp [List.getD,k]];exact Eu.mono (by decide) (by decide)
theorem ag5 (h:∀x∈l,Bv 25 15 x) (e:Ug) (hi:∃i:Nat,e.1=(i:Int)/\i<l.length) (hj:∃j:Nat,e.2.1=(j:Int)/\j<l.length):Nb l e/\Bv 301 166 (jA l e):=by
 obtain⟨s1,t1⟩:=Hv 40 (EN (i:=e.2.1.toNat) h) (EN (i:=e.1.toNat) h) (by decide) (by decide) (by decide) (by decide) (by decide) (by decide);obtain⟨s2,t2⟩:=qY t1 (by decide) (by decide);obtain⟨s3,t3⟩:=Nk t2 (by decide) (by decide);refine⟨⟨hi,hj,s1,s2,oJ t2 Eu (by decide) (by decide) (by decide) (by decide),s3⟩,?_⟩;unfold jA;split
 .exact t3.mono (by decide) (by decide)
 .exact t2.mono (by decide) (by decide)
theorem GS.dir (h:GS s):zI s/\∀x∈dw s,Bv 301 166 x:=by
 have key:∀e∈s.2.2,Nb s.1 e/\Bv 301 166 (jA s.1 e):=λe he=>ag5 h.v e (h.e e he).1 (h.e e he).2;refine⟨⟨Nat.le_trans h.e1 (by decide),λq hq=>(key _ (List.getElem_mem hq)).1,λp q hp hq=>oJ (key _ (List.getElem_mem hp)).2 (key _ (List.getElem_mem hq)).2 (by decide) (by decide) (by decide) (by decide)⟩,λx hx=>?_⟩;rcases(mf s.1 s.2.2 []).1 x hx with k|⟨e,he,rfl⟩
 .cases k
 .exact(key e he).2
theorem GS.dn (h:GS s):(dw s).length<=12:=Nat.le_trans (mf s.1 s.2.2 []).2 (by show 0+s.2.2.length<=12;have:=h.e1;omega)
def VA (v:Q3):Prop:=Bv 935 664 v
def VN (v:Q3):Prop:=Bv 6527 3596 v
theorem GS.nv (h:GS s) {x:lS} (hx:x∈s.2.1):VA x.1:=(h.f x hx).1.mono (by decide) (by decide)
theorem GS.cr (h:GS s) (h':GS s') {x y:Q3} (hx:x∈dw s) (hy:y∈dw s'):pA x y/\VA (aG x y):=by
 obtain⟨a,b⟩:=QB (h.dir.2 x hx) (h'.dir.2 y hy) (by decide) (by decide) (by decide);exact⟨a,b.mono (by decide) (by decide)⟩
theorem abJ (h:GS s) (h':GS s'):∀v∈Fl s s',VA v:=λv hv=>by
 rcases List.mem_append.1 hv with k|k
 .obtain⟨f,hf,rfl⟩:=List.mem_map.1 k;rcases List.mem_append.1 hf with g|g
  .exact h.nv g
  .exact h'.nv g
 .obtain⟨x,hx,k⟩:=List.mem_flatMap.1 k;obtain⟨y,hy,rfl⟩:=List.mem_map.1 k;exact(h.cr h' hx hy).2
theorem VA.ax (h:VA v):KP v/\VN (aI v)/\VN (kn (aI v)):=by
 obtain⟨p1,q1⟩:=qY h (by decide) (by decide);obtain⟨p2,q2⟩:=Nk q1 (by decide) (by decide);exact⟨⟨p1,λ_=>⟨Nl q1 (by decide) (by decide),p2,Nl q2 (by decide) (by decide)⟩⟩,q1.mono (by decide) (by decide),q2.mono (by decide) (by decide)⟩
section
variable {κ β:Type} [DecidableEq κ]
theorem Ad {k:κ}:∀{l:List (κ×β)} {i:Nat} {x:Nat×β},tM k l i=some x ->∃q,x.1=i+q/\∃h:q<l.length,l[q].1=k
 |[],i,x,h=>by cases h
 |y::l,i,x,h=>by
  unfold tM at h;split at h
  .rename_i e;injection h with h;subst h;exact⟨0,rfl,by simp,(of_decide_eq_true e).symm⟩
  .obtain⟨q,h1,h2,h3⟩:=Ad h;exact⟨q+1,by omega,by simpa using h2,by simpa using h3⟩
theorem Lg {k:κ}:∀{l:List (κ×β)} {i:Nat},tM k l i=none ->k ∉ l.map (·.1)
 |[],i,h=>by simp
 |y::l,i,h=>by
  unfold tM at h;split at h
  .cases h
  .rename_i e;have:=Lg h;have e:=of_decide_eq_false e;rw [List.map_cons,List.mem_cons];rintro (g|g)
   .exact e g
   .exact this g
theorem EO {k:κ} {b:β} {l:List (κ×β)} (h:(l.map (·.1)).Nodup):((kW k b l).map (·.1)).Nodup/\(∀x∈kW k b l,x=(k,b)\/x∈l)/\(kW k b l).length<=l.length+1/\kW k b l≠[]:=by
 unfold kW;cases e:tM k l 0 with
 |none=>
  refine⟨?_,λx hx=>?_,by simp,by simp⟩
  .show((l++[(k,b)]).map (·.1)).Nodup;rw [List.map_append];exact List.nodup_append.2 ⟨h,List.nodup_cons.2 ⟨List.not_mem_nil,List.nodup_nil⟩,λx hx y hy g=>Lg e ((g.trans (List.mem_singleton.1 hy):x=k) ▸ hx)⟩
  .rcases List.mem_append.1 hx with g|g
   .exact .inr g
   .exact .inl (List.mem_singleton.1 g)
 |some x=>
  obtain⟨q,h1,h2,h3⟩:=Ad e;have h1:x.1=q:=by omega
  refine⟨?_,λy hy=>?_,?_,?_⟩
  .show((l.set x.1 (k,b)).map (·.1)).Nodup;have g:(l.set x.1 (k,b)).map (·.1)=l.map (·.1):=by
    rw [List.map_set,h1,<-h3];exact List.ext_getElem (by simp) λi a c=>by
     rw [List.getElem_set];split
     .rename_i j;subst j;simp
     .rfl
   rw [g];exact h
  .rcases List.mem_or_eq_of_mem_set hy with g|g
   .exact .inr g
   .exact .inl g
  .show(l.set x.1 (k,b)).length<=_;rw [List.length_set];omega
  .show l.set x.1 (k,b)≠[];intro g;have:=congrArg List.length g;rw [List.length_set]at this;have:l.length=0:=this;omega
end
theorem VG {κ β:Type}:∀{l:List (κ×β)},(l.map (·.1)).Nodup ->∀{x y},x∈l ->y∈l ->x.1=y.1 ->x=y
 |[],_,x,y,hx,_,_=>by cases hx
 |z::l,h,x,y,hx,hy,e=>by
  obtain⟨h1,h2⟩:=List.nodup_cons.1 h;rcases List.mem_cons.1 hx with g|g
  .rcases List.mem_cons.1 hy with k|k
   .rw [g,k]
   .exact absurd (List.mem_map.2 ⟨y,k,by rw [<-e,g]⟩) h1
  .rcases List.mem_cons.1 hy with k|k
   .exact absurd (List.mem_map.2 ⟨x,g,by rw [e,k]⟩) h1
   .exact VG h2 g k e
structure AI (l:Hu):Prop where
 nd:(l.map (·.1)).Nodup
 p:∀x∈l,x.1=kc x.2/\N3 x.2/\VN x.2
theorem AI.set {l:Hu} (h:AI l) (hn:N3 v) (hb:VN v):AI (kW (kc v) v l):=by
 obtain⟨h1,h2,_,_⟩:=EO (k:=kc v) (b:=v) h.nd;refine⟨h1,λx hx=>?_⟩;rcases h2 x hx with rfl|g
 .exact⟨rfl,hn,hb⟩
 .exact h.p x g
theorem AI.add {l:Hu} (h:AI l) (hv:VA v):AI (bK l v)/\(bK l v).length<=l.length+2/\(l≠[]\/cT v=false ->bK l v≠[]):=by
 unfold bK;split
 .rename_i e;refine⟨h,by omega,λg=>?_⟩;rcases g with g|g
  .exact g
  .rw [e]at g;cases g
 .have k1:=h.set zQ hv.ax.2.1;have m1:=EO (k:=kc (aI v)) (b:=aI v) h.nd;have m2:=EO (k:=kc (kn (aI v))) (b:=kn (aI v)) k1.nd;exact⟨k1.set agB hv.ax.2.2,by omega,λ_=>m2.2.2.2⟩
theorem AI.go:∀{vs:List Q3} {l:Hu},AI l ->(∀v∈vs,VA v) ->AI (vs.foldl bK l)/\(vs.foldl bK l).length<=l.length+2*vs.length/\((l≠[]\/∃v∈vs,cT v=false) ->vs.foldl bK l≠[])
 |[],l,h,_=>⟨h,by simp,λg=>by
  rcases g with g|⟨v,hv,_⟩
  .exact g
  .cases hv⟩
 |v::vs,l,h,hv=>by
  obtain⟨a1,a2,a3⟩:=h.add (hv v (List.mem_cons_self ..));obtain⟨b1,b2,b3⟩:=AI.go (vs:=vs) a1 λx hx=>hv x (List.mem_cons_of_mem _ hx);refine⟨b1,?_,λg=>b3 ?_⟩
  .show(vs.foldl bK (bK l v)).length<=l.length+2*(vs.length+1);omega
  .rcases g with g|⟨w,hw,e⟩
   .exact .inl (a3 (.inl g))
   .rcases List.mem_cons.1 hw with rfl|hw
    .exact .inl (a3 (.inr e))
    .exact .inr ⟨w,hw,e⟩
theorem VH (h:GS s) (h':GS s'):AI (Fm s s')/\(Fm s s').length<=1000/\Fm s s'≠[]:=by
 obtain⟨a,b,c⟩:=AI.go (vs:=Fl s s') (l:=[]) ⟨List.nodup_nil,λx hx=>by cases hx⟩ (abJ h h');obtain⟨f,hf,e⟩:=h.z;refine⟨a,?_,c (.inr ⟨f.1,List.mem_append_left _ (List.mem_map_of_mem (List.mem_append_left _ hf)),e⟩)⟩;have hl:(Fl s s').length<=164:=by
  unfold Fl;rw [List.length_append,List.length_map,List.length_append];have k:∀(X:List Q3),X.length<=12 ->(X.flatMap λx=>(dw s').map λy=>aG x y).length<=X.length*12:=λX _=>by
   rw [List.length_flatMap];induction X with
   |nil=>simp|cons x X ih=>
    have:=ih (by simp at*;omega);have h2:=h'.dn;simp only [List.map_cons,List.sum_cons,List.length_map,List.length_cons]at*;omega
  have:=k (dw s) h.dn;have:=h.dn;have:=h.f1;have:=h'.f1;omega
 have:(Fm s s').length<=0+2*(Fl s s').length:=b;omega
theorem EP (h:GS s) (h':GS s'):zM s s'/\∀n∈kL s s',VN n:=by
 obtain⟨a,b,c⟩:=VH h h';have hf0:=h.f0;have hf1:=h.f1;have hf2:=h'.f1;refine⟨⟨by rw [List.length_append];omega,by rw [List.length_append];omega,h.dir.1,h'.dir.1,λx hx y hy=>(h.cr h' hx hy).1,λv hv=>(abJ h h' v hv).ax.1,c,by omega,λx hx=>(a.p x hx).2.1.int,λx hx y hy e=>?_,λx hx y hy=>oJ (a.p x hx).2.2 (a.p y hy).2.2 (by decide) (by decide) (by decide) (by decide)⟩,λn hn=>?_⟩
 .have k:=ad1 (a.p x hx).2.1 (a.p y hy).2.1 e;rw [<-(a.p x hx).1,<-(a.p y hy).1]at k;rw [VG a.nd hx hy k]
 .obtain⟨x,hx,rfl⟩:=List.mem_map.1 ((jY nU _).subset hn);exact(a.p x hx).2.2
theorem NW (hn:VN n):∀(l:List Q3) (q:Nat) (p:Q×Q),(∀x∈l,Bv 25 15 x) ->(0<q ->Bq 17389 10834 p.1/\Bq 17389 10834 p.2) ->Hi n q l p/\(0<q\/0<l.length ->Bq 17389 10834 (fS n q l p).1/\Bq 17389 10834 (fS n q l p).2)
 |[],q,p,_,hp=>⟨aB,λh=>hp (h.resolve_right (by simp))⟩
 |v::l,q,p,hl,hp=>by
  obtain⟨d1,d2⟩:=kh hn (hl v (List.mem_cons_self ..)) (by decide) (by decide) (by decide);have hs:Bq 17389 10834 (bU n q v p).1/\Bq 17389 10834 (bU n q v p).2:=by
   unfold bU;cases e:bD (q:Int) 0 with
   |true=>exact⟨d2,d2⟩|false=>
    have hq:0<q:=by
     rcases Nat.eq_zero_or_pos q with g|g
     .subst g;cases e
     .exact g
    refine⟨?_,?_⟩
    .show Bq _ _ (match cQ (Q.cmp (bw n v) p.1) 0 with|true=>bw n v|false=>p.1);split
     .exact d2
     .exact(hp hq).1
    .show Bq _ _ (match cQ 0 (Q.cmp (bw n v) p.2)with|true=>bw n v|false=>p.2);split
     .exact d2
     .exact(hp hq).2
  obtain⟨e1,e2⟩:=NW hn l (q+1) (bU n q v p) (λx hx=>hl x (List.mem_cons_of_mem _ hx)) λ_=>hs;refine⟨⟨d1,λe=>?_,e1⟩,λ_=>e2 (.inl (by omega))⟩;have hq:0<q:=by
   rcases Nat.eq_zero_or_pos q with g|g
   .subst g;cases e
   .exact g
  exact⟨kQ d2 (hp hq).1 (by decide) (by decide) (by decide) (by decide),kQ d2 (hp hq).2 (by decide) (by decide) (by decide) (by decide)⟩
theorem GS.ext (h:GS s) (hn:VN n):Ck s n/\Bq 17389 10834 (eG s n).1/\Bq 17389 10834 (eG s n).2:=by
 obtain⟨a,b⟩:=NW hn s.1 0 ((0,0),(0,0)) h.v (λe=>absurd e (by decide));exact⟨⟨Nat.le_trans h.v1 (by decide),a⟩,b (.inr h.v0)⟩
theorem abK (h:GS s) (h':GS s') (hn:VN n):HA s s' n/\Bq 28224 21668 (dI s s' n):=by
 obtain⟨a1,a2,a3⟩:=h.ext hn;obtain⟨b1,b2,b3⟩:=h'.ext hn;obtain⟨c1,c2⟩:=Q.zO 28223 b2 a3 (by decide) (by decide) (by decide) (by decide) (by decide) (by decide);exact⟨⟨a1,b1,c1⟩,c2⟩
theorem Lh (h:GS s) (h':GS s'):wA s s':=⟨(EP h h').1,λn hn=>(abK h h' ((EP h h').2 n hn)).1⟩
theorem ag6 (h:GS s) (h':GS s'):sU s s':=by
 have hf1:=h.f1;have hf2:=h'.f1;have Yv:=h.dn;have hd2:=h'.dn;refine⟨by omega,by omega,h.dir.1,h'.dir.1,by omega,by omega,λx hx y hy=>⟨(h.cr h' hx hy).1,oJ (h.cr h' hx hy).2 Eu (by decide) (by decide) (by decide) (by decide)⟩,λn hn=>?_⟩;have hv:VA n:=by
  rcases List.mem_append.1 hn with g|g
  .obtain⟨f,hf,rfl⟩:=List.mem_map.1 g;exact h.nv hf
  rcases List.mem_append.1 g with g|g
  .obtain⟨f,hf,rfl⟩:=List.mem_map.1 g;exact h'.nv hf
  .obtain⟨x,hx,g⟩:=List.mem_flatMap.1 g;obtain⟨y,hy,rfl⟩:=List.mem_map.1 (List.mem_filter.1 g).1;exact(h.cr h' hx hy).2
 have hv:VN n:=hv.mono (by decide) (by decide);obtain⟨a1,a2,a3⟩:=h.ext hv;obtain⟨b1,b2,b3⟩:=h'.ext hv;exact⟨a1,b1,kQ a2 b3 (by decide) (by decide) (by decide) (by decide),kQ b2 a3 (by decide) (by decide) (by decide) (by decide)⟩
def Bb (x:xY):Prop:=x.2=true ->Bq 40000 40000 x.1
theorem abL {p q:Q} {a b:Nat} (hp:Bq a b p) (hq:Bq a b q):Bq a b (Q.max p q)/\Bq a b (Q.min p q):=by
 unfold Q.max Q.min;constructor<;>split<;>assumption
theorem abM {f:Q ->Q ->Q} (hf:∀{p q:Q},Bq 40000 40000 p ->Bq 40000 40000 q ->Bq 40000 40000 (f p q)) {x:xY} {p:Q} (hx:Bb x) (hp:Bq 40000 40000 p):Bb (Aw f x p):=λ_=>by
 unfold Aw;show Bq 40000 40000 (match x.2 with|true=>f x.1 p|false=>p);cases e:x.2 with
 |true=>exact hf (hx e) hp|false=>exact hp
theorem aah (h:GS s) (h':GS s') (hd:Bv 8 2 d):∀(l:List Q3) (f t:xY),(∀n∈l,VN n) ->Bb f ->Bb t ->KZ s s' d l f t/\∀x,uf s s' d l f t=some x ->Bb x.1/\Bb x.2
 |[],f,t,_,hf,ht=>⟨λa b=>kQ (hf a) (ht b) (by decide) (by decide) (by decide) (by decide),λx e=>by injection e with e;subst e;exact⟨hf,ht⟩⟩
 |n::l,f,t,hl,hf,ht=>by
  have hn:=hl n (List.mem_cons_self ..);have yw:∀n∈l,VN n:=λx hx=>hl x (List.mem_cons_of_mem _ hx);obtain⟨g1,g2⟩:=abK h h' hn;obtain⟨d1,d2⟩:=kh hn hd (by decide) (by decide) (by decide);obtain⟨v1,v2⟩:=Zk g2 d2 (by decide) (by decide) (by decide) (by decide);have v2:Bq 40000 40000 (Q.div (dI s s' n) (bw n d)):=v2.mono (by decide) (by decide);unfold KZ uf;cases bD (bw n d).1.sign 0 with
  |true=>
   dsimp only;cases gD 0 (dI s s' n).1.sign with
   |true=>exact⟨⟨⟨g1,d1⟩,aB⟩,λx e=>by cases e⟩|false=>
    obtain⟨a,b⟩:=aah h h' hd l f t yw hf ht;exact⟨⟨⟨g1,d1⟩,a⟩,b⟩
  |false=>
   dsimp only;cases bD (bw n d).1.sign 1 with
   |true=>
    obtain⟨a,b⟩:=aah h h' hd l _ t yw (abM (f:=Q.max) (λp q=>(abL p q).1) hf v2) ht;exact⟨⟨⟨g1,d1⟩,v1,λe=>kQ v2 (hf e) (by decide) (by decide) (by decide) (by decide),a⟩,b⟩
   |false=>
    obtain⟨a,b⟩:=aah h h' hd l f _ yw hf (abM (f:=Q.min) (λp q=>(abL p q).2) ht v2);exact⟨⟨⟨g1,d1⟩,v1,λe=>kQ v2 (ht e) (by decide) (by decide) (by decide) (by decide),a⟩,b⟩
end
def Qe (p q:Q):Prop:=p.1=q.1/\Q.dn p=Q.dn q
theorem ir (p:Q):Q.whole p=decide (Q.dn p=1):=by
 unfold Q.whole Q.dn;by_cases h:p.2=0
 .simp [h]
 .simp [h]
theorem Qe.refl (p:Q):Qe p p:=⟨rfl,rfl⟩
theorem Qe.symm {p q:Q} (h:Qe p q):Qe q p:=⟨h.1.symm,h.2.symm⟩
theorem Qe.trans {p q r:Q} (h:Qe p q) (k:Qe q r):Qe p r:=⟨h.1.trans k.1,h.2.trans k.2⟩
theorem Qe.mul {p p' q q':Q} (h:Qe p p') (k:Qe q q'):Q.mul p q=Q.mul p' q':=by
 unfold Q.mul;rw [ir,ir,ir,ir,h.1,h.2,k.1,k.2]
theorem mh (p:Q):Q.whole (Q.neg p)=Q.whole p:=rfl
theorem neg_neg (p:Q):Q.neg (Q.neg p)=p:=by
 show(- -p.1,p.2)=p;rw [Int.neg_neg]
theorem NY {n:Int} {g:Nat} (hg:g ∣ n.natAbs):lA (-n) g= -lA n g:=by
 by_cases h0:g=0
 .subst h0;rfl
 .have h1:=(mJ hg h0).1;have h2:=(mJ (n:= -n) (by rw [Int.natAbs_neg];exact hg) h0).1;have hz:((g:Nat):Int)≠0:=by omega
  refine Int.eq_of_mul_eq_mul_right hz ?_;rw [h2,Int.neg_mul,h1]
theorem ER (n d:Int):dv (-n) d=Q.neg (dv n d):=by
 have hg:Nat.gcd n.natAbs d.natAbs ∣ n.natAbs:=Nat.gcd_dvd_left _ _;unfold dv;rw [Int.natAbs_neg];by_cases h:d<0
 .rw [if_pos h,if_pos h];show(lA (- -n) _,_)=(-lA (-n) _,_)
  rw [Int.neg_neg,NY hg,Int.neg_neg]
 .rw [if_neg h,if_neg h];show(lA (-n) _,_)=(-lA n _,_)
  rw [NY hg]
theorem mul_neg (p q:Q):Q.mul (Q.neg p) q=Q.neg (Q.mul p q):=by
 unfold Q.mul;rw [mh];split
 .show(-p.1*q.1,(0:Int))=(-(p.1*q.1),0)
  rw [Int.neg_mul]
 .rw [<-ER];show dv (-p.1*q.1) _=_;rw [Int.neg_mul];rfl
theorem add_neg (p q:Q):Q.add (Q.neg p) (Q.neg q)=Q.neg (Q.add p q):=by
 unfold Q.add;rw [mh,mh];split
 .show(-p.1+ -q.1,(0:Int))=(-(p.1+q.1),0)
  rw [Int.neg_add]
 .rw [<-ER];show dv (-p.1*Q.dn q+ -q.1*Q.dn p) _=_;rw [Int.neg_mul,Int.neg_mul,<-Int.neg_add];rfl
theorem add_comm (p q:Q):Q.add p q=Q.add q p:=by
 unfold Q.add;rw [Bool.and_comm,Int.add_comm p.1,Int.add_comm (p.1*_),Int.mul_comm (Q.dn p)]
theorem HQ (a b:Int):eM (-a) (-b)=eM b a:=by
 unfold eM;split<;>split<;>(try split)<;>first|rfl|omega
theorem ES (p q:Q):Q.cmp (Q.neg p) (Q.neg q)=Q.cmp q p:=by
 unfold Q.cmp;rw [mh,mh,Bool.and_comm];split
 .exact HQ _ _
 .show eM (-p.1*Q.dn q) (-q.1*Q.dn p)=_;rw [Int.neg_mul,Int.neg_mul,HQ]
theorem Cz (a b:Int):eM a b= -eM b a:=by
 unfold eM;split<;>split<;>(try split)<;>first|rfl|omega
theorem Ae (p q:Q):Q.cmp p q= -Q.cmp q p:=by
 unfold Q.cmp;rw [Bool.and_comm];split
 .exact Cz _ _
 .exact Cz _ _
def uo (n:Q3):Q3:=(Q.neg n.1,Q.neg n.2.1,Q.neg n.2.2)
theorem aai (n:Q3):uo (uo n)=n:=by
 unfold uo;rw [neg_neg,neg_neg,neg_neg]
def sX (a b:Q3):Prop:=Qe a.1 b.1/\Qe a.2.1 b.2.1/\Qe a.2.2 b.2.2
theorem aey (n v:Q3):bw (uo n) v=Q.neg (bw n v):=by
 have z:Q.neg (0,0)=(0,0):=rfl;show Q.add (Q.add (Q.add (0,0) (Q.mul (Q.neg n.1) v.1)) (Q.mul (Q.neg n.2.1) v.2.1)) (Q.mul (Q.neg n.2.2) v.2.2)=_;rw [mul_neg,mul_neg,mul_neg];rw [<-z,add_neg,add_neg,add_neg];rfl
theorem sX.dot {a b:Q3} (h:sX a b) (v:Q3):bw a v=bw b v:=by
 show Q.add (Q.add (Q.add (0,0) (Q.mul a.1 v.1)) (Q.mul a.2.1 v.2.1)) (Q.mul a.2.2 v.2.2)=Q.add (Q.add (Q.add (0,0) (Q.mul b.1 v.1)) (Q.mul b.2.1 v.2.1)) (Q.mul b.2.2 v.2.2);rw [h.1.mul (Qe.refl _),h.2.1.mul (Qe.refl _),h.2.2.mul (Qe.refl _)]
theorem Li (n:Q3) (q:Nat) (v:Q3) (s:Q×Q):bU (uo n) q v (Q.neg s.2,Q.neg s.1)=(Q.neg (bU n q v s).2,Q.neg (bU n q v s).1):=by
 unfold bU;rw [aey];cases bD (q:Int) 0 with
 |true=>rfl|false=>
  show((match cQ (Q.cmp (Q.neg (bw n v)) (Q.neg s.2)) 0 with|true=>Q.neg (bw n v)|false=>Q.neg s.2),(match cQ 0 (Q.cmp (Q.neg (bw n v)) (Q.neg s.1))with|true=>Q.neg (bw n v)|false=>Q.neg s.1))=(Q.neg (match cQ 0 (Q.cmp (bw n v) s.2)with|true=>bw n v|false=>s.2),Q.neg (match cQ (Q.cmp (bw n v) s.1) 0 with|true=>bw n v|false=>s.1))
  have e1:cQ (Q.cmp (Q.neg (bw n v)) (Q.neg s.2)) 0=cQ 0 (Q.cmp (bw n v) s.2):=by
   rw [ES,Ae];exact Bool.eq_iff_iff.2 (by rw [aO,aO];omega)
  have e2:cQ 0 (Q.cmp (Q.neg (bw n v)) (Q.neg s.1))=cQ (Q.cmp (bw n v) s.1) 0:=by
   rw [ES,Ae];exact Bool.eq_iff_iff.2 (by rw [aO,aO];omega)
  rw [e1,e2];cases cQ 0 (Q.cmp (bw n v) s.2)<;>cases cQ (Q.cmp (bw n v) s.1) 0<;>rfl
theorem HS (n:Q3):∀(l:List Q3) (q:Nat) (s:Q×Q),fS (uo n) q l (Q.neg s.2,Q.neg s.1)=(Q.neg (fS n q l s).2,Q.neg (fS n q l s).1)
 |[],_,_=>rfl|v::l,q,s=>by
  show fS (uo n) (q+1) l (bU (uo n) q v (Q.neg s.2,Q.neg s.1))=_;rw [Li];exact HS n l (q+1) _
theorem VI (s:dh) (n:Q3):eG s (uo n)=(Q.neg (eG s n).2,Q.neg (eG s n).1):=HS n s.1 0 ((0,0),(0,0))
theorem sX.ext {a b:Q3} (h:sX a b) (s:dh):eG s a=eG s b:=by
 have key:∀(l:List Q3) (q:Nat) (z:Q×Q),fS a q l z=fS b q l z:=by
  intro l;induction l with
  |nil=>intro q z;rfl|cons v l ih=>
   intro q z;show fS a (q+1) l (bU a q v z)=fS b (q+1) l (bU b q v z);rw [show bU a q v z=bU b q v z by unfold bU;rw [h.dot],ih]
 exact key _ _ _
theorem aez (a b:dh) (n:Q3):dI b a (uo n)=dI a b n:=by
 unfold dI;rw [VI,VI];show Q.add (Q.neg (eG a n).2) (Q.neg (Q.neg (eG b n).1))=Q.add (eG b n).1 (Q.neg (eG a n).2);rw [neg_neg,add_comm]
theorem sX.gap {x y:Q3} (h:sX x y) (a b:dh):dI a b x=dI a b y:=by
 unfold dI;rw [h.ext,h.ext]
def HT (a:Nat) (l:List Nat):Nat:=l.foldl (λa c=>a*10+(c - 48)) a
theorem aaj (a:Nat):∀l:List Nat,HT a l=a*10 ^ l.length+HT 0 l:=by
 intro l;induction l generalizing a with
 |nil=>simp [HT]|cons c l ih=>
  show HT (a*10+(c - 48)) l=a*10 ^ (l.length+1)+HT (0*10+(c - 48)) l;rw [ih,ih (0*10+(c - 48)),Nat.zero_mul,Nat.zero_add,Nat.add_mul,Nat.pow_succ,Nat.mul_comm (10 ^ l.length) 10,<-Nat.mul_assoc];omega
theorem Oa (l m:List Nat):HT 0 (l++m)=HT 0 l*10 ^ m.length+HT 0 m:=by
 rw [<-aaj];show List.foldl _ _ _=_;rw [List.foldl_append];rfl
def Dg (l:List Nat):Prop:=∀c∈l,48<=c
theorem VJ {d:Nat} (h:d<10):(UInt8.ofNat (48+d)).toNat=48+d:=by
 rw [UInt8.toNat_ofNat'];omega
theorem aak:∀(u:Nat),HT 0 (Hm (Lib.decDigits u))=u/\Dg (Hm (Lib.decDigits u)):=by
 intro u;induction u using Nat.strongRecOn with
 |_ u ih=>
  rw [Lib.decDigits];by_cases h:u<10
  .rw [dif_pos h];have:Hm [UInt8.ofNat (48+u)]=[48+u]:=by
    show [(UInt8.ofNat (48+u)).toNat]=_;rw [VJ h]
   rw [this];refine⟨?_,λc hc=>?_⟩
   .show 0*10+(48+u - 48)=u;omega
   .rw [List.mem_singleton.1 hc];omega
  .rw [dif_neg h];obtain⟨h1,h2⟩:=ih (u/10) (by omega);have:Hm (Lib.decDigits (u/10)++[UInt8.ofNat (48+u % 10)])=Hm (Lib.decDigits (u/10))++[48+u % 10]:=by
    unfold Hm;rw [List.map_append];show _++[(UInt8.ofNat (48+u % 10)).toNat]=_;rw [VJ (Nat.mod_lt _ (by decide))]
   rw [this,Oa,h1];refine⟨?_,λc hc=>?_⟩
   .show u/10*10 ^ 1+(0*10+(48+u % 10 - 48))=u;omega
   .rcases List.mem_append.1 hc with hc|hc
    .exact h2 c hc
    .rw [List.mem_singleton.1 hc];omega
theorem Ob:∀(k u:Nat),u<10 ^ (k+1) ->(Lib.decDigits u).length<=k+1
 |0,u,h=>by
  rw [Lib.decDigits,dif_pos (by simpa using h)];exact Nat.le_refl _
 |k+1,u,h=>by
  rw [Lib.decDigits];by_cases g:u<10
  .rw [dif_pos g];simp
  .rw [dif_neg g,List.length_append];have:=Ob k (u/10) (by rw [Nat.pow_succ]at h;omega);show _+1<=_;omega
theorem QI (r:Nat):fT (r:Int)=Hm (Lib.decDigits r):=by
 unfold fT Lib.itoa;rw [if_neg (by omega),Int.toNat_natCast]
theorem ET (l:List Nat):∀k:Nat,HT 0 ((List.replicate k [48]).flatten++l)=HT 0 l/\((List.replicate k [48]).flatten).length=k
 |0=>⟨rfl,rfl⟩
 |k+1=>by
  obtain⟨h1,h2⟩:=ET l k;refine⟨h1,?_⟩;rw [List.replicate_succ,List.flatten_cons,List.length_append,h2];exact Nat.add_comm _ _
theorem aeA (k:Nat):Dg (List.replicate k [48]).flatten:=λc hc=>by
 obtain⟨l,hl,h⟩:=List.mem_flatten.1 hc;rw [(List.mem_replicate.1 hl).2]at h;rw [List.mem_singleton.1 h];exact Nat.le_refl _
theorem aal (m:Nat):HT 0 (Qx m)=m % 1000000000/\Dg (Qx m)/\(m/1000000000≠0 ->(Qx m).length=9):=by
 obtain⟨h1,h2⟩:=aak (m % 1000000000);have hl:(Hm (Lib.decDigits (m % 1000000000))).length<=9:=by
  unfold Hm;rw [List.length_map];exact Ob 8 _ (Nat.mod_lt _ (by decide))
 unfold Qx;rw [QI];cases e:cQ 0 (nd (m/1000000000):Int)with
 |true=>
  refine⟨(ET _ _).1.trans h1,λc hc=>?_,λ_=>?_⟩
  .rcases List.mem_append.1 hc with hc|hc
   .exact aeA _ c hc
   .exact h2 c hc
  .show((List.replicate _ [48]).flatten++_).length=9;rw [List.length_append,(ET [] _).2];omega
 |false=>
  refine⟨h1,h2,λdD=>?_⟩;have:=aX.1 e;have h3:=nQ dD;omega
def Lj (m:Nat):List Nat:=(fI m).reverse.flatten
theorem QJ {m:Nat} (h:m≠0):Lj m=Lj (m/1000000000)++Qx m:=by
 unfold Lj;rw [rS h,List.reverse_cons,List.flatten_append];simp
theorem VL:∀m:Nat,HT 0 (Lj m)=m/\Dg (Lj m):=by
 intro m;induction m using Nat.strongRecOn with
 |_ m ih=>
  by_cases h:m=0
  .subst h;exact⟨rfl,λc hc=>by cases hc⟩
  .rw [QJ h];obtain⟨h1,h2⟩:=ih (m/1000000000) (by omega);obtain⟨g1,g2,g3⟩:=aal m;refine⟨?_,λc hc=>(List.mem_append.1 hc).elim (h2 c) (g2 c)⟩;rw [Oa,h1,g1];by_cases hz:m/1000000000=0
   .rw [hz];omega
   .rw [g3 hz];show m/1000000000*1000000000+_=_;omega
def QL (l:List Nat):Int:=match l with|45::l=> -(HT 0 l:Nat)|l=>(HT 0 l:Nat)
theorem aeB {l:List Nat} (h:Dg l):QL l=(HT 0 l:Nat):=by
 cases l with
 |nil=>rfl|cons c l=>
  have:=h c (List.mem_cons_self ..);unfold QL;split
  .rename_i e;injection e with e _;omega
  .rfl
theorem Oc (z:Int):QL (gJ z)=z/\∀c∈gJ z,c≠47:=by
 unfold gJ;by_cases h:z=0
 .subst h;rw [if_pos rfl];exact⟨rfl,λc hc=>by rw [List.mem_singleton.1 hc];decide⟩
 .rw [if_neg h];obtain⟨h1,h2⟩:=VL z.natAbs;cases e:decide (z<0)with
  |true=>
   have:=of_decide_eq_true e;refine⟨?_,λc hc=>?_⟩
   .show -((HT 0 (Lj z.natAbs):Nat):Int)=z;rw [h1];omega
   .rcases List.mem_cons.1 hc with rfl|hc
    .decide
    .have:=h2 c hc;omega
  |false=>
   have:=of_decide_eq_false e;refine⟨?_,λc hc=>?_⟩
   .show QL (Lj z.natAbs)=z;rw [aeB h2,h1];omega
   .have:=h2 c hc;omega
def rdQ (l:List Nat):Int×Int:=(QL (l.takeWhile (· !=47)),match l.dropWhile (· !=47)with|[]=>1|_::r=>QL r)
theorem VM {l:List Nat} (h:∀c∈l,c≠47) (r:List Nat):(l++47::r).takeWhile (· !=47)=l/\(l++47::r).dropWhile (· !=47)=47::r/\l.takeWhile (· !=47)=l/\l.dropWhile (· !=47)=[]:=by
 induction l with
 |nil=>exact⟨rfl,rfl,rfl,rfl⟩|cons c l ih=>
  have hc:(c !=47)=true:=by
   have:=h c (List.mem_cons_self ..);simpa using this
  obtain⟨a,b,e,f⟩:=ih λc hc=>h c (List.mem_cons_of_mem _ hc);refine⟨?_,?_,?_,?_⟩
  .rw [List.cons_append,List.takeWhile_cons,hc,a];rfl
  .rw [List.cons_append,List.dropWhile_cons,hc,b];rfl
  .rw [List.takeWhile_cons,hc,e];rfl
  .rw [List.dropWhile_cons,hc,f];rfl
theorem Od (q:Q):rdQ (tY q)=(q.1,Q.dn q):=by
 obtain⟨h1,h2⟩:=Oc q.1;obtain⟨g1,g2⟩:=Oc q.2;unfold tY rdQ;cases e:Q.whole q with
 |true=>
  obtain⟨_,_,a,b⟩:=VM h2 [];show(QL ((gJ q.1).takeWhile _),match (gJ q.1).dropWhile _ with|[]=>(1:Int)|_::r=>QL r)=_;rw [a,b,h1];rw [ir]at e;rw [of_decide_eq_true e]
 |false=>
  obtain⟨a,b,_,_⟩:=VM h2 (gJ q.2);show(QL (((gJ q.1++[47])++gJ q.2).takeWhile _),match ((gJ q.1++[47])++gJ q.2).dropWhile _ with|[]=>(1:Int)|_::r=>QL r)=_;rw [List.append_assoc];show(QL ((gJ q.1++47::gJ q.2).takeWhile _),match (gJ q.1++47::gJ q.2).dropWhile _ with|[]=>(1:Int)|_::r=>QL r)=_;rw [a,b,h1];show(q.1,QL (gJ q.2))=_;rw [g1];have:q.2≠0:=λk=>by
   unfold Q.whole at e;rw [k]at e;cases e
  unfold Q.dn;rw [if_neg this]
theorem Af {p q:Q} (h:tY p=tY q):Qe p q:=by
 have:=congrArg rdQ h;rw [Od,Od]at this;injection this with a b;exact⟨a,b⟩
theorem VO {x y:Q3} (h:kc x=kc y):sX x y:=by
 injection h with h1 h;injection h with h2 h3;exact⟨Af h1,Af h2,Af h3⟩
section
def tr (t x:V3):V3:=(x.1+t.1,x.2.1+t.2.1,x.2.2+t.2.2)
theorem xl (t x y:V3):bQ (tr t x) (tr t y)=bQ x y:=by
 have e:∀a b c:Int,Int.sub (a+c) (b+c)=Int.sub a b:=λa b c=>by show a+c - (b+c)=a - b;omega
 show(Cb (Int.sub (x.1+t.1) (y.1+t.1)),Cb (Int.sub (x.2.1+t.2.1) (y.2.1+t.2.1)),Cb (Int.sub (x.2.2+t.2.2) (y.2.2+t.2.2)))=_;rw [e,e,e];rfl
theorem HU (t n o:V3):∀(l:List V3) (m:Nat) (s:Nat×Bool×Bool),iQ n (tr t o) m (l.map (tr t)) s=iQ n o m l s
 |[],_,_=>rfl|p::l,m,s=>by
  show iQ n (tr t o) (m+1) (l.map (tr t)) (dR n (tr t o) m (tr t p) s)=iQ n o (m+1) l (dR n o m p s);have e:dR n (tr t o) m (tr t p) s=dR n o m p s:=by unfold dR;rw [xl]
  rw [e,HU]
variable {l:List V3} {t:V3}
theorem aam (a b c:V3):gq (l.map (tr t)) (tr t a) (tr t b) (tr t c)=gq l a b c:=by
 unfold gq TG;rw [xl,xl,HU]
theorem Ag {i:Nat} (h:i<l.length):(l.map (tr t)).getD i (0,0,0)=tr t (l.getD i (0,0,0)):=by
 simp [List.getD,h]
theorem VP {i j k:Nat} (o:Pl) (hi:i<l.length) (hj:j<l.length) (hk:k<l.length):nV (l.map (tr t)) i j k o=nV l i j k o:=by
 unfold nV;rw [Ag hi,Ag hj,Ag hk,aam]
theorem abN {i j:Nat} (hi:i<l.length) (hj:j<l.length):∀(r k:Nat) (o:Pl),k+r<=l.length ->QC (l.map (tr t)) i j r k o=QC l i j r k o
 |0,_,_,_=>rfl|r+1,k,o,h=>by
  show QC (l.map (tr t)) i j r (k+1) (nV (l.map (tr t)) i j k o)=QC l i j r (k+1) (nV l i j k o);rw [VP o hi hj (by omega),abN hi hj r (k+1) _ (by omega)]
theorem abO {i:Nat} (hi:i<l.length):∀(r j:Nat) (o:Pl),j+r<=l.length ->Hy (l.map (tr t)) i r j o=Hy l i r j o
 |0,_,_,_=>rfl|r+1,j,o,h=>by
  show Hy (l.map (tr t)) i r (j+1) (QC (l.map (tr t)) i j j 0 o)=Hy l i r (j+1) (QC l i j j 0 o);rw [abN hi (by omega) j 0 o (by omega),abO hi r (j+1) _ (by omega)]
theorem abP:∀(r i:Nat) (o:Pl),i+r<=l.length ->Fo (l.map (tr t)) r i o=Fo l r i o
 |0,_,_,_=>rfl|r+1,i,o,h=>by
  show Fo (l.map (tr t)) r (i+1) (Hy (l.map (tr t)) i i 0 o)=Fo l r (i+1) (Hy l i i 0 o);rw [abO (by omega) i 0 o (by omega),abP r (i+1) _ (by omega)]
theorem VQ:du (l.map (tr t))=du l:=by
 unfold du;rw [List.length_map,abP _ _ _ (by omega)]
theorem Lk (n last:V3) (li i nx:Int):kZ (l.map (tr t)) n (tr t last) li i nx=kZ l n last li i nx:=by
 unfold kZ;rw [List.getElem?_map,List.getElem?_map];cases l[nx.toNat]? with
 |none=>rfl|some a=>
  cases l[i.toNat]? with
  |none=>rfl|some b=>
   dsimp only [Option.map];rw [xl,xl]
theorem HV (n last:V3) (li:Int):∀(on:List Int) (nx:Int),iT (l.map (tr t)) n (tr t last) li on nx=iT l n last li on nx
 |[],_=>rfl|i::r,nx=>by
  unfold iT;rw [Lk,show iT (l.map (tr t)) n (tr t last) li r=iT l n last li r from funext λx=>HV n last li r x]
theorem ag7 (i:Int):Zj (l.map (tr t)) i=(Zj l i).map (tr t):=by
 unfold Zj;cases gD 0 i with
 |true=>exact List.getElem?_map ..|false=>rfl
theorem HW (n:V3) (on:List Int) (i0:Int):∀(f:Nat) (out:List Int),kg (l.map (tr t)) n on i0 f out=kg l n on i0 f out
 |0,_=>rfl|f+1,out=>by
  unfold kg;cases out.getLast? with
  |none=>rfl|some li=>
   dsimp only;rw [ag7];cases Zj l li with
   |none=>rfl|some last=>
    dsimp only [Option.map];rw [HV];cases iT l n last li on (-1)with
    |none=>rfl|some nx=>dsimp only;rw [HW n on i0 f]
theorem aan (n:V3) (m:Nat):nA (l.map (tr t)) n m=nA l n m:=by
 unfold nA;cases qW 9 m []with
 |none=>rfl|some on=>
  cases on with
  |nil=>rfl|cons i r=>dsimp only;rw [List.length_map,HW]
theorem CA:∀(p:Pl) (e:Nat) (acc:List Fc),gS (l.map (tr t)) p e acc=gS l p e acc
 |[],_,_=>rfl|p::r,e,acc=>by
  unfold gS;rw [aan];cases (gD 0 p.2 &&cQ p.2 256)with
  |false=>rfl|true=>
   cases nA l p.1 p.2.toNat with
   |none=>rfl|some x=>
    dsimp only;cases xi x e with
    |none=>rfl|some e'=>exact CA r e' _
theorem EU:iq (l.map (tr t))=iq l:=by
 unfold iq;rw [List.length_map,VQ,CA]
theorem ag8 {i j k:Nat} (hi:i<l.length) (hj:j<l.length) (hk:k<l.length):EF (l.map (tr t)) i j k=EF l i j k:=by
 unfold EF;rw [Ag hi,Ag hj,Ag hk,xl,xl]
theorem abQ {i j:Nat} (hi:i<l.length) (hj:j<l.length):∀(r k:Nat),k+r<=l.length ->ZM (l.map (tr t)) i j r k=ZM l i j r k
 |0,_,_=>rfl|r+1,k,h=>by
  unfold ZM;have e:∀n,(l.map (tr t)).any (vy (l.map (tr t)) n i)=l.any (vy l n i):=λn=>by
   rw [List.any_map];congr 1;funext p;show vy (l.map (tr t)) n i (tr t p)=vy l n i p;unfold vy;rw [Ag hi,xl]
  rw [ag8 hi hj (by omega),abQ hi hj r (k+1) (by omega),e]
theorem abR {i:Nat} (hi:i<l.length):∀(r j:Nat),j+r<=l.length ->Rk (l.map (tr t)) i r j=Rk l i r j
 |0,_,_=>rfl|r+1,j,h=>by
  unfold Rk;rw [abQ hi (by omega) j 0 (by omega),abR hi r (j+1) (by omega)]
theorem abS:∀(r i:Nat),i+r<=l.length ->NG (l.map (tr t)) r i=NG l r i
 |0,_,_=>rfl|r+1,i,h=>by
  unfold NG;rw [abR (by omega) i 0 (by omega),abS r (i+1) (by omega)]
theorem aeC:ku (l.map (tr t))=ku l:=by
 unfold ku;rw [List.length_map,abS _ _ (by omega)]
theorem oO:fU (l.map (tr t))=fU l:=by unfold fU;rw [EU]
theorem aeD (x y:V3):ua (l3 (tr t x)) (l3 (tr t y))=ua (l3 x) (l3 y):=by
 have e:∀a b c:Int,pW (a+c) (b+c)=pW a b:=λa b c=>by
  have k:∀x y:Int,cQ (x+c) (y+c)=cQ x y:=λx y=>by
   cases h:cQ x y with
   |true=>exact aO.2 (by have:=aO.1 h;omega)|false=>exact aX.2 (by have:=aX.1 h;omega)
  unfold pW;rw [k,k]
 show(match bD (pW (x.1+t.1) (y.1+t.1)) 0 with|true=>(match bD (pW (x.2.1+t.2.1) (y.2.1+t.2.1)) 0 with|true=>(match bD (pW (x.2.2+t.2.2) (y.2.2+t.2.2)) 0 with|true=>0|false=>pW (x.2.2+t.2.2) (y.2.2+t.2.2))|false=>pW (x.2.1+t.2.1) (y.2.1+t.2.1))|false=>pW (x.1+t.1) (y.1+t.1))=_;rw [e,e,e];rfl
end
end
end Go.Sy
