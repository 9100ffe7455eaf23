/- A piece of the proof, made small by a program of ours. -/
import Derived.Test.YtihglcfnelokaaaGreatDoorP18
set_option linter.all false
set_option maxRecDepth 1000000
set_option maxHeartbeats 0
namespace Go.Sy
noncomputable section
open Go.RowKit Go.Proofs Go.Proofs.Tryz
section
attribute [local irreducible] Cw aj bE PF Sub
attribute [local instance] bJ
def ql (a:jg) (x:mP):fi:=Af (lg a x.2.1) (oY x.2.2)
def plA (a:jg):List fi:=a.2.map (ql a)
structure aeu (a:jg):Prop where
 n:a.2.length<=1000
 pt:∀x∈a.2,ZF a x.2.1
 so:∀x∈a.2,Ah x.2.2/\Cu (lg a x.2.1) (oY x.2.2)
def aev:List (Cn prog):=[Cn.lift bJ Nw,EH]
theorem ZP (a:jg) (h:aeu a):PF prog 36 (.cons (eF.v a) .nil) (bc.list.v (plA a)):=by
 obtain⟨hn,hpt,hso⟩:=h;unfold plA;refine PF.go af ae aev (fn:=f36) rfl rfl rfl λB0 hc=>?_;conv=>whnf
 refine Cw.lp (σ:=Unit) af rfl rfl hc a.2.length (λq _=>[(1,.ptr (pathOf 64) 0),(3,.gs (pathOf 65) q 2),(11,ja.list.v a.2),(12,.int .i64 (a.2.length:Int)),(13,.int .i64 (q:Int))])
  (λq _=>hp [(64,cl (eF.cs a)),(65,.gl (bc.l ((a.2.take q).map (ql a))) false)] 66) (λ_ _=>True) () trivial (sb [(64,64),(65,0)]) (λq _ hq _=>?_)
 conv=>whnf
 refine an (λk1=>?_) (λk1=>?_)
 .have hq:=mY k1;have bM:=mX hq (by omega);have Kz:=bc.pH (ql a) hq;have hm:=List.getElem_mem hq;have h1:=hpt _ hm;have h2:=hso _ hm;conv=>whnf
  refine aG.go q rfl hq (aB ?_);refine⟨_,ja.rd rfl hq,aC ?_⟩;refine cg aev 0 (Cn.lift bJ Nw) (a,a.2[q].2.1) h1 (aC ?_);refine cg aev 1 EH (lg a a.2[q].2.1,a.2[q].2.2) h2 (aC ?_);refine⟨_,rfl,aB ?_⟩;refine⟨bc.ap (q:=q) (gd (Nat.le_of_lt hq)) (by omega),aC ?_⟩;exact⟨(),hq,aA,sb [(64,64),(65,70)]⟩
 .obtain rfl:=ou hq k1;rw [List.take_length];refine aC ?_;exact bc.gk rfl rfl (List.length_map ..).symm
def Nx:Cn prog:= .lE eF bc.list 36 false aeu plA (λe=>by cases e) ZP (au rfl rfl)
def dv (a:jg):List fi:=match aU (bG (tg a) 0)with|true=>[]|false=>plA a
structure Ny (a:jg):Prop where
 ck:Nt a
 pl:tg a=0 ->aeu a
def aew:List (Cn prog):=[HG,Nx]
theorem Vd (a:jg) (h:Ny a):PF prog 16 (.cons (eF.v a) .nil) (.aO (.cons (bc.list.v (dv a)) (.cons (aS.v (tg a)) .nil))):=by
 obtain⟨h1,h2⟩:=h;refine PF.go af ae aew (fn:=f16) rfl rfl rfl λB0 hc=>?_;unfold dv;conv=>whnf
 refine cg aew 0 HG a h1 (aC ?_);refine an (λk1=>?_) (λk1=>?_)
 .have k1:aU (bG (tg a) 0)=true:=k1;rw [k1];refine aC ?_;exact .aO (.cons .bA (.cons (.pure .int) .nil))
 .have k1:aU (bG (tg a) 0)=false:=k1;have hz:tg a=0:=by
   cases hb:bG (tg a) 0 with
   |true=>exact bw.1 hb|false=>rw [hb]at k1;cases k1
  rw [k1,hz];refine aC ?_;refine cg aew 1 Nx a (h2 hz) (aC ?_);exact aj.pure (.aO (.cons (bc.list.ak (plA a)) (.cons .int .nil)))
def mQ:Cn prog:= .ag1 eF bc.list aS 16 Ny dv tg Vd (au rfl rfl)
end
section
attribute [local irreducible] Cw aj bE PF Sub
section
attribute [local instance] fe
def fPr (l:List fi):AV:= .func (.func 124) .nil (.cons (.cR (bc.list.c l .nil) 0) .nil)
theorem aex (l:List fi):DP (fPr l):=⟨aA,bc.list.fN l .nil,aA⟩
theorem Ve (l:List fi):dA 70 (.cons (bc.list.v l) .nil) (fPr l):=by
 refine PF.go af ae [] (fn:=f70) rfl rfl rfl λB0 hc=>?_;conv=>whnf
 exact .func .nil (.cons (.ptr rfl rfl (.cons (.pure (bc.list.ak _)) .nil)) .nil)
def HH:Cn prog:=Cn.mk 70 false (List fi) (λx=> .cons (bc.list.v x) .nil) fPr (λ_=>True)
 (λa b _ _ h=>by injection h with h1 _;rw [bc.list.aZ h1]) (λx=>⟨bc.list.eK _,aA⟩)
 (λx=>aV (aex x)) (λh=>by cases h) (λx _=>Ve x) (au rfl rfl)
end
abbrev OP:=Option (Nat×Nat)
def OP.x (o:OP):Int:=match o with|some z=>z.1|none=>0
def OP.y (o:OP):Int:=match o with|some z=>z.2|none=>0
def OP.e (o:OP) (e:Int):Int:=match o with|some _=>25|none=>e
def snR (a:jg) (l:List fi) (e:Int):List (Nat×AV):=[(0,eF.v a),(1,.ptr (pathOf 64) 0),(2,.ptr (pathOf 65) 0),(3,.ptr (pathOf 66) 0),(4,.ptr (pathOf 67) 0),(5,bc.list.v l),(7,.aO (.cons (bc.list.v l) (.cons (.int .i64 e) .nil))),(8,eF.v a),(9,.aO (.cons (bc.list.v l) (.cons (.int .i64 e) .nil))),(10,bc.list.v l),(11,.int .i64 e),(12,bc.list.v l),(13,fPr l)]
def Cy (st:Bool) (a:jg) (l:List fi) (e:Int):AO:= .loop (Bool.casesOn st true false) (Bool.casesOn (motive:=λ_=>Option (Option Nat)) st none (some none)) 34 (bm (snR a l e)) f34.ntmps (jO (oJ f34)).1 (jO (oJ f34)).2.1 (jO (oJ f34)).2.2 (pathOf 68)
def Fi (a:jg) (l:List fi) (e:Int) (o:OP) (r:List (Nat×AO)):List (Nat×AO):=(64,cl (eF.cs a))::(65,cl [.int .i64 o.x])::(66,cl [.int .i64 o.y])::(67,cl [.int .i64 (o.e e)])::(68,.marks)::(69,Cy o.isSome a l e)::r
def WY (i k:Nat) (s:Int):OP:=match bG s 3 with|true=>some (i,k)|false=>none
def lH (a:jg) (l:List fi) (e:Int):xf (fi×Nat×Nat×Int) where
 ar:=λi=> .cons (.agg (.cons (.int .i64 (i.2.1:Int)) (.cons (.int .i64 (i.2.2.1:Int)) (.cons (.int .i64 i.2.2.2) .nil)))) .nil
 h0:=λi=>hp (Fi a l e none [(70,cl (bc.cs i.1))]) 71
 v:=λi=> .bool (aU (bG i.2.2.2 3))
 H:=λi=>(Fi a l e (WY i.2.1 i.2.2.1 i.2.2.2) [(70,cl (bc.cs i.1))]).map λx=>(pathOf x.1,x.2)
 N:=λ_=>pathOf 80
 ok:=λi=>True
 inj:=by
  rintro ⟨x,i,k,s⟩ ⟨x',i',k',s'⟩ _ _ e1 e2;injection e1 with e1 _;injection e1 with e1;injection e1 with e3 e1;injection e1 with e4 e1;injection e1 with e5 _;injection e3 with _ e3;injection e4 with _ e4;injection e5 with _ e5;have f3:i=i':=Int.ofNat_inj.1 e3;have f4:k=k':=Int.ofNat_inj.1 e4;have f5:s=s':=e5;clear e3 e4 e5;have g1:some (cl (bc.cs x))=some (cl (bc.cs x')):=congrArg (λh:Heap=>h.t.get (pathOf 70)) e2;subst f3 f4 f5;show _/\List.map _ (Fi a l e (WY i k s) [(70,cl (bc.cs x))])=List.map _ (Fi a l e (WY i k s) [(70,cl (bc.cs x'))])/\_;rw [Option.some.inj g1];exact⟨rfl,rfl,rfl⟩
section
abbrev iS7:aY:=qi bJ 7
attribute [local instance] iS7
theorem ajU (a:jg) (l:List fi) (e:Int) (x:fi) (i k:Nat) (s:Int) (B0:Nat):QJ prog B0 (pathOf 69) 34 f34.ntmps (jO (oJ f34)).2.1 (jO (oJ f34)).2.2 (aE (P:=prog) [])
  ((bm (snR a l e)).set (.agg (.cons (.int .i64 (i:Int)) (.cons (.int .i64 (k:Int)) (.cons (.int .i64 s) .nil)))) (pathOf 14)) (hp (Fi a l e none [(70,cl (bc.cs x))]) 71) (.bool (aU (bG s 3))) ((Fi a l e (WY i k s) [(70,cl (bc.cs x))]).map λx=>(pathOf x.1,x.2)) (pathOf 80):=by
 have hc:=ay (P:=prog) ae [] B0;refine fD (cx:=⟨_,_,_,_,aE (P:=prog) [],0⟩) af rfl hc _ (aB ?_);refine fD (cx:=⟨_,_,_,_,aE (P:=prog) [],0⟩) af rfl hc _ (aB ?_);refine an (λk1=>?_) (λk1=>?_);all_goals
  unfold WY;rw [show bG s 3=_ from k1];refine aC ?_;repeat' first|exact aA|exact rfl|refine And.intro ?_ ?_
theorem Nz (a:jg) (l:List fi) (e:Int) (x:fi) (i k:Nat) {s:Int} {o:OP} (hb:WY i k s=o):(lH a l e).H (x,i,k,s)=(Fi a l e o [(70,cl (bc.cs x))]).map λx=>(pathOf x.1,x.2):=by subst hb;rfl
theorem NA (a:jg) (l:List fi) (e:Int) (x:fi) (i k:Nat) {s:Int} {t:Bool} (hb:bG s 3=t):(lH a l e).v (x,i,k,s)= .bool (aU t):=by subst hb;rfl
theorem ajV (a:jg) (l:List fi) (e:Int) (B0:Nat) (i:fi×Nat×Nat×Int) (hi:(lH a l e).ok i):∃(fn:FuncId) (im:Tr AV) (nt:Nat) (ps:Array Tmp) (assign body:Code) (wN:Pos) (r:Tr AV) (ib:dY ->AV ->Heap ->CR),((lH a l e).h0 i).t.get (pathOf 69)=some (.loop true none fn im nt ps assign body wN)/\mn ps.toList ((lH a l e).ar i) nt im=some r/\
  ((lH a l e).h0 i).n.toNat=64+7/\((lH a l e).h0 i).n.toNat<=((lH a l e).N i).toNat/\QJ prog B0 (pathOf 69) fn nt assign body ib r ((lH a l e).h0 i) ((lH a l e).v i) ((lH a l e).H i) ((lH a l e).N i):=
 ⟨_,_,_,_,_,_,_,_,aE (P:=prog) [],rfl,rfl,rfl,(show(pathOf 71).toNat<=(pathOf 80).toNat by decide),ajU a l e i.1 i.2.1 i.2.2.1 i.2.2.2 B0⟩
end
def KR (x:fi) (i:Nat):Nat ->List fi ->OP
 |_,[]=>none|k,y::r=>match bG (nM x y) 3 with|true=>some (i,k)|false=>KR x i (k+1) r
def orO (a b:OP):OP:=match a with|some z=>some z|none=>b
def wG:Nat ->List fi ->OP
 |_,[]=>none|i,x::r=>orO (KR x i (i+1) r) (wG (i+1) r)
section
abbrev iS6:aY:=qi bJ 6
attribute [local instance] iS6
def tS6:List (Cn prog):=[Cn.tabs (T:=bJ) (T':=iS6) rfl Cq]
def cS6 (a:jg) (l:List fi) (e:Int):dY ->AV ->Heap ->CR:=mF (pathOf 69) (lH a l e) (aE tS6)
theorem aey (a:jg) (l:List fi) (e:Int) (B0:Nat):aW prog B0 (cS6 a l e):=qY 7 (ay ae tS6 B0) (lH a l e) (by decide) (ajV a l e B0)
def snA (l:List fi):AV:= .cons (.yield (pathOf 69)) (.cons (.cR (bc.list.c l .nil) 0) .nil)
structure Vf (l:List fi):Prop where
 n:l.length<=1000000
 s:∀x∈l,∀y∈l,nN x y
theorem ajW (a:jg) (l:List fi) (e:Int) (h:Vf l) (B0:Nat) {r:Tr AV} (hr:gH (snA l) 0 f124.ntmps .leaf=some r):
  Cw prog B0 ⟨prog,124,f124.ntmps,none,cS6 a l e,0⟩ (oJ f124) r [] (hp (Fi a l e none []) 70)
   (QK (fa prog f124 (.aO .nil) ((Fi a l e (wG 0 l) []).map λx=>(pathOf x.1,x.2)) (pathOf 90)) (fa prog f124 (.aO .nil) ((Fi a l e (wG 0 l) []).map λx=>(pathOf x.1,x.2)) (pathOf 90)) (λ_ _ _ _=>False)):=by
 cases hr;obtain⟨hn,mw⟩:=h;have hc:=aey a l e B0;have iP:(tS6.map Cn.f).Nodup:=List.nodup_cons.2 ⟨List.not_mem_nil,List.nodup_nil⟩;refine aD (cx:=⟨_,_,_,_,cS6 a l e,0⟩) af rfl rfl hc _ ?_;obtain⟨W,hW⟩:∃W,W=wG 0 l:=⟨_,rfl⟩
 rw [<-hW];conv=>whnf
 refine⟨_,rfl,aB ?_⟩;refine Cw.lp (σ:=Unit) af rfl rfl hc l.length (λq _=>[(0,.yield (pathOf 69)),(1,.cR (bc.list.c l .nil) 0),(7,bc.list.v l),(8,.int .i64 (l.length:Int)),(9,.int .i64 (q:Int))])
  (λq _=>hp (Fi a l e none []) 70) (λq _=>wG q (l.drop q)=W) () hW.symm (sb [(64,64),(65,65),(66,66),(67,67),(68,68),(69,69)]) (λq _ hq hs=>?_)
 conv=>whnf
 refine an (λk1=>?_) (λk1=>?_)
 .have hq:=mY k1;have bM:=mX hq (by omega);rw [List.drop_eq_getElem_cons hq]at hs;have hs:orO (KR l[q] q (q+1) (l.drop (q+1))) (wG (q+1) (l.drop (q+1)))=W:=hs;have AN:l[q]∈l:=List.getElem_mem hq;conv=>whnf
  refine aG.go q rfl hq (aB ?_);refine⟨_,bc.rd rfl hq,aC ?_⟩;generalize l[q]=x at*;obtain⟨R,hR⟩:∃R,R=wG (q+1) (l.drop (q+1)):=⟨_,rfl⟩
  rw [<-hR]at hs;refine Cw.lp (σ:=Unit) af rfl rfl hc (l.length - (q+1)) (λp _=>[(0,.yield (pathOf 69)),(1,.cR (bc.list.c l .nil) 0),(3,.int .i64 (q:Int)),(4,.ptr (pathOf 70) 0),(5,.int .i64 ((q+1+p:Nat):Int)),(7,bc.list.v l),(8,.int .i64 (l.length:Int)),(9,.int .i64 (q:Int))])
   (λp _=>hp (Fi a l e none [(70,cl (bc.cs x))]) 71) (λp _=>orO (KR x q (q+1+p) (l.drop (q+1+p))) R=W) () hs (sb [(64,64),(65,65),(66,66),(67,67),(68,68),(69,69),(70,70)]) (λp _ hp cS=>?_)
  conv=>whnf
  refine⟨_,rfl,aB ?_⟩;refine an (λk2=>?_) (λk2=>?_)
  .have lh:q+1+p<l.length:=mY k2;have KB:=mX lh (by omega);rw [List.drop_eq_getElem_cons lh]at cS;have cS:orO (match bG (nM x l[q+1+p]) 3 with|true=>some (q,q+1+p)|false=>KR x q (q+1+p+1) (l.drop (q+1+p+1))) R=W:=cS;have hym:=mw _ AN _ (List.getElem_mem lh);conv=>whnf
   repeat(first|(refine nw ?_;conv=>whnf)|(refine⟨_,rfl,?_⟩;conv=>whnf))
   refine aG.go (q+1+p) rfl lh (aB ?_);refine⟨_,bc.rd rfl lh,aC ?_⟩;generalize l[q+1+p]=y at*;refine kN (cg tS6 0 (Cn.tabs (T:=bJ) (T':=iS6) rfl Cq) (x,y) hym (aC ?_) (hl:=iP));refine an (λk3=>?_) (λk3=>?_)
   .have k3:aU (bG (nM x y) 1)=true:=k3;refine aC ?_;cases hb:bG (nM x y) 3 with
    |true=>
     have ho:WY q (q+1+p) (nM x y)=some (q,q+1+p):=(by unfold WY;rw [hb]);rw [hb]at cS;have cS:some (q,q+1+p)=W:=cS;subst cS;refine gq (F:=lH a l e) (x,q,q+1+p,nM x y) trivial (NA a l e x q (q+1+p) hb) (Nz a l e x q (q+1+p) ho) (aC ?_);repeat' first|exact aA|exact rfl|refine And.intro ?_ ?_
    |false=>
     have ho:WY q (q+1+p) (nM x y)=none:=(by unfold WY;rw [hb]);rw [hb]at cS;have cS:orO (KR x q (q+1+(p+1)) (l.drop (q+1+(p+1)))) R=W:=cS;refine gq (F:=lH a l e) (x,q,q+1+p,nM x y) trivial (NA a l e x q (q+1+p) hb) (Nz a l e x q (q+1+p) ho) (aC ?_);exact⟨(),by omega,cS,sb [(64,64),(65,65),(66,66),(67,67),(68,68),(69,69),(70,70)]⟩
   .have k3:aU (bG (nM x y) 1)=false:=k3;have hb:bG (nM x y) 3=false:=by
     cases h1:bG (nM x y) 1 with
     |false=>rw [h1]at k3;cases k3|true=>rw [bw.1 h1];rfl
    rw [hb]at cS;have cS:orO (KR x q (q+1+(p+1)) (l.drop (q+1+(p+1)))) R=W:=cS;refine aC ?_;exact⟨(),by omega,cS,sb [(64,64),(65,65),(66,66),(67,67),(68,68),(69,69),(70,70)]⟩
  .have hpe:p=l.length - (q+1):=by
    have:=bf.1 k2;have this:((l.length:Nat):Int)<=((q+1+p:Nat):Int):=this;omega
   rw [List.drop_eq_nil_of_le (by omega)]at cS;have cS:R=W:=cS;rw [hR]at cS;refine aC ?_;exact⟨(),hq,cS,sb [(64,64),(65,65),(66,66),(67,67),(68,68),(69,69)]⟩
 .obtain rfl:=ou hq k1;rw [List.drop_length]at hs;have hs:none=W:=hs;subst hs;refine aC ?_;repeat' first|exact aA|exact rfl|refine And.intro ?_ ?_
end
def Vg:xf (jg×List fi×Int) where
 ar:=λi=>snA i.2.1
 h0:=λi=>hp (Fi i.1 i.2.1 i.2.2 none []) 70
 v:=λ_=> .aO .nil
 H:=λi=>(Fi i.1 i.2.1 i.2.2 (wG 0 i.2.1) []).map λx=>(pathOf x.1,x.2)
 N:=λ_=>pathOf 90
 ok:=λi=>Vf i.2.1
 inj:=by
  rintro ⟨a,l,e⟩ ⟨a',l',e'⟩ _ _ e1 e2;injection e1 with _ e1;injection e1 with e1 _;injection e1 with e1 _;have e3:l=l':=by
   injection e1 with e1 _;exact bc.list.aZ e1
  have g1:some (cl (eF.cs a))=some (cl (eF.cs a')):=congrArg (λh:Heap=>h.t.get (pathOf 64)) e2;have g2:some (AV.int .i64 e)=some (.int .i64 e'):=congrArg (λh:Heap=>match h.t.get (pathOf 67)with|some (.cells t _ _)=>t.get (pathOf 0)|_=>none) e2;have g3:some (Cy false a l e)=some (Cy false a' l' e'):=congrArg (λh:Heap=>h.t.get (pathOf 69)) e2;injection g2 with g2;injection g2 with _ g2;have g4:bm (snR a l e)=bm (snR a' l' e'):=by injection g3 with g3;injection g3
  have g5:∀st,Cy st a l e=Cy st a' l' e':=λst=>by unfold Cy;rw [g4]
  have g6:(Fi a l e (wG 0 l) [])=Fi a' l' e' (wG 0 l') []:=by
   unfold Fi;rw [g5,Option.some.inj g1,g2,e3]
  exact⟨rfl,congrArg (List.map λx=>(pathOf x.1,x.2)) g6,rfl⟩
theorem Vh (a:jg) (l:List fi) (e:Int) {o:OP} (hb:wG 0 l=o):Vg.H (a,l,e)=(Fi a l e o []).map λx=>(pathOf x.1,x.2):=by subst hb;rfl
def tSn:List (Cn prog):=[mQ,Cn.lift bJ HH]
def cSn:dY ->AV ->Heap ->CR:=fx 124 Vg (aE tSn)
theorem Vi (B0:Nat):aW prog B0 cSn:=
 ic ae 6 (ay ae tSn B0) (fn:=f124) rfl rfl Vg (λi hi=>⟨_,_,rfl,rfl,(show(pathOf 70).toNat<=(pathOf 90).toNat by decide),ajW i.1 i.2.1 i.2.2 hi B0 rfl⟩)
def sB (a:jg):OP:=wG 0 (dv a)
structure HJ (a:jg):Prop where
 pl:Ny a
 sn:Vf (dv a)
def aez (a:jg):AV:= .aO (.cons (aS.v (sB a).x) (.cons (aS.v (sB a).y) (.cons (aS.v ((sB a).e (tg a))) .nil)))
theorem ZQ (a:jg) (h:HJ a):PF prog 34 (.cons (eF.v a) .nil) (aez a):=by
 obtain⟨h1,h2⟩:=h;refine PF.of_wp af (by decide) (fn:=f34) rfl rfl rfl (.cons (eF.ak _) .nil) (call:=cSn) (λB0=>Vi B0) λB0=>?_;have hc:=Vi B0;unfold aez sB;conv=>whnf
 refine bP (by decide) (cg tSn 0 mQ a h1 (aC ?_));refine bP (by decide) (cg tSn 1 (Cn.lift bJ HH) (dv a) aA (aC ?_));cases hb:wG 0 (dv a)with
 |some z=>
  refine Cw.range af rfl hc rfl rfl (kX (F:=Vg) (a,dv a,tg a) h2 (Vh a (dv a) (tg a) hb)) (x:=_) rfl ?_ ?_
  .intro e;cases e
  refine aC ?_;exact aj.pure (.aO (.cons .int (.cons .int (.cons .int .nil))))
 |none=>
  refine Cw.range af rfl hc rfl rfl (kX (F:=Vg) (a,dv a,tg a) h2 (Vh a (dv a) (tg a) hb)) (x:=_) rfl ?_ ?_
  .intro e;cases e
  refine aC ?_;exact aj.pure (.aO (.cons .int (.cons .int (.cons .int .nil))))
def NB:Cn prog:=Cn.mk 34 true jg (λa=> .cons (eF.v a) .nil) aez HJ (λa b _ _ h=>by injection h with h1 _;rw [eF.aZ h1]) (λa=>⟨eF.eK _,aA⟩) (λa=> .aO (.cons .int (.cons .int (.cons .int .nil)))) (λ_ _=>λ_ _ _ h=>h) ZQ (au rfl rfl)
end
section
attribute [local irreducible] Cw aj bE PF Sub
def fSp (a b:fi) (d:Q3):AV:= .func (.func 147) .nil (.cons (.cR (bc.c a .nil) 0) (.cons (.cR (bc.c b .nil) 0) (.cons (.cR (aN.c d .nil) 0) .nil)))
def gT (loc:Bool):FuncId:=Bool.casesOn (motive:=λ_=>FuncId) loc 95 96
def Vj (loc:Bool) (s:Az):Bool:=Bool.casesOn (motive:=λ_=>Bool) loc (YN s) (zQ s)
def fT (loc:Bool):AV:= .func (.func (gT loc)) .nil .nil
section
attribute [local instance] fe
theorem aeA (a b:fi) (d:Q3):DP (fSp a b d):=⟨aA,bc.fN a .nil,bc.fN b .nil,aN.fN d .nil,aA⟩
theorem ZR (a b:fi) (d:Q3):dA 101 (.cons (bc.v a) (.cons (bc.v b) (.cons (aN.v d) .nil))) (fSp a b d):=by
 refine PF.go af ae [] (fn:=f101) rfl rfl rfl λB0 hc=>?_;conv=>whnf
 exact .func .nil (.cons (.ptr rfl rfl (.pure (bc.fN a .nil))) (.cons (.ptr rfl rfl (.pure (bc.fN b .nil))) (.cons (.ptr rfl rfl (.pure (aN.fN d .nil))) .nil)))
def yk:Cn prog:=Cn.mk 101 false (fi×fi×Q3) (λx=> .cons (bc.v x.1) (.cons (bc.v x.2.1) (.cons (aN.v x.2.2) .nil))) (λx=>fSp x.1 x.2.1 x.2.2) (λ_=>True)
 (λa b _ _ h=>by injection h with h1 h;injection h with h2 h;injection h with h3 _;rw [bc.aZ h1,bc.aZ h2,aN.aZ h3]) (λx=>⟨bc.eK _,bc.eK _,aN.eK _,aA⟩)
 (λx=>aV (aeA _ _ _)) (λh=>by cases h) (λx _=>ZR x.1 x.2.1 x.2.2) (au rfl rfl)
theorem ahc (loc:Bool) (s:Az):PF prog (gT loc) (.cons (og.v s) .nil) (.bool (Vj loc s)):=by
 cases loc with
 |false=>exact agw s|true=>exact YO s
def Aj (loc:Bool):Cn prog:=⟨gT loc,true,Az,λs=> .cons (og.v s) .nil,λs=> .bool (Vj loc s),λ_=>True,λa b _ _ h=>by injection h with h1 _;rw [og.aZ h1],λs=>⟨og.eK s,aA⟩,λ_=> .bool,λ_ _=>λ_ _ _ h=>h,λs _=>ahc loc s,by cases loc;exact au rfl rfl;exact au rfl rfl⟩
end
abbrev OS:=Option Az
def spL (o:OS):List AV:=match o with|some s=>og.cs s|none=>[.int .i64 0,.int .i64 0,.bool false,.bA,.bool false,.bA,.bool false,.bA,.bool false,.bA]
structure Cz where
 a:fi
 b:fi
 d:Q3
 loc:Bool
def frR (I:Cz):List (Nat×AV):=[(0,bc.v I.a),(1,bc.v I.b),(2,aN.v I.d),(3,fT I.loc),(4,.ptr (pathOf 64) 0),(5,.ptr (pathOf 65) 0),(6,.ptr (pathOf 66) 0),(7,.ptr (pathOf 67) 0),(8,.ptr (pathOf 68) 0),(9,.ptr (pathOf 69) 0),(11,bc.v I.a),(12,bc.v I.b),(13,aN.v I.d),(14,fSp I.a I.b I.d)]
def ahd (st:Bool) (I:Cz):AO:= .loop (Bool.casesOn st true false) (Bool.casesOn (motive:=λ_=>Option (Option Nat)) st none (some none)) 97 (bm (frR I)) f97.ntmps (jO (oJ f97)).1 (jO (oJ f97)).2.1 (jO (oJ f97)).2.2 (pathOf 70)
def KS (I:Cz) (o:OS) (r:List (Nat×AO)):List (Nat×AO):=(64,cl (bc.cs I.a))::(65,cl (bc.cs I.b))::(66,cl (nE I.d))::(67,cl [fT I.loc])::(68,cl (spL o))::(69,cl [.bool o.isSome])::(70,.marks)::(71,ahd o.isSome I)::r
def hit (loc:Bool) (s:Az):OS:=match Vj loc s with|true=>some s|false=>none
def WZ (x y:cW) (s:Az):List (Nat×AO):=[(72,cl (lS x)),(73,cl (lS y)),(74,cl (aK.cs s.2.2.1)),(75,cl (aK.cs s.2.2.2))]
def lI (I:Cz):xf (cW×cW×Az) where
 ar:=λi=> .cons (og.v i.2.2) .nil
 h0:=λi=>hp (KS I none (WZ i.1 i.2.1 i.2.2)) 76
 v:=λi=> .bool (aU (Vj I.loc i.2.2))
 H:=λi=>(KS I (hit I.loc i.2.2) (WZ i.1 i.2.1 i.2.2)).map λx=>(pathOf x.1,x.2)
 N:=λ_=>pathOf 84
 ok:=λi=>True
 inj:=by
  rintro ⟨x,y,s⟩ ⟨x',y',s'⟩ _ _ e1 e2;injection e1 with e1 _;have e3:s=s':=og.aZ e1;have g1:some (cl (lS x))=some (cl (lS x')):=congrArg (λh:Heap=>h.t.get (pathOf 72)) e2;have g2:some (cl (lS y))=some (cl (lS y')):=congrArg (λh:Heap=>h.t.get (pathOf 73)) e2;clear e1 e2;subst e3;have g3:WZ x y s=WZ x' y' s:=by unfold WZ;rw [Option.some.inj g1,Option.some.inj g2]
  show _/\List.map _ (KS I (hit I.loc s) (WZ x y s))=List.map _ (KS I (hit I.loc s) (WZ x' y' s))/\_;rw [g3];exact⟨rfl,rfl,rfl⟩
section
abbrev xq:aY:=qi bJ 12
attribute [local instance] xq
theorem ajX (I:Cz) (x y:cW) (s:Az) (B0:Nat):QJ prog B0 (pathOf 71) 97 f97.ntmps (jO (oJ f97)).2.1 (jO (oJ f97)).2.2 (aE [Cn.lift xq (Aj I.loc)])
  ((bm (frR I)).set (og.v s) (pathOf 15)) (hp (KS I none (WZ x y s)) 76) (.bool (aU (Vj I.loc s))) ((KS I (hit I.loc s) (WZ x y s)).map λx=>(pathOf x.1,x.2)) (pathOf 84):=by
 have hc:=ay (P:=prog) ae [Cn.lift xq (Aj I.loc)] B0;refine fD (cx:=⟨_,_,_,_,aE [Cn.lift xq (Aj I.loc)],0⟩) af rfl hc _ (aB ?_);refine fD (cx:=⟨_,_,_,_,aE [Cn.lift xq (Aj I.loc)],0⟩) af rfl hc _ (aB ?_);refine cg [Cn.lift xq (Aj I.loc)] 0 (Cn.lift xq (Aj I.loc)) s aA (aC ?_) (hl:=List.nodup_cons.2 ⟨List.not_mem_nil,List.nodup_nil⟩);refine an (λk1=>?_) (λk1=>?_);all_goals
  unfold hit;rw [show Vj I.loc s=_ from k1];refine aC ?_;repeat' first|exact aA|exact rfl|refine And.intro ?_ ?_
theorem NC (I:Cz) (x y:cW) {s:Az} {o:OS} (hb:hit I.loc s=o):(lI I).H (x,y,s)=(KS I o (WZ x y s)).map λx=>(pathOf x.1,x.2):=by subst hb;rfl
theorem ND (I:Cz) (x y:cW) {s:Az} {t:Bool} (hb:Vj I.loc s=t):(lI I).v (x,y,s)= .bool (aU t):=by subst hb;rfl
theorem ajY (I:Cz) (B0:Nat) (i:cW×cW×Az) (hi:(lI I).ok i):∃(fn:FuncId) (im:Tr AV) (nt:Nat) (ps:Array Tmp) (assign body:Code) (wN:Pos) (r:Tr AV) (ib:dY ->AV ->Heap ->CR),((lI I).h0 i).t.get (pathOf 71)=some (.loop true none fn im nt ps assign body wN)/\mn ps.toList ((lI I).ar i) nt im=some r/\
  ((lI I).h0 i).n.toNat=64+12/\((lI I).h0 i).n.toNat<=((lI I).N i).toNat/\QJ prog B0 (pathOf 71) fn nt assign body ib r ((lI I).h0 i) ((lI I).v i) ((lI I).H i) ((lI I).N i):=
 ⟨_,_,_,_,_,_,_,_,aE [Cn.lift xq (Aj I.loc)],rfl,rfl,rfl,(show(pathOf 76).toNat<=(pathOf 84).toNat by decide),ajX I i.1 i.2.1 i.2.2 B0⟩
end
def EI (x y:cW) (d:Q3) (i k:Nat):OS:=match bG (uz x y d).2.2.2 0 with|true=>(match (uz x y d).2.2.1 with|true=>some ((i:Int),(k:Int),(uz x y d).1,(uz x y d).2.1)|false=>none)|false=>none
def KT (loc:Bool):OS ->OS|some s=>hit loc s|none=>none
def HK (a b:OS):OS:=match a with|some z=>some z|none=>b
def sC (loc:Bool) (d:Q3) (x:cW) (i:Nat):Nat ->List cW ->OS
 |_,[]=>none|k,y::r=>HK (KT loc (EI x y d i k)) (sC loc d x i (k+1) r)
def Bh (loc:Bool) (d:Q3) (Y:List cW):Nat ->List cW ->OS
 |_,[]=>none|i,x::r=>HK (sC loc d x i 0 Y) (Bh loc d Y (i+1) r)
structure Vk (I:Cz):Prop where
 na:I.a.2.length<=1000000
 nb:I.b.2.length<=1000000
 iv:∀x∈I.a.2,∀y∈I.b.2,Zv x y I.d
def uq (I:Cz):OS:=Bh I.loc I.d I.b.2 0 I.a.2
section
abbrev aeB:aY:=qi bJ 8
attribute [local instance] aeB
def ZS:List (Cn prog):=[Cn.tabs (T:=bJ) (T':=aeB) rfl Ad]
def aeC (I:Cz):dY ->AV ->Heap ->CR:=mF (pathOf 71) (lI I) (aE ZS)
theorem ZT (I:Cz) (B0:Nat):aW prog B0 (aeC I):=qY 12 (ay ae ZS B0) (lI I) (by decide) (ajY I B0)
def frA (I:Cz):AV:= .cons (.yield (pathOf 71)) (.cons (.cR (bc.c I.a .nil) 0) (.cons (.cR (bc.c I.b .nil) 0) (.cons (.cR (aN.c I.d .nil) 0) .nil)))
theorem ahe (I:Cz) (h:Vk I) (B0:Nat) {r:Tr AV} (hr:gH (frA I) 0 f147.ntmps .leaf=some r):
  Cw prog B0 ⟨prog,147,f147.ntmps,none,aeC I,0⟩ (oJ f147) r [] (hp (KS I none []) 72)
   (QK (fa prog f147 (.aO .nil) ((KS I (uq I) []).map λx=>(pathOf x.1,x.2)) (pathOf 90)) (fa prog f147 (.aO .nil) ((KS I (uq I) []).map λx=>(pathOf x.1,x.2)) (pathOf 90)) (λ_ _ _ _=>False)):=by
 cases hr;obtain⟨hna,hnb,hiv⟩:=h;have hc:=ZT I B0;have iP:(ZS.map Cn.f).Nodup:=List.nodup_cons.2 ⟨List.not_mem_nil,List.nodup_nil⟩;refine aD (cx:=⟨_,_,_,_,aeC I,0⟩) af rfl rfl hc _ ?_;obtain⟨W,hW⟩:∃W,W=uq I:=⟨_,rfl⟩
 rw [<-hW];unfold uq at hW;conv=>whnf
 refine⟨_,rfl,aB ?_⟩;refine Cw.lp (σ:=Unit) af rfl rfl hc I.a.2.length (λq _=>[(0,.yield (pathOf 71)),(1,.cR (bc.c I.a .nil) 0),(2,.cR (bc.c I.b .nil) 0),(3,.cR (aN.c I.d .nil) 0),(14,aL.list.v I.a.2),(15,.int .i64 (I.a.2.length:Int)),(16,.int .i64 (q:Int))])
  (λq _=>hp (KS I none []) 72) (λq _=>Bh I.loc I.d I.b.2 q (I.a.2.drop q)=W) () hW.symm (sb [(64,64),(65,65),(66,66),(67,67),(68,68),(69,69),(70,70),(71,71)]) (λq _ hq hs=>?_)
 conv=>whnf
 refine an (λk1=>?_) (λk1=>?_)
 .have hq:=mY k1;have bM:=mX hq (by omega);rw [List.drop_eq_getElem_cons hq]at hs;have hs:HK (sC I.loc I.d I.a.2[q] q 0 I.b.2) (Bh I.loc I.d I.b.2 (q+1) (I.a.2.drop (q+1)))=W:=hs;have AN:I.a.2[q]∈I.a.2:=List.getElem_mem hq;conv=>whnf
  refine aG.go q rfl hq (aB ?_);refine⟨_,aL.rd rfl hq,aB ?_⟩;repeat(first|(refine nw ?_;conv=>whnf)|(refine⟨_,rfl,?_⟩;conv=>whnf))
  generalize I.a.2[q]=x at*;obtain⟨R,hR⟩:∃R,R=Bh I.loc I.d I.b.2 (q+1) (I.a.2.drop (q+1)):=⟨_,rfl⟩
  rw [<-hR]at hs;refine Cw.lp (σ:=Unit) af rfl rfl hc I.b.2.length (λp _=>[(0,.yield (pathOf 71)),(1,.cR (bc.c I.a .nil) 0),(2,.cR (bc.c I.b .nil) 0),(3,.cR (aN.c I.d .nil) 0),(5,.int .i64 (q:Int)),(6,.ptr (pathOf 72) 0),(14,aL.list.v I.a.2),(15,.int .i64 (I.a.2.length:Int)),(16,.int .i64 (q:Int)),(22,aL.list.v I.b.2),(23,.int .i64 (I.b.2.length:Int)),(24,.int .i64 (p:Int))])
   (λp _=>hp (KS I none [(72,cl (lS x))]) 73) (λp _=>HK (sC I.loc I.d x q p (I.b.2.drop p)) R=W) () hs (sb [(64,64),(65,65),(66,66),(67,67),(68,68),(69,69),(70,70),(71,71),(72,72)]) (λp _ hp cS=>?_)
  conv=>whnf
  refine an (λk2=>?_) (λk2=>?_)
  .have hp:=mY k2;have KB:=mX hp (by omega);rw [List.drop_eq_getElem_cons hp]at cS;have cS:HK (HK (KT I.loc (EI x I.b.2[p] I.d q p)) (sC I.loc I.d x q (p+1) (I.b.2.drop (p+1)))) R=W:=cS;have hym:=hiv _ AN _ (List.getElem_mem hp);conv=>whnf
   refine aG.go p rfl hp (aB ?_);refine⟨_,aL.rd rfl hp,aB ?_⟩;repeat(first|(refine nw ?_;conv=>whnf)|(refine⟨_,rfl,?_⟩;conv=>whnf))
   generalize I.b.2[p]=y at*;refine kN (cg ZS 0 (Cn.tabs (T:=bJ) (T':=aeB) rfl Ad) (x,y,I.d) hym ?_ (hl:=iP));unfold EI at cS;refine aC ?_;refine an (λk3=>?_) (λk3=>?_)
   .have k3:bG (uz x y I.d).2.2.2 0=true:=k3;rw [k3]at cS;refine aC ?_;refine an (λk4=>?_) (λk4=>?_)
    .have k4:(uz x y I.d).2.2.1=true:=k4;rw [k4]at cS;have cS:HK (HK (hit I.loc ((q:Int),(p:Int),(uz x y I.d).1,(uz x y I.d).2.1)) (sC I.loc I.d x q (p+1) (I.b.2.drop (p+1)))) R=W:=cS;refine aC ?_;cases hb:Vj I.loc ((q:Int),(p:Int),(uz x y I.d).1,(uz x y I.d).2.1)with
     |true=>
      have ho:hit I.loc ((q:Int),(p:Int),(uz x y I.d).1,(uz x y I.d).2.1)=some ((q:Int),(p:Int),(uz x y I.d).1,(uz x y I.d).2.1):=(by unfold hit;rw [hb]);rw [ho]at cS;have cS:some ((q:Int),(p:Int),(uz x y I.d).1,(uz x y I.d).2.1)=W:=cS;subst cS;refine gq (F:=lI I) (x,y,((q:Int),(p:Int),(uz x y I.d).1,(uz x y I.d).2.1)) trivial (ND I x y hb) (NC I x y ho) (aC ?_);repeat' first|exact aA|exact rfl|refine And.intro ?_ ?_
     |false=>
      have ho:hit I.loc ((q:Int),(p:Int),(uz x y I.d).1,(uz x y I.d).2.1)=none:=(by unfold hit;rw [hb]);rw [ho]at cS;have cS:HK (sC I.loc I.d x q (p+1) (I.b.2.drop (p+1))) R=W:=cS;refine gq (F:=lI I) (x,y,((q:Int),(p:Int),(uz x y I.d).1,(uz x y I.d).2.1)) trivial (ND I x y hb) (NC I x y ho) (aC ?_);exact⟨(),hp,cS,sb [(64,64),(65,65),(66,66),(67,67),(68,68),(69,69),(70,70),(71,71),(72,72)]⟩
    .have k4:(uz x y I.d).2.2.1=false:=k4;rw [k4]at cS;have cS:HK (sC I.loc I.d x q (p+1) (I.b.2.drop (p+1))) R=W:=cS;refine aC ?_;exact⟨(),hp,cS,sb [(64,64),(65,65),(66,66),(67,67),(68,68),(69,69),(70,70),(71,71),(72,72)]⟩
   .have k3:bG (uz x y I.d).2.2.2 0=false:=k3;rw [k3]at cS;have cS:HK (sC I.loc I.d x q (p+1) (I.b.2.drop (p+1))) R=W:=cS;refine aC ?_;exact⟨(),hp,cS,sb [(64,64),(65,65),(66,66),(67,67),(68,68),(69,69),(70,70),(71,71),(72,72)]⟩
  .obtain rfl:=ou hp k2;rw [List.drop_length]at cS;have cS:R=W:=cS;rw [hR]at cS;refine aC ?_;exact⟨(),hq,cS,sb [(64,64),(65,65),(66,66),(67,67),(68,68),(69,69),(70,70),(71,71)]⟩
 .obtain rfl:=ou hq k1;rw [List.drop_length]at hs;have hs:none=W:=hs;subst hs;refine aC ?_;repeat' first|exact aA|exact rfl|refine And.intro ?_ ?_
end
attribute [local instance] bJ
def Vl:xf Cz where
 ar:=λi=>frA i
 h0:=λi=>hp (KS i none []) 72
 v:=λ_=> .aO .nil
 H:=λi=>(KS i (uq i) []).map λx=>(pathOf x.1,x.2)
 N:=λ_=>pathOf 90
 ok:=λi=>Vk i
 inj:=by
  rintro ⟨a,b,d,loc⟩ ⟨a',b',d',aeD⟩ _ _ e1 e2;injection e1 with _ e1;injection e1 with e3 e1;injection e1 with e4 e1;injection e1 with e5 _;injection e3 with e3 _;injection e4 with e4 _;injection e5 with e5 _;have f3:a=a':=bc.aZ (congrArg AV.agg e3);have f4:b=b':=bc.aZ (congrArg AV.agg e4);have f5:d=d':=aN.aZ (congrArg AV.agg e5);have g2:some (fT loc)=some (fT aeD):=congrArg (λh:Heap=>match h.t.get (pathOf 67)with|some (.cells t _ _)=>t.get (pathOf 0)|_=>none) e2;have f6:loc=aeD:=by
   injection g2 with g2;injection g2 with g2 _ _;injection g2 with g2;cases loc<;>cases aeD<;>first|rfl|exact absurd g2 (by decide)
  subst f3 f4 f5 f6;exact⟨rfl,rfl,rfl⟩
theorem Vm (I:Cz) {o:OS} (hb:uq I=o):Vl.H I=(KS I o []).map λx=>(pathOf x.1,x.2):=by subst hb;rfl
def cFr:dY ->AV ->Heap ->CR:=fx 147 Vl (aE (P:=prog) [Cn.lift bJ yk])
theorem Vn (B0:Nat):aW prog B0 cFr:=
 ic ae 8 (ay ae [Cn.lift bJ yk] B0) (fn:=f147) rfl rfl Vl (λi hi=>⟨_,_,rfl,rfl,(show(pathOf 72).toNat<=(pathOf 90).toNat by decide),ahe i hi B0 rfl⟩)
def spO (o:OS):Az:=match o with|some s=>s|none=>(0,0,(0,0),(0,0))
def Vo (I:Cz):AV:= .aO (.cons (og.v (spO (uq I))) (.cons (bj.v (uq I).isSome) .nil))
theorem ZU (I:Cz) (h:Vk I):PF prog 97 (.cons (bc.v I.a) (.cons (bc.v I.b) (.cons (aN.v I.d) (.cons (fT I.loc) .nil)))) (Vo I):=by
 refine PF.of_wp af (by decide) (fn:=f97) rfl rfl rfl (.cons (bc.ak _) (.cons (bc.ak _) (.cons (aN.ak _) (.cons (aV (show DP (fT I.loc)from⟨aA,aA⟩)) .nil)))) (call:=cFr) (λB0=>Vn B0) λB0=>?_;have hc:=Vn B0;unfold Vo;conv=>whnf
 refine bP (by decide) (cg [Cn.lift bJ yk] 0 (Cn.lift bJ yk) (I.a,I.b,I.d) aA (aC ?_) (hl:=nd1));cases hb:uq I with
 |some z=>
  refine Cw.range af rfl hc rfl rfl (kX (F:=Vl) I h (Vm I hb)) (x:=_) rfl ?_ ?_
  .intro e;cases e
  refine aC ?_;exact aj.pure (.aO (.cons (og.ak z) (.cons .bool .nil)))
 |none=>
  refine Cw.range af rfl hc rfl rfl (kX (F:=Vl) I h (Vm I hb)) (x:=_) rfl ?_ ?_
  .intro e;cases e
  refine aC ?_;exact .aO (.cons (.agg (.cons (.pure .int) (.cons (.pure .int) (qf (qf .nil))))) (.cons (.pure .bool) .nil))
end
section
attribute [local irreducible] Cw aj bE PF Sub
attribute [local instance] bJ
theorem aeE {a b:Bool} (g2:fT a=fT b):a=b:=by
 injection g2 with g2 _ _;injection g2 with g2;cases a<;>cases b<;>first|rfl|exact absurd g2 (by decide)
def vH:Cn prog:=Cn.mk 97 false Cz (λI=> .cons (bc.v I.a) (.cons (bc.v I.b) (.cons (aN.v I.d) (.cons (fT I.loc) .nil)))) Vo Vk
 (λx y _ _ h=>by
  obtain⟨a,b,d,l⟩:=x;obtain⟨a',b',d',l'⟩:=y;injection h with h1 h;injection h with h2 h;injection h with h3 h;injection h with h4 _;have f1:a=a':=bc.aZ h1;have f2:b=b':=bc.aZ h2;have f3:d=d':=aN.aZ h3;have f4:l=l':=aeE h4;subst f1 f2 f3 f4;rfl) (λI=>⟨bc.eK _,bc.eK _,aN.eK _,⟨aA,aA⟩,aA⟩)
 (λI=> .aO (.cons (og.ak _) (.cons .bool .nil))) (λh=>by cases h) ZU (au rfl rfl)
abbrev Arc:=Int×Int×Int×Int×Nm
def Vp:bX Arc:=aS.pair (aS.pair (aS.pair (aS.pair aR)))
def aeF (s:Az):Q:=Q.div (Q.add (Q.max s.2.2.1 (0,0)) s.2.2.2) (2,0)
structure abC (s:Az):Prop where
 c:de (0,0) s.2.2.1
 a:nD (Q.max s.2.2.1 (0,0)) s.2.2.2
 d:Qh (Q.add (Q.max s.2.2.1 (0,0)) s.2.2.2) (2,0)
 n:zS (aeF s)
def ahf (k:Int) (o:OS):Arc×Bool:=match o with
 |none=>((0,0,0,0,[]),false)
 |some s=>((0,0,s.1,s.2.1,match bG k 1 with|true=>uh (aeF s)|false=>[]),true)
def kI (a b:fi) (d:Q3) (k:Int):Cz:=⟨a,b,d,bG k 2⟩
def Ak (a b:fi) (d:Q3) (k:Int):Arc×Bool:=ahf k (uq (kI a b d k))
structure NF (a b:fi) (d:Q3) (k:Int):Prop where
 z:ri de d z3
 nz:dP d=false
 hk:k=1\/k=2
 f:Vk (kI a b d k)
 m:∀s,uq (kI a b d k)=some s ->k=1 ->abC s
def NG:List (Cn prog):=[Cn.lift bJ iX,vH,Cn.lift bJ jQ,Cn.lift bJ Eg,Cn.lift bJ pM,Cn.lift bJ uc,oU]
theorem ahg (a b:fi) (d:Q3) (k:Int) (h:NF a b d k):PF prog 55 (.cons (bc.v a) (.cons (bc.v b) (.cons (aN.v d) (.cons (aS.v k) .nil)))) (.aO (.cons (Vp.v (Ak a b d k).1) (.cons (bj.v (Ak a b d k).2) (.cons (aS.v 0) .nil)))):=by
 obtain⟨h1,h2,h3,h4,h5⟩:=h;unfold Ak;obtain⟨I,hI⟩:∃I,I=kI a b d k:=⟨_,rfl⟩
 have hI2:=hI;rw [<-hI]at h4 h5 ⊢;rcases h3 with rfl|rfl
 .have hI:I=⟨a,b,d,false⟩:=hI;subst hI;refine PF.go af ae NG (fn:=f55) rfl rfl rfl λB0 hc=>?_;conv=>whnf
  refine cg NG 0 (Cn.lift bJ iX) d h1 (aC ?_);refine vJ h2 (aC ?_);cases ho:uq ⟨a,b,d,false⟩with
  |none=>
   have e1:Vo ⟨a,b,d,false⟩= .aO (.cons (og.v (spO none)) (.cons (bj.v false) .nil)):=(by unfold Vo;rw [ho];rfl);refine ch (l:=NG) (by decide) 1 (c:=vH) rfl ⟨a,b,d,false⟩ h4 (v:= .aO (.cons (og.v (spO none)) (.cons (bj.v false) .nil))) e1 (hk:=?_);refine aC ?_;exact .aO (.cons (.agg (.cons (.pure .int) (.cons (.pure .int) (.cons (.pure .int) (.cons (.pure .int) (.cons (.pure (aR.ak _)) .nil)))))) (.cons (.pure .bool) (.cons (.pure .int) .nil)))
  |some s=>
   have e1:Vo ⟨a,b,d,false⟩= .aO (.cons (og.v s) (.cons (bj.v true) .nil)):=(by unfold Vo;rw [ho];rfl);refine ch (l:=NG) (by decide) 1 (c:=vH) rfl ⟨a,b,d,false⟩ h4 (v:= .aO (.cons (og.v s) (.cons (bj.v true) .nil))) e1 (hk:=?_);refine aC ?_;obtain⟨m1,m2,m3,m4⟩:=h5 s ho rfl;refine cg NG 2 (Cn.lift bJ jQ) (0:Int) (show(-9223372036854775808:Int)<=0/\(0:Int)<9223372036854775808 by decide) (aC ?_);refine cg NG 3 (Cn.lift bJ Eg) (s.2.2.1,(0,0)) m1 (aC ?_);refine cg NG 4 (Cn.lift bJ pM) (Q.max s.2.2.1 (0,0),s.2.2.2) m2 (aC ?_);refine cg NG 2 (Cn.lift bJ jQ) (2:Int) (show(-9223372036854775808:Int)<=2/\(2:Int)<9223372036854775808 by decide) (aC ?_);refine cg NG 5 (Cn.lift bJ uc) (Q.add (Q.max s.2.2.1 (0,0)) s.2.2.2,(2,0)) m3 (aC ?_);refine cg NG 6 oU (aeF s) m4 (aC ?_);exact .aO (.cons (.agg (.cons (.pure .int) (.cons (.pure .int) (.cons (.pure .int) (.cons (.pure .int) (.cons (.pure (aR.ak _)) .nil)))))) (.cons (.pure .bool) (.cons (.pure .int) .nil)))
 .have hI:I=⟨a,b,d,true⟩:=hI;subst hI;refine PF.go af ae NG (fn:=f55) rfl rfl rfl λB0 hc=>?_;conv=>whnf
  refine cg NG 0 (Cn.lift bJ iX) d h1 (aC ?_);refine vJ h2 (aC ?_);cases ho:uq ⟨a,b,d,true⟩with
  |none=>
   have e1:Vo ⟨a,b,d,true⟩= .aO (.cons (og.v (spO none)) (.cons (bj.v false) .nil)):=(by unfold Vo;rw [ho];rfl);refine ch (l:=NG) (by decide) 1 (c:=vH) rfl ⟨a,b,d,true⟩ h4 (v:= .aO (.cons (og.v (spO none)) (.cons (bj.v false) .nil))) e1 (hk:=?_);refine aC ?_;exact .aO (.cons (.agg (.cons (.pure .int) (.cons (.pure .int) (.cons (.pure .int) (.cons (.pure .int) (.cons (.pure (aR.ak _)) .nil)))))) (.cons (.pure .bool) (.cons (.pure .int) .nil)))
  |some s=>
   have e1:Vo ⟨a,b,d,true⟩= .aO (.cons (og.v s) (.cons (bj.v true) .nil)):=(by unfold Vo;rw [ho];rfl);refine ch (l:=NG) (by decide) 1 (c:=vH) rfl ⟨a,b,d,true⟩ h4 (v:= .aO (.cons (og.v s) (.cons (bj.v true) .nil))) e1 (hk:=?_);refine aC ?_;exact .aO (.cons (.agg (.cons (.pure .int) (.cons (.pure .int) (.cons (.pure .int) (.cons (.pure .int) (.cons (.pure (aR.ak _)) .nil)))))) (.cons (.pure .bool) (.cons (.pure .int) .nil)))
def Vq:Cn prog:=Cn.mk 55 false (fi×fi×Q3×Int) (λx=> .cons (bc.v x.1) (.cons (bc.v x.2.1) (.cons (aN.v x.2.2.1) (.cons (aS.v x.2.2.2) .nil)))) (λx=> .aO (.cons (Vp.v (Ak x.1 x.2.1 x.2.2.1 x.2.2.2).1) (.cons (bj.v (Ak x.1 x.2.1 x.2.2.1 x.2.2.2).2) (.cons (aS.v 0) .nil)))) (λx=>NF x.1 x.2.1 x.2.2.1 x.2.2.2)
 (λa b _ _ h=>by injection h with h1 h;injection h with h2 h;injection h with h3 h;injection h with h4 _;rw [bc.aZ h1,bc.aZ h2,aN.aZ h3,aS.aZ h4]) (λx=>⟨bc.eK _,bc.eK _,aN.eK _,aS.eK _,aA⟩)
 (λx=> .aO (.cons (Vp.ak _) (.cons .bool (.cons .int .nil)))) (λh=>by cases h) (λx h=>ahg x.1 x.2.1 x.2.2.1 x.2.2.2 h) (au rfl rfl)
def Al (l:List fi):AV:= .cR (bc.list.c l .nil) 0
theorem mR (l:List fi):DP (Al l):=bc.list.fN l .nil
theorem EJ {a b:List fi} (h:Al a=Al b):a=b:=by
 injection h with h _;injection h with h _;exact bc.list.aZ h
structure NH (n:Nat) (s:List Int):Prop where
 ne:0<s.length
 le:s.length<=1000000
 inr:∀q (hq:q<s.length),0<=s[q]/\s[q]<n
 ord:∀q (hq:q+1<s.length),s[q]<s[q+1]
theorem ZV (l:List fi) (s:List Int) (h:NH l.length s):PF prog 50 (.cons (Al l) (.cons (aS.list.v s) .nil)) (aS.v 0):=by
 obtain⟨h1,h2,h3,h4⟩:=h;refine PF.go af ae [] (fn:=f50) rfl rfl rfl (hpure:= .cons (aV (mR l)) (.cons (aS.list.ak _) .nil)) λB0 hc=>?_;conv=>whnf
 refine vJ (nY.2 (show(s.length:Int)≠0 by omega)) (aC ?_);refine Cw.lp (σ:=Unit) af rfl rfl hc s.length (λq _=>[(0,Al l),(1,aS.list.v s),(12,aS.list.v s),(13,.int .i64 (s.length:Int)),(14,.int .i64 (q:Int))]) (λq _=>hp [] 64) (λ_ _=>True) () trivial (sb []) (λq _ hq _=>?_);conv=>whnf
 refine an (λk1=>?_) (λk1=>?_)
 .have hq:=mY k1;have bM:=mX hq (by omega);obtain⟨g1,g2⟩:=h3 q hq;conv=>whnf
  refine aG.go q rfl hq (aB ?_);refine⟨_,aS.rd rfl hq,aC ?_⟩;refine vJ (bf.2 g1) (aB ?_);repeat(first|(refine nw ?_;conv=>whnf)|(refine⟨_,rfl,?_⟩;conv=>whnf))
  refine vJ (jk.2 g2) (aC ?_);refine an (λk2=>?_) (λk2=>?_)
  .have k2:dj 0 (q:Int)=true:=k2;obtain⟨p,rfl⟩:∃p,q=p+1:=⟨q - 1,by have:=aQ.1 k2;omega⟩
   have hpx:ah .i64 (Int.sub ((p+1:Nat):Int) 1)=(p:Int):=by
    show ah .i64 (((p+1:Nat):Int) - 1)=_;rw [az (by omega) (by omega)];omega
   have my:p<s.length:=(by omega);have ho:=h4 p hq;refine aC ?_;refine aG.go p hpx my (aB ?_);refine⟨_,aS.rd rfl my,aC ?_⟩;refine vJ (jk.2 ho) (aC ?_);exact⟨(),hq,aA,sb []⟩
  .refine aC ?_;exact⟨(),hq,aA,sb []⟩
 .obtain rfl:=ou hq k1;refine aC ?_;exact aj.pure .int
def NI:Cn prog:=Cn.mk 50 true (List fi×List Int) (λx=> .cons (Al x.1) (.cons (aS.list.v x.2) .nil)) (λ_=>aS.v 0) (λx=>NH x.1.length x.2)
 (λa b _ _ _=>rfl) (λx=>⟨mR _,aS.list.eK _,aA⟩) (λ_=> .int) (λ_ _=>λ_ _ _ h=>h) (λx h=>ZV x.1 x.2 h) (au rfl rfl)
theorem ZW:cP prog uy 92 [(.cons (aX.v 1) .nil,.int .i64 1)]=true:=by kernel_rfl
def Am:Cn prog:= .lE aX aS 92 true (λz=>z=1) (λ_=>1) (cM _) (λz h=>by subst h;exact(cm af ae ik (by decide) ZW _ (.head _)).1) (au rfl rfl)
structure EK (x:lz):Prop where
 ok:x.OK
 w:x.1.2=false/\x.2.1.2=false/\x.2.2.2=false
 g:nF (nF (nF 0 x.1.1) x.2.1.1) x.2.2.1=1
def KU:List (Cn prog):=[jW,Cn.lift bJ dU,Am,Cn.lift bJ xm,Cn.lift bJ mI]
theorem ZX (x:lz) (h:EK x):PF prog 51 (.cons x.s .nil) (aS.v 0):=by
 obtain⟨h1,⟨w1,w2,w3⟩,hg⟩:=h;obtain⟨⟨a,a'⟩,⟨b,b'⟩,⟨c,c'⟩⟩:=x;have w1:a'=false:=w1;have w2:b'=false:=w2;have w3:c'=false:=w3;subst w1 w2 w3;have hg:nF (nF (nF 0 a) b) c=1:=hg;have OD:vB a false:=h1.1;have h12:vB b false:=h1.2.1;have h13:vB c false:=h1.2.2;obtain⟨a1,a2,_⟩:=OD;obtain⟨b1,b2,_⟩:=h12;obtain⟨c1,c2,_⟩:=h13;have sm:∀{z:Int},z.natAbs<4294967296 ->SZ z:=λ{z} h=>by
  have:=vn (v:=z.natAbs) (n:=1) (by omega);unfold SZ;omega
 have gl:∀x y:Int,(nF x y).natAbs<=x.natAbs+y.natAbs:=λx y=>by
  show((Nat.gcd x.natAbs y.natAbs:Nat):Int).natAbs<=_;rw [Int.natAbs_natCast];rcases Nat.eq_zero_or_pos x.natAbs with h|h
  .rw [h,Nat.gcd_zero_left];omega
  .exact Nat.le_trans (Nat.gcd_le_left _ h) (Nat.le_add_right _ _)
 have l1:=gl 0 a;have l2:=gl (nF 0 a) b;have s0:SZ 0:=sm (by decide);have sa:SZ a:=sm (by omega);have sb':SZ b:=sm (by omega);have sc:SZ c:=sm (by omega);have s1:SZ (nF 0 a):=sm (by omega);have s2:SZ (nF (nF 0 a) b):=sm (by omega);clear l1 l2 gl sm;refine PF.go af ae KU (fn:=f51) rfl rfl rfl (hpure:= .cons (lz.Ez _) .nil) λB0 hc=>?_;conv=>whnf
 refine cg KU 0 jW ((a,false),(b,false),(c,false)) h1 (aC ?_);refine Cw.bL af rfl rfl hc 4 (aC ?_);refine cg KU 1 (Cn.lift bJ dU) (a,0) aA (aC ?_);refine cg KU 2 Am (1:Int) rfl (aC ?_);refine cg KU 3 (Cn.lift bJ xm) (a,0) aA (aC ?_);refine cg KU 4 (Cn.lift bJ mI) (0,a) ⟨s0,sa⟩ (aC ?_);refine cg KU 1 (Cn.lift bJ dU) (b,0) aA (aC ?_);refine cg KU 2 Am (1:Int) rfl (aC ?_);refine cg KU 3 (Cn.lift bJ xm) (b,0) aA (aC ?_);refine cg KU 4 (Cn.lift bJ mI) (nF 0 a,b) ⟨s1,sb'⟩ (aC ?_);refine cg KU 1 (Cn.lift bJ dU) (c,0) aA (aC ?_);refine cg KU 2 Am (1:Int) rfl (aC ?_);refine cg KU 3 (Cn.lift bJ xm) (c,0) aA (aC ?_);refine cg KU 4 (Cn.lift bJ mI) (nF (nF 0 a) b,c) ⟨s2,sc⟩ (aC ?_);refine cg KU 2 Am (nF (nF (nF 0 a) b) c) hg (aC ?_);exact aj.pure .int
def NJ:Cn prog:=Cn.mk 51 true lz (λx=> .cons x.s .nil) (λ_=>aS.v 0) EK (λa b _ _ _=>rfl) (λx=>⟨⟨aR.eK _,aR.eK _,aR.eK _,aA⟩,aA⟩) (λ_=> .int) (λ_ _=>λ_ _ _ h=>h) ZX (au rfl rfl)
def ZY:List (Cn prog):=[NI,NJ,jW]
def z12:List AV:=[.bool false,.bA,.bool false,.bA,.bool false,.bA,.bool false,.bA,.bool false,.bA,.bool false,.bA]
def ptL (x:lz):List AV:=[aR.v (yf x.1.1 x.1.2),aR.v (yf x.2.1.1 x.2.1.2),aR.v (yf x.2.2.1 x.2.2.2)]
structure Vr (l:List fi) (x:lz) (k:Int) (ss:List (List Int)):Prop where
 d:EK x
 hk:k=1\/k=2
 n:ss.length<=1000
 s:∀s∈ss,NH l.length s
theorem ZZ (l:List fi) (x:lz) (k:Int) (ss:List (List Int)) (h:Vr l x k ss):PF prog 21 (.cons (Al l) (.cons x.s (.cons (aS.v k) (.cons (aS.list.list.v ss) .nil)))) (.aO (.cons (aN.v x.q) (.cons (aS.v 0) .nil))):=by
 obtain⟨h1,h2,h3,h4⟩:=h;have h5:=h1.ok;refine PF.go af ae ZY (fn:=f21) rfl rfl rfl (hpure:= .cons (aV (mR l)) (.cons (lz.Ez _) (.cons .int (.cons (aS.list.list.ak _) .nil)))) λB0 hc=>?_;rcases h2 with rfl|rfl;all_goals
  conv=>whnf
  refine Cw.lp (σ:=Unit) af rfl rfl hc ss.length (λq _=>[(0,Al l),(2,.int .i64 _),(5,.ptr (pathOf 64) 0),(8,.ptr (pathOf 65) 0),(14,aS.list.list.v ss),(15,.int .i64 (ss.length:Int)),(16,.int .i64 (q:Int))]) (λq _=>hp [(64,cl (ptL x)),(65,cl z12)] 66) (λ_ _=>True) () trivial (sb [(64,64),(65,65)]) (λq _ hq _=>?_);conv=>whnf
  refine an (λk1=>?_) (λk1=>?_)
  .have hq:=mY k1;have bM:=mX hq (by omega);have hs:=h4 _ (List.getElem_mem hq);conv=>whnf
   refine aG.go q rfl hq (aB ?_);refine⟨_,aS.list.rd rfl hq,aC ?_⟩;refine cg ZY 0 NI (l,ss[q]) hs (aC ?_);exact⟨(),hq,aA,sb [(64,64),(65,65)]⟩
  .obtain rfl:=ou hq k1;refine aC ?_;refine cg ZY 1 NJ x h1 (aC ?_);refine cg ZY 2 jW x h5 (aC ?_);exact aj.pure (.aO (.cons (aN.ak x.q) (.cons .int .nil)))
def NK:Cn prog:=Cn.mk 21 false (List fi×lz×Int×List (List Int)) (λy=> .cons (Al y.1) (.cons y.2.1.s (.cons (aS.v y.2.2.1) (.cons (aS.list.list.v y.2.2.2) .nil)))) (λy=> .aO (.cons (aN.v y.2.1.q) (.cons (aS.v 0) .nil))) (λy=>Vr y.1 y.2.1 y.2.2.1 y.2.2.2)
 (λa b ha hb h=>by injection h with _ h;injection h with h2 _;rw [lz.Hu ha.d.ok hb.d.ok h2]) (λy=>⟨mR _,⟨aR.eK _,aR.eK _,aR.eK _,aA⟩,aS.eK _,aS.list.list.eK _,aA⟩) (λy=> .aO (.cons (aN.ak _) (.cons .int .nil))) (λh=>by cases h) (λy h=>ZZ y.1 y.2.1 y.2.2.1 y.2.2.2 h) (au rfl rfl)
def Vs (a b:fi) (i j:Nat) (d:Q3) (k:Int):Arc×Bool:=match (Ak a b d k).2 with
 |true=>(((i:Int),(j:Int),(Ak a b d k).1.2.2.1,(Ak a b d k).1.2.2.2.1,(Ak a b d k).1.2.2.2.2),true)
 |false=>((0,0,0,0,[]),false)
structure abD (l:List fi) (i j:Nat) (d:Q3) (k:Int):Prop where
 hi:i<l.length
 hj:j<l.length
 w:NF l[i] l[j] d k
def QU:fi:=(0,[])
def aeG (l:List fi) (i j:Nat) (d:Q3) (k:Int):AV:= .aO (.cons (Vp.v (Vs (l.getD i QU) (l.getD j QU) i j d k).1) (.cons (bj.v (Vs (l.getD i QU) (l.getD j QU) i j d k).2) .nil))
theorem ahh (l:List fi) (i j:Nat) (d:Q3) (k:Int) (h:abD l i j d k):PF prog 24 (.cons (Al l) (.cons (.int .i64 (i:Int)) (.cons (.int .i64 (j:Int)) (.cons (aN.v d) (.cons (aS.v k) .nil))))) (aeG l i j d k):=by
 obtain⟨hi,hj,hw⟩:=h;have ei:l.getD i QU=l[i]:=by rw [List.getD_eq_getElem?_getD,List.getElem?_eq_getElem hi];rfl
 have ej:l.getD j QU=l[j]:=by rw [List.getD_eq_getElem?_getD,List.getElem?_eq_getElem hj];rfl
 unfold aeG Vs;rw [ei,ej];refine PF.go af ae [Vq] (fn:=f24) rfl rfl rfl (hpure:= .cons (aV (mR l)) (.cons .int (.cons .int (.cons (aN.ak _) (.cons .int .nil))))) λB0 hc=>?_;conv=>whnf
 repeat(first|(refine nw ?_;conv=>whnf)|(refine⟨_,rfl,?_⟩;conv=>whnf))
 refine aG.go i rfl hi (aB ?_);refine⟨_,bc.rd rfl hi,aB ?_⟩;repeat(first|(refine nw ?_;conv=>whnf)|(refine⟨_,rfl,?_⟩;conv=>whnf))
 refine aG.go j rfl hj (aB ?_);refine⟨_,bc.rd rfl hj,aC ?_⟩;refine cg [Vq] 0 Vq (l[i],l[j],d,k) hw (aB ?_) (hl:=nd1);repeat(first|(refine nw ?_;conv=>whnf)|(refine nw ?_ ⟨_,bc.rd (P:=prog) rfl hi,bc.rd (P:=prog) rfl hi⟩;conv=>whnf)|(refine nw ?_ ⟨_,bc.rd (P:=prog) rfl hj,bc.rd (P:=prog) rfl hj⟩;conv=>whnf))
 cases hw2:(Ak l[i] l[j] d k).2 with
 |true=>
  refine aC ?_;exact .aO (.cons (.agg (.cons (.pure .int) (.cons (.pure .int) (.cons (.pure .int) (.cons (.pure .int) (.cons (.pure (aR.ak _)) .nil)))))) (.cons (.pure .bool) .nil))
 |false=>
  refine aC ?_;exact .aO (.cons (.agg (.cons (.pure .int) (.cons (.pure .int) (.cons (.pure .int) (.cons (.pure .int) (.cons (.pure (aR.ak _)) .nil)))))) (.cons (.pure .bool) .nil))
def EL (a:jg):AV:=match aU (bG ((sB a).e (tg a)) 0)with
 |true=> .aO (.cons .eZ (.cons (.int .i64 ((sB a).e (tg a))) .nil))|false=> .aO (.cons (Al (dv a)) (.cons (.int .i64 0) .nil))
def aeH:List (Cn prog):=[NB,mQ]
theorem OP.e0 {o:OP} {e:Int} (h:aU (bG (o.e e) 0)=false):e=0:=by
 cases hb:bG (o.e e) 0 with
 |false=>rw [hb]at h;cases h|true=>
  have h:=bw.1 hb;cases o with
  |none=>exact h|some z=>exact absurd h (show(25:Int)≠0 by decide)
theorem aeI (a:jg) (h:HJ a):PF prog 15 (.cons (eF.v a) .nil) (EL a):=by
 refine PF.go af ae aeH (fn:=f15) rfl rfl rfl λB0 hc=>?_;unfold EL;conv=>whnf
 refine cg aeH 0 NB a h (aC ?_);refine an (λk1=>?_) (λk1=>?_)
 .have k1:aU (bG ((sB a).e (tg a)) 0)=true:=k1;rw [k1];refine aC ?_;exact aj.pure (.aO (.cons .eZ (.cons .int .nil)))
 .have k1:aU (bG ((sB a).e (tg a)) 0)=false:=k1;have hz:=OP.e0 k1;rw [k1];refine aC ?_;refine ch (l:=aeH) (by decide) 1 (c:=mQ) rfl a h.pl (v:= .aO (.cons (bc.list.v (dv a)) (.cons (aS.v 0) .nil))) (by show AV.aO (.cons (bc.list.v (dv a)) (.cons (aS.v (tg a)) .nil))=_;rw [hz]) (hk:=?_);refine aC ?_;exact .aO (.cons (.ptr rfl rfl (.pure (bc.list.fN _ .nil))) (.cons (.pure .int) .nil))
theorem aac (a:jg):cL (EL a):=by
 unfold EL;split
 .exact .aO (.cons .eZ (.cons .int .nil))
 .exact .aO (.cons (aV (mR _)) (.cons .int .nil))
def KV:Cn prog:=Cn.mk 15 false jg (λa=> .cons (eF.v a) .nil) EL HJ (λa b _ _ h=>by injection h with h1 _;rw [eF.aZ h1]) (λa=>⟨eF.eK _,aA⟩) aac (λh=>by cases h) aeI (au rfl rfl)
end
section
structure GS (s:cW):Prop where
 v0:0<s.1.length
 v1:s.1.length<=16
 v:∀x∈s.1,Bv 25 15 x
 f0:0<s.2.1.length
 f1:s.2.1.length<=10
 f:∀x∈s.2.1,Bv 66 80 x.1/\x.2.2.length<=16/\∃i:Nat,i<s.1.length/\x.2.2.head?=some (i:Int)
 z:∃x∈s.2.1,dP x.1=false
 e1:s.2.2.length<=12
 e:∀x∈s.2.2,(∃i:Nat,x.1=(i:Int)/\i<s.1.length)/\∃j:Nat,x.2.1=(j:Int)/\j<s.1.length
variable {s s':cW} {l:List Q3} {v n d:Q3}
theorem EM {i:Nat} (h:∀x∈l,Bv 25 15 x):Bv 25 15 (l.getD i z3):=by
 rcases Nat.lt_or_ge i l.length with k|k
 .rw [show l.getD i z3=l[i] by simp [List.getD,k]];exact h _ (List.getElem_mem k)
 .rw [show l.getD i z3=z3 by simp [List.getD,k]];exact Ho.mono (by decide) (by decide)
theorem ahi (h:∀x∈l,Bv 25 15 x) (e:WV) (hi:∃i:Nat,e.1=(i:Int)/\i<l.length) (hj:∃j:Nat,e.2.1=(j:Int)/\j<l.length):MF l e/\Bv 301 166 (kV l e):=by
 obtain⟨s1,t1⟩:=Hp 40 (EM (i:=e.2.1.toNat) h) (EM (i:=e.1.toNat) h) (by decide) (by decide) (by decide) (by decide) (by decide) (by decide);obtain⟨s2,t2⟩:=rA t1 (by decide) (by decide);obtain⟨s3,t3⟩:=MP t2 (by decide) (by decide);refine⟨⟨hi,hj,s1,s2,mK t2 Ho (by decide) (by decide) (by decide) (by decide),s3⟩,?_⟩;unfold kV;split
 .exact t3.mono (by decide) (by decide)
 .exact t2.mono (by decide) (by decide)
theorem GS.dir (h:GS s):zO s/\∀x∈dK s,Bv 301 166 x:=by
 have key:∀e∈s.2.2,MF s.1 e/\Bv 301 166 (kV s.1 e):=λe he=>ahi h.v e (h.e e he).1 (h.e e he).2;refine⟨⟨Nat.le_trans h.e1 (by decide),λq hq=>(key _ (List.getElem_mem hq)).1,λp q hp hq=>mK (key _ (List.getElem_mem hp)).2 (key _ (List.getElem_mem hq)).2 (by decide) (by decide) (by decide) (by decide)⟩,λx hx=>?_⟩;rcases(mf s.1 s.2.2 []).1 x hx with k|⟨e,he,rfl⟩
 .cases k
 .exact(key e he).2
theorem GS.dn (h:GS s):(dK s).length<=12:=Nat.le_trans (mf s.1 s.2.2 []).2 (by show 0+s.2.2.length<=12;have:=h.e1;omega)
def VA (v:Q3):Prop:=Bv 935 664 v
def VN (v:Q3):Prop:=Bv 6527 3596 v
theorem GS.nv (h:GS s) {x:lQ} (hx:x∈s.2.1):VA x.1:=(h.f x hx).1.mono (by decide) (by decide)
theorem GS.cr (h:GS s) (h':GS s') {x y:Q3} (hx:x∈dK s) (hy:y∈dK s'):pN x y/\VA (aI x y):=by
 obtain⟨a,b⟩:=Qp (h.dir.2 x hx) (h'.dir.2 y hy) (by decide) (by decide) (by decide);exact⟨a,b.mono (by decide) (by decide)⟩
theorem abE (h:GS s) (h':GS s'):∀v∈Uj s s',VA v:=λv hv=>by
 rcases List.mem_append.1 hv with k|k
 .obtain⟨f,hf,rfl⟩:=List.mem_map.1 k;rcases List.mem_append.1 hf with g|g
  .exact h.nv g
  .exact h'.nv g
 .obtain⟨x,hx,k⟩:=List.mem_flatMap.1 k;obtain⟨y,hy,rfl⟩:=List.mem_map.1 k;exact(h.cr h' hx hy).2
theorem VA.ax (h:VA v):KA v/\VN (aP v)/\VN (oV (aP v)):=by
 obtain⟨p1,q1⟩:=rA h (by decide) (by decide);obtain⟨p2,q2⟩:=MP q1 (by decide) (by decide);exact⟨⟨p1,λ_=>⟨ya q1 (by decide) (by decide),p2,ya q2 (by decide) (by decide)⟩⟩,q1.mono (by decide) (by decide),q2.mono (by decide) (by decide)⟩
section
variable {κ β:Type} [DecidableEq κ]
theorem HL {k:κ}:∀{l:List (κ×β)} {i:Nat} {x:Nat×β},wi k l i=some x ->∃q,x.1=i+q/\∃h:q<l.length,l[q].1=k
 |[],i,x,h=>by cases h
 |y::l,i,x,h=>by
  unfold wi at h;split at h
  .rename_i e;injection h with h;subst h;exact⟨0,rfl,by simp,(of_decide_eq_true e).symm⟩
  .obtain⟨q,h1,h2,h3⟩:=HL h;exact⟨q+1,by omega,by simpa using h2,by simpa using h3⟩
theorem Vt {k:κ}:∀{l:List (κ×β)} {i:Nat},wi k l i=none ->k ∉ l.map (·.1)
 |[],i,h=>by simp
 |y::l,i,h=>by
  unfold wi at h;split at h
  .cases h
  .rename_i e;have:=Vt h;have e:=of_decide_eq_false e;rw [List.map_cons,List.mem_cons];rintro (g|g)
   .exact e g
   .exact this g
theorem EN {k:κ} {b:β} {l:List (κ×β)} (h:(l.map (·.1)).Nodup):((nZ k b l).map (·.1)).Nodup/\(∀x∈nZ k b l,x=(k,b)\/x∈l)/\(nZ k b l).length<=l.length+1/\nZ k b l≠[]:=by
 unfold nZ;cases e:wi k l 0 with
 |none=>
  refine⟨?_,λx hx=>?_,by simp,by simp⟩
  .show((l++[(k,b)]).map (·.1)).Nodup;rw [List.map_append];exact List.nodup_append.2 ⟨h,List.nodup_cons.2 ⟨List.not_mem_nil,List.nodup_nil⟩,λx hx y hy g=>Vt e ((g.trans (List.mem_singleton.1 hy):x=k) ▸ hx)⟩
  .rcases List.mem_append.1 hx with g|g
   .exact .inr g
   .exact .inl (List.mem_singleton.1 g)
 |some x=>
  obtain⟨q,h1,h2,h3⟩:=HL e;have h1:x.1=q:=by omega
  refine⟨?_,λy hy=>?_,?_,?_⟩
  .show((l.set x.1 (k,b)).map (·.1)).Nodup;have g:(l.set x.1 (k,b)).map (·.1)=l.map (·.1):=by
    rw [List.map_set,h1,<-h3];exact List.ext_getElem (by simp) λi a c=>by
     rw [List.getElem_set];split
     .rename_i j;subst j;simp
     .rfl
   rw [g];exact h
  .rcases List.mem_or_eq_of_mem_set hy with g|g
   .exact .inr g
   .exact .inl g
  .show(l.set x.1 (k,b)).length<=_;rw [List.length_set];omega
  .show l.set x.1 (k,b)≠[];intro g;have:=congrArg List.length g;rw [List.length_set]at this;have:l.length=0:=this;omega
end
theorem Vu {κ β:Type}:∀{l:List (κ×β)},(l.map (·.1)).Nodup ->∀{x y},x∈l ->y∈l ->x.1=y.1 ->x=y
 |[],_,x,y,hx,_,_=>by cases hx
 |z::l,h,x,y,hx,hy,e=>by
  obtain⟨h1,h2⟩:=List.nodup_cons.1 h;rcases List.mem_cons.1 hx with g|g
  .rcases List.mem_cons.1 hy with k|k
   .rw [g,k]
   .exact absurd (List.mem_map.2 ⟨y,k,by rw [<-e,g]⟩) h1
  .rcases List.mem_cons.1 hy with k|k
   .exact absurd (List.mem_map.2 ⟨x,g,by rw [e,k]⟩) h1
   .exact Vu h2 g k e
structure AI (l:ML):Prop where
 nd:(l.map (·.1)).Nodup
 p:∀x∈l,x.1=jz x.2/\N3 x.2/\VN x.2
theorem AI.set {l:ML} (h:AI l) (hn:N3 v) (hb:VN v):AI (nZ (jz v) v l):=by
 obtain⟨h1,h2,_,_⟩:=EN (k:=jz v) (b:=v) h.nd;refine⟨h1,λx hx=>?_⟩;rcases h2 x hx with rfl|g
 .exact⟨rfl,hn,hb⟩
 .exact h.p x g
theorem AI.add {l:ML} (h:AI l) (hv:VA v):AI (cD l v)/\(cD l v).length<=l.length+2/\(l≠[]\/dP v=false ->cD l v≠[]):=by
 unfold cD;split
 .rename_i e;refine⟨h,by omega,λg=>?_⟩;rcases g with g|g
  .exact g
  .rw [e]at g;cases g
 .have k1:=h.set adZ hv.ax.2.1;have m1:=EN (k:=jz (aP v)) (b:=aP v) h.nd;have m2:=EN (k:=jz (oV (aP v))) (b:=oV (aP v)) k1.nd;exact⟨k1.set agI hv.ax.2.2,by omega,λ_=>m2.2.2.2⟩
theorem AI.go:∀{vs:List Q3} {l:ML},AI l ->(∀v∈vs,VA v) ->AI (vs.foldl cD l)/\(vs.foldl cD l).length<=l.length+2*vs.length/\((l≠[]\/∃v∈vs,dP v=false) ->vs.foldl cD l≠[])
 |[],l,h,_=>⟨h,by simp,λg=>by
  rcases g with g|⟨v,hv,_⟩
  .exact g
  .cases hv⟩
 |v::vs,l,h,hv=>by
  obtain⟨a1,a2,a3⟩:=h.add (hv v (List.mem_cons_self ..));obtain⟨b1,b2,b3⟩:=AI.go (vs:=vs) a1 λx hx=>hv x (List.mem_cons_of_mem _ hx);refine⟨b1,?_,λg=>b3 ?_⟩
  .show(vs.foldl cD (cD l v)).length<=l.length+2*(vs.length+1);omega
  .rcases g with g|⟨w,hw,e⟩
   .exact .inl (a3 (.inl g))
   .rcases List.mem_cons.1 hw with rfl|hw
    .exact .inl (a3 (.inr e))
    .exact .inr ⟨w,hw,e⟩
theorem ahj (h:GS s) (h':GS s'):AI (Hn s s')/\(Hn s s').length<=1000/\Hn s s'≠[]:=by
 obtain⟨a,b,c⟩:=AI.go (vs:=Uj s s') (l:=[]) ⟨List.nodup_nil,λx hx=>by cases hx⟩ (abE h h');obtain⟨f,hf,e⟩:=h.z;refine⟨a,?_,c (.inr ⟨f.1,List.mem_append_left _ (List.mem_map_of_mem (List.mem_append_left _ hf)),e⟩)⟩;have hl:(Uj s s').length<=164:=by
  unfold Uj;rw [List.length_append,List.length_map,List.length_append];have k:∀(X:List Q3),X.length<=12 ->(X.flatMap λx=>(dK s').map λy=>aI x y).length<=X.length*12:=λX _=>by
   rw [List.length_flatMap];induction X with
   |nil=>simp|cons x X ih=>
    have:=ih (by simp at*;omega);have h2:=h'.dn;simp only [List.map_cons,List.sum_cons,List.length_map,List.length_cons]at*;omega
  have:=k (dK s) h.dn;have:=h.dn;have:=h.f1;have:=h'.f1;omega
 have:(Hn s s').length<=0+2*(Uj s s').length:=b;omega
theorem EO (h:GS s) (h':GS s'):zT s s'/\∀n∈pS s s',VN n:=by
 obtain⟨a,b,c⟩:=ahj h h';have hf0:=h.f0;have hf1:=h.f1;have hf2:=h'.f1;refine⟨⟨by rw [List.length_append];omega,by rw [List.length_append];omega,h.dir.1,h'.dir.1,λx hx y hy=>(h.cr h' hx hy).1,λv hv=>(abE h h' v hv).ax.1,c,by omega,λx hx=>(a.p x hx).2.1.int,λx hx y hy e=>?_,λx hx y hy=>mK (a.p x hx).2.2 (a.p y hy).2.2 (by decide) (by decide) (by decide) (by decide)⟩,λn hn=>?_⟩
 .have k:=ad2 (a.p x hx).2.1 (a.p y hy).2.1 e;rw [<-(a.p x hx).1,<-(a.p y hy).1]at k;rw [Vu a.nd hx hy k]
 .obtain⟨x,hx,rfl⟩:=List.mem_map.1 ((kT oT _).subset hn);exact(a.p x hx).2.2
theorem NL (hn:VN n):∀(l:List Q3) (q:Nat) (p:Q×Q),(∀x∈l,Bv 25 15 x) ->(0<q ->Bq 17389 10834 p.1/\Bq 17389 10834 p.2) ->Hc n q l p/\(0<q\/0<l.length ->Bq 17389 10834 (oR n q l p).1/\Bq 17389 10834 (oR n q l p).2)
 |[],q,p,_,hp=>⟨aA,λh=>hp (h.resolve_right (by simp))⟩
 |v::l,q,p,hl,hp=>by
  obtain⟨d1,d2⟩:=pT hn (hl v (List.mem_cons_self ..)) (by decide) (by decide) (by decide);have hs:Bq 17389 10834 (eE n q v p).1/\Bq 17389 10834 (eE n q v p).2:=by
   unfold eE;cases e:bG (q:Int) 0 with
   |true=>exact⟨d2,d2⟩|false=>
    have hq:0<q:=by
     rcases Nat.eq_zero_or_pos q with g|g
     .subst g;cases e
     .exact g
    refine⟨?_,?_⟩
    .show Bq _ _ (match dj (Q.cmp (cQ n v) p.1) 0 with|true=>cQ n v|false=>p.1);split
     .exact d2
     .exact(hp hq).1
    .show Bq _ _ (match dj 0 (Q.cmp (cQ n v) p.2)with|true=>cQ n v|false=>p.2);split
     .exact d2
     .exact(hp hq).2
  obtain⟨e1,e2⟩:=NL hn l (q+1) (eE n q v p) (λx hx=>hl x (List.mem_cons_of_mem _ hx)) λ_=>hs;refine⟨⟨d1,λe=>?_,e1⟩,λ_=>e2 (.inl (by omega))⟩;have hq:0<q:=by
   rcases Nat.eq_zero_or_pos q with g|g
   .subst g;cases e
   .exact g
  exact⟨jV d2 (hp hq).1 (by decide) (by decide) (by decide) (by decide),jV d2 (hp hq).2 (by decide) (by decide) (by decide) (by decide)⟩
theorem GS.ext (h:GS s) (hn:VN n):Cm s n/\Bq 17389 10834 (gp s n).1/\Bq 17389 10834 (gp s n).2:=by
 obtain⟨a,b⟩:=NL hn s.1 0 ((0,0),(0,0)) h.v (λe=>absurd e (by decide));exact⟨⟨Nat.le_trans h.v1 (by decide),a⟩,b (.inr h.v0)⟩
theorem abF (h:GS s) (h':GS s') (hn:VN n):Hs s s' n/\Bq 28224 21668 (gE s s' n):=by
 obtain⟨a1,a2,a3⟩:=h.ext hn;obtain⟨b1,b2,b3⟩:=h'.ext hn;obtain⟨c1,c2⟩:=Q.zV 28223 b2 a3 (by decide) (by decide) (by decide) (by decide) (by decide) (by decide);exact⟨⟨a1,b1,c1⟩,c2⟩
theorem KX (h:GS s) (h':GS s'):wz s s':=⟨(EO h h').1,λn hn=>(abF h h' ((EO h h').2 n hn)).1⟩
theorem ahk (h:GS s) (h':GS s'):td s s':=by
 have hf1:=h.f1;have hf2:=h'.f1;have PN:=h.dn;have QO:=h'.dn;refine⟨by omega,by omega,h.dir.1,h'.dir.1,by omega,by omega,λx hx y hy=>⟨(h.cr h' hx hy).1,mK (h.cr h' hx hy).2 Ho (by decide) (by decide) (by decide) (by decide)⟩,λn hn=>?_⟩;have hv:VA n:=by
  rcases List.mem_append.1 hn with g|g
  .obtain⟨f,hf,rfl⟩:=List.mem_map.1 g;exact h.nv hf
  rcases List.mem_append.1 g with g|g
  .obtain⟨f,hf,rfl⟩:=List.mem_map.1 g;exact h'.nv hf
  .obtain⟨x,hx,g⟩:=List.mem_flatMap.1 g;obtain⟨y,hy,rfl⟩:=List.mem_map.1 (List.mem_filter.1 g).1;exact(h.cr h' hx hy).2
 have hv:VN n:=hv.mono (by decide) (by decide);obtain⟨a1,a2,a3⟩:=h.ext hv;obtain⟨b1,b2,b3⟩:=h'.ext hv;exact⟨a1,b1,jV a2 b3 (by decide) (by decide) (by decide) (by decide),jV b2 a3 (by decide) (by decide) (by decide) (by decide)⟩
def Bb (x:yg):Prop:=x.2=true ->Bq 40000 40000 x.1
theorem Vv {p q:Q} {a b:Nat} (hp:Bq a b p) (hq:Bq a b q):Bq a b (Q.max p q)/\Bq a b (Q.min p q):=by
 unfold Q.max Q.min;constructor<;>split<;>assumption
theorem abG {f:Q ->Q ->Q} (hf:∀{p q:Q},Bq 40000 40000 p ->Bq 40000 40000 q ->Bq 40000 40000 (f p q)) {x:yg} {p:Q} (hx:Bb x) (hp:Bq 40000 40000 p):Bb (AA f x p):=λ_=>by
 unfold AA;show Bq 40000 40000 (match x.2 with|true=>f x.1 p|false=>p);cases e:x.2 with
 |true=>exact hf (hx e) hp|false=>exact hp
theorem aad (h:GS s) (h':GS s') (hd:Bv 8 2 d):∀(l:List Q3) (f t:yg),(∀n∈l,VN n) ->Bb f ->Bb t ->KN s s' d l f t/\∀x,um s s' d l f t=some x ->Bb x.1/\Bb x.2
 |[],f,t,_,hf,ht=>⟨λa b=>jV (hf a) (ht b) (by decide) (by decide) (by decide) (by decide),λx e=>by injection e with e;subst e;exact⟨hf,ht⟩⟩
 |n::l,f,t,hl,hf,ht=>by
  have hn:=hl n (List.mem_cons_self ..);have yE:∀n∈l,VN n:=λx hx=>hl x (List.mem_cons_of_mem _ hx);obtain⟨g1,g2⟩:=abF h h' hn;obtain⟨d1,d2⟩:=pT hn hd (by decide) (by decide) (by decide);obtain⟨v1,v2⟩:=MQ g2 d2 (by decide) (by decide) (by decide) (by decide);have v2:Bq 40000 40000 (Q.div (gE s s' n) (cQ n d)):=v2.mono (by decide) (by decide);unfold KN um;cases bG (cQ n d).1.sign 0 with
  |true=>
   dsimp only;cases gg 0 (gE s s' n).1.sign with
   |true=>exact⟨⟨⟨g1,d1⟩,aA⟩,λx e=>by cases e⟩|false=>
    obtain⟨a,b⟩:=aad h h' hd l f t yE hf ht;exact⟨⟨⟨g1,d1⟩,a⟩,b⟩
  |false=>
   dsimp only;cases bG (cQ n d).1.sign 1 with
   |true=>
    obtain⟨a,b⟩:=aad h h' hd l _ t yE (abG (f:=Q.max) (λp q=>(Vv p q).1) hf v2) ht;exact⟨⟨⟨g1,d1⟩,v1,λe=>jV v2 (hf e) (by decide) (by decide) (by decide) (by decide),a⟩,b⟩
   |false=>
    obtain⟨a,b⟩:=aad h h' hd l f _ yE hf (abG (f:=Q.min) (λp q=>(Vv p q).2) ht v2);exact⟨⟨⟨g1,d1⟩,v1,λe=>jV v2 (ht e) (by decide) (by decide) (by decide) (by decide),a⟩,b⟩
end
section
def tr (t x:V3):V3:=(x.1+t.1,x.2.1+t.2.1,x.2.2+t.2.2)
theorem xr (t x y:V3):bU (tr t x) (tr t y)=bU x y:=by
 have e:∀a b c:Int,Int.sub (a+c) (b+c)=Int.sub a b:=λa b c=>by show a+c - (b+c)=a - b;omega
 show(Cd (Int.sub (x.1+t.1) (y.1+t.1)),Cd (Int.sub (x.2.1+t.2.1) (y.2.1+t.2.1)),Cd (Int.sub (x.2.2+t.2.2) (y.2.2+t.2.2)))=_;rw [e,e,e];rfl
theorem HM (t n o:V3):∀(l:List V3) (m:Nat) (s:Nat×Bool×Bool),iM n (tr t o) m (l.map (tr t)) s=iM n o m l s
 |[],_,_=>rfl|p::l,m,s=>by
  show iM n (tr t o) (m+1) (l.map (tr t)) (dO n (tr t o) m (tr t p) s)=iM n o (m+1) l (dO n o m p s);have e:dO n (tr t o) m (tr t p) s=dO n o m p s:=by unfold dO;rw [xr]
  rw [e,HM]
variable {l:List V3} {t:V3}
theorem aae (a b c:V3):gm (l.map (tr t)) (tr t a) (tr t b) (tr t c)=gm l a b c:=by
 unfold gm Tm;rw [xr,xr,HM]
theorem An {i:Nat} (h:i<l.length):(l.map (tr t)).getD i (0,0,0)=tr t (l.getD i (0,0,0)):=by
 simp [List.getD,h]
theorem Vw {i j k:Nat} (o:Pl) (hi:i<l.length) (hj:j<l.length) (hk:k<l.length):oh (l.map (tr t)) i j k o=oh l i j k o:=by
 unfold oh;rw [An hi,An hj,An hk,aae]
theorem abH {i j:Nat} (hi:i<l.length) (hj:j<l.length):∀(r k:Nat) (o:Pl),k+r<=l.length ->Qq (l.map (tr t)) i j r k o=Qq l i j r k o
 |0,_,_,_=>rfl|r+1,k,o,h=>by
  show Qq (l.map (tr t)) i j r (k+1) (oh (l.map (tr t)) i j k o)=Qq l i j r (k+1) (oh l i j k o);rw [Vw o hi hj (by omega),abH hi hj r (k+1) _ (by omega)]
theorem abI {i:Nat} (hi:i<l.length):∀(r j:Nat) (o:Pl),j+r<=l.length ->Hq (l.map (tr t)) i r j o=Hq l i r j o
 |0,_,_,_=>rfl|r+1,j,o,h=>by
  show Hq (l.map (tr t)) i r (j+1) (Qq (l.map (tr t)) i j j 0 o)=Hq l i r (j+1) (Qq l i j j 0 o);rw [abH hi (by omega) j 0 o (by omega),abI hi r (j+1) _ (by omega)]
theorem abJ:∀(r i:Nat) (o:Pl),i+r<=l.length ->Ff (l.map (tr t)) r i o=Ff l r i o
 |0,_,_,_=>rfl|r+1,i,o,h=>by
  show Ff (l.map (tr t)) r (i+1) (Hq (l.map (tr t)) i i 0 o)=Ff l r (i+1) (Hq l i i 0 o);rw [abI (by omega) i 0 o (by omega),abJ r (i+1) _ (by omega)]
theorem Vx:dq (l.map (tr t))=dq l:=by
 unfold dq;rw [List.length_map,abJ _ _ _ (by omega)]
theorem KY (n last:V3) (li i nx:Int):kW (l.map (tr t)) n (tr t last) li i nx=kW l n last li i nx:=by
 unfold kW;rw [List.getElem?_map,List.getElem?_map];cases l[nx.toNat]? with
 |none=>rfl|some a=>
  cases l[i.toNat]? with
  |none=>rfl|some b=>
   dsimp only [Option.map];rw [xr,xr]
theorem HN (n last:V3) (li:Int):∀(on:List Int) (nx:Int),iO (l.map (tr t)) n (tr t last) li on nx=iO l n last li on nx
 |[],_=>rfl|i::r,nx=>by
  unfold iO;rw [KY,show iO (l.map (tr t)) n (tr t last) li r=iO l n last li r from funext λx=>HN n last li r x]
theorem ahl (i:Int):YW (l.map (tr t)) i=(YW l i).map (tr t):=by
 unfold YW;cases gg 0 i with
 |true=>exact List.getElem?_map ..|false=>rfl
theorem HO (n:V3) (on:List Int) (i0:Int):∀(f:Nat) (out:List Int),jT (l.map (tr t)) n on i0 f out=jT l n on i0 f out
 |0,_=>rfl|f+1,out=>by
  unfold jT;cases out.getLast? with
  |none=>rfl|some li=>
   dsimp only;rw [ahl];cases YW l li with
   |none=>rfl|some last=>
    dsimp only [Option.map];rw [HN];cases iO l n last li on (-1)with
    |none=>rfl|some nx=>dsimp only;rw [HO n on i0 f]
theorem aaf (n:V3) (m:Nat):nJ (l.map (tr t)) n m=nJ l n m:=by
 unfold nJ;cases rv 9 m []with
 |none=>rfl|some on=>
  cases on with
  |nil=>rfl|cons i r=>dsimp only;rw [List.length_map,HO]
theorem CA:∀(p:Pl) (e:Nat) (acc:List Fc),gL (l.map (tr t)) p e acc=gL l p e acc
 |[],_,_=>rfl|p::r,e,acc=>by
  unfold gL;rw [aaf];cases (gg 0 p.2 &&dj p.2 256)with
  |false=>rfl|true=>
   cases nJ l p.1 p.2.toNat with
   |none=>rfl|some x=>
    dsimp only;cases xn x e with
    |none=>rfl|some e'=>exact CA r e' _
theorem EP:il (l.map (tr t))=il l:=by
 unfold il;rw [List.length_map,Vx,CA]
theorem ahm {i j k:Nat} (hi:i<l.length) (hj:j<l.length) (hk:k<l.length):EA (l.map (tr t)) i j k=EA l i j k:=by
 unfold EA;rw [An hi,An hj,An hk,xr,xr]
theorem abK {i j:Nat} (hi:i<l.length) (hj:j<l.length):∀(r k:Nat),k+r<=l.length ->Zy (l.map (tr t)) i j r k=Zy l i j r k
 |0,_,_=>rfl|r+1,k,h=>by
  unfold Zy;have e:∀n,(l.map (tr t)).any (vE (l.map (tr t)) n i)=l.any (vE l n i):=λn=>by
   rw [List.any_map];congr 1;funext p;show vE (l.map (tr t)) n i (tr t p)=vE l n i p;unfold vE;rw [An hi,xr]
  rw [ahm hi hj (by omega),abK hi hj r (k+1) (by omega),e]
theorem abL {i:Nat} (hi:i<l.length):∀(r j:Nat),j+r<=l.length ->QT (l.map (tr t)) i r j=QT l i r j
 |0,_,_=>rfl|r+1,j,h=>by
  unfold QT;rw [abK hi (by omega) j 0 (by omega),abL hi r (j+1) (by omega)]
theorem abM:∀(r i:Nat),i+r<=l.length ->Nk (l.map (tr t)) r i=Nk l r i
 |0,_,_=>rfl|r+1,i,h=>by
  unfold Nk;rw [abL (by omega) i 0 (by omega),abM r (i+1) (by omega)]
theorem aeJ:kl (l.map (tr t))=kl l:=by
 unfold kl;rw [List.length_map,abM _ _ (by omega)]
theorem qg:gM (l.map (tr t))=gM l:=by unfold gM;rw [EP]
theorem aeK (x y:V3):ui (l3 (tr t x)) (l3 (tr t y))=ui (l3 x) (l3 y):=by
 have e:∀a b c:Int,qk (a+c) (b+c)=qk a b:=λa b c=>by
  have k:∀x y:Int,dj (x+c) (y+c)=dj x y:=λx y=>by
   cases h:dj x y with
   |true=>exact aQ.2 (by have:=aQ.1 h;omega)|false=>exact bf.2 (by have:=bf.1 h;omega)
  unfold qk;rw [k,k]
 show(match bG (qk (x.1+t.1) (y.1+t.1)) 0 with|true=>(match bG (qk (x.2.1+t.2.1) (y.2.1+t.2.1)) 0 with|true=>(match bG (qk (x.2.2+t.2.2) (y.2.2+t.2.2)) 0 with|true=>0|false=>qk (x.2.2+t.2.2) (y.2.2+t.2.2))|false=>qk (x.2.1+t.2.1) (y.2.1+t.2.1))|false=>qk (x.1+t.1) (y.1+t.1))=_;rw [e,e,e];rfl
end
end
end Go.Sy
