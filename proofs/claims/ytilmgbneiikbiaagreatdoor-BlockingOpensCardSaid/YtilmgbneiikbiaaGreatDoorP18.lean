/- A piece of the proof, made small by a program of ours. -/
import Derived.Test.YtilmgbneiikbiaaGreatDoorP11
import Derived.Test.YtilmgbneiikbiaaGreatDoorP17
set_option linter.all false
set_option maxRecDepth 1000000
set_option maxHeartbeats 0
namespace Go.Sy
noncomputable section
open Go.RowKit Go.Proofs Go.Proofs.Tryz
section
attribute [local irreducible] Cw ak bq PF Sub
attribute [local instance] bZ
def yc (s t:Int):Int:=Bool.casesOn (motive:=λ_=>Int) (cQ s t) s t
def Bi:List (dh×dh) ->Int ->Int
 |[],s=>s|p::l,s=>match bD (yc s (ew p.1 p.2)) 3 with|true=>yc s (ew p.1 p.2)|false=>Bi l (yc s (ew p.1 p.2))
def prs (a b:fA):List (dh×dh):=a.2.flatMap λx=>b.2.map λy=>(x,y)
def iJ (a b:fA):Int:=Bi (prs a b) 1
structure nD (a b:fA):Prop where
 na:a.2.length<=1000000
 nb:b.2.length<=1000000
 s:∀x∈a.2,∀y∈b.2,wA x y
theorem QD (a b:fA) (h:nD a b):PF prog 79 (.cons (bM.v a) (.cons (bM.v b) .nil)) ((au .i64).v (iJ a b)):=by
 obtain⟨da,X⟩:=a;obtain⟨db,Y⟩:=b;obtain⟨hX,hY,hs⟩:=h;have hX:X.length<=1000000:=hX;have hY:Y.length<=1000000:=hY;have hs:∀x∈X,∀y∈Y,wA x y:=hs;refine PF.go af ae [mK] (fn:=f79) rfl rfl rfl λB0 hc=>?_;have kO:([mK].map Cn.f).Nodup:=List.nodup_cons.2 ⟨List.not_mem_nil,List.nodup_nil⟩;obtain⟨W,hW⟩:∃W,W=iJ (da,X) (db,Y):=⟨_,rfl⟩
 rw [<-hW];conv=>whnf
 refine Cw.lp (σ:=Int) af rfl rfl hc X.length (λq s=>[(2,.ptr (pathOf 64) 0),(3,.ptr (pathOf 65) 0),(5,.int .i64 s),(11,aN.list.v X),(12,.int .i64 (X.length:Int)),(13,.int .i64 (q:Int))])
  (λq s=>hp [(64,cl [.int .i64 da,aN.list.v X]),(65,cl [.int .i64 db,aN.list.v Y])] 66) (λq s=>Bi ((X.drop q).flatMap λx=>Y.map λy=>(x,y)) s=W) 1 hW.symm (sb [(64,64),(65,65)]) (λq s hq KY=>?_)
 conv=>whnf
 refine ay (λh1=>?_) (λh1=>?_)
 .have hq:=pT h1;have cE:=pS hq (by omega);rw [List.drop_eq_getElem_cons hq,List.flatMap_cons]at KY;have As:X[q]∈X:=List.getElem_mem hq;conv=>whnf
  refine aL.go q rfl hq (aC ?_);refine⟨_,aN.rd rfl hq,aE ?_⟩;generalize X[q]=x at*;obtain⟨R,hR⟩:∃R,R=(X.drop (q+1)).flatMap λx=>Y.map λy=>(x,y):=⟨_,rfl⟩
  rw [<-hR]at KY;refine Cw.lp (σ:=Int) af rfl rfl hc Y.length (λp s=>[(2,.ptr (pathOf 64) 0),(3,.ptr (pathOf 65) 0),(5,.int .i64 s),(7,.ptr (pathOf 66) 0),(11,aN.list.v X),(12,.int .i64 (X.length:Int)),(13,.int .i64 (q:Int)),(18,aN.list.v Y),(19,.int .i64 (Y.length:Int)),(20,.int .i64 (p:Int))])
   (λp s=>hp [(64,cl [.int .i64 da,aN.list.v X]),(65,cl [.int .i64 db,aN.list.v Y]),(66,cl (od x))] 67) (λp s=>Bi (((Y.drop p).map λy=>(x,y))++R) s=W) s KY (sb [(64,64),(65,65),(66,66)]) (λp s hp fw=>?_)
  conv=>whnf
  refine ay (λh2=>?_) (λh2=>?_)
  .have hp:=pT h2;have UG:=pS hp (by omega);rw [List.drop_eq_getElem_cons hp,List.map_cons,List.cons_append]at fw;have fw:(match bD (yc s (ew x Y[p])) 3 with|true=>yc s (ew x Y[p])|false=>Bi (((Y.drop (p+1)).map λy=>(x,y))++R) (yc s (ew x Y[p])))=W:=fw;conv=>whnf
   refine aL.go p rfl hp (aC ?_);refine⟨_,aN.rd rfl hp,aE ?_⟩;refine cg [mK] 0 mK (x,Y[p]) (hs _ As _ (List.getElem_mem hp)) (aE ?_) (hl:=kO);refine ay (λh3=>?_) (λh3=>?_)
   .have h3:bD (yc s (ew x Y[p])) 3=true:=h3;rw [h3]at fw;have fw:yc s (ew x Y[p])=W:=fw;rw [<-fw];refine aE ?_;exact ak.pure .int
   .have h3:bD (yc s (ew x Y[p])) 3=false:=h3;rw [h3]at fw;refine aE ?_;exact⟨yc s (ew x Y[p]),hp,fw,sb [(64,64),(65,65),(66,66)]⟩
  .have hpe:=rN hp h2;subst hpe;rw [List.drop_length]at fw;have fw:Bi R s=W:=fw;rw [hR]at fw;refine aE ?_;exact⟨s,hq,fw,sb [(64,64),(65,65)]⟩
 .have Iu:=rN hq h1;subst Iu;rw [List.drop_length]at KY;have KY:s=W:=KY;rw [<-KY];refine aE ?_;exact ak.pure .int
def Cp:Cn prog:= .kP bM bM (au .i64) 79 false nD iJ (λe=>by cases e) QD (aw rfl rfl)
theorem sW {h:Heap} {t u:AV} (k:bq h t u):bq h (.cons (.bool false) (.cons .bt (.cons (.bool false) (.cons .bt t)))) (.cons (.bool false) (.cons (aM.v 0) (.cons (.bool false) (.cons (aM.v 0) u)))):=
 .cons (.pure .bool) (.cons .bt (.cons (.pure .bool) (.cons .bt k)))
def uf (a b:dh) (d:Q3):List Q3 ->xY ->xY ->Option (xY×xY)
 |[],f,t=>some (f,t)|n::l,f,t=>match bD (bw n d).1.sign 0 with
  |true=>(match gD 0 (dI a b n).1.sign with|true=>none|false=>uf a b d l f t)
  |false=>match bD (bw n d).1.sign 1 with
   |true=>uf a b d l (Aw Q.max f (Q.div (dI a b n) (bw n d))) t|false=>uf a b d l f (Aw Q.min t (Q.div (dI a b n) (bw n d)))
def KZ (a b:dh) (d:Q3):List Q3 ->xY ->xY ->Prop
 |[],f,t=>f.2=true ->t.2=true ->dt f.1 t.1|n::l,f,t=>(HA a b n/\oG n d)/\(match bD (bw n d).1.sign 0 with
  |true=>(match gD 0 (dI a b n).1.sign with|true=>True|false=>KZ a b d l f t)
  |false=>Uj (dI a b n) (bw n d)/\(match bD (bw n d).1.sign 1 with
   |true=>(f.2=true ->dt (Q.div (dI a b n) (bw n d)) f.1)/\KZ a b d l (Aw Q.max f (Q.div (dI a b n) (bw n d))) t|false=>(t.2=true ->dt (Q.div (dI a b n) (bw n d)) t.1)/\KZ a b d l f (Aw Q.min t (Q.div (dI a b n) (bw n d)))))
abbrev IvR:=Q×Q×Bool×Int
def b0:xY:=((0,0),false)
def Cq (x:Option (xY×xY)):IvR:=match x with
 |none=>((0,0),(0,0),false,0)
 |some (f,t)=>match f.2 with
  |false=>((0,0),(0,0),false,0)
  |true=>match t.2 with
   |false=>((0,0),(0,0),false,0)
   |true=>match gD 0 (Q.cmp f.1 t.1)with
    |true=>((0,0),(0,0),false,0)
    |false=>(f.1,t.1,true,0)
def ivS (a b:dh) (d:Q3):IvR:=match cT d with|true=>((0,0),(0,0),false,19)|false=>Cq (uf a b d (kL a b) b0 b0)
structure agM (a b:dh) (d:Q3):Prop where
 z:rP dt d z3
 ax:zM a b
 go:cT d=false ->KZ a b d (kL a b) b0 b0
def ivV (x:IvR):AV:= .aS (.cons (aK.v x.1) (.cons (aK.v x.2.1) (.cons (bG.v x.2.2.1) (.cons ((au .i64).v x.2.2.2) .nil))))
def Vc:List (Cn prog):=[Cn.lift bZ mH,Et,Cn.lift bZ NB,Cn.lift bZ kJ,Cn.lift bZ lR,Cn.lift bZ zG,Cn.lift bZ ch]
def cIv:eL ->AV ->Heap ->CR:=fQ 105 UY (aH Vc)
theorem Vd (B0:Nat):aU prog B0 cIv:=ZF (az ae Vc B0)
theorem La (a b:dh) (d:Q3) (h:agM a b d):PF prog 53 (.cons (aN.v a) (.cons (aN.v b) (.cons (aQ.v d) .nil))) (ivV (ivS a b d)):=by
 obtain⟨hz,hax,Ir⟩:=h;refine PF.of_wp af (by decide) (fn:=f53) rfl rfl rfl (.cons (aN.an _) (.cons (aN.an _) (.cons (aQ.an _) .nil))) (call:=cIv) (λB0=>Vd B0) λB0=>?_;have hc:=Vd B0;unfold ivS;have hlen:(kL a b).length<=1000000:=by
  unfold kL;rw [(jY nU _).length_eq,List.length_map];exact hax.n
 conv=>whnf
 refine bS (by decide) (cg Vc 0 (Cn.lift bZ mH) d hz (aE ?_));refine ay (λh1=>?_) (λh1=>?_)
 .have h1:cT d=true:=h1;rw [h1];refine aE ?_;exact .aS (.cons (.agg (sW .nil)) (.cons (.agg (sW .nil)) (.cons (.pure .bool) (.cons (.pure .int) .nil))))
 .have h1:cT d=false:=h1;have Ir:=Ir h1;rw [h1];refine aE ?_;refine bS (by decide) (cg Vc 1 Et (a,b) hax (aC ?_));generalize kL a b=L at*;obtain⟨W,hW⟩:∃W,W=uf a b d L b0 b0:=⟨_,rfl⟩
  rw [<-hW];refine Cw.lp (σ:=xY×xY) af rfl rfl hc L.length (λq x=>[(3,.ptr (pathOf 64) 0),(4,.ptr (pathOf 65) 0),(5,.ptr (pathOf 66) 0),(6,.ptr (pathOf 67) 0),(7,.ptr (pathOf 68) 0),(8,.bool false),(9,.int .i64 0),(10,.ptr (pathOf 69) 0),(11,.ptr (pathOf 70) 0),(26,aQ.list.v L),(27,.int .i64 (L.length:Int)),(28,.int .i64 (q:Int))])
   (λq x=>hp [(64,cl (od a)),(65,cl (od b)),(66,cl (oc d)),(67,cl zL),(68,cl zL),(69,cl (Bg x.1)),(70,cl (Bg x.2))] 71) (λq x=>KZ a b d (L.drop q) x.1 x.2/\uf a b d (L.drop q) x.1 x.2=W) (b0,b0) ⟨Ir,hW.symm⟩ (sb [(64,64),(65,65),(66,66),(67,67),(68,68),(69,69),(70,70)]) (λq x hq hs=>?_)
  obtain⟨f,t⟩:=x;obtain⟨dA,lr⟩:=hs;conv=>whnf
  refine ay (λh3=>?_) (λh3=>?_)
  .have hq:=pT h3;have cE:=pS hq (by omega);rw [List.drop_eq_getElem_cons hq]at dA lr;obtain⟨⟨hg,hd⟩,dA⟩:=dA;have lr:(match bD (bw L[q] d).1.sign 0 with
    |true=>(match gD 0 (dI a b L[q]).1.sign with|true=>none|false=>uf a b d (L.drop (q+1)) f t)
    |false=>match bD (bw L[q] d).1.sign 1 with
     |true=>uf a b d (L.drop (q+1)) (Aw Q.max f (Q.div (dI a b L[q]) (bw L[q] d))) t|false=>uf a b d (L.drop (q+1)) f (Aw Q.min t (Q.div (dI a b L[q]) (bw L[q] d))))=W:=lr
   conv=>whnf
   refine aL.go q rfl hq (aC ?_);refine⟨_,aQ.rd rfl hq,aE ?_⟩;refine bS (by decide) (cg Vc 2 (Cn.lift bZ NB) (a,b,L[q]) hg (aE ?_));refine bS (by decide) (cg Vc 3 (Cn.lift bZ kJ) (L[q],d) hd (aE ?_));refine bS (by decide) (cg Vc 4 (Cn.lift bZ lR) (bw L[q] d) aB (aE ?_));refine ay (λh4=>?_) (λh4=>?_)
   .have h4:bD (bw L[q] d).1.sign 0=true:=h4;rw [h4]at dA lr;conv=>whnf
    refine bS (by decide) (cg Vc 4 (Cn.lift bZ lR) (dI a b L[q]) aB (aE ?_));refine ay (λh5=>?_) (λh5=>?_)
    .have h5:gD 0 (dI a b L[q]).1.sign=true:=h5;rw [h5]at lr;have lr:none=W:=lr;rw [<-lr];refine aE ?_;exact .aS (.cons (.agg (sW .nil)) (.cons (.agg (sW .nil)) (.cons (.pure .bool) (.cons (.pure .int) .nil))))
    .have h5:gD 0 (dI a b L[q]).1.sign=false:=h5;rw [h5]at dA lr;refine aE ?_;exact⟨(f,t),hq,⟨dA,lr⟩,sb [(64,64),(65,65),(66,66),(67,67),(68,68),(69,69),(70,70)]⟩
   .have h4:bD (bw L[q] d).1.sign 0=false:=h4;rw [h4]at dA lr;obtain⟨hdv,dA⟩:=dA;conv=>whnf
    refine ay (λh5=>?_) (λh5=>?_)
    .have h5:bD (bw L[q] d).1.sign 1=true:=h5;rw [h5]at dA lr;obtain⟨hcm,dA⟩:=dA;refine aE ?_;refine bS (by decide) (cg Vc 5 (Cn.lift bZ zG) (dI a b L[q],bw L[q] d) hdv (aE ?_));refine lO (F:=UY) (true,⟨a,b,d,L[q],dI a b L[q],bw L[q] d,Q.div (dI a b L[q]) (bw L[q] d)⟩,f,t) hcm (hk:=?_);refine aE ?_;exact⟨(Aw Q.max f (Q.div (dI a b L[q]) (bw L[q] d)),t),hq,⟨dA,lr⟩,sb [(64,64),(65,65),(66,66),(67,67),(68,68),(69,69),(70,70)]⟩
    .have h5:bD (bw L[q] d).1.sign 1=false:=h5;rw [h5]at dA lr;obtain⟨hcm,dA⟩:=dA;refine aE ?_;refine bS (by decide) (cg Vc 5 (Cn.lift bZ zG) (dI a b L[q],bw L[q] d) hdv (aE ?_));refine lO (F:=UY) (false,⟨a,b,d,L[q],dI a b L[q],bw L[q] d,Q.div (dI a b L[q]) (bw L[q] d)⟩,f,t) hcm (hk:=?_);refine aE ?_;exact⟨(f,Aw Q.min t (Q.div (dI a b L[q]) (bw L[q] d))),hq,⟨dA,lr⟩,sb [(64,64),(65,65),(66,66),(67,67),(68,68),(69,69),(70,70)]⟩
  .have Iu:=rN hq h3;subst Iu;rw [List.drop_length]at dA lr;have lr:some (f,t)=W:=lr;have dA:f.2=true ->t.2=true ->dt f.1 t.1:=dA;obtain⟨fv,fs⟩:=f;obtain⟨tv,ts⟩:=t;rw [<-lr];cases fs with
   |false=>
    refine aE ?_;exact .aS (.cons (.agg (sW .nil)) (.cons (.agg (sW .nil)) (.cons (.pure .bool) (.cons (.pure .int) .nil))))
   |true=>
    cases ts with
    |false=>
     refine aE ?_;exact .aS (.cons (.agg (sW .nil)) (.cons (.agg (sW .nil)) (.cons (.pure .bool) (.cons (.pure .int) .nil))))
    |true=>
     have hcm:=dA rfl rfl;conv=>whnf
     refine bS (by decide) (cg Vc 6 (Cn.lift bZ ch) (fv,tv) hcm (aE ?_));refine ay (λh6=>?_) (λh6=>?_)
     .have h6:gD 0 (Q.cmp fv tv)=true:=h6;have he:Cq (some ((fv,true),(tv,true)))=((0,0),(0,0),false,0):=by
       show(match gD 0 (Q.cmp fv tv)with|true=>_|false=>_)=_;rw [h6]
      rw [he];refine aE ?_;exact .aS (.cons (.agg (sW .nil)) (.cons (.agg (sW .nil)) (.cons (.pure .bool) (.cons (.pure .int) .nil))))
     .have h6:gD 0 (Q.cmp fv tv)=false:=h6;have he:Cq (some ((fv,true),(tv,true)))=(fv,tv,true,0):=by
       show(match gD 0 (Q.cmp fv tv)with|true=>_|false=>_)=_;rw [h6]
      rw [he];refine aE ?_;exact ak.pure (.aS (.cons (aK.an _) (.cons (aK.an _) (.cons .bool (.cons .int .nil)))))
end
section
attribute [local irreducible] Cw ak bq PF Sub
attribute [local instance] fp
structure Cap (C:AV):Prop where
 dp:DP C
 bor:∀flat h,jk flat h C=C
 ok:∀h,ij h C
 len:jl C=[]
def mL {α:Type} (E:bW α) (s:List α) (g:FuncId) (C:AV) (hC:Cap C) (pr:α ->Bool) (wD:∀x∈s,PF prog g (.cons (E.v x) C) (.bool (pr x))) (vx:∃fn,prog.funcs[g]?=some fn/\fn.body.isSome=true):Cn prog:=
 ⟨g,true,α,λx=> .cons (E.v x) C,λx=> .bool (pr x),λx=>x∈s,λa b _ _ h=>by injection h with h1 _;rw [E.bO h1],λx=>⟨E.jm x,hC.dp⟩,λ_=> .bool,λ_ _=>λ_ _ _ h=>h,wD,vx⟩
def gk {α:Type} (pr:α ->Bool):List α ->Nat ->Int
 |[],_=> -1|x::l,i=>match pr x with|true=>(i:Int)|false=>gk pr l (i+1)
theorem zW {α:Type} (pr:α ->Bool):∀(l:List α) (i:Nat),gD 0 (gk pr l i)=l.any pr
 |[],_=>rfl|x::l,i=>by
  unfold gk;cases h:pr x with
  |true=>simp [h];exact cG.2 (Int.natCast_nonneg _)|false=>simp [h];exact zW pr l (i+1)
section
variable (s:List V3) (g:FuncId) (c0 c1 c2:AV) (xB:dj c0) (AJ:dj c1) (Fi:dj c2) (pr:V3 ->Bool) (wD:∀x∈s,PF prog g (.cons (bL.v x) (.cons (.dq c0 0) (.cons (.dq c1 0) (.cons (.dq c2 0) .nil)))) (.bool (pr x))) (vx:∃fn,prog.funcs[g]?=some fn/\fn.body.isSome=true)
include wD vx xB AJ Fi
theorem agN (hs:s.length<=4294967296):PF prog 354 (.cons (bL.list.v s) (.cons (.func (.func g) .nil (.cons (.dq c0 0) (.cons (.dq c1 0) (.cons (.dq c2 0) .nil)))) .nil)) ((au .i64).v (gk pr s 0)):=by
 refine PF.of_wp (c:=_) af (by decide) (fn:=f354) rfl rfl rfl (.cons (bL.list.an _) (.cons (br (show DP (.func (.func g) .nil (.cons (.dq c0 0) (.cons (.dq c1 0) (.cons (.dq c2 0) .nil))))from⟨aB,(⟨⟨xB,AJ,Fi,aB⟩,λ_ _=>rfl,λ_=>⟨aB,aB,aB,aB⟩,rfl⟩:Cap (.cons (.dq c0 0) (.cons (.dq c1 0) (.cons (.dq c2 0) .nil)))).dp⟩)) .nil)) (call:=aH [mL bL s g (.cons (.dq c0 0) (.cons (.dq c1 0) (.cons (.dq c2 0) .nil))) (⟨⟨xB,AJ,Fi,aB⟩,λ_ _=>rfl,λ_=>⟨aB,aB,aB,aB⟩,rfl⟩) pr wD vx]) (λB0=>az ae [mL bL s g (.cons (.dq c0 0) (.cons (.dq c1 0) (.cons (.dq c2 0) .nil))) (⟨⟨xB,AJ,Fi,aB⟩,λ_ _=>rfl,λ_=>⟨aB,aB,aB,aB⟩,rfl⟩) pr wD vx] B0) ?_;intro B0;have hc:=az (P:=prog) ae [mL bL s g (.cons (.dq c0 0) (.cons (.dq c1 0) (.cons (.dq c2 0) .nil))) (⟨⟨xB,AJ,Fi,aB⟩,λ_ _=>rfl,λ_=>⟨aB,aB,aB,aB⟩,rfl⟩) pr wD vx] B0;conv=>whnf
 refine Cw.loop (ι:=Nat) (λq=>bl [(0,bL.list.v s),(1,.func (.func g) .nil (.cons (.dq c0 0) (.cons (.dq c1 0) (.cons (.dq c2 0) .nil)))),(6,bL.list.v s),(7,.int .i64 (s.length:Int)),(8,.int .i64 (q:Int))]) (λ_=>[]) (λ_=>⟨bV [],pathOf 64⟩)
  (λq=>q<=s.length/\gk pr (s.drop q) q=gk pr s 0) (λq=>s.length - q) ?_ 0 ⟨Nat.zero_le _,rfl⟩ ?_
 .intro q hq;have h1:q<=s.length:=hq.1;have h2:gk pr (s.drop q) q=gk pr s 0:=hq.2;refine aD af rfl rfl hc _ (aC ?_);refine ay (λh=>?_) (λh=>?_)
  .have h:q<s.length:=Int.ofNat_lt.1 (aO.1 h);have cE:aj .i64 (Int.add (q:Int) 1)=((q+1:Nat):Int):=by
    show aj .i64 ((q:Int)+1)=_;rw [aA (by omega) (by omega)];omega
   rw [List.drop_eq_getElem_cons h]at h2;have h2:(match pr s[q]with|true=>((q:Nat):Int)|false=>gk pr (s.drop (q+1)) (q+1))=gk pr s 0:=h2;conv=>whnf
   refine aL.go q rfl h (aC ?_);refine⟨_,bL.rd rfl h,aC ?_⟩;refine cn (l:=[mL bL s g (.cons (.dq c0 0) (.cons (.dq c1 0) (.cons (.dq c2 0) .nil))) (⟨⟨xB,AJ,Fi,aB⟩,λ_ _=>rfl,λ_=>⟨aB,aB,aB,aB⟩,rfl⟩) pr wD vx]) (List.nodup_cons.2 ⟨List.not_mem_nil,List.nodup_nil⟩) 0 (c:=mL bL s g (.cons (.dq c0 0) (.cons (.dq c1 0) (.cons (.dq c2 0) .nil))) (⟨⟨xB,AJ,Fi,aB⟩,λ_ _=>rfl,λ_=>⟨aB,aB,aB,aB⟩,rfl⟩) pr wD vx) rfl s[q] (List.getElem_mem h) (hk:=?_);conv=>whnf
   refine ay (λh3=>?_) (λh3=>?_)
   .have h3:pr s[q]=true:=h3;rw [h3]at h2;have h2:((q:Nat):Int)=gk pr s 0:=h2;conv=>whnf
    exact ak.same (congrArg (AV.int .i64) h2) .int
   .have h3:pr s[q]=false:=h3;rw [h3]at h2;conv=>whnf
    refine⟨q+1,⟨h,h2⟩,by show s.length - (q+1)<s.length - q;omega,?_⟩;refine Sub.of [] [] rfl rfl rfl ?_ trivial;repeat' first|exact aB|exact rfl|refine And.intro ?_ ?_
    all_goals exact cE
  .have h:q=s.length:=(by have:=aX.1 h;have this:((s.length:Nat):Int)<=(q:Int):=this;omega);rw [h,List.drop_length]at h2;conv=>whnf
   exact ak.same (congrArg (AV.int .i64) h2) .int
 .refine Sub.of [] [] rfl rfl rfl ?_ trivial;repeat' first|exact aB|exact rfl|refine And.intro ?_ ?_
end
def ND {κ:Type} (g:FuncId) (cp:κ ->AV) (ok:κ ->List V3 ->Prop) (pr:κ ->V3 ->Bool) (inj:∀a b,cp a=cp b ->pr a=pr b) (dp:∀a,DP (cp a)) (pf:∀a s,ok a s ->PF prog 354 (.cons (bL.list.v s) (.cons (.func (.func g) .nil (cp a)) .nil)) ((au .i64).v (gk (pr a) s 0))):Cn prog:=
 ⟨354,true,κ×List V3,λx=> .cons (bL.list.v x.2) (.cons (.func (.func g) .nil (cp x.1)) .nil),λx=>(au .i64).v (gk (pr x.1) x.2 0),λx=>ok x.1 x.2,λa b _ _ h=>by injection h with h1 h2;injection h2 with h2 _;injection h2 with _ _ h2;rw [bL.list.bO h1,inj _ _ h2],λx=>⟨bL.list.jm _,⟨aB,dp _⟩,aB⟩,λ_=> .int,λ_ _=>λ_ _ _ h=>h,λx h=>pf _ _ h,aw rfl rfl⟩
theorem agO {κ:Type} (g:FuncId) (cp:κ ->AV) (ok:κ ->List V3 ->Prop) (pr:κ ->V3 ->Bool) (inj:∀a b,cp a=cp b ->pr a=pr b) (dp:∀a,DP (cp a)) (pf:∀a s,ok a s ->PF prog 354 (.cons (bL.list.v s) (.cons (.func (.func g) .nil (cp a)) .nil)) ((au .i64).v (gk (pr a) s 0))) (a:κ) (s:List V3) (h:ok a s)
  (bor:∀flat h,jk flat h (cp a)=cp a) (bok:∀h,ij h (cp a)):PF prog 311 (.cons (bL.list.v s) (.cons (.func (.func g) .nil (cp a)) .nil)) (.bool (s.any (pr a))):=by
 refine PF.of_wp (c:=_) af (by decide) (fn:=f311) rfl rfl rfl (.cons (bL.list.an _) (.cons (br (show DP (.func (.func g) .nil (cp a))from⟨aB,dp a⟩)) .nil)) (call:=aH [ND g cp ok pr inj dp pf]) (λB0=>az ae [ND g cp ok pr inj dp pf] B0) ?_;intro B0;conv=>whnf
 refine cn (l:=[ND g cp ok pr inj dp pf]) (List.nodup_cons.2 ⟨List.not_mem_nil,List.nodup_nil⟩) 0 (c:=ND g cp ok pr inj dp pf) rfl (a,s) h (hbor:=(show ij _ (.cons (bL.list.v s) (.cons (.func (.func g) .nil (cp a)) .nil))from⟨aB,⟨aB,bok _⟩,aB⟩)) (has:=?_) (hk:=?_)
 .show AV.cons _ (.cons (.func (.func g) .nil (cp a)) .nil)= .cons _ (.cons (.func (.func g) .nil (jk true _ (cp a))) .nil);rw [bor];rfl
 conv=>whnf
 refine ak.same ?_ .bool;exact congrArg AV.bool (zW _ _ _)
def EF (l:List V3) (i j k:Nat):V3:=eF (bQ (l.getD j (0,0,0)) (l.getD i (0,0,0))) (bQ (l.getD k (0,0,0)) (l.getD i (0,0,0)))
def vy (l:List V3) (n:V3) (i:Nat) (p:V3):Bool:=aY (bD (ja n (bQ p (l.getD i (0,0,0)))) 0)
abbrev FlC:=V3×List V3×Nat
def HE (x:FlC):AV:= .cons (.dq (bL.c x.1 .nil) 0) (.cons (.dq (.cons (bL.list.v x.2.1) .nil) 0) (.cons (.dq (.cons (.int .i64 (x.2.2:Int)) .nil) 0) .nil))
def ZK:List (Cn prog):=[nu,vo]
theorem ZL (x:FlC) (p:V3) (hi:x.2.2<x.2.1.length):PF prog 312 (.cons (bL.v p) (HE x)) (.bool (vy x.2.1 x.1 x.2.2 p)):=by
 obtain⟨n,l,i⟩:=x;have hi:i<l.length:=hi;refine PF.of_wp (c:=_) af (by decide) (fn:=f312) rfl rfl rfl (.cons (bL.an _) (.cons .dq (.cons .dq (.cons .dq .nil)))) (call:=aH ZK) (λB0=>az ae ZK B0) ?_;intro B0;conv=>whnf
 repeat(refine⟨_,rfl,?_⟩;conv=>whnf)
 refine aL.go i rfl hi (aC ?_);refine⟨_,bL.rd rfl hi,aC ?_⟩;refine cn (l:=ZK) (by decide) 0 (c:=nu) rfl (p,l[i]) trivial (hk:=?_);conv=>whnf
 repeat(refine nx ?_;conv=>whnf)
 refine cn (l:=ZK) (by decide) 1 (c:=vo) rfl (n,bQ p l[i]) trivial (hk:=?_);conv=>whnf
 repeat(refine nx ?_;conv=>whnf)
 refine ak.same ?_ .bool;show AV.bool (aY (bD (ja n (bQ p l[i])) 0))=AV.bool (aY (bD (ja n (bQ p (l.getD i (0,0,0)))) 0));rw [List.getD_eq_getElem?_getD,List.getElem?_eq_getElem hi];rfl
theorem HF (a b:FlC) (h:HE a=HE b):vy a.2.1 a.1 a.2.2=vy b.2.1 b.1 b.2.2:=by
 obtain⟨n,l,i⟩:=a;obtain⟨m,k,j⟩:=b;injection h with h1 h;injection h with h2 h;injection h with h3 _;injection h1 with h1 _;injection h2 with h2 _;injection h3 with h3 _;injection h2 with h2 _;injection h3 with h3 _;injection h3 with _ h3;have e1:n=m:=bL.bO (congrArg AV.agg h1);have e2:l=k:=bL.list.bO h2;have e3:i=j:=Int.ofNat_inj.1 h3;subst e1 e2 e3;rfl
theorem Ve (x:FlC) (s:List V3) (h:x.2.2<x.2.1.length/\s.length<=4294967296):PF prog 354 (.cons (bL.list.v s) (.cons (.func (.func 312) .nil (HE x)) .nil)) ((au .i64).v (gk (vy x.2.1 x.1 x.2.2) s 0)):=
 agN s _ _ _ _ (bL.lH x.1 .nil) (.cons (bL.list.an _) .nil) (.cons .int .nil) _ (λp _=>ZL x p h.1) (aw rfl rfl) h.2
theorem NF (x:FlC):DP (HE x):=⟨bL.lH x.1 .nil,.cons (bL.list.an _) .nil,.cons .int .nil,aB⟩
theorem Vf (x:FlC) (s:List V3) (h:x.2.2<x.2.1.length/\s.length<=4294967296):PF prog 311 (.cons (bL.list.v s) (.cons (.func (.func 312) .nil (HE x)) .nil)) (.bool (s.any (vy x.2.1 x.1 x.2.2))):=
 agO _ HE (λx s=>x.2.2<x.2.1.length/\s.length<=4294967296) _ HF NF Ve x s h (λ_ _=>rfl) (λ_=>⟨aB,aB,aB,aB⟩)
def HG:Cn prog:=
 ⟨311,true,FlC×List V3,λx=> .cons (bL.list.v x.2) (.cons (.func (.func 312) .nil (HE x.1)) .nil),λx=> .bool (x.2.any (vy x.1.2.1 x.1.1 x.1.2.2)),λx=>x.1.2.2<x.1.2.1.length/\x.2.length<=4294967296,
  λa b _ _ h=>by injection h with h1 h2;injection h2 with h2 _;injection h2 with _ _ h2;rw [bL.list.bO h1,HF _ _ h2],λx=>⟨bL.list.jm _,⟨aB,NF _⟩,aB⟩,λ_=> .bool,λ_ _=>λ_ _ _ h=>h,λx h=>Vf _ _ h,aw rfl rfl⟩
def zX:List (Cn prog):=[nu,py,HG]
def ZM (l:List V3) (i j:Nat):Nat ->Nat ->Option Bool
 |0,_=>none|r+1,k=>match isZ (EF l i j k)with|true=>ZM l i j r (k+1)|false=>some (aY (l.any (vy l (EF l i j k) i)))
def Rk (l:List V3) (i:Nat):Nat ->Nat ->Option Bool
 |0,_=>none|r+1,j=>match ZM l i j j 0 with|some b=>some b|none=>Rk l i r (j+1)
def NG (l:List V3):Nat ->Nat ->Option Bool
 |0,_=>none|r+1,i=>match Rk l i i 0 with|some b=>some b|none=>NG l r (i+1)
def ku (l:List V3):Bool:=(NG l l.length 0).getD true
theorem aeg (l:List V3) (hl:l.length<=4096):PF prog 259 (.cons (bL.list.v l) .nil) (.bool (ku l)):=by
 refine PF.of_wp (c:=_) af (by decide) (fn:=f259) rfl rfl rfl (.cons (bL.list.an _) .nil) (call:=aH zX) (λB0=>az ae zX B0) ?_;intro B0;have hc:=az (P:=prog) ae zX B0;conv=>whnf
 refine Cw.loop (ι:=Nat) (λq=>bl [(1,.ptr (pathOf 64) 0),(8,.int .i64 (l.length:Int)),(9,.int .i64 (q:Int))]) (λ_=>[]) (λ_=>⟨bV [(pathOf 64,.cells (bl [(0,bL.list.v l)]) 1 false)],pathOf 65⟩)
  (λq=>q<=l.length/\(NG l (l.length - q) q).getD true=ku l) (λq=>l.length - q) ?_ 0 ⟨Nat.zero_le _,rfl⟩ ?_
 .intro i hi;have g1:i<=l.length:=hi.1;have g2:(NG l (l.length - i) i).getD true=ku l:=hi.2;refine aD af rfl rfl hc _ (aC ?_);refine ay (λh1=>?_) (λh1=>?_)
  .have hi:i<l.length:=Int.ofNat_lt.1 (aO.1 h1);have cE:aj .i64 (Int.add (i:Int) 1)=((i+1:Nat):Int):=by
    show aj .i64 ((i:Int)+1)=_;rw [aA (by omega) (by omega)];omega
   rw [show l.length - i=(l.length - (i+1))+1 by omega]at g2;have g2:(match Rk l i i 0 with|some b=>some b|none=>NG l (l.length - (i+1)) (i+1)).getD true=ku l:=g2;conv=>whnf
   refine Cw.loop (ι:=Nat) (λq=>bl [(1,.ptr (pathOf 64) 0),(3,.ptr (pathOf 65) 0),(8,.int .i64 (l.length:Int)),(9,.int .i64 (i:Int)),(12,.int .i64 (i:Int)),(13,.int .i64 (q:Int))]) (λ_=>[]) (λ_=>⟨bV [(pathOf 64,.cells (bl [(0,bL.list.v l)]) 1 false),(pathOf 65,.cells (bl [(0,.int .i64 (i:Int))]) 1 false)],pathOf 66⟩)
    (λq=>q<=i/\(match Rk l i (i - q) q with|some b=>some b|none=>NG l (l.length - (i+1)) (i+1)).getD true=ku l) (λq=>i - q) ?_ 0 ⟨Nat.zero_le _,g2⟩ ?_
   .intro j hj;have k1:j<=i:=hj.1;have k2:(match Rk l i (i - j) j with|some b=>some b|none=>NG l (l.length - (i+1)) (i+1)).getD true=ku l:=hj.2;refine aD af rfl rfl hc _ (aC ?_);refine ay (λh2=>?_) (λh2=>?_)
    .have hj:j<i:=Int.ofNat_lt.1 (aO.1 h2);have ajp:aj .i64 (Int.add (j:Int) 1)=((j+1:Nat):Int):=by
      show aj .i64 ((j:Int)+1)=_;rw [aA (by omega) (by omega)];omega
     rw [show i - j=(i - (j+1))+1 by omega]at k2;have k2:(match (match ZM l i j j 0 with|some b=>some b|none=>Rk l i (i - (j+1)) (j+1))with|some b=>some b|none=>NG l (l.length - (i+1)) (i+1)).getD true=ku l:=k2;conv=>whnf
     refine Cw.loop (ι:=Nat) (λq=>bl [(1,.ptr (pathOf 64) 0),(3,.ptr (pathOf 65) 0),(4,.int .i64 (j:Int)),(8,.int .i64 (l.length:Int)),(9,.int .i64 (i:Int)),(12,.int .i64 (i:Int)),(13,.int .i64 (j:Int)),(16,.int .i64 (j:Int)),(17,.int .i64 (q:Int))]) (λ_=>[]) (λ_=>⟨bV [(pathOf 64,.cells (bl [(0,bL.list.v l)]) 1 false),(pathOf 65,.cells (bl [(0,.int .i64 (i:Int))]) 1 false)],pathOf 66⟩)
      (λq=>q<=j/\(match (match ZM l i j (j - q) q with|some b=>some b|none=>Rk l i (i - (j+1)) (j+1))with|some b=>some b|none=>NG l (l.length - (i+1)) (i+1)).getD true=ku l) (λq=>j - q) ?_ 0 ⟨Nat.zero_le _,k2⟩ ?_
     .intro k hk;have m1:k<=j:=hk.1;have m2:(match (match ZM l i j (j - k) k with|some b=>some b|none=>Rk l i (i - (j+1)) (j+1))with|some b=>some b|none=>NG l (l.length - (i+1)) (i+1)).getD true=ku l:=hk.2;refine aD af rfl rfl hc _ (aC ?_);refine ay (λh3=>?_) (λh3=>?_)
      .have hk:k<j:=Int.ofNat_lt.1 (aO.1 h3);have Zy:aj .i64 (Int.add (k:Int) 1)=((k+1:Nat):Int):=by
        show aj .i64 ((k:Int)+1)=_;rw [aA (by omega) (by omega)];omega
       rw [show j - k=(j - (k+1))+1 by omega]at m2;conv=>whnf
       have Iv:i<l.length:=hi;have hjl:j<l.length:=(by omega);have hkl:k<l.length:=(by omega);repeat(refine⟨_,rfl,?_⟩;conv=>whnf)
       refine aL.go j rfl hjl (aC ?_);refine⟨_,bL.rd rfl hjl,aC ?_⟩;repeat(refine⟨_,rfl,?_⟩;conv=>whnf)
       refine aL.go i rfl Iv (aC ?_);refine⟨_,bL.rd rfl Iv,aC ?_⟩;repeat(refine⟨_,rfl,?_⟩;conv=>whnf)
       refine aL.go k rfl hkl (aC ?_);refine⟨_,bL.rd rfl hkl,aC ?_⟩;repeat(refine⟨_,rfl,?_⟩;conv=>whnf)
       refine aL.go i rfl Iv (aC ?_);refine⟨_,bL.rd rfl Iv,aC ?_⟩;refine cn (l:=zX) (by decide) 0 (c:=nu) rfl (l[j],l[i]) trivial (hk:=?_);refine sR ?_;refine cn (l:=zX) (by decide) 0 (c:=nu) rfl (l[k],l[i]) trivial (hk:=?_);refine sR ?_;refine cn (l:=zX) (by decide) 1 (c:=py) rfl (bQ l[j] l[i],bQ l[k] l[i]) trivial (hk:=?_);refine sR ?_;have hn:EF l i j k=eF (bQ l[j] l[i]) (bQ l[k] l[i]):=by
        unfold EF;rw [List.getD_eq_getElem?_getD,List.getD_eq_getElem?_getD,List.getD_eq_getElem?_getD,List.getElem?_eq_getElem Iv,List.getElem?_eq_getElem hjl,List.getElem?_eq_getElem hkl];rfl
       have m3:(match (match (match isZ (EF l i j k)with|true=>ZM l i j (j - (k+1)) (k+1)|false=>some (aY (l.any (vy l (EF l i j k) i))))with|some b=>some b|none=>Rk l i (i - (j+1)) (j+1))with|some b=>some b|none=>NG l (l.length - (i+1)) (i+1)).getD true=ku l:=m2;rw [hn]at m3;refine ay (λh4=>?_) (λh4=>?_)
       .have h4:isZ (eF (bQ l[j] l[i]) (bQ l[k] l[i]))=true:=h4;rw [h4]at m3;conv=>whnf
        refine⟨k+1,⟨hk,m3⟩,by show j - (k+1)<j - k;omega,?_⟩;refine Sub.of (gU [64,65]) [] rfl rfl rfl ?_ ?_
        .exact Ap
        .exact oR
       .have h4:isZ (eF (bQ l[j] l[i]) (bQ l[k] l[i]))=false:=h4;rw [h4]at m3;have m4:aY (l.any (vy l (eF (bQ l[j] l[i]) (bQ l[k] l[i])) i))=ku l:=m3;refine sR ?_;refine cn (l:=zX) (by decide) 2 (c:=HG) rfl ((eF (bQ l[j] l[i]) (bQ l[k] l[i]),l,i),l) ⟨Iv,by show l.length<=_;omega⟩ (hk:=?_);refine sR ?_;exact ak.same (congrArg AV.bool m4) .bool
      .have hk:k=j:=(by have:=aX.1 h3;have this:((j:Nat):Int)<=(k:Int):=this;omega);rw [hk,Nat.sub_self]at m2;conv=>whnf
       refine⟨j+1,⟨hj,m2⟩,by show i - (j+1)<i - j;omega,?_⟩;refine Sub.of (gU [64,65]) [] rfl rfl rfl ?_ ?_
       .exact Ap
       .exact oR
     .refine Sub.of (gU [64,65]) [] rfl rfl rfl ?_ ?_
      .exact oR
      .exact oR
    .have hj:j=i:=(by have:=aX.1 h2;have this:((i:Nat):Int)<=(j:Int):=this;omega);rw [hj,Nat.sub_self]at k2;conv=>whnf
     refine⟨i+1,⟨hi,k2⟩,by show l.length - (i+1)<l.length - i;omega,?_⟩;refine Sub.of (gU [64]) [] rfl rfl rfl ?_ ?_
     .exact Ap
     .exact oR
   .refine Sub.of (gU [64,65]) [] rfl rfl rfl ?_ ?_
    .exact oR
    .exact oR
  .have hi:i=l.length:=(by have:=aX.1 h1;have this:((l.length:Nat):Int)<=(i:Int):=this;omega);rw [hi,Nat.sub_self]at g2;conv=>whnf
   exact ak.same (congrArg AV.bool g2) .bool
 .refine Sub.of (gU [64]) [] rfl rfl rfl ?_ ?_
  .exact oR
  .exact oR
def Vg:Cn prog:= .mU bL.list bG 259 true (λl=>l.length<=4096) ku fF (λl h=>aeg l h) (aw rfl rfl)
def inC (x:Int):Prop:= -4096<=x/\x<=4096
theorem aeh {x:Int} (h:inC x):cQ x (-4096)=false:=aX.2 h.1
theorem aei {x:Int} (h:inC x):cQ 4096 x=false:=aX.2 h.2
theorem aej (x:Int) (h:inC x):dQ 308 (.cons ((au .i64).v x) .nil) (bG.v false):=by
 refine PF.go af ae [] (fn:=f308) rfl rfl rfl λB0 hc=>?_;conv=>whnf
 refine xA (aeh h) (aC ?_);exact ak.same (congrArg AV.bool (aei h)) .bool
def EG:Cn prog:= .mU (au .i64) bG 308 true inC (λ_=>false) fF aej (aw rfl rfl)
abbrev l3 (p:V3):List Int:=[p.1,p.2.1,p.2.2]
def inV (p:V3):Prop:=inC p.1/\inC p.2.1/\inC p.2.2
def tOx:List (Cn prog):=[EG]
theorem agP (p:V3) (h:inV p):dQ 183 (.cons ((au .i64).list.v (l3 p)) (.cons (.func (.func 308) .nil .nil) .nil)) ((au .i64).v (-1)):=by
 refine PF.go af ae tOx (fn:=f183) rfl rfl rfl λB0 hc=>?_;conv=>whnf
 refine Cw.bH af rfl rfl hc 4 (aC ?_);refine aL.go 0 rfl (show 0<3 by decide) (aC ?_);refine⟨_,(au .i64).rd (xs:=l3 p) (i:=0) rfl (show 0<3 by decide),aC ?_⟩;refine cg tOx 0 EG p.1 h.1 (aC ?_);refine aL.go 1 rfl (show 1<3 by decide) (aC ?_);refine⟨_,(au .i64).rd (xs:=l3 p) (i:=1) rfl (show 1<3 by decide),aC ?_⟩;refine cg tOx 0 EG p.2.1 h.2.1 (aC ?_);refine aL.go 2 rfl (show 2<3 by decide) (aC ?_);refine⟨_,(au .i64).rd (xs:=l3 p) (i:=2) rfl (show 2<3 by decide),aC ?_⟩;refine cg tOx 0 EG p.2.2 h.2.2 (aC ?_);exact ak.same rfl .int
def abE:Cn prog:=Cn.mk 183 true V3 (λp=> .cons ((au .i64).list.v (l3 p)) (.cons (.func (.func 308) .nil .nil) .nil)) (λ_=>(au .i64).v (-1)) inV
 (λ_ _ _ _ _=>rfl) (λp=>⟨(au .i64).list.jm _,⟨aB,aB⟩,aB⟩) (λ_=> .int) (λ_ _=>(au .i64).zd _ (de _ rfl _)) agP (aw rfl rfl)
def tOc:List (Cn prog):=[abE]
theorem agQ (p:V3) (h:inV p):dQ 119 (.cons ((au .i64).list.v (l3 p)) (.cons (.func (.func 308) .nil .nil) .nil)) (bG.v false):=by
 refine PF.go af ae tOc (fn:=f119) rfl rfl rfl λB0 hc=>?_;conv=>whnf
 refine cg tOc 0 abE p h (aC ?_);exact ak.same rfl .bool
def abF:Cn prog:=Cn.mk 119 true V3 (λp=> .cons ((au .i64).list.v (l3 p)) (.cons (.func (.func 308) .nil .nil) .nil)) (λ_=>bG.v false) inV
 (λ_ _ _ _ _=>rfl) (λp=>⟨(au .i64).list.jm _,⟨aB,aB⟩,aB⟩) (λ_=> .bool) (λ_ _=>bG.zd _ (fF rfl _)) agQ (aw rfl rfl)
def tOu:List (Cn prog):=[abF]
theorem QE (p:V3) (h:inV p):dQ 257 (.cons (bL.v p) .nil) (bG.v false):=by
 refine PF.of_wp (c:=_) af (by decide) (fn:=f257) rfl rfl rfl (.cons (bL.an _) .nil) (call:=zA (aH tOu)) (λB0=>qR (az ae _ B0)) ?_;intro B0;conv=>whnf
 refine oF (l:=tOu) (by decide) 0 (c:=abF) rfl p h ?_ ?_ ?_
 .repeat' first|exact aB|exact rfl|refine⟨?_,?_⟩
 .rfl
 conv=>whnf
 exact ak.same rfl .bool
def Cr:Cn prog:= .mU bL bG 257 true inV (λ_=>false) fF QE (aw rfl rfl)
def agR:List (Cn prog):=[EB]
theorem aek (a b:V3):dQ 258 (.cons (bL.v a) (.cons (bL.v b) .nil)) ((au .i64).v (ua (l3 a) (l3 b))):=by
 refine PF.of_wp (c:=_) af (by decide) (fn:=f258) rfl rfl rfl (.cons (bL.an _) (.cons (bL.an _) .nil)) (call:=zA (aH agR)) (λB0=>qR (az ae _ B0)) ?_;intro B0;conv=>whnf
 refine oF (l:=agR) (by decide) 0 (c:=EB) rfl (l3 a,l3 b) ⟨show 3<=_ by decide,show 3<=_ by decide⟩ ?_ ?_ ?_
 .repeat' first|exact aB|exact rfl|refine⟨?_,?_⟩
 .rfl
 refine aE ?_;exact ak.same rfl .int
def HH:Cn prog:= .kP bL bL (au .i64) 258 true (λ_ _=>True) (λa b=>ua (l3 a) (l3 b)) (de _) (λa b _=>aek a b) (aw rfl rfl)
def nFn {α ρ:Type} (E:bW α) (R:bW ρ) (s:List α) (g:FuncId) (C:AV) (hC:Cap C) (f:α ->ρ) (wD:∀x∈s,PF prog g (.cons (E.v x) C) (R.v (f x))) (vx:∃fn,prog.funcs[g]?=some fn/\fn.body.isSome=true):Cn prog:=
 ⟨g,false,α,λx=> .cons (E.v x) C,λx=>R.v (f x),λx=>x∈s,λa b _ _ h=>by injection h with h1 _;rw [E.bO h1],λx=>⟨E.jm x,hC.dp⟩,λ_=>R.an _,λe=>Bool.noConfusion e,wD,vx⟩
theorem agS {c:AV} (hc:dj c):Cap (.cons (.dq c 0) .nil):=⟨⟨hc,aB⟩,λ_ _=>rfl,λ_=>⟨aB,aB⟩,rfl⟩
theorem ael (l:List dh) (g:FuncId) (c:AV) (hcp:dj c) (f:dh ->dh) (hn:l.length<=1000000) (wD:∀x∈l,PF prog g (.cons (aN.v x) (.cons (.dq c 0) .nil)) (aN.v (f x))) (vx:∃fn,prog.funcs[g]?=some fn/\fn.body.isSome=true):
  dQ 135 (.cons (aN.list.v l) (.cons (.func (.func g) .nil (.cons (.dq c 0) .nil)) .nil)) (aN.list.v (l.map f)):=by
 refine PF.go af ae [nFn aN aN l g (.cons (.dq c 0) .nil) (agS hcp) f wD vx] (fn:=f135) rfl rfl rfl (hpure:= .cons (aN.list.an _) (.cons (br (show DP (.func (.func g) .nil (.cons (.dq c 0) .nil))from⟨aB,hcp,aB⟩)) .nil)) λB0 hc=>?_;conv=>whnf
 refine Cw.lp (σ:=Unit) af rfl rfl hc l.length (λq _=>[(1,.func (.func g) .nil (.cons (.dq c 0) .nil)),(5,.gs (pathOf 64) q 3),(8,aN.list.v l),(9,.int .i64 (l.length:Int)),(10,.int .i64 (q:Int))])
  (λq _=>hp [(64,.gl (aN.l ((l.take q).map f)) false)] 65) (λ_ _=>True) () trivial (sb [(64,0)]) (λq _ hq _=>?_)
 conv=>whnf
 refine ay (λh1=>?_) (λh1=>?_)
 .have hq:=pT h1;have cE:=pS hq (by omega);have Ri:=aN.pq f hq;conv=>whnf
  refine aL.go q rfl hq (aC ?_);refine⟨_,aN.rd rfl hq,aE ?_⟩;refine cg _ 0 (nFn aN aN l g (.cons (.dq c 0) .nil) (agS hcp) f wD vx) l[q] (List.getElem_mem hq) (aE ?_) (hl:=List.nodup_cons.2 ⟨List.not_mem_nil,List.nodup_nil⟩);refine⟨_,rfl,aC ?_⟩;refine⟨aN.ap (q:=q) (gg (Nat.le_of_lt hq)) (by omega),aE ?_⟩;exact⟨(),hq,aB,sb [(64,67)]⟩
 .obtain rfl:=rN hq h1;rw [List.take_length];refine aE ?_;exact aN.gG rfl rfl (List.length_map ..).symm
theorem agT (m:Bc) (s:dh) (h:pF m s):dQ 136 (.cons (aN.v s) (.cons (.dq (kY.c m .nil) 0) .nil)) (aN.v (iS m s)):=by
 refine PF.go af ae [Em] (fn:=f136) rfl rfl rfl (hpure:= .cons (aN.an _) (.cons (br (show DP (.dq (kY.c m .nil) 0)from kY.lH m .nil)) .nil)) λB0 hc=>?_;conv=>whnf
 repeat(first|(refine nw ?_;conv=>whnf)|(refine⟨_,rfl,?_⟩;conv=>whnf))
 refine cg [Em] 0 Em (s,m) h (aE ?_) (hl:=List.nodup_cons.2 ⟨List.not_mem_nil,List.nodup_nil⟩);exact ak.pure (aN.an _)
def fMv (m:Bc):AV:= .func (.func 136) .nil (.cons (.dq (kY.c m .nil) 0) .nil)
def EH:Cn prog:=
 ⟨135,false,List dh×Bc,λx=> .cons (aN.list.v x.1) (.cons (fMv x.2) .nil),λx=>aN.list.v (x.1.map (iS x.2)),λx=>x.1.length<=1000000/\∀s∈x.1,pF x.2 s,
  λa b _ _ h=>by
   injection h with h1 h;injection h with h2 _;injection h2 with _ _ h2;injection h2 with h2 _;injection h2 with h2 _;have e:kY.v a.2=kY.v b.2:=congrArg AV.agg h2;rw [aN.list.bO h1,kY.bO e],
  λx=>⟨aN.list.jm _,⟨aB,kY.lH _ .nil,aB⟩,aB⟩,λx=>aN.list.an _,λe=>Bool.noConfusion e,
  λx h=>ael x.1 _ _ (kY.lH _ .nil) (iS x.2) h.1 (λs hs=>agT x.2 s (h.2 s hs)) (aw rfl rfl),aw rfl rfl⟩
def vz (s:fA) (m:Bc):fA:=(s.1,s.2.map (iS m))
def nW (s:fA) (m:Bc):Prop:=s.2.length<=1000000/\∀x∈s.2,pF m x
theorem aem (s:fA) (m:Bc) (h:nW s m):dQ 71 (.cons (bM.v s) (.cons (kY.v m) .nil)) (bM.v (vz s m)):=by
 refine PF.of_wp af (by decide) (fn:=f71) rfl rfl rfl (.cons (bM.an _) (.cons (kY.an _) .nil)) (call:=zA (aH [EH])) (λB0=>qR (az ae [EH] B0)) λB0=>?_;conv=>whnf
 repeat(first|(refine nw ?_;conv=>whnf))
 refine oF (l:=[EH]) (List.nodup_cons.2 ⟨List.not_mem_nil,List.nodup_nil⟩) 0 (c:=EH) rfl (s.2,m) h ?_ ?_ ?_
 .exact oR
 .rfl
 refine aE ?_;exact ak.pure (bM.an (vz s m))
def EI:Cn prog:= .kP bM kY bM 71 false nW vz (λe=>by cases e) aem (aw rfl rfl)
def idM:Bc:=((((1,0),(0,0),(0,0)),((0,0),(1,0),(0,0)),((0,0),(0,0),(1,0))),z3)
theorem Lb:dQ 77 .nil (kY.v idM):=by
 refine PF.go af ae tM2 (fn:=f77) rfl rfl rfl λB0 hc=>?_;conv=>whnf
 refine Cw.bH af rfl rfl hc 4 (aE ?_);refine cg tM2 0 jZ (1:Int) ⟨by decide,by decide⟩ (aE ?_);refine cg tM2 0 jZ (1:Int) ⟨by decide,by decide⟩ (aE ?_);refine cg tM2 0 jZ (1:Int) ⟨by decide,by decide⟩ (aE ?_);refine .agg ?_;repeat' first|exact bq.nil|refine bq.cons ?_ ?_|exact ak.bt|exact ak.pure .bool|exact ak.same rfl (aM.an _)
def zY:Cn prog:= .of0 kY 77 idM Lb (aw rfl rfl)
def Lc (v:Q3):Bc:=(idM.1,v)
def rk (s:fA) (v:Q3):fA:=vz s (Lc v)
def tSh:List (Cn prog):=[zY,EI]
theorem ZN (s:fA) (v:Q3) (h:nW s (Lc v)):dQ 41 (.cons (bM.v s) (.cons (aQ.v v) .nil)) (bM.v (rk s v)):=by
 refine PF.go af ae tSh (fn:=f41) rfl rfl rfl λB0 hc=>?_;conv=>whnf
 refine cg tSh 0 zY () aB (aE ?_);refine cg tSh 1 EI (s,Lc v) h (aE ?_);exact ak.pure (bM.an _)
def NH:Cn prog:= .kP bM aQ bM 41 false (λs v=>nW s (Lc v)) rk (λe=>by cases e) ZN (aw rfl rfl)
end
section
attribute [local irreducible] Cw ak bq PF Sub
attribute [local instance] bZ
def HJ (x:Int):Int:=match bD x 15 with|true=>4|false=>(match bD x 63 with|true=>6|false=>8)
theorem Vh:cS prog vq 260 [(.cons (.int .u64 15) .nil,.int .i64 4),(.cons (.int .u64 63) .nil,.int .i64 6),(.cons (.int .u64 255) .nil,.int .i64 8)]=true:=by kernel_rfl
theorem aen (x:Int) (h:x=15\/x=63\/x=255):PF prog 260 (.cons ((au .u64).v x) .nil) ((au .i64).v (HJ x)):=by
 have k:=cz af ae iR (by decide) Vh;rcases h with rfl|rfl|rfl
 .exact(k _ (.head _)).1
 .exact(k _ (.tail _ (.head _))).1
 .exact(k _ (.tail _ (.tail _ (.head _)))).1
def Vi:Cn prog:= .mU (au .u64) (au .i64) 260 true (λx=>x=15\/x=63\/x=255) HJ (de _) aen (aw rfl rfl)
def QF:List (Cn prog):=[Cn.lift bZ Cr,Cn.lift bZ HH,Cn.lift bZ Vg,xZ,Vi]
structure Ld (l:List V3):Prop where
 lo:4<=l.length
 hi:l.length<=16
 inr:∀q (hq:q<l.length),inV l[q]
 ord:∀q (hq:q+1<l.length),ua (l3 l[q]) (l3 l[q+1])<0
 flat:ku l=false
 rings:∃all e,iq l=some (all,e)/\((e:Int)=15\/(e:Int)=63\/(e:Int)=255)/\(l.length:Int)<=HJ e
theorem ZO (l:List V3) (h:Ld l):PF prog 191 (.cons (.agg (.cons (bL.list.v l) .nil)) .nil) ((au .i64).v 0):=by
 obtain⟨h1,h2,h3,h4,h5,all,e,h6,h7,h8⟩:=h;refine PF.go af ae QF (fn:=f191) rfl rfl rfl λB0 hc=>?_;conv=>whnf
 refine xA (aX.2 (show(l.length:Int)<=16 by omega)) (aC ?_);refine Cw.lp (σ:=Unit) af rfl rfl hc l.length (λq _=>[(3,bL.list.v l),(14,bL.list.v l),(15,.int .i64 (l.length:Int)),(16,.int .i64 (q:Int))]) (λq _=>hp [] 64) (λ_ _=>True) () trivial (sb []) (λq _ hq _=>?_);conv=>whnf
 refine ay (λk1=>?_) (λk1=>?_)
 .have hq:=pT k1;have cE:=pS hq (by omega);conv=>whnf
  refine aL.go q rfl hq (aC ?_);refine⟨_,bL.rd rfl hq,aE ?_⟩;refine cg QF 0 (Cn.lift bZ Cr) l[q] (h3 q hq) (aE ?_);refine ay (λk2=>?_) (λk2=>?_)
  .have k2:cQ 0 (q:Int)=true:=k2;obtain⟨p,rfl⟩:∃p,q=p+1:=⟨q - 1,by have:=aO.1 k2;omega⟩
   have hpx:aj .i64 (Int.sub ((p+1:Nat):Int) 1)=(p:Int):=by
    show aj .i64 (((p+1:Nat):Int) - 1)=_;rw [aA (by omega) (by omega)];omega
   have ho:=h4 p hq;have nc:p<l.length:=(by omega);conv=>whnf
   repeat(first|(refine bT k2 ?_;conv=>whnf)|(refine nw ?_;conv=>whnf))
   refine aL.go p hpx nc (aC ?_);repeat(first|(refine bT k2 ?_;conv=>whnf)|(refine nw ?_;conv=>whnf))
   refine⟨_,bL.rd rfl nc,aC ?_⟩;repeat(first|(refine bT k2 ?_;conv=>whnf)|(refine nw ?_;conv=>whnf))
   refine cg QF 1 (Cn.lift bZ HH) (l[p],l[p+1]) aB (aC ?_);repeat(first|(refine bT k2 ?_;conv=>whnf)|(refine nw ?_;conv=>whnf))
   refine xA (kG.2 ho) (aC ?_);exact⟨(),hq,aB,sb []⟩
  .have k2:cQ 0 (q:Int)=false:=k2;conv=>whnf
   repeat(first|(refine xA k2 ?_;conv=>whnf)|(refine nw ?_;conv=>whnf))
   exact⟨(),hq,aB,sb []⟩
 .have hl4:cQ (l.length:Int) 4=false:=aX.2 (by omega);conv=>whnf
  refine xA hl4 (aC ?_);repeat(first|(refine xA hl4 ?_;conv=>whnf)|(refine nw ?_;conv=>whnf))
  refine cg QF 2 (Cn.lift bZ Vg) l (by show l.length<=4096;omega) (aC ?_);repeat(first|(refine xA hl4 ?_;conv=>whnf)|(refine nw ?_;conv=>whnf))
  refine xA h5 (aC ?_);refine cC (l:=QF) (by decide) 3 (c:=xZ) rfl l (by show(iq l).isSome=true;rw [h6];rfl) (nB h6) (hk:=?_);refine aE ?_;refine cg QF 4 Vi (e:Int) h7 (aE ?_);refine xA (aX.2 h8) (aC ?_);exact ak.pure .int
def kM:bW (List V3):=bL.list.struct
def NI:Cn prog:= .mU kM (au .i64) 191 true Ld (λ_=>0) (de _) ZO (aw rfl rfl)
def tOf:List (Cn prog):=[NI,Cn.lift bZ zF,xZ,Cn.lift bZ nT,Cn.lift bZ kJ,Nu]
def vA (vs:List Q3) (x:Fc):lS:=(aI (gR x.1.1),bw (aI (gR x.1.1)) (vs.getD (x.2.headD 0).toNat z3),x.2)
def aeo (l:List V3) (all:List Fc):dh:=(l.map gR,all.map (vA (l.map gR)),pN (all.map (·.2)))
def ajt (v:V3):Prop:=Iy v.1/\Iy v.2.1/\Iy v.2.2
def aju (vs:List Q3) (x:Fc):Prop:=ajt x.1.1/\mI (gR x.1.1)/\∃i:Nat,i<vs.length/\x.2.head?=some (i:Int)/\oG (aI (gR x.1.1)) (vs.getD i z3)
structure QG (l:List V3) (all:List Fc):Prop where
 ck:Ld l
 rg:∃a e,iq l=some (a,e)/\cF a=all
 n:all.length<=1000
 f:∀q (hq:q<all.length),aju (l.map gR) all[q]
 ed:all.map (·.2)∈lh.map (·.1)
theorem EJ {x:Int} (h:inC x):Iy x:=by obtain⟨h1,h2⟩:=h;exact⟨by omega,by omega⟩
theorem ajv (l:List V3) (all:List Fc) (h:QG l all):PF prog 131 (.cons (.agg (.cons (bL.list.v l) .nil)) .nil) (.aS (.cons (aN.v (aeo l all)) (.cons ((au .i64).v 0) .nil))):=by
 obtain⟨hck,⟨a,e,hr,ha⟩,hn,hf,hed⟩:=h;have hl:=hck.hi;have dF:=hck.inr;unfold aeo;refine PF.go af ae tOf (fn:=f131) rfl rfl rfl λB0 hc=>?_;conv=>whnf
 refine cg tOf 0 NI l hck (aC ?_);refine Cw.lp (σ:=Unit) af rfl rfl hc l.length (λq _=>[(1,.ptr (pathOf 64) 0),(2,.ptr (pathOf 65) 0),(5,.ptr (pathOf 66) 0),(22,bL.list.v l),(23,.int .i64 (l.length:Int)),(24,.int .i64 (q:Int))])
  (λq _=>hp [(64,cl [bL.list.v l]),(65,cl [.bt,.bt,.bt]),(66,cl [.gs (pathOf 67) q 12,.bt,.bt]),(67,.gl (aQ.l ((l.take q).map gR)) false)] 68) (λ_ _=>True) () trivial (sb [(64,64),(65,65),(66,66),(67,0)]) (λq _ hq _=>?_)
 conv=>whnf
 refine ay (λh1=>?_) (λh1=>?_)
 .have hq:=pT h1;have cE:=pS hq (by omega);have Ri:=aQ.pq gR hq;conv=>whnf
  refine aL.go q rfl hq (aC ?_);refine⟨_,bL.rd rfl hq,aE ?_⟩;refine cg tOf 1 (Cn.lift bZ zF) l[q] ⟨EJ (dF q hq).1,EJ (dF q hq).2.1,EJ (dF q hq).2.2⟩ (aE ?_);refine⟨_,rfl,aC ?_⟩;refine⟨aQ.ap (gg (Nat.le_of_lt hq)) (by omega),aE ?_⟩;exact⟨(),hq,aB,sb [(64,64),(65,65),(66,66),(67,70)]⟩
 .obtain rfl:=rN hq h1;rw [List.take_length];have hW:(l.map gR).length=l.length:=List.length_map ..;generalize l.map gR=W at*;conv=>whnf
  refine cC (l:=tOf) (by decide) 2 (c:=xZ) rfl l (by show(iq l).isSome=true;rw [hr];rfl) (nB hr) (hk:=?_);rw [ha];conv=>whnf
  have hP:(all.map (·.1)).length=all.length:=List.length_map ..;have hR:(all.map (·.2)).length=all.length:=List.length_map ..;refine Cw.lp (σ:=Unit) af rfl rfl hc (all.map (·.1)).length (λq _=>[(2,.ptr (pathOf 65) 0),(5,.ptr (pathOf 66) 0),(9,(au .i64).list.list.v (all.map (·.2))),(43,bY.list.v (all.map (·.1))),(44,.int .i64 ((all.map (·.1)).length:Int)),(45,.int .i64 (q:Int))])
   (λq _=>hp [(65,cl [.bt,.bt,.bt]),(66,cl [.gs (pathOf 67) l.length 12,.gs (pathOf 68) q 17,.bt]),(67,.gl (aQ.l W) false),(68,.gl (bC.l ((all.take q).map (vA W))) false)] 69) (λ_ _=>True) () trivial (sb [(65,65),(66,66),(67,67),(68,0)]) (λq _ hq _=>?_)
  conv=>whnf
  refine ay (λh1=>?_) (λh1=>?_)
  .have hqP:=pT h1;have hq:q<all.length:=(by omega);have hqR:q<(all.map (·.2)).length:=(by omega);have cE:=pS hqP (by omega);have Ri:=bC.pq (vA W) hq;obtain⟨k1,k2,i,k4,k5,k6⟩:=hf q hq;obtain⟨h0,hi⟩:∃h0:0<all[q].2.length,all[q].2[0]=(i:Int):=by
    rw [List.head?_eq_getElem?]at k5;exact List.getElem?_eq_some_iff.1 k5
   have hg:W.getD i z3=W[i]:=(by rw [List.getD_eq_getElem?_getD,List.getElem?_eq_getElem k4];rfl);have hF:vA W all[q]=(aI (gR all[q].1.1),bw (aI (gR all[q].1.1)) W[i],all[q].2):=by
    unfold vA;rw [List.headD_eq_head?_getD,k5,<-hg];rfl
   rw [hF]at Ri;rw [hg]at k6;have e1:(all.map (·.1))[q]=all[q].1:=List.getElem_map ..;have e2:(all.map (·.2))[q]=all[q].2:=List.getElem_map ..;conv=>whnf
   refine aL.go q rfl hqP (aC ?_);refine⟨_,(bY.rd rfl hqP).trans (congrArg (λx=>some (bY.v x)) e1),aE ?_⟩;refine cg tOf 1 (Cn.lift bZ zF) all[q].1.1 k1 (aE ?_);refine cg tOf 3 (Cn.lift bZ nT) (gR all[q].1.1) k2 (aE ?_);refine aL.go q rfl hqR (aC ?_);refine⟨_,((au .i64).list.rd rfl hqR).trans (congrArg (λx=>some ((au .i64).list.v x)) e2),aE ?_⟩;refine aL.go 0 rfl h0 (aC ?_);refine⟨_,(au .i64).rd rfl h0,aE ?_⟩;refine aL.go i hi (hW ▸ k4) (aC ?_);refine⟨_,aQ.rd rfl k4,aE ?_⟩;refine aL.go q rfl hqR (aC ?_);refine⟨_,((au .i64).list.rd rfl hqR).trans (congrArg (λx=>some ((au .i64).list.v x)) e2),aE ?_⟩;refine cg tOf 4 (Cn.lift bZ kJ) (aI (gR all[q].1.1),W[i]) k6 (aE ?_);repeat(first|(refine nw ?_;conv=>whnf)|(refine nw ?_ ⟨_,(au .i64).list.rd (P:=prog) (t:=75) rfl hqR,(au .i64).list.rd (P:=prog) (t:=75) rfl hqR⟩;conv=>whnf)|(refine nw ?_ ⟨_,(au .i64).rd (P:=prog) (t:=3) rfl h0,(au .i64).rd (P:=prog) (t:=3) rfl h0⟩;conv=>whnf)|(refine nw ?_ ⟨_,aQ.rd (P:=prog) (t:=70) rfl k4,aQ.rd (P:=prog) (t:=70) rfl k4⟩;conv=>whnf))
   refine⟨_,rfl,aC ?_⟩;refine⟨bC.ap (gg (Nat.le_of_lt hq)) (by omega),aE ?_⟩;exact⟨(),hqP,aB,sb [(65,65),(66,66),(67,67),(68,72)]⟩
  .have Iu:=rN hq h1;have Xy:q=all.length:=(by omega);subst Xy;rw [List.take_length];have hE:(all.map (vA W)).map (·.2.2)=all.map (·.2):=(by rw [List.map_map];rfl);have hL:(all.map (vA W)).length=all.length:=List.length_map ..;conv=>whnf
   refine cC (l:=tOf) (by decide) 5 (c:=Nu) rfl (all.map (vA W)) (by show(all.map (vA W)).map (·.2.2)∈_;rw [hE];exact hed) (congrArg (λx=>jD.list.v (pN x)) hE) (hbor:=?_) (has:=?_) (hk:=?_)
   .exact⟨(by rw [<-hL];exact(bC.ep _).symm),aB⟩
   .rw [<-hL];rfl
   conv=>whnf
   exact .aS (.cons (.agg (.cons (aQ.gG rfl rfl hW.symm) (.cons (bC.gG rfl rfl hL.symm) (.cons (.pure (jD.list.an _)) .nil)))) (.cons (.pure .int) .nil))
def fU (l:List V3):List Fc:=match iq l with|some x=>cF x.1|none=>[]
def bX (l:List V3):dh:=aeo l (fU l)
def agU:Cn prog:=Cn.mk 131 false (List V3) (λl=> .cons (.agg (.cons (bL.list.v l) .nil)) .nil) (λl=> .aS (.cons (aN.v (bX l)) (.cons ((au .i64).v 0) .nil))) (λl=>QG l (fU l))
 (λa b _ _ h=>by injection h with h _;injection h with h;injection h with h _;rw [bL.list.bO h]) (λl=>⟨⟨bL.list.jm _,aB⟩,aB⟩) (λl=> .aS (.cons (aN.an _) (.cons .int .nil))) (λh=>by cases h) (λl h=>ajv l _ h) (aw rfl rfl)
theorem sbF (F:List Nat) (L:List (Nat×Nat)) {B0 nt n:Nat} {r:Tr AV} {h:Heap} {R:List (Nat×AV)} {H:List (Nat×AO)} (hk:wb (pathOf n) (pp L)=true:=by rfl) (ho:qI (F.map pathOf) (pp L)=true:=by rfl) (hn:bJ (Nat.add 63 aT.k) (pathOf n).toNat=true:=by rfl)
 (hR:SM h (pp L) (F.map pathOf) r R:=by repeat' first|exact aB|assumption|exact rfl|exact bW.bm _ _|refine And.intro ?_ ?_)
 (hH:SN h (pp L) (F.map pathOf) (H.map λx=>(pathOf x.1,x.2)):=by repeat' first|exact aB|assumption|exact rfl|exact bW.bm _ _|refine And.intro ?_ ?_):Sub B0 nt r [] h (bl R) [] (hp H n):=Sub.of (pp L) (F.map pathOf) hk ho hn hR hH
def Cn.agV {α ρ σ:Type} [aT] {P:Program} (A:bW α) (R:bW ρ) (S:bW σ) (f:FuncId) (ok:α ->Prop) (g:α ->ρ) (k:α ->σ) (pf:∀a,ok a ->PF P f (.cons (A.v a) .nil) (.aS (.cons (R.v (g a)) (.cons (S.v (k a)) .nil)))) (bd:∃fn,P.funcs[f]?=some fn/\fn.body.isSome=true):Cn P where
 f:=f
 flat:=false
 α:=α
 aZs:=λa=> .cons (A.v a) .nil
 v:=λa=> .aS (.cons (R.v (g a)) (.cons (S.v (k a)) .nil))
 ok:=ok
 inj:=λa b _ _ h=>by injection h with h1 _;rw [A.bO h1]
 dp:=λa=>⟨A.jm a,aB⟩
 pv:=λa=> .aS (.cons (R.an _) (.cons (S.an _) .nil))
 fl:=λh=>by cases h
 pf:=pf
 bd:=bd
section
attribute [local instance] fp
section
variable (s:List dh) (g:FuncId) (c0:AV) (xB:dj c0) (pr:dh ->Bool) (wD:∀x∈s,PF prog g (.cons (aN.v x) (.cons (.dq c0 0) .nil)) (.bool (pr x))) (vx:∃fn,prog.funcs[g]?=some fn/\fn.body.isSome=true)
include wD vx xB
theorem agW (hs:s.length<=4294967296):PF prog 194 (.cons (aN.list.v s) (.cons (.func (.func g) .nil (.cons (.dq c0 0) .nil)) .nil)) ((au .i64).v (gk pr s 0)):=by
 refine PF.of_wp (c:=_) af (by decide) (fn:=f194) rfl rfl rfl (.cons (aN.list.an _) (.cons (br (show DP (.func (.func g) .nil (.cons (.dq c0 0) .nil))from⟨aB,(⟨⟨xB,aB⟩,λ_ _=>rfl,λ_=>⟨aB,aB⟩,rfl⟩:Cap (.cons (.dq c0 0) .nil)).dp⟩)) .nil)) (call:=aH [mL aN s g (.cons (.dq c0 0) .nil) (⟨⟨xB,aB⟩,λ_ _=>rfl,λ_=>⟨aB,aB⟩,rfl⟩) pr wD vx]) (λB0=>az ae [mL aN s g (.cons (.dq c0 0) .nil) (⟨⟨xB,aB⟩,λ_ _=>rfl,λ_=>⟨aB,aB⟩,rfl⟩) pr wD vx] B0) ?_;intro B0;have hc:=az (P:=prog) ae [mL aN s g (.cons (.dq c0 0) .nil) (⟨⟨xB,aB⟩,λ_ _=>rfl,λ_=>⟨aB,aB⟩,rfl⟩) pr wD vx] B0;conv=>whnf
 refine Cw.loop (ι:=Nat) (λq=>bl [(0,aN.list.v s),(1,.func (.func g) .nil (.cons (.dq c0 0) .nil)),(6,aN.list.v s),(7,.int .i64 (s.length:Int)),(8,.int .i64 (q:Int))]) (λ_=>[]) (λ_=>⟨bV [],pathOf 64⟩)
  (λq=>q<=s.length/\gk pr (s.drop q) q=gk pr s 0) (λq=>s.length - q) ?_ 0 ⟨Nat.zero_le _,rfl⟩ ?_
 .intro q hq;have h1:q<=s.length:=hq.1;have h2:gk pr (s.drop q) q=gk pr s 0:=hq.2;refine aD af rfl rfl hc _ (aC ?_);refine ay (λh=>?_) (λh=>?_)
  .have h:q<s.length:=Int.ofNat_lt.1 (aO.1 h);have cE:aj .i64 (Int.add (q:Int) 1)=((q+1:Nat):Int):=by
    show aj .i64 ((q:Int)+1)=_;rw [aA (by omega) (by omega)];omega
   rw [List.drop_eq_getElem_cons h]at h2;have h2:(match pr s[q]with|true=>((q:Nat):Int)|false=>gk pr (s.drop (q+1)) (q+1))=gk pr s 0:=h2;conv=>whnf
   refine aL.go q rfl h (aC ?_);refine⟨_,aN.rd rfl h,aC ?_⟩;refine cn (l:=[mL aN s g (.cons (.dq c0 0) .nil) (⟨⟨xB,aB⟩,λ_ _=>rfl,λ_=>⟨aB,aB⟩,rfl⟩) pr wD vx]) (List.nodup_cons.2 ⟨List.not_mem_nil,List.nodup_nil⟩) 0 (c:=mL aN s g (.cons (.dq c0 0) .nil) (⟨⟨xB,aB⟩,λ_ _=>rfl,λ_=>⟨aB,aB⟩,rfl⟩) pr wD vx) rfl s[q] (List.getElem_mem h) (hk:=?_);conv=>whnf
   refine ay (λh3=>?_) (λh3=>?_)
   .have h3:pr s[q]=true:=h3;rw [h3]at h2;have h2:((q:Nat):Int)=gk pr s 0:=h2;conv=>whnf
    exact ak.same (congrArg (AV.int .i64) h2) .int
   .have h3:pr s[q]=false:=h3;rw [h3]at h2;conv=>whnf
    refine⟨q+1,⟨h,h2⟩,by show s.length - (q+1)<s.length - q;omega,?_⟩;refine Sub.of [] [] rfl rfl rfl ?_ trivial;repeat' first|exact aB|exact rfl|refine And.intro ?_ ?_
    all_goals exact cE
  .have h:q=s.length:=(by have:=aX.1 h;have this:((s.length:Nat):Int)<=(q:Int):=this;omega);rw [h,List.drop_length]at h2;conv=>whnf
   exact ak.same (congrArg (AV.int .i64) h2) .int
 .refine Sub.of [] [] rfl rfl rfl ?_ trivial;repeat' first|exact aB|exact rfl|refine And.intro ?_ ?_
end
def NJ {κ:Type} (g:FuncId) (cp:κ ->AV) (ok:κ ->List dh ->Prop) (pr:κ ->dh ->Bool) (inj:∀a b,cp a=cp b ->pr a=pr b) (dp:∀a,DP (cp a)) (pf:∀a s,ok a s ->PF prog 194 (.cons (aN.list.v s) (.cons (.func (.func g) .nil (cp a)) .nil)) ((au .i64).v (gk (pr a) s 0))):Cn prog:=
 ⟨194,true,κ×List dh,λx=> .cons (aN.list.v x.2) (.cons (.func (.func g) .nil (cp x.1)) .nil),λx=>(au .i64).v (gk (pr x.1) x.2 0),λx=>ok x.1 x.2,λa b _ _ h=>by injection h with h1 h2;injection h2 with h2 _;injection h2 with _ _ h2;rw [aN.list.bO h1,inj _ _ h2],λx=>⟨aN.list.jm _,⟨aB,dp _⟩,aB⟩,λ_=> .int,λ_ _=>λ_ _ _ h=>h,λx h=>pf _ _ h,aw rfl rfl⟩
theorem agX {κ:Type} (g:FuncId) (cp:κ ->AV) (ok:κ ->List dh ->Prop) (pr:κ ->dh ->Bool) (inj:∀a b,cp a=cp b ->pr a=pr b) (dp:∀a,DP (cp a)) (pf:∀a s,ok a s ->PF prog 194 (.cons (aN.list.v s) (.cons (.func (.func g) .nil (cp a)) .nil)) ((au .i64).v (gk (pr a) s 0))) (a:κ) (s:List dh) (h:ok a s)
  (bor:∀flat h,jk flat h (cp a)=cp a) (bok:∀h,ij h (cp a)):PF prog 132 (.cons (aN.list.v s) (.cons (.func (.func g) .nil (cp a)) .nil)) (.bool (s.any (pr a))):=by
 refine PF.of_wp (c:=_) af (by decide) (fn:=f132) rfl rfl rfl (.cons (aN.list.an _) (.cons (br (show DP (.func (.func g) .nil (cp a))from⟨aB,dp a⟩)) .nil)) (call:=aH [NJ g cp ok pr inj dp pf]) (λB0=>az ae [NJ g cp ok pr inj dp pf] B0) ?_;intro B0;conv=>whnf
 refine cn (l:=[NJ g cp ok pr inj dp pf]) (List.nodup_cons.2 ⟨List.not_mem_nil,List.nodup_nil⟩) 0 (c:=NJ g cp ok pr inj dp pf) rfl (a,s) h (hbor:=(show ij _ (.cons (aN.list.v s) (.cons (.func (.func g) .nil (cp a)) .nil))from⟨aB,⟨aB,bok _⟩,aB⟩)) (has:=?_) (hk:=?_)
 .show AV.cons _ (.cons (.func (.func g) .nil (cp a)) .nil)= .cons _ (.cons (.func (.func g) .nil (jk true _ (cp a))) .nil);rw [bor];rfl
 conv=>whnf
 refine ak.same ?_ .bool;exact congrArg AV.bool (zW _ _ _)
theorem agY (s t:dh) (h:sU s t):PF prog 133 (.cons (aN.v t) (.cons (.dq (aN.c s .nil) 0) .nil)) (.bool (qZ s t)):=by
 refine PF.go af ae [UO] (fn:=f133) rfl rfl rfl (hpure:= .cons (aN.an _) (.cons (br (show DP (.dq (aN.c s .nil) 0)from aN.lH s .nil)) .nil)) λB0 hc=>?_;conv=>whnf
 refine⟨_,rfl,aE ?_⟩;refine cg [UO] 0 UO (s,t) h (aE ?_) (hl:=List.nodup_cons.2 ⟨List.not_mem_nil,List.nodup_nil⟩);exact ak.same rfl .bool
def QH (s:dh):AV:= .cons (.dq (aN.c s .nil) 0) .nil
theorem HK (a b:dh) (h:QH a=QH b):qZ a=qZ b:=by
 injection h with h _;injection h with h _;rw [aN.bO (congrArg AV.agg h)]
theorem NK (s:dh):DP (QH s):=⟨aN.lH s .nil,aB⟩
def ZP (s:dh) (L:List dh):Prop:=L.length<=4294967296/\∀t∈L,sU s t
theorem aep (s:dh) (L:List dh) (h:ZP s L):PF prog 194 (.cons (aN.list.v L) (.cons (.func (.func 133) .nil (QH s)) .nil)) ((au .i64).v (gk (qZ s) L 0)):=
 agW L _ _ (aN.lH s .nil) _ (λt ht=>agY s t (h.2 t ht)) (aw rfl rfl) h.1
def Vj:Cn prog:=
 ⟨132,true,dh×List dh,λx=> .cons (aN.list.v x.2) (.cons (.func (.func 133) .nil (QH x.1)) .nil),λx=> .bool (x.2.any (qZ x.1)),λx=>ZP x.1 x.2,
  λa b _ _ h=>by injection h with h1 h2;injection h2 with h2 _;injection h2 with _ _ h2;rw [aN.list.bO h1,HK _ _ h2],λx=>⟨aN.list.jm _,⟨aB,NK _⟩,aB⟩,λ_=> .bool,λ_ _=>λ_ _ _ h=>h,
  λx h=>agX _ QH ZP _ HK NK aep x.1 x.2 h (λ_ _=>rfl) (λ_=>⟨aB,aB⟩),aw rfl rfl⟩
end
abbrev mM:=List Nat×Int×List (List V3)
def cH:bW mM:=aV.pair ((au .i64).pair kM.list)
def nE:List dh ->List dh ->Bool
 |_,[]=>false|seen,s::l=>match seen.any (qZ s)with|true=>true|false=>nE (seen++[s]) l
def mN (p:mM):List dh:=p.2.2.map bX
def EK (p:mM):List dh:=match nE [] (mN p)with|true=>[]|false=>mN p
def gL (p:mM):Int:=match nE [] (mN p)with|true=>25|false=>0
structure ug (p:mM):Prop where
 d1:1<=p.2.1
 d2:p.2.1<=1048576
 c0:0<p.2.2.length
 c1:p.2.2.length<=6
 hof:∀l∈p.2.2,QG l (fU l)
 pen:∀a∈p.2.2,∀b∈p.2.2,sU (bX a) (bX b)
def aer:List (Cn prog):=[agU,Cn.lift bZ Vj]
theorem Vk (p:mM) (h:ug p):PF prog 69 (.cons (cH.v p) .nil) (.aS (.cons (aN.list.v (EK p)) (.cons ((au .i64).v (gL p)) .nil))):=by
 obtain⟨nm,d,cs⟩:=p;obtain⟨h1,h2,h3,h4,h5,h6⟩:=h;have h1:1<=d:=h1;have h2:d<=1048576:=h2;have h3:0<cs.length:=h3;have h4:cs.length<=6:=h4;have h5:∀l∈cs,QG l (fU l):=h5;have h6:∀a∈cs,∀b∈cs,sU (bX a) (bX b):=h6;refine PF.go af ae aer (fn:=f69) rfl rfl rfl λB0 hc=>?_;unfold EK gL;have hA:mN (nm,d,cs)=cs.map bX:=rfl;have hAl:(cs.map bX).length=cs.length:=List.length_map ..;rw [hA];conv=>whnf
 refine xA (aX.2 h1) (aE ?_);refine xA (aX.2 h2) (aE ?_);refine xA (jo.2 (show(cs.length:Int)≠0 by omega)) (aE ?_);refine xA (aX.2 (show(cs.length:Int)<=6 by omega)) (aE ?_);refine Cw.lp (σ:=Unit) af rfl rfl hc cs.length (λq _=>[(4,.gs (pathOf 64) q 3),(31,kM.list.v cs),(32,.int .i64 (cs.length:Int)),(33,.int .i64 (q:Int))])
  (λq _=>hp [(64,.gl (aN.l ((cs.take q).map bX)) false)] 65) (λ_ _=>True) () trivial (sb [(64,0)]) (λq _ hq _=>?_)
 conv=>whnf
 refine ay (λk1=>?_) (λk1=>?_)
 .have hq:=pT k1;have cE:=pS hq (by omega);have Ri:=aN.pq bX hq;have hof:=h5 _ (List.getElem_mem hq);conv=>whnf
  refine aL.go q rfl hq (aC ?_);refine⟨_,kM.rd rfl hq,aE ?_⟩;refine cg aer 0 agU cs[q] hof (aE ?_);refine⟨_,rfl,aC ?_⟩;refine⟨aN.ap (q:=q) (gg (Nat.le_of_lt hq)) (by omega),aE ?_⟩;exact⟨(),hq,aB,sb [(64,68)]⟩
 .obtain rfl:=rN hq k1;rw [List.take_length];have qA:∀s∈cs.map bX,∀t∈cs.map bX,sU s t:=λs hs t ht=>by
   obtain⟨a,ha,rfl⟩:=List.mem_map.1 hs;obtain⟨b,hb,rfl⟩:=List.mem_map.1 ht;exact h6 a ha b hb
  have hLn:(cs.map bX).length<=6:=by omega
  rw [<-hAl];generalize cs.map bX=L at*;obtain⟨W,hW⟩:∃W,W=nE [] L:=⟨_,rfl⟩
  rw [<-hW];refine aE ?_;refine Cw.lp (σ:=Unit) af rfl rfl hc L.length (λq _=>[(4,aN.list.v L),(50,aN.list.v L),(51,.int .i64 (L.length:Int)),(52,.int .i64 (q:Int))])
   (λq _=>hp [] 64) (λq _=>nE (L.take q) (L.drop q)=W) () hW.symm ?_ (λq _ hq hs=>?_)
  .have hz:L.length*3=(aN.l L).len:=(aN.ep L).symm;exact sbF [64] []
  conv=>whnf
  refine ay (λk2=>?_) (λk2=>?_)
  .have hq:=pT k2;have cE:=pS hq (by omega);have DD:=hs;rw [List.drop_eq_getElem_cons hq]at DD;have DD:(match (L.take q).any (qZ L[q])with|true=>true|false=>nE (L.take q++[L[q]]) (L.drop (q+1)))=W:=DD;rw [<-List.take_succ_eq_append_getElem hq]at DD;have hcf:ZP L[q] (L.take q):=⟨by rw [List.length_take];omega,λt ht=>qA _ (List.getElem_mem hq) t (List.mem_of_mem_take ht)⟩
   have vx:(L.take q).length=q:=(by rw [List.length_take];omega);conv=>whnf
   refine aL.go q rfl hq (aC ?_);refine⟨_,aN.rd rfl hq,aE ?_⟩;refine JR.go q rfl (Nat.le_of_lt hq) (aC ?_);refine⟨_,aN.PH (xs:=L) (i:=0) (j:=q) (by omega),aE ?_⟩;refine cg aer 1 (Cn.lift bZ Vj) (L[q],L.take q) hcf (aC ?_) (has:=by show AV.cons (.ro (L.take q).length (aN.l (L.take q))) _=_;rw [vx];rfl);refine ay (λk3=>?_) (λk3=>?_)
   .have k3:(L.take q).any (qZ L[q])=true:=k3;rw [k3]at DD;have DD:true=W:=DD;rw [<-DD];refine aE ?_;exact .aS (.cons .bt (.cons (.pure .int) .nil))
   .have k3:(L.take q).any (qZ L[q])=false:=k3;rw [k3]at DD;refine aE ?_;exact⟨(),hq,DD,sb []⟩
  .obtain rfl:=rN hq k2;rw [List.drop_length]at hs;have hs:false=W:=hs;rw [<-hs];refine aE ?_;exact ak.pure (.aS (.cons (aN.list.an L) (.cons .int .nil)))
def oK:Cn prog:= .agV cH aN.list (au .i64) 69 ug EK gL Vk (aw rfl rfl)
theorem Vl (p:mM) (h:ug p):PF prog 74 (.cons (cH.v p) .nil) ((au .i64).v (gL p)):=by
 refine PF.go af ae [oK] (fn:=f74) rfl rfl rfl λB0 hc=>?_;conv=>whnf
 refine cg [oK] 0 oK p h (aE ?_) (hl:=nd1);exact ak.pure .int
def HL:Cn prog:= .mU cH (au .i64) 74 true ug gL (de _) Vl (aw rfl rfl)
def Vm:List (Cn prog):=[oK,abD,Cn.lift bZ EI]
abbrev EL:=Tn×sV
def zZ (p:mM) (y:EL):fA:=match nE [] (mN p)with|true=>(0,[])|false=>vz (p.2.1,mN p) (gh y.1 y.2)
theorem abG {p:mM} (h:nE [] (mN p)=true):EK p=[]/\gL p=25/\∀y,zZ p y=(0,[]):=by
 unfold EK gL zZ;rw [h];exact⟨rfl,rfl,λ_=>rfl⟩
theorem Vn {p:mM} (h:nE [] (mN p)=false):EK p=mN p/\gL p=0/\∀y,zZ p y=vz (p.2.1,mN p) (gh y.1 y.2):=by
 unfold EK gL zZ;rw [h];exact⟨rfl,rfl,λ_=>rfl⟩
structure Cs (p:mM) (y:EL):Prop where
 ok:ug p
 t:y.1∈bN
 s:y.2.OK
 m:nW (p.2.1,mN p) (gh y.1 y.2)
theorem agZ (p:mM) (y:EL) (h:Cs p y):PF prog 37 (.cons (cH.v p) (.cons (plV y.1 y.2) .nil)) (.aS (.cons (bM.v (zZ p y)) (.cons ((au .i64).v (gL p)) .nil))):=by
 obtain⟨h1,h2,h3,h4⟩:=h;refine PF.go af ae Vm (fn:=f37) rfl rfl rfl (hpure:= .cons (cH.an _) (zV _ _)) λB0 hc=>?_;cases hW:nE [] (mN p)with
 |true=>
  obtain⟨e1,e2,e3⟩:=abG hW;rw [e2,e3 y];conv=>whnf
  refine cC (l:=Vm) (by decide) 0 (c:=oK) rfl p h1 (v:= .aS (.cons (aN.list.v []) (.cons ((au .i64).v 25) .nil))) (by show AV.aS (.cons (aN.list.v (EK p)) (.cons ((au .i64).v (gL p)) .nil))=_;rw [e1,e2]) (hk:=?_);refine aE ?_;exact .aS (.cons (.agg (.cons (.pure .int) (.cons .bt .nil))) (.cons (.pure .int) .nil))
 |false=>
  obtain⟨e1,e2,e3⟩:=Vn hW;rw [e2,e3 y];conv=>whnf
  refine cC (l:=Vm) (by decide) 0 (c:=oK) rfl p h1 (v:= .aS (.cons (aN.list.v (mN p)) (.cons ((au .i64).v 0) .nil))) (by show AV.aS (.cons (aN.list.v (EK p)) (.cons ((au .i64).v (gL p)) .nil))=_;rw [e1,e2]) (hk:=?_);refine aE ?_;refine cg Vm 1 abD y ⟨h2,h3⟩ (aE ?_);refine cg Vm 2 (Cn.lift bZ EI) ((p.2.1,mN p),gh y.1 y.2) h4 (aE ?_);exact ak.pure (.aS (.cons (bM.an (vz (p.2.1,mN p) (gh y.1 y.2))) (.cons .int .nil)))
abbrev Nm:=List Nat
abbrev Plc:=Tn×Nm×Nm×Nm
abbrev iF:=Nm×Nm×Plc
abbrev iL:=List mM×List iF
def fj:bW Int:=au .i64
def Le:bW Plc:=(fj.pair (fj.pair (fj.pair fj))).pair (aV.pair (aV.pair aV))
def fk:bW iF:=aV.pair (aV.pair Le)
def eA:bW iL:=cH.list.pair fk.list
def Aa (y:EL):Plc:=(y.1,Bf y.2.1.1 y.2.1.2,Bf y.2.2.1.1 y.2.2.1.2,Bf y.2.2.2.1 y.2.2.2.2)
def nF (r:Plc):EL:=(r.1,rdS r.2.1,rdS r.2.2.1,rdS r.2.2.2)
theorem Ct {y:EL} (h:y.2.OK):nF (Aa y)=y:=by
 obtain⟨t,a,b,c⟩:=y;obtain⟨h1,h2,h3⟩:=h;show(t,rdS (Bf a.1 a.2),rdS (Bf b.1 b.2),rdS (Bf c.1 c.2))=_;rw [ud h1,ud h2,ud h3]
def Ab (r:Plc):Prop:=r=Aa (nF r)/\(nF r).1∈bN/\(nF r).2.OK
def abH:Cn prog:= .mU Le fj 75 true Ab (λ_=>0) (de _) (λr h=>by rw [h.1];exact HC _ h.2.1 _ h.2.2) (aw rfl rfl)
def EM:Cn prog:= .Gy cH Le bM fj 37 (λp r=>Ab r/\Cs p (nF r)) (λp r=>zZ p (nF r)) (λp _=>gL p) (λp r h=>by
 have e:=h.1.1;have k:=agZ p (nF r) h.2;generalize nF r=y at*;rw [e];exact k) (aw rfl rfl)
theorem wE:PR prog 9 aV where
 eqv:=by
  intro a b;show some (kz a b)=_;rw [eN]
 key:=λa=>rfl
 ke:=by
  intro a;show kz a a=true;rw [eN];simp
abbrev Vo:=List (Nm×Bool)
abbrev IxA:=iL×mM
def hFA (i:IxA) (l:Vo):List (Nat×AO):=[(64,cl (eA.cs i.1)),(65,.mp (mE aV bG l)),(66,cl (cH.cs i.2))]
def NL:Av (IxA×Vo) where
 ar:=λi=> .cons (.map (pathOf 65)) (.cons (aV.v i.1.2.1) .nil)
 h0:=λi=>hp (hFA i.1 i.2) 67
 v:=λ_=>fj.v 0
 H:=λi=>(hFA i.1 (i.2++[(i.1.2.1,true)])).map λx=>(pathOf x.1,x.2)
 N:=λ_=>pathOf 75
 ok:=λi=>i.1.2.1∈names/\tM i.1.2.1 i.2 0=none
 inj:=by
  rintro ⟨i,l⟩ ⟨j,k⟩ _ _ e1 e2;injection e1 with _ e1;injection e1 with e1 _;have e3:i.2.1=j.2.1:=aV.bO e1;have g5:some (AO.mp (mE aV bG l))=some (.mp (mE aV bG k)):=congrArg (λh:Heap=>h.t.get (pathOf 65)) e2;injection g5 with g5;injection g5 with g5;have g5:=Es g5;subst g5;have g64:some (cl (eA.cs i.1))=some (cl (eA.cs j.1)):=congrArg (λh:Heap=>h.t.get (pathOf 64)) e2;have g66:some (cl (cH.cs i.2))=some (cl (cH.cs j.2)):=congrArg (λh:Heap=>h.t.get (pathOf 66)) e2;refine⟨rfl,?_,rfl⟩;show(hFA i (l++[(i.2.1,true)])).map _=(hFA j (l++[(j.2.1,true)])).map _;rw [e3];unfold hFA;rw [Option.some.inj g64,Option.some.inj g66]
section
abbrev iFA:aT:=pR bZ 3
attribute [local instance] iFA
theorem ajw (i:IxA) (l:Vo) (h:i.2.1∈names) (hf:tM i.2.1 l 0=none) (B0:Nat) {r:Tr AV} (hr:iH (.cons (.map (pathOf 65)) (.cons (aV.v i.2.1) .nil)) 0 f73.ntmps .leaf=some r):
  Cw prog B0 ⟨prog,73,f73.ntmps,none,aH [Cn.tabs (T:=bZ) (T':=iFA) rfl jb],0⟩ (vK f73) r [] (hp (hFA i l) 67)
   (QK (fK prog f73 (fj.v 0) ((hFA i (l++[(i.2.1,true)])).map λx=>(pathOf x.1,x.2)) (pathOf 75)) (fK prog f73 (fj.v 0) ((hFA i (l++[(i.2.1,true)])).map λx=>(pathOf x.1,x.2)) (pathOf 75)) (λ_ _ _ _=>False)):=by
 cases hr;have hc:=az (P:=prog) ae [Cn.tabs (T:=bZ) (T':=iFA) rfl jb] B0;have tq:l++[(i.2.1,true)]=kW i.2.1 true l:=by unfold kW;rw [hf]
 rw [tq];refine aD (cx:=⟨_,_,_,_,aH [Cn.tabs (T:=bZ) (T':=iFA) rfl jb],0⟩) af rfl rfl hc _ (aC ?_);refine cg [Cn.tabs (T:=bZ) (T':=iFA) rfl jb] 0 (Cn.tabs (T:=bZ) (T':=iFA) rfl jb) i.2.1 h (aE ?_) (hl:=List.nodup_cons.2 ⟨List.not_mem_nil,List.nodup_nil⟩);refine wi (Tb (A:=aV) (B:=bG) wE rfl hf rfl rfl rfl rfl) (aE ?_);refine wi (PS (A:=aV) (B:=bG) (key:=i.2.1) (v:=true) (l:=l) wE rfl rfl rfl rfl rfl) (aE ?_);repeat' first|exact aB|exact rfl|refine And.intro ?_ ?_
end
theorem Vp {B0:Nat} {call:eL ->AV ->Heap ->CR} (aZ:@aU bZ prog B0 call):@aU bZ prog B0 (fQ 73 NL call):=
 jX ae 3 aZ (fn:=f73) rfl rfl NL (λi hi=>⟨_,_,rfl,rfl,(show(pathOf 67).toNat<=(pathOf 75).toNat by decide),ajw i.1 i.2 hi.1 hi.2 B0 rfl⟩)
abbrev IxB:=iL×Vo×iF
def hFB (i:IxB) (l:Vo):List (Nat×AO):=[(64,cl (eA.cs i.1)),(65,.mp (mE aV bG i.2.1)),(66,.mp (mE aV bG l)),(67,cl (fk.cs i.2.2))]
def NM:Av (IxB×Vo) where
 ar:=λi=> .cons (.map (pathOf 66)) (.cons (aV.v i.1.2.2.1) .nil)
 h0:=λi=>hp (hFB i.1 i.2) 68
 v:=λ_=>fj.v 0
 H:=λi=>(hFB i.1 (i.2++[(i.1.2.2.1,true)])).map λx=>(pathOf x.1,x.2)
 N:=λ_=>pathOf 76
 ok:=λi=>i.1.2.2.1∈names/\tM i.1.2.2.1 i.2 0=none
 inj:=by
  rintro ⟨i,l⟩ ⟨j,k⟩ _ _ e1 e2;injection e1 with _ e1;injection e1 with e1 _;have e3:i.2.2.1=j.2.2.1:=aV.bO e1;have g5:some (AO.mp (mE aV bG l))=some (.mp (mE aV bG k)):=congrArg (λh:Heap=>h.t.get (pathOf 66)) e2;injection g5 with g5;injection g5 with g5;have g5:=Es g5;subst g5;have g64:some (cl (eA.cs i.1))=some (cl (eA.cs j.1)):=congrArg (λh:Heap=>h.t.get (pathOf 64)) e2;have g65:some (AO.mp (mE aV bG i.2.1))=some (.mp (mE aV bG j.2.1)):=congrArg (λh:Heap=>h.t.get (pathOf 65)) e2;have g67:some (cl (fk.cs i.2.2))=some (cl (fk.cs j.2.2)):=congrArg (λh:Heap=>h.t.get (pathOf 67)) e2;refine⟨rfl,?_,rfl⟩;show(hFB i (l++[(i.2.2.1,true)])).map _=(hFB j (l++[(j.2.2.1,true)])).map _;rw [e3];unfold hFB;rw [Option.some.inj g64,Option.some.inj g65,Option.some.inj g67]
section
abbrev iFB:aT:=pR bZ 4
attribute [local instance] iFB
theorem ajx (i:IxB) (l:Vo) (h:i.2.2.1∈names) (hf:tM i.2.2.1 l 0=none) (B0:Nat) {r:Tr AV} (hr:iH (.cons (.map (pathOf 66)) (.cons (aV.v i.2.2.1) .nil)) 0 f73.ntmps .leaf=some r):
  Cw prog B0 ⟨prog,73,f73.ntmps,none,aH [Cn.tabs (T:=bZ) (T':=iFB) rfl jb],0⟩ (vK f73) r [] (hp (hFB i l) 68)
   (QK (fK prog f73 (fj.v 0) ((hFB i (l++[(i.2.2.1,true)])).map λx=>(pathOf x.1,x.2)) (pathOf 76)) (fK prog f73 (fj.v 0) ((hFB i (l++[(i.2.2.1,true)])).map λx=>(pathOf x.1,x.2)) (pathOf 76)) (λ_ _ _ _=>False)):=by
 cases hr;have hc:=az (P:=prog) ae [Cn.tabs (T:=bZ) (T':=iFB) rfl jb] B0;have tq:l++[(i.2.2.1,true)]=kW i.2.2.1 true l:=by unfold kW;rw [hf]
 rw [tq];refine aD (cx:=⟨_,_,_,_,aH [Cn.tabs (T:=bZ) (T':=iFB) rfl jb],0⟩) af rfl rfl hc _ (aC ?_);refine cg [Cn.tabs (T:=bZ) (T':=iFB) rfl jb] 0 (Cn.tabs (T:=bZ) (T':=iFB) rfl jb) i.2.2.1 h (aE ?_) (hl:=List.nodup_cons.2 ⟨List.not_mem_nil,List.nodup_nil⟩);refine wi (Tb (A:=aV) (B:=bG) wE rfl hf rfl rfl rfl rfl) (aE ?_);refine wi (PS (A:=aV) (B:=bG) (key:=i.2.2.1) (v:=true) (l:=l) wE rfl rfl rfl rfl rfl) (aE ?_);repeat' first|exact aB|exact rfl|refine And.intro ?_ ?_
end
theorem Vq {B0:Nat} {call:eL ->AV ->Heap ->CR} (aZ:@aU bZ prog B0 call):@aU bZ prog B0 (fQ 73 NM call):=
 jX ae 4 aZ (fn:=f73) rfl rfl NM (λi hi=>⟨_,_,rfl,rfl,(show(pathOf 68).toNat<=(pathOf 76).toNat by decide),ajx i.1 i.2 hi.1 hi.2 B0 rfl⟩)
def Vr:List mM ->Int
 |[]=>0|p::l=>match aY (bD (gL p) 0)with|true=>gL p|false=>Vr l
def ZQ (L:Vo):List iF ->Int
 |[]=>0|x::l=>match (tM x.2.1 L 0).isSome with|true=>ZQ L l|false=>16
def Cu (l:List mM):Vo:=l.map λp=>(p.1,true)
def ZR (l:List iF):Vo:=l.map λx=>(x.1,true)
def uh (a:iL):Int:=match bD (Vr a.1) 0 with|true=>ZQ (Cu a.1) a.2|false=>Vr a.1
structure NN (a:iL):Prop where
 np:a.1.length<=64
 ni:a.2.length<=12
 p:∀p∈a.1,p.1∈names/\ug p
 i:∀x∈a.2,x.1∈names/\Ab x.2.2
 dp:(a.1.map (·.1)).Nodup
 di:(a.2.map (·.1)).Nodup
theorem Ac {k:Nm}:∀{l:Vo} {i:Nat},k ∉ l.map (·.1) ->tM k l i=none
 |[],_,_=>rfl|x::l,i,h=>by
  unfold tM;rw [decide_eq_false (λe=>h (by rw [List.map_cons,e];exact List.mem_cons_self ..))];exact Ac λhk=>h (by rw [List.map_cons];exact List.mem_cons_of_mem _ hk)
theorem HM {k:Nm} {v:Bool}:∀{l:List mM} {i j:Nat},tM k (Cu l) i=some (j,v) ->v=true
 |[],_,_,h=>by cases h
 |p::l,i,j,h=>by
  unfold Cu at h;rw [List.map_cons]at h;unfold tM at h;split at h
  .cases h;rfl
  .exact HM (l:=l) h
theorem NP {α:Type} (f:α ->Nm) {l:List α} (h:(l.map f).Nodup) {q:Nat} (hq:q<l.length):f l[q] ∉ (l.take q).map f:=λhm=>by
 rw [<-List.take_append_drop q l,List.drop_eq_getElem_cons hq,List.map_append,List.map_cons]at h;exact(List.nodup_append.1 h).2.2 _ hm _ (List.mem_cons_self ..) rfl
def tCk:List (Cn prog):=[HL,abH]
def cCk:eL ->AV ->Heap ->CR:=fQ 73 NL (fQ 73 NM (aH tCk))
theorem Vs (B0:Nat):aU prog B0 cCk:=Vp (Vq (az ae tCk B0))
theorem Vt (a:iL) (h:NN a):PF prog 39 (.cons (eA.v a) .nil) (fj.v (uh a)):=by
 obtain⟨hnp,Dq,hpp,hi,hdp,hdi⟩:=h;refine PF.of_wp af (by decide) (fn:=f39) rfl rfl rfl (.cons (eA.an _) .nil) (call:=cCk) (λB0=>Vs B0) λB0=>?_;have hc:=Vs B0;obtain⟨W,hW⟩:∃W,W=uh a:=⟨_,rfl⟩
 rw [<-hW];conv=>whnf
 refine xA (aX.2 (show(a.1.length:Int)<=64 by omega)) (aE ?_);refine Cw.lp (σ:=Unit) af rfl rfl hc a.1.length (λq _=>[(1,.ptr (pathOf 64) 0),(3,.map (pathOf 65)),(19,cH.list.v a.1),(20,.int .i64 (a.1.length:Int)),(21,.int .i64 (q:Int))])
  (λq _=>hp [(64,cl (eA.cs a)),(65,.mp (mE aV bG (Cu (a.1.take q))))] 66) (λq _=>Vr (a.1.drop q)=Vr a.1) () rfl ?_ (λq _ hq hs=>?_)
 .have hz:=jh aV bG (Cu (a.1.take 0));exact sb [(64,64),(65,65)]
 conv=>whnf
 refine ay (λk1=>?_) (λk1=>?_)
 .have hq:=pT k1;have cE:=pS hq (by omega);have hz:=jh aV bG (Cu (a.1.take (q+1)));have hnx:Cu (a.1.take (q+1))=Cu (a.1.take q)++[(a.1[q].1,true)]:=by
   unfold Cu;rw [List.take_succ_eq_append_getElem hq,List.map_append];rfl
  have hpq:=hpp _ (List.getElem_mem hq);have jP:tM a.1[q].1 (Cu (a.1.take q)) 0=none:=Ac (by
   unfold Cu;rw [List.map_map];exact NP (λp:mM=>p.1) hdp hq)
  rw [List.drop_eq_getElem_cons hq]at hs;have hs:(match aY (bD (gL a.1[q]) 0)with|true=>gL a.1[q]|false=>Vr (a.1.drop (q+1)))=Vr a.1:=hs;conv=>whnf
  refine aL.go q rfl hq (aC ?_);refine⟨_,cH.rd rfl hq,aE ?_⟩;rw [hnx]at hz ⊢;generalize Cu (a.1.take q)=l at*;generalize a.1[q]=p at*;refine lO (F:=NL) ((a,p),l) ⟨hpq.1,jP⟩ (hk:=?_);conv=>whnf
  refine bS (by decide) (bS (by decide) (cg tCk 0 HL p hpq.2 (aE ?_)));refine ay (λk2=>?_) (λk2=>?_)
  .have k2:aY (bD (gL p) 0)=true:=k2;rw [k2]at hs;have hs:gL p=Vr a.1:=hs;have XE:bD (gL p) 0=false:=by
    cases hb:bD (gL p) 0 with
    |false=>rfl|true=>rw [hb]at k2;cases k2
   unfold uh at hW;rw [<-hs,XE]at hW;have hW:W=gL p:=hW;rw [hW];refine aE ?_;exact ak.pure .int
  .have k2:aY (bD (gL p) 0)=false:=k2;rw [k2]at hs;refine aE ?_;exact⟨(),hq,hs,sb [(64,64),(65,65)]⟩
 .obtain rfl:=rN hq k1;rw [List.drop_length]at hs;rw [List.take_length];have hs:0=Vr a.1:=hs;unfold uh at hW;rw [<-hs]at hW;have hW:W=ZQ (Cu a.1) a.2:=hW;have hy:=jh aV bG (Cu a.1);have htr:∀{k:Nm} {j:Nat} {v:Bool},tM k (Cu a.1) 0=some (j,v) ->v=true:=λh=>HM h;generalize Cu a.1=L at*;conv=>whnf
  refine xA (aX.2 (show(a.2.length:Int)<=12 by omega)) (aE ?_);refine Cw.lp (σ:=Unit) af rfl rfl hc a.2.length (λq _=>[(3,.map (pathOf 65)),(8,.map (pathOf 66)),(44,fk.list.v a.2),(45,.int .i64 (a.2.length:Int)),(46,.int .i64 (q:Int))])
   (λq _=>hp [(64,cl (eA.cs a)),(65,.mp (mE aV bG L)),(66,.mp (mE aV bG (ZR (a.2.take q))))] 67) (λq _=>ZQ L (a.2.drop q)=W) () hW.symm ?_ (λq _ hq hs=>?_)
  .have hz:=jh aV bG (ZR (a.2.take 0));exact sb [(64,64),(65,65),(66,66)]
  conv=>whnf
  refine ay (λk3=>?_) (λk3=>?_)
  .have hq:=pT k3;have cE:=pS hq (by omega);have hz:=jh aV bG (ZR (a.2.take (q+1)));have hnx:ZR (a.2.take (q+1))=ZR (a.2.take q)++[(a.2[q].1,true)]:=by
    unfold ZR;rw [List.take_succ_eq_append_getElem hq,List.map_append];rfl
   have hiq:=hi _ (List.getElem_mem hq);have jP:tM a.2[q].1 (ZR (a.2.take q)) 0=none:=Ac (by
    unfold ZR;rw [List.map_map];exact NP (λp:iF=>p.1) hdi hq)
   rw [List.drop_eq_getElem_cons hq]at hs;have hs:(match (tM a.2[q].2.1 L 0).isSome with|true=>ZQ L (a.2.drop (q+1))|false=>16)=W:=hs;conv=>whnf
   refine aL.go q rfl hq (aC ?_);refine⟨_,fk.rd rfl hq,aE ?_⟩;rw [hnx]at hz ⊢;generalize ZR (a.2.take q)=l at*;generalize a.2[q]=x at*;refine Nj (λi _ e=>absurd (congrArg Heap.n e) (show pathOf 68≠pathOf 67 by decide)) (lO (F:=NM) ((a,L,x),l) ⟨hiq.1,jP⟩ (hk:=?_));refine aE ?_;cases hf:tM x.2.1 L 0 with
   |none=>
    rw [hf]at hs;have hs:16=W:=hs;refine wi (Tb (A:=aV) (B:=bG) wE rfl hf rfl rfl rfl rfl) ?_;rw [<-hs];refine aE ?_;exact ak.pure .int
   |some z=>
    obtain⟨j,v⟩:=z;obtain rfl:=htr hf;rw [hf]at hs;have hs:ZQ L (a.2.drop (q+1))=W:=hs;refine wi (afz (A:=aV) (B:=bG) wE rfl hf rfl rfl rfl) (aE ?_);refine bS (by decide) (bS (by decide) (cg tCk 1 abH x.2.2 hiq.2 (aE ?_)));exact⟨(),hq,hs,sb [(64,64),(65,65),(66,66)]⟩
  .obtain rfl:=rN hq k3;rw [List.drop_length]at hs;have hs:0=W:=hs;rw [<-hs];refine aE ?_;exact ak.pure .int
def HN:Cn prog:= .mU eA fj 39 true NN uh (de _) Vt (aw rfl rfl)
end
section
attribute [local irreducible] Cw ak bq PF Sub
section
attribute [local instance] fp
theorem Vu (xs:List _) (hn:xs.length<=1048576):dQ 201 (.cons (bL.list.v xs) .nil) (bL.list.v xs):=by
 refine PF.yW (c:=_) (by decide) (fn:=f201) rfl rfl rfl (.cons (bL.list.an _) .nil) (call:=aH (P:=prog) []) (h0:=⟨.leaf,pathOf 64⟩) (λ_ _ e=>by cases e) rfl (λB0=>?_);have hc:=az (P:=prog) ae [] B0;cases xs with
 |nil=>
  refine Cw.vf 0 3 rfl ?_ ?_
  .refine aD af rfl rfl hc _ (aC ?_);exact ak.bt
  .refine aD af rfl rfl hc _ (aC ?_);refine⟨.nil,rfl,aC ?_⟩;refine⟨⟨by decide,rfl,rfl⟩,aC ?_⟩;exact bL.gG (xs:=[]) rfl rfl rfl
 |cons x t=>
  refine aD af rfl rfl hc _ (aC ?_);refine⟨bL.l (x::t),(bL.jW (xs:=x::t) (i:=(x::t).length) (Nat.le_refl _)).trans (by rw [List.take_length]),aC ?_⟩;refine⟨⟨?_,bL.kF _,rfl⟩,?_⟩
  .show(0+(x::t).length)*(24+1)<=1099511627776;omega
  conv=>whnf
  exact bL.gG (xs:=x::t) rfl rfl (Nat.zero_add _)
def vB:Cn prog:= .mU bL.list bL.list 201 false (λl=>l.length<=1048576) (λl=>l) (λe=>by cases e) Vu (aw rfl rfl)
section
variable (s:List mM) (g:FuncId) (c0:AV) (xB:dj c0) (pr:mM ->Bool) (wD:∀x∈s,PF prog g (.cons (cH.v x) (.cons (.dq c0 0) .nil)) (.bool (pr x))) (vx:∃fn,prog.funcs[g]?=some fn/\fn.body.isSome=true)
include wD vx xB
theorem ag0 (hs:s.length<=4294967296):PF prog 139 (.cons (cH.list.v s) (.cons (.func (.func g) .nil (.cons (.dq c0 0) .nil)) .nil)) ((au .i64).v (gk pr s 0)):=by
 refine PF.of_wp (c:=_) af (by decide) (fn:=f139) rfl rfl rfl (.cons (cH.list.an _) (.cons (br (show DP (.func (.func g) .nil (.cons (.dq c0 0) .nil))from⟨aB,(⟨⟨xB,aB⟩,λ_ _=>rfl,λ_=>⟨aB,aB⟩,rfl⟩:Cap (.cons (.dq c0 0) .nil)).dp⟩)) .nil)) (call:=aH [mL cH s g (.cons (.dq c0 0) .nil) (⟨⟨xB,aB⟩,λ_ _=>rfl,λ_=>⟨aB,aB⟩,rfl⟩) pr wD vx]) (λB0=>az ae [mL cH s g (.cons (.dq c0 0) .nil) (⟨⟨xB,aB⟩,λ_ _=>rfl,λ_=>⟨aB,aB⟩,rfl⟩) pr wD vx] B0) ?_;intro B0;have hc:=az (P:=prog) ae [mL cH s g (.cons (.dq c0 0) .nil) (⟨⟨xB,aB⟩,λ_ _=>rfl,λ_=>⟨aB,aB⟩,rfl⟩) pr wD vx] B0;conv=>whnf
 refine Cw.loop (ι:=Nat) (λq=>bl [(0,cH.list.v s),(1,.func (.func g) .nil (.cons (.dq c0 0) .nil)),(6,cH.list.v s),(7,.int .i64 (s.length:Int)),(8,.int .i64 (q:Int))]) (λ_=>[]) (λ_=>⟨bV [],pathOf 64⟩)
  (λq=>q<=s.length/\gk pr (s.drop q) q=gk pr s 0) (λq=>s.length - q) ?_ 0 ⟨Nat.zero_le _,rfl⟩ ?_
 .intro q hq;have h1:q<=s.length:=hq.1;have h2:gk pr (s.drop q) q=gk pr s 0:=hq.2;refine aD af rfl rfl hc _ (aC ?_);refine ay (λh=>?_) (λh=>?_)
  .have h:q<s.length:=Int.ofNat_lt.1 (aO.1 h);have cE:aj .i64 (Int.add (q:Int) 1)=((q+1:Nat):Int):=by
    show aj .i64 ((q:Int)+1)=_;rw [aA (by omega) (by omega)];omega
   rw [List.drop_eq_getElem_cons h]at h2;have h2:(match pr s[q]with|true=>((q:Nat):Int)|false=>gk pr (s.drop (q+1)) (q+1))=gk pr s 0:=h2;conv=>whnf
   refine aL.go q rfl h (aC ?_);refine⟨_,cH.rd rfl h,aC ?_⟩;refine cn (l:=[mL cH s g (.cons (.dq c0 0) .nil) (⟨⟨xB,aB⟩,λ_ _=>rfl,λ_=>⟨aB,aB⟩,rfl⟩) pr wD vx]) (List.nodup_cons.2 ⟨List.not_mem_nil,List.nodup_nil⟩) 0 (c:=mL cH s g (.cons (.dq c0 0) .nil) (⟨⟨xB,aB⟩,λ_ _=>rfl,λ_=>⟨aB,aB⟩,rfl⟩) pr wD vx) rfl s[q] (List.getElem_mem h) (hk:=?_);conv=>whnf
   refine ay (λh3=>?_) (λh3=>?_)
   .have h3:pr s[q]=true:=h3;rw [h3]at h2;have h2:((q:Nat):Int)=gk pr s 0:=h2;conv=>whnf
    exact ak.same (congrArg (AV.int .i64) h2) .int
   .have h3:pr s[q]=false:=h3;rw [h3]at h2;conv=>whnf
    refine⟨q+1,⟨h,h2⟩,by show s.length - (q+1)<s.length - q;omega,?_⟩;refine Sub.of [] [] rfl rfl rfl ?_ trivial;repeat' first|exact aB|exact rfl|refine And.intro ?_ ?_
    all_goals exact cE
  .have h:q=s.length:=(by have:=aX.1 h;have this:((s.length:Nat):Int)<=(q:Int):=this;omega);rw [h,List.drop_length]at h2;conv=>whnf
   exact ak.same (congrArg (AV.int .i64) h2) .int
 .refine Sub.of [] [] rfl rfl rfl ?_ trivial;repeat' first|exact aB|exact rfl|refine And.intro ?_ ?_
end
def ag1 {κ:Type} (g:FuncId) (cp:κ ->AV) (ok:κ ->List mM ->Prop) (pr:κ ->mM ->Bool) (inj:∀a b,cp a=cp b ->pr a=pr b) (dp:∀a,DP (cp a)) (pf:∀a s,ok a s ->PF prog 139 (.cons (cH.list.v s) (.cons (.func (.func g) .nil (cp a)) .nil)) ((au .i64).v (gk (pr a) s 0))):Cn prog:=
 ⟨139,true,κ×List mM,λx=> .cons (cH.list.v x.2) (.cons (.func (.func g) .nil (cp x.1)) .nil),λx=>(au .i64).v (gk (pr x.1) x.2 0),λx=>ok x.1 x.2,λa b _ _ h=>by injection h with h1 h2;injection h2 with h2 _;injection h2 with _ _ h2;rw [cH.list.bO h1,inj _ _ h2],λx=>⟨cH.list.jm _,⟨aB,dp _⟩,aB⟩,λ_=> .int,λ_ _=>λ_ _ _ h=>h,λx h=>pf _ _ h,aw rfl rfl⟩
theorem ag2 (nm:Nm) (p:mM):dQ 140 (.cons (cH.v p) (.cons (.dq (aV.c nm .nil) 0) .nil)) (.bool (decide (p.1=nm))):=by
 refine PF.go af ae [] (fn:=f140) rfl rfl rfl (hpure:= .cons (cH.an _) (.cons (br (show DP (.dq (aV.c nm .nil) 0)from aV.lH nm .nil)) .nil)) λB0 hc=>?_;refine aE ?_;refine⟨_,rfl,aC ?_⟩;exact ak.same (congrArg AV.bool (eN _ _)) .bool
def ZS (s:Nm):AV:= .cons (.dq (aV.c s .nil) 0) .nil
theorem Vv (a b:Nm) (h:ZS a=ZS b):(λp:mM=>decide (p.1=a))=λp=>decide (p.1=b):=by
 injection h with h _;injection h with h _;injection h with h _;injection h with h;rw [h]
theorem ZT (s:Nm):DP (ZS s):=⟨aV.lH s .nil,aB⟩
def Vw:Cn prog:=ag1 140 ZS (λ_ L=>L.length<=4294967296) (λs p=>decide (p.1=s)) Vv ZT (λs L h=>ag0 L _ _ (aV.lH s .nil) _ (λp _=>ag2 s p) (aw rfl rfl) h)
def hCp (p:mM):List (Nat×AO):=[(64,cl (cH.cs p)),(65,cl [.str [],.int .i64 0,.bt])]
def aes (p:mM):List (Nat×AO):=[(64,cl (cH.cs p)),(65,cl [.str [],.int .i64 0,.bt]),(67,.gl (kM.l p.2.2) false)]
def rl:Av mM where
 ar:=λp=> .cons (kM.list.v p.2.2) .nil
 h0:=λp=>hp (hCp p) 66
 v:=λp=> .gs (pathOf 67) p.2.2.length 1
 H:=λp=>(aes p).map λx=>(pathOf x.1,x.2)
 N:=λ_=>pathOf 68
 ok:=λp=>0<p.2.2.length/\p.2.2.length<=1000
 inj:=by
  rintro p q _ _ e1 e2;injection e1 with e1 _;have e3:p.2.2=q.2.2:=kM.list.bO e1;have g1:some (cl (cH.cs p))=some (cl (cH.cs q)):=congrArg (λh:Heap=>h.t.get (pathOf 64)) e2;unfold aes;rw [e3,Option.some.inj g1];exact⟨rfl,rfl,rfl⟩
end
section
abbrev iCp:aT:=pR fp 2
attribute [local instance] iCp
theorem ajy (p:mM) (h:0<p.2.2.length/\p.2.2.length<=1000) (B0:Nat):Cw prog B0 ⟨prog,200,f200.ntmps,none,aH (P:=prog) [],0⟩ (vK f200) (fnR f200 (rl.ar p)) [] (rl.h0 p)
  (QK (fK prog f200 (rl.v p) (rl.H p) (rl.N p)) (fK prog f200 (rl.v p) (rl.H p) (rl.N p)) (λ_ _ _ _=>False)):=by
 obtain⟨nm,d,cs⟩:=p;obtain⟨h1,h2⟩:=h;have h1:0<cs.length:=h1;have h2:cs.length<=1000:=h2;have hc:=az (P:=prog) ae [] B0;obtain⟨x,t,rfl⟩:=List.exists_cons_of_ne_nil (List.ne_nil_of_length_pos h1);refine aD (cx:=⟨_,_,_,_,aH (P:=prog) [],0⟩) af rfl rfl hc _ (aC ?_);refine⟨kM.l (x::t),(kM.jW (xs:=x::t) (i:=(x::t).length) (Nat.le_refl _)).trans (by rw [List.take_length]),aC ?_⟩;refine⟨⟨?_,kM.kF _,rfl⟩,?_⟩
 .show(0+(x::t).length)*(24+1)<=1099511627776;omega
 conv=>whnf
 refine⟨?_,rfl,rfl,rfl,rfl,aB⟩;show AV.gs (pathOf 67) (0+(x::t).length) 1= .gs (pathOf 67) (x::t).length 1;rw [Nat.zero_add]
end
section
attribute [local instance] fp
def cCp:eL ->AV ->Heap ->CR:=fQ 200 rl (aH [vB])
theorem Vx (B0:Nat):aU prog B0 cCp:=
 jX ae 2 (az ae [vB] B0) (fn:=f200) rfl rfl rl (λi hi=>⟨_,_,rfl,rfl,(show(pathOf 66).toNat<=(pathOf 68).toNat by decide),ajy i hi B0⟩)
structure NQ (p:mM):Prop where
 c0:0<p.2.2.length
 c1:p.2.2.length<=1000
 v:∀l∈p.2.2,l.length<=1048576
theorem ag3 (p:mM) (h:NQ p):dQ 141 (.cons (cH.v p) .nil) (cH.v p):=by
 obtain⟨h1,h2,h3⟩:=h;refine PF.of_wp af (by decide) (fn:=f141) rfl rfl rfl (.cons (cH.an _) .nil) (call:=cCp) (λB0=>Vx B0) λB0=>?_;have hc:=Vx B0;conv=>whnf
 refine lO (F:=rl) p ⟨h1,h2⟩ (hk:=?_);conv=>whnf
 refine Cw.lp (σ:=Unit) af rfl rfl hc p.2.2.length (λq _=>[(1,.ptr (pathOf 64) 0),(2,.ptr (pathOf 65) 0),(3,.gs (pathOf 67) p.2.2.length 1),(9,.gs (pathOf 67) p.2.2.length 1),(10,.int .i64 (p.2.2.length:Int)),(11,.int .i64 (q:Int))])
  (λq _=>hp (aes p) 68) (λ_ _=>True) () trivial (sb [(64,64),(65,65),(67,67)]) (λq _ hq _=>?_)
 conv=>whnf
 refine ay (λk1=>?_) (λk1=>?_)
 .have hq:=pT k1;have cE:=pS hq (by omega);have hl:=h3 _ (List.getElem_mem hq);have tq:p.2.2.set q p.2.2[q]=p.2.2:=List.set_getElem_self hq;conv=>whnf
  refine aL.go q rfl hq (aC ?_);refine⟨_,kM.rd rfl hq,aE ?_⟩;refine bS (by decide) (cg [vB] 0 vB p.2.2[q] hl (aE ?_) (hl:=List.nodup_cons.2 ⟨List.not_mem_nil,List.nodup_nil⟩));refine aL.go q rfl hq (aE ?_);refine kM.st (xs:=p.2.2) (i:=q) p.2.2[q] hq ?_;rw [tq];refine aE ?_;exact⟨(),hq,aB,sb [(64,64),(65,65),(67,67)]⟩
 .obtain rfl:=rN hq k1;refine aE ?_;exact .agg (.cons (.pure (aV.an _)) (.cons (.pure .int) (.cons (kM.gG rfl rfl rfl) .nil)))
def abI:Cn prog:= .mU cH cH 141 false NQ (λp=>p) (λe=>by cases e) ag3 (aw rfl rfl)
def fx (a:iL) (s:Nm):mM:=(a.1.find? λp=>decide (p.1=s)).getD ([],0,[])
theorem Cv {α:Type} (pr:α ->Bool) (d:α):∀(l:List α) (i:Nat),(∃x∈l,pr x=true) ->∃j,j<l.length/\gk pr l i=((i+j:Nat):Int)/\(l.find? pr).getD d=l.getD j d
 |[],_,h=>by obtain⟨_,h,_⟩:=h;cases h
 |x::l,i,h=>by
  unfold gk;rw [List.find?_cons];cases hp:pr x with
  |true=>exact⟨0,Nat.succ_pos _,rfl,rfl⟩|false=>
   obtain⟨y,hy,hy2⟩:=h;rcases List.mem_cons.1 hy with rfl|hy
   .rw [hp]at hy2;cases hy2
   obtain⟨j,h1,h2,h3⟩:=Cv pr d l (i+1) ⟨y,hy,hy2⟩;refine⟨j+1,Nat.succ_lt_succ h1,?_,h3⟩;rw [show i+(j+1)=i+1+j by omega];exact h2
structure ZU (a:iL) (s:Nm):Prop where
 n:a.1.length<=64
 h:∃p∈a.1,p.1=s
 c:∀p∈a.1,NQ p
def tPt:List (Cn prog):=[Vw,abI]
theorem ZV (a:iL) (s:Nm) (h:ZU a s):dQ 76 (.cons (eA.v a) (.cons (aV.v s) .nil)) (.aS (.cons (cH.v (fx a s)) (.cons (bG.v true) .nil))):=by
 obtain⟨hn,⟨p,hp,hps⟩,eH⟩:=h;obtain⟨j,hj,e1,e2⟩:=Cv (λp:mM=>decide (p.1=s)) ([],0,[]) a.1 0 ⟨p,hp,decide_eq_true hps⟩;have e3:fx a s=a.1[j]:=by
  unfold fx;rw [e2,List.getD_eq_getElem?_getD,List.getElem?_eq_getElem hj];rfl
 have hcj:=eH _ (List.getElem_mem hj);rw [Nat.zero_add]at e1;rw [e3];refine PF.go af ae tPt (fn:=f76) rfl rfl rfl λB0 hc=>?_;conv=>whnf
 refine cC (l:=tPt) (by decide) 0 (c:=Vw) rfl (s,a.1) (by show a.1.length<=4294967296;omega) (v:=(au .i64).v (j:Int)) (congrArg (au .i64).v e1) (hk:=?_);refine aE ?_;refine aL.go j rfl hj (aC ?_);refine⟨_,cH.rd rfl hj,aE ?_⟩;refine cg tPt 1 abI a.1[j] hcj (aC ?_);repeat(first|(refine nw ?_;conv=>whnf)|(refine nw ?_ ⟨_,cH.rd (P:=prog) rfl hj,cH.rd (P:=prog) rfl hj⟩;conv=>whnf))
 exact ak.pure (.aS (.cons (cH.an a.1[j]) (.cons .bool .nil)))
def NR:Cn prog:= .Gy eA aV cH bG 76 ZU fx (λ_ _=>true) ZV (aw rfl rfl)
end
section
attribute [local instance] fp
def eU8:bW Int:=au .u8
abbrev I3:=Int×Int×Int
def eU3:bW I3:=eU8.pair (eU8.pair eU8)
abbrev Bk:=Int×I3×I3
def mR:bW Bk:=eU8.pair (eU3.pair eU3)
def U8 (x:Int):Prop:=0<=x/\x<=255
def U83 (x:I3):Prop:=U8 x.1/\U8 x.2.1/\U8 x.2.2
def lB (b:Bk):Prop:=U8 b.1/\U83 b.2.1/\U83 b.2.2
def ceA (r:Int) (b:Bk):AV:= .cons (.agg (.cons (.xp .u8 6 (r - 6)) (eU3.c b.2.1 (eU3.c b.2.2 .nil)))) .nil
def crd (i a s:Int):Int:=aj .i64 (Int.add (aj .i64 (Int.tmod a 5)) (aj .i64 (Int.mul i (aj .i64 (Int.add 1 (aj .i64 (Int.tmod s 3)))))))
def Fp (b:Bk) (x:I3):V3:=(crd x.1 b.2.1.1 b.2.2.1,crd x.2.1 b.2.1.2.1 b.2.2.2.1,crd x.2.2 b.2.1.2.2 b.2.2.2.2)
def xD (r:Int):List I3:=([(0,0,0),(0,0,1),(0,1,0),(0,1,1),(1,0,0),(1,0,1),(1,1,0),(1,1,1)]:List I3).filter λx=>!((r==2 &&x.1+x.2.1>1)||(r==3 &&x.1+x.2.1<1)||(r==4 &&x.1+x.2.1+x.2.2>1)||(r==5 &&x.1+x.2.1+x.2.2<2))
theorem oL (r:Int) (b:Bk):dj (ceA r b):=by
 refine .cons (.agg (.cons ?_ (.cons .int (.cons .int (.cons .int (.cons .int (.cons .int (.cons .int .nil)))))))) .nil;exact λ_ _ _ _ h=>h
end
section
attribute [local instance] fp
theorem ZW (b:Bk):dQ 128 (ceA 0 b) (kM.v ((xD 0).map (Fp b))):=by
 refine PF.go af ae [] (fn:=f128) rfl rfl rfl (hpure:=oL _ _) λB0 hc=>?_;conv=>whnf
 repeat(first|(refine Cw.bH af rfl rfl hc 8 ?_;conv=>whnf)|(refine nw ?_ (by decide);conv=>whnf)|(refine nw ?_;conv=>whnf)|(refine⟨_,rfl,?_⟩;(conv=>whnf);first|(refine⟨⟨by decide,rfl⟩,?_⟩;conv=>whnf)|(refine⟨⟨by decide,rfl,rfl⟩,?_⟩;conv=>whnf)))
 exact .agg (.cons (bL.gG (xs:=(xD 0).map (Fp b)) rfl rfl rfl) .nil)
end
section
attribute [local instance] fp
theorem ZX (b:Bk):dQ 128 (ceA 1 b) (kM.v ((xD 1).map (Fp b))):=by
 refine PF.go af ae [] (fn:=f128) rfl rfl rfl (hpure:=oL _ _) λB0 hc=>?_;conv=>whnf
 repeat(first|(refine Cw.bH af rfl rfl hc 8 ?_;conv=>whnf)|(refine nw ?_ (by decide);conv=>whnf)|(refine nw ?_;conv=>whnf)|(refine⟨_,rfl,?_⟩;(conv=>whnf);first|(refine⟨⟨by decide,rfl⟩,?_⟩;conv=>whnf)|(refine⟨⟨by decide,rfl,rfl⟩,?_⟩;conv=>whnf)))
 exact .agg (.cons (bL.gG (xs:=(xD 1).map (Fp b)) rfl rfl rfl) .nil)
end
section
attribute [local instance] fp
theorem ZY (b:Bk):dQ 128 (ceA 2 b) (kM.v ((xD 2).map (Fp b))):=by
 refine PF.go af ae [] (fn:=f128) rfl rfl rfl (hpure:=oL _ _) λB0 hc=>?_;conv=>whnf
 repeat(first|(refine Cw.bH af rfl rfl hc 8 ?_;conv=>whnf)|(refine nw ?_ (by decide);conv=>whnf)|(refine nw ?_;conv=>whnf)|(refine⟨_,rfl,?_⟩;(conv=>whnf);first|(refine⟨⟨by decide,rfl⟩,?_⟩;conv=>whnf)|(refine⟨⟨by decide,rfl,rfl⟩,?_⟩;conv=>whnf)))
 exact .agg (.cons (bL.gG (xs:=(xD 2).map (Fp b)) rfl rfl rfl) .nil)
end
section
attribute [local instance] fp
theorem ZZ (b:Bk):dQ 128 (ceA 3 b) (kM.v ((xD 3).map (Fp b))):=by
 refine PF.go af ae [] (fn:=f128) rfl rfl rfl (hpure:=oL _ _) λB0 hc=>?_;conv=>whnf
 repeat(first|(refine Cw.bH af rfl rfl hc 8 ?_;conv=>whnf)|(refine nw ?_ (by decide);conv=>whnf)|(refine nw ?_;conv=>whnf)|(refine⟨_,rfl,?_⟩;(conv=>whnf);first|(refine⟨⟨by decide,rfl⟩,?_⟩;conv=>whnf)|(refine⟨⟨by decide,rfl,rfl⟩,?_⟩;conv=>whnf)))
 exact .agg (.cons (bL.gG (xs:=(xD 3).map (Fp b)) rfl rfl rfl) .nil)
end
section
attribute [local instance] fp
theorem aac (b:Bk):dQ 128 (ceA 4 b) (kM.v ((xD 4).map (Fp b))):=by
 refine PF.go af ae [] (fn:=f128) rfl rfl rfl (hpure:=oL _ _) λB0 hc=>?_;conv=>whnf
 repeat(first|(refine Cw.bH af rfl rfl hc 8 ?_;conv=>whnf)|(refine nw ?_ (by decide);conv=>whnf)|(refine nw ?_;conv=>whnf)|(refine⟨_,rfl,?_⟩;(conv=>whnf);first|(refine⟨⟨by decide,rfl⟩,?_⟩;conv=>whnf)|(refine⟨⟨by decide,rfl,rfl⟩,?_⟩;conv=>whnf)))
 exact .agg (.cons (bL.gG (xs:=(xD 4).map (Fp b)) rfl rfl rfl) .nil)
end
section
attribute [local instance] fp
theorem aad (b:Bk):dQ 128 (ceA 5 b) (kM.v ((xD 5).map (Fp b))):=by
 refine PF.go af ae [] (fn:=f128) rfl rfl rfl (hpure:=oL _ _) λB0 hc=>?_;conv=>whnf
 repeat(first|(refine Cw.bH af rfl rfl hc 8 ?_;conv=>whnf)|(refine nw ?_ (by decide);conv=>whnf)|(refine nw ?_;conv=>whnf)|(refine⟨_,rfl,?_⟩;(conv=>whnf);first|(refine⟨⟨by decide,rfl⟩,?_⟩;conv=>whnf)|(refine⟨⟨by decide,rfl,rfl⟩,?_⟩;conv=>whnf)))
 exact .agg (.cons (bL.gG (xs:=(xD 5).map (Fp b)) rfl rfl rfl) .nil)
end
section
attribute [local instance] fp
theorem PF.args {P:Program} {f:FuncId} {xs xs' v:AV} (e:∀μ l,cJ μ xs l ->cJ μ xs' l) (h:PF P f xs' v):PF P f xs v:=by
 unfold PF at h ⊢;exact λs w hs ht cargs hc=>h s w hs ht cargs (e _ _ hc)
theorem aae (b:Bk) (h:lB b):dQ 128 (.cons (mR.v b) .nil) (kM.v ((xD (b.1 % 6)).map (Fp b))):=by
 obtain⟨⟨h1,h2⟩,_,_⟩:=h;have key:∀r,b.1 % 6=r ->0<r+1 ->r<6 ->dQ 128 (ceA r b) (kM.v ((xD r).map (Fp b))) ->dQ 128 (.cons (mR.v b) .nil) (kM.v ((xD (b.1 % 6)).map (Fp b))):=λr hr hp h6 hk=>by
  rw [hr];refine PF.args (λμ l hl=>?_) hk;obtain⟨v,t,rfl,⟨c,e,v1,r1,e1,g1,g2⟩,g3⟩:=hl;exact⟨v,t,rfl,⟨c,e,v1,r1,e1,⟨b.1,g1,λe=>absurd e (by omega),λ_=>⟨h1,h2,by omega⟩⟩,g2⟩,g3⟩
 have cR:b.1 % 6<6:=Int.emod_lt_of_pos _ (by decide);have RT:0<=b.1 % 6:=Int.emod_nonneg _ (by decide);obtain h|h|h|h|h|h:b.1 % 6=0\/b.1 % 6=1\/b.1 % 6=2\/b.1 % 6=3\/b.1 % 6=4\/b.1 % 6=5:=by omega
 .exact key 0 h (by decide) (by decide) (ZW b)
 .exact key 1 h (by decide) (by decide) (ZX b)
 .exact key 2 h (by decide) (by decide) (ZY b)
 .exact key 3 h (by decide) (by decide) (ZZ b)
 .exact key 4 h (by decide) (by decide) (aac b)
 .exact key 5 h (by decide) (by decide) (aad b)
def cL (b:Bk):List V3:=(xD (b.1 % 6)).map (Fp b)
def wF:Cn prog:= .mU mR kM 128 false lB cL (λe=>by cases e) aae (aw rfl rfl)
end
end
end
end Go.Sy
