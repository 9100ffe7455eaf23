/- A piece of the proof, made small by a program of ours. -/
import Derived.Test.YtihglcfnelokaaaGreatDoorP17
set_option linter.all false
set_option maxRecDepth 1000000
set_option maxHeartbeats 0
namespace Go.Sy
noncomputable section
open Go.RowKit Go.Proofs Go.Proofs.Tryz
section
attribute [local irreducible] Cw aj bE PF Sub
attribute [local instance] bJ
def Qr (s t:Int):Int:=Bool.casesOn (motive:=λ_=>Int) (dj s t) s t
def Qs:List (cW×cW) ->Int ->Int
 |[],s=>s|p::l,s=>match bG (Qr s (lG p.1 p.2)) 3 with|true=>Qr s (lG p.1 p.2)|false=>Qs l (Qr s (lG p.1 p.2))
def prs (a b:fi):List (cW×cW):=a.2.flatMap λx=>b.2.map λy=>(x,y)
def nM (a b:fi):Int:=Qs (prs a b) 1
structure nN (a b:fi):Prop where
 na:a.2.length<=1000000
 nb:b.2.length<=1000000
 s:∀x∈a.2,∀y∈b.2,wz x y
theorem Qt (a b:fi) (h:nN a b):PF prog 125 (.cons (bc.v a) (.cons (bc.v b) .nil)) ((aq .i64).v (nM a b)):=by
 obtain⟨da,X⟩:=a;obtain⟨db,Y⟩:=b;obtain⟨hX,hY,hs⟩:=h;have hX:X.length<=1000000:=hX;have hY:Y.length<=1000000:=hY;have hs:∀x∈X,∀y∈Y,wz x y:=hs;refine PF.go af ae [mM] (fn:=f125) rfl rfl rfl λB0 hc=>?_;have iP:([mM].map Cn.f).Nodup:=List.nodup_cons.2 ⟨List.not_mem_nil,List.nodup_nil⟩;obtain⟨W,hW⟩:∃W,W=nM (da,X) (db,Y):=⟨_,rfl⟩
 rw [<-hW];conv=>whnf
 refine Cw.lp (σ:=Int) af rfl rfl hc X.length (λq s=>[(2,.ptr (pathOf 64) 0),(3,.ptr (pathOf 65) 0),(5,.int .i64 s),(11,aL.list.v X),(12,.int .i64 (X.length:Int)),(13,.int .i64 (q:Int))])
  (λq s=>hp [(64,cl [.int .i64 da,aL.list.v X]),(65,cl [.int .i64 db,aL.list.v Y])] 66) (λq s=>Qs ((X.drop q).flatMap λx=>Y.map λy=>(x,y)) s=W) 1 hW.symm (sb [(64,64),(65,65)]) (λq s hq KM=>?_)
 conv=>whnf
 refine an (λh1=>?_) (λh1=>?_)
 .have hq:=mY h1;have bM:=mX hq (by omega);rw [List.drop_eq_getElem_cons hq,List.flatMap_cons]at KM;have AN:X[q]∈X:=List.getElem_mem hq;conv=>whnf
  refine aG.go q rfl hq (aB ?_);refine⟨_,aL.rd rfl hq,aC ?_⟩;generalize X[q]=x at*;obtain⟨R,hR⟩:∃R,R=(X.drop (q+1)).flatMap λx=>Y.map λy=>(x,y):=⟨_,rfl⟩
  rw [<-hR]at KM;refine Cw.lp (σ:=Int) af rfl rfl hc Y.length (λp s=>[(2,.ptr (pathOf 64) 0),(3,.ptr (pathOf 65) 0),(5,.int .i64 s),(7,.ptr (pathOf 66) 0),(11,aL.list.v X),(12,.int .i64 (X.length:Int)),(13,.int .i64 (q:Int)),(18,aL.list.v Y),(19,.int .i64 (Y.length:Int)),(20,.int .i64 (p:Int))])
   (λp s=>hp [(64,cl [.int .i64 da,aL.list.v X]),(65,cl [.int .i64 db,aL.list.v Y]),(66,cl (lS x))] 67) (λp s=>Qs (((Y.drop p).map λy=>(x,y))++R) s=W) s KM (sb [(64,64),(65,65),(66,66)]) (λp s hp cS=>?_)
  conv=>whnf
  refine an (λh2=>?_) (λh2=>?_)
  .have hp:=mY h2;have KB:=mX hp (by omega);rw [List.drop_eq_getElem_cons hp,List.map_cons,List.cons_append]at cS;have cS:(match bG (Qr s (lG x Y[p])) 3 with|true=>Qr s (lG x Y[p])|false=>Qs (((Y.drop (p+1)).map λy=>(x,y))++R) (Qr s (lG x Y[p])))=W:=cS;conv=>whnf
   refine aG.go p rfl hp (aB ?_);refine⟨_,aL.rd rfl hp,aC ?_⟩;refine cg [mM] 0 mM (x,Y[p]) (hs _ AN _ (List.getElem_mem hp)) (aC ?_) (hl:=iP);refine an (λh3=>?_) (λh3=>?_)
   .have h3:bG (Qr s (lG x Y[p])) 3=true:=h3;rw [h3]at cS;have cS:Qr s (lG x Y[p])=W:=cS;rw [<-cS];refine aC ?_;exact aj.pure .int
   .have h3:bG (Qr s (lG x Y[p])) 3=false:=h3;rw [h3]at cS;refine aC ?_;exact⟨Qr s (lG x Y[p]),hp,cS,sb [(64,64),(65,65),(66,66)]⟩
  .have hpe:=ou hp h2;subst hpe;rw [List.drop_length]at cS;have cS:Qs R s=W:=cS;rw [hR]at cS;refine aC ?_;exact⟨s,hq,cS,sb [(64,64),(65,65)]⟩
 .have Ia:=ou hq h1;subst Ia;rw [List.drop_length]at KM;have KM:s=W:=KM;rw [<-KM];refine aC ?_;exact aj.pure .int
def Cq:Cn prog:= .kz bc bc (aq .i64) 125 false nN nM (λe=>by cases e) Qt (au rfl rfl)
theorem qf {h:Heap} {t u:AV} (k:bE h t u):bE h (.cons (.bool false) (.cons .bA (.cons (.bool false) (.cons .bA t)))) (.cons (.bool false) (.cons (aM.v 0) (.cons (.bool false) (.cons (aM.v 0) u)))):=
 .cons (.pure .bool) (.cons .bA (.cons (.pure .bool) (.cons .bA k)))
def um (a b:cW) (d:Q3):List Q3 ->yg ->yg ->Option (yg×yg)
 |[],f,t=>some (f,t)|n::l,f,t=>match bG (cQ n d).1.sign 0 with
  |true=>(match gg 0 (gE a b n).1.sign with|true=>none|false=>um a b d l f t)
  |false=>match bG (cQ n d).1.sign 1 with
   |true=>um a b d l (AA Q.max f (Q.div (gE a b n) (cQ n d))) t|false=>um a b d l f (AA Q.min t (Q.div (gE a b n) (cQ n d)))
def KN (a b:cW) (d:Q3):List Q3 ->yg ->yg ->Prop
 |[],f,t=>f.2=true ->t.2=true ->de f.1 t.1|n::l,f,t=>(Hs a b n/\oP n d)/\(match bG (cQ n d).1.sign 0 with
  |true=>(match gg 0 (gE a b n).1.sign with|true=>True|false=>KN a b d l f t)
  |false=>Qh (gE a b n) (cQ n d)/\(match bG (cQ n d).1.sign 1 with
   |true=>(f.2=true ->de (Q.div (gE a b n) (cQ n d)) f.1)/\KN a b d l (AA Q.max f (Q.div (gE a b n) (cQ n d))) t|false=>(t.2=true ->de (Q.div (gE a b n) (cQ n d)) t.1)/\KN a b d l f (AA Q.min t (Q.div (gE a b n) (cQ n d)))))
abbrev IvR:=Q×Q×Bool×Int
def b0:yg:=((0,0),false)
def Cr (x:Option (yg×yg)):IvR:=match x with
 |none=>((0,0),(0,0),false,0)
 |some (f,t)=>match f.2 with
  |false=>((0,0),(0,0),false,0)
  |true=>match t.2 with
   |false=>((0,0),(0,0),false,0)
   |true=>match gg 0 (Q.cmp f.1 t.1)with
    |true=>((0,0),(0,0),false,0)
    |false=>(f.1,t.1,true,0)
def uz (a b:cW) (d:Q3):IvR:=match dP d with|true=>((0,0),(0,0),false,19)|false=>Cr (um a b d (pS a b) b0 b0)
structure Zv (a b:cW) (d:Q3):Prop where
 z:ri de d z3
 ax:zT a b
 go:dP d=false ->KN a b d (pS a b) b0 b0
def ivV (x:IvR):AV:= .aO (.cons (aK.v x.1) (.cons (aK.v x.2.1) (.cons (bj.v x.2.2.1) (.cons ((aq .i64).v x.2.2.2) .nil))))
def UG:List (Cn prog):=[Cn.lift bJ iX,Ep,Cn.lift bJ Ng,Cn.lift bJ kF,Cn.lift bJ iC,Cn.lift bJ uc,Cn.lift bJ cn]
def cIv:dY ->AV ->Heap ->CR:=fx 194 UD (aE UG)
theorem UH (B0:Nat):aW prog B0 cIv:=Zq (ay ae UG B0)
theorem Ac (a b:cW) (d:Q3) (h:Zv a b d):PF prog 148 (.cons (aL.v a) (.cons (aL.v b) (.cons (aN.v d) .nil))) (ivV (uz a b d)):=by
 obtain⟨hz,hax,HZ⟩:=h;refine PF.of_wp af (by decide) (fn:=f148) rfl rfl rfl (.cons (aL.ak _) (.cons (aL.ak _) (.cons (aN.ak _) .nil))) (call:=cIv) (λB0=>UH B0) λB0=>?_;have hc:=UH B0;unfold uz;have hlen:(pS a b).length<=1000000:=by
  unfold pS;rw [(kT oT _).length_eq,List.length_map];exact hax.n
 conv=>whnf
 refine bP (by decide) (cg UG 0 (Cn.lift bJ iX) d hz (aC ?_));refine an (λh1=>?_) (λh1=>?_)
 .have h1:dP d=true:=h1;rw [h1];refine aC ?_;exact .aO (.cons (.agg (qf .nil)) (.cons (.agg (qf .nil)) (.cons (.pure .bool) (.cons (.pure .int) .nil))))
 .have h1:dP d=false:=h1;have HZ:=HZ h1;rw [h1];refine aC ?_;refine bP (by decide) (cg UG 1 Ep (a,b) hax (aB ?_));generalize pS a b=L at*;obtain⟨W,hW⟩:∃W,W=um a b d L b0 b0:=⟨_,rfl⟩
  rw [<-hW];refine Cw.lp (σ:=yg×yg) af rfl rfl hc L.length (λq x=>[(3,.ptr (pathOf 64) 0),(4,.ptr (pathOf 65) 0),(5,.ptr (pathOf 66) 0),(6,.ptr (pathOf 67) 0),(7,.ptr (pathOf 68) 0),(8,.bool false),(9,.int .i64 0),(10,.ptr (pathOf 69) 0),(11,.ptr (pathOf 70) 0),(26,aN.list.v L),(27,.int .i64 (L.length:Int)),(28,.int .i64 (q:Int))])
   (λq x=>hp [(64,cl (lS a)),(65,cl (lS b)),(66,cl (nE d)),(67,cl zL),(68,cl zL),(69,cl (Bg x.1)),(70,cl (Bg x.2))] 71) (λq x=>KN a b d (L.drop q) x.1 x.2/\um a b d (L.drop q) x.1 x.2=W) (b0,b0) ⟨HZ,hW.symm⟩ (sb [(64,64),(65,65),(66,66),(67,67),(68,68),(69,69),(70,70)]) (λq x hq hs=>?_)
  obtain⟨f,t⟩:=x;obtain⟨dt,kL⟩:=hs;conv=>whnf
  refine an (λh3=>?_) (λh3=>?_)
  .have hq:=mY h3;have bM:=mX hq (by omega);rw [List.drop_eq_getElem_cons hq]at dt kL;obtain⟨⟨hg,hd⟩,dt⟩:=dt;have kL:(match bG (cQ L[q] d).1.sign 0 with
    |true=>(match gg 0 (gE a b L[q]).1.sign with|true=>none|false=>um a b d (L.drop (q+1)) f t)
    |false=>match bG (cQ L[q] d).1.sign 1 with
     |true=>um a b d (L.drop (q+1)) (AA Q.max f (Q.div (gE a b L[q]) (cQ L[q] d))) t|false=>um a b d (L.drop (q+1)) f (AA Q.min t (Q.div (gE a b L[q]) (cQ L[q] d))))=W:=kL
   conv=>whnf
   refine aG.go q rfl hq (aB ?_);refine⟨_,aN.rd rfl hq,aC ?_⟩;refine bP (by decide) (cg UG 2 (Cn.lift bJ Ng) (a,b,L[q]) hg (aC ?_));refine bP (by decide) (cg UG 3 (Cn.lift bJ kF) (L[q],d) hd (aC ?_));refine bP (by decide) (cg UG 4 (Cn.lift bJ iC) (cQ L[q] d) aA (aC ?_));refine an (λh4=>?_) (λh4=>?_)
   .have h4:bG (cQ L[q] d).1.sign 0=true:=h4;rw [h4]at dt kL;conv=>whnf
    refine bP (by decide) (cg UG 4 (Cn.lift bJ iC) (gE a b L[q]) aA (aC ?_));refine an (λh5=>?_) (λh5=>?_)
    .have h5:gg 0 (gE a b L[q]).1.sign=true:=h5;rw [h5]at kL;have kL:none=W:=kL;rw [<-kL];refine aC ?_;exact .aO (.cons (.agg (qf .nil)) (.cons (.agg (qf .nil)) (.cons (.pure .bool) (.cons (.pure .int) .nil))))
    .have h5:gg 0 (gE a b L[q]).1.sign=false:=h5;rw [h5]at dt kL;refine aC ?_;exact⟨(f,t),hq,⟨dt,kL⟩,sb [(64,64),(65,65),(66,66),(67,67),(68,68),(69,69),(70,70)]⟩
   .have h4:bG (cQ L[q] d).1.sign 0=false:=h4;rw [h4]at dt kL;obtain⟨hdv,dt⟩:=dt;conv=>whnf
    refine an (λh5=>?_) (λh5=>?_)
    .have h5:bG (cQ L[q] d).1.sign 1=true:=h5;rw [h5]at dt kL;obtain⟨hcm,dt⟩:=dt;refine aC ?_;refine bP (by decide) (cg UG 5 (Cn.lift bJ uc) (gE a b L[q],cQ L[q] d) hdv (aC ?_));refine lO (F:=UD) (true,⟨a,b,d,L[q],gE a b L[q],cQ L[q] d,Q.div (gE a b L[q]) (cQ L[q] d)⟩,f,t) hcm (hk:=?_);refine aC ?_;exact⟨(AA Q.max f (Q.div (gE a b L[q]) (cQ L[q] d)),t),hq,⟨dt,kL⟩,sb [(64,64),(65,65),(66,66),(67,67),(68,68),(69,69),(70,70)]⟩
    .have h5:bG (cQ L[q] d).1.sign 1=false:=h5;rw [h5]at dt kL;obtain⟨hcm,dt⟩:=dt;refine aC ?_;refine bP (by decide) (cg UG 5 (Cn.lift bJ uc) (gE a b L[q],cQ L[q] d) hdv (aC ?_));refine lO (F:=UD) (false,⟨a,b,d,L[q],gE a b L[q],cQ L[q] d,Q.div (gE a b L[q]) (cQ L[q] d)⟩,f,t) hcm (hk:=?_);refine aC ?_;exact⟨(f,AA Q.min t (Q.div (gE a b L[q]) (cQ L[q] d))),hq,⟨dt,kL⟩,sb [(64,64),(65,65),(66,66),(67,67),(68,68),(69,69),(70,70)]⟩
  .have Ia:=ou hq h3;subst Ia;rw [List.drop_length]at dt kL;have kL:some (f,t)=W:=kL;have dt:f.2=true ->t.2=true ->de f.1 t.1:=dt;obtain⟨fv,fs⟩:=f;obtain⟨tv,ts⟩:=t;rw [<-kL];cases fs with
   |false=>
    refine aC ?_;exact .aO (.cons (.agg (qf .nil)) (.cons (.agg (qf .nil)) (.cons (.pure .bool) (.cons (.pure .int) .nil))))
   |true=>
    cases ts with
    |false=>
     refine aC ?_;exact .aO (.cons (.agg (qf .nil)) (.cons (.agg (qf .nil)) (.cons (.pure .bool) (.cons (.pure .int) .nil))))
    |true=>
     have hcm:=dt rfl rfl;conv=>whnf
     refine bP (by decide) (cg UG 6 (Cn.lift bJ cn) (fv,tv) hcm (aC ?_));refine an (λh6=>?_) (λh6=>?_)
     .have h6:gg 0 (Q.cmp fv tv)=true:=h6;have he:Cr (some ((fv,true),(tv,true)))=((0,0),(0,0),false,0):=by
       show(match gg 0 (Q.cmp fv tv)with|true=>_|false=>_)=_;rw [h6]
      rw [he];refine aC ?_;exact .aO (.cons (.agg (qf .nil)) (.cons (.agg (qf .nil)) (.cons (.pure .bool) (.cons (.pure .int) .nil))))
     .have h6:gg 0 (Q.cmp fv tv)=false:=h6;have he:Cr (some ((fv,true),(tv,true)))=(fv,tv,true,0):=by
       show(match gg 0 (Q.cmp fv tv)with|true=>_|false=>_)=_;rw [h6]
      rw [he];refine aC ?_;exact aj.pure (.aO (.cons (aK.ak _) (.cons (aK.ak _) (.cons .bool (.cons .int .nil)))))
def Ad:Cn prog:=
 ⟨148,false,cW×cW×Q3,λx=> .cons (aL.v x.1) (.cons (aL.v x.2.1) (.cons (aN.v x.2.2) .nil)),λx=>ivV (uz x.1 x.2.1 x.2.2),λx=>Zv x.1 x.2.1 x.2.2,
  λa b _ _ h=>by injection h with h1 h;injection h with h2 h;injection h with h3 _;rw [aL.aZ h1,aL.aZ h2,aN.aZ h3],λx=>⟨aL.eK _,aL.eK _,aN.eK _,aA⟩,
  λx=> .aO (.cons (aK.ak _) (.cons (aK.ak _) (.cons .bool (.cons .int .nil)))),λe=>Bool.noConfusion e,λx h=>Ac x.1 x.2.1 x.2.2 h,au rfl rfl⟩
end
section
attribute [local irreducible] Cw aj bE PF Sub
attribute [local instance] fe
structure Cap (C:AV):Prop where
 dp:DP C
 bor:∀flat h,ji flat h C=C
 ok:∀h,ia h C
 len:jj C=[]
def mO {α:Type} (E:bX α) (s:List α) (g:FuncId) (C:AV) (hC:Cap C) (pr:α ->Bool) (wC:∀x∈s,PF prog g (.cons (E.v x) C) (.bool (pr x))) (vC:∃fn,prog.funcs[g]?=some fn/\fn.body.isSome=true):Cn prog:=
 ⟨g,true,α,λx=> .cons (E.v x) C,λx=> .bool (pr x),λx=>x∈s,λa b _ _ h=>by injection h with h1 _;rw [E.aZ h1],λx=>⟨E.eK x,hC.dp⟩,λ_=> .bool,λ_ _=>λ_ _ _ h=>h,wC,vC⟩
def fp {α:Type} (pr:α ->Bool):List α ->Nat ->Int
 |[],_=> -1|x::l,i=>match pr x with|true=>(i:Int)|false=>fp pr l (i+1)
theorem vD {α:Type} (pr:α ->Bool):∀(l:List α) (i:Nat),gg 0 (fp pr l i)=l.any pr
 |[],_=>rfl|x::l,i=>by
  unfold fp;cases h:pr x with
  |true=>simp [h];exact cA.2 (Int.natCast_nonneg _)|false=>simp [h];exact vD pr l (i+1)
section
variable (s:List V3) (g:FuncId) (c0 c1 c2:AV) (xE:dh c0) (AM:dh c1) (Fa:dh c2) (pr:V3 ->Bool) (wC:∀x∈s,PF prog g (.cons (bR.v x) (.cons (.cR c0 0) (.cons (.cR c1 0) (.cons (.cR c2 0) .nil)))) (.bool (pr x))) (vC:∃fn,prog.funcs[g]?=some fn/\fn.body.isSome=true)
include wC vC xE AM Fa
theorem agT (hs:s.length<=4294967296):PF prog 302 (.cons (bR.list.v s) (.cons (.func (.func g) .nil (.cons (.cR c0 0) (.cons (.cR c1 0) (.cons (.cR c2 0) .nil)))) .nil)) ((aq .i64).v (fp pr s 0)):=by
 refine PF.of_wp (c:=_) af (by decide) (fn:=f302) rfl rfl rfl (.cons (bR.list.ak _) (.cons (aV (show DP (.func (.func g) .nil (.cons (.cR c0 0) (.cons (.cR c1 0) (.cons (.cR c2 0) .nil))))from⟨aA,(⟨⟨xE,AM,Fa,aA⟩,λ_ _=>rfl,λ_=>⟨aA,aA,aA,aA⟩,rfl⟩:Cap (.cons (.cR c0 0) (.cons (.cR c1 0) (.cons (.cR c2 0) .nil)))).dp⟩)) .nil)) (call:=aE [mO bR s g (.cons (.cR c0 0) (.cons (.cR c1 0) (.cons (.cR c2 0) .nil))) (⟨⟨xE,AM,Fa,aA⟩,λ_ _=>rfl,λ_=>⟨aA,aA,aA,aA⟩,rfl⟩) pr wC vC]) (λB0=>ay ae [mO bR s g (.cons (.cR c0 0) (.cons (.cR c1 0) (.cons (.cR c2 0) .nil))) (⟨⟨xE,AM,Fa,aA⟩,λ_ _=>rfl,λ_=>⟨aA,aA,aA,aA⟩,rfl⟩) pr wC vC] B0) ?_;intro B0;have hc:=ay (P:=prog) ae [mO bR s g (.cons (.cR c0 0) (.cons (.cR c1 0) (.cons (.cR c2 0) .nil))) (⟨⟨xE,AM,Fa,aA⟩,λ_ _=>rfl,λ_=>⟨aA,aA,aA,aA⟩,rfl⟩) pr wC vC] B0;conv=>whnf
 refine Cw.loop (ι:=Nat) (λq=>bm [(0,bR.list.v s),(1,.func (.func g) .nil (.cons (.cR c0 0) (.cons (.cR c1 0) (.cons (.cR c2 0) .nil)))),(6,bR.list.v s),(7,.int .i64 (s.length:Int)),(8,.int .i64 (q:Int))]) (λ_=>[]) (λ_=>⟨bW [],pathOf 64⟩)
  (λq=>q<=s.length/\fp pr (s.drop q) q=fp pr s 0) (λq=>s.length - q) ?_ 0 ⟨Nat.zero_le _,rfl⟩ ?_
 .intro q hq;have h1:q<=s.length:=hq.1;have h2:fp pr (s.drop q) q=fp pr s 0:=hq.2;refine aD af rfl rfl hc _ (aB ?_);refine an (λh=>?_) (λh=>?_)
  .have h:q<s.length:=Int.ofNat_lt.1 (aQ.1 h);have bM:ah .i64 (Int.add (q:Int) 1)=((q+1:Nat):Int):=by
    show ah .i64 ((q:Int)+1)=_;rw [az (by omega) (by omega)];omega
   rw [List.drop_eq_getElem_cons h]at h2;have h2:(match pr s[q]with|true=>((q:Nat):Int)|false=>fp pr (s.drop (q+1)) (q+1))=fp pr s 0:=h2;conv=>whnf
   refine aG.go q rfl h (aB ?_);refine⟨_,bR.rd rfl h,aB ?_⟩;refine ct (l:=[mO bR s g (.cons (.cR c0 0) (.cons (.cR c1 0) (.cons (.cR c2 0) .nil))) (⟨⟨xE,AM,Fa,aA⟩,λ_ _=>rfl,λ_=>⟨aA,aA,aA,aA⟩,rfl⟩) pr wC vC]) (List.nodup_cons.2 ⟨List.not_mem_nil,List.nodup_nil⟩) 0 (c:=mO bR s g (.cons (.cR c0 0) (.cons (.cR c1 0) (.cons (.cR c2 0) .nil))) (⟨⟨xE,AM,Fa,aA⟩,λ_ _=>rfl,λ_=>⟨aA,aA,aA,aA⟩,rfl⟩) pr wC vC) rfl s[q] (List.getElem_mem h) (hk:=?_);conv=>whnf
   refine an (λh3=>?_) (λh3=>?_)
   .have h3:pr s[q]=true:=h3;rw [h3]at h2;have h2:((q:Nat):Int)=fp pr s 0:=h2;conv=>whnf
    exact aj.same (congrArg (AV.int .i64) h2) .int
   .have h3:pr s[q]=false:=h3;rw [h3]at h2;conv=>whnf
    refine⟨q+1,⟨h,h2⟩,by show s.length - (q+1)<s.length - q;omega,?_⟩;refine Sub.of [] [] rfl rfl rfl ?_ trivial;repeat' first|exact aA|exact rfl|refine And.intro ?_ ?_
    all_goals exact bM
  .have h:q=s.length:=(by have:=bf.1 h;have this:((s.length:Nat):Int)<=(q:Int):=this;omega);rw [h,List.drop_length]at h2;conv=>whnf
   exact aj.same (congrArg (AV.int .i64) h2) .int
 .refine Sub.of [] [] rfl rfl rfl ?_ trivial;repeat' first|exact aA|exact rfl|refine And.intro ?_ ?_
end
def Ni {κ:Type} (g:FuncId) (cp:κ ->AV) (ok:κ ->List V3 ->Prop) (pr:κ ->V3 ->Bool) (inj:∀a b,cp a=cp b ->pr a=pr b) (dp:∀a,DP (cp a)) (pf:∀a s,ok a s ->PF prog 302 (.cons (bR.list.v s) (.cons (.func (.func g) .nil (cp a)) .nil)) ((aq .i64).v (fp (pr a) s 0))):Cn prog:=
 ⟨302,true,κ×List V3,λx=> .cons (bR.list.v x.2) (.cons (.func (.func g) .nil (cp x.1)) .nil),λx=>(aq .i64).v (fp (pr x.1) x.2 0),λx=>ok x.1 x.2,λa b _ _ h=>by injection h with h1 h2;injection h2 with h2 _;injection h2 with _ _ h2;rw [bR.list.aZ h1,inj _ _ h2],λx=>⟨bR.list.eK _,⟨aA,dp _⟩,aA⟩,λ_=> .int,λ_ _=>λ_ _ _ h=>h,λx h=>pf _ _ h,au rfl rfl⟩
theorem agU {κ:Type} (g:FuncId) (cp:κ ->AV) (ok:κ ->List V3 ->Prop) (pr:κ ->V3 ->Bool) (inj:∀a b,cp a=cp b ->pr a=pr b) (dp:∀a,DP (cp a)) (pf:∀a s,ok a s ->PF prog 302 (.cons (bR.list.v s) (.cons (.func (.func g) .nil (cp a)) .nil)) ((aq .i64).v (fp (pr a) s 0))) (a:κ) (s:List V3) (h:ok a s)
  (bor:∀flat h,ji flat h (cp a)=cp a) (bok:∀h,ia h (cp a)):PF prog 263 (.cons (bR.list.v s) (.cons (.func (.func g) .nil (cp a)) .nil)) (.bool (s.any (pr a))):=by
 refine PF.of_wp (c:=_) af (by decide) (fn:=f263) rfl rfl rfl (.cons (bR.list.ak _) (.cons (aV (show DP (.func (.func g) .nil (cp a))from⟨aA,dp a⟩)) .nil)) (call:=aE [Ni g cp ok pr inj dp pf]) (λB0=>ay ae [Ni g cp ok pr inj dp pf] B0) ?_;intro B0;conv=>whnf
 refine ct (l:=[Ni g cp ok pr inj dp pf]) (List.nodup_cons.2 ⟨List.not_mem_nil,List.nodup_nil⟩) 0 (c:=Ni g cp ok pr inj dp pf) rfl (a,s) h (hbor:=(show ia _ (.cons (bR.list.v s) (.cons (.func (.func g) .nil (cp a)) .nil))from⟨aA,⟨aA,bok _⟩,aA⟩)) (has:=?_) (hk:=?_)
 .show AV.cons _ (.cons (.func (.func g) .nil (cp a)) .nil)= .cons _ (.cons (.func (.func g) .nil (ji true _ (cp a))) .nil);rw [bor];rfl
 conv=>whnf
 refine aj.same ?_ .bool;exact congrArg AV.bool (vD _ _ _)
def EA (l:List V3) (i j k:Nat):V3:=eD (bU (l.getD j (0,0,0)) (l.getD i (0,0,0))) (bU (l.getD k (0,0,0)) (l.getD i (0,0,0)))
def vE (l:List V3) (n:V3) (i:Nat) (p:V3):Bool:=aU (bG (iW n (bU p (l.getD i (0,0,0)))) 0)
abbrev FlC:=V3×List V3×Nat
def Hy (x:FlC):AV:= .cons (.cR (bR.c x.1 .nil) 0) (.cons (.cR (.cons (bR.list.v x.2.1) .nil) 0) (.cons (.cR (.cons (.int .i64 (x.2.2:Int)) .nil) 0) .nil))
def Zw:List (Cn prog):=[nC,vy]
theorem Zx (x:FlC) (p:V3) (hi:x.2.2<x.2.1.length):PF prog 264 (.cons (bR.v p) (Hy x)) (.bool (vE x.2.1 x.1 x.2.2 p)):=by
 obtain⟨n,l,i⟩:=x;have hi:i<l.length:=hi;refine PF.of_wp (c:=_) af (by decide) (fn:=f264) rfl rfl rfl (.cons (bR.ak _) (.cons .cR (.cons .cR (.cons .cR .nil)))) (call:=aE Zw) (λB0=>ay ae Zw B0) ?_;intro B0;conv=>whnf
 repeat(refine⟨_,rfl,?_⟩;conv=>whnf)
 refine aG.go i rfl hi (aB ?_);refine⟨_,bR.rd rfl hi,aB ?_⟩;refine ct (l:=Zw) (by decide) 0 (c:=nC) rfl (p,l[i]) trivial (hk:=?_);conv=>whnf
 repeat(refine nx ?_;conv=>whnf)
 refine ct (l:=Zw) (by decide) 1 (c:=vy) rfl (n,bU p l[i]) trivial (hk:=?_);conv=>whnf
 repeat(refine nx ?_;conv=>whnf)
 refine aj.same ?_ .bool;show AV.bool (aU (bG (iW n (bU p l[i])) 0))=AV.bool (aU (bG (iW n (bU p (l.getD i (0,0,0)))) 0));rw [List.getD_eq_getElem?_getD,List.getElem?_eq_getElem hi];rfl
theorem Hz (a b:FlC) (h:Hy a=Hy b):vE a.2.1 a.1 a.2.2=vE b.2.1 b.1 b.2.2:=by
 obtain⟨n,l,i⟩:=a;obtain⟨m,k,j⟩:=b;injection h with h1 h;injection h with h2 h;injection h with h3 _;injection h1 with h1 _;injection h2 with h2 _;injection h3 with h3 _;injection h2 with h2 _;injection h3 with h3 _;injection h3 with _ h3;have e1:n=m:=bR.aZ (congrArg AV.agg h1);have e2:l=k:=bR.list.aZ h2;have e3:i=j:=Int.ofNat_inj.1 h3;subst e1 e2 e3;rfl
theorem UI (x:FlC) (s:List V3) (h:x.2.2<x.2.1.length/\s.length<=4294967296):PF prog 302 (.cons (bR.list.v s) (.cons (.func (.func 264) .nil (Hy x)) .nil)) ((aq .i64).v (fp (vE x.2.1 x.1 x.2.2) s 0)):=
 agT s _ _ _ _ (bR.fN x.1 .nil) (.cons (bR.list.ak _) .nil) (.cons .int .nil) _ (λp _=>Zx x p h.1) (au rfl rfl) h.2
theorem Nj (x:FlC):DP (Hy x):=⟨bR.fN x.1 .nil,.cons (bR.list.ak _) .nil,.cons .int .nil,aA⟩
theorem UJ (x:FlC) (s:List V3) (h:x.2.2<x.2.1.length/\s.length<=4294967296):PF prog 263 (.cons (bR.list.v s) (.cons (.func (.func 264) .nil (Hy x)) .nil)) (.bool (s.any (vE x.2.1 x.1 x.2.2))):=
 agU _ Hy (λx s=>x.2.2<x.2.1.length/\s.length<=4294967296) _ Hz Nj UI x s h (λ_ _=>rfl) (λ_=>⟨aA,aA,aA,aA⟩)
def HA:Cn prog:=
 ⟨263,true,FlC×List V3,λx=> .cons (bR.list.v x.2) (.cons (.func (.func 264) .nil (Hy x.1)) .nil),λx=> .bool (x.2.any (vE x.1.2.1 x.1.1 x.1.2.2)),λx=>x.1.2.2<x.1.2.1.length/\x.2.length<=4294967296,
  λa b _ _ h=>by injection h with h1 h2;injection h2 with h2 _;injection h2 with _ _ h2;rw [bR.list.aZ h1,Hz _ _ h2],λx=>⟨bR.list.eK _,⟨aA,Nj _⟩,aA⟩,λ_=> .bool,λ_ _=>λ_ _ _ h=>h,λx h=>UJ _ _ h,au rfl rfl⟩
def Ae:List (Cn prog):=[nC,pK,HA]
def Zy (l:List V3) (i j:Nat):Nat ->Nat ->Option Bool
 |0,_=>none|r+1,k=>match isZ (EA l i j k)with|true=>Zy l i j r (k+1)|false=>some (aU (l.any (vE l (EA l i j k) i)))
def QT (l:List V3) (i:Nat):Nat ->Nat ->Option Bool
 |0,_=>none|r+1,j=>match Zy l i j j 0 with|some b=>some b|none=>QT l i r (j+1)
def Nk (l:List V3):Nat ->Nat ->Option Bool
 |0,_=>none|r+1,i=>match QT l i i 0 with|some b=>some b|none=>Nk l r (i+1)
def kl (l:List V3):Bool:=(Nk l l.length 0).getD true
theorem aeh (l:List V3) (hl:l.length<=4096):PF prog 208 (.cons (bR.list.v l) .nil) (.bool (kl l)):=by
 refine PF.of_wp (c:=_) af (by decide) (fn:=f208) rfl rfl rfl (.cons (bR.list.ak _) .nil) (call:=aE Ae) (λB0=>ay ae Ae B0) ?_;intro B0;have hc:=ay (P:=prog) ae Ae B0;conv=>whnf
 refine Cw.loop (ι:=Nat) (λq=>bm [(1,.ptr (pathOf 64) 0),(8,.int .i64 (l.length:Int)),(9,.int .i64 (q:Int))]) (λ_=>[]) (λ_=>⟨bW [(pathOf 64,.cells (bm [(0,bR.list.v l)]) 1 false)],pathOf 65⟩)
  (λq=>q<=l.length/\(Nk l (l.length - q) q).getD true=kl l) (λq=>l.length - q) ?_ 0 ⟨Nat.zero_le _,rfl⟩ ?_
 .intro i hi;have g1:i<=l.length:=hi.1;have g2:(Nk l (l.length - i) i).getD true=kl l:=hi.2;refine aD af rfl rfl hc _ (aB ?_);refine an (λh1=>?_) (λh1=>?_)
  .have hi:i<l.length:=Int.ofNat_lt.1 (aQ.1 h1);have bM:ah .i64 (Int.add (i:Int) 1)=((i+1:Nat):Int):=by
    show ah .i64 ((i:Int)+1)=_;rw [az (by omega) (by omega)];omega
   rw [show l.length - i=(l.length - (i+1))+1 by omega]at g2;have g2:(match QT l i i 0 with|some b=>some b|none=>Nk l (l.length - (i+1)) (i+1)).getD true=kl l:=g2;conv=>whnf
   refine Cw.loop (ι:=Nat) (λq=>bm [(1,.ptr (pathOf 64) 0),(3,.ptr (pathOf 65) 0),(8,.int .i64 (l.length:Int)),(9,.int .i64 (i:Int)),(12,.int .i64 (i:Int)),(13,.int .i64 (q:Int))]) (λ_=>[]) (λ_=>⟨bW [(pathOf 64,.cells (bm [(0,bR.list.v l)]) 1 false),(pathOf 65,.cells (bm [(0,.int .i64 (i:Int))]) 1 false)],pathOf 66⟩)
    (λq=>q<=i/\(match QT l i (i - q) q with|some b=>some b|none=>Nk l (l.length - (i+1)) (i+1)).getD true=kl l) (λq=>i - q) ?_ 0 ⟨Nat.zero_le _,g2⟩ ?_
   .intro j hj;have k1:j<=i:=hj.1;have k2:(match QT l i (i - j) j with|some b=>some b|none=>Nk l (l.length - (i+1)) (i+1)).getD true=kl l:=hj.2;refine aD af rfl rfl hc _ (aB ?_);refine an (λh2=>?_) (λh2=>?_)
    .have hj:j<i:=Int.ofNat_lt.1 (aQ.1 h2);have ad6:ah .i64 (Int.add (j:Int) 1)=((j+1:Nat):Int):=by
      show ah .i64 ((j:Int)+1)=_;rw [az (by omega) (by omega)];omega
     rw [show i - j=(i - (j+1))+1 by omega]at k2;have k2:(match (match Zy l i j j 0 with|some b=>some b|none=>QT l i (i - (j+1)) (j+1))with|some b=>some b|none=>Nk l (l.length - (i+1)) (i+1)).getD true=kl l:=k2;conv=>whnf
     refine Cw.loop (ι:=Nat) (λq=>bm [(1,.ptr (pathOf 64) 0),(3,.ptr (pathOf 65) 0),(4,.int .i64 (j:Int)),(8,.int .i64 (l.length:Int)),(9,.int .i64 (i:Int)),(12,.int .i64 (i:Int)),(13,.int .i64 (j:Int)),(16,.int .i64 (j:Int)),(17,.int .i64 (q:Int))]) (λ_=>[]) (λ_=>⟨bW [(pathOf 64,.cells (bm [(0,bR.list.v l)]) 1 false),(pathOf 65,.cells (bm [(0,.int .i64 (i:Int))]) 1 false)],pathOf 66⟩)
      (λq=>q<=j/\(match (match Zy l i j (j - q) q with|some b=>some b|none=>QT l i (i - (j+1)) (j+1))with|some b=>some b|none=>Nk l (l.length - (i+1)) (i+1)).getD true=kl l) (λq=>j - q) ?_ 0 ⟨Nat.zero_le _,k2⟩ ?_
     .intro k hk;have m1:k<=j:=hk.1;have m2:(match (match Zy l i j (j - k) k with|some b=>some b|none=>QT l i (i - (j+1)) (j+1))with|some b=>some b|none=>Nk l (l.length - (i+1)) (i+1)).getD true=kl l:=hk.2;refine aD af rfl rfl hc _ (aB ?_);refine an (λh3=>?_) (λh3=>?_)
      .have hk:k<j:=Int.ofNat_lt.1 (aQ.1 h3);have KH:ah .i64 (Int.add (k:Int) 1)=((k+1:Nat):Int):=by
        show ah .i64 ((k:Int)+1)=_;rw [az (by omega) (by omega)];omega
       rw [show j - k=(j - (k+1))+1 by omega]at m2;conv=>whnf
       have Ib:i<l.length:=hi;have hjl:j<l.length:=(by omega);have hkl:k<l.length:=(by omega);repeat(refine⟨_,rfl,?_⟩;conv=>whnf)
       refine aG.go j rfl hjl (aB ?_);refine⟨_,bR.rd rfl hjl,aB ?_⟩;repeat(refine⟨_,rfl,?_⟩;conv=>whnf)
       refine aG.go i rfl Ib (aB ?_);refine⟨_,bR.rd rfl Ib,aB ?_⟩;repeat(refine⟨_,rfl,?_⟩;conv=>whnf)
       refine aG.go k rfl hkl (aB ?_);refine⟨_,bR.rd rfl hkl,aB ?_⟩;repeat(refine⟨_,rfl,?_⟩;conv=>whnf)
       refine aG.go i rfl Ib (aB ?_);refine⟨_,bR.rd rfl Ib,aB ?_⟩;refine ct (l:=Ae) (by decide) 0 (c:=nC) rfl (l[j],l[i]) trivial (hk:=?_);refine sZ ?_;refine ct (l:=Ae) (by decide) 0 (c:=nC) rfl (l[k],l[i]) trivial (hk:=?_);refine sZ ?_;refine ct (l:=Ae) (by decide) 1 (c:=pK) rfl (bU l[j] l[i],bU l[k] l[i]) trivial (hk:=?_);refine sZ ?_;have hn:EA l i j k=eD (bU l[j] l[i]) (bU l[k] l[i]):=by
        unfold EA;rw [List.getD_eq_getElem?_getD,List.getD_eq_getElem?_getD,List.getD_eq_getElem?_getD,List.getElem?_eq_getElem Ib,List.getElem?_eq_getElem hjl,List.getElem?_eq_getElem hkl];rfl
       have m3:(match (match (match isZ (EA l i j k)with|true=>Zy l i j (j - (k+1)) (k+1)|false=>some (aU (l.any (vE l (EA l i j k) i))))with|some b=>some b|none=>QT l i (i - (j+1)) (j+1))with|some b=>some b|none=>Nk l (l.length - (i+1)) (i+1)).getD true=kl l:=m2;rw [hn]at m3;refine an (λh4=>?_) (λh4=>?_)
       .have h4:isZ (eD (bU l[j] l[i]) (bU l[k] l[i]))=true:=h4;rw [h4]at m3;conv=>whnf
        refine⟨k+1,⟨hk,m3⟩,by show j - (k+1)<j - k;omega,?_⟩;refine Sub.of (fI [64,65]) [] rfl rfl rfl ?_ ?_
        .repeat' first|exact aA|exact rfl|refine And.intro ?_ ?_
         all_goals exact KH
        .exact pc
       .have h4:isZ (eD (bU l[j] l[i]) (bU l[k] l[i]))=false:=h4;rw [h4]at m3;have m4:aU (l.any (vE l (eD (bU l[j] l[i]) (bU l[k] l[i])) i))=kl l:=m3;refine sZ ?_;refine ct (l:=Ae) (by decide) 2 (c:=HA) rfl ((eD (bU l[j] l[i]) (bU l[k] l[i]),l,i),l) ⟨Ib,by show l.length<=_;omega⟩ (hk:=?_);refine sZ ?_;exact aj.same (congrArg AV.bool m4) .bool
      .have hk:k=j:=(by have:=bf.1 h3;have this:((j:Nat):Int)<=(k:Int):=this;omega);rw [hk,Nat.sub_self]at m2;conv=>whnf
       refine⟨j+1,⟨hj,m2⟩,by show i - (j+1)<i - j;omega,?_⟩;refine Sub.of (fI [64,65]) [] rfl rfl rfl ?_ ?_
       .repeat' first|exact aA|exact rfl|refine And.intro ?_ ?_
        all_goals exact ad6
       .exact pc
     .refine Sub.of (fI [64,65]) [] rfl rfl rfl ?_ ?_
      .exact pc
      .exact pc
    .have hj:j=i:=(by have:=bf.1 h2;have this:((i:Nat):Int)<=(j:Int):=this;omega);rw [hj,Nat.sub_self]at k2;conv=>whnf
     refine⟨i+1,⟨hi,k2⟩,by show l.length - (i+1)<l.length - i;omega,?_⟩;refine Sub.of (fI [64]) [] rfl rfl rfl ?_ ?_
     .repeat' first|exact aA|exact rfl|refine And.intro ?_ ?_
      all_goals exact bM
     .exact pc
   .refine Sub.of (fI [64,65]) [] rfl rfl rfl ?_ ?_
    .exact pc
    .exact pc
  .have hi:i=l.length:=(by have:=bf.1 h1;have this:((l.length:Nat):Int)<=(i:Int):=this;omega);rw [hi,Nat.sub_self]at g2;conv=>whnf
   exact aj.same (congrArg AV.bool g2) .bool
 .refine Sub.of (fI [64]) [] rfl rfl rfl ?_ ?_
  .exact pc
  .exact pc
def UK:Cn prog:= .lE bR.list bj 208 true (λl=>l.length<=4096) kl fh (λl h=>aeh l h) (au rfl rfl)
def inC (x:Int):Prop:= -4096<=x/\x<=4096
theorem aei {x:Int} (h:inC x):dj x (-4096)=false:=bf.2 h.1
theorem aej {x:Int} (h:inC x):dj 4096 x=false:=bf.2 h.2
theorem aek (x:Int) (h:inC x):dA 260 (.cons ((aq .i64).v x) .nil) (bj.v false):=by
 refine PF.go af ae [] (fn:=f260) rfl rfl rfl λB0 hc=>?_;conv=>whnf
 refine vJ (aei h) (aB ?_);exact aj.same (congrArg AV.bool (aej h)) .bool
def EB:Cn prog:= .lE (aq .i64) bj 260 true inC (λ_=>false) fh aek (au rfl rfl)
abbrev l3 (p:V3):List Int:=[p.1,p.2.1,p.2.2]
def inV (p:V3):Prop:=inC p.1/\inC p.2.1/\inC p.2.2
def tOx:List (Cn prog):=[EB]
theorem agV (p:V3) (h:inV p):dA 301 (.cons ((aq .i64).list.v (l3 p)) (.cons (.func (.func 260) .nil .nil) .nil)) ((aq .i64).v (-1)):=by
 refine PF.go af ae tOx (fn:=f301) rfl rfl rfl λB0 hc=>?_;conv=>whnf
 refine Cw.bL af rfl rfl hc 4 (aB ?_);refine aG.go 0 rfl (show 0<3 by decide) (aB ?_);refine⟨_,(aq .i64).rd (xs:=l3 p) (i:=0) rfl (show 0<3 by decide),aB ?_⟩;refine cg tOx 0 EB p.1 h.1 (aB ?_);refine aG.go 1 rfl (show 1<3 by decide) (aB ?_);refine⟨_,(aq .i64).rd (xs:=l3 p) (i:=1) rfl (show 1<3 by decide),aB ?_⟩;refine cg tOx 0 EB p.2.1 h.2.1 (aB ?_);refine aG.go 2 rfl (show 2<3 by decide) (aB ?_);refine⟨_,(aq .i64).rd (xs:=l3 p) (i:=2) rfl (show 2<3 by decide),aB ?_⟩;refine cg tOx 0 EB p.2.2 h.2.2 (aB ?_);exact aj.same rfl .int
def aby:Cn prog:=Cn.mk 301 true V3 (λp=> .cons ((aq .i64).list.v (l3 p)) (.cons (.func (.func 260) .nil .nil) .nil)) (λ_=>(aq .i64).v (-1)) inV
 (λ_ _ _ _ _=>rfl) (λp=>⟨(aq .i64).list.eK _,⟨aA,aA⟩,aA⟩) (λ_=> .int) (λ_ _=>(aq .i64).zl _ (cM _ rfl _)) agV (au rfl rfl)
def tOc:List (Cn prog):=[aby]
theorem agW (p:V3) (h:inV p):dA 259 (.cons ((aq .i64).list.v (l3 p)) (.cons (.func (.func 260) .nil .nil) .nil)) (bj.v false):=by
 refine PF.go af ae tOc (fn:=f259) rfl rfl rfl λB0 hc=>?_;conv=>whnf
 refine cg tOc 0 aby p h (aB ?_);exact aj.same rfl .bool
def abz:Cn prog:=Cn.mk 259 true V3 (λp=> .cons ((aq .i64).list.v (l3 p)) (.cons (.func (.func 260) .nil .nil) .nil)) (λ_=>bj.v false) inV
 (λ_ _ _ _ _=>rfl) (λp=>⟨(aq .i64).list.eK _,⟨aA,aA⟩,aA⟩) (λ_=> .bool) (λ_ _=>bj.zl _ (fh rfl _)) agW (au rfl rfl)
def tOu:List (Cn prog):=[abz]
theorem Qu (p:V3) (h:inV p):dA 206 (.cons (bR.v p) .nil) (bj.v false):=by
 refine PF.of_wp (c:=_) af (by decide) (fn:=f206) rfl rfl rfl (.cons (bR.ak _) .nil) (call:=zH (aE tOu)) (λB0=>rl (ay ae _ B0)) ?_;intro B0;conv=>whnf
 refine oO (l:=tOu) (by decide) 0 (c:=abz) rfl p h ?_ ?_ ?_
 .repeat' first|exact aA|exact rfl|refine⟨?_,?_⟩
 .rfl
 conv=>whnf
 exact aj.same rfl .bool
def Cs:Cn prog:= .lE bR bj 206 true inV (λ_=>false) fh Qu (au rfl rfl)
def agX:List (Cn prog):=[Ew]
theorem ael (a b:V3):dA 207 (.cons (bR.v a) (.cons (bR.v b) .nil)) ((aq .i64).v (ui (l3 a) (l3 b))):=by
 refine PF.of_wp (c:=_) af (by decide) (fn:=f207) rfl rfl rfl (.cons (bR.ak _) (.cons (bR.ak _) .nil)) (call:=zH (aE agX)) (λB0=>rl (ay ae _ B0)) ?_;intro B0;conv=>whnf
 refine oO (l:=agX) (by decide) 0 (c:=Ew) rfl (l3 a,l3 b) ⟨show 3<=_ by decide,show 3<=_ by decide⟩ ?_ ?_ ?_
 .repeat' first|exact aA|exact rfl|refine⟨?_,?_⟩
 .rfl
 refine aC ?_;exact aj.same rfl .int
def HB:Cn prog:= .kz bR bR (aq .i64) 207 true (λ_ _=>True) (λa b=>ui (l3 a) (l3 b)) (cM _) (λa b _=>ael a b) (au rfl rfl)
def nFn {α ρ:Type} (E:bX α) (R:bX ρ) (s:List α) (g:FuncId) (C:AV) (hC:Cap C) (f:α ->ρ) (wC:∀x∈s,PF prog g (.cons (E.v x) C) (R.v (f x))) (vC:∃fn,prog.funcs[g]?=some fn/\fn.body.isSome=true):Cn prog:=
 ⟨g,false,α,λx=> .cons (E.v x) C,λx=>R.v (f x),λx=>x∈s,λa b _ _ h=>by injection h with h1 _;rw [E.aZ h1],λx=>⟨E.eK x,hC.dp⟩,λ_=>R.ak _,λe=>Bool.noConfusion e,wC,vC⟩
theorem agY {c:AV} (hc:dh c):Cap (.cons (.cR c 0) .nil):=⟨⟨hc,aA⟩,λ_ _=>rfl,λ_=>⟨aA,aA⟩,rfl⟩
theorem aem (l:List cW) (g:FuncId) (c:AV) (hcp:dh c) (f:cW ->cW) (hn:l.length<=1000000) (wC:∀x∈l,PF prog g (.cons (aL.v x) (.cons (.cR c 0) .nil)) (aL.v (f x))) (vC:∃fn,prog.funcs[g]?=some fn/\fn.body.isSome=true):
  dA 118 (.cons (aL.list.v l) (.cons (.func (.func g) .nil (.cons (.cR c 0) .nil)) .nil)) (aL.list.v (l.map f)):=by
 refine PF.go af ae [nFn aL aL l g (.cons (.cR c 0) .nil) (agY hcp) f wC vC] (fn:=f118) rfl rfl rfl (hpure:= .cons (aL.list.ak _) (.cons (aV (show DP (.func (.func g) .nil (.cons (.cR c 0) .nil))from⟨aA,hcp,aA⟩)) .nil)) λB0 hc=>?_;conv=>whnf
 refine Cw.lp (σ:=Unit) af rfl rfl hc l.length (λq _=>[(1,.func (.func g) .nil (.cons (.cR c 0) .nil)),(5,.gs (pathOf 64) q 3),(8,aL.list.v l),(9,.int .i64 (l.length:Int)),(10,.int .i64 (q:Int))])
  (λq _=>hp [(64,.gl (aL.l ((l.take q).map f)) false)] 65) (λ_ _=>True) () trivial (sb [(64,0)]) (λq _ hq _=>?_)
 conv=>whnf
 refine an (λh1=>?_) (λh1=>?_)
 .have hq:=mY h1;have bM:=mX hq (by omega);have Kz:=aL.pH f hq;conv=>whnf
  refine aG.go q rfl hq (aB ?_);refine⟨_,aL.rd rfl hq,aC ?_⟩;refine cg _ 0 (nFn aL aL l g (.cons (.cR c 0) .nil) (agY hcp) f wC vC) l[q] (List.getElem_mem hq) (aC ?_) (hl:=List.nodup_cons.2 ⟨List.not_mem_nil,List.nodup_nil⟩);refine⟨_,rfl,aB ?_⟩;refine⟨aL.ap (q:=q) (gd (Nat.le_of_lt hq)) (by omega),aC ?_⟩;exact⟨(),hq,aA,sb [(64,67)]⟩
 .obtain rfl:=ou hq h1;rw [List.take_length];refine aC ?_;exact aL.gk rfl rfl (List.length_map ..).symm
theorem agZ (m:Ef) (s:cW) (h:sg m s):dA 119 (.cons (aL.v s) (.cons (.cR (lR.c m .nil) 0) .nil)) (aL.v (ru m s)):=by
 refine PF.go af ae [Ej] (fn:=f119) rfl rfl rfl (hpure:= .cons (aL.ak _) (.cons (aV (show DP (.cR (lR.c m .nil) 0)from lR.fN m .nil)) .nil)) λB0 hc=>?_;conv=>whnf
 repeat(first|(refine nw ?_;conv=>whnf)|(refine⟨_,rfl,?_⟩;conv=>whnf))
 refine cg [Ej] 0 Ej (s,m) h (aC ?_) (hl:=List.nodup_cons.2 ⟨List.not_mem_nil,List.nodup_nil⟩);exact aj.pure (aL.ak _)
def fMv (m:Ef):AV:= .func (.func 119) .nil (.cons (.cR (lR.c m .nil) 0) .nil)
def ED:Cn prog:=
 ⟨118,false,List cW×Ef,λx=> .cons (aL.list.v x.1) (.cons (fMv x.2) .nil),λx=>aL.list.v (x.1.map (ru x.2)),λx=>x.1.length<=1000000/\∀s∈x.1,sg x.2 s,
  λa b _ _ h=>by
   injection h with h1 h;injection h with h2 _;injection h2 with _ _ h2;injection h2 with h2 _;injection h2 with h2 _;have e:lR.v a.2=lR.v b.2:=congrArg AV.agg h2;rw [aL.list.aZ h1,lR.aZ e],
  λx=>⟨aL.list.eK _,⟨aA,lR.fN _ .nil,aA⟩,aA⟩,λx=>aL.list.ak _,λe=>Bool.noConfusion e,
  λx h=>aem x.1 _ _ (lR.fN _ .nil) (ru x.2) h.1 (λs hs=>agZ x.2 s (h.2 s hs)) (au rfl rfl),au rfl rfl⟩
def Ct (s:fi) (m:Ef):fi:=(s.1,s.2.map (ru m))
def KO (s:fi) (m:Ef):Prop:=s.2.length<=1000000/\∀x∈s.2,sg m x
theorem aen (s:fi) (m:Ef) (h:KO s m):dA 68 (.cons (bc.v s) (.cons (lR.v m) .nil)) (bc.v (Ct s m)):=by
 refine PF.of_wp af (by decide) (fn:=f68) rfl rfl rfl (.cons (bc.ak _) (.cons (lR.ak _) .nil)) (call:=zH (aE [ED])) (λB0=>rl (ay ae [ED] B0)) λB0=>?_;conv=>whnf
 repeat(first|(refine nw ?_;conv=>whnf))
 refine oO (l:=[ED]) (List.nodup_cons.2 ⟨List.not_mem_nil,List.nodup_nil⟩) 0 (c:=ED) rfl (s.2,m) h ?_ ?_ ?_
 .exact pc
 .rfl
 refine aC ?_;exact aj.pure (bc.ak (Ct s m))
def UL:Cn prog:= .kz bc lR bc 68 false KO Ct (λe=>by cases e) aen (au rfl rfl)
end
section
attribute [local irreducible] Cw aj bE PF Sub
attribute [local instance] bJ
def HC (x:Int):Int:=match bG x 15 with|true=>4|false=>(match bG x 63 with|true=>6|false=>8)
theorem UM:cP prog uy 209 [(.cons (.int .u64 15) .nil,.int .i64 4),(.cons (.int .u64 63) .nil,.int .i64 6),(.cons (.int .u64 255) .nil,.int .i64 8)]=true:=by kernel_rfl
theorem aeo (x:Int) (h:x=15\/x=63\/x=255):PF prog 209 (.cons ((aq .u64).v x) .nil) ((aq .i64).v (HC x)):=by
 have k:=cm af ae ik (by decide) UM;rcases h with rfl|rfl|rfl
 .exact(k _ (.head _)).1
 .exact(k _ (.tail _ (.head _))).1
 .exact(k _ (.tail _ (.tail _ (.head _)))).1
def UN:Cn prog:= .lE (aq .u64) (aq .i64) 209 true (λx=>x=15\/x=63\/x=255) HC (cM _) aeo (au rfl rfl)
def Qv:List (Cn prog):=[Cn.lift bJ Cs,Cn.lift bJ HB,Cn.lift bJ UK,yh,UN]
structure KP (l:List V3):Prop where
 lo:4<=l.length
 hi:l.length<=16
 inr:∀q (hq:q<l.length),inV l[q]
 ord:∀q (hq:q+1<l.length),ui (l3 l[q]) (l3 l[q+1])<0
 flat:kl l=false
 rings:∃all e,il l=some (all,e)/\((e:Int)=15\/(e:Int)=63\/(e:Int)=255)/\(l.length:Int)<=HC e
theorem Zz (l:List V3) (h:KP l):PF prog 161 (.cons (.agg (.cons (bR.list.v l) .nil)) .nil) ((aq .i64).v 0):=by
 obtain⟨h1,h2,h3,h4,h5,all,e,h6,h7,h8⟩:=h;refine PF.go af ae Qv (fn:=f161) rfl rfl rfl λB0 hc=>?_;conv=>whnf
 refine vJ (bf.2 (show(l.length:Int)<=16 by omega)) (aB ?_);refine Cw.lp (σ:=Unit) af rfl rfl hc l.length (λq _=>[(3,bR.list.v l),(14,bR.list.v l),(15,.int .i64 (l.length:Int)),(16,.int .i64 (q:Int))]) (λq _=>hp [] 64) (λ_ _=>True) () trivial (sb []) (λq _ hq _=>?_);conv=>whnf
 refine an (λk1=>?_) (λk1=>?_)
 .have hq:=mY k1;have bM:=mX hq (by omega);conv=>whnf
  refine aG.go q rfl hq (aB ?_);refine⟨_,bR.rd rfl hq,aC ?_⟩;refine cg Qv 0 (Cn.lift bJ Cs) l[q] (h3 q hq) (aC ?_);refine an (λk2=>?_) (λk2=>?_)
  .have k2:dj 0 (q:Int)=true:=k2;obtain⟨p,rfl⟩:∃p,q=p+1:=⟨q - 1,by have:=aQ.1 k2;omega⟩
   have hpx:ah .i64 (Int.sub ((p+1:Nat):Int) 1)=(p:Int):=by
    show ah .i64 (((p+1:Nat):Int) - 1)=_;rw [az (by omega) (by omega)];omega
   have ho:=h4 p hq;have my:p<l.length:=(by omega);conv=>whnf
   repeat(first|(refine bT k2 ?_;conv=>whnf)|(refine nw ?_;conv=>whnf))
   refine aG.go p hpx my (aB ?_);repeat(first|(refine bT k2 ?_;conv=>whnf)|(refine nw ?_;conv=>whnf))
   refine⟨_,bR.rd rfl my,aB ?_⟩;repeat(first|(refine bT k2 ?_;conv=>whnf)|(refine nw ?_;conv=>whnf))
   refine cg Qv 1 (Cn.lift bJ HB) (l[p],l[p+1]) aA (aB ?_);repeat(first|(refine bT k2 ?_;conv=>whnf)|(refine nw ?_;conv=>whnf))
   refine vJ (jk.2 ho) (aB ?_);exact⟨(),hq,aA,sb []⟩
  .have k2:dj 0 (q:Int)=false:=k2;conv=>whnf
   repeat(first|(refine vJ k2 ?_;conv=>whnf)|(refine nw ?_;conv=>whnf))
   exact⟨(),hq,aA,sb []⟩
 .have hl4:dj (l.length:Int) 4=false:=bf.2 (by omega);conv=>whnf
  refine vJ hl4 (aB ?_);repeat(first|(refine vJ hl4 ?_;conv=>whnf)|(refine nw ?_;conv=>whnf))
  refine cg Qv 2 (Cn.lift bJ UK) l (by show l.length<=4096;omega) (aB ?_);repeat(first|(refine vJ hl4 ?_;conv=>whnf)|(refine nw ?_;conv=>whnf))
  refine vJ h5 (aB ?_);refine ch (l:=Qv) (by decide) 3 (c:=yh) rfl l (by show(il l).isSome=true;rw [h6];rfl) (nK h6) (hk:=?_);refine aC ?_;refine cg Qv 4 UN (e:Int) h7 (aC ?_);refine vJ (bf.2 h8) (aB ?_);exact aj.pure .int
def kJ:bX (List V3):=bR.list.struct
def Nl:Cn prog:= .lE kJ (aq .i64) 161 true KP (λ_=>0) (cM _) Zz (au rfl rfl)
def tOf:List (Cn prog):=[Nl,Cn.lift bJ rn,yh,Cn.lift bJ lv,Cn.lift bJ kF,MY]
def vF (vs:List Q3) (x:Fc):lQ:=(aP (fJ x.1.1),cQ (aP (fJ x.1.1)) (vs.getD (x.2.headD 0).toNat z3),x.2)
def aep (l:List V3) (all:List Fc):cW:=(l.map fJ,all.map (vF (l.map fJ)),te (all.map (·.2)))
def ajO (v:V3):Prop:=Ay v.1/\Ay v.2.1/\Ay v.2.2
def ajP (vs:List Q3) (x:Fc):Prop:=ajO x.1.1/\jl (fJ x.1.1)/\∃i:Nat,i<vs.length/\x.2.head?=some (i:Int)/\oP (aP (fJ x.1.1)) (vs.getD i z3)
structure Qw (l:List V3) (all:List Fc):Prop where
 ck:KP l
 rg:∃a e,il l=some (a,e)/\cF a=all
 n:all.length<=1000
 f:∀q (hq:q<all.length),ajP (l.map fJ) all[q]
 ed:all.map (·.2)∈kY.map (·.1)
theorem EE {x:Int} (h:inC x):Ay x:=by obtain⟨h1,h2⟩:=h;exact⟨by omega,by omega⟩
theorem ajQ (l:List V3) (all:List Fc) (h:Qw l all):PF prog 114 (.cons (.agg (.cons (bR.list.v l) .nil)) .nil) (.aO (.cons (aL.v (aep l all)) (.cons ((aq .i64).v 0) .nil))):=by
 obtain⟨hck,⟨a,e,hr,ha⟩,hn,hf,hed⟩:=h;have hl:=hck.hi;have dC:=hck.inr;unfold aep;refine PF.go af ae tOf (fn:=f114) rfl rfl rfl λB0 hc=>?_;conv=>whnf
 refine cg tOf 0 Nl l hck (aB ?_);refine Cw.lp (σ:=Unit) af rfl rfl hc l.length (λq _=>[(1,.ptr (pathOf 64) 0),(2,.ptr (pathOf 65) 0),(5,.ptr (pathOf 66) 0),(22,bR.list.v l),(23,.int .i64 (l.length:Int)),(24,.int .i64 (q:Int))])
  (λq _=>hp [(64,cl [bR.list.v l]),(65,cl [.bA,.bA,.bA]),(66,cl [.gs (pathOf 67) q 12,.bA,.bA]),(67,.gl (aN.l ((l.take q).map fJ)) false)] 68) (λ_ _=>True) () trivial (sb [(64,64),(65,65),(66,66),(67,0)]) (λq _ hq _=>?_)
 conv=>whnf
 refine an (λh1=>?_) (λh1=>?_)
 .have hq:=mY h1;have bM:=mX hq (by omega);have Kz:=aN.pH fJ hq;conv=>whnf
  refine aG.go q rfl hq (aB ?_);refine⟨_,bR.rd rfl hq,aC ?_⟩;refine cg tOf 1 (Cn.lift bJ rn) l[q] ⟨EE (dC q hq).1,EE (dC q hq).2.1,EE (dC q hq).2.2⟩ (aC ?_);refine⟨_,rfl,aB ?_⟩;refine⟨aN.ap (gd (Nat.le_of_lt hq)) (by omega),aC ?_⟩;exact⟨(),hq,aA,sb [(64,64),(65,65),(66,66),(67,70)]⟩
 .obtain rfl:=ou hq h1;rw [List.take_length];have hW:(l.map fJ).length=l.length:=List.length_map ..;generalize l.map fJ=W at*;conv=>whnf
  refine ch (l:=tOf) (by decide) 2 (c:=yh) rfl l (by show(il l).isSome=true;rw [hr];rfl) (nK hr) (hk:=?_);rw [ha];conv=>whnf
  have hP:(all.map (·.1)).length=all.length:=List.length_map ..;have hR:(all.map (·.2)).length=all.length:=List.length_map ..;refine Cw.lp (σ:=Unit) af rfl rfl hc (all.map (·.1)).length (λq _=>[(2,.ptr (pathOf 65) 0),(5,.ptr (pathOf 66) 0),(9,(aq .i64).list.list.v (all.map (·.2))),(43,bY.list.v (all.map (·.1))),(44,.int .i64 ((all.map (·.1)).length:Int)),(45,.int .i64 (q:Int))])
   (λq _=>hp [(65,cl [.bA,.bA,.bA]),(66,cl [.gs (pathOf 67) l.length 12,.gs (pathOf 68) q 17,.bA]),(67,.gl (aN.l W) false),(68,.gl (bK.l ((all.take q).map (vF W))) false)] 69) (λ_ _=>True) () trivial (sb [(65,65),(66,66),(67,67),(68,0)]) (λq _ hq _=>?_)
  conv=>whnf
  refine an (λh1=>?_) (λh1=>?_)
  .have hqP:=mY h1;have hq:q<all.length:=(by omega);have hqR:q<(all.map (·.2)).length:=(by omega);have bM:=mX hqP (by omega);have Kz:=bK.pH (vF W) hq;obtain⟨k1,k2,i,k4,k5,k6⟩:=hf q hq;obtain⟨h0,hi⟩:∃h0:0<all[q].2.length,all[q].2[0]=(i:Int):=by
    rw [List.head?_eq_getElem?]at k5;exact List.getElem?_eq_some_iff.1 k5
   have hg:W.getD i z3=W[i]:=(by rw [List.getD_eq_getElem?_getD,List.getElem?_eq_getElem k4];rfl);have hF:vF W all[q]=(aP (fJ all[q].1.1),cQ (aP (fJ all[q].1.1)) W[i],all[q].2):=by
    unfold vF;rw [List.headD_eq_head?_getD,k5,<-hg];rfl
   rw [hF]at Kz;rw [hg]at k6;have e1:(all.map (·.1))[q]=all[q].1:=List.getElem_map ..;have e2:(all.map (·.2))[q]=all[q].2:=List.getElem_map ..;conv=>whnf
   refine aG.go q rfl hqP (aB ?_);refine⟨_,(bY.rd rfl hqP).trans (congrArg (λx=>some (bY.v x)) e1),aC ?_⟩;refine cg tOf 1 (Cn.lift bJ rn) all[q].1.1 k1 (aC ?_);refine cg tOf 3 (Cn.lift bJ lv) (fJ all[q].1.1) k2 (aC ?_);refine aG.go q rfl hqR (aB ?_);refine⟨_,((aq .i64).list.rd rfl hqR).trans (congrArg (λx=>some ((aq .i64).list.v x)) e2),aC ?_⟩;refine aG.go 0 rfl h0 (aB ?_);refine⟨_,(aq .i64).rd rfl h0,aC ?_⟩;refine aG.go i hi (hW ▸ k4) (aB ?_);refine⟨_,aN.rd rfl k4,aC ?_⟩;refine aG.go q rfl hqR (aB ?_);refine⟨_,((aq .i64).list.rd rfl hqR).trans (congrArg (λx=>some ((aq .i64).list.v x)) e2),aC ?_⟩;refine cg tOf 4 (Cn.lift bJ kF) (aP (fJ all[q].1.1),W[i]) k6 (aC ?_);repeat(first|(refine nw ?_;conv=>whnf)|(refine nw ?_ ⟨_,(aq .i64).list.rd (P:=prog) (t:=48) rfl hqR,(aq .i64).list.rd (P:=prog) (t:=48) rfl hqR⟩;conv=>whnf)|(refine nw ?_ ⟨_,(aq .i64).rd (P:=prog) (t:=3) rfl h0,(aq .i64).rd (P:=prog) (t:=3) rfl h0⟩;conv=>whnf)|(refine nw ?_ ⟨_,aN.rd (P:=prog) (t:=44) rfl k4,aN.rd (P:=prog) (t:=44) rfl k4⟩;conv=>whnf))
   refine⟨_,rfl,aB ?_⟩;refine⟨bK.ap (gd (Nat.le_of_lt hq)) (by omega),aC ?_⟩;exact⟨(),hqP,aA,sb [(65,65),(66,66),(67,67),(68,72)]⟩
  .have Ia:=ou hq h1;have Xl:q=all.length:=(by omega);subst Xl;rw [List.take_length];have hE:(all.map (vF W)).map (·.2.2)=all.map (·.2):=(by rw [List.map_map];rfl);have hL:(all.map (vF W)).length=all.length:=List.length_map ..;conv=>whnf
   refine ch (l:=tOf) (by decide) 5 (c:=MY) rfl (all.map (vF W)) (by show(all.map (vF W)).map (·.2.2)∈_;rw [hE];exact hed) (congrArg (λx=>jy.list.v (te x)) hE) (hbor:=?_) (has:=?_) (hk:=?_)
   .exact⟨(by rw [<-hL];exact(bK.ep _).symm),aA⟩
   .rw [<-hL];rfl
   conv=>whnf
   exact .aO (.cons (.agg (.cons (aN.gk rfl rfl hW.symm) (.cons (bK.gk rfl rfl hL.symm) (.cons (.pure (jy.list.ak _)) .nil)))) (.cons (.pure .int) .nil))
def gM (l:List V3):List Fc:=match il l with|some x=>cF x.1|none=>[]
def km (l:List V3):cW:=aep l (gM l)
def ag0:Cn prog:=Cn.mk 114 false (List V3) (λl=> .cons (.agg (.cons (bR.list.v l) .nil)) .nil) (λl=> .aO (.cons (aL.v (km l)) (.cons ((aq .i64).v 0) .nil))) (λl=>Qw l (gM l))
 (λa b _ _ h=>by injection h with h _;injection h with h;injection h with h _;rw [bR.list.aZ h]) (λl=>⟨⟨bR.list.eK _,aA⟩,aA⟩) (λl=> .aO (.cons (aL.ak _) (.cons .int .nil))) (λh=>by cases h) (λl h=>ajQ l _ h) (au rfl rfl)
theorem sbF (F:List Nat) (L:List (Nat×Nat)) {B0 nt n:Nat} {r:Tr AV} {h:Heap} {R:List (Nat×AV)} {H:List (Nat×AO)} (hk:wb (pathOf n) (pp L)=true:=by rfl) (ho:qW (F.map pathOf) (pp L)=true:=by rfl) (hn:bQ (Nat.add 63 aY.k) (pathOf n).toNat=true:=by rfl)
 (hR:St h (pp L) (F.map pathOf) r R:=by repeat' first|exact aA|assumption|exact rfl|exact bX.bh _ _|refine And.intro ?_ ?_)
 (hH:Su h (pp L) (F.map pathOf) (H.map λx=>(pathOf x.1,x.2)):=by repeat' first|exact aA|assumption|exact rfl|exact bX.bh _ _|refine And.intro ?_ ?_):Sub B0 nt r [] h (bm R) [] (hp H n):=Sub.of (pp L) (F.map pathOf) hk ho hn hR hH
def Cn.ag1 {α ρ σ:Type} [aY] {P:Program} (A:bX α) (R:bX ρ) (S:bX σ) (f:FuncId) (ok:α ->Prop) (g:α ->ρ) (k:α ->σ) (pf:∀a,ok a ->PF P f (.cons (A.v a) .nil) (.aO (.cons (R.v (g a)) (.cons (S.v (k a)) .nil)))) (bd:∃fn,P.funcs[f]?=some fn/\fn.body.isSome=true):Cn P where
 f:=f
 flat:=false
 α:=α
 aZs:=λa=> .cons (A.v a) .nil
 v:=λa=> .aO (.cons (R.v (g a)) (.cons (S.v (k a)) .nil))
 ok:=ok
 inj:=λa b _ _ h=>by injection h with h1 _;rw [A.aZ h1]
 dp:=λa=>⟨A.eK a,aA⟩
 pv:=λa=> .aO (.cons (R.ak _) (.cons (S.ak _) .nil))
 fl:=λh=>by cases h
 pf:=pf
 bd:=bd
section
attribute [local instance] fe
section
variable (s:List cW) (g:FuncId) (c0:AV) (xE:dh c0) (pr:cW ->Bool) (wC:∀x∈s,PF prog g (.cons (aL.v x) (.cons (.cR c0 0) .nil)) (.bool (pr x))) (vC:∃fn,prog.funcs[g]?=some fn/\fn.body.isSome=true)
include wC vC xE
theorem ag2 (hs:s.length<=4294967296):PF prog 165 (.cons (aL.list.v s) (.cons (.func (.func g) .nil (.cons (.cR c0 0) .nil)) .nil)) ((aq .i64).v (fp pr s 0)):=by
 refine PF.of_wp (c:=_) af (by decide) (fn:=f165) rfl rfl rfl (.cons (aL.list.ak _) (.cons (aV (show DP (.func (.func g) .nil (.cons (.cR c0 0) .nil))from⟨aA,(⟨⟨xE,aA⟩,λ_ _=>rfl,λ_=>⟨aA,aA⟩,rfl⟩:Cap (.cons (.cR c0 0) .nil)).dp⟩)) .nil)) (call:=aE [mO aL s g (.cons (.cR c0 0) .nil) (⟨⟨xE,aA⟩,λ_ _=>rfl,λ_=>⟨aA,aA⟩,rfl⟩) pr wC vC]) (λB0=>ay ae [mO aL s g (.cons (.cR c0 0) .nil) (⟨⟨xE,aA⟩,λ_ _=>rfl,λ_=>⟨aA,aA⟩,rfl⟩) pr wC vC] B0) ?_;intro B0;have hc:=ay (P:=prog) ae [mO aL s g (.cons (.cR c0 0) .nil) (⟨⟨xE,aA⟩,λ_ _=>rfl,λ_=>⟨aA,aA⟩,rfl⟩) pr wC vC] B0;conv=>whnf
 refine Cw.loop (ι:=Nat) (λq=>bm [(0,aL.list.v s),(1,.func (.func g) .nil (.cons (.cR c0 0) .nil)),(6,aL.list.v s),(7,.int .i64 (s.length:Int)),(8,.int .i64 (q:Int))]) (λ_=>[]) (λ_=>⟨bW [],pathOf 64⟩)
  (λq=>q<=s.length/\fp pr (s.drop q) q=fp pr s 0) (λq=>s.length - q) ?_ 0 ⟨Nat.zero_le _,rfl⟩ ?_
 .intro q hq;have h1:q<=s.length:=hq.1;have h2:fp pr (s.drop q) q=fp pr s 0:=hq.2;refine aD af rfl rfl hc _ (aB ?_);refine an (λh=>?_) (λh=>?_)
  .have h:q<s.length:=Int.ofNat_lt.1 (aQ.1 h);have bM:ah .i64 (Int.add (q:Int) 1)=((q+1:Nat):Int):=by
    show ah .i64 ((q:Int)+1)=_;rw [az (by omega) (by omega)];omega
   rw [List.drop_eq_getElem_cons h]at h2;have h2:(match pr s[q]with|true=>((q:Nat):Int)|false=>fp pr (s.drop (q+1)) (q+1))=fp pr s 0:=h2;conv=>whnf
   refine aG.go q rfl h (aB ?_);refine⟨_,aL.rd rfl h,aB ?_⟩;refine ct (l:=[mO aL s g (.cons (.cR c0 0) .nil) (⟨⟨xE,aA⟩,λ_ _=>rfl,λ_=>⟨aA,aA⟩,rfl⟩) pr wC vC]) (List.nodup_cons.2 ⟨List.not_mem_nil,List.nodup_nil⟩) 0 (c:=mO aL s g (.cons (.cR c0 0) .nil) (⟨⟨xE,aA⟩,λ_ _=>rfl,λ_=>⟨aA,aA⟩,rfl⟩) pr wC vC) rfl s[q] (List.getElem_mem h) (hk:=?_);conv=>whnf
   refine an (λh3=>?_) (λh3=>?_)
   .have h3:pr s[q]=true:=h3;rw [h3]at h2;have h2:((q:Nat):Int)=fp pr s 0:=h2;conv=>whnf
    exact aj.same (congrArg (AV.int .i64) h2) .int
   .have h3:pr s[q]=false:=h3;rw [h3]at h2;conv=>whnf
    refine⟨q+1,⟨h,h2⟩,by show s.length - (q+1)<s.length - q;omega,?_⟩;refine Sub.of [] [] rfl rfl rfl ?_ trivial;repeat' first|exact aA|exact rfl|refine And.intro ?_ ?_
    all_goals exact bM
  .have h:q=s.length:=(by have:=bf.1 h;have this:((s.length:Nat):Int)<=(q:Int):=this;omega);rw [h,List.drop_length]at h2;conv=>whnf
   exact aj.same (congrArg (AV.int .i64) h2) .int
 .refine Sub.of [] [] rfl rfl rfl ?_ trivial;repeat' first|exact aA|exact rfl|refine And.intro ?_ ?_
end
def Nn {κ:Type} (g:FuncId) (cp:κ ->AV) (ok:κ ->List cW ->Prop) (pr:κ ->cW ->Bool) (inj:∀a b,cp a=cp b ->pr a=pr b) (dp:∀a,DP (cp a)) (pf:∀a s,ok a s ->PF prog 165 (.cons (aL.list.v s) (.cons (.func (.func g) .nil (cp a)) .nil)) ((aq .i64).v (fp (pr a) s 0))):Cn prog:=
 ⟨165,true,κ×List cW,λx=> .cons (aL.list.v x.2) (.cons (.func (.func g) .nil (cp x.1)) .nil),λx=>(aq .i64).v (fp (pr x.1) x.2 0),λx=>ok x.1 x.2,λa b _ _ h=>by injection h with h1 h2;injection h2 with h2 _;injection h2 with _ _ h2;rw [aL.list.aZ h1,inj _ _ h2],λx=>⟨aL.list.eK _,⟨aA,dp _⟩,aA⟩,λ_=> .int,λ_ _=>λ_ _ _ h=>h,λx h=>pf _ _ h,au rfl rfl⟩
theorem ag3 {κ:Type} (g:FuncId) (cp:κ ->AV) (ok:κ ->List cW ->Prop) (pr:κ ->cW ->Bool) (inj:∀a b,cp a=cp b ->pr a=pr b) (dp:∀a,DP (cp a)) (pf:∀a s,ok a s ->PF prog 165 (.cons (aL.list.v s) (.cons (.func (.func g) .nil (cp a)) .nil)) ((aq .i64).v (fp (pr a) s 0))) (a:κ) (s:List cW) (h:ok a s)
  (bor:∀flat h,ji flat h (cp a)=cp a) (bok:∀h,ia h (cp a)):PF prog 115 (.cons (aL.list.v s) (.cons (.func (.func g) .nil (cp a)) .nil)) (.bool (s.any (pr a))):=by
 refine PF.of_wp (c:=_) af (by decide) (fn:=f115) rfl rfl rfl (.cons (aL.list.ak _) (.cons (aV (show DP (.func (.func g) .nil (cp a))from⟨aA,dp a⟩)) .nil)) (call:=aE [Nn g cp ok pr inj dp pf]) (λB0=>ay ae [Nn g cp ok pr inj dp pf] B0) ?_;intro B0;conv=>whnf
 refine ct (l:=[Nn g cp ok pr inj dp pf]) (List.nodup_cons.2 ⟨List.not_mem_nil,List.nodup_nil⟩) 0 (c:=Nn g cp ok pr inj dp pf) rfl (a,s) h (hbor:=(show ia _ (.cons (aL.list.v s) (.cons (.func (.func g) .nil (cp a)) .nil))from⟨aA,⟨aA,bok _⟩,aA⟩)) (has:=?_) (hk:=?_)
 .show AV.cons _ (.cons (.func (.func g) .nil (cp a)) .nil)= .cons _ (.cons (.func (.func g) .nil (ji true _ (cp a))) .nil);rw [bor];rfl
 conv=>whnf
 refine aj.same ?_ .bool;exact congrArg AV.bool (vD _ _ _)
theorem ag4 (s t:cW) (h:td s t):PF prog 116 (.cons (aL.v t) (.cons (.cR (aL.c s .nil) 0) .nil)) (.bool (xH s t)):=by
 refine PF.go af ae [Uu] (fn:=f116) rfl rfl rfl (hpure:= .cons (aL.ak _) (.cons (aV (show DP (.cR (aL.c s .nil) 0)from aL.fN s .nil)) .nil)) λB0 hc=>?_;conv=>whnf
 refine⟨_,rfl,aC ?_⟩;refine cg [Uu] 0 Uu (s,t) h (aC ?_) (hl:=List.nodup_cons.2 ⟨List.not_mem_nil,List.nodup_nil⟩);exact aj.same rfl .bool
def Qx (s:cW):AV:= .cons (.cR (aL.c s .nil) 0) .nil
theorem HD (a b:cW) (h:Qx a=Qx b):xH a=xH b:=by
 injection h with h _;injection h with h _;rw [aL.aZ (congrArg AV.agg h)]
theorem Np (s:cW):DP (Qx s):=⟨aL.fN s .nil,aA⟩
def ZA (s:cW) (L:List cW):Prop:=L.length<=4294967296/\∀t∈L,td s t
theorem aer (s:cW) (L:List cW) (h:ZA s L):PF prog 165 (.cons (aL.list.v L) (.cons (.func (.func 116) .nil (Qx s)) .nil)) ((aq .i64).v (fp (xH s) L 0)):=
 ag2 L _ _ (aL.fN s .nil) _ (λt ht=>ag4 s t (h.2 t ht)) (au rfl rfl) h.1
def UO:Cn prog:=
 ⟨115,true,cW×List cW,λx=> .cons (aL.list.v x.2) (.cons (.func (.func 116) .nil (Qx x.1)) .nil),λx=> .bool (x.2.any (xH x.1)),λx=>ZA x.1 x.2,
  λa b _ _ h=>by injection h with h1 h2;injection h2 with h2 _;injection h2 with _ _ h2;rw [aL.list.aZ h1,HD _ _ h2],λx=>⟨aL.list.eK _,⟨aA,Np _⟩,aA⟩,λ_=> .bool,λ_ _=>λ_ _ _ h=>h,
  λx h=>ag3 _ Qx ZA _ HD Np aer x.1 x.2 h (λ_ _=>rfl) (λ_=>⟨aA,aA⟩),au rfl rfl⟩
end
abbrev nO:=List Nat×Int×List (List V3)
def cO:bX nO:=aR.pair ((aq .i64).pair kJ.list)
def tf:List cW ->List cW ->Bool
 |_,[]=>false|seen,s::l=>match seen.any (xH s)with|true=>true|false=>tf (seen++[s]) l
def oW (p:nO):List cW:=p.2.2.map km
def EF (p:nO):List cW:=match tf [] (oW p)with|true=>[]|false=>oW p
def lT (p:nO):Int:=match tf [] (oW p)with|true=>25|false=>0
structure uo (p:nO):Prop where
 d1:1<=p.2.1
 d2:p.2.1<=1048576
 c0:0<p.2.2.length
 c1:p.2.2.length<=6
 hof:∀l∈p.2.2,Qw l (gM l)
 pen:∀a∈p.2.2,∀b∈p.2.2,td (km a) (km b)
def aes:List (Cn prog):=[ag0,Cn.lift bJ UO]
theorem UP (p:nO) (h:uo p):PF prog 66 (.cons (cO.v p) .nil) (.aO (.cons (aL.list.v (EF p)) (.cons ((aq .i64).v (lT p)) .nil))):=by
 obtain⟨nm,d,cs⟩:=p;obtain⟨h1,h2,h3,h4,h5,h6⟩:=h;have h1:1<=d:=h1;have h2:d<=1048576:=h2;have h3:0<cs.length:=h3;have h4:cs.length<=6:=h4;have h5:∀l∈cs,Qw l (gM l):=h5;have h6:∀a∈cs,∀b∈cs,td (km a) (km b):=h6;refine PF.go af ae aes (fn:=f66) rfl rfl rfl λB0 hc=>?_;unfold EF lT;have hA:oW (nm,d,cs)=cs.map km:=rfl;have hAl:(cs.map km).length=cs.length:=List.length_map ..;rw [hA];conv=>whnf
 refine vJ (bf.2 h1) (aC ?_);refine vJ (bf.2 h2) (aC ?_);refine vJ (nY.2 (show(cs.length:Int)≠0 by omega)) (aC ?_);refine vJ (bf.2 (show(cs.length:Int)<=6 by omega)) (aC ?_);refine Cw.lp (σ:=Unit) af rfl rfl hc cs.length (λq _=>[(4,.gs (pathOf 64) q 3),(31,kJ.list.v cs),(32,.int .i64 (cs.length:Int)),(33,.int .i64 (q:Int))])
  (λq _=>hp [(64,.gl (aL.l ((cs.take q).map km)) false)] 65) (λ_ _=>True) () trivial (sb [(64,0)]) (λq _ hq _=>?_)
 conv=>whnf
 refine an (λk1=>?_) (λk1=>?_)
 .have hq:=mY k1;have bM:=mX hq (by omega);have Kz:=aL.pH km hq;have hof:=h5 _ (List.getElem_mem hq);conv=>whnf
  refine aG.go q rfl hq (aB ?_);refine⟨_,kJ.rd rfl hq,aC ?_⟩;refine cg aes 0 ag0 cs[q] hof (aC ?_);refine⟨_,rfl,aB ?_⟩;refine⟨aL.ap (q:=q) (gd (Nat.le_of_lt hq)) (by omega),aC ?_⟩;exact⟨(),hq,aA,sb [(64,68)]⟩
 .obtain rfl:=ou hq k1;rw [List.take_length];have qO:∀s∈cs.map km,∀t∈cs.map km,td s t:=λs hs t ht=>by
   obtain⟨a,ha,rfl⟩:=List.mem_map.1 hs;obtain⟨b,hb,rfl⟩:=List.mem_map.1 ht;exact h6 a ha b hb
  have hLn:(cs.map km).length<=6:=by omega
  rw [<-hAl];generalize cs.map km=L at*;obtain⟨W,hW⟩:∃W,W=tf [] L:=⟨_,rfl⟩
  rw [<-hW];refine aC ?_;refine Cw.lp (σ:=Unit) af rfl rfl hc L.length (λq _=>[(4,aL.list.v L),(50,aL.list.v L),(51,.int .i64 (L.length:Int)),(52,.int .i64 (q:Int))])
   (λq _=>hp [] 64) (λq _=>tf (L.take q) (L.drop q)=W) () hW.symm ?_ (λq _ hq hs=>?_)
  .have hz:L.length*3=(aL.l L).len:=(aL.ep L).symm;exact sbF [64] []
  conv=>whnf
  refine an (λk2=>?_) (λk2=>?_)
  .have hq:=mY k2;have bM:=mX hq (by omega);have sv:=hs;rw [List.drop_eq_getElem_cons hq]at sv;have sv:(match (L.take q).any (xH L[q])with|true=>true|false=>tf (L.take q++[L[q]]) (L.drop (q+1)))=W:=sv;rw [<-List.take_succ_eq_append_getElem hq]at sv;have hcf:ZA L[q] (L.take q):=⟨by rw [List.length_take];omega,λt ht=>qO _ (List.getElem_mem hq) t (List.mem_of_mem_take ht)⟩
   have vC:(L.take q).length=q:=(by rw [List.length_take];omega);conv=>whnf
   refine aG.go q rfl hq (aB ?_);refine⟨_,aL.rd rfl hq,aC ?_⟩;refine JA.go q rfl (Nat.le_of_lt hq) (aB ?_);refine⟨_,aL.Ps (xs:=L) (i:=0) (j:=q) (by omega),aC ?_⟩;refine cg aes 1 (Cn.lift bJ UO) (L[q],L.take q) hcf (aB ?_) (has:=by show AV.cons (.ro (L.take q).length (aL.l (L.take q))) _=_;rw [vC];rfl);refine an (λk3=>?_) (λk3=>?_)
   .have k3:(L.take q).any (xH L[q])=true:=k3;rw [k3]at sv;have sv:true=W:=sv;rw [<-sv];refine aC ?_;exact .aO (.cons .bA (.cons (.pure .int) .nil))
   .have k3:(L.take q).any (xH L[q])=false:=k3;rw [k3]at sv;refine aC ?_;exact⟨(),hq,sv,sb []⟩
  .obtain rfl:=ou hq k2;rw [List.drop_length]at hs;have hs:false=W:=hs;rw [<-hs];refine aC ?_;exact aj.pure (.aO (.cons (aL.list.ak L) (.cons .int .nil)))
def oX:Cn prog:= .ag1 cO aL.list (aq .i64) 66 uo EF lT UP (au rfl rfl)
theorem UQ (p:nO) (h:uo p):PF prog 72 (.cons (cO.v p) .nil) ((aq .i64).v (lT p)):=by
 refine PF.go af ae [oX] (fn:=f72) rfl rfl rfl λB0 hc=>?_;conv=>whnf
 refine cg [oX] 0 oX p h (aC ?_) (hl:=nd1);exact aj.pure .int
def HE:Cn prog:= .lE cO (aq .i64) 72 true uo lT (cM _) UQ (au rfl rfl)
def UR:List (Cn prog):=[oX,abx,Cn.lift bJ UL]
abbrev EG:=Tn×lz
def Af (p:nO) (y:EG):fi:=match tf [] (oW p)with|true=>(0,[])|false=>Ct (p.2.1,oW p) (kH y.1 y.2)
theorem ag5 {p:nO} (h:tf [] (oW p)=true):EF p=[]/\lT p=25/\∀y,Af p y=(0,[]):=by
 unfold EF lT Af;rw [h];exact⟨rfl,rfl,λ_=>rfl⟩
theorem ag6 {p:nO} (h:tf [] (oW p)=false):EF p=oW p/\lT p=0/\∀y,Af p y=Ct (p.2.1,oW p) (kH y.1 y.2):=by
 unfold EF lT Af;rw [h];exact⟨rfl,rfl,λ_=>rfl⟩
structure Cu (p:nO) (y:EG):Prop where
 ok:uo p
 t:y.1∈bZ
 s:y.2.OK
 m:KO (p.2.1,oW p) (kH y.1 y.2)
theorem ag7 (p:nO) (y:EG) (h:Cu p y):PF prog 32 (.cons (cO.v p) (.cons (plV y.1 y.2) .nil)) (.aO (.cons (bc.v (Af p y)) (.cons ((aq .i64).v (lT p)) .nil))):=by
 obtain⟨h1,h2,h3,h4⟩:=h;refine PF.go af ae UR (fn:=f32) rfl rfl rfl (hpure:= .cons (cO.ak _) (Ab _ _)) λB0 hc=>?_;cases hW:tf [] (oW p)with
 |true=>
  obtain⟨e1,e2,e3⟩:=ag5 hW;rw [e2,e3 y];conv=>whnf
  refine ch (l:=UR) (by decide) 0 (c:=oX) rfl p h1 (v:= .aO (.cons (aL.list.v []) (.cons ((aq .i64).v 25) .nil))) (by show AV.aO (.cons (aL.list.v (EF p)) (.cons ((aq .i64).v (lT p)) .nil))=_;rw [e1,e2]) (hk:=?_);refine aC ?_;exact .aO (.cons (.agg (.cons (.pure .int) (.cons .bA .nil))) (.cons (.pure .int) .nil))
 |false=>
  obtain⟨e1,e2,e3⟩:=ag6 hW;rw [e2,e3 y];conv=>whnf
  refine ch (l:=UR) (by decide) 0 (c:=oX) rfl p h1 (v:= .aO (.cons (aL.list.v (oW p)) (.cons ((aq .i64).v 0) .nil))) (by show AV.aO (.cons (aL.list.v (EF p)) (.cons ((aq .i64).v (lT p)) .nil))=_;rw [e1,e2]) (hk:=?_);refine aC ?_;refine cg UR 1 abx y ⟨h2,h3⟩ (aC ?_);refine cg UR 2 (Cn.lift bJ UL) ((p.2.1,oW p),kH y.1 y.2) h4 (aC ?_);exact aj.pure (.aO (.cons (bc.ak (Ct (p.2.1,oW p) (kH y.1 y.2))) (.cons .int .nil)))
abbrev Nm:=List Nat
abbrev Plc:=Tn×Nm×Nm×Nm
abbrev mP:=Nm×Nm×Plc
abbrev jg:=List nO×List mP
def aS:bX Int:=aq .i64
def KQ:bX Plc:=(aS.pair (aS.pair (aS.pair aS))).pair (aR.pair (aR.pair aR))
def ja:bX mP:=aR.pair (aR.pair KQ)
def eF:bX jg:=cO.list.pair ja.list
def Ag (y:EG):Plc:=(y.1,yf y.2.1.1 y.2.1.2,yf y.2.2.1.1 y.2.2.1.2,yf y.2.2.2.1 y.2.2.2.2)
def oY (r:Plc):EG:=(r.1,rdS r.2.1,rdS r.2.2.1,rdS r.2.2.2)
theorem Qy {y:EG} (h:y.2.OK):oY (Ag y)=y:=by
 obtain⟨t,a,b,c⟩:=y;obtain⟨h1,h2,h3⟩:=h;show(t,rdS (yf a.1 a.2),rdS (yf b.1 b.2),rdS (yf c.1 c.2))=_;rw [uk h1,uk h2,uk h3]
def Ah (r:Plc):Prop:=r=Ag (oY r)/\(oY r).1∈bZ/\(oY r).2.OK
def abA:Cn prog:= .lE KQ aS 73 true Ah (λ_=>0) (cM _) (λr h=>by rw [h.1];exact Hv _ h.2.1 _ h.2.2) (au rfl rfl)
def EH:Cn prog:= .Gr cO KQ bc aS 32 (λp r=>Ah r/\Cu p (oY r)) (λp r=>Af p (oY r)) (λp _=>lT p) (λp r h=>by
 have e:=h.1.1;have k:=ag7 p (oY r) h.2;generalize oY r=y at*;rw [e];exact k) (au rfl rfl)
theorem wD:PA prog 9 aR where
 eqv:=by
  intro a b;show some (kq a b)=_;rw [eM]
 key:=λa=>rfl
 ke:=by
  intro a;show kq a a=true;rw [eM];simp
abbrev US:=List (Nm×Bool)
abbrev IxA:=jg×nO
def hFA (i:IxA) (l:US):List (Nat×AO):=[(64,cl (eF.cs i.1)),(65,.mp (mE aR bj l)),(66,cl (cO.cs i.2))]
def Nr:xf (IxA×US) where
 ar:=λi=> .cons (.map (pathOf 65)) (.cons (aR.v i.1.2.1) .nil)
 h0:=λi=>hp (hFA i.1 i.2) 67
 v:=λ_=>aS.v 0
 H:=λi=>(hFA i.1 (i.2++[(i.1.2.1,true)])).map λx=>(pathOf x.1,x.2)
 N:=λ_=>pathOf 75
 ok:=λi=>i.1.2.1∈names/\wi i.1.2.1 i.2 0=none
 inj:=by
  rintro ⟨i,l⟩ ⟨j,k⟩ _ _ e1 e2;injection e1 with _ e1;injection e1 with e1 _;have e3:i.2.1=j.2.1:=aR.aZ e1;have g5:some (AO.mp (mE aR bj l))=some (.mp (mE aR bj k)):=congrArg (λh:Heap=>h.t.get (pathOf 65)) e2;injection g5 with g5;injection g5 with g5;have g5:=Eo g5;subst g5;have g64:some (cl (eF.cs i.1))=some (cl (eF.cs j.1)):=congrArg (λh:Heap=>h.t.get (pathOf 64)) e2;have g66:some (cl (cO.cs i.2))=some (cl (cO.cs j.2)):=congrArg (λh:Heap=>h.t.get (pathOf 66)) e2;refine⟨rfl,?_,rfl⟩;show(hFA i (l++[(i.2.1,true)])).map _=(hFA j (l++[(j.2.1,true)])).map _;rw [e3];unfold hFA;rw [Option.some.inj g64,Option.some.inj g66]
section
abbrev iFA:aY:=qi bJ 3
attribute [local instance] iFA
theorem ajR (i:IxA) (l:US) (h:i.2.1∈names) (hf:wi i.2.1 l 0=none) (B0:Nat) {r:Tr AV} (hr:gH (.cons (.map (pathOf 65)) (.cons (aR.v i.2.1) .nil)) 0 f71.ntmps .leaf=some r):
  Cw prog B0 ⟨prog,71,f71.ntmps,none,aE [Cn.tabs (T:=bJ) (T':=iFA) rfl iZ],0⟩ (oJ f71) r [] (hp (hFA i l) 67)
   (QK (fa prog f71 (aS.v 0) ((hFA i (l++[(i.2.1,true)])).map λx=>(pathOf x.1,x.2)) (pathOf 75)) (fa prog f71 (aS.v 0) ((hFA i (l++[(i.2.1,true)])).map λx=>(pathOf x.1,x.2)) (pathOf 75)) (λ_ _ _ _=>False)):=by
 cases hr;have hc:=ay (P:=prog) ae [Cn.tabs (T:=bJ) (T':=iFA) rfl iZ] B0;have pw:l++[(i.2.1,true)]=nZ i.2.1 true l:=by unfold nZ;rw [hf]
 rw [pw];refine aD (cx:=⟨_,_,_,_,aE [Cn.tabs (T:=bJ) (T':=iFA) rfl iZ],0⟩) af rfl rfl hc _ (aB ?_);refine cg [Cn.tabs (T:=bJ) (T':=iFA) rfl iZ] 0 (Cn.tabs (T:=bJ) (T':=iFA) rfl iZ) i.2.1 h (aC ?_) (hl:=List.nodup_cons.2 ⟨List.not_mem_nil,List.nodup_nil⟩);refine wj (SI (A:=aR) (B:=bj) wD rfl hf rfl rfl rfl rfl) (aC ?_);refine wj (PB (A:=aR) (B:=bj) (key:=i.2.1) (v:=true) (l:=l) wD rfl rfl rfl rfl rfl) (aC ?_);repeat' first|exact aA|exact rfl|refine And.intro ?_ ?_
end
theorem UT {B0:Nat} {call:dY ->AV ->Heap ->CR} (bl:@aW bJ prog B0 call):@aW bJ prog B0 (fx 71 Nr call):=
 ic ae 3 bl (fn:=f71) rfl rfl Nr (λi hi=>⟨_,_,rfl,rfl,(show(pathOf 67).toNat<=(pathOf 75).toNat by decide),ajR i.1 i.2 hi.1 hi.2 B0 rfl⟩)
abbrev IxB:=jg×US×mP
def hFB (i:IxB) (l:US):List (Nat×AO):=[(64,cl (eF.cs i.1)),(65,.mp (mE aR bj i.2.1)),(66,.mp (mE aR bj l)),(67,cl (ja.cs i.2.2))]
def Ns:xf (IxB×US) where
 ar:=λi=> .cons (.map (pathOf 66)) (.cons (aR.v i.1.2.2.1) .nil)
 h0:=λi=>hp (hFB i.1 i.2) 68
 v:=λ_=>aS.v 0
 H:=λi=>(hFB i.1 (i.2++[(i.1.2.2.1,true)])).map λx=>(pathOf x.1,x.2)
 N:=λ_=>pathOf 76
 ok:=λi=>i.1.2.2.1∈names/\wi i.1.2.2.1 i.2 0=none
 inj:=by
  rintro ⟨i,l⟩ ⟨j,k⟩ _ _ e1 e2;injection e1 with _ e1;injection e1 with e1 _;have e3:i.2.2.1=j.2.2.1:=aR.aZ e1;have g5:some (AO.mp (mE aR bj l))=some (.mp (mE aR bj k)):=congrArg (λh:Heap=>h.t.get (pathOf 66)) e2;injection g5 with g5;injection g5 with g5;have g5:=Eo g5;subst g5;have g64:some (cl (eF.cs i.1))=some (cl (eF.cs j.1)):=congrArg (λh:Heap=>h.t.get (pathOf 64)) e2;have g65:some (AO.mp (mE aR bj i.2.1))=some (.mp (mE aR bj j.2.1)):=congrArg (λh:Heap=>h.t.get (pathOf 65)) e2;have g67:some (cl (ja.cs i.2.2))=some (cl (ja.cs j.2.2)):=congrArg (λh:Heap=>h.t.get (pathOf 67)) e2;refine⟨rfl,?_,rfl⟩;show(hFB i (l++[(i.2.2.1,true)])).map _=(hFB j (l++[(j.2.2.1,true)])).map _;rw [e3];unfold hFB;rw [Option.some.inj g64,Option.some.inj g65,Option.some.inj g67]
section
abbrev iFB:aY:=qi bJ 4
attribute [local instance] iFB
theorem ajS (i:IxB) (l:US) (h:i.2.2.1∈names) (hf:wi i.2.2.1 l 0=none) (B0:Nat) {r:Tr AV} (hr:gH (.cons (.map (pathOf 66)) (.cons (aR.v i.2.2.1) .nil)) 0 f71.ntmps .leaf=some r):
  Cw prog B0 ⟨prog,71,f71.ntmps,none,aE [Cn.tabs (T:=bJ) (T':=iFB) rfl iZ],0⟩ (oJ f71) r [] (hp (hFB i l) 68)
   (QK (fa prog f71 (aS.v 0) ((hFB i (l++[(i.2.2.1,true)])).map λx=>(pathOf x.1,x.2)) (pathOf 76)) (fa prog f71 (aS.v 0) ((hFB i (l++[(i.2.2.1,true)])).map λx=>(pathOf x.1,x.2)) (pathOf 76)) (λ_ _ _ _=>False)):=by
 cases hr;have hc:=ay (P:=prog) ae [Cn.tabs (T:=bJ) (T':=iFB) rfl iZ] B0;have pw:l++[(i.2.2.1,true)]=nZ i.2.2.1 true l:=by unfold nZ;rw [hf]
 rw [pw];refine aD (cx:=⟨_,_,_,_,aE [Cn.tabs (T:=bJ) (T':=iFB) rfl iZ],0⟩) af rfl rfl hc _ (aB ?_);refine cg [Cn.tabs (T:=bJ) (T':=iFB) rfl iZ] 0 (Cn.tabs (T:=bJ) (T':=iFB) rfl iZ) i.2.2.1 h (aC ?_) (hl:=List.nodup_cons.2 ⟨List.not_mem_nil,List.nodup_nil⟩);refine wj (SI (A:=aR) (B:=bj) wD rfl hf rfl rfl rfl rfl) (aC ?_);refine wj (PB (A:=aR) (B:=bj) (key:=i.2.2.1) (v:=true) (l:=l) wD rfl rfl rfl rfl rfl) (aC ?_);repeat' first|exact aA|exact rfl|refine And.intro ?_ ?_
end
theorem UU {B0:Nat} {call:dY ->AV ->Heap ->CR} (bl:@aW bJ prog B0 call):@aW bJ prog B0 (fx 71 Ns call):=
 ic ae 4 bl (fn:=f71) rfl rfl Ns (λi hi=>⟨_,_,rfl,rfl,(show(pathOf 68).toNat<=(pathOf 76).toNat by decide),ajS i.1 i.2 hi.1 hi.2 B0 rfl⟩)
def ZB:List nO ->Int
 |[]=>0|p::l=>match aU (bG (lT p) 0)with|true=>lT p|false=>ZB l
def ckI (L:US):List mP ->Int
 |[]=>0|x::l=>match (wi x.2.1 L 0).isSome with|true=>ckI L l|false=>16
def Ih (l:List nO):US:=l.map λp=>(p.1,true)
def ZC (l:List mP):US:=l.map λx=>(x.1,true)
def tg (a:jg):Int:=match bG (ZB a.1) 0 with|true=>ckI (Ih a.1) a.2|false=>ZB a.1
structure Nt (a:jg):Prop where
 np:a.1.length<=64
 ni:a.2.length<=12
 p:∀p∈a.1,p.1∈names/\uo p
 i:∀x∈a.2,x.1∈names/\Ah x.2.2
 dp:(a.1.map (·.1)).Nodup
 di:(a.2.map (·.1)).Nodup
theorem Ai {k:Nm}:∀{l:US} {i:Nat},k ∉ l.map (·.1) ->wi k l i=none
 |[],_,_=>rfl|x::l,i,h=>by
  unfold wi;rw [decide_eq_false (λe=>h (by rw [List.map_cons,e];exact List.mem_cons_self ..))];exact Ai λhk=>h (by rw [List.map_cons];exact List.mem_cons_of_mem _ hk)
theorem HF {k:Nm} {v:Bool}:∀{l:List nO} {i j:Nat},wi k (Ih l) i=some (j,v) ->v=true
 |[],_,_,h=>by cases h
 |p::l,i,j,h=>by
  unfold Ih at h;rw [List.map_cons]at h;unfold wi at h;split at h
  .cases h;rfl
  .exact HF (l:=l) h
theorem Nu {α:Type} (f:α ->Nm) {l:List α} (h:(l.map f).Nodup) {q:Nat} (hq:q<l.length):f l[q] ∉ (l.take q).map f:=λhm=>by
 rw [<-List.take_append_drop q l,List.drop_eq_getElem_cons hq,List.map_append,List.map_cons]at h;exact(List.nodup_append.1 h).2.2 _ hm _ (List.mem_cons_self ..) rfl
def tCk:List (Cn prog):=[HE,abA]
def cCk:dY ->AV ->Heap ->CR:=fx 71 Nr (fx 71 Ns (aE tCk))
theorem UW (B0:Nat):aW prog B0 cCk:=UT (UU (ay ae tCk B0))
theorem UX (a:jg) (h:Nt a):PF prog 35 (.cons (eF.v a) .nil) (aS.v (tg a)):=by
 obtain⟨hnp,Dk,hpp,hi,hdp,hdi⟩:=h;refine PF.of_wp af (by decide) (fn:=f35) rfl rfl rfl (.cons (eF.ak _) .nil) (call:=cCk) (λB0=>UW B0) λB0=>?_;have hc:=UW B0;obtain⟨W,hW⟩:∃W,W=tg a:=⟨_,rfl⟩
 rw [<-hW];conv=>whnf
 refine vJ (bf.2 (show(a.1.length:Int)<=64 by omega)) (aC ?_);refine Cw.lp (σ:=Unit) af rfl rfl hc a.1.length (λq _=>[(1,.ptr (pathOf 64) 0),(3,.map (pathOf 65)),(19,cO.list.v a.1),(20,.int .i64 (a.1.length:Int)),(21,.int .i64 (q:Int))])
  (λq _=>hp [(64,cl (eF.cs a)),(65,.mp (mE aR bj (Ih (a.1.take q))))] 66) (λq _=>ZB (a.1.drop q)=ZB a.1) () rfl ?_ (λq _ hq hs=>?_)
 .have hz:=je aR bj (Ih (a.1.take 0));exact sb [(64,64),(65,65)]
 conv=>whnf
 refine an (λk1=>?_) (λk1=>?_)
 .have hq:=mY k1;have bM:=mX hq (by omega);have hz:=je aR bj (Ih (a.1.take (q+1)));have hnx:Ih (a.1.take (q+1))=Ih (a.1.take q)++[(a.1[q].1,true)]:=by
   unfold Ih;rw [List.take_succ_eq_append_getElem hq,List.map_append];rfl
  have hpq:=hpp _ (List.getElem_mem hq);have jJ:wi a.1[q].1 (Ih (a.1.take q)) 0=none:=Ai (by
   unfold Ih;rw [List.map_map];exact Nu (λp:nO=>p.1) hdp hq)
  rw [List.drop_eq_getElem_cons hq]at hs;have hs:(match aU (bG (lT a.1[q]) 0)with|true=>lT a.1[q]|false=>ZB (a.1.drop (q+1)))=ZB a.1:=hs;conv=>whnf
  refine aG.go q rfl hq (aB ?_);refine⟨_,cO.rd rfl hq,aC ?_⟩;rw [hnx]at hz ⊢;generalize Ih (a.1.take q)=l at*;generalize a.1[q]=p at*;refine lO (F:=Nr) ((a,p),l) ⟨hpq.1,jJ⟩ (hk:=?_);conv=>whnf
  refine bP (by decide) (bP (by decide) (cg tCk 0 HE p hpq.2 (aC ?_)));refine an (λk2=>?_) (λk2=>?_)
  .have k2:aU (bG (lT p) 0)=true:=k2;rw [k2]at hs;have hs:lT p=ZB a.1:=hs;have Xr:bG (lT p) 0=false:=by
    cases hb:bG (lT p) 0 with
    |false=>rfl|true=>rw [hb]at k2;cases k2
   unfold tg at hW;rw [<-hs,Xr]at hW;have hW:W=lT p:=hW;rw [hW];refine aC ?_;exact aj.pure .int
  .have k2:aU (bG (lT p) 0)=false:=k2;rw [k2]at hs;refine aC ?_;exact⟨(),hq,hs,sb [(64,64),(65,65)]⟩
 .obtain rfl:=ou hq k1;rw [List.drop_length]at hs;rw [List.take_length];have hs:0=ZB a.1:=hs;unfold tg at hW;rw [<-hs]at hW;have hW:W=ckI (Ih a.1) a.2:=hW;have hy:=je aR bj (Ih a.1);have htr:∀{k:Nm} {j:Nat} {v:Bool},wi k (Ih a.1) 0=some (j,v) ->v=true:=λh=>HF h;generalize Ih a.1=L at*;conv=>whnf
  refine vJ (bf.2 (show(a.2.length:Int)<=12 by omega)) (aC ?_);refine Cw.lp (σ:=Unit) af rfl rfl hc a.2.length (λq _=>[(3,.map (pathOf 65)),(8,.map (pathOf 66)),(44,ja.list.v a.2),(45,.int .i64 (a.2.length:Int)),(46,.int .i64 (q:Int))])
   (λq _=>hp [(64,cl (eF.cs a)),(65,.mp (mE aR bj L)),(66,.mp (mE aR bj (ZC (a.2.take q))))] 67) (λq _=>ckI L (a.2.drop q)=W) () hW.symm ?_ (λq _ hq hs=>?_)
  .have hz:=je aR bj (ZC (a.2.take 0));exact sb [(64,64),(65,65),(66,66)]
  conv=>whnf
  refine an (λk3=>?_) (λk3=>?_)
  .have hq:=mY k3;have bM:=mX hq (by omega);have hz:=je aR bj (ZC (a.2.take (q+1)));have hnx:ZC (a.2.take (q+1))=ZC (a.2.take q)++[(a.2[q].1,true)]:=by
    unfold ZC;rw [List.take_succ_eq_append_getElem hq,List.map_append];rfl
   have hiq:=hi _ (List.getElem_mem hq);have jJ:wi a.2[q].1 (ZC (a.2.take q)) 0=none:=Ai (by
    unfold ZC;rw [List.map_map];exact Nu (λp:mP=>p.1) hdi hq)
   rw [List.drop_eq_getElem_cons hq]at hs;have hs:(match (wi a.2[q].2.1 L 0).isSome with|true=>ckI L (a.2.drop (q+1))|false=>16)=W:=hs;conv=>whnf
   refine aG.go q rfl hq (aB ?_);refine⟨_,ja.rd rfl hq,aC ?_⟩;rw [hnx]at hz ⊢;generalize ZC (a.2.take q)=l at*;generalize a.2[q]=x at*;refine MO (λi _ e=>absurd (congrArg Heap.n e) (show pathOf 68≠pathOf 67 by decide)) (lO (F:=Ns) ((a,L,x),l) ⟨hiq.1,jJ⟩ (hk:=?_));refine aC ?_;cases hf:wi x.2.1 L 0 with
   |none=>
    rw [hf]at hs;have hs:16=W:=hs;refine wj (SI (A:=aR) (B:=bj) wD rfl hf rfl rfl rfl rfl) ?_;rw [<-hs];refine aC ?_;exact aj.pure .int
   |some z=>
    obtain⟨j,v⟩:=z;obtain rfl:=htr hf;rw [hf]at hs;have hs:ckI L (a.2.drop (q+1))=W:=hs;refine wj (afE (A:=aR) (B:=bj) wD rfl hf rfl rfl rfl) (aC ?_);refine bP (by decide) (bP (by decide) (cg tCk 1 abA x.2.2 hiq.2 (aC ?_)));exact⟨(),hq,hs,sb [(64,64),(65,65),(66,66)]⟩
  .obtain rfl:=ou hq k3;rw [List.drop_length]at hs;have hs:0=W:=hs;rw [<-hs];refine aC ?_;exact aj.pure .int
def HG:Cn prog:= .lE eF aS 35 true Nt tg (cM _) UX (au rfl rfl)
end
section
attribute [local irreducible] Cw aj bE PF Sub
section
attribute [local instance] fe
theorem UY (xs:List _) (hn:xs.length<=1048576):dA 181 (.cons (bR.list.v xs) .nil) (bR.list.v xs):=by
 refine PF.ze (c:=_) (by decide) (fn:=f181) rfl rfl rfl (.cons (bR.list.ak _) .nil) (call:=aE (P:=prog) []) (h0:=⟨.leaf,pathOf 64⟩) (λ_ _ e=>by cases e) rfl (λB0=>?_);have hc:=ay (P:=prog) ae [] B0;cases xs with
 |nil=>
  refine Cw.vo 0 3 rfl ?_ ?_
  .refine aD af rfl rfl hc _ (aB ?_);exact aj.bA
  .refine aD af rfl rfl hc _ (aB ?_);refine⟨.nil,rfl,aB ?_⟩;refine⟨⟨by decide,rfl,rfl⟩,aB ?_⟩;exact bR.gk (xs:=[]) rfl rfl rfl
 |cons x t=>
  refine aD af rfl rfl hc _ (aB ?_);refine⟨bR.l (x::t),(bR.kM (xs:=x::t) (i:=(x::t).length) (Nat.le_refl _)).trans (by rw [List.take_length]),aB ?_⟩;refine⟨⟨?_,bR.lu _,rfl⟩,?_⟩
  .show(0+(x::t).length)*(24+1)<=1099511627776;omega
  conv=>whnf
  exact bR.gk (xs:=x::t) rfl rfl (Nat.zero_add _)
def vG:Cn prog:= .lE bR.list bR.list 181 false (λl=>l.length<=1048576) (λl=>l) (λe=>by cases e) UY (au rfl rfl)
section
variable (s:List nO) (g:FuncId) (c0:AV) (xE:dh c0) (pr:nO ->Bool) (wC:∀x∈s,PF prog g (.cons (cO.v x) (.cons (.cR c0 0) .nil)) (.bool (pr x))) (vC:∃fn,prog.funcs[g]?=some fn/\fn.body.isSome=true)
include wC vC xE
theorem ag8 (hs:s.length<=4294967296):PF prog 126 (.cons (cO.list.v s) (.cons (.func (.func g) .nil (.cons (.cR c0 0) .nil)) .nil)) ((aq .i64).v (fp pr s 0)):=by
 refine PF.of_wp (c:=_) af (by decide) (fn:=f126) rfl rfl rfl (.cons (cO.list.ak _) (.cons (aV (show DP (.func (.func g) .nil (.cons (.cR c0 0) .nil))from⟨aA,(⟨⟨xE,aA⟩,λ_ _=>rfl,λ_=>⟨aA,aA⟩,rfl⟩:Cap (.cons (.cR c0 0) .nil)).dp⟩)) .nil)) (call:=aE [mO cO s g (.cons (.cR c0 0) .nil) (⟨⟨xE,aA⟩,λ_ _=>rfl,λ_=>⟨aA,aA⟩,rfl⟩) pr wC vC]) (λB0=>ay ae [mO cO s g (.cons (.cR c0 0) .nil) (⟨⟨xE,aA⟩,λ_ _=>rfl,λ_=>⟨aA,aA⟩,rfl⟩) pr wC vC] B0) ?_;intro B0;have hc:=ay (P:=prog) ae [mO cO s g (.cons (.cR c0 0) .nil) (⟨⟨xE,aA⟩,λ_ _=>rfl,λ_=>⟨aA,aA⟩,rfl⟩) pr wC vC] B0;conv=>whnf
 refine Cw.loop (ι:=Nat) (λq=>bm [(0,cO.list.v s),(1,.func (.func g) .nil (.cons (.cR c0 0) .nil)),(6,cO.list.v s),(7,.int .i64 (s.length:Int)),(8,.int .i64 (q:Int))]) (λ_=>[]) (λ_=>⟨bW [],pathOf 64⟩)
  (λq=>q<=s.length/\fp pr (s.drop q) q=fp pr s 0) (λq=>s.length - q) ?_ 0 ⟨Nat.zero_le _,rfl⟩ ?_
 .intro q hq;have h1:q<=s.length:=hq.1;have h2:fp pr (s.drop q) q=fp pr s 0:=hq.2;refine aD af rfl rfl hc _ (aB ?_);refine an (λh=>?_) (λh=>?_)
  .have h:q<s.length:=Int.ofNat_lt.1 (aQ.1 h);have bM:ah .i64 (Int.add (q:Int) 1)=((q+1:Nat):Int):=by
    show ah .i64 ((q:Int)+1)=_;rw [az (by omega) (by omega)];omega
   rw [List.drop_eq_getElem_cons h]at h2;have h2:(match pr s[q]with|true=>((q:Nat):Int)|false=>fp pr (s.drop (q+1)) (q+1))=fp pr s 0:=h2;conv=>whnf
   refine aG.go q rfl h (aB ?_);refine⟨_,cO.rd rfl h,aB ?_⟩;refine ct (l:=[mO cO s g (.cons (.cR c0 0) .nil) (⟨⟨xE,aA⟩,λ_ _=>rfl,λ_=>⟨aA,aA⟩,rfl⟩) pr wC vC]) (List.nodup_cons.2 ⟨List.not_mem_nil,List.nodup_nil⟩) 0 (c:=mO cO s g (.cons (.cR c0 0) .nil) (⟨⟨xE,aA⟩,λ_ _=>rfl,λ_=>⟨aA,aA⟩,rfl⟩) pr wC vC) rfl s[q] (List.getElem_mem h) (hk:=?_);conv=>whnf
   refine an (λh3=>?_) (λh3=>?_)
   .have h3:pr s[q]=true:=h3;rw [h3]at h2;have h2:((q:Nat):Int)=fp pr s 0:=h2;conv=>whnf
    exact aj.same (congrArg (AV.int .i64) h2) .int
   .have h3:pr s[q]=false:=h3;rw [h3]at h2;conv=>whnf
    refine⟨q+1,⟨h,h2⟩,by show s.length - (q+1)<s.length - q;omega,?_⟩;refine Sub.of [] [] rfl rfl rfl ?_ trivial;repeat' first|exact aA|exact rfl|refine And.intro ?_ ?_
    all_goals exact bM
  .have h:q=s.length:=(by have:=bf.1 h;have this:((s.length:Nat):Int)<=(q:Int):=this;omega);rw [h,List.drop_length]at h2;conv=>whnf
   exact aj.same (congrArg (AV.int .i64) h2) .int
 .refine Sub.of [] [] rfl rfl rfl ?_ trivial;repeat' first|exact aA|exact rfl|refine And.intro ?_ ?_
end
def ag9 {κ:Type} (g:FuncId) (cp:κ ->AV) (ok:κ ->List nO ->Prop) (pr:κ ->nO ->Bool) (inj:∀a b,cp a=cp b ->pr a=pr b) (dp:∀a,DP (cp a)) (pf:∀a s,ok a s ->PF prog 126 (.cons (cO.list.v s) (.cons (.func (.func g) .nil (cp a)) .nil)) ((aq .i64).v (fp (pr a) s 0))):Cn prog:=
 ⟨126,true,κ×List nO,λx=> .cons (cO.list.v x.2) (.cons (.func (.func g) .nil (cp x.1)) .nil),λx=>(aq .i64).v (fp (pr x.1) x.2 0),λx=>ok x.1 x.2,λa b _ _ h=>by injection h with h1 h2;injection h2 with h2 _;injection h2 with _ _ h2;rw [cO.list.aZ h1,inj _ _ h2],λx=>⟨cO.list.eK _,⟨aA,dp _⟩,aA⟩,λ_=> .int,λ_ _=>λ_ _ _ h=>h,λx h=>pf _ _ h,au rfl rfl⟩
theorem aha (nm:Nm) (p:nO):dA 127 (.cons (cO.v p) (.cons (.cR (aR.c nm .nil) 0) .nil)) (.bool (decide (p.1=nm))):=by
 refine PF.go af ae [] (fn:=f127) rfl rfl rfl (hpure:= .cons (cO.ak _) (.cons (aV (show DP (.cR (aR.c nm .nil) 0)from aR.fN nm .nil)) .nil)) λB0 hc=>?_;refine aC ?_;refine⟨_,rfl,aB ?_⟩;exact aj.same (congrArg AV.bool (eM _ _)) .bool
def ZD (s:Nm):AV:= .cons (.cR (aR.c s .nil) 0) .nil
theorem Va (a b:Nm) (h:ZD a=ZD b):(λp:nO=>decide (p.1=a))=λp=>decide (p.1=b):=by
 injection h with h _;injection h with h _;injection h with h _;injection h with h;rw [h]
theorem ZE (s:Nm):DP (ZD s):=⟨aR.fN s .nil,aA⟩
def Vb:Cn prog:=ag9 127 ZD (λ_ L=>L.length<=4294967296) (λs p=>decide (p.1=s)) Va ZE (λs L h=>ag8 L _ _ (aR.fN s .nil) _ (λp _=>aha s p) (au rfl rfl) h)
def hCp (p:nO):List (Nat×AO):=[(64,cl (cO.cs p)),(65,cl [.str [],.int .i64 0,.bA])]
def aet (p:nO):List (Nat×AO):=[(64,cl (cO.cs p)),(65,cl [.str [],.int .i64 0,.bA]),(67,.gl (kJ.l p.2.2) false)]
def rE:xf nO where
 ar:=λp=> .cons (kJ.list.v p.2.2) .nil
 h0:=λp=>hp (hCp p) 66
 v:=λp=> .gs (pathOf 67) p.2.2.length 1
 H:=λp=>(aet p).map λx=>(pathOf x.1,x.2)
 N:=λ_=>pathOf 68
 ok:=λp=>0<p.2.2.length/\p.2.2.length<=1000
 inj:=by
  rintro p q _ _ e1 e2;injection e1 with e1 _;have e3:p.2.2=q.2.2:=kJ.list.aZ e1;have g1:some (cl (cO.cs p))=some (cl (cO.cs q)):=congrArg (λh:Heap=>h.t.get (pathOf 64)) e2;unfold aet;rw [e3,Option.some.inj g1];exact⟨rfl,rfl,rfl⟩
end
section
abbrev iCp:aY:=qi fe 2
attribute [local instance] iCp
theorem ajT (p:nO) (h:0<p.2.2.length/\p.2.2.length<=1000) (B0:Nat):Cw prog B0 ⟨prog,180,f180.ntmps,none,aE (P:=prog) [],0⟩ (oJ f180) (fnR f180 (rE.ar p)) [] (rE.h0 p)
  (QK (fa prog f180 (rE.v p) (rE.H p) (rE.N p)) (fa prog f180 (rE.v p) (rE.H p) (rE.N p)) (λ_ _ _ _=>False)):=by
 obtain⟨nm,d,cs⟩:=p;obtain⟨h1,h2⟩:=h;have h1:0<cs.length:=h1;have h2:cs.length<=1000:=h2;have hc:=ay (P:=prog) ae [] B0;obtain⟨x,t,rfl⟩:=List.exists_cons_of_ne_nil (List.ne_nil_of_length_pos h1);refine aD (cx:=⟨_,_,_,_,aE (P:=prog) [],0⟩) af rfl rfl hc _ (aB ?_);refine⟨kJ.l (x::t),(kJ.kM (xs:=x::t) (i:=(x::t).length) (Nat.le_refl _)).trans (by rw [List.take_length]),aB ?_⟩;refine⟨⟨?_,kJ.lu _,rfl⟩,?_⟩
 .show(0+(x::t).length)*(24+1)<=1099511627776;omega
 conv=>whnf
 refine⟨?_,rfl,rfl,rfl,rfl,aA⟩;show AV.gs (pathOf 67) (0+(x::t).length) 1= .gs (pathOf 67) (x::t).length 1;rw [Nat.zero_add]
end
section
attribute [local instance] fe
def cCp:dY ->AV ->Heap ->CR:=fx 180 rE (aE [vG])
theorem Vc (B0:Nat):aW prog B0 cCp:=
 ic ae 2 (ay ae [vG] B0) (fn:=f180) rfl rfl rE (λi hi=>⟨_,_,rfl,rfl,(show(pathOf 66).toNat<=(pathOf 68).toNat by decide),ajT i hi B0⟩)
structure Nv (p:nO):Prop where
 c0:0<p.2.2.length
 c1:p.2.2.length<=1000
 v:∀l∈p.2.2,l.length<=1048576
theorem ahb (p:nO) (h:Nv p):dA 128 (.cons (cO.v p) .nil) (cO.v p):=by
 obtain⟨h1,h2,h3⟩:=h;refine PF.of_wp af (by decide) (fn:=f128) rfl rfl rfl (.cons (cO.ak _) .nil) (call:=cCp) (λB0=>Vc B0) λB0=>?_;have hc:=Vc B0;conv=>whnf
 refine lO (F:=rE) p ⟨h1,h2⟩ (hk:=?_);conv=>whnf
 refine Cw.lp (σ:=Unit) af rfl rfl hc p.2.2.length (λq _=>[(1,.ptr (pathOf 64) 0),(2,.ptr (pathOf 65) 0),(3,.gs (pathOf 67) p.2.2.length 1),(9,.gs (pathOf 67) p.2.2.length 1),(10,.int .i64 (p.2.2.length:Int)),(11,.int .i64 (q:Int))])
  (λq _=>hp (aet p) 68) (λ_ _=>True) () trivial (sb [(64,64),(65,65),(67,67)]) (λq _ hq _=>?_)
 conv=>whnf
 refine an (λk1=>?_) (λk1=>?_)
 .have hq:=mY k1;have bM:=mX hq (by omega);have hl:=h3 _ (List.getElem_mem hq);have pw:p.2.2.set q p.2.2[q]=p.2.2:=List.set_getElem_self hq;conv=>whnf
  refine aG.go q rfl hq (aB ?_);refine⟨_,kJ.rd rfl hq,aC ?_⟩;refine bP (by decide) (cg [vG] 0 vG p.2.2[q] hl (aC ?_) (hl:=List.nodup_cons.2 ⟨List.not_mem_nil,List.nodup_nil⟩));refine aG.go q rfl hq (aC ?_);refine kJ.st (xs:=p.2.2) (i:=q) p.2.2[q] hq ?_;rw [pw];refine aC ?_;exact⟨(),hq,aA,sb [(64,64),(65,65),(67,67)]⟩
 .obtain rfl:=ou hq k1;refine aC ?_;exact .agg (.cons (.pure (aR.ak _)) (.cons (.pure .int) (.cons (kJ.gk rfl rfl rfl) .nil)))
def abB:Cn prog:= .lE cO cO 128 false Nv (λp=>p) (λe=>by cases e) ahb (au rfl rfl)
def lg (a:jg) (s:Nm):nO:=(a.1.find? λp=>decide (p.1=s)).getD ([],0,[])
theorem Cv {α:Type} (pr:α ->Bool) (d:α):∀(l:List α) (i:Nat),(∃x∈l,pr x=true) ->∃j,j<l.length/\fp pr l i=((i+j:Nat):Int)/\(l.find? pr).getD d=l.getD j d
 |[],_,h=>by obtain⟨_,h,_⟩:=h;cases h
 |x::l,i,h=>by
  unfold fp;rw [List.find?_cons];cases hp:pr x with
  |true=>exact⟨0,Nat.succ_pos _,rfl,rfl⟩|false=>
   obtain⟨y,hy,hy2⟩:=h;rcases List.mem_cons.1 hy with rfl|hy
   .rw [hp]at hy2;cases hy2
   obtain⟨j,h1,h2,h3⟩:=Cv pr d l (i+1) ⟨y,hy,hy2⟩;refine⟨j+1,Nat.succ_lt_succ h1,?_,h3⟩;rw [show i+(j+1)=i+1+j by omega];exact h2
structure ZF (a:jg) (s:Nm):Prop where
 n:a.1.length<=64
 h:∃p∈a.1,p.1=s
 c:∀p∈a.1,Nv p
def tPt:List (Cn prog):=[Vb,abB]
theorem ZG (a:jg) (s:Nm) (h:ZF a s):dA 74 (.cons (eF.v a) (.cons (aR.v s) .nil)) (.aO (.cons (cO.v (lg a s)) (.cons (bj.v true) .nil))):=by
 obtain⟨hn,⟨p,hp,hps⟩,eG⟩:=h;obtain⟨j,hj,e1,e2⟩:=Cv (λp:nO=>decide (p.1=s)) ([],0,[]) a.1 0 ⟨p,hp,decide_eq_true hps⟩;have e3:lg a s=a.1[j]:=by
  unfold lg;rw [e2,List.getD_eq_getElem?_getD,List.getElem?_eq_getElem hj];rfl
 have hcj:=eG _ (List.getElem_mem hj);rw [Nat.zero_add]at e1;rw [e3];refine PF.go af ae tPt (fn:=f74) rfl rfl rfl λB0 hc=>?_;conv=>whnf
 refine ch (l:=tPt) (by decide) 0 (c:=Vb) rfl (s,a.1) (by show a.1.length<=4294967296;omega) (v:=(aq .i64).v (j:Int)) (congrArg (aq .i64).v e1) (hk:=?_);refine aC ?_;refine aG.go j rfl hj (aB ?_);refine⟨_,cO.rd rfl hj,aC ?_⟩;refine cg tPt 1 abB a.1[j] hcj (aB ?_);repeat(first|(refine nw ?_;conv=>whnf)|(refine nw ?_ ⟨_,cO.rd (P:=prog) rfl hj,cO.rd (P:=prog) rfl hj⟩;conv=>whnf))
 exact aj.pure (.aO (.cons (cO.ak a.1[j]) (.cons .bool .nil)))
def Nw:Cn prog:= .Gr eF aR cO bj 74 ZF lg (λ_ _=>true) ZG (au rfl rfl)
end
section
attribute [local instance] fe
def ZH:bX Int:=aq .u8
abbrev I3:=Int×Int×Int
def eU3:bX I3:=ZH.pair (ZH.pair ZH)
abbrev Bk:=Int×I3×I3
def mV:bX Bk:=ZH.pair (eU3.pair eU3)
def U8 (x:Int):Prop:=0<=x/\x<=255
def U83 (x:I3):Prop:=U8 x.1/\U8 x.2.1/\U8 x.2.2
def wE (b:Bk):Prop:=U8 b.1/\U83 b.2.1/\U83 b.2.2
def ceA (r:Int) (b:Bk):AV:= .cons (.agg (.cons (.xu .u8 6 (r - 6)) (eU3.c b.2.1 (eU3.c b.2.2 .nil)))) .nil
def crd (i a s:Int):Int:=ah .i64 (Int.add (ah .i64 (Int.tmod a 5)) (ah .i64 (Int.mul i (ah .i64 (Int.add 1 (ah .i64 (Int.tmod s 3)))))))
def Fg (b:Bk) (x:I3):V3:=(crd x.1 b.2.1.1 b.2.2.1,crd x.2.1 b.2.1.2.1 b.2.2.2.1,crd x.2.2 b.2.1.2.2 b.2.2.2.2)
def Fh (r:Int):List I3:=([(0,0,0),(0,0,1),(0,1,0),(0,1,1),(1,0,0),(1,0,1),(1,1,0),(1,1,1)]:List I3).filter λx=>!((r==2 &&x.1+x.2.1>1)||(r==3 &&x.1+x.2.1<1)||(r==4 &&x.1+x.2.1+x.2.2>1)||(r==5 &&x.1+x.2.1+x.2.2<2))
theorem oZ (r:Int) (b:Bk):dh (ceA r b):=by
 refine .cons (.agg (.cons ?_ (.cons .int (.cons .int (.cons .int (.cons .int (.cons .int (.cons .int .nil)))))))) .nil;exact λ_ _ _ _ h=>h
end
section
attribute [local instance] fe
theorem ZI (b:Bk):dA 111 (ceA 0 b) (kJ.v ((Fh 0).map (Fg b))):=by
 refine PF.go af ae [] (fn:=f111) rfl rfl rfl (hpure:=oZ _ _) λB0 hc=>?_;conv=>whnf
 repeat(first|(refine Cw.bL af rfl rfl hc 8 ?_;conv=>whnf)|(refine nw ?_ (by decide);conv=>whnf)|(refine nw ?_;conv=>whnf)|(refine⟨_,rfl,?_⟩;(conv=>whnf);first|(refine⟨⟨by decide,rfl⟩,?_⟩;conv=>whnf)|(refine⟨⟨by decide,rfl,rfl⟩,?_⟩;conv=>whnf)))
 exact .agg (.cons (bR.gk (xs:=(Fh 0).map (Fg b)) rfl rfl rfl) .nil)
end
section
attribute [local instance] fe
theorem ZJ (b:Bk):dA 111 (ceA 1 b) (kJ.v ((Fh 1).map (Fg b))):=by
 refine PF.go af ae [] (fn:=f111) rfl rfl rfl (hpure:=oZ _ _) λB0 hc=>?_;conv=>whnf
 repeat(first|(refine Cw.bL af rfl rfl hc 8 ?_;conv=>whnf)|(refine nw ?_ (by decide);conv=>whnf)|(refine nw ?_;conv=>whnf)|(refine⟨_,rfl,?_⟩;(conv=>whnf);first|(refine⟨⟨by decide,rfl⟩,?_⟩;conv=>whnf)|(refine⟨⟨by decide,rfl,rfl⟩,?_⟩;conv=>whnf)))
 exact .agg (.cons (bR.gk (xs:=(Fh 1).map (Fg b)) rfl rfl rfl) .nil)
end
section
attribute [local instance] fe
theorem ZK (b:Bk):dA 111 (ceA 2 b) (kJ.v ((Fh 2).map (Fg b))):=by
 refine PF.go af ae [] (fn:=f111) rfl rfl rfl (hpure:=oZ _ _) λB0 hc=>?_;conv=>whnf
 repeat(first|(refine Cw.bL af rfl rfl hc 8 ?_;conv=>whnf)|(refine nw ?_ (by decide);conv=>whnf)|(refine nw ?_;conv=>whnf)|(refine⟨_,rfl,?_⟩;(conv=>whnf);first|(refine⟨⟨by decide,rfl⟩,?_⟩;conv=>whnf)|(refine⟨⟨by decide,rfl,rfl⟩,?_⟩;conv=>whnf)))
 exact .agg (.cons (bR.gk (xs:=(Fh 2).map (Fg b)) rfl rfl rfl) .nil)
end
section
attribute [local instance] fe
theorem ZL (b:Bk):dA 111 (ceA 3 b) (kJ.v ((Fh 3).map (Fg b))):=by
 refine PF.go af ae [] (fn:=f111) rfl rfl rfl (hpure:=oZ _ _) λB0 hc=>?_;conv=>whnf
 repeat(first|(refine Cw.bL af rfl rfl hc 8 ?_;conv=>whnf)|(refine nw ?_ (by decide);conv=>whnf)|(refine nw ?_;conv=>whnf)|(refine⟨_,rfl,?_⟩;(conv=>whnf);first|(refine⟨⟨by decide,rfl⟩,?_⟩;conv=>whnf)|(refine⟨⟨by decide,rfl,rfl⟩,?_⟩;conv=>whnf)))
 exact .agg (.cons (bR.gk (xs:=(Fh 3).map (Fg b)) rfl rfl rfl) .nil)
end
section
attribute [local instance] fe
theorem ZM (b:Bk):dA 111 (ceA 4 b) (kJ.v ((Fh 4).map (Fg b))):=by
 refine PF.go af ae [] (fn:=f111) rfl rfl rfl (hpure:=oZ _ _) λB0 hc=>?_;conv=>whnf
 repeat(first|(refine Cw.bL af rfl rfl hc 8 ?_;conv=>whnf)|(refine nw ?_ (by decide);conv=>whnf)|(refine nw ?_;conv=>whnf)|(refine⟨_,rfl,?_⟩;(conv=>whnf);first|(refine⟨⟨by decide,rfl⟩,?_⟩;conv=>whnf)|(refine⟨⟨by decide,rfl,rfl⟩,?_⟩;conv=>whnf)))
 exact .agg (.cons (bR.gk (xs:=(Fh 4).map (Fg b)) rfl rfl rfl) .nil)
end
section
attribute [local instance] fe
theorem ZN (b:Bk):dA 111 (ceA 5 b) (kJ.v ((Fh 5).map (Fg b))):=by
 refine PF.go af ae [] (fn:=f111) rfl rfl rfl (hpure:=oZ _ _) λB0 hc=>?_;conv=>whnf
 repeat(first|(refine Cw.bL af rfl rfl hc 8 ?_;conv=>whnf)|(refine nw ?_ (by decide);conv=>whnf)|(refine nw ?_;conv=>whnf)|(refine⟨_,rfl,?_⟩;(conv=>whnf);first|(refine⟨⟨by decide,rfl⟩,?_⟩;conv=>whnf)|(refine⟨⟨by decide,rfl,rfl⟩,?_⟩;conv=>whnf)))
 exact .agg (.cons (bR.gk (xs:=(Fh 5).map (Fg b)) rfl rfl rfl) .nil)
end
section
attribute [local instance] fe
theorem PF.args {P:Program} {f:FuncId} {xs xs' v:AV} (e:∀μ l,cG μ xs l ->cG μ xs' l) (h:PF P f xs' v):PF P f xs v:=by
 unfold PF at h ⊢;exact λs w hs ht cargs hc=>h s w hs ht cargs (e _ _ hc)
theorem ZO (b:Bk) (h:wE b):dA 111 (.cons (mV.v b) .nil) (kJ.v ((Fh (b.1 % 6)).map (Fg b))):=by
 obtain⟨⟨h1,h2⟩,_,_⟩:=h;have key:∀r,b.1 % 6=r ->0<r+1 ->r<6 ->dA 111 (ceA r b) (kJ.v ((Fh r).map (Fg b))) ->dA 111 (.cons (mV.v b) .nil) (kJ.v ((Fh (b.1 % 6)).map (Fg b))):=λr hr hp h6 hk=>by
  rw [hr];refine PF.args (λμ l hl=>?_) hk;obtain⟨v,t,rfl,⟨c,e,v1,r1,e1,g1,g2⟩,g3⟩:=hl;exact⟨v,t,rfl,⟨c,e,v1,r1,e1,⟨b.1,g1,λe=>absurd e (by omega),λ_=>⟨h1,h2,by omega⟩⟩,g2⟩,g3⟩
 have cJ:b.1 % 6<6:=Int.emod_lt_of_pos _ (by decide);have WQ:0<=b.1 % 6:=Int.emod_nonneg _ (by decide);obtain h|h|h|h|h|h:b.1 % 6=0\/b.1 % 6=1\/b.1 % 6=2\/b.1 % 6=3\/b.1 % 6=4\/b.1 % 6=5:=by omega
 .exact key 0 h (by decide) (by decide) (ZI b)
 .exact key 1 h (by decide) (by decide) (ZJ b)
 .exact key 2 h (by decide) (by decide) (ZK b)
 .exact key 3 h (by decide) (by decide) (ZL b)
 .exact key 4 h (by decide) (by decide) (ZM b)
 .exact key 5 h (by decide) (by decide) (ZN b)
def iG (b:Bk):List V3:=(Fh (b.1 % 6)).map (Fg b)
def wF:Cn prog:= .lE mV kJ 111 false wE iG (λe=>by cases e) ZO (au rfl rfl)
end
end
end
end Go.Sy
