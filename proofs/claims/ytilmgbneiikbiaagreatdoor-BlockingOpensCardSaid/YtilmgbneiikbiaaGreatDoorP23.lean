/- A piece of the proof, made small by a program of ours. -/
import Derived.Test.YtilmgbneiikbiaaGreatDoorP22
set_option linter.all false
set_option maxRecDepth 1000000
set_option maxHeartbeats 0
namespace Go.Sy
noncomputable section
open Go.RowKit Go.Proofs Go.Proofs.Tryz
section
attribute [local irreducible] Cw ak bq PF Sub
attribute [local instance] bZ
def wH (s:fA):Bool ->List fA ->Bool
 |f,[]=>f|f,y::r=>wH s (match f with|true=>aY (bD (lC s y) 3)|false=>false) r
def mkS (a:iL) (x:iF) (S:List fA):Bool:=wH (jd a x) (bD (gL (fx a x.2.1)) 0) S
def sq (a:iL):List iF ->List iF×List fA ->List iF×List fA
 |[],z=>z|x::l,z=>sq a l (match mkS a x z.2 with|true=>(z.1++[x],z.2++[jd a x])|false=>z)
def CD (a:iL):iL:=(a.1,(sq a a.2 ([],[])).1)
structure ahe (a:iL):Prop where
 n1:a.1.length<=64
 n2:a.2.length<=1000
 pt:∀x∈a.2,∃p∈a.1,p.1=x.2.1
 so:∀x∈a.2,Ab x.2.2/\Cs (fx a x.2.1) (nF x.2.2)
 st:∀x∈a.2,∀y∈a.2,nD (jd a x) (jd a y)
structure MkI (a:iL) (q:Nat) (z:List iF×List fA):Prop where
 n1:z.1.length<=q
 n2:z.2.length<=q
 s:∀s∈z.2,∃y∈a.2,s=jd a y
def ajE:List (Cn prog):=[HY,EM,HZ]
def ahf (wv:AV) (hw:DP wv) (a:iL) (hl:PF prog 35 (.cons wv .nil) (eA.v a)):Cn prog:=⟨35,false,Unit,λ_=> .cons wv .nil,λ_=>eA.v a,λ_=>True,λ_ _ _ _ _=>rfl,λ_=>⟨hw,aB⟩,λ_=>eA.an _,λh=>Bool.noConfusion h,λ_ _=>hl,aw rfl rfl⟩
theorem aas (l:AV) (wn:Nat) (hl:dj l) (a:iL) (h:ahe a) (hlo:PF prog 35 (.cons (.agg (.cons (.ro wn l) .nil)) .nil) (eA.v a)):PF prog 9 (.cons (.agg (.cons (.ro wn l) .nil)) .nil) (eA.v (CD a)):=by
 obtain⟨hn1,hn2,hpt,hso,mw⟩:=h;have hw:DP (.agg (.cons (.ro wn l) .nil)):=⟨hl,aB⟩
 obtain⟨T,hT⟩:∃T,T=ahf _ hw a hlo::ajE:=⟨_,rfl⟩
 have kO:(T.map Cn.f).Nodup:=by rw [hT];show [35,36,37,38].Nodup;decide
 refine PF.go af ae T (fn:=f9) rfl rfl rfl (hpure:= .cons (.agg (.cons (br hl) .nil)) .nil) λB0 hc=>?_;unfold CD;obtain⟨W,hW⟩:∃W,W=sq a a.2 ([],[]):=⟨_,rfl⟩
 rw [<-hW];conv=>whnf
 refine cg T 0 (ahf _ hw a hlo) () aB (aE ?_) (hl:=kO) (hc:=by rw [hT];rfl);refine Cw.lp (σ:=List iF×List fA) af rfl rfl hc a.2.length (λq z=>[(2,.ptr (pathOf 64) 0),(3,.ptr (pathOf 65) 0),(4,.gs (pathOf 66) z.1.length 9),(5,.gs (pathOf 67) z.2.length 2),(6,.int .i64 (q:Int))])
  (λq z=>hp [(64,cl [.bt,.bt]),(65,cl (eA.cs a)),(66,.gl (fk.l z.1) false),(67,.gl (bM.l z.2) false)] 68) (λq z=>sq a (a.2.drop q) z=W/\MkI a q z) ([],[]) ⟨hW.symm,⟨Nat.zero_le _,Nat.zero_le _,λs hs=>by cases hs⟩⟩ (sb [(64,65),(65,66),(66,0),(67,0)]) (λq z hq hs=>?_)
 obtain⟨dA,lr,BH,hs4⟩:=hs;obtain⟨K,S⟩:=z;have lr:K.length<=q:=lr;have BH:S.length<=q:=BH;conv=>whnf
 refine ay (λk1=>?_) (λk1=>?_)
 .have hq:=pT k1;have cE:=pS hq (by omega);have As:a.2[q]∈a.2:=List.getElem_mem hq;have h1:=hpt _ As;have h2:=hso _ As;rw [List.drop_eq_getElem_cons hq]at dA;have dA:sq a (a.2.drop (q+1)) (match mkS a a.2[q] S with|true=>(K++[a.2[q]],S++[jd a a.2[q]])|false=>(K,S))=W:=dA;refine aE ?_;refine aL.go q rfl hq (aE ?_);refine⟨_,fk.EX (k:=1) hq rfl rfl,aE ?_⟩;refine cg T 1 HY (a,a.2[q].2.1) ⟨hn1,h1⟩ (aC ?_) (hl:=kO) (hc:=by rw [hT];rfl);repeat(first|(refine nw ?_;conv=>whnf)|(refine nw ?_ ⟨_,fk.EX (P:=prog) (k:=1) hq rfl rfl,fk.EX (P:=prog) (k:=1) hq rfl rfl⟩;conv=>whnf))
  refine aL.go q rfl hq (aE ?_);refine⟨_,fk.EX (k:=2) hq rfl rfl,aE ?_⟩;refine cg T 2 EM (fx a a.2[q].2.1,a.2[q].2.2) h2 (aC ?_) (hl:=kO) (hc:=by rw [hT];rfl);repeat(first|(refine nw ?_;conv=>whnf)|(refine nw ?_ ⟨_,fk.EX (P:=prog) (k:=1) hq rfl rfl,fk.EX (P:=prog) (k:=1) hq rfl rfl⟩;conv=>whnf)|(refine nw ?_ ⟨_,fk.EX (P:=prog) (k:=2) hq rfl rfl,fk.EX (P:=prog) (k:=2) hq rfl rfl⟩;conv=>whnf))
  have hsm:∀t∈S,nD (jd a a.2[q]) t:=λt ht=>by
   obtain⟨y,hy,rfl⟩:=hs4 t ht;exact mw _ As y hy
  obtain⟨F,hF⟩:∃F,F=mkS a a.2[q] S:=⟨_,rfl⟩
  rw [<-hF]at dA;unfold mkS at hF;obtain⟨s,hsd⟩:∃s,s=jd a a.2[q]:=⟨_,rfl⟩
  rw [<-hsd]at dA hsm hF;refine Cw.lp (σ:=Bool) af rfl rfl hc S.length (λp f=>[(2,.ptr (pathOf 64) 0),(3,.ptr (pathOf 65) 0),(4,.gs (pathOf 66) K.length 9),(5,.gs (pathOf 67) S.length 2),(6,.int .i64 (q:Int)),(9,.ptr (pathOf 68) 0),(11,.bool f),(12,.int .i64 (p:Int))])
   (λp f=>hp [(64,cl [.bt,.bt]),(65,cl (eA.cs a)),(66,.gl (fk.l K) false),(67,.gl (bM.l S) false),(68,cl (bM.cs s))] 69) (λp f=>wH s f (S.drop p)=F) _ hF.symm ?_ (λp f hp fw=>?_)
  .subst hsd;exact sb [(64,64),(65,65),(66,66),(67,67),(68,69)]
  conv=>whnf
  refine ay (λk2=>?_) (λk2=>?_)
  .have hp:=pT k2;have UG:=pS hp (by omega);rw [List.drop_eq_getElem_cons hp]at fw;cases f with
   |true=>
    have fw:wH s (aY (bD (lC s S[p]) 3)) (S.drop (p+1))=F:=fw;refine aE ?_;refine aL.go p rfl hp (aC ?_);refine⟨_,bM.rd rfl hp,aE ?_⟩;refine cg T 3 HZ (s,S[p]) (hsm _ (List.getElem_mem hp)) (aC ?_) (hl:=kO) (hc:=by rw [hT];rfl);repeat(first|(refine nw ?_;conv=>whnf)|(refine nw ?_ ⟨_,bM.rd (P:=prog) rfl hp,bM.rd (P:=prog) rfl hp⟩;conv=>whnf))
    exact⟨aY (bD (lC s S[p]) 3),hp,fw,sb [(64,64),(65,65),(66,66),(67,67),(68,68)]⟩
   |false=>
    have fw:wH s false (S.drop (p+1))=F:=fw;refine aE ?_;exact⟨false,hp,fw,sb [(64,64),(65,65),(66,66),(67,67),(68,68)]⟩
  .obtain rfl:=rN hp k2;rw [List.drop_length]at fw;have fw:f=F:=fw;rw [<-fw]at dA;cases f with
   |true=>
    have dA:sq a (a.2.drop (q+1)) (K++[a.2[q]],S++[s])=W:=dA;have hK:=fk.wg K a.2[q];have hS:=bM.wg S s;have hKl:K.length+1=(K++[a.2[q]]).length:=(by rw [List.length_append];rfl);have hSl:S.length+1=(S++[s]).length:=(by rw [List.length_append];rfl);refine aE ?_;refine aL.go q rfl hq (aC ?_);refine⟨_,fk.rd rfl hq,aE ?_⟩;refine⟨_,rfl,aC ?_⟩;refine⟨fk.ap (xs:=K) (q:=K.length) rfl (by omega),aE ?_⟩;refine⟨_,rfl,aC ?_⟩;refine⟨bM.ap (xs:=S) (q:=S.length) rfl (by omega),aC ?_⟩;repeat(first|(refine nw ?_;conv=>whnf)|(refine nw ?_ ⟨_,fk.rd (P:=prog) rfl hq,fk.rd (P:=prog) rfl hq⟩;conv=>whnf))
    refine⟨(K++[a.2[q]],S++[s]),hq,⟨dA,by show(K++[a.2[q]]).length<=q+1;omega,by show(S++[s]).length<=q+1;omega,λt ht=>?_⟩,sb [(64,64),(65,65),(66,71),(67,72)]⟩;rcases List.mem_append.1 ht with ht|ht
    .exact hs4 t ht
    .exact⟨_,As,(List.mem_singleton.1 ht).trans hsd⟩
   |false=>
    have dA:sq a (a.2.drop (q+1)) (K,S)=W:=dA;refine aE ?_;exact⟨(K,S),hq,⟨dA,Nat.le_succ_of_le lr,Nat.le_succ_of_le BH,hs4⟩,sb [(64,64),(65,65),(66,66),(67,67)]⟩
 .obtain rfl:=rN hq k1;rw [List.drop_length]at dA;have dA:(K,S)=W:=dA;rw [<-dA];refine aE ?_;exact .agg (.cons (.pure (cH.list.an a.1)) (.cons (fk.gG rfl rfl rfl) .nil))
def mS (x:pX) (n:Nat):mM:=(112::vw n,(Oe x.1).2)
def rW (P:List mM) (x:pX):List mM:=match bD (P.length:Int) 0 with|true=>P++[mS x P.length]|false=>(match aY x.2.1 with|true=>P++[mS x P.length]|false=>P)
def lsI (P:List mM) (I:List iF) (q:Nat) (x:pX):List iF:=I++[([97+q],(P.getD (P.length - 1) ([],0,[])).1,Aa (nX x))]
def QP:Nat ->List pX ->iL ->iL
 |_,[],z=>z|q,x::l,z=>QP (q+1) l (rW z.1 x,lsI (rW z.1 x) z.2 q x)
def fm (l:List pX):iL:=QP 0 l ([],[])
def tLo:List (Cn prog):=[Cn.lift bZ VT,fJ,EV]
theorem mO {P:Program} {src dst e:TypeId} (h1:P.underlying src=some (.slice e)) (h2:P.underlying dst=some .string) (h3:P.underlying e=some (.int .u8)) {x:Operand} {r:Tr AV} {h:Heap} {id:Pos} {n sz:Nat} (yu:ev x r= .gs id n sz) {l:AV} (hg:gW h id 0 n=some l) {s:List Nat} (hb:ml l=some s):gp src dst x P r h=some (.str s):=by
 unfold gp;rw [yu];simp only [h1,h2,h3,hg];rw [hb];rfl
theorem mP (q:Nat) (hq:q<4):ml (.cons (.int .u8 (aj .u8 (aj .i64 (Int.add 97 (q:Int))))) .nil)=some [97+q]:=by
 match q,hq with
 |0,_=>rfl|1,_=>rfl|2,_=>rfl|3,_=>rfl
theorem bW.Xn {P:Program} {α:Type} (E:bW α) {t:TypeId} {xs:List α} {y:α} {k off:Nat} {v:AV} (h:gM P t (cZ k (E.c y .nil))=some v) (ho:off=xs.length*E.sz+k):gM P t (cZ off (app (E.l xs) (E.c y .nil)))=some v:=by
 rw [E.wg];have hi:xs.length<(xs++[y]).length:=by rw [List.length_append];exact Nat.lt_succ_self _
 have e1:(xs++[y])[xs.length]=y:=by rw [List.getElem_append_right (Nat.le_refl _)];simp
 have e2:(xs++[y]).drop (xs.length+1)=[]:=List.drop_eq_nil_of_le (by rw [List.length_append];exact Nat.le_refl _);refine E.EX hi ?_ ho;rw [e1,e2];exact h
theorem Oj (P:List mM) (y:mM) (I:List iF) (q:Nat) (x:pX):lsI (P++[y]) I q x=I++[([97+q],y.1,Aa (nX x))]:=by
 unfold lsI;rw [List.length_append,show P.length+[y].length - 1=P.length from rfl,List.getD_eq_getElem?_getD,List.getElem?_append_right (Nat.le_refl _),Nat.sub_self];rfl
theorem aat (P:List mM) (hp:P.length - 1<P.length) (I:List iF) (q:Nat) (x:pX):lsI P I q x=I++[([97+q],P[P.length - 1].1,Aa (nX x))]:=by
 unfold lsI;rw [List.getD_eq_getElem?_getD,List.getElem?_eq_getElem hp];rfl
structure LoI (q:Nat) (z:iL):Prop where
 p:z.1.length<=q
 i:z.2.length=q
 n:0<q ->0<z.1.length
theorem aau (l:List pX) (hl:l.length<=4) (hi:∀x∈l,lK x):PF prog 35 (.cons (.agg (.cons (ui.list.v l) .nil)) .nil) (eA.v (fm l)):=by
 refine PF.go af ae tLo (fn:=f35) rfl rfl rfl (hpure:= .cons (.agg (.cons (ui.list.an _) .nil)) .nil) λB0 hc=>?_;obtain⟨W,hW⟩:∃W,W=fm l:=⟨_,rfl⟩
 rw [<-hW];conv=>whnf
 refine Cw.lp (σ:=iL) af rfl rfl hc l.length (λq z=>[(1,.ptr (pathOf 64) 0),(2,.ptr (pathOf 65) 0),(3,.ptr (pathOf 66) 0),(4,.int .i64 (q:Int))])
  (λq z=>hp [(64,cl [ui.list.v l]),(65,cl [.bt,.bt]),(66,cl [.gs (pathOf 67) z.1.length 3,.gs (pathOf 68) z.2.length 9]),(67,.gl (cH.l z.1) false),(68,.gl (fk.l z.2) false)] 69) (λq z=>QP q (l.drop q) z=W/\LoI q z) ([],[]) ⟨hW.symm,⟨Nat.le_refl _,rfl,λh=>absurd h (Nat.lt_irrefl _)⟩⟩ (sb [(64,64),(65,65),(66,66),(67,0),(68,0)]) (λq z hq hs=>?_)
 obtain⟨dA,lr,BH,hs4⟩:=hs;obtain⟨P,I⟩:=z;have lr:P.length<=q:=lr;have BH:I.length=q:=BH;have hs4:0<q ->0<P.length:=hs4;conv=>whnf
 refine ay (λk1=>?_) (λk1=>?_)
 .have hq:=pT k1;have cE:=pS hq (by omega);have hx:=hi _ (List.getElem_mem hq);rw [List.drop_eq_getElem_cons hq]at dA;have dA:QP (q+1) (l.drop (q+1)) (rW P l[q],lsI (rW P l[q]) I q l[q])=W:=dA;refine aE ?_;refine aL.go q rfl hq (aC ?_);refine⟨_,ui.rd rfl hq,aE ?_⟩;generalize l[q]=x at*;have hsz:-128<=(P.length:Int)/\(P.length:Int)<=127:=by omega
  refine ay (λk2=>?_) (λk2=>?_)
  .have k2:bD (P.length:Int) 0=true:=k2;have hP:rW P x=P++[mS x P.length]:=(by unfold rW;rw [k2]);rw [hP,Oj]at dA;have GK:aj .i64 (Int.sub (Int.ofNat (P.length+1)) 1)=(P.length:Int):=by
    show aj .i64 (((P.length+1:Nat):Int) - 1)=_;rw [aA (by omega) (by omega)];omega
   have hPl:P.length+1=(P++[mS x P.length]).length:=(by rw [List.length_append];rfl);have hIl:I.length+1=(I++[([97+q],(mS x P.length).1,Aa (nX x))]).length:=(by rw [List.length_append];rfl);have hIa:=fk.wg I ([97+q],(mS x P.length).1,Aa (nX x));have hPa:=cH.wg P (mS x P.length);refine aE ?_;refine cg tLo 0 (Cn.lift bZ VT) x.1 hx.b.2 (aE ?_);refine cg tLo 1 fJ (P.length:Int) hsz (aE ?_);refine⟨Nat.le_trans (Nat.add_le_add_left (rm _) _) (by decide),aE ?_⟩;refine⟨_,rfl,aC ?_⟩;refine⟨cH.ap (xs:=P) (q:=P.length) rfl (by omega),aE ?_⟩;refine⟨.str [97+q],mO rfl rfl rfl rfl rfl (mP q (by omega)),aE ?_⟩;refine aL.go P.length GK (Nat.lt_succ_self _) (aE ?_);refine⟨_,cH.Xn (P:=prog) (t:=9) (v:= .str (mS x P.length).1) (xs:=P) (y:=mS x P.length) (k:=0) rfl rfl,aE ?_⟩;refine cg tLo 2 EV x hx (aC ?_);repeat(first|(refine nw ?_;conv=>whnf)|(refine nw ?_ ⟨_,cH.Xn (P:=prog) (t:=9) (v:= .str (mS x P.length).1) (xs:=P) (y:=mS x P.length) (k:=0) rfl rfl,cH.Xn (P:=prog) (t:=9) (v:= .str (mS x P.length).1) (xs:=P) (y:=mS x P.length) (k:=0) rfl rfl⟩;conv=>whnf)|(refine nw ?_ ⟨_,mO rfl rfl rfl rfl rfl (mP q (by omega)),mO rfl rfl rfl rfl rfl (mP q (by omega))⟩;conv=>whnf))
   refine⟨_,rfl,aC ?_⟩;refine⟨fk.ap (xs:=I) (q:=I.length) rfl (by omega),aC ?_⟩;repeat(first|(refine nw ?_;conv=>whnf)|(refine nw ?_ ⟨_,cH.Xn (P:=prog) (t:=9) (v:= .str (mS x P.length).1) (xs:=P) (y:=mS x P.length) (k:=0) rfl rfl,cH.Xn (P:=prog) (t:=9) (v:= .str (mS x P.length).1) (xs:=P) (y:=mS x P.length) (k:=0) rfl rfl⟩;conv=>whnf)|(refine nw ?_ ⟨_,mO rfl rfl rfl rfl rfl (mP q (by omega)),mO rfl rfl rfl rfl rfl (mP q (by omega))⟩;conv=>whnf))
   exact⟨(P++[mS x P.length],I++[([97+q],(mS x P.length).1,Aa (nX x))]),hq,⟨dA,⟨by show(P++[mS x P.length]).length<=q+1;omega,by show(I++[([97+q],(mS x P.length).1,Aa (nX x))]).length=q+1;omega,λ_=>by show 0<(P++[mS x P.length]).length;omega⟩⟩,sb [(64,64),(65,65),(66,66),(67,72),(68,75)]⟩
  .have k2:bD (P.length:Int) 0=false:=k2;refine aE ?_;refine ay (λk3=>?_) (λk3=>?_)
   .have k3:aY x.2.1=true:=k3;have hP:rW P x=P++[mS x P.length]:=(by unfold rW;rw [k2];show(match aY x.2.1 with|true=>_|false=>_)=_;rw [k3]);rw [hP,Oj]at dA;have GK:aj .i64 (Int.sub (Int.ofNat (P.length+1)) 1)=(P.length:Int):=by
     show aj .i64 (((P.length+1:Nat):Int) - 1)=_;rw [aA (by omega) (by omega)];omega
    have hPl:P.length+1=(P++[mS x P.length]).length:=(by rw [List.length_append];rfl);have hIl:I.length+1=(I++[([97+q],(mS x P.length).1,Aa (nX x))]).length:=(by rw [List.length_append];rfl);have hIa:=fk.wg I ([97+q],(mS x P.length).1,Aa (nX x));have hPa:=cH.wg P (mS x P.length);refine aE ?_;refine cg tLo 0 (Cn.lift bZ VT) x.1 hx.b.2 (aE ?_);refine cg tLo 1 fJ (P.length:Int) hsz (aE ?_);refine⟨Nat.le_trans (Nat.add_le_add_left (rm _) _) (by decide),aE ?_⟩;refine⟨_,rfl,aC ?_⟩;refine⟨cH.ap (xs:=P) (q:=P.length) rfl (by omega),aE ?_⟩;refine⟨.str [97+q],mO rfl rfl rfl rfl rfl (mP q (by omega)),aE ?_⟩;refine aL.go P.length GK (Nat.lt_succ_self _) (aE ?_);refine⟨_,cH.Xn (P:=prog) (t:=9) (v:= .str (mS x P.length).1) (xs:=P) (y:=mS x P.length) (k:=0) rfl rfl,aE ?_⟩;refine cg tLo 2 EV x hx (aC ?_);repeat(first|(refine nw ?_;conv=>whnf)|(refine nw ?_ ⟨_,cH.Xn (P:=prog) (t:=9) (v:= .str (mS x P.length).1) (xs:=P) (y:=mS x P.length) (k:=0) rfl rfl,cH.Xn (P:=prog) (t:=9) (v:= .str (mS x P.length).1) (xs:=P) (y:=mS x P.length) (k:=0) rfl rfl⟩;conv=>whnf)|(refine nw ?_ ⟨_,mO rfl rfl rfl rfl rfl (mP q (by omega)),mO rfl rfl rfl rfl rfl (mP q (by omega))⟩;conv=>whnf))
    refine⟨_,rfl,aC ?_⟩;refine⟨fk.ap (xs:=I) (q:=I.length) rfl (by omega),aC ?_⟩;repeat(first|(refine nw ?_;conv=>whnf)|(refine nw ?_ ⟨_,cH.Xn (P:=prog) (t:=9) (v:= .str (mS x P.length).1) (xs:=P) (y:=mS x P.length) (k:=0) rfl rfl,cH.Xn (P:=prog) (t:=9) (v:= .str (mS x P.length).1) (xs:=P) (y:=mS x P.length) (k:=0) rfl rfl⟩;conv=>whnf)|(refine nw ?_ ⟨_,mO rfl rfl rfl rfl rfl (mP q (by omega)),mO rfl rfl rfl rfl rfl (mP q (by omega))⟩;conv=>whnf))
    exact⟨(P++[mS x P.length],I++[([97+q],(mS x P.length).1,Aa (nX x))]),hq,⟨dA,⟨by show(P++[mS x P.length]).length<=q+1;omega,by show(I++[([97+q],(mS x P.length).1,Aa (nX x))]).length=q+1;omega,λ_=>by show 0<(P++[mS x P.length]).length;omega⟩⟩,sb [(64,64),(65,65),(66,66),(67,72),(68,75)]⟩
   .have k3:aY x.2.1=false:=k3;have hP:rW P x=P:=(by unfold rW;rw [k2];show(match aY x.2.1 with|true=>_|false=>_)=_;rw [k3]);have hp0:0<P.length:=by
     rcases Nat.eq_zero_or_pos P.length with h|h
     .rw [h]at k2;cases k2
     .exact h
    have hp:P.length - 1<P.length:=(by omega);rw [hP,aat P hp]at dA;have GK:aj .i64 (Int.sub (P.length:Int) 1)=((P.length - 1:Nat):Int):=by
     show aj .i64 ((P.length:Int) - 1)=_;rw [aA (by omega) (by omega)];omega
    have hIl:I.length+1=(I++[([97+q],P[P.length - 1].1,Aa (nX x))]).length:=(by rw [List.length_append];rfl);have hIa:=fk.wg I ([97+q],P[P.length - 1].1,Aa (nX x));refine aE ?_;refine⟨.str [97+q],mO rfl rfl rfl rfl rfl (mP q (by omega)),aE ?_⟩;refine aL.go (P.length - 1) GK hp (aE ?_);refine⟨_,cH.EX (P:=prog) (t:=9) (v:= .str P[P.length - 1].1) (k:=0) hp rfl rfl,aE ?_⟩;refine cg tLo 2 EV x hx (aC ?_);repeat(first|(refine nw ?_;conv=>whnf)|(refine nw ?_ ⟨_,cH.EX (P:=prog) (t:=9) (v:= .str P[P.length - 1].1) (k:=0) hp rfl rfl,cH.EX (P:=prog) (t:=9) (v:= .str P[P.length - 1].1) (k:=0) hp rfl rfl⟩;conv=>whnf)|(refine nw ?_ ⟨_,mO rfl rfl rfl rfl rfl (mP q (by omega)),mO rfl rfl rfl rfl rfl (mP q (by omega))⟩;conv=>whnf))
    refine⟨_,rfl,aC ?_⟩;refine⟨fk.ap (xs:=I) (q:=I.length) rfl (by omega),aC ?_⟩;repeat(first|(refine nw ?_;conv=>whnf)|(refine nw ?_ ⟨_,cH.EX (P:=prog) (t:=9) (v:= .str P[P.length - 1].1) (k:=0) hp rfl rfl,cH.EX (P:=prog) (t:=9) (v:= .str P[P.length - 1].1) (k:=0) hp rfl rfl⟩;conv=>whnf)|(refine nw ?_ ⟨_,mO rfl rfl rfl rfl rfl (mP q (by omega)),mO rfl rfl rfl rfl rfl (mP q (by omega))⟩;conv=>whnf))
    exact⟨(P,I++[([97+q],P[P.length - 1].1,Aa (nX x))]),hq,⟨dA,⟨Nat.le_succ_of_le lr,by show(I++[([97+q],P[P.length - 1].1,Aa (nX x))]).length=q+1;omega,λ_=>hp0⟩⟩,sb [(64,64),(65,65),(66,66),(67,67),(68,72)]⟩
 .obtain rfl:=rN hq k1;rw [List.drop_length]at dA;have dA:(P,I)=W:=dA;rw [<-dA];refine aE ?_;exact .agg (.cons (cH.gG rfl rfl rfl) (.cons (fk.gG rfl rfl rfl) .nil))
end
end
end Go.Sy
namespace Go.Sy
noncomputable section
open Go.RowKit Go.Proofs Go.Proofs.Tryz
section
attribute [local irreducible] Cw ak bq PF Sub
section
attribute [local instance] fp
end
attribute [local instance] bZ
section
abbrev ajF:aT:=pR bZ 7
attribute [local instance] ajF
end
end
section
attribute [local irreducible] Cw ak bq PF Sub
attribute [local instance] bZ
def Ia (l:List pX):AV:= .agg (.cons (ui.list.v l) .nil)
theorem rX (l:List pX):DP (Ia l):=⟨ui.list.jm l,aB⟩
def Wb:List pX ->Bool
 |[]=>true|x::l=>match cQ 3 (x.1.2.length:Int)with|true=>false|false=>Wb l
def uj (l:List pX):Bool:=match Wb l with|true=>gD (l.length:Int) 4|false=>false
theorem aav (l:List pX) (hl:l.length<=9223372036854775807):PF prog 8 (.cons (Ia l) .nil) (.bool (uj l)):=by
 refine PF.go af ae [] (fn:=f8) rfl rfl rfl (hpure:= .cons (br (rX l)) .nil) λB0 hc=>?_;unfold uj;obtain⟨W,hW⟩:∃W,W=Wb l:=⟨_,rfl⟩
 rw [<-hW];conv=>whnf
 refine Cw.lp (σ:=Unit) af rfl rfl hc l.length (λq _=>[(1,.ptr (pathOf 64) 0),(3,.int .i64 (q:Int))]) (λq _=>hp [(64,cl [ui.list.v l])] 65) (λq _=>Wb (l.drop q)=W) () hW.symm (sb [(64,64)]) (λq _ hq hs=>?_);conv=>whnf
 refine ay (λk1=>?_) (λk1=>?_)
 .have hq:=pT k1;have cE:aj .i64 (Int.add (q:Int) 1)=((q+1:Nat):Int):=by
   show aj .i64 ((q:Int)+1)=_;rw [aA (by omega) (by omega)];omega
  rw [List.drop_eq_getElem_cons hq]at hs;have hs:(match cQ 3 (l[q].1.2.length:Int)with|true=>false|false=>Wb (l.drop (q+1)))=W:=hs;refine aE ?_;refine aL.go q rfl hq (aE ?_);refine⟨_,ui.EX (t:=101) (v:=mR.list.v l[q].1.2) (k:=1) hq rfl rfl,aE ?_⟩;refine ay (λk2=>?_) (λk2=>?_)
  .have k2:cQ 3 (l[q].1.2.length:Int)=true:=k2;rw [k2]at hs;have hs:false=W:=hs;rw [<-hs];refine aE ?_;exact ak.pure .bool
  .have k2:cQ 3 (l[q].1.2.length:Int)=false:=k2;rw [k2]at hs;refine aE ?_;exact⟨(),hq,hs,sb [(64,64)]⟩
 .obtain rfl:=rN hq k1;rw [List.drop_length]at hs;have hs:true=W:=hs;rw [<-hs];refine aE ?_;exact ak.pure .bool
def ahg (wv:AV) (hw:DP wv) (a:iL) (hl:PF prog 9 (.cons wv .nil) (eA.v a)):Cn prog:=⟨9,false,Unit,λ_=> .cons wv .nil,λ_=>eA.v a,λ_=>True,λ_ _ _ _ _=>rfl,λ_=>⟨hw,aB⟩,λ_=>eA.an _,λh=>Bool.noConfusion h,λ_ _=>hl,aw rfl rfl⟩
def Wc (hK:PF prog 7 .nil (.bool true)):Cn prog:=⟨7,true,Unit,λ_=> .nil,λ_=> .bool true,λ_=>True,λ_ _ _ _ _=>rfl,λ_=>trivial,λ_=> .bool,λ_ _=>λ_ _ _ h=>h,λ_ _=>hK,aw rfl rfl⟩
def aaw (l:List pX) (hl:l.length<=9223372036854775807):Cn prog:=⟨8,true,Unit,λ_=> .cons (Ia l) .nil,λ_=> .bool (uj l),λ_=>True,λ_ _ _ _ _=>rfl,λ_=>⟨rX l,aB⟩,λ_=> .bool,λ_ _=>λ_ _ _ h=>h,λ_ _=>aav l hl,aw rfl rfl⟩
end
section
def GW (S:List fA):Prop:=S.length<=1000/\∀a∈S,a.2.length<=1000/\∀x∈a.2,GS x
variable {s s':dh} {d:Q3} {a b:fA} {S:List fA} {y:sV} {n A B M:Nat} {k:Int}
theorem ahh:Bb b0:=λe=>by cases e
theorem ahi (h:GS s) (h':GS s') (hd:Bv 8 2 d):agM s s' d/\Bq 40000 40000 (ivS s s' d).1/\Bq 40000 40000 (ivS s s' d).2.1:=by
 have z0:Bq 40000 40000 ((0,0):Q):=⟨Bz.zero,Bz.zero⟩
 obtain⟨k1,k2⟩:=aah h h' hd (kL s s') b0 b0 (EP h h').2 ahh ahh;refine⟨⟨oJ hd Eu (by decide) (by decide) (by decide) (by decide),(EP h h').1,λ_=>k1⟩,?_⟩;unfold ivS;cases cT d with
 |true=>exact⟨z0,z0⟩|false=>
  show Bq _ _ (Cq (uf s s' d (kL s s') b0 b0)).1/\Bq _ _ (Cq (uf s s' d (kL s s') b0 b0)).2.1;generalize uf s s' d (kL s s') b0 b0=o at k2;cases o with
  |none=>exact⟨z0,z0⟩|some x=>
   obtain⟨⟨f,f'⟩,⟨t,t'⟩⟩:=x;obtain⟨b1,b2⟩:=k2 _ rfl;cases f' with
   |false=>exact⟨z0,z0⟩|true=>
    cases t' with
    |false=>exact⟨z0,z0⟩|true=>
     show Bq _ _ (match gD 0 (Q.cmp f t)with|true=>((0,0),(0,0),false,0)|false=>(f,t,true,0):IvR).1/\Bq _ _ (match gD 0 (Q.cmp f t)with|true=>((0,0),(0,0),false,0)|false=>(f,t,true,0):IvR).2.1;cases gD 0 (Q.cmp f t)with
     |true=>exact⟨z0,z0⟩|false=>exact⟨b1 rfl,b2 rfl⟩
end
theorem mul_comm (p q:Q):Q.mul p q=Q.mul q p:=by
 unfold Q.mul;rw [Bool.and_comm,Int.mul_comm p.1,Int.mul_comm (Q.dn p)]
theorem Ak (p q:Q):Q.mul p (Q.neg q)=Q.neg (Q.mul p q):=by rw [mul_comm,mul_neg,mul_comm]
theorem Wd (p q:Q):Q.sub q p=Q.neg (Q.sub p q):=by
 unfold Q.sub;rw [<-add_neg,neg_neg,add_comm]
theorem We (a b:Q3):aG b a=uo (aG a b):=by
 have key:∀p q r s:Q,Eg s r q p=Q.neg (Eg p q r s):=λp q r s=>by
  unfold Eg;rw [<-Wd,mul_comm s r,mul_comm q p]
 show(Eg b.2.1 a.2.2 b.2.2 a.2.1,Eg b.2.2 a.1 b.1 a.2.2,Eg b.1 a.2.1 b.2.1 a.1)=(Q.neg (Eg a.2.1 b.2.2 a.2.2 b.2.1),Q.neg (Eg a.2.2 b.1 a.1 b.2.2),Q.neg (Eg a.1 b.2.1 a.2.1 b.1))
 rw [<-key,<-key,<-key]
theorem Lp (v:Q3):cT (uo v)=cT v:=by
 have k:∀q:Q,Q.cmp (Q.neg q) (0,0)= -Q.cmp q (0,0):=λq=>(ES q (0,0)).trans (Ae _ _);have z:∀q:Q,bD (Q.cmp (Q.neg q) (0,0)) 0=bD (Q.cmp q (0,0)) 0:=λq=>by
  rw [k];exact Bool.eq_iff_iff.2 (by rw [bh,bh];omega)
 unfold cT dH;show bD (match bD (Q.cmp (Q.neg v.1) (0,0)) 0 with|false=>Q.cmp (Q.neg v.1) (0,0)|true=>(match bD (Q.cmp (Q.neg v.2.1) (0,0)) 0 with|false=>Q.cmp (Q.neg v.2.1) (0,0)|true=>Q.cmp (Q.neg v.2.2) (0,0))) 0=bD (match bD (Q.cmp v.1 (0,0)) 0 with|false=>Q.cmp v.1 (0,0)|true=>(match bD (Q.cmp v.2.1 (0,0)) 0 with|false=>Q.cmp v.2.1 (0,0)|true=>Q.cmp v.2.2 (0,0))) 0;rw [z,z];cases bD (Q.cmp v.1 (0,0)) 0 with
 |false=>exact z v.1|true=>
  cases bD (Q.cmp v.2.1 (0,0)) 0 with
  |false=>exact z v.2.1|true=>exact z v.2.2
theorem abV (a:Q3) (k:Q):qT (uo a) k=uo (qT a k):=by
 show(Q.mul k (Q.neg a.1),Q.mul k (Q.neg a.2.1),Q.mul k (Q.neg a.2.2))=(Q.neg (Q.mul k a.1),Q.neg (Q.mul k a.2.1),Q.neg (Q.mul k a.2.2))
 rw [Ak,Ak,Ak]
theorem aax (a:Q3):tW (uo a)=tW a:=by
 have k:∀x y:Int,wq x (-y)=wq x y:=λx y=>by unfold wq;rw [Int.natAbs_neg]
 show wq (wq (wq 0 (-a.1.1)) (-a.2.1.1)) (-a.2.2.1)=_;rw [k,k,k];rfl
theorem Ol (v:Q3):aI (uo v)=uo (aI v):=by
 unfold aI;rw [Lp];cases cT v with
 |true=>rfl|false=>
  show qT (qT (uo v) (dv (oH v) 1)) (dv 1 (tW (qT (uo v) (dv (oH v) 1))))=uo (qT (qT v (dv (oH v) 1)) (dv 1 (tW (qT v (dv (oH v) 1)))));rw [abV,aax,abV]
theorem Wf (n:Int):lA n ((1:Nat):Int)=n:=by
 unfold lA;rw [if_neg (by decide)];exact Int.fdiv_one n
theorem Wg {q:Q} (h:Nq q):Qe (Q.sub (0,0) q) (Q.neg q):=by
 have hw:Q.whole (0,0)=true:=rfl;unfold Q.sub Q.add;rw [hw,mh,Bool.true_and];cases e:Q.whole q with
 |true=>
  rw [if_pos rfl];refine⟨Int.zero_add _,?_⟩;rw [ir]at e;show(1:Int)=Q.dn q;rw [of_decide_eq_true e]
 |false=>
  rw [if_neg (by decide)];rcases h with h|⟨h1,h2⟩
  .unfold Q.whole at e;rw [h]at e;cases e
  .have hd:Q.dn q=q.2:=(by unfold Q.dn;rw [if_neg (by omega)]);show Qe (dv (0*Q.dn q+ -q.1*1) (1*Q.dn q)) (Q.neg q);rw [hd,Int.zero_mul,Int.zero_add,Int.mul_one,Int.one_mul,ER];have:dv q.1 q.2=q:=by
    unfold dv;rw [if_neg (by omega),h2,Wf,Wf]
   rw [this];exact Qe.refl _
theorem Lq {v:Q3} (h:N3 v):sX (kn v) (uo v):=⟨Wg h.1,Wg h.2.1,Wg h.2.2⟩
theorem Qe.neg {p q:Q} (h:Qe p q):Qe (Q.neg p) (Q.neg q):=⟨congrArg (λx:Int=> -x) h.1,h.2⟩
theorem sX.ng {x y:Q3} (h:sX x y):sX (uo x) (uo y):=⟨h.1.neg,h.2.1.neg,h.2.2.neg⟩
theorem sX.trans {x y z:Q3} (h:sX x y) (k:sX y z):sX x z:=⟨h.1.trans k.1,h.2.1.trans k.2.1,h.2.2.trans k.2.2⟩
theorem sX.symm {x y:Q3} (h:sX x y):sX y x:=⟨h.1.symm,h.2.1.symm,h.2.2.symm⟩
theorem oP {κ β:Type} [DecidableEq κ] {k:κ} {b:β} {l:List (κ×β)}:k∈(kW k b l).map (·.1)/\∀j∈l.map (·.1),j∈(kW k b l).map (·.1):=by
 unfold kW;cases e:tM k l 0 with
 |none=>exact⟨by simp,λj hj=>by rw [List.map_append];exact List.mem_append_left _ hj⟩|some x=>
  obtain⟨q,h1,h2,h3⟩:=Ad e;have hx:x.1=q:=by omega
  have:(l.set x.1 (k,b)).map (·.1)=l.map (·.1):=by
   rw [List.map_set,hx];refine List.ext_getElem (by simp) λn hn hm=>?_;rw [List.getElem_set];split
   .rename_i g;subst g;rw [List.getElem_map,h3]
   .rfl
  refine⟨?_,λj hj=>?_⟩
  .show k∈(l.set x.1 (k,b)).map (·.1);rw [this];exact List.mem_map.2 ⟨l[q],List.getElem_mem h2,h3⟩
  .show j∈(l.set x.1 (k,b)).map (·.1);rw [this];exact hj
theorem Lr (l:Hu) (v:Q3):(∀j∈l.map (·.1),j∈(bK l v).map (·.1))/\(cT v=false ->kc (aI v)∈(bK l v).map (·.1)/\kc (kn (aI v))∈(bK l v).map (·.1)):=by
 unfold bK;cases cT v with
 |true=>exact⟨λj hj=>hj,λe=>by cases e⟩|false=>exact⟨λj hj=>oP.2 j (oP.2 j hj),λ_=>⟨oP.2 _ oP.1,oP.1⟩⟩
theorem xn:∀(vs:List Q3) (l:Hu),(∀j∈l.map (·.1),j∈(vs.foldl bK l).map (·.1))/\∀v∈vs,cT v=false ->kc (aI v)∈(vs.foldl bK l).map (·.1)/\kc (kn (aI v))∈(vs.foldl bK l).map (·.1)
 |[],l=>⟨λj hj=>hj,λv hv=>by cases hv⟩
 |w::vs,l=>by
  obtain⟨a,b⟩:=Lr l w;obtain⟨c,d⟩:=xn vs (bK l w);refine⟨λj hj=>c j (a j hj),λv hv hz=>?_⟩;rcases List.mem_cons.1 hv with rfl|hv
  .exact⟨c _ (b hz).1,c _ (b hz).2⟩
  .exact d v hv hz
def Wh (vs:List Q3) (x:Q3):Prop:=∃v∈vs,cT v=false/\(x=aI v\/x=kn (aI v))
theorem Ib {κ β:Type} [DecidableEq κ] {k:κ} {b:β} {l:List (κ×β)}:∀x∈kW k b l,x=(k,b)\/x∈l:=by
 unfold kW;cases tM k l 0 with
 |none=>intro x hx;rcases List.mem_append.1 hx with h|h;exact .inr h;exact .inl (List.mem_singleton.1 h)
 |some y=>intro x hx;exact(List.mem_or_eq_of_mem_set hx).symm
theorem xo (W:List Q3):∀(vs:List Q3) (l:Hu),(∀v∈vs,v∈W) ->(∀x∈l,Wh W x.2) ->∀x∈vs.foldl bK l,Wh W x.2
 |[],l,_,h=>h|w::vs,l,hw,h=>xo W vs (bK l w) (λv hv=>hw v (List.mem_cons_of_mem _ hv)) (by
  have hm:=hw w (List.mem_cons_self ..);unfold bK;cases hz:cT w with
  |true=>exact h|false=>
   intro x hx;rcases Ib x hx with rfl|hx
   .exact⟨w,hm,hz,.inr rfl⟩
   rcases Ib x hx with rfl|hx
   .exact⟨w,hm,hz,.inl rfl⟩
   .exact h x hx)
section
variable {s s':dh}
theorem vF {x:Q3}:x∈kL s s'↔∃e∈Fm s s',e.2=x:=by
 unfold kL;rw [(jY nU _).mem_iff,List.mem_map]
theorem Ic (h:GS s) (h':GS s') {v:Q3} (hv:v∈Fl s s') (hz:cT v=false):(∃x∈kL s s',sX x (aI v))/\∃x∈kL s s',sX x (kn (aI v)):=by
 obtain⟨k1,k2⟩:=(xn (Fl s s') []).2 v hv hz;have ai:=(VH h h').1;obtain⟨e,he,e1⟩:=List.mem_map.1 k1;obtain⟨f,hf,f1⟩:=List.mem_map.1 k2;exact⟨⟨e.2,vF.2 ⟨e,he,rfl⟩,VO (((ai.p e he).1.symm).trans e1)⟩,⟨f.2,vF.2 ⟨f,hf,rfl⟩,VO (((ai.p f hf).1.symm).trans f1)⟩⟩
theorem CE {x:Q3} (hx:x∈kL s s'):Wh (Fl s s') x:=by
 obtain⟨e,he,rfl⟩:=vF.1 hx;exact xo _ (Fl s s') [] (λv hv=>hv) (λx hx=>by cases hx) e he
theorem Wi {v:Q3} (h:v∈Fl s s'):v∈Fl s' s\/uo v∈Fl s' s:=by
 rcases List.mem_append.1 h with h|h
 .left;refine List.mem_append_left _ ?_;rw [List.map_append]at h ⊢;exact List.mem_append.2 (List.mem_append.1 h).symm
 .right;obtain⟨x,hx,h⟩:=List.mem_flatMap.1 h;obtain⟨y,hy,rfl⟩:=List.mem_map.1 h;refine List.mem_append_right _ (List.mem_flatMap.2 ⟨y,hy,List.mem_map.2 ⟨x,hx,?_⟩⟩);rw [We]
theorem QR (h:GS s) (h':GS s') {x:Q3} (hx:x∈kL s s'):∃y∈kL s' s,dI s' s y=dI s s' x:=by
 obtain⟨v,hv,hz,e⟩:=CE hx;have key:∃y∈kL s' s,sX y (uo x):=by
  have hn:sX (kn (aI v)) (uo (aI v)):=Lq zQ;rcases Wi hv with hw|hw
  .obtain⟨⟨y,hy,k⟩,⟨z,hz',l⟩⟩:=Ic h' h hw hz;rcases e with rfl|rfl
   .exact⟨z,hz',l.trans hn⟩
   .refine⟨y,hy,k.trans ?_⟩;have:=hn.ng;rw [aai]at this;exact this.symm
  .obtain⟨⟨y,hy,k⟩,⟨z,hz',l⟩⟩:=Ic h' h hw (by rw [Lp];exact hz);rw [Ol]at k l;rcases e with rfl|rfl
   .exact⟨y,hy,k⟩
   .refine⟨z,hz',l.trans ?_⟩;have h1:sX (kn (uo (aI v))) (uo (uo (aI v))):=Lq (by
     rw [<-Ol];exact zQ)
    exact h1.trans hn.ng.symm
 obtain⟨y,hy,k⟩:=key;exact⟨y,hy,(k.gap s' s).trans (aez s s' x)⟩
theorem vG (a b:dh):∀(l:List Q3) (k:Int),ki a b l k=3↔k=3/\∀n∈l,(dI a b n).1.sign≠1/\(dI a b n).1.sign≠0
 |[],k=>by
  show k=3↔_;simp
 |n::l,k=>by
  unfold ki;rw [List.forall_mem_cons];cases e1:bD (dI a b n).1.sign 1 with
  |true=>
   have:=bh.1 e1;show(1:Int)=3↔_;exact⟨λe=>by omega,λe=>absurd this e.2.1.1⟩
  |false=>
   have h1:=jo.1 e1;show ki a b l _=3↔_;rw [vG];cases e2:bD (dI a b n).1.sign 0 with
   |true=>
    have:=bh.1 e2;show(2:Int)=3/\_↔_;exact⟨λe=>by omega,λe=>absurd this e.2.1.2⟩
   |false=>
    have h2:=jo.1 e2;show k=3/\_↔_;exact⟨λe=>⟨e.1,⟨h1,h2⟩,e.2⟩,λe=>⟨e.1,e.2.2⟩⟩
theorem Wj (h:GS s) (h':GS s') (e:ew s s'=3):ew s' s=3:=by
 refine(vG s' s _ 3).2 ⟨rfl,λn hn=>?_⟩;obtain⟨y,hy,k⟩:=QR h' h hn;rw [<-k];exact((vG s s' _ 3).1 e).2 y hy
end
section
variable {s:dh} {t:Tn} {p:sV} {v:Q3}
theorem ahj (h:v.1.1≠0\/v.2.1.1≠0\/v.2.2.1≠0):cT v=false:=by
 cases e:cT v with
 |false=>rfl|true=>
  exfalso;have hz:∀{q:Q},Q.cmp q (0,0)=0 ->q.1=0:=λ{q} g=>by
   rw [pG]at g;have g:eM (q.1*1) (0*Q.dn q)=0:=g;rw [Int.mul_one,Int.zero_mul]at g;have g1:=(ka (a:=q.1) (b:=0)).1;have g2:=(ka (a:=q.1) (b:=0)).2.1;have g3:¬q.1<0:=λg4=>by have:=g1.2 g4;omega
   have g4:=g2.1 (by omega);omega
  have e:dH v z3=0:=bh.1 e;unfold dH at e;split at e
  .rename_i g;rw [bh.2 e]at g;cases g
  .rename_i g1;have a0:=hz (q:=v.1) (bh.1 g1);split at e
   .rename_i g;rw [bh.2 e]at g;cases g
   .rename_i g2;have b0:=hz (q:=v.2.1) (bh.1 g2);have c0:=hz (q:=v.2.2) e;rcases h with h|h|h
    .exact h a0
    .exact h b0
    .exact h c0
theorem aay (h:cT v=false):cT (aI v)=false:=by
 have k1:(dv (oH v) 1).1≠0:=wz (Ew v);have k2:∀z:Int,(dv 1 z).1≠0:=λz=>wz (by decide);unfold aI;rw [h];refine ahj ?_;rcases Np h with g|g|g
 .exact .inl (jq (k2 _) (jq k1 g))
 .exact .inr (.inl (jq (k2 _) (jq k1 g)))
 .exact .inr (.inr (jq (k2 _) (jq k1 g)))
def q8B (q:Q):Bool:=Nat.blt q.1.natAbs 8 &&Nat.blt q.2.natAbs 8
def Wk (r:Q3):Bool:=q8B r.1 &&(q8B r.2.1 &&q8B r.2.2)
theorem EZ {r:Q3} (h:Wk r=true):Bv 3 3 r:=by
 unfold Wk q8B at h;simp only [Bool.and_eq_true]at h;exact⟨⟨blt' h.1.1,blt' h.1.2⟩,⟨blt' h.2.1.1,blt' h.2.1.2⟩,blt' h.2.2.1,blt' h.2.2.2⟩
theorem aeR:∀t∈bN,Wk (qT (gR (cP t).1) (jc t))=true/\Wk (qT (gR (cP t).2.1) (jc t))=true/\Wk (qT (gR (cP t).2.2) (jc t))=true:=by decide+kernel
theorem ajG (h:p.OK):Bv 8 2 p.q:=by
 have key:∀{n:Int} {b:Bool},Bh n b ->Bq 8 2 (Ey n b):=λ{n b} k=>by
  obtain⟨a,c,_⟩:=k;cases b with
  |true=>exact⟨by show _<2 ^ 8;show n.natAbs<_;omega,by show 2<2 ^ 2;decide⟩|false=>exact⟨by show _<2 ^ 8;show n.natAbs<_;omega,Bz.zero⟩
 exact⟨key h.1,key h.2.1,key h.2.2⟩
theorem Wl {a b k m:Nat} (ht:t∈bN) (hv:Bv a b v) (hb:0<b) (hk:3+a+3*(3+b)+4<=k) (hm:3*(3+b)+1<=m) (h:k<=1000000):qV (gh t p) v/\Bv k m (iI (gh t p) v):=by
 obtain⟨r1,r2,r3⟩:=aeR t ht;obtain⟨a1,b1⟩:=kh (EZ r1) hv (by decide) hb (by omega);obtain⟨a2,b2⟩:=kh (EZ r2) hv (by decide) hb (by omega);obtain⟨a3,b3⟩:=kh (EZ r3) hv (by decide) hb (by omega);exact⟨⟨a1,a2,a3⟩,b1.mono hk hm,b2.mono hk hm,b3.mono hk hm⟩
theorem abW (ht:t∈bN) (hp:p.OK) (hv:Bv 3 1 v):Hh (gh t p) v/\Bv 25 15 (lT (gh t p) v):=by
 obtain⟨a,b⟩:=Wl (p:=p) (k:=22) (m:=13) ht hv (by decide) (by decide) (by decide) (by decide);obtain⟨c,d⟩:=Hw 24 b (ajG hp) (by decide) (by decide) (by decide) (by decide) (by decide) (by decide);exact⟨⟨a,c⟩,d⟩
theorem Om (h:GS s) (hz:NZ s) (ht:t∈bN) (hp:p.OK):pF (gh t p) s/\GS (iS (gh t p) s):=by
 obtain⟨z1,z2,x0,hx0,z3',z4⟩:=hz;have hV:∀v∈s.1.map (lT (gh t p)),Bv 25 15 v:=λv hv=>by
  obtain⟨u,hu,rfl⟩:=List.mem_map.1 hv;exact(abW ht hp (z1 u hu)).2
 have hl:(s.1.map (lT (gh t p))).length=s.1.length:=List.length_map ..;have hN:∀x∈s.2.1,qV (gh t p) x.1/\mI (iI (gh t p) x.1)/\Bv 66 80 (aI (iI (gh t p) x.1)):=λx hx=>by
  obtain⟨a,b⟩:=Wl (p:=p) (k:=24) (m:=13) ht (z2 x hx) (by decide) (by decide) (by decide) (by decide);obtain⟨c,d⟩:=qY b (by decide) (by decide);exact⟨a,c,d⟩
 have v1:=h.v1;have f1:=h.f1;have e1:=h.e1;have v0:=h.v0;have f0:=h.f0;refine⟨⟨by omega,by omega,by omega,λq hq=>(abW ht hp (z1 _ (List.getElem_mem hq))).1,λq hq=>?_⟩,⟨?_,?_,hV,?_,?_,λx hx=>?_,?_,e1,λx hx=>?_⟩⟩
 .obtain⟨a,b,c⟩:=hN _ (List.getElem_mem hq);obtain⟨_,g,i,hi,hh⟩:=h.f _ (List.getElem_mem hq);exact⟨a,b,by omega,i,by omega,hh,(kh c (EN (i:=i) hV) (by decide) (by decide) (by decide)).1⟩
 .show 0<(s.1.map (lT (gh t p))).length;omega
 .show(s.1.map (lT (gh t p))).length<=16;omega
 .show 0<(s.2.1.map _).length;rw [List.length_map];exact f0
 .show(s.2.1.map _).length<=10;rw [List.length_map];exact f1
 .obtain⟨y,hy,rfl⟩:=List.mem_map.1 hx;obtain⟨_,g,i,hi,hh⟩:=h.f _ hy;exact⟨(hN y hy).2.2,g,i,by show i<(s.1.map (lT (gh t p))).length;omega,hh⟩
 .exact⟨_,List.mem_map_of_mem hx0,aay (z4 t ht p)⟩
 .obtain⟨⟨i,a,b⟩,j,c,d⟩:=h.e x hx;exact⟨⟨i,a,by show i<(s.1.map (lT (gh t p))).length;omega⟩,j,c,by show j<(s.1.map (lT (gh t p))).length;omega⟩
structure Ls (p:mM):Prop where
 d1:1<=p.2.1
 d2:p.2.1<=9
 c0:0<p.2.2.length
 c1:p.2.2.length<=2
 c:∀l∈p.2.2,∃b,lB b/\l=cL b
theorem aeS:∀{l:List Bk},(∀x∈l,lB x) ->0<(Bj l).length/\(Bj l).length<=2/\∀c∈Bj l,∃b,lB b/\c=cL b
 |[],_=>⟨by decide,by decide,λc hc=>⟨bk0,by unfold lB U83 U8;decide,List.mem_singleton.1 hc⟩⟩
 |[x],h=>⟨by show 0<1;decide,by show 1<=2;decide,λc hc=>⟨x,h x (List.mem_cons_self ..),List.mem_singleton.1 hc⟩⟩
 |x::y::r,h=>by
  have hx:=h x (List.mem_cons_self ..);have hy:=h y (List.mem_cons_of_mem _ (List.mem_cons_self ..));have e:Bj (x::y::r)=(match aY (IA x y)with|true=>[cL x,cL y]|false=>[cL x]):=rfl;rw [e];cases aY (IA x y);rotate_left
  .refine⟨by show 0<2;decide,by show 2<=2;decide,λc hc=>?_⟩;rcases List.mem_cons.1 hc with rfl|hc
   .exact⟨x,hx,rfl⟩
   .exact⟨y,hy,List.mem_singleton.1 hc⟩
  .exact⟨by show 0<1;decide,by show 1<=2;decide,λc hc=>⟨x,hx,List.mem_singleton.1 hc⟩⟩
theorem aeT {x:pX} (h:lK x) (n:Nat):Ls (mS x n):=by
 obtain⟨a,b,c⟩:=aeS h.b.2;obtain⟨d1,d2⟩:=h.b.1;have e1:Int.tmod x.1.1 9=x.1.1 % 9:=Int.tmod_eq_emod_of_nonneg d1;have e:dns x.1.1=1+x.1.1 % 9:=by
  unfold dns;rw [e1];have b1:0<=x.1.1 % 9/\x.1.1 % 9<9:=⟨Int.emod_nonneg _ (by decide),Int.emod_lt_of_pos _ (by decide)⟩
  generalize x.1.1 % 9=u at*;rw [aA (n:=u) (by omega) (by omega)];show aj .i64 (1+u)=_;rw [aA (by omega) (by omega)]
 exact⟨by show 1<=dns x.1.1;omega,by show dns x.1.1<=9;omega,a,b,c⟩
variable {P:mM}
theorem Ls.sh (h:Ls P):∀x∈mN P,GS x/\NZ x:=λx hx=>by
 obtain⟨l,hl,rfl⟩:=List.mem_map.1 hx;obtain⟨b,hb,rfl⟩:=h.c l hl;exact(rV hb).2
theorem Ls.part (h:Ls P):ug P:=by
 have d1:=h.d1;have d2:=h.d2;have c0:=h.c0;have c1:=h.c1;refine⟨d1,by omega,c0,by omega,λl hl=>?_,λa ha b hb=>?_⟩
 .obtain⟨b,hb,rfl⟩:=h.c l hl;exact(rV hb).1
 .exact ag6 (h.sh _ (List.mem_map_of_mem ha)).1 (h.sh _ (List.mem_map_of_mem hb)).1
theorem Ls.clo (h:Ls P):NQ P:=by
 have c1:=h.c1;refine⟨h.c0,by omega,λl hl=>?_⟩;obtain⟨b,hb,rfl⟩:=h.c l hl;have:=(rV hb).1.ck.hi;omega
theorem Ls.len (h:Ls P):(mN P).length<=2:=by unfold mN;rw [List.length_map];exact h.c1
theorem Ls.sol (h:Ls P) {y:EL} (ht:y.1∈bN) (hp:y.2.OK):Cs P y/\(zZ P y).2.length<=1000/\∀x∈(zZ P y).2,GS x:=by
 have hl:=h.len;refine⟨⟨h.part,ht,hp,by show(mN P).length<=1000000;omega,λx hx=>(Om (h.sh x hx).1 (h.sh x hx).2 ht hp).1⟩,?_,λx hx=>?_⟩
 .unfold zZ;split
  .decide
  .show((mN P).map _).length<=1000;rw [List.length_map];omega
 .unfold zZ at hx;split at hx
  .cases hx
  .obtain⟨z,hz,rfl⟩:=List.mem_map.1 hx;exact(Om (h.sh z hz).1 (h.sh z hz).2 ht hp).2
end
section
def GSp (y:EL):Prop:=y.1∈bN/\y.2.OK
structure GA (a:iL):Prop where
 n1:a.1.length<=4
 n2:a.2.length<=5
 p:∀p∈a.1,p.1∈names/\Ls p
 dp:(a.1.map (·.1)).Nodup
 i:∀x∈a.2,x.1∈names/\(∃p∈a.1,p.1=x.2.1)/\∃y,x.2.2=Aa y/\GSp y
 di:(a.2.map (·.1)).Nodup
variable {a:iL}
theorem GA.prt (h:GA a) {s:Nm} (hs:∃p∈a.1,p.1=s):Ls (fx a s):=by
 unfold fx;cases e:a.1.find? λp=>decide (p.1=s)with
 |none=>
  obtain⟨p,hp,g⟩:=hs;have:=List.find?_eq_none.1 e p hp;exact absurd (decide_eq_true g) this
 |some p=>exact(h.p p (List.mem_of_find?_eq_some e)).2
theorem GA.pt (h:GA a) {x:iF} (hx:x∈a.2):ZU a x.2.1:=⟨Nat.le_trans h.n1 (by decide),(h.i x hx).2.1,λp hp=>(h.p p hp).2.clo⟩
theorem GA.so (h:GA a) {x:iF} (hx:x∈a.2):(Ab x.2.2/\Cs (fx a x.2.1) (nF x.2.2))/\(jd a x).2.length<=1000/\∀s∈(jd a x).2,GS s:=by
 obtain⟨_,h1,y,h2,h3,h4⟩:=h.i x hx;have e:nF x.2.2=y:=by rw [h2];exact Ct h4
 have k:=(h.prt h1).sol h3 h4;unfold jd Ab;rw [e];exact⟨⟨⟨h2,h3,h4⟩,k.1⟩,k.2⟩
theorem GA.st (h:GA a) {x y:iF} (hx:x∈a.2) (hy:y∈a.2):nD (jd a x) (jd a y):=by
 obtain⟨_,a1,a2⟩:=h.so hx;obtain⟨_,b1,b2⟩:=h.so hy;exact⟨by omega,by omega,λs hs t ht=>Lh (a2 s hs) (b2 t ht)⟩
theorem GA.mok (h:GA a):ahe a:=⟨Nat.le_trans h.n1 (by decide),Nat.le_trans h.n2 (by decide),λx hx=>(h.i x hx).2.1,λx hx=>(h.so hx).1,λx hx y hy=>h.st hx hy⟩
theorem vH (a:iL):∀(l:List iF) (z:List iF×List fA),∃k:List iF,k.Sublist l/\(sq a l z).1=z.1++k
 |[],z=>⟨[],.slnil,by simp [sq]⟩
 |x::l,z=>by
  unfold sq;cases mkS a x z.2 with
  |true=>
   obtain⟨k,h1,h2⟩:=vH a l (z.1++[x],z.2++[jd a x]);exact⟨x::k,h1.cons_cons x,by rw [h2,List.append_assoc];rfl⟩
  |false=>
   obtain⟨k,h1,h2⟩:=vH a l z;exact⟨k,h1.cons x,h2⟩
theorem GA.CD (h:GA a):GA (CD a):=by
 obtain⟨k,h1,h2⟩:=vH a a.2 ([],[]);have e:(Go.Sy.CD a).2=k:=h2;have hs:(Go.Sy.CD a).2.Sublist a.2:=by rw [e];exact h1
 exact⟨h.n1,Nat.le_trans hs.length_le h.n2,h.p,h.dp,λx hx=>h.i x (hs.subset hx),(hs.map _).nodup h.di⟩
theorem GA.ck (h:GA a):NN a:=⟨Nat.le_trans h.n1 (by decide),Nat.le_trans h.n2 (by decide),λp hp=>⟨(h.p p hp).1,(h.p p hp).2.part⟩,λx hx=>⟨(h.i x hx).1,(h.so hx).1.1⟩,h.dp,h.di⟩
theorem GA.pla (h:GA a):NT a:=⟨h.ck,λ_=>⟨Nat.le_trans h.n2 (by decide),λx hx=>h.pt hx,λx hx=>(h.so hx).1⟩⟩
theorem GA.gw (h:GA a):GW (lk a):=by
 have key:∀s∈lk a,∃x∈a.2,s=jd a x:=λs hs=>by
  unfold lk at hs;split at hs
  .cases hs
  .obtain⟨x,hx,rfl⟩:=List.mem_map.1 hs;exact⟨x,hx,rfl⟩
 refine⟨?_,λs hs=>?_⟩
 .unfold lk;split
  .decide
  .show(a.2.map _).length<=1000;rw [List.length_map];exact Nat.le_trans h.n2 (by decide)
 .obtain⟨x,hx,rfl⟩:=key s hs;exact(h.so hx).2
theorem GA.sd (h:GA a):HP a:=by
 have g:=h.gw;refine⟨h.pla,Nat.le_trans g.1 (by decide),λx hx y hy=>?_⟩;obtain⟨a1,a2⟩:=g.2 x hx;obtain⟨b1,b2⟩:=g.2 y hy;exact⟨by omega,by omega,λs hs t ht=>Lh (a2 s hs) (b2 t ht)⟩
theorem aaz:∀i:_root_.Fin 256,-128<=Int.tdiv ((i.1:Int) - 128) 2/\Int.tdiv ((i.1:Int) - 128) 2<=127:=by decide+kernel
theorem Lt {n:Int} (h:I8 n) (b:Bool):Bh (Bl (wI n) b).1 (Bl (wI n) b).2:=by
 obtain⟨h1,h2⟩:=h;have e:wI n=n:=aA (by omega) (by omega);rw [e];unfold Bl;cases b with
 |false=>exact⟨h1,h2,λg=>by cases g⟩|true=>
  cases g:aY (bD (Int.tmod n 2) 0)with
  |true=>
   refine⟨h1,h2,λ_=>?_⟩;rcases Int.emod_two_eq n with k|k
   .rw [bh.2 (Int.tmod_eq_zero_of_dvd (Int.dvd_of_emod_eq_zero k))]at g;cases g
   .exact k
  |false=>
   have k:=aaz ⟨(n+128).toNat,by omega⟩;have e:(((n+128).toNat:Nat):Int) - 128=n:=(by omega);simp only [e]at k;dsimp only;rw [aA (by omega) (by omega)];exact⟨k.1,k.2,λg=>by cases g⟩
theorem Wm (k:Nat):bN.getD k (1,0,0,0)∈bN:=by
 rcases Nat.lt_or_ge k bN.length with h|h
 .rw [show bN.getD k (1,0,0,0)=bN[k] by simp [List.getD,h]];exact List.getElem_mem h
 .rw [show bN.getD k (1,0,0,0)=(1,0,0,0) by simp [List.getD,h]];exact List.mem_cons_self ..
theorem aeU {x:pX} (h:lK x):GSp (nX x):=⟨Wm _,Lt h.s.1 _,Lt h.s.2.1 _,Lt h.s.2.2 _⟩
structure LI (q:Nat) (z:iL):Prop where
 n1:z.1.length<=q
 n0:0<q ->0<z.1.length
 p1:z.1.map (·.1)=(List.range z.1.length).map λi:Nat=>112::vw i
 p2:∀p∈z.1,Ls p
 i1:z.2.map (·.1)=(List.range q).map λi=>[97+i]
 i2:∀x∈z.2,(∃p∈z.1,p.1=x.2.1)/\∃y,x.2.2=Aa y/\GSp y
theorem Wn (P:List mM) (x:pX):(rW P x=P/\0<P.length)\/rW P x=P++[mS x P.length]:=by
 unfold rW;cases e:bD (P.length:Int) 0 with
 |true=>exact .inr rfl|false=>
  cases aY x.2.1 with
  |true=>exact .inr rfl|false=>
   refine .inl ⟨rfl,?_⟩;rcases Nat.eq_zero_or_pos P.length with g|g
   .rw [g]at e;cases e
   .exact g
theorem LI.go:∀{l:List pX} {q:Nat} {z:iL},LI q z ->(∀x∈l,lK x) ->LI (q+l.length) (QP q l z)
 |[],q,z,h,_=>h|x::l,q,z,h,hl=>by
  have hx:=hl x (List.mem_cons_self ..);have key:LI (q+1) (rW z.1 x,lsI (rW z.1 x) z.2 q x):=by
   have hP:(rW z.1 x).length<=q+1/\0<(rW z.1 x).length/\(rW z.1 x).map (·.1)=((List.range (rW z.1 x).length).map λi:Nat=>112::vw i)/\(∀p∈rW z.1 x,Ls p)/\∀p∈z.1,p∈rW z.1 x:=by
    have n1:=h.n1;rcases Wn z.1 x with ⟨e,g⟩|e
    .rw [e];exact⟨by omega,g,h.p1,h.p2,λp hp=>hp⟩
    .rw [e];refine⟨by rw [List.length_append];show z.1.length+1<=q+1;omega,by rw [List.length_append];show 0<z.1.length+1;omega,?_,λp hp=>?_,λp hp=>List.mem_append_left _ hp⟩
     .rw [List.map_append,h.p1,List.length_append,show [mS x z.1.length].length=1 from rfl,List.range_succ,List.map_append];rfl
     .rcases List.mem_append.1 hp with g|g
      .exact h.p2 p g
      .rw [List.mem_singleton.1 g];exact aeT hx _
   obtain⟨a1,a2,a3,a4,a5⟩:=hP;refine⟨a1,λ_=>a2,a3,a4,?_,λy hy=>?_⟩
   .show(z.2++[([97+q],((rW z.1 x).getD ((rW z.1 x).length - 1) ([],0,[])).1,Aa (nX x))]).map (·.1)=_;rw [List.map_append,h.i1,List.range_succ,List.map_append];rfl
   .rcases List.mem_append.1 hy with g|g
    .obtain⟨⟨p,p1,p2⟩,r⟩:=h.i2 y g;exact⟨⟨p,a5 p p1,p2⟩,r⟩
    .rw [List.mem_singleton.1 g];refine⟨⟨(rW z.1 x)[(rW z.1 x).length - 1],List.getElem_mem _,?_⟩,nX x,rfl,aeU hx⟩;show _=((rW z.1 x).getD ((rW z.1 x).length - 1) ([],0,[])).1;rw [show(rW z.1 x).getD ((rW z.1 x).length - 1) ([],0,[])=(rW z.1 x)[(rW z.1 x).length - 1]'(by omega) by simp [List.getD,show(rW z.1 x).length - 1<(rW z.1 x).length by omega]]
  have k:=LI.go key λy hy=>hl y (List.mem_cons_of_mem _ hy);have e:q+(x::l).length=q+1+l.length:=by rw [List.length_cons];omega
  rw [e];exact k
theorem Wo:∀n:_root_.Fin 5,(((List.range n.1).map λi:Nat=>112::vw i).Nodup/\∀s∈(List.range n.1).map (λi:Nat=>112::vw i),s∈names)/\((List.range n.1).map λi=>[97+i]).Nodup/\∀s∈(List.range n.1).map (λi=>[97+i]),s∈names:=by decide+kernel
theorem vI {l:List pX} (hl:l.length<=4) (hi:∀x∈l,lK x):GA (fm l):=by
 have h:LI (0+l.length) (fm l):=LI.go ⟨Nat.le_refl _,λg=>absurd g (by decide),rfl,(λp hp=>by cases hp),rfl,(λx hx=>by cases hx)⟩ hi;rw [Nat.zero_add]at h;obtain⟨n1,_,p1,p2,i1,i2⟩:=h;have k1:=(Wo ⟨(fm l).1.length,by omega⟩).1;have k2:=(Wo ⟨l.length,by omega⟩).2;have e2:(fm l).2.length=l.length:=by
  have:=congrArg List.length i1;rw [List.length_map,List.length_map,List.length_range]at this;exact this
 refine⟨by omega,by omega,λp hp=>⟨k1.2 _ ?_,p2 p hp⟩,?_,λx hx=>⟨k2.2 _ ?_,i2 x hx⟩,?_⟩
 .show p.1∈(List.range (fm l).1.length).map λi:Nat=>112::vw i;rw [<-p1];exact List.mem_map_of_mem hp
 .rw [p1];exact k1.1
 .show x.1∈(List.range l.length).map λi=>[97+i]
  rw [<-i1];exact List.mem_map_of_mem hx
 .rw [i1];exact k2.1
theorem Wp {l:List pX} (hl:l.length<=4) (hi:∀x∈l,lK x):PF prog 9 (.cons (Ia l) .nil) (eA.v (CD (fm l)))/\HP (CD (fm l))/\GW (lk (CD (fm l))):=by
 have h:=vI hl hi;exact⟨aas _ _ (ui.bm l) _ h.mok (aau l hl hi),h.CD.sd,h.CD.gw⟩
end
theorem Lu {a a' b b':Q3} (h:sX a a') (k:sX b b'):aG a b=aG a' b':=by
 have key:∀{p p' q q' r r' s s':Q},Qe p p' ->Qe q q' ->Qe r r' ->Qe s s' ->Eg p q r s=Eg p' q' r' s':=λh1 h2 h3 h4=>by
  unfold Eg;rw [h1.mul h2,h3.mul h4]
 show(Eg a.2.1 b.2.2 a.2.2 b.2.1,Eg a.2.2 b.1 a.1 b.2.2,Eg a.1 b.2.1 a.2.1 b.1)=_;rw [key h.2.1 k.2.2 h.2.2 k.2.1,key h.2.2 k.1 h.1 k.2.2,key h.1 k.2.1 h.2.1 k.1];rfl
theorem aeV (t x y:V3):jC Q.sub (gR (tr t x)) (gR (tr t y))=jC Q.sub (gR x) (gR y):=by
 have k:∀a b c:Int,Q.sub (a+c,0) (b+c,0)=Q.sub (a,0) (b,0):=λa b c=>by
  show(a+c+ -(b+c),(0:Int))=(a+ -b,0)
  rw [show a+c+ -(b+c)=a+ -b by omega]
 show(Q.sub (x.1+t.1,0) (y.1+t.1,0),Q.sub (x.2.1+t.2.1,0) (y.2.1+t.2.1,0),Q.sub (x.2.2+t.2.2,0) (y.2.2+t.2.2,0))=(Q.sub (x.1,0) (y.1,0),Q.sub (x.2.1,0) (y.2.1,0),Q.sub (x.2.2,0) (y.2.2,0))
 rw [k,k,k]
theorem On {l:List V3} {i:Nat} (h:i<l.length):gQ (l.map gR) i=gR l[i]:=by simp [gQ,List.getD,h]
theorem aaA {l:List V3} {t:V3} {e:Ug} (hi:e.1.toNat<l.length) (hj:e.2.1.toNat<l.length):jA ((l.map (tr t)).map gR) e=jA (l.map gR) e:=by
 unfold jA;rw [On (by rw [List.length_map];exact hj),On (by rw [List.length_map];exact hi),On hj,On hi,List.getElem_map,List.getElem_map,aeV]
theorem aeW {l:List V3} {t:V3} (h:GS (bX (l.map (tr t)))):dw (bX (l.map (tr t)))=dw (bX l):=by
 have he:(bX (l.map (tr t))).2.2=(bX l).2.2:=by
  show pN ((fU (l.map (tr t))).map (·.2))=pN ((fU l).map (·.2));rw [oO]
 have hs:∀e∈(bX (l.map (tr t))).2.2,e.1.toNat<l.length/\e.2.1.toNat<l.length:=λe hm=>by
  obtain⟨⟨i,h1,h2⟩,j,h3,h4⟩:=h.e e hm;have hl:(bX (l.map (tr t))).1.length=l.length:=by
   show((l.map (tr t)).map gR).length=_;rw [List.length_map,List.length_map]
  rw [hl]at h2 h4;rw [h1,h3];exact⟨h2,h4⟩
 unfold dw;rw [he]at hs ⊢;show List.foldl (dY ((l.map (tr t)).map gR)) [] _=List.foldl (dY (l.map gR)) [] _;generalize (bX l).2.2=E at hs;generalize ([]:List Q3)=acc;induction E generalizing acc with
 |nil=>rfl|cons e E ih=>
  obtain⟨a,b⟩:=hs e (List.mem_cons_self ..);rw [List.foldl_cons,List.foldl_cons,ih (λx hx=>hs x (List.mem_cons_of_mem _ hx))];unfold dY;rw [aaA a b]
theorem Wq {l:List Q3} (h:axB l=true):(∃d∈l,sX d eX)/\(∃d∈l,sX d eY)/\∃d∈l,sX d eZ:=by
 unfold axB at h;rw [Bool.and_eq_true,Bool.and_eq_true,List.any_eq_true,List.any_eq_true,List.any_eq_true]at h;obtain⟨⟨a,a1,a2⟩,⟨b,b1,b2⟩,⟨c,c1,c2⟩⟩:=h;have sy:∀{x y:Q3},sX x y ->sX y x:=λh=>⟨h.1.symm,h.2.1.symm,h.2.2.symm⟩
 exact⟨⟨a,a1,sy (EY a2)⟩,⟨b,b1,sy (EY b2)⟩,⟨c,c1,sy (EY c2)⟩⟩
theorem Wr {b:Bk} (h:lB b):axB (dw (bX (cL b)))=true:=by
 have m3:∀a:Int,(1+a % 3)∈([1,2,3]:List Int):=λa=>by
  have:1+a % 3=1\/1+a % 3=2\/1+a % 3=3:=by omega
  simpa using this
 have m6:b.1 % 6∈([0,1,2,3,4,5]:List Int):=by
  have:b.1 % 6=0\/b.1 % 6=1\/b.1 % 6=2\/b.1 % 6=3\/b.1 % 6=4\/b.1 % 6=5:=by omega
  simpa using this
 have hg:=(rV h).2.1;rw [yd h]at hg ⊢;rw [aeW hg];exact aeQ _ m6 _ (m3 _) _ (m3 _) _ (m3 _)
def Btw (f:V3 ->Int) (l:List V3) (A B:Int):Prop:=∀v∈l,A<=f v/\f v<=B
theorem Oo {b:Bk} (h:lB b):Btw (·.1) (cL b) (b.2.1.1 % 5) (b.2.1.1 % 5+(1+b.2.2.1 % 3))/\Btw (·.2.1) (cL b) (b.2.1.2.1 % 5) (b.2.1.2.1 % 5+(1+b.2.2.2.1 % 3))/\Btw (·.2.2) (cL b) (b.2.1.2.2 % 5) (b.2.1.2.2 % 5+(1+b.2.2.2.2 % 3)):=by
 have key:∀v∈cL b,∃c:I3,(c.1=0\/c.1=1)/\(c.2.1=0\/c.2.1=1)/\(c.2.2=0\/c.2.2=1)/\v=(c.1*(1+b.2.2.1 % 3)+b.2.1.1 % 5,c.2.1*(1+b.2.2.2.1 % 3)+b.2.1.2.1 % 5,c.2.2*(1+b.2.2.2.2 % 3)+b.2.1.2.2 % 5):=λv hv=>by
  rw [yd h]at hv;obtain⟨u,hu,rfl⟩:=List.mem_map.1 hv;obtain⟨c,hc,rfl⟩:=List.mem_map.1 hu;obtain⟨c1,c2,c3⟩:=VS hc;exact⟨c,c1,c2,c3,rfl⟩
 have one:∀(c s:Int),(c=0\/c=1) ->0<=c*(1+s % 3)/\c*(1+s % 3)<=1+s % 3:=λc s hc=>by
  rcases hc with rfl|rfl<;>omega
 refine⟨λv hv=>?_,λv hv=>?_,λv hv=>?_⟩<;>obtain⟨c,c1,c2,c3,rfl⟩:=key v hv
 .have:=one c.1 b.2.2.1 c1;show _<=c.1*(1+b.2.2.1 % 3)+b.2.1.1 % 5/\c.1*(1+b.2.2.1 % 3)+b.2.1.1 % 5<=_;omega
 .have:=one c.2.1 b.2.2.2.1 c2;show _<=c.2.1*(1+b.2.2.2.1 % 3)+b.2.1.2.1 % 5/\c.2.1*(1+b.2.2.2.1 % 3)+b.2.1.2.1 % 5<=_;omega
 .have:=one c.2.2 b.2.2.2.2 c3;show _<=c.2.2*(1+b.2.2.2.2 % 3)+b.2.1.2.2 % 5/\c.2.2*(1+b.2.2.2.2 % 3)+b.2.1.2.2 % 5<=_;omega
theorem Fa {n:Q3} {f:V3 ->Int} (hf:∀v,bw n (gR v)=(f v,0)) {A B:Int}:∀(l:List V3) (q:Nat) (s:Q×Q),Btw f l A B ->(0<q ->∃x y,s=((x,0),(y,0))/\A<=x/\y<=B) ->(0<q\/l≠[]) ->
  ∃x y,fS n q (l.map gR) s=((x,0),(y,0))/\A<=x/\y<=B
 |[],q,s,_,h,k=>h (k.resolve_right λe=>e rfl)|v::l,q,s,hl,h,_=>by
  obtain⟨v1,v2⟩:=hl v (List.mem_cons_self ..);refine Fa hf l (q+1) (bU n q (gR v) s) (λx hx=>hl x (List.mem_cons_of_mem _ hx)) (λ_=>?_) (.inl (by omega));unfold bU;rw [hf];cases e:bD (q:Int) 0 with
  |true=>exact⟨_,_,rfl,v1,v2⟩|false=>
   obtain⟨x,y,rfl,x1,y1⟩:=h (by have:=jo.1 e;omega);show ∃x' y',((match cQ (Q.cmp (f v,0) (x,0)) 0 with|true=>(f v,(0:Int))|false=>(x,0)),(match cQ 0 (Q.cmp (f v,0) (y,0))with|true=>(f v,(0:Int))|false=>(y,0)))=((x',0),(y',0))/\A<=x'/\y'<=B;cases cQ (Q.cmp (f v,0) (x,0)) 0<;>cases cQ 0 (Q.cmp (f v,0) (y,0))<;>exact⟨_,_,rfl,by assumption,by assumption⟩
theorem Lv {n:Q3} {f:V3 ->Int} (hf:∀v,bw n (gR v)=(f v,0)) {l m:List V3} {A B C D:Int} (hl:Btw f l A B) (hm:Btw f m C D) (l0:l≠[]) (m0:m≠[]) (h:D<=A\/B<=C):gK (bX l) (bX m) n=true:=by
 obtain⟨x,y,e1,x1,y1⟩:=Fa hf l 0 ((0,0),(0,0)) hl (λh=>absurd h (Nat.lt_irrefl 0)) (.inr l0);obtain⟨z,w,e2,z1,w1⟩:=Fa hf m 0 ((0,0),(0,0)) hm (λh=>absurd h (Nat.lt_irrefl 0)) (.inr m0);have E1:eG (bX l) n=((x,0),(y,0)):=e1;have E2:eG (bX m) n=((z,0),(w,0)):=e2;have c:∀{a b:Int},b<=a ->gD 0 (eM a b)=true:=λ{a b} h=>by
  unfold eM;rw [if_neg (by omega)];split<;>rfl
 unfold gK;rw [E1,E2];show(match gD 0 (eM x w)with|true=>true|false=>gD 0 (eM z y))=true;rcases h with h|h
 .rw [c (by omega:w<=x)]
 .cases gD 0 (eM x w)with
  |true=>rfl|false=>exact c (by omega:y<=z)
theorem ahk:(∀v,bw eX (gR v)=(v.1,0))/\(∀v,bw eY (gR v)=(v.2.1,0))/\∀v,bw eZ (gR v)=(v.2.2,0):=by
 refine⟨λv=>?_,λv=>?_,λv=>?_⟩
 .show(0+1*v.1+0*v.2.1+0*v.2.2,(0:Int))=_;rw [show 0+1*v.1+0*v.2.1+0*v.2.2=v.1 by omega]
 .show(0+0*v.1+1*v.2.1+0*v.2.2,(0:Int))=_;rw [show 0+0*v.1+1*v.2.1+0*v.2.2=v.2.1 by omega]
 .show(0+0*v.1+0*v.2.1+1*v.2.2,(0:Int))=_;rw [show 0+0*v.1+0*v.2.1+1*v.2.2=v.2.2 by omega]
theorem rY {x s y:Int} (hx:U8 x) (hs:U8 s) (hy:U8 y):xm x s y=true↔x % 5+(1+s % 3)<=y % 5:=by
 obtain⟨x1,x2⟩:=hx;obtain⟨s1,s2⟩:=hs;obtain⟨y1,y2⟩:=hy;have e1:Int.tmod x 5=x % 5:=Int.tmod_eq_emod_of_nonneg x1;have e2:Int.tmod s 3=s % 3:=Int.tmod_eq_emod_of_nonneg s1;have e3:Int.tmod y 5=y % 5:=Int.tmod_eq_emod_of_nonneg y1;unfold xm;rw [e1,e2,e3,cG];have b1:0<=x % 5/\x % 5<5:=⟨Int.emod_nonneg _ (by decide),Int.emod_lt_of_pos _ (by decide)⟩
 have b2:0<=s % 3/\s % 3<3:=⟨Int.emod_nonneg _ (by decide),Int.emod_lt_of_pos _ (by decide)⟩
 have b3:0<=y % 5/\y % 5<5:=⟨Int.emod_nonneg _ (by decide),Int.emod_lt_of_pos _ (by decide)⟩
 generalize x % 5=u at*;generalize s % 3=w at*;generalize y % 5=z at*;show aj .i64 (aj .i64 (aj .i64 u+1)+aj .i64 w)<=aj .i64 z↔_;rw [aA (n:=u) (by omega) (by omega),aA (n:=w) (by omega) (by omega),aA (n:=z) (by omega) (by omega),aA (n:=u+1) (by omega) (by omega),aA (by omega) (by omega)];omega
theorem aaB {a b:Bk} (ha:lB a) (hb:lB b) (h:IA a b=false):(b.2.1.1 % 5+(1+b.2.2.1 % 3)<=a.2.1.1 % 5\/a.2.1.1 % 5+(1+a.2.2.1 % 3)<=b.2.1.1 % 5)\/
  (b.2.1.2.1 % 5+(1+b.2.2.2.1 % 3)<=a.2.1.2.1 % 5\/a.2.1.2.1 % 5+(1+a.2.2.2.1 % 3)<=b.2.1.2.1 % 5)\/(b.2.1.2.2 % 5+(1+b.2.2.2.2 % 3)<=a.2.1.2.2 % 5\/a.2.1.2.2 % 5+(1+a.2.2.2.2 % 3)<=b.2.1.2.2 % 5):=by
 obtain⟨_,⟨p1,p2,p3⟩,s1,s2,s3⟩:=ha;obtain⟨_,⟨q1,q2,q3⟩,t1,t2,t3⟩:=hb;unfold IA at h;cases e1:xm b.2.1.1 b.2.2.1 a.2.1.1 with
 |true=>exact .inl (.inl ((rY q1 t1 p1).1 e1))|false=>
 rw [e1]at h;cases e2:xm a.2.1.1 a.2.2.1 b.2.1.1 with
 |true=>exact .inl (.inr ((rY p1 s1 q1).1 e2))|false=>
 rw [e2]at h;cases e3:xm b.2.1.2.1 b.2.2.2.1 a.2.1.2.1 with
 |true=>exact .inr (.inl (.inl ((rY q2 t2 p2).1 e3)))|false=>
 rw [e3]at h;cases e4:xm a.2.1.2.1 a.2.2.2.1 b.2.1.2.1 with
 |true=>exact .inr (.inl (.inr ((rY p2 s2 q2).1 e4)))|false=>
 rw [e4]at h;cases e5:xm b.2.1.2.2 b.2.2.2.2 a.2.1.2.2 with
 |true=>exact .inr (.inr (.inl ((rY q3 t3 p3).1 e5)))|false=>
 rw [e5]at h;cases e6:xm a.2.1.2.2 a.2.2.2.2 b.2.1.2.2 with
 |true=>exact .inr (.inr (.inr ((rY p3 s3 q3).1 e6)))|false=>
 rw [e6]at h;cases h
theorem aeX {a b:Bk} (ha:lB a) (hb:lB b) (h:IA a b=false):qZ (bX (cL b)) (bX (cL a))=false:=by
 have hg:=(rV ha).2.1;have hg':=(rV hb).2.1;have n0:∀{c:Bk},GS (bX (cL c)) ->cL c≠[]:=λ{c} g e=>by
  have:=g.v0;rw [e]at this;exact absurd this (Nat.lt_irrefl 0)
 obtain⟨⟨x1,x2,x3⟩,⟨y1,y2,y3⟩,⟨z1,z2,z3'⟩⟩:=Wq (Wr ha);obtain⟨⟨u1,u2,u3⟩,⟨v1,v2,v3⟩,⟨w1,w2,w3⟩⟩:=Wq (Wr hb);have mem:∀{x y n:Q3},x∈dw (bX (cL b)) ->y∈dw (bX (cL a)) ->aG x y=n ->cT n=false ->n∈zR (bX (cL b)) (bX (cL a)):=λ{x y n} hx hy e hz=>by
  refine List.mem_append_right _ (List.mem_append_right _ (List.mem_flatMap.2 ⟨x,hx,List.mem_filter.2 ⟨List.mem_map.2 ⟨y,hy,e⟩,?_⟩⟩));rw [hz];rfl
 have fin:∀{n:Q3},n∈zR (bX (cL b)) (bX (cL a)) ->gK (bX (cL b)) (bX (cL a)) n=true ->qZ (bX (cL b)) (bX (cL a))=false:=λ{n} h1 h2=>by
  unfold qZ;rw [List.any_eq_true.2 ⟨n,h1,h2⟩];rfl
 obtain⟨a1,a2,a3⟩:=Oo ha;obtain⟨b1,b2,b3⟩:=Oo hb;obtain⟨d1,d2,d3⟩:=ahk;rcases aaB ha hb h with k|k|k
 .exact fin (mem v2 z2 ((Lu v3 z3').trans (by decide:aG eY eZ=eX)) (by decide)) (Lv d1 b1 a1 (n0 hg') (n0 hg) k.symm)
 .exact fin (mem w2 x2 ((Lu w3 x3).trans (by decide:aG eZ eX=eY)) (by decide)) (Lv d2 b2 a2 (n0 hg') (n0 hg) k.symm)
 .exact fin (mem u2 y2 ((Lu u3 y3).trans (by decide:aG eX eY=eZ)) (by decide)) (Lv d3 b3 a3 (n0 hg') (n0 hg) k.symm)
theorem ajH {s t:dh} (h:qZ t s=false):nE [] [s,t]=false:=by
 show(match (false:Bool)with|true=>true|false=>(match (qZ t s||false)with|true=>true|false=>false))=false;rw [h];rfl
theorem Ws {x:pX} (h:∀b∈x.1.2,lB b) (n:Nat):gL (mS x n)=0:=by
 refine(Vn ?_).2.1;show nE [] ((Bj x.1.2).map bX)=false;generalize x.1.2=l at h
 match l,h with
 |[],_=>rfl|[b],_=>rfl|b::c::r,h=>
  show nE [] ((match aY (IA b c)with|true=>[cL b,cL c]|false=>[cL b]).map bX)=false;cases e:IA b c with
  |true=>rfl|false=>exact ajH (aeX (h b (List.mem_cons_self ..)) (h c (List.mem_cons_of_mem _ (List.mem_cons_self ..))) e)
theorem Wt {P:List mM} {x:pX} (hx:∀b∈x.1.2,lB b) (h:∀p∈P,gL p=0):∀p∈rW P x,gL p=0:=by
 rcases Wn P x with ⟨e,_⟩|e
 .rw [e];exact h
 .rw [e];intro p hp;rcases List.mem_append.1 hp with hp|hp
  .exact h p hp
  .rw [List.mem_singleton.1 hp];exact Ws hx _
theorem CF:∀(l:List pX) (q:Nat) (z:iL),(∀x∈l,∀b∈x.1.2,lB b) ->(∀p∈z.1,gL p=0) ->∀p∈(QP q l z).1,gL p=0
 |[],_,z,_,h=>h|x::l,q,z,hl,h=>CF l (q+1) _ (λy hy=>hl y (List.mem_cons_of_mem _ hy)) (Wt (hl x (List.mem_cons_self ..)) h)
theorem Ie:∀{l:List mM},(∀p∈l,gL p=0) ->Vr l=0
 |[],_=>rfl|p::l,h=>by
  unfold Vr;rw [h p (List.mem_cons_self ..)];exact Ie λq hq=>h q (List.mem_cons_of_mem _ hq)
theorem Ig {P:List mM}:∀{l:List iF},(∀x∈l,∃p∈P,p.1=x.2.1) ->ZQ (Cu P) l=0
 |[],_=>rfl|x::l,h=>by
  unfold ZQ;obtain⟨p,hp,e⟩:=h x (List.mem_cons_self ..);have:(tM x.2.1 (Cu P) 0).isSome=true:=by
   cases k:tM x.2.1 (Cu P) 0 with
   |some _=>rfl|none=>
    refine absurd ?_ (Lg k);unfold Cu;rw [List.map_map];exact List.mem_map.2 ⟨p,hp,e⟩
  rw [this];exact Ig λy hy=>h y (List.mem_cons_of_mem _ hy)
structure Is (q:Q) (x y:Int):Prop where
 b:0<y
 d:0<Q.dn q
 e:q.1*y=x*Q.dn q
theorem uk {q:Q} (h:Nq q):0<Q.dn q:=h.dn.1
theorem Is.int (a:Int):Is (a,0) a 1:=⟨by decide,(show(0:Int)<1 by decide),rfl⟩
theorem Is.self {q:Q} (h:Nq q):Is q q.1 (Q.dn q):=⟨uk h,uk h,rfl⟩
theorem Is.scale {q:Q} {a b k:Int} (h:Is q a b) (hk:0<k):Is q (a*k) (b*k):=⟨Int.mul_pos h.b hk,h.d,by
 rw [<-Int.mul_assoc,h.e,Int.mul_assoc,Int.mul_comm (Q.dn q),<-Int.mul_assoc]⟩
theorem Is.cast {q:Q} {a b a' b':Int} (h:Is q a b) (e1:a=a') (e2:b=b'):Is q a' b':=by subst e1 e2;exact h
theorem Is.neg {q:Q} {a b:Int} (h:Is q a b):Is (Q.neg q) (-a) b:=⟨h.b,h.d,by
 show -q.1*b= -a*Q.dn q;rw [Int.neg_mul,Int.neg_mul,h.e]⟩
theorem Wu {n d:Int} (hd:0<d):(dv n d).1*d=n*Q.dn (dv n d)/\0<Q.dn (dv n d):=by
 have h0:Nat.gcd n.natAbs d.natAbs≠0:=λe=>by
  have:=Nat.eq_zero_of_gcd_eq_zero_right e;omega
 have h1:=(mJ (Nat.gcd_dvd_left n.natAbs d.natAbs) h0).1;have h2:=(mJ (Nat.gcd_dvd_right n.natAbs d.natAbs) h0).1;have hn:dv n d=(lA n (Nat.gcd n.natAbs d.natAbs:Nat),lA d (Nat.gcd n.natAbs d.natAbs:Nat)):=by
  unfold dv;rw [if_neg (by omega)]
 have hp:=uk (UI (n:=n) (d:=d) (by omega));rw [hn]at hp ⊢;generalize (Nat.gcd n.natAbs d.natAbs:Nat)=g at*;have hz:lA d (g:Int)≠0:=λe=>by rw [e,Int.zero_mul]at h2;omega
 have Ix:Q.dn (lA n (g:Int),lA d (g:Int))=lA d (g:Int):=by unfold Q.dn;rw [if_neg hz]
 refine⟨?_,hp⟩;rw [Ix];show lA n (g:Int)*d=n*lA d (g:Int);generalize lA n (g:Int)=x at*;generalize lA d (g:Int)=y at*;rw [<-h1,<-h2,Int.mul_comm y (g:Int),Int.mul_assoc]
theorem Fb {p q:Q} (h:(Q.whole p &&Q.whole q)=true):Q.dn p=1/\Q.dn q=1:=by
 rw [Bool.and_eq_true,ir,ir]at h;exact⟨of_decide_eq_true h.1,of_decide_eq_true h.2⟩
theorem Is.mul {p q:Q} {a b c d:Int} (h:Is p a b) (k:Is q c d):Is (Q.mul p q) (a*c) (b*d):=by
 have hb:=Int.mul_pos h.b k.b;unfold Q.mul;split
 .rename_i e;obtain⟨e1,e2⟩:=Fb e;have h1:=h.e;have h2:=k.e;rw [e1,Int.mul_one]at h1;rw [e2,Int.mul_one]at h2;refine⟨hb,(show(0:Int)<1 by decide),?_⟩;show p.1*q.1*(b*d)=a*c*1;rw [<-h1,<-h2,Int.mul_one];simp only [Int.mul_comm,Int.mul_left_comm,Int.mul_assoc]
 .obtain⟨r1,r2⟩:=Wu (n:=p.1*q.1) (d:=Q.dn p*Q.dn q) (Int.mul_pos h.d k.d);refine⟨hb,r2,?_⟩;generalize dv (p.1*q.1) (Q.dn p*Q.dn q)=R at*;have hz:Q.dn p*Q.dn q≠0:=by have:=Int.mul_pos h.d k.d;omega
  refine Int.eq_of_mul_eq_mul_right hz ?_;have e1:R.1*(b*d)*(Q.dn p*Q.dn q)=R.1*(Q.dn p*Q.dn q)*(b*d):=by simp only [Int.mul_comm,Int.mul_left_comm,Int.mul_assoc]
  have e2:p.1*q.1*Q.dn R*(b*d)=(p.1*b)*(q.1*d)*Q.dn R:=by simp only [Int.mul_comm,Int.mul_left_comm,Int.mul_assoc]
  rw [e1,r1,e2,h.e,k.e];simp only [Int.mul_comm,Int.mul_left_comm,Int.mul_assoc]
theorem Is.add {p q:Q} {a c b:Int} (h:Is p a b) (k:Is q c b):Is (Q.add p q) (a+c) b:=by
 unfold Q.add;split
 .rename_i e;obtain⟨e1,e2⟩:=Fb e;have h1:=h.e;have h2:=k.e;rw [e1,Int.mul_one]at h1;rw [e2,Int.mul_one]at h2;refine⟨h.b,(show(0:Int)<1 by decide),?_⟩;show(p.1+q.1)*b=(a+c)*1;rw [Int.add_mul,h1,h2,Int.mul_one]
 .obtain⟨r1,r2⟩:=Wu (n:=p.1*Q.dn q+q.1*Q.dn p) (d:=Q.dn p*Q.dn q) (Int.mul_pos h.d k.d);refine⟨h.b,r2,?_⟩;generalize dv (p.1*Q.dn q+q.1*Q.dn p) (Q.dn p*Q.dn q)=R at*;have hz:Q.dn p*Q.dn q≠0:=by have:=Int.mul_pos h.d k.d;omega
  refine Int.eq_of_mul_eq_mul_right hz ?_;have e1:R.1*b*(Q.dn p*Q.dn q)=R.1*(Q.dn p*Q.dn q)*b:=by simp only [Int.mul_comm,Int.mul_left_comm,Int.mul_assoc]
  have e2:(p.1*Q.dn q+q.1*Q.dn p)*Q.dn R*b=(p.1*b)*Q.dn q*Q.dn R+(q.1*b)*Q.dn p*Q.dn R:=by
   rw [Int.add_mul,Int.add_mul];simp only [Int.mul_comm,Int.mul_left_comm,Int.mul_assoc]
  rw [e1,r1,e2,h.e,k.e,Int.add_mul,Int.add_mul];simp only [Int.mul_comm,Int.mul_left_comm,Int.mul_assoc]
theorem Is.cmp {p q:Q} {a c b:Int} (h:Is p a b) (k:Is q c b):Q.cmp p q=eM a c:=by
 have key:∀x y:Int,(x<y↔a<c) ->(y<x↔c<a) ->eM x y=eM a c:=λx y h1 h2=>by
  unfold eM;simp only [h1,h2]
 have lt:∀{u v:Q} {x y:Int},Is u x b ->Is v y b ->(u.1*Q.dn v<v.1*Q.dn u↔x<y):=λ{u v x y} hu hv=>by
  have e1:u.1*Q.dn v*b=x*(Q.dn u*Q.dn v):=by
   rw [Int.mul_assoc,Int.mul_comm (Q.dn v) b,<-Int.mul_assoc,hu.e,Int.mul_assoc]
  have e2:v.1*Q.dn u*b=y*(Q.dn u*Q.dn v):=by
   rw [Int.mul_assoc,Int.mul_comm (Q.dn u) b,<-Int.mul_assoc,hv.e,Int.mul_assoc,Int.mul_comm (Q.dn v)]
  have hd:=Int.mul_pos hu.d hv.d;constructor
  .intro g;have:=Int.mul_lt_mul_of_pos_right g hu.b;rw [e1,e2]at this;exact Int.lt_of_mul_lt_mul_right this (by omega)
  .intro g;have:=Int.mul_lt_mul_of_pos_right g hd;rw [<-e1,<-e2]at this;exact Int.lt_of_mul_lt_mul_right this (by have:=hu.b;omega)
 unfold Q.cmp;split
 .rename_i e;obtain⟨e1,e2⟩:=Fb e;have l1:=lt h k;have l2:=lt k h;rw [e1,e2,Int.mul_one,Int.mul_one]at l1 l2;exact key _ _ l1 l2
 .exact key _ _ (lt h k) (lt k h)
theorem Wv {n:Q3} {f:Q3 ->Int} {B:Int}:∀(l:List Q3) (q:Nat) (s:Q×Q),(∀v∈l,Is (bw n v) (f v) B) ->(0<q ->∃x y,Is s.1 x B/\Is s.2 y B/\x<=y) ->(0<q\/l≠[]) ->
  ∃x y,Is (fS n q l s).1 x B/\Is (fS n q l s).2 y B/\x<=y/\(∀v∈l,x<=f v/\f v<=y)/\(0<q ->∀z w,Is s.1 z B ->Is s.2 w B ->x<=z/\w<=y)
 |[],q,s,_,h,k=>by
  have hq:=k.resolve_right λe=>e rfl;obtain⟨x,y,h1,h2,h3⟩:=h hq;refine⟨x,y,h1,h2,h3,(λv hv=>by cases hv),λ_ z w hz hw=>?_⟩;have c1:=h1.cmp hz;have c2:=hw.cmp h2;have u:∀{p:Q} {a c:Int},Is p a B ->Is p c B ->a=c:=λha hc=>by
   have e:=ha.e.symm.trans hc.e;exact Int.eq_of_mul_eq_mul_right (by have:=ha.d;omega) e
  exact⟨Int.le_of_eq (u h1 hz),Int.le_of_eq (u hw h2)⟩
 |v::l,q,s,hl,h,_=>by
  have hv:=hl v (List.mem_cons_self ..);have u:∀{p:Q} {a c:Int},Is p a B ->Is p c B ->a=c:=λha hc=>by
   have e:=ha.e.symm.trans hc.e;exact Int.eq_of_mul_eq_mul_right (by have:=ha.d;omega) e
  have step:∃x y,Is (bU n q v s).1 x B/\Is (bU n q v s).2 y B/\x<=y/\x<=f v/\f v<=y/\(0<q ->∀z w,Is s.1 z B ->Is s.2 w B ->x<=z/\w<=y):=by
   unfold bU;cases e:bD (q:Int) 0 with
   |true=>exact⟨_,_,hv,hv,Int.le_refl _,Int.le_refl _,Int.le_refl _,λg=>by have:=bh.1 e;omega⟩|false=>
    obtain⟨x,y,h1,h2,h3⟩:=h (by have:=jo.1 e;omega);show ∃x y,Is (match cQ (Q.cmp (bw n v) s.1) 0 with|true=>bw n v|false=>s.1) x B/\Is (match cQ 0 (Q.cmp (bw n v) s.2)with|true=>bw n v|false=>s.2) y B/\_;rw [hv.cmp h1,hv.cmp h2];have cl:∀{a b:Int},(cQ (eM a b) 0=true↔a<b)/\(cQ 0 (eM a b)=true↔b<a):=λ{a b}=>by
     unfold eM;constructor<;>split<;>(try split)<;>rw [aO]<;>omega
    cases e1:cQ (eM (f v) x) 0 with
    |true=>
     have g1:=cl.1.1 e1;have e2:cQ 0 (eM (f v) y)=false:=by
      cases k:cQ 0 (eM (f v) y)with
      |false=>rfl|true=>have:=cl.2.1 k;omega
     rw [e2];refine⟨f v,y,hv,h2,by omega,Int.le_refl _,by omega,λ_ z w hz hw=>?_⟩;have:=u h1 hz;have:=u h2 hw;omega
    |false=>
     have g1:¬f v<x:=λg=>by rw [cl.1.2 g]at e1;cases e1
     cases e2:cQ 0 (eM (f v) y)with
     |true=>
      have g2:=cl.2.1 e2;refine⟨x,f v,h1,hv,by omega,by omega,Int.le_refl _,λ_ z w hz hw=>?_⟩;have:=u h1 hz;have:=u h2 hw;omega
     |false=>
      have g2:¬y<f v:=λg=>by rw [cl.2.2 g]at e2;cases e2
      refine⟨x,y,h1,h2,h3,by omega,by omega,λ_ z w hz hw=>?_⟩;have:=u h1 hz;have:=u h2 hw;omega
  obtain⟨x,y,s1,s2,s3,s4,s5,s6⟩:=step;obtain⟨X,Y,t1,t2,t3,t4,t5⟩:=Wv l (q+1) (bU n q v s) (λw hw=>hl w (List.mem_cons_of_mem _ hw)) (λ_=>⟨x,y,s1,s2,s3⟩) (.inl (by omega));have t6:=t5 (by omega) x y s1 s2;refine⟨X,Y,t1,t2,t3,List.forall_mem_cons.2 ⟨by omega,t4⟩,λhq z w hz hw=>?_⟩;have:=s6 hq z w hz hw;omega
theorem Ww {c:dh} {n:Q3} {f:Q3 ->Int} {B:Int} (hl:∀v∈c.1,Is (bw n v) (f v) B) {u v:Q3} (hu:u∈c.1) (hv:v∈c.1) (dD:f u≠f v):(dI c c n).1<0:=by
 obtain⟨x,y,h1,h2,h3,h4,_⟩:=Wv c.1 0 ((0,0),(0,0)) hl (λh=>absurd h (Nat.lt_irrefl 0)) (.inr λe=>by rw [e]at hu;cases hu);have a:=h4 u hu;have b:=h4 v hv;have hxy:x<y:=by omega
 have h:=h1.add h2.neg;have e:=h.e;have hg:(dI c c n)=Q.add (fS n 0 c.1 ((0,0),(0,0))).1 (Q.neg (fS n 0 c.1 ((0,0),(0,0))).2):=rfl;rw [<-hg]at e;have hd:0<Q.dn (dI c c n):=by rw [hg];exact h.d
 have ajI:(x+ -y)*Q.dn (dI c c n)<0:=Int.mul_neg_of_neg_of_pos (by omega) hd;rw [<-e]at ajI;exact Int.lt_of_not_ge λg=>by
  have:=Int.mul_nonneg g (by have:=h.b;omega:(0:Int)<=B);omega
theorem aaC {a b i:Nat} {l:List Q3} (h:∀x∈l,Bv a b x) (hb:0<b):Bv a b (l.getD i z3):=by
 rcases Nat.lt_or_ge i l.length with k|k
 .rw [show l.getD i z3=l[i] by simp [List.getD,k]];exact h _ (List.getElem_mem k)
 .rw [show l.getD i z3=z3 by simp [List.getD,k]];exact Eu.mono (Nat.zero_le _) hb
theorem ajJ:Bv 1 1 idM.1.1/\Bv 1 1 idM.1.2.1/\Bv 1 1 idM.1.2.2:=by
 have h0:Bq 1 1 (0,0):=⟨Bz.zero,Bz.zero⟩
 have h1:Bq 1 1 (1,0):=⟨Bz.one (by decide),Bz.zero⟩
 exact⟨⟨h1,h0,h0⟩,⟨h0,h1,h0⟩,h0,h0,h1⟩
theorem abX {a b:Nat} {v:Q3} (hv:Bv a b v) (hb:0<b) (h:1+a+3*(1+b)+4<=1000000):qV (Lc z3) v/\Bv (1+a+3*(1+b)+4) (3*(1+b)+1) (iI (Lc z3) v):=by
 obtain⟨r1,r2,r3⟩:=ajJ;obtain⟨a1,b1⟩:=kh r1 hv (by decide) hb h;obtain⟨a2,b2⟩:=kh r2 hv (by decide) hb h;obtain⟨a3,b3⟩:=kh r3 hv (by decide) hb h;exact⟨⟨a1,a2,a3⟩,b1,b2,b3⟩
theorem aaD {s:dh} (h:GS s):pF (Lc z3) s:=by
 have v1:=h.v1;have f1:=h.f1;have e1:=h.e1;have ap:∀v∈s.1,Hh (Lc z3) v/\Bv 80 50 (lT (Lc z3) v):=λv hv=>by
  obtain⟨a,b⟩:=abX (h.v v hv) (by decide) (by decide);obtain⟨c,d⟩:=Hw 79 b Eu (by decide) (by decide) (by decide) (by decide) (by decide) (by decide);exact⟨⟨a,c⟩,d⟩
 have hV:∀v∈s.1.map (lT (Lc z3)),Bv 80 50 v:=λv hv=>by
  obtain⟨u,hu,rfl⟩:=List.mem_map.1 hv;exact(ap u hu).2
 refine⟨by omega,by omega,by omega,λq hq=>(ap _ (List.getElem_mem hq)).1,λq hq=>?_⟩;obtain⟨k,g,i,hi,hh⟩:=h.f _ (List.getElem_mem hq);obtain⟨a,b⟩:=abX k (by decide) (by decide);obtain⟨c,d⟩:=qY b (by decide) (by decide);exact⟨a,c,by omega,i,by rw [List.length_map];exact hi,hh,(kh d (aaC (i:=i) hV (by decide)) (by decide) (by decide) (by decide)).1⟩
theorem Wx {s:fA} (hn:s.2.length<=1000000) (h:∀x∈s.2,GS x):nW s (Lc z3):=⟨hn,λx hx=>aaD (h x hx)⟩
theorem QS (s:fA) (v:Q3):(rk s v).2.length=s.2.length:=List.length_map ..
section
theorem CG (a b:dh):∀(l:List Q3) (k:Int),k<=3 ->ki a b l k<=3
 |[],k,h=>h|n::l,k,h=>by
  unfold ki;cases bD (dI a b n).1.sign 1 with
  |true=>show(1:Int)<=3;decide|false=>
   refine CG a b l _ ?_;cases bD (dI a b n).1.sign 0 with
   |true=>show(2:Int)<=3;decide|false=>exact h
theorem Ih (a b:dh):ew a b<=3:=CG a b _ 3 (Int.le_refl _)
theorem Lw {s t:Int}:s<=yc s t/\t<=yc s t/\(yc s t=s\/yc s t=t):=by
 unfold yc;cases e:cQ s t with
 |true=>have:=aO.1 e;exact⟨by show s<=t;omega,Int.le_refl _,.inr rfl⟩
 |false=>have:=aX.1 e;exact⟨Int.le_refl _,by show t<=s;omega,.inl rfl⟩
theorem Wy:∀(l:List (dh×dh)) (s:Int),s<=3 ->s15 l s<=3/\s<=s15 l s/\∀p∈l,ew p.1 p.2<=s15 l s
 |[],s,h=>⟨h,Int.le_refl _,λp hp=>by cases hp⟩
 |p::l,s,h=>by
  obtain⟨a,b,c⟩:= @Lw s (ew p.1 p.2);have hm:yc s (ew p.1 p.2)<=3:=by
   rcases c with c|c
   .rw [c];exact h
   .rw [c];exact Ih _ _
  obtain⟨x,y,z⟩:=Wy l (yc s (ew p.1 p.2)) hm;exact⟨x,Int.le_trans a y,List.forall_mem_cons.2 ⟨Int.le_trans b y,z⟩⟩
theorem Wz:∀(l:List (dh×dh)) (s:Int),s≠3 ->Bi l s=3 ->∃p∈l,ew p.1 p.2=3
 |[],s,h,e=>absurd e h|p::l,s,h,e=>by
  have c:=(@Lw s (ew p.1 p.2)).2.2;unfold Bi at e;cases g:bD (yc s (ew p.1 p.2)) 3 with
  |true=>
   have g:=bh.1 g;refine⟨p,List.mem_cons_self ..,?_⟩;rcases c with c|c
   .exact absurd (c.symm.trans g) h
   .exact c.symm.trans g
  |false=>
   rw [g]at e;obtain⟨q,hq,k⟩:=Wz l _ (jo.1 g) e;exact⟨q,List.mem_cons_of_mem _ hq,k⟩
theorem Lx {x y:fA} (hx:∀s∈x.2,GS s) (hy:∀s∈y.2,GS s) (e:iJ x y=3):lC y x=3:=by
 obtain⟨p,hp,k⟩:=Wz _ _ (by decide) e;obtain⟨s,hs,h⟩:=List.mem_flatMap.1 hp;obtain⟨t,ht,rfl⟩:=List.mem_map.1 h;obtain⟨a,_,c⟩:=Wy (prs y x) 1 (by decide);have:=c (t,s) (List.mem_flatMap.2 ⟨t,ht,List.mem_map.2 ⟨s,hs,rfl⟩⟩);rw [show ew (t,s).1 (t,s).2=3 from Wj (hx s hs) (hy t ht) k]at this;unfold lC;omega
theorem Al (s:fA):∀(S:List fA) (f:Bool),wH s f S=true ->f=true/\∀y∈S,lC s y≠3
 |[],f,h=>⟨h,λy hy=>by cases hy⟩
 |y::r,f,h=>by
  obtain⟨a,b⟩:=Al s r _ h;cases f with
  |false=>cases a|true=>
   refine⟨rfl,List.forall_mem_cons.2 ⟨λe=>?_,b⟩⟩;have a:aY (bD (lC s y) 3)=true:=a;rw [bh.2 e]at a;cases a
theorem wJ (a:iL):∀(l:List iF) (z:List iF×List fA),z.2=z.1.map (jd a) ->z.2.Pairwise (λy s=>lC s y≠3) ->(∀x∈z.1,gL (fx a x.2.1)=0) ->
  (sq a l z).2=(sq a l z).1.map (jd a)/\(sq a l z).2.Pairwise (λy s=>lC s y≠3)/\∀x∈(sq a l z).1,gL (fx a x.2.1)=0
 |[],z,h,k,e=>⟨h,k,e⟩
 |x::l,z,h,k,e=>by
  unfold sq;cases g:mkS a x z.2 with
  |false=>exact wJ a l z h k e|true=>
   obtain⟨g1,g2⟩:=Al _ _ _ g;refine wJ a l _ ?_ ?_ ?_
   .show z.2++[jd a x]=(z.1++[x]).map (jd a);rw [List.map_append,h];rfl
   .refine List.pairwise_append.2 ⟨k,List.pairwise_singleton _ _,λy hy s hs=>?_⟩;rw [List.mem_singleton.1 hs];exact g2 y hy
   .intro y hy;rcases List.mem_append.1 hy with hy|hy
    .exact e y hy
    .rw [List.mem_singleton.1 hy];exact bh.1 g1
theorem CH (x:fA) (i:Nat):∀(r:List fA) (k:Nat),(∀y∈r,iJ x y≠3) ->vC x i k r=none
 |[],_,_=>rfl|y::r,k,h=>by
  unfold vC;cases e:bD (iJ x y) 3 with
  |true=>exact absurd (bh.1 e) (h y (List.mem_cons_self ..))|false=>exact CH x i r (k+1) λz hz=>h z (List.mem_cons_of_mem _ hz)
theorem CI:∀(l:List fA) (i:Nat),l.Pairwise (λx y=>iJ x y≠3) ->oN i l=none
 |[],_,_=>rfl|x::r,i,h=>by
  obtain⟨a,b⟩:=List.pairwise_cons.1 h;unfold oN;rw [CH x i r (i+1) a];exact CI r (i+1) b
variable {a:iL}
theorem WA (h:GA a):oN 0 (Fq (CD a))=none/\∀x∈(CD a).2,gL (fx a x.2.1)=0:=by
 obtain⟨e,k,g⟩:=wJ a a.2 ([],[]) rfl .nil (λx hx=>by cases hx);refine⟨CI _ _ ?_,g⟩;have hm:=h.CD;show((sq a a.2 ([],[])).1.map (jd (CD a))).Pairwise _;have he:jd (CD a)=jd a:=rfl;rw [he,<-e];refine k.imp_of_mem λ{x y} hx hy hn he=>hn ?_;rw [e]at hx hy;obtain⟨i,hi,rfl⟩:=List.mem_map.1 hx;obtain⟨j,hj,rfl⟩:=List.mem_map.1 hy;exact Lx (hm.so hi).2.2 (hm.so hj).2.2 he
end
theorem Is.zero {B:Int} (h:0<B):Is (0,0) 0 B:=⟨h,(show(0:Int)<1 by decide),by
 show 0*B=0*1;rw [Int.zero_mul];rfl⟩
theorem Is.dot {x y:Q3} {a b c B:Int} (h1:Is (Q.mul x.1 y.1) a B) (h2:Is (Q.mul x.2.1 y.2.1) b B) (h3:Is (Q.mul x.2.2 y.2.2) c B):Is (bw x y) (a+b+c) B:=
 ((((Is.zero h1.b).add h1).add h2).add h3).cast (by omega) rfl
theorem Is.uniq {q:Q} {a B:Int} (h:Is q a B):q.1*B/Q.dn q=a:=by
 rw [h.e];exact Int.mul_ediv_cancel _ (by have:=h.d;omega)
theorem aaE {t:Tn} (hN:0<fh t):Is (jc t) 1 (fh t):=by
 have h:=Wu (n:=1*1) (d:=1*fh t) (by omega);have e:jc t=dv (1*1) (1*fh t):=by
  unfold jc Q.div;rw [if_neg (by show fh t≠0;omega)];rfl
 rw [<-e]at h;refine⟨hN,h.2,?_⟩;have:=h.1;rw [Int.one_mul,Int.one_mul]at this;exact this
theorem aeY {t:Tn} (hN:0<fh t) (a u:V3):Is (bw (qT (gR a) (jc t)) (gR u)) (a.1*u.1+a.2.1*u.2.1+a.2.2*u.2.2) (fh t):=by
 have k:∀x y:Int,Is (Q.mul (Q.mul (jc t) (x,0)) (y,0)) (x*y) (fh t):=λx y=>
  (((aaE hN).mul (Is.int x)).mul (Is.int y)).cast (by rw [Int.one_mul]) (by rw [Int.mul_one,Int.mul_one])
 exact Is.dot (k _ _) (k _ _) (k _ _)
def hv (x:Int×Bool):Int:=match x.2 with|true=>x.1|false=>x.1*2
theorem aeZ (x:Int×Bool):Is (Ey x.1 x.2) (hv x) 2:=by
 obtain⟨n,b⟩:=x;cases b with
 |true=>exact⟨by decide,(show(0:Int)<2 by decide),rfl⟩|false=>exact⟨by decide,(show(0:Int)<1 by decide),(Int.mul_one _).symm⟩
def IB (N:Int) (a u:V3) (x:Int×Bool):Int:=(a.1*u.1+a.2.1*u.2.1+a.2.2*u.2.2)*2+hv x*N
theorem ae0 {t:Tn} (hN:0<fh t) (a u:V3) (x:Int×Bool):Is (Q.add (bw (qT (gR a) (jc t)) (gR u)) (Ey x.1 x.2)) (IB (fh t) a u x) (fh t*2):=
 ((aeY hN a u).scale (by decide)).add (((aeZ x).scale hN).cast rfl (Int.mul_comm _ _))
theorem WB:∀t∈bN,0<fh t/\∀p q r:Int,p*(cP t).1.1+q*(cP t).2.1.1+r*(cP t).2.2.1=0 ->p*(cP t).1.2.1+q*(cP t).2.1.2.1+r*(cP t).2.2.2.1=0 ->p*(cP t).1.2.2+q*(cP t).2.1.2.2+r*(cP t).2.2.2.2=0 ->p=0/\q=0/\r=0:=by
 intro t ht;simp only [bN,List.mem_cons,List.not_mem_nil,or_false]at ht;rcases ht with rfl|rfl|rfl|rfl|rfl|rfl|rfl|rfl|rfl|rfl|rfl|rfl|rfl|rfl|rfl|rfl|rfl|rfl|rfl|rfl|rfl|rfl|rfl|rfl|rfl|rfl|rfl;all_goals
  refine⟨by decide,λp q r h1 h2 h3=>?_⟩;simp only [cP]at h1 h2 h3;omega
theorem aaF:∀r∈([0,1,2,3,4,5]:List Int),(∃c∈xD r,c.1=0/\(1,c.2.1,c.2.2)∈xD r)/\(∃c∈xD r,c.2.1=0/\(c.1,1,c.2.2)∈xD r)/\∃c∈xD r,c.2.2=0/\(c.1,c.2.1,1)∈xD r:=by decide
theorem aaG {b:Bk} (h:lB b):(∃u∈cL b,∃k:Int,0<k/\(u.1+k,u.2.1,u.2.2)∈cL b)/\(∃u∈cL b,∃k:Int,0<k/\(u.1,u.2.1+k,u.2.2)∈cL b)/\∃u∈cL b,∃k:Int,0<k/\(u.1,u.2.1,u.2.2+k)∈cL b:=by
 have m6:b.1 % 6∈([0,1,2,3,4,5]:List Int):=by
  have:b.1 % 6=0\/b.1 % 6=1\/b.1 % 6=2\/b.1 % 6=3\/b.1 % 6=4\/b.1 % 6=5:=by omega
  simpa using this
 obtain⟨⟨c,c1,c2,c3⟩,⟨d,d1,d2,d3⟩,⟨e,e1,e2,e3⟩⟩:=aaF _ m6;have mem:∀c∈xD (b.1 % 6),(c.1*(1+b.2.2.1 % 3)+b.2.1.1 % 5,c.2.1*(1+b.2.2.2.1 % 3)+b.2.1.2.1 % 5,c.2.2*(1+b.2.2.2.2 % 3)+b.2.1.2.2 % 5)∈cL b:=λc hc=>by
  rw [yd h];exact List.mem_map.2 ⟨_,List.mem_map.2 ⟨c,hc,rfl⟩,rfl⟩
 have pos:∀s:Int,0<1+s % 3:=λs=>by omega
 refine⟨⟨_,mem c c1,_,pos b.2.2.1,?_⟩,⟨_,mem d d1,_,pos b.2.2.2.1,?_⟩,⟨_,mem e e1,_,pos b.2.2.2.2,?_⟩⟩
 .have:=mem _ c3;have e0:c.1*(1+b.2.2.1 % 3)+b.2.1.1 % 5+(1+b.2.2.1 % 3)=1*(1+b.2.2.1 % 3)+b.2.1.1 % 5:=by rw [c2,Int.zero_mul];omega
  show(c.1*(1+b.2.2.1 % 3)+b.2.1.1 % 5+(1+b.2.2.1 % 3),_,_)∈_;rw [e0];exact this
 .have:=mem _ d3;have e0:d.2.1*(1+b.2.2.2.1 % 3)+b.2.1.2.1 % 5+(1+b.2.2.2.1 % 3)=1*(1+b.2.2.2.1 % 3)+b.2.1.2.1 % 5:=by rw [d2,Int.zero_mul];omega
  show(_,d.2.1*(1+b.2.2.2.1 % 3)+b.2.1.2.1 % 5+(1+b.2.2.2.1 % 3),_)∈_;rw [e0];exact this
 .have:=mem _ e3;have e0:e.2.2*(1+b.2.2.2.2 % 3)+b.2.1.2.2 % 5+(1+b.2.2.2.2 % 3)=1*(1+b.2.2.2.2 % 3)+b.2.1.2.2 % 5:=by rw [e2,Int.zero_mul];omega
  show(_,_,e.2.2*(1+b.2.2.2.2 % 3)+b.2.1.2.2 % 5+(1+b.2.2.2.2 % 3))∈_;rw [e0];exact this
theorem Am {p q r k x1 y1 z1 a b c:Int} (hk:0<k) (h:p*(x1+a*k*2)+q*(y1+b*k*2)+r*(z1+c*k*2)=p*x1+q*y1+r*z1):p*a+q*b+r*c=0:=by
 have e:(p*a+q*b+r*c)*(k*2)=0:=by
  rw [Int.mul_add,Int.mul_add,Int.mul_add]at h;have e1:∀u v:Int,u*(v*k*2)=u*v*(k*2):=λu v=>by rw [Int.mul_assoc v,<-Int.mul_assoc]
  rw [e1,e1,e1]at h;rw [Int.add_mul,Int.add_mul];omega
 rcases Int.mul_eq_zero.1 e with e|e
 .exact e
 .omega
theorem Ly {b:Bk} (hb:lB b) {t:Tn} (ht:t∈bN) (p:sV) {n:Q3} (hn:N3 n) (hz:cT n=false):(dI (iS (gh t p) (bX (cL b))) (iS (gh t p) (bX (cL b))) n).1<0:=by
 obtain⟨hN,inv⟩:=WB t ht;obtain⟨n1,n2,n3⟩:=n;have d1:=uk hn.1;have d2:=uk hn.2.1;have d3:=uk hn.2.2;have i1:Is n1 (n1.1*(Q.dn n2*Q.dn n3)) (Q.dn n1*(Q.dn n2*Q.dn n3)):=(Is.self hn.1).scale (Int.mul_pos d2 d3);have i2:Is n2 (n2.1*(Q.dn n1*Q.dn n3)) (Q.dn n1*(Q.dn n2*Q.dn n3)):=((Is.self hn.2.1).scale (Int.mul_pos d1 d3)).cast rfl (by simp only [Int.mul_comm,Int.mul_left_comm,Int.mul_assoc]);have i3:Is n3 (n3.1*(Q.dn n1*Q.dn n2)) (Q.dn n1*(Q.dn n2*Q.dn n3)):=((Is.self hn.2.2).scale (Int.mul_pos d1 d2)).cast rfl (by simp only [Int.mul_comm,Int.mul_left_comm,Int.mul_assoc]);obtain⟨P,hP⟩:∃P,P=n1.1*(Q.dn n2*Q.dn n3):=⟨_,rfl⟩
 obtain⟨R,hR⟩:∃R,R=n2.1*(Q.dn n1*Q.dn n3):=⟨_,rfl⟩
 obtain⟨S,hS⟩:∃S,S=n3.1*(Q.dn n1*Q.dn n2):=⟨_,rfl⟩
 rw [<-hP]at i1;rw [<-hR]at i2;rw [<-hS]at i3;generalize Q.dn n1*(Q.dn n2*Q.dn n3)=D at i1 i2 i3;let val:V3 ->Int:=λu=>P*IB (fh t) (cP t).1 u p.1+R*IB (fh t) (cP t).2.1 u p.2.1+S*IB (fh t) (cP t).2.2 u p.2.2;have hw:∀u:V3,Is (bw (n1,n2,n3) (lT (gh t p) (gR u))) (val u) (D*(fh t*2)):=λu=>
  Is.dot (i1.mul (ae0 hN _ u _)) (i2.mul (ae0 hN _ u _)) (i3.mul (ae0 hN _ u _))
 refine Int.lt_of_not_ge λRT=>?_;have all:∀u∈cL b,∀v∈cL b,val u=val v:=λu hu v hv=>by
  refine Classical.byContradiction λdD=>?_;have mem:∀w∈cL b,lT (gh t p) (gR w)∈(iS (gh t p) (bX (cL b))).1:=λw hw=>List.mem_map.2 ⟨_,List.mem_map.2 ⟨w,hw,rfl⟩,rfl⟩;have:=Ww (c:=iS (gh t p) (bX (cL b))) (n:=(n1,n2,n3)) (B:=D*(fh t*2)) (f:=λw=>(bw (n1,n2,n3) w).1*(D*(fh t*2))/Q.dn (bw (n1,n2,n3) w)) (λw hm=>by
   obtain⟨x,hx,rfl⟩:=List.mem_map.1 hm;obtain⟨u,_,rfl⟩:=List.mem_map.1 hx;rw [(hw u).uniq];exact hw u) (mem u hu) (mem v hv) (by rw [(hw u).uniq,(hw v).uniq];exact dD)
  omega
 obtain⟨⟨u,u1,k,k1,k2⟩,⟨v,v1,l,l1,l2⟩,⟨w,w1,m,m1,m2⟩⟩:=aaG hb;have E:∀(a1 a2 a3 x y z k s:Int),(a1*(x+k)+a2*y+a3*z)*2+s=(a1*x+a2*y+a3*z)*2+s+a1*k*2/\(a1*x+a2*(y+k)+a3*z)*2+s=(a1*x+a2*y+a3*z)*2+s+a2*k*2/\(a1*x+a2*y+a3*(z+k))*2+s=(a1*x+a2*y+a3*z)*2+s+a3*k*2:=λa1 a2 a3 x y z k s=>by
  rw [Int.mul_add,Int.mul_add,Int.mul_add];omega
 have q1:=all _ k2 _ u1;have q2:=all _ l2 _ v1;have q3:=all _ m2 _ w1;have c1:P*(cP t).1.1+R*(cP t).2.1.1+S*(cP t).2.2.1=0:=by
  refine Am (k:=k) (x1:=IB (fh t) (cP t).1 u p.1) (y1:=IB (fh t) (cP t).2.1 u p.2.1) (z1:=IB (fh t) (cP t).2.2 u p.2.2) k1 ?_;unfold IB;rw [<-(E _ _ _ _ _ _ _ _).1,<-(E _ _ _ _ _ _ _ _).1,<-(E _ _ _ _ _ _ _ _).1];exact q1
 have c2:P*(cP t).1.2.1+R*(cP t).2.1.2.1+S*(cP t).2.2.2.1=0:=by
  refine Am (k:=l) (x1:=IB (fh t) (cP t).1 v p.1) (y1:=IB (fh t) (cP t).2.1 v p.2.1) (z1:=IB (fh t) (cP t).2.2 v p.2.2) l1 ?_;unfold IB;rw [<-(E _ _ _ _ _ _ _ _).2.1,<-(E _ _ _ _ _ _ _ _).2.1,<-(E _ _ _ _ _ _ _ _).2.1];exact q2
 have c3:P*(cP t).1.2.2+R*(cP t).2.1.2.2+S*(cP t).2.2.2.2=0:=by
  refine Am (k:=m) (x1:=IB (fh t) (cP t).1 w p.1) (y1:=IB (fh t) (cP t).2.1 w p.2.1) (z1:=IB (fh t) (cP t).2.2 w p.2.2) m1 ?_;unfold IB;rw [<-(E _ _ _ _ _ _ _ _).2.2,<-(E _ _ _ _ _ _ _ _).2.2,<-(E _ _ _ _ _ _ _ _).2.2];exact q3
 obtain⟨z1,z2,z3'⟩:=inv P R S c1 c2 c3;have nz:∀{x y z:Int},x*(y*z)=0 ->0<y ->0<z ->x=0:=λ{x y z} e hy hz=>by
  rcases Int.mul_eq_zero.1 e with e|e
  .exact e
  .have:=Int.mul_pos hy hz;omega
 have y1:=nz (hP.symm.trans z1) d2 d3;have y2:=nz (hR.symm.trans z2) d1 d3;have y3:=nz (hS.symm.trans z3') d1 d2;rcases Np hz with g|g|g
 .exact g y1
 .exact g y2
 .exact g y3
theorem aaH {v:Q3} (h:cT v=false):cT (aI v)=false:=by
 cases e:cT (aI v)with
 |false=>rfl|true=>
  have Xf:(dv (oH v) 1).1≠0:=wz (Ew v);have Xc:∀d:Int,(dv 1 d).1≠0:=λd=>wz (by decide);have hp:aI v=qT (qT v (dv (oH v) 1)) (dv 1 (tW (qT v (dv (oH v) 1)))):=by unfold aI;rw [h]
  have z:(aI v).1.1=0/\(aI v).2.1.1=0/\(aI v).2.2.1=0:=by
   have c:∀{q:Q},Nq q ->Q.cmp q (0,0)=0 ->q.1=0:=λ{q} hq k=>by
    have:=(Is.self hq).cmp (Is.zero (uk hq));rw [k]at this;unfold eM at this;split at this
    .omega
    .split at this<;>omega
   have hN:=zQ (v:=v);unfold cT dH at e;generalize aI v=x at*;obtain⟨a,b,g⟩:=x;have e:bD (match bD (Q.cmp a (0,0)) 0 with|false=>Q.cmp a (0,0)|true=>(match bD (Q.cmp b (0,0)) 0 with|false=>Q.cmp b (0,0)|true=>Q.cmp g (0,0))) 0=true:=e;cases e1:bD (Q.cmp a (0,0)) 0 with
   |false=>rw [e1]at e;exact absurd (e.symm.trans e1) (by decide)|true=>
    rw [e1]at e;cases e2:bD (Q.cmp b (0,0)) 0 with
    |false=>rw [e2]at e;exact absurd (e.symm.trans e2) (by decide)|true=>
     rw [e2]at e;exact⟨c hN.1 (bh.1 e1),c hN.2.1 (bh.1 e2),c hN.2.2 (bh.1 e)⟩
  rw [hp]at z;rcases Np h with g|g|g
  .exact absurd z.1 (jq (Xc _) (jq Xf g))
  .exact absurd z.2.1 (jq (Xc _) (jq Xf g))
  .exact absurd z.2.2 (jq (Xc _) (jq Xf g))
theorem QT {b:Bk} (hb:lB b) {t:Tn} (ht:t∈bN) {p:sV} (hg:GS (iS (gh t p) (bX (cL b)))):ew (iS (gh t p) (bX (cL b))) (iS (gh t p) (bX (cL b)))=3:=by
 refine(vG _ _ _ 3).2 ⟨rfl,λn hn=>?_⟩;have hN:N3 n:=by
  obtain⟨e,he,rfl⟩:=vF.1 hn;exact((VH hg hg).1.p e he).2.1
 obtain⟨v,_,hz,e⟩:=CE hn;have hp:=aaH hz;have hzn:cT n=false:=by
  rcases e with rfl|rfl
  .exact hp
  .have k:=Lq (v:=aI v) zQ;cases g:cT (kn (aI v))with
   |false=>rfl|true=>
    have h1:cT (uo (aI v))=false:=(by rw [Lp];exact hp);have c:∀{x y:Q3},sX x y ->cT x=cT y:=λ{x y} h=>by
     have cm:∀{p q:Q},Qe p q ->Q.cmp p (0,0)=Q.cmp q (0,0):=λ{p q} h=>by
      unfold Q.cmp;rw [ir,ir,ir,h.1,h.2]
     unfold cT dH;show bD (match bD (Q.cmp x.1 (0,0)) 0 with|false=>Q.cmp x.1 (0,0)|true=>(match bD (Q.cmp x.2.1 (0,0)) 0 with|false=>Q.cmp x.2.1 (0,0)|true=>Q.cmp x.2.2 (0,0))) 0=bD (match bD (Q.cmp y.1 (0,0)) 0 with|false=>Q.cmp y.1 (0,0)|true=>(match bD (Q.cmp y.2.1 (0,0)) 0 with|false=>Q.cmp y.2.1 (0,0)|true=>Q.cmp y.2.2 (0,0))) 0;rw [cm h.1,cm h.2.1,cm h.2.2]
    rw [c k,h1]at g;cases g
 have:=Ly hb ht p hN hzn;rw [Int.sign_eq_neg_one_of_neg this];exact⟨by decide,by decide⟩
end
end Go.Sy
namespace Go.Sy
noncomputable section
open Go.RowKit Go.Proofs Go.Proofs.Tryz
section
def Fe:Nm:=[97,103,97,105,110]
def again (x:iF):iF:=(Fe,x.2.1,x.2.2)
def nG (m:iL) (x:iF):iL:=(m.1,m.2++[again x])
def lU (m:iL):iL:=([],m.2)
theorem WC {l:List pX} (hi:∀x∈l,lK x):∀x∈(fm l).2,x.1.length=1:=by
 have h:LI (0+l.length) (fm l):=LI.go ⟨Nat.le_refl _,λg=>absurd g (by decide),rfl,(λp hp=>by cases hp),rfl,(λx hx=>by cases hx)⟩ hi;obtain⟨_,_,_,_,i1,_⟩:=h;intro x hx;have:x.1∈(fm l).2.map (·.1):=List.mem_map_of_mem hx;rw [i1]at this;obtain⟨i,_,e⟩:=List.mem_map.1 this;rw [<-e];rfl
theorem LA {l:List pX} (hi:∀x∈l,lK x):∀p∈(fm l).1,gL p=0:=CF l 0 ([],[]) (λx hx=>(hi x hx).b.2) (λp hp=>by cases hp)
structure MA (m:iL):Prop where
 g:GA m
 n:m.2.length<=4
 nm:∀x∈m.2,x.1.length=1
 e:∀p∈m.1,gL p=0
 f:oN 0 (Fq m)=none
theorem aaI {l:List pX} (hl:l.length<=4) (hi:∀x∈l,lK x):MA (CD (fm l)):=by
 have h:=vI hl hi;obtain⟨k,h1,h2⟩:=vH (fm l) (fm l).2 ([],[]);have e:(CD (fm l)).2=k:=h2;have hs:(CD (fm l)).2.Sublist (fm l).2:=by rw [e];exact h1
 have h:LI (0+l.length) (fm l):=LI.go ⟨Nat.le_refl _,λg=>absurd g (by decide),rfl,(λp hp=>by cases hp),rfl,(λx hx=>by cases hx)⟩ hi;obtain⟨_,_,_,_,i1,_⟩:=h;have hn:(fm l).2.length=l.length:=by
  have:=congrArg List.length i1;rw [List.length_map,List.length_map,List.length_range,Nat.zero_add]at this;exact this
 have:=hs.length_le;exact⟨(vI hl hi).CD,by omega,λx hx=>WC hi x (hs.subset hx),LA hi,(WA (vI hl hi)).1⟩
variable {m:iL}
theorem Ii (hp:∀p∈m.1,gL p=0) (hi:∀x∈m.2,∃p∈m.1,p.1=x.2.1):uh m=0:=by
 unfold uh;rw [Ie hp];exact Ig hi
theorem ye (h:uh m=0):lk m=Fq m:=by
 unfold lk;rw [h];rfl
theorem MA.ck (h:MA m):uh m=0:=Ii h.e λx hx=>(h.g.i x hx).2.1
theorem MA.snd (h:MA m):vD m=none:=by
 unfold vD;rw [ye h.ck];exact h.f
theorem MA.opn (h:MA m):Ai m= .aS (.cons (QN (Fq m)) (.cons (.int .i64 0) .nil)):=by
 unfold Ai;rw [h.snd,h.ck,ye h.ck];rfl
theorem Ij:∀(l:List (dh×dh)) (k:Int),k<=3 ->(∃p∈l,ew p.1 p.2=3) ->Bi l k=3
 |[],k,_,⟨p,hp,_⟩=>by cases hp
 |p::l,k,hk,⟨q,hq,e⟩=>by
  obtain⟨a,b,c⟩:= @Lw k (ew p.1 p.2);have hm:yc k (ew p.1 p.2)<=3:=by
   rcases c with c|c
   .rw [c];exact hk
   .rw [c];exact Ih _ _
  unfold Bi;cases g:bD (yc k (ew p.1 p.2)) 3 with
  |true=>exact bh.1 g|false=>
   rcases List.mem_cons.1 hq with rfl|hq
   .exact absurd (by omega:yc k (ew q.1 q.2)=3) (jo.1 g)
   .exact Ij l _ hm ⟨q,hq,e⟩
theorem LB (h:MA m) {x:iF} (hx:x∈m.2):iJ (jd m x) (jd m x)=3:=by
 obtain⟨_,h1,y,h2,h3,h4⟩:=h.g.i x hx;have e:nF x.2.2=y:=by rw [h2];exact Ct h4
 have hp:=h.g.prt h1;have he:gL (fx m x.2.1)=0:=by
  unfold fx;cases k:m.1.find? λp=>decide (p.1=x.2.1)with
  |none=>rfl|some p=>exact h.e p (List.mem_of_find?_eq_some k)
 have hg:=(h.g.so hx).2.2;have hs:jd m x=vz ((fx m x.2.1).2.1,mN (fx m x.2.1)) (gh y.1 y.2):=by
  unfold jd;rw [e];cases k:nE [] (mN (fx m x.2.1))with
  |true=>have:=(abG k).2.1;omega
  |false=>exact(Vn k).2.2 y
 rw [hs]at hg ⊢;obtain⟨d,hd⟩:∃d,d=(fx m x.2.1).2.2:=⟨_,rfl⟩
 have c0:=hp.c0;have hc:=hp.c;rw [<-hd]at c0 hc;have hA:mN (fx m x.2.1)=d.map bX:=by rw [hd];rfl
 rw [hA]at hg ⊢;cases d with
 |nil=>exact absurd c0 (Nat.lt_irrefl 0)|cons u d=>
  obtain⟨b,hb,rfl⟩:=hc u (List.mem_cons_self ..);have hm:iS (gh y.1 y.2) (bX (cL b))∈(vz ((fx m x.2.1).2.1,(cL b::d).map bX) (gh y.1 y.2)).2:=List.mem_cons_self ..;exact Ij _ 1 (by decide) ⟨(_,_),List.mem_flatMap.2 ⟨_,hm,List.mem_map.2 ⟨_,hm,rfl⟩⟩,QT hb h3 (hg _ hm)⟩
theorem Ik (x:fA) (i:Nat):∀(r:List fA) (k:Nat),(∃y∈r,iJ x y=3) ->vC x i k r≠none
 |[],_,⟨y,hy,_⟩=>by cases hy
 |y::r,k,⟨z,hz,e⟩=>by
  unfold vC;cases g:bD (iJ x y) 3 with
  |true=>intro h;cases h|false=>
   rcases List.mem_cons.1 hz with rfl|hz
   .exact absurd e (jo.1 g)
   .exact Ik x i r (k+1) ⟨z,hz,e⟩
theorem Il:∀(l:List fA) (i:Nat) (s:fA),s∈l ->iJ s s=3 ->oN i (l++[s])≠none
 |[],_,_,h,_=>by cases h
 |x::r,i,s,h,e=>by
  show orO (vC x i (i+1) (r++[s])) (oN (i+1) (r++[s]))≠none;rcases List.mem_cons.1 h with rfl|h
  .have:=Ik s i (r++[s]) (i+1) ⟨s,by simp,e⟩;cases k:vC s i (i+1) (r++[s])with
   |none=>exact absurd k this|some z=>intro h;cases h
  .cases vC x i (i+1) (r++[s])with
   |some z=>intro h;cases h|none=>exact Il r (i+1) s h e
theorem MA.nG (h:MA m) {x:iF} (hx:x∈m.2):GA (nG m x):=by
 have ne:Fe ∉ m.2.map (·.1):=λhm=>by
  obtain⟨y,hy,e⟩:=List.mem_map.1 hm;have:=h.nm y hy;rw [e]at this;exact absurd this (by decide)
 refine⟨h.g.n1,?_,h.g.p,h.g.dp,λy hy=>?_,?_⟩
 .show(m.2++[again x]).length<=5;rw [List.length_append];have:=h.n;show m.2.length+1<=5;omega
 .rcases List.mem_append.1 hy with hy|hy
  .exact h.g.i y hy
  .rw [List.mem_singleton.1 hy];exact⟨(by decide:Fe∈names),(h.g.i x hx).2⟩
 .show((m.2++[again x]).map (·.1)).Nodup;rw [List.map_append];refine List.nodup_append.2 ⟨h.g.di,List.nodup_cons.2 ⟨List.not_mem_nil,List.nodup_nil⟩,λa ha b hb e=>?_⟩;rw [List.mem_singleton.1 hb]at e;rw [e]at ha;exact ne ha
theorem MA.Oq (h:MA m) {x:iF} (hx:x∈m.2):uh (Go.Sy.nG m x)=0/\∃z,vD (Go.Sy.nG m x)=some z:=by
 have hc:uh (Go.Sy.nG m x)=0:=Ii h.e λy hy=>((h.nG hx).i y hy).2.1;refine⟨hc,?_⟩;have e:Fq (Go.Sy.nG m x)=Fq m++[jd m x]:=by
  show(m.2++[again x]).map _=m.2.map _++_;rw [List.map_append];rfl
 have:=Il (Fq m) 0 (jd m x) (List.mem_map_of_mem hx) (LB h hx);unfold vD;rw [ye hc,e];cases k:oN 0 (Fq m++[jd m x])with
 |none=>exact absurd k this|some z=>exact⟨z,rfl⟩
theorem MA.ajK (h:MA m) {x:iF} (hx:x∈m.2):Ai (Go.Sy.nG m x)= .aS (.cons .fy (.cons (.int .i64 25) .nil)):=by
 obtain⟨e1,z,e2⟩:=h.Oq hx;unfold Ai;rw [e1,e2];rfl
theorem MA.ahl (h:MA m) {x:iF} (hx:x∈m.2):∃i j:Nat,Lf (Go.Sy.nG m x)= .aS (.cons (fj.v (i:Int)) (.cons (fj.v (j:Int)) (.cons (fj.v 25) .nil))):=by
 obtain⟨e1,z,e2⟩:=h.Oq hx;refine⟨z.1,z.2,?_⟩;unfold Lf;rw [e1,e2];rfl
theorem MA.ahm (h:MA m) (h0:m.2≠[]):uh (lU m)=16:=by
 show ZQ [] m.2=16;obtain⟨y,r,e⟩:=List.exists_cons_of_ne_nil h0;rw [e];rfl
theorem MA.ahn (h:MA m) (h0:m.2≠[]):HP (lU m):=by
 have e:=h.ahm h0;have hp:lk (lU m)=[]:=by
  unfold lk;rw [e];rfl
 have g:=h.g.ck;refine⟨⟨⟨Nat.zero_le _,g.ni,(λp hp=>by cases hp),g.i,List.nodup_nil,g.di⟩,λk=>?_⟩,?_⟩
 .rw [e]at k;cases k
 .rw [hp];exact⟨Nat.zero_le _,λx hx=>by cases hx⟩
theorem MA.ajL (h:MA m) (h0:m.2≠[]):Ai (lU m)= .aS (.cons .fy (.cons (.int .i64 16) .nil))/\Lf (lU m)= .aS (.cons (fj.v 0) (.cons (fj.v 0) (.cons (fj.v 16) .nil))):=by
 have e:=h.ahm h0;have hp:lk (lU m)=[]:=by
  unfold lk;rw [e];rfl
 have hs:vD (lU m)=none:=by
  unfold vD;rw [hp];rfl
 constructor
 .unfold Ai;rw [e,hs];rfl
 .unfold Lf;rw [e,hs];rfl
end
section
attribute [local irreducible] Cw ak bq PF Sub
attribute [local instance] bZ
theorem Ff (hK:PF prog 7 .nil (.bool true)) (l:List pX) (hl:l.length<=9223372036854775807) (hs:uj l=false) (M:Nat):PF prog 3 (.cons (Ia l) (.cons (.int .u8 (M:Int)) .nil)) (.bool true):=by
 obtain⟨T,hT⟩:∃T,T=[Wc hK,aaw l hl]:=⟨_,rfl⟩
 have kO:(T.map Cn.f).Nodup:=by rw [hT];show [7,8].Nodup;decide
 refine PF.go af ae T (fn:=f3) rfl rfl rfl (hpure:= .cons (br (rX l)) (.cons .int .nil)) λB0 hc=>?_;conv=>whnf
 refine cg T 0 (Wc hK) () aB (aE ?_) (hl:=kO) (hc:=by rw [hT];rfl);refine cC (l:=T) kO 1 (c:=aaw l hl) (by rw [hT];rfl) () trivial (v:= .bool false) (congrArg AV.bool hs) (hk:=?_);refine aE ?_;refine cg T 0 (Wc hK) () aB (aE ?_) (hl:=kO) (hc:=by rw [hT];rfl);exact ak.pure .bool
theorem aaJ (hK:PF prog 7 .nil (.bool true)) (l:List pX) (hl:l.length<=9223372036854775807) (hs:uj l=true) (M:Nat) (hM:M<=255) (m:iL) (hm:MA m)
  (hmk:PF prog 9 (.cons (Ia l) .nil) (eA.v m)):PF prog 3 (.cons (Ia l) (.cons (.int .u8 (M:Int)) .nil)) (.bool true):=by
 have hsd:=hm.g.sd;have hck:=hm.ck;have nK:=ye hck;have hlen:(Fq m).length=m.2.length:=List.length_map ..;have hn4:=hm.n;have ae1:∀s∈Fq m,nW s (Lc z3):=λs hs=>by
  obtain⟨x,hx,rfl⟩:=List.mem_map.1 hs;obtain⟨_,a,b⟩:=hm.g.so hx;exact Wx (by omega) b
 obtain⟨T,hT⟩:∃T,T=[Wc hK,aaw l hl,ahg _ (rX l) m hmk,EW,oM,abU,Oi,vE]:=⟨_,rfl⟩
 have kO:(T.map Cn.f).Nodup:=by rw [hT];show [7,8,9,10,11,12,13,14].Nodup;decide
 refine PF.go af ae T (fn:=f3) rfl rfl rfl (hpure:= .cons (br (rX l)) (.cons .int .nil)) λB0 hc=>?_;conv=>whnf
 refine cg T 0 (Wc hK) () aB (aE ?_) (hl:=kO) (hc:=by rw [hT];rfl);refine cC (l:=T) kO 1 (c:=aaw l hl) (by rw [hT];rfl) () trivial (v:= .bool true) (congrArg AV.bool hs) (hk:=?_);refine aE ?_;refine cg T 2 (ahg _ (rX l) m hmk) () aB (aE ?_) (hl:=kO) (hc:=by rw [hT];rfl);refine cC (l:=T) kO 3 (c:=EW) (by rw [hT];rfl) m hsd (v:= .aS (.cons (QN (Fq m)) (.cons (.int .i64 0) .nil))) hm.opn (hk:=?_);refine aE ?_;refine cC (l:=T) kO 4 (c:=oM) (by rw [hT];rfl) m hsd.pl (v:= .aS (.cons (bM.list.v (Fq m)) (.cons (fj.v 0) .nil))) (by show AV.aS (.cons (bM.list.v (lk m)) (.cons (fj.v (uh m)) .nil))=_;rw [hck,nK]) (hk:=?_);generalize Fq m=S at*;refine aE ?_;refine cg T 5 abU S aB (aC ?_) (hl:=kO) (hc:=by rw [hT];rfl);repeat(first|(refine nw ?_;conv=>whnf)|(refine⟨_,rfl,?_⟩;conv=>whnf))
 have eqN:∀{a b:Int},a=b ->aY (bD a b)=false:=λh=>by rw [bh.2 h];rfl
 refine xA (eqN rfl) (aC ?_);repeat(first|(refine nw ?_;conv=>whnf)|(refine⟨_,rfl,?_⟩;conv=>whnf))
 refine xA (eqN (show(S.length:Int)=(m.2.length:Int) by omega)) (aE ?_);refine Cw.lp (σ:=Unit) af rfl rfl hc S.length (λq _=>[(1,.int .u8 (M:Int)),(5,.ptr (pathOf 64) 0),(6,QN S),(8,bM.list.v S),(10,.int .i64 (q:Int))])
  (λq _=>hp [(64,cl (eA.cs m))] 65) (λ_ _=>True) () trivial (sb [(64,65)]) (λq _ hq _=>?_)
 conv=>whnf
 refine ay (λk1=>?_) (λk1=>?_)
 .have hq:=pT k1;have cE:=pS hq (by omega);refine aE ?_;refine cC (l:=T) kO 6 (c:=Oi) (by rw [hT];rfl) (S,(q:Int)) ⟨by show S.length<=1000000;omega,ae1⟩ (v:= .aS (.cons (bM.v (rk S[q] z3)) (.cons (.int .i64 0) .nil))) (Oh hq) (hk:=?_);refine aE ?_;refine aL.go q rfl hq (aC ?_);repeat(first|(refine nw ?_;conv=>whnf)|(refine nw ?_ ⟨_,bM.EX (P:=prog) (k:=1) hq rfl rfl,bM.EX (P:=prog) (k:=1) hq rfl rfl⟩;conv=>whnf)|(refine⟨_,bM.EX (P:=prog) (k:=1) hq rfl rfl,?_⟩;conv=>whnf))
  refine xA (eqN (show((rk S[q] z3).2.length:Int)=(S[q].2.length:Int) by rw [QS])) (aE ?_);exact⟨(),hq,aB,sb [(64,64)]⟩
 .obtain rfl:=rN hq k1;refine aE ?_;refine cC (l:=T) kO 6 (c:=Oi) (by rw [hT];rfl) (S,(S.length:Int)) ⟨by show S.length<=1000000;omega,ae1⟩ (v:= .aS (.cons (bM.v (0,[])) (.cons (.int .i64 2) .nil))) (Aj (.inr (Int.le_refl _))) (hk:=?_);refine aE ?_;refine cC (l:=T) kO 6 (c:=Oi) (by rw [hT];rfl) (S,(-1:Int)) ⟨by show S.length<=1000000;omega,ae1⟩ (v:= .aS (.cons (bM.v (0,[])) (.cons (.int .i64 2) .nil))) (Aj (.inl (show(-1:Int)<0 by decide))) (hk:=?_);refine aE ?_;refine ay (λk2=>?_) (λk2=>?_)
  .refine aE ?_;exact ak.pure .bool
  have dD:m.2≠[]:=λe=>by
   have k2:bD (m.2.length:Int) 0=false:=k2;rw [e]at k2;cases k2
  refine aE ?_;refine⟨fk.l m.2,(fk.jW (xs:=m.2) (i:=m.2.length) (Nat.le_refl _)).trans (by rw [List.take_length]),aC ?_⟩;refine⟨⟨?_,fk.kF _,rfl⟩,?_⟩
  .show(0+m.2.length)*(112+1)<=1099511627776;omega
  refine aE ?_;have Yj:0<m.2.length:=List.length_pos_iff.2 dD;have pU:M % m.2.length<m.2.length:=Nat.mod_lt _ Yj;refine⟨by show((0+m.2.length:Nat):Int)≠0;omega,aC ?_⟩;have hx:Int.tmod (aj .i64 (M:Int)) (Int.ofNat (0+m.2.length))=((M % m.2.length:Nat):Int):=by
   rw [aA (by omega) (by omega),Nat.zero_add];exact Int.ofNat_tmod M m.2.length
  refine aL.go (M % m.2.length) hx (by omega) (aC ?_);refine⟨_,fk.rd rfl pU,?_⟩;have As:m.2[M % m.2.length]∈m.2:=List.getElem_mem pU;obtain⟨x,hxe⟩:∃x,x=m.2[M % m.2.length]:=⟨_,rfl⟩
  rw [<-hxe]at As ⊢;refine aE ?_;refine⟨_,rfl,aC ?_⟩;refine⟨fk.ap (xs:=m.2) (q:=0+m.2.length) (by omega) (by omega),aE ?_⟩;have aho:HP (nG m x):=(hm.nG As).sd;have Ri:AV.cons (eA.v (nG m x)) .nil=AV.cons (.agg (.cons (cH.list.v m.1) (.cons (.ro (0+m.2.length+1) (app (fk.l m.2) (fk.c (again x) .nil))) .nil))) .nil:=by
   rw [fk.wg];show AV.cons (.agg (.cons (cH.list.v m.1) (.cons (.ro (m.2++[again x]).length (fk.l (m.2++[again x]))) .nil))) .nil=_;rw [List.length_append,Nat.zero_add];rfl
  have hln:(0+m.2.length+1)*9=(app (fk.l m.2) (fk.c (again x) .nil)).len:=by
   rw [fk.wg,fk.ep,List.length_append,Nat.zero_add];rfl
  refine cC (l:=T) kO 3 (c:=EW) (by rw [hT];rfl) (nG m x) aho (v:= .aS (.cons .fy (.cons (.int .i64 25) .nil))) (hm.ajK As) (hbor:=?_) (has:=?_) (hk:=?_)
  .exact⟨⟨aB,hln,aB⟩,aB⟩
  .exact Ri
  refine aE ?_;have z2:=hm.ahl As;refine cC (l:=T) kO 7 (c:=vE) (by rw [hT];rfl) (nG m x) aho (v:= .aS (.cons (fj.v (z2.choose:Int)) (.cons (fj.v (z2.choose_spec.choose:Int)) (.cons (fj.v 25) .nil)))) z2.choose_spec.choose_spec (hbor:=?_) (has:=?_) (hk:=?_)
  .exact⟨⟨aB,hln,aB⟩,aB⟩
  .exact Ri
  refine aE ?_;have z0:=hm.ajL dD;have Xh:=hm.ahn dD;refine cC (l:=T) kO 3 (c:=EW) (by rw [hT];rfl) (lU m) Xh (v:= .aS (.cons .fy (.cons (.int .i64 16) .nil))) z0.1 (hbor:=?_) (has:=?_) (hk:=?_)
  .exact oR
  .exact rfl
  refine aE ?_;refine cC (l:=T) kO 7 (c:=vE) (by rw [hT];rfl) (lU m) Xh (v:= .aS (.cons (fj.v 0) (.cons (fj.v 0) (.cons (fj.v 16) .nil)))) z0.2 (hbor:=?_) (has:=?_) (hk:=?_)
  .exact oR
  .exact rfl
  refine aE ?_;exact ak.pure .bool
end
end
end Go.Sy
