/- A piece of the proof, made small by a program of ours. -/
import Derived.Test.YtihglcfnelokaaaGreatDoorP19
set_option linter.all false
set_option maxRecDepth 1000000
set_option maxHeartbeats 0
namespace Go.Sy
noncomputable section
open Go.RowKit Go.Proofs Go.Proofs.Tryz
section
attribute [local irreducible] Cw aj bE PF Sub
attribute [local instance] fe
def Fj (x s y:Int):Bool:=gg (ah .i64 (Int.add (ah .i64 (Int.add (ah .i64 (Int.tmod x 5)) 1)) (ah .i64 (Int.tmod s 3)))) (ah .i64 (Int.tmod y 5))
def Vy (a b:Bk):Bool:=(match Fj (b.2.1.1) (b.2.2.1) (a.2.1.1)with|true=>false|false=>(match Fj (a.2.1.1) (a.2.2.1) (b.2.1.1)with|true=>false|false=>(match Fj (b.2.1.2.1) (b.2.2.2.1) (a.2.1.2.1)with|true=>false|false=>(match Fj (a.2.1.2.1) (a.2.2.2.1) (b.2.1.2.1)with|true=>false|false=>(match Fj (b.2.1.2.2) (b.2.2.2.2) (a.2.1.2.2)with|true=>false|false=>(match Fj (a.2.1.2.2) (a.2.2.2.2) (b.2.1.2.2)with|true=>false|false=>true))))))
theorem aho (a b:Bk):dA 112 (.cons (mV.v a) (.cons (mV.v b) .nil)) (bj.v (Vy a b)):=by
 refine PF.go af ae [] (fn:=f112) rfl rfl rfl λB0 hc=>?_;obtain⟨W,hW⟩:∃W,W=Vy a b:=⟨_,rfl⟩
 rw [<-hW];unfold Vy at hW;conv=>whnf
 repeat(first|(refine Cw.bL af rfl rfl hc 8 ?_;conv=>whnf)|(refine nw ?_ (by decide);conv=>whnf)|(refine nw ?_;conv=>whnf))
 refine an (λk1=>?_) (λk1=>?_)
 .rw [show Fj (b.2.1.1) (b.2.2.1) (a.2.1.1)=true from k1]at hW;have hW:W=false:=hW;rw [hW];conv=>whnf
  repeat(first|(refine Cw.bL af rfl rfl hc 8 ?_;conv=>whnf)|(refine nw ?_ (by decide);conv=>whnf)|(refine nw ?_;conv=>whnf))
  exact aj.same rfl .bool
 .rw [show Fj (b.2.1.1) (b.2.2.1) (a.2.1.1)=false from k1]at hW;conv=>whnf
  repeat(first|(refine Cw.bL af rfl rfl hc 8 ?_;conv=>whnf)|(refine nw ?_ (by decide);conv=>whnf)|(refine nw ?_;conv=>whnf))
  refine an (λk2=>?_) (λk2=>?_)
  .have k2:Fj (a.2.1.1) (a.2.2.1) (b.2.1.1)=true:=k2;simp only [k2]at hW;have hW:W=false:=hW;rw [hW];conv=>whnf
   repeat(first|(refine Cw.bL af rfl rfl hc 8 ?_;conv=>whnf)|(refine nw ?_ (by decide);conv=>whnf)|(refine nw ?_;conv=>whnf))
   exact aj.same rfl .bool
  .have k2:Fj (a.2.1.1) (a.2.2.1) (b.2.1.1)=false:=k2;simp only [k2]at hW;conv=>whnf
   repeat(first|(refine Cw.bL af rfl rfl hc 8 ?_;conv=>whnf)|(refine nw ?_ (by decide);conv=>whnf)|(refine nw ?_;conv=>whnf))
   refine an (λk1=>?_) (λk1=>?_)
   .rw [show Fj (b.2.1.2.1) (b.2.2.2.1) (a.2.1.2.1)=true from k1]at hW;have hW:W=false:=hW;rw [hW];conv=>whnf
    repeat(first|(refine Cw.bL af rfl rfl hc 8 ?_;conv=>whnf)|(refine nw ?_ (by decide);conv=>whnf)|(refine nw ?_;conv=>whnf))
    exact aj.same rfl .bool
   .rw [show Fj (b.2.1.2.1) (b.2.2.2.1) (a.2.1.2.1)=false from k1]at hW;conv=>whnf
    repeat(first|(refine Cw.bL af rfl rfl hc 8 ?_;conv=>whnf)|(refine nw ?_ (by decide);conv=>whnf)|(refine nw ?_;conv=>whnf))
    refine an (λk2=>?_) (λk2=>?_)
    .have k2:Fj (a.2.1.2.1) (a.2.2.2.1) (b.2.1.2.1)=true:=k2;simp only [k2]at hW;have hW:W=false:=hW;rw [hW];conv=>whnf
     repeat(first|(refine Cw.bL af rfl rfl hc 8 ?_;conv=>whnf)|(refine nw ?_ (by decide);conv=>whnf)|(refine nw ?_;conv=>whnf))
     exact aj.same rfl .bool
    .have k2:Fj (a.2.1.2.1) (a.2.2.2.1) (b.2.1.2.1)=false:=k2;simp only [k2]at hW;conv=>whnf
     repeat(first|(refine Cw.bL af rfl rfl hc 8 ?_;conv=>whnf)|(refine nw ?_ (by decide);conv=>whnf)|(refine nw ?_;conv=>whnf))
     refine an (λk1=>?_) (λk1=>?_)
     .rw [show Fj (b.2.1.2.2) (b.2.2.2.2) (a.2.1.2.2)=true from k1]at hW;have hW:W=false:=hW;rw [hW];conv=>whnf
      repeat(first|(refine Cw.bL af rfl rfl hc 8 ?_;conv=>whnf)|(refine nw ?_ (by decide);conv=>whnf)|(refine nw ?_;conv=>whnf))
      exact aj.same rfl .bool
     .rw [show Fj (b.2.1.2.2) (b.2.2.2.2) (a.2.1.2.2)=false from k1]at hW;conv=>whnf
      repeat(first|(refine Cw.bL af rfl rfl hc 8 ?_;conv=>whnf)|(refine nw ?_ (by decide);conv=>whnf)|(refine nw ?_;conv=>whnf))
      refine an (λk2=>?_) (λk2=>?_)
      .have k2:Fj (a.2.1.2.2) (a.2.2.2.2) (b.2.1.2.2)=true:=k2;simp only [k2]at hW;have hW:W=false:=hW;rw [hW];conv=>whnf
       repeat(first|(refine Cw.bL af rfl rfl hc 8 ?_;conv=>whnf)|(refine nw ?_ (by decide);conv=>whnf)|(refine nw ?_;conv=>whnf))
       exact aj.same rfl .bool
      .have k2:Fj (a.2.1.2.2) (a.2.2.2.2) (b.2.1.2.2)=false:=k2;simp only [k2]at hW;have hW:W=true:=hW;rw [hW];conv=>whnf
       repeat(first|(refine Cw.bL af rfl rfl hc 8 ?_;conv=>whnf)|(refine nw ?_ (by decide);conv=>whnf)|(refine nw ?_;conv=>whnf))
       exact aj.same rfl .bool
def abN:Cn prog:= .kz mV mV bj 112 true (λ_ _=>True) Vy fh (λa b _=>aho a b) (au rfl rfl)
end
section
attribute [local irreducible] Cw aj bE PF Sub
section
attribute [local instance] fe
abbrev Bdy:=Int×List Bk
def aeQ:bX Bdy:=ZH.pair mV.list
def dns (d:Int):Int:=ah .i64 (Int.add 1 (ah .i64 (Int.tmod d 9)))
def bk0:Bk:=(0,(0,0,0),(0,0,0))
def ES:List Bk ->List (List V3)
 |[]=>[iG bk0]
 |[x]=>[iG x]
 |x::y::_=>match aU (Vy x y)with|true=>[iG x,iG y]|false=>[iG x]
def NM (b:Bdy):nO:=([112,97,114,116],dns b.1,ES b.2)
def tLb:List (Cn prog):=[wF,abN]
theorem ahp (b:Bdy) (h:∀x∈b.2,wE x):dA 63 (.cons (aeQ.v b) .nil) (cO.v (NM b)):=by
 obtain⟨d,l⟩:=b;unfold NM;refine PF.go af ae tLb (fn:=f63) rfl rfl rfl λB0 hc=>?_
 match l,h with
 |[],_=>
  conv=>whnf
  repeat(first|(refine nw ?_ (by decide);conv=>whnf)|(refine nw ?_;conv=>whnf))
  refine aG.go 0 rfl (by decide) (aB ?_);repeat(first|(refine nw ?_ (by decide);conv=>whnf)|(refine nw ?_;conv=>whnf))
  repeat(refine⟨_,rfl,?_⟩;conv=>whnf)
  repeat(first|(refine nw ?_ (by decide);conv=>whnf)|(refine nw ?_;conv=>whnf))
  refine cg tLb 0 wF bk0 (by unfold wF;unfold bk0;exact⟨⟨by decide,by decide⟩,⟨⟨by decide,by decide⟩,⟨by decide,by decide⟩,⟨by decide,by decide⟩⟩,⟨⟨by decide,by decide⟩,⟨by decide,by decide⟩,⟨by decide,by decide⟩⟩⟩) (aB ?_);repeat(first|(refine nw ?_ (by decide);conv=>whnf)|(refine nw ?_;conv=>whnf))
  refine⟨_,rfl,aB ?_⟩;refine⟨⟨by decide,rfl⟩,aB ?_⟩;repeat(first|(refine nw ?_ (by decide);conv=>whnf)|(refine nw ?_;conv=>whnf))
  exact .agg (.cons (.pure (aR.ak _)) (.cons (.pure .int) (.cons (kJ.gk (xs:=[iG bk0]) rfl rfl rfl) .nil)))
 |[x],h=>
  have hx:=h x (.head _);have h0:0<[x].length:=Nat.succ_pos _;conv=>whnf
  repeat(first|(refine nw ?_ (by decide);conv=>whnf)|(refine nw ?_;conv=>whnf))
  refine aG.go 0 rfl h0 (aB ?_);refine⟨_,mV.rd (xs:=[x]) (i:=0) rfl h0,aB ?_⟩;repeat(first|(refine nw ?_ (by decide);conv=>whnf)|(refine nw ?_;conv=>whnf))
  refine cg tLb 0 wF x hx (aB ?_);repeat(first|(refine nw ?_ (by decide);conv=>whnf)|(refine nw ?_;conv=>whnf))
  refine⟨_,rfl,aB ?_⟩;refine⟨⟨by decide,rfl⟩,aB ?_⟩;repeat(first|(refine nw ?_ (by decide);conv=>whnf)|(refine nw ?_;conv=>whnf))
  exact .agg (.cons (.pure (aR.ak _)) (.cons (.pure .int) (.cons (kJ.gk (xs:=[iG x]) rfl rfl rfl) .nil)))
 |x::y::t,h=>
  have hx:=h x (.head _);have hy:=h y (.tail _ (.head _));have hl:1<(x::y::t).length:=Nat.succ_lt_succ (Nat.succ_pos _);have h0:0<(x::y::t).length:=Nat.succ_pos _;conv=>whnf
  repeat(first|(refine nw ?_ (by decide);conv=>whnf)|(refine nw ?_;conv=>whnf))
  refine aG.go 0 rfl h0 (aB ?_);refine⟨_,mV.rd (xs:=x::y::t) (i:=0) rfl h0,aB ?_⟩;repeat(first|(refine nw ?_ (by decide);conv=>whnf)|(refine nw ?_;conv=>whnf))
  refine cg tLb 0 wF x hx (aB ?_);repeat(first|(refine nw ?_ (by decide);conv=>whnf)|(refine nw ?_;conv=>whnf))
  refine⟨_,rfl,aB ?_⟩;refine⟨⟨by decide,rfl⟩,aB ?_⟩;repeat(first|(refine nw ?_ (by decide);conv=>whnf)|(refine nw ?_;conv=>whnf))
  refine aG.go 0 rfl h0 (aB ?_);refine⟨_,mV.rd (xs:=x::y::t) (i:=0) rfl h0,aB ?_⟩;repeat(first|(refine nw ?_ (by decide);conv=>whnf)|(refine nw ?_;conv=>whnf)|(refine nw ?_ ⟨_,mV.rd (P:=prog) (xs:=x::y::t) (i:=0) rfl h0,mV.rd (P:=prog) (xs:=x::y::t) (i:=0) rfl h0⟩;conv=>whnf)|(refine nw ?_ ⟨_,mV.rd (P:=prog) (xs:=x::y::t) (i:=1) rfl hl,mV.rd (P:=prog) (xs:=x::y::t) (i:=1) rfl hl⟩;conv=>whnf))
  refine aG.go 1 rfl hl (aB ?_);refine⟨_,mV.rd (xs:=x::y::t) (i:=1) rfl hl,aB ?_⟩;repeat(first|(refine nw ?_ (by decide);conv=>whnf)|(refine nw ?_;conv=>whnf)|(refine nw ?_ ⟨_,mV.rd (P:=prog) (xs:=x::y::t) (i:=0) rfl h0,mV.rd (P:=prog) (xs:=x::y::t) (i:=0) rfl h0⟩;conv=>whnf)|(refine nw ?_ ⟨_,mV.rd (P:=prog) (xs:=x::y::t) (i:=1) rfl hl,mV.rd (P:=prog) (xs:=x::y::t) (i:=1) rfl hl⟩;conv=>whnf))
  refine cg tLb 1 abN (x,y) aA (aB ?_);repeat(first|(refine nw ?_ (by decide);conv=>whnf)|(refine nw ?_;conv=>whnf)|(refine nw ?_ ⟨_,mV.rd (P:=prog) (xs:=x::y::t) (i:=0) rfl h0,mV.rd (P:=prog) (xs:=x::y::t) (i:=0) rfl h0⟩;conv=>whnf)|(refine nw ?_ ⟨_,mV.rd (P:=prog) (xs:=x::y::t) (i:=1) rfl hl,mV.rd (P:=prog) (xs:=x::y::t) (i:=1) rfl hl⟩;conv=>whnf))
  refine an (λk1=>?_) (λk1=>?_)
  .have k1:aU (Vy x y)=true:=k1;have e:ES (x::y::t)=[iG x,iG y]:=(by show(match aU (Vy x y)with|true=>[iG x,iG y]|false=>[iG x])=_;rw [k1]);rw [show ES (d,x::y::t).2=[iG x,iG y]from e];conv=>whnf
   repeat(first|(refine nw ?_ (by decide);conv=>whnf)|(refine nw ?_;conv=>whnf)|(refine nw ?_ ⟨_,mV.rd (P:=prog) (xs:=x::y::t) (i:=0) rfl h0,mV.rd (P:=prog) (xs:=x::y::t) (i:=0) rfl h0⟩;conv=>whnf)|(refine nw ?_ ⟨_,mV.rd (P:=prog) (xs:=x::y::t) (i:=1) rfl hl,mV.rd (P:=prog) (xs:=x::y::t) (i:=1) rfl hl⟩;conv=>whnf))
   refine aG.go 1 rfl hl (aB ?_);refine⟨_,mV.rd (xs:=x::y::t) (i:=1) rfl hl,aB ?_⟩;repeat(first|(refine nw ?_ (by decide);conv=>whnf)|(refine nw ?_;conv=>whnf)|(refine nw ?_ ⟨_,mV.rd (P:=prog) (xs:=x::y::t) (i:=0) rfl h0,mV.rd (P:=prog) (xs:=x::y::t) (i:=0) rfl h0⟩;conv=>whnf)|(refine nw ?_ ⟨_,mV.rd (P:=prog) (xs:=x::y::t) (i:=1) rfl hl,mV.rd (P:=prog) (xs:=x::y::t) (i:=1) rfl hl⟩;conv=>whnf))
   refine cg tLb 0 wF y hy (aB ?_);repeat(first|(refine nw ?_ (by decide);conv=>whnf)|(refine nw ?_;conv=>whnf)|(refine nw ?_ ⟨_,mV.rd (P:=prog) (xs:=x::y::t) (i:=0) rfl h0,mV.rd (P:=prog) (xs:=x::y::t) (i:=0) rfl h0⟩;conv=>whnf)|(refine nw ?_ ⟨_,mV.rd (P:=prog) (xs:=x::y::t) (i:=1) rfl hl,mV.rd (P:=prog) (xs:=x::y::t) (i:=1) rfl hl⟩;conv=>whnf))
   refine⟨_,rfl,aB ?_⟩;refine⟨⟨by decide,rfl,rfl⟩,aB ?_⟩;repeat(first|(refine nw ?_;conv=>whnf)|(refine nw ?_ ⟨_,mV.rd (P:=prog) (xs:=x::y::t) (i:=1) rfl hl,mV.rd (P:=prog) (xs:=x::y::t) (i:=1) rfl hl⟩;conv=>whnf))
   exact .agg (.cons (.pure (aR.ak _)) (.cons (.pure .int) (.cons (kJ.gk (xs:=[iG x,iG y]) rfl rfl rfl) .nil)))
  .have k1:aU (Vy x y)=false:=k1;have e:ES (x::y::t)=[iG x]:=(by show(match aU (Vy x y)with|true=>[iG x,iG y]|false=>[iG x])=_;rw [k1]);rw [show ES (d,x::y::t).2=[iG x]from e];conv=>whnf
   repeat(first|(refine nw ?_ (by decide);conv=>whnf)|(refine nw ?_;conv=>whnf)|(refine nw ?_ ⟨_,mV.rd (P:=prog) (xs:=x::y::t) (i:=0) rfl h0,mV.rd (P:=prog) (xs:=x::y::t) (i:=0) rfl h0⟩;conv=>whnf)|(refine nw ?_ ⟨_,mV.rd (P:=prog) (xs:=x::y::t) (i:=1) rfl hl,mV.rd (P:=prog) (xs:=x::y::t) (i:=1) rfl hl⟩;conv=>whnf))
   exact .agg (.cons (.pure (aR.ak _)) (.cons (.pure .int) (.cons (kJ.gk (xs:=[iG x]) rfl rfl rfl) .nil)))
def Vz:Cn prog:= .lE aeQ cO 63 false (λb=>∀x∈b.2,wE x) NM (λe=>by cases e) ahp (au rfl rfl)
end
attribute [local instance] bJ
def dgT (k m:Nat):List (AV×AV):=(List.range m).map λi=>(.cons (.int .i64 (((k+i:Nat):Int) - 128)) .nil,.str (mL (((k+i:Nat):Int) - 128)))
theorem aeR:cP prog uy 64 (dgT 0 128)=true:=by decide+kernel
theorem aeS:cP prog uy 64 (dgT 128 128)=true:=by decide+kernel
theorem VC (n:Int) (h:-128<=n/\n<=127):PF prog 64 (.cons (aS.v n) .nil) (aR.v (mL n)):=by
 obtain⟨h1,h2⟩:=h;have mem:∀k m:Nat,(k:Int)<=n+128 ->n+128<(k+m:Nat) ->((.cons (.int .i64 n) .nil,.str (mL n)):AV×AV)∈dgT k m:=λk m g1 g2=>by
  unfold dgT;refine List.mem_map.2 ⟨(n+128).toNat - k,List.mem_range.2 (by omega),?_⟩;rw [show((k+((n+128).toNat - k):Nat):Int) - 128=n by omega]
 by_cases h3:n<0
 .exact(cm af ae ik (by decide) aeR _ (mem 0 128 (by omega) (by omega))).1
 .exact(cm af ae ik (by decide) aeS _ (mem 128 128 (by omega) (by omega))).1
def fF:Cn prog:= .lE aS aR 64 true (λn=> -128<=n/\n<=127) mL (λ_ y=>oS y) VC (au rfl rfl)
def eTn:bX Tn:=aS.pair (aS.pair (aS.pair aS))
theorem Qz:cP prog uy 113 [(.nil,eTn.list.v bZ)]=true:=by kernel_rfl
def NN:Cn prog:= .of0 eTn.list 113 bZ ((cm af ae ik (by decide) Qz _ (.head _)).1) (au rfl rfl)
end
section
attribute [local irreducible] Cw aj bE PF Sub
section
attribute [local instance] fe
theorem aeT (s:List Int) (x:Int) (hs:s.length<=1000000):dA 53 (.cons (aS.list.v s) (.cons (aS.v x) .nil)) (aS.v (fp (λy=>bG x y) s 0)):=by
 refine PF.go af ae [] (fn:=f53) rfl rfl rfl λB0 hc=>?_;obtain⟨W,hW⟩:∃W,W=fp (λy=>bG x y) s 0:=⟨_,rfl⟩
 rw [<-hW];conv=>whnf
 refine Cw.lp (σ:=Unit) af rfl rfl hc s.length (λq _=>[(0,aS.list.v s),(1,.int .i64 x),(6,aS.list.v s),(7,.int .i64 (s.length:Int)),(8,.int .i64 (q:Int))]) (λq _=>hp [] 64) (λq _=>fp (λy=>bG x y) (s.drop q) q=W) () hW.symm (sb []) (λq _ hq sv=>?_);conv=>whnf
 refine an (λk1=>?_) (λk1=>?_)
 .have hq:=mY k1;have bM:=mX hq (by omega);rw [List.drop_eq_getElem_cons hq]at sv;have sv:(match bG x s[q]with|true=>((q:Nat):Int)|false=>fp (λy=>bG x y) (s.drop (q+1)) (q+1))=W:=sv;conv=>whnf
  refine aG.go q rfl hq (aB ?_);refine⟨_,aS.rd rfl hq,aC ?_⟩;refine an (λk2=>?_) (λk2=>?_)
  .have k2:bG x s[q]=true:=k2;rw [k2]at sv;have sv:((q:Nat):Int)=W:=sv;rw [<-sv];refine aC ?_;exact aj.same rfl .int
  .have k2:bG x s[q]=false:=k2;rw [k2]at sv;refine aC ?_;exact⟨(),hq,sv,sb []⟩
 .obtain rfl:=ou hq k1;rw [List.drop_length]at sv;have sv:-1=W:=sv;rw [<-sv];refine aC ?_;exact aj.same rfl .int
def Lc:Cn prog:= .kz aS.list aS aS 53 true (λs _=>s.length<=1000000) (λs x=>fp (λy=>bG x y) s 0) (cM _) aeT (au rfl rfl)
theorem aai (s:List Int) (x:Int) (hs:s.length<=1000000):dA 22 (.cons (aS.list.v s) (.cons (aS.v x) .nil)) (bj.v (s.any λy=>bG x y)):=by
 refine PF.go af ae [Lc] (fn:=f22) rfl rfl rfl λB0 hc=>?_;conv=>whnf
 refine cg [Lc] 0 Lc (s,x) hs (aC ?_) (hl:=List.nodup_cons.2 ⟨List.not_mem_nil,List.nodup_nil⟩);exact aj.same (congrArg AV.bool (vD _ _ _)) .bool
def NP:Cn prog:= .kz aS.list aS bj 22 true (λs _=>s.length<=1000000) (λs x=>s.any λy=>bG x y) fh aai (au rfl rfl)
def fBp (m r:List Int):AV:= .func (.func 54) .nil (.cons (.cR (aS.list.c m .nil) 0) (.cons (.cR (aS.list.c r .nil) 0) .nil))
theorem aeU (m r:List Int):DP (fBp m r):=⟨aA,aS.list.fN m .nil,aS.list.fN r .nil,aA⟩
theorem VD (m r:List Int):dA 23 (.cons (aS.list.v m) (.cons (aS.list.v r) .nil)) (fBp m r):=by
 refine PF.go af ae [] (fn:=f23) rfl rfl rfl λB0 hc=>?_;conv=>whnf
 exact .func .nil (.cons (.ptr rfl rfl (.pure (aS.list.fN m .nil))) (.cons (.ptr rfl rfl (.pure (aS.list.fN r .nil))) .nil))
def HP:Cn prog:=Cn.mk 23 false (List Int×List Int) (λx=> .cons (aS.list.v x.1) (.cons (aS.list.v x.2) .nil)) (λx=>fBp x.1 x.2) (λ_=>True)
 (λa b _ _ h=>by injection h with h1 h;injection h with h2 _;rw [aS.list.aZ h1,aS.list.aZ h2]) (λx=>⟨aS.list.eK _,aS.list.eK _,aA⟩)
 (λx=>aV (aeU _ _)) (λh=>by cases h) (λx _=>VD x.1 x.2) (au rfl rfl)
end
attribute [local instance] bJ
structure CC where
 l:List fi
 v:Q3
 k:Int
 m:List Int
 r:List Int
def blk (I:CC) (i j:Int):Bool:=(Vs (I.l.getD i.toNat QU) (I.l.getD j.toNat QU) i.toNat j.toNat I.v I.k).2
structure aaj (l:List fi) (v:Q3) (k:Int) (i j:Int):Prop where
 i0:0<=i
 j0:0<=j
 a:abD l i.toNat j.toNat v k
def VE:Cn prog:=Cn.mk 24 false (List fi×Int×Int×Q3×Int) (λx=> .cons (Al x.1) (.cons (aS.v x.2.1) (.cons (aS.v x.2.2.1) (.cons (aN.v x.2.2.2.1) (.cons (aS.v x.2.2.2.2) .nil))))) (λx=>aeG x.1 x.2.1.toNat x.2.2.1.toNat x.2.2.2.1 x.2.2.2.2) (λx=>aaj x.1 x.2.2.2.1 x.2.2.2.2 x.2.1 x.2.2.1)
 (λa b _ _ h=>by injection h with h1 h;injection h with h2 h;injection h with h3 h;injection h with h4 h;injection h with h5 _;rw [EJ h1,aS.aZ h2,aS.aZ h3,aN.aZ h4,aS.aZ h5]) (λx=>⟨mR _,aS.eK _,aS.eK _,aN.eK _,aS.eK _,aA⟩)
 (λx=> .aO (.cons (Vp.ak _) (.cons .bool .nil))) (λh=>by cases h) (λx h=>by
  obtain⟨l,i,j,v,k⟩:=x;obtain⟨h1,h2,h3⟩:=h;obtain⟨i,rfl⟩:=Int.eq_ofNat_of_zero_le h1;obtain⟨j,rfl⟩:=Int.eq_ofNat_of_zero_le h2;exact ahh l i j v k h3) (au rfl rfl)
def mvR (I:CC):List (Nat×AV):=[(5,.ptr (pathOf 64) 0),(9,.ptr (pathOf 65) 0),(10,.ptr (pathOf 66) 0),(11,.ptr (pathOf 67) 0),(12,.ptr (pathOf 68) 0),(66,fBp I.m I.r)]
def ahq (st:Bool) (I:CC):AO:= .loop (Bool.casesOn st true false) (Bool.casesOn (motive:=λ_=>Option (Option Nat)) st none (some none)) 11 (bm (mvR I)) f11.ntmps (jO (oJ f11)).1 (jO (oJ f11)).2.1 (jO (oJ f11)).2.2 (pathOf 69)
def aeV (I:CC) (r:List (Nat×AO)):List (Nat×AO):=(64,cl [Al I.l])::(65,cl [.int .i64 I.k])::(66,cl [.bool false])::(67,cl [.int .i64 0])::(68,cl (nE I.v))::r
def QA (I:CC) (st:Bool):List (Nat×AO):=aeV I [(69,.marks),(70,ahq st I)]
def lJ (I:CC):xf (Int×Int) where
 ar:=λi=> .cons (aS.v i.1) (.cons (aS.v i.2) .nil)
 h0:=λ_=>hp (QA I false) 71
 v:=λi=> .bool (aU (blk I i.1 i.2))
 H:=λi=>(QA I (blk I i.1 i.2)).map λx=>(pathOf x.1,x.2)
 N:=λ_=>pathOf 80
 ok:=λi=>aaj I.l I.v I.k i.1 i.2
 inj:=by
  rintro ⟨i,j⟩ ⟨i',j'⟩ _ _ e1 e2;injection e1 with e3 e1;injection e1 with e4 _;have f3:i=i':=aS.aZ e3;have f4:j=j':=aS.aZ e4;subst f3 f4;exact⟨rfl,rfl,rfl⟩
section
abbrev aeW:aY:=qi bJ 7
attribute [local instance] aeW
def Ld:List (Cn prog):=[Cn.tabs (T:=bJ) (T':=aeW) rfl VE]
theorem ajZ (I:CC) (i j:Int) (h:aaj I.l I.v I.k i j) (B0:Nat):QJ prog B0 (pathOf 70) 11 f11.ntmps (jO (oJ f11)).2.1 (jO (oJ f11)).2.2 (aE Ld)
  (((bm (mvR I)).set (aS.v i) (pathOf 67)).set (aS.v j) (pathOf 68)) (hp (QA I false) 71) (.bool (aU (blk I i j))) ((QA I (blk I i j)).map λx=>(pathOf x.1,x.2)) (pathOf 80):=by
 have hc:=ay (P:=prog) ae Ld B0;have iP:(Ld.map Cn.f).Nodup:=List.nodup_cons.2 ⟨List.not_mem_nil,List.nodup_nil⟩;refine fD (cx:=⟨_,_,_,_,aE Ld,0⟩) af rfl hc _ (aB ?_);refine fD (cx:=⟨_,_,_,_,aE Ld,0⟩) af rfl hc _ (aB ?_);refine cg Ld 0 (Cn.tabs (T:=bJ) (T':=aeW) rfl VE) (I.l,i,j,I.v,I.k) h (aC ?_) (hl:=iP);refine an (λk1=>?_) (λk1=>?_);all_goals
  rw [show blk I i j=_ from k1];refine aC ?_;repeat' first|exact aA|exact rfl|refine And.intro ?_ ?_
theorem NQ (I:CC) {i j:Int} {o:Bool} (hb:blk I i j=o):(lJ I).H (i,j)=(QA I o).map λx=>(pathOf x.1,x.2):=by subst hb;rfl
theorem NR (I:CC) {i j:Int} {o:Bool} (hb:blk I i j=o):(lJ I).v (i,j)= .bool (aU o):=by subst hb;rfl
theorem aj0 (I:CC) (B0:Nat) (i:Int×Int) (hi:(lJ I).ok i):∃(fn:FuncId) (im:Tr AV) (nt:Nat) (ps:Array Tmp) (assign body:Code) (wN:Pos) (r:Tr AV) (ib:dY ->AV ->Heap ->CR),((lJ I).h0 i).t.get (pathOf 70)=some (.loop true none fn im nt ps assign body wN)/\mn ps.toList ((lJ I).ar i) nt im=some r/\
  ((lJ I).h0 i).n.toNat=64+7/\((lJ I).h0 i).n.toNat<=((lJ I).N i).toNat/\QJ prog B0 (pathOf 70) fn nt assign body ib r ((lJ I).h0 i) ((lJ I).v i) ((lJ I).H i) ((lJ I).N i):=
 ⟨_,_,_,_,_,_,_,_,aE Ld,rfl,rfl,rfl,(show(pathOf 71).toNat<=(pathOf 80).toNat by decide),ajZ I i.1 i.2 hi B0⟩
def blR (I:CC) (i:Int) (r:List Int):Bool:=r.any λj=>match aU (bG i j)with|true=>blk I i j|false=>false
def VF (I:CC) (m:List Int):Bool:=m.any λi=>blR I i I.r
structure aeX (I:CC):Prop where
 nm:I.m.length<=1000000
 nr:I.r.length<=1000000
 a:∀i∈I.m,∀j∈I.r,i≠j ->aaj I.l I.v I.k i j
def aeY (I:CC):dY ->AV ->Heap ->CR:=mF (pathOf 70) (lJ I) (aE (P:=prog) [])
theorem aak (I:CC) (B0:Nat):aW prog B0 (aeY I):=qY 7 (ay ae [] B0) (lJ I) (by decide) (aj0 I B0)
def mvA (I:CC):AV:= .cons (.yield (pathOf 70)) (.cons (.cR (aS.list.c I.m .nil) 0) (.cons (.cR (aS.list.c I.r .nil) 0) .nil))
theorem ahr (I:CC) (h:aeX I) (B0:Nat) {r:Tr AV} (hr:gH (mvA I) 0 f54.ntmps .leaf=some r):
  Cw prog B0 ⟨prog,54,f54.ntmps,none,aeY I,0⟩ (oJ f54) r [] (hp (QA I false) 71)
   (QK (fa prog f54 (.aO .nil) ((QA I (VF I I.m)).map λx=>(pathOf x.1,x.2)) (pathOf 90)) (fa prog f54 (.aO .nil) ((QA I (VF I I.m)).map λx=>(pathOf x.1,x.2)) (pathOf 90)) (λ_ _ _ _=>False)):=by
 cases hr;obtain⟨hnm,hnr,ha⟩:=h;have hc:=aak I B0;refine aD (cx:=⟨_,_,_,_,aeY I,0⟩) af rfl rfl hc _ ?_;obtain⟨W,hW⟩:∃W,W=VF I I.m:=⟨_,rfl⟩
 rw [<-hW];conv=>whnf
 refine⟨_,rfl,aB ?_⟩;refine Cw.lp (σ:=Unit) af rfl rfl hc I.m.length (λq _=>[(0,.yield (pathOf 70)),(2,.cR (aS.list.c I.r .nil) 0),(8,aS.list.v I.m),(9,.int .i64 (I.m.length:Int)),(10,.int .i64 (q:Int))])
  (λq _=>hp (QA I false) 71) (λq _=>VF I (I.m.drop q)=W) () hW.symm (sb [(64,64),(65,65),(66,66),(67,67),(68,68),(69,69),(70,70)]) (λq _ hq hs=>?_)
 conv=>whnf
 refine an (λk1=>?_) (λk1=>?_)
 .have hq:=mY k1;have bM:=mX hq (by omega);rw [List.drop_eq_getElem_cons hq]at hs;have hs:(blR I I.m[q] I.r||VF I (I.m.drop (q+1)))=W:=hs;have AN:I.m[q]∈I.m:=List.getElem_mem hq;conv=>whnf
  refine aG.go q rfl hq (aB ?_);refine⟨_,aS.rd rfl hq,aB ?_⟩;repeat(first|(refine nw ?_;conv=>whnf)|(refine⟨_,rfl,?_⟩;conv=>whnf))
  generalize I.m[q]=i at*;obtain⟨R,hR⟩:∃R,R=VF I (I.m.drop (q+1)):=⟨_,rfl⟩
  rw [<-hR]at hs;refine Cw.lp (σ:=Unit) af rfl rfl hc I.r.length (λp _=>[(0,.yield (pathOf 70)),(2,.cR (aS.list.c I.r .nil) 0),(5,.int .i64 i),(8,aS.list.v I.m),(9,.int .i64 (I.m.length:Int)),(10,.int .i64 (q:Int)),(14,aS.list.v I.r),(15,.int .i64 (I.r.length:Int)),(16,.int .i64 (p:Int))])
   (λp _=>hp (QA I false) 71) (λp _=>(blR I i (I.r.drop p)||R)=W) () hs (sb [(64,64),(65,65),(66,66),(67,67),(68,68),(69,69),(70,70)]) (λp _ hp cS=>?_)
  conv=>whnf
  refine an (λk2=>?_) (λk2=>?_)
  .have hp:=mY k2;have KB:=mX hp (by omega);rw [List.drop_eq_getElem_cons hp]at cS;have cS:(((match aU (bG i I.r[p])with|true=>blk I i I.r[p]|false=>false)||blR I i (I.r.drop (p+1)))||R)=W:=cS;have pj:=ha _ AN _ (List.getElem_mem hp);conv=>whnf
   refine aG.go p rfl hp (aB ?_);refine⟨_,aS.rd rfl hp,aC ?_⟩;generalize I.r[p]=j at*;refine an (λk3=>?_) (λk3=>?_)
   .have k3:aU (bG i j)=true:=k3;rw [k3]at cS;have dE:i≠j:=λe=>by rw [bw.2 e]at k3;cases k3
    have fY:=pj dE;refine aC ?_;cases hb:blk I i j with
    |true=>
     have cS:((blk I i j||blR I i (I.r.drop (p+1)))||R)=W:=cS;rw [hb]at cS;have cS:true=W:=cS;subst cS;refine gq (F:=lJ I) (i,j) fY (NR I hb) (NQ I hb) (aC ?_);repeat' first|exact aA|exact rfl|refine And.intro ?_ ?_
    |false=>
     have cS:((blk I i j||blR I i (I.r.drop (p+1)))||R)=W:=cS;rw [hb]at cS;have cS:(blR I i (I.r.drop (p+1))||R)=W:=cS;refine gq (F:=lJ I) (i,j) fY (NR I hb) (NQ I hb) (aC ?_);exact⟨(),hp,cS,sb [(64,64),(65,65),(66,66),(67,67),(68,68),(69,69),(70,70)]⟩
   .have k3:aU (bG i j)=false:=k3;rw [k3]at cS;have cS:(blR I i (I.r.drop (p+1))||R)=W:=cS;refine aC ?_;exact⟨(),hp,cS,sb [(64,64),(65,65),(66,66),(67,67),(68,68),(69,69),(70,70)]⟩
  .obtain rfl:=ou hp k2;rw [List.drop_length]at cS;have cS:R=W:=cS;rw [hR]at cS;refine aC ?_;exact⟨(),hq,cS,sb [(64,64),(65,65),(66,66),(67,67),(68,68),(69,69),(70,70)]⟩
 .obtain rfl:=ou hq k1;rw [List.drop_length]at hs;have hs:false=W:=hs;subst hs;refine aC ?_;repeat' first|exact aA|exact rfl|refine And.intro ?_ ?_
end
def VG:xf CC where
 ar:=λI=>mvA I
 h0:=λI=>hp (QA I false) 71
 v:=λ_=> .aO .nil
 H:=λI=>(QA I (VF I I.m)).map λx=>(pathOf x.1,x.2)
 N:=λ_=>pathOf 90
 ok:=λI=>aeX I
 inj:=by
  rintro ⟨l,v,k,m,r⟩ ⟨l',v',k',m',r'⟩ _ _ e1 e2;injection e1 with _ e1;injection e1 with e3 e1;injection e1 with e4 _;injection e3 with e3 _;injection e4 with e4 _;injection e3 with e3 _;injection e4 with e4 _;have f3:m=m':=aS.list.aZ e3;have f4:r=r':=aS.list.aZ e4;have g1:some (Al l)=some (Al l'):=congrArg (λh:Heap=>match h.t.get (pathOf 64)with|some (.cells t _ _)=>t.get (pathOf 0)|_=>none) e2;have g2:some (AV.int .i64 k)=some (.int .i64 k'):=congrArg (λh:Heap=>match h.t.get (pathOf 65)with|some (.cells t _ _)=>t.get (pathOf 0)|_=>none) e2;have g3:some (aN.v v)=some (aN.v v'):=congrArg (λh:Heap=>match h.t.get (pathOf 68)with|some (.cells t n _)=>(yn t n 0).map AV.agg|_=>none) e2;have f1:l=l':=EJ (Option.some.inj g1);have f2:k=k':=aS.aZ (Option.some.inj g2);have f5:v=v':=aN.aZ (Option.some.inj g3);subst f1 f2 f3 f4 f5;exact⟨rfl,rfl,rfl⟩
theorem VH (I:CC) {o:Bool} (hb:VF I I.m=o):VG.H I=(QA I o).map λx=>(pathOf x.1,x.2):=by subst hb;rfl
def tMv:List (Cn prog):=[NK,Cn.lift bJ NP,Cn.lift bJ HP]
def cMv:dY ->AV ->Heap ->CR:=fx 54 VG (aE tMv)
theorem VI (B0:Nat):aW prog B0 cMv:=
 ic ae 7 (ay ae tMv B0) (fn:=f54) rfl rfl VG (λi hi=>⟨_,_,rfl,rfl,(show(pathOf 71).toNat<=(pathOf 90).toNat by decide),ahr i hi B0 rfl⟩)
def VJ (m:List Int) (i:Int):Bool:=aU (m.any λy=>bG i y)
def ur (s m:List Int):List Int:=s.filter (VJ m)
def pW (l:List fi) (s m:List Int) (v:Q3) (k:Int):Bool:=aU (VF ⟨l,v,k,m,ur s m⟩ m)
structure Ao (l:List fi) (s m:List Int) (x:lz) (k:Int):Prop where
 ask:Vr l x k [s,m]
 ne:0<(ur s m).length
 eq:(ur s m).length+m.length=s.length
 bp:aeX ⟨l,x.q,k,m,ur s m⟩
theorem ahs (l:List fi) (s m:List Int) (x:lz) (k:Int) (h:Ao l s m x k):PF prog 11 (.cons (Al l) (.cons (aS.list.v s) (.cons (aS.list.v m) (.cons x.s (.cons (aS.v k) .nil))))) (.aO (.cons (bj.v (pW l s m x.q k)) (.cons (aS.v 0) .nil))):=by
 obtain⟨h1,h2,h3,h4⟩:=h;have hss:s.length<=1000000:=(h1.s s (.head _)).le;have hsm:m.length<=1000000:=(h1.s m (.tail _ (.head _))).le;refine PF.of_wp af (by decide) (fn:=f11) rfl rfl rfl (.cons (aV (mR l)) (.cons (aS.list.ak _) (.cons (aS.list.ak _) (.cons (lz.Ez _) (.cons .int .nil))))) (call:=cMv) (λB0=>VI B0) λB0=>?_;have hc:=VI B0;unfold pW;conv=>whnf
 refine bP (by decide) (cg tMv 0 NK (l,x,k,[s,m]) h1 (aC ?_));obtain⟨F,hF⟩:∃F:Nat ->List Int,∀q,F q=(s.take q).filter (VJ m):=⟨_,λ_=>rfl⟩
 have hF0:F 0=[]:=hF 0;refine Cw.lp (σ:=Unit) af rfl rfl hc s.length (λq _=>[(2,aS.list.v m),(1,aS.list.v s),(5,.ptr (pathOf 64) 0),(9,.ptr (pathOf 65) 0),(10,.ptr (pathOf 66) 0),(11,.ptr (pathOf 67) 0),(12,.ptr (pathOf 68) 0),(14,.gs (pathOf 69) (F q).length 1),(36,aS.list.v s),(37,.int .i64 (s.length:Int)),(38,.int .i64 (q:Int))])
  (λq _=>hp (aeV ⟨l,x.q,k,m,[]⟩ [(69,.gl (aS.l (F q)) false)]) 70) (λ_ _=>True) () aA ?_ (λq _ hq _=>?_)
 .rw [hF0];exact sb [(64,64),(65,66),(66,67),(67,68),(68,70),(69,0)]
 conv=>whnf
 refine an (λk1=>?_) (λk1=>?_)
 .have hq:=mY k1;have bM:=mX hq (by omega);have hFq:F (q+1)=F q++[s[q]].filter (VJ m):=by
   rw [hF,hF,List.take_succ_eq_append_getElem hq,List.filter_append]
  have hFl:(F q).length<=1000000:=by
   rw [hF];exact Nat.le_trans (List.length_filter_le ..) (by rw [List.length_take];omega)
  conv=>whnf
  refine aG.go q rfl hq (aB ?_);refine⟨_,aS.rd rfl hq,aC ?_⟩;refine bP (by decide) (cg tMv 1 (Cn.lift bJ NP) (m,s[q]) hsm (aC ?_));refine an (λk2=>?_) (λk2=>?_)
  .have k2:VJ m s[q]=true:=k2;have Qe:F (q+1)=F q++[s[q]]:=by
    rw [hFq,List.filter_cons_of_pos k2];rfl
   have hl1:(F q).length+1=(F (q+1)).length:=(by rw [Qe,List.length_append];rfl);have Kz:=aS.wg (F q) s[q];rw [<-Qe]at Kz;refine aC ?_;refine⟨_,rfl,aB ?_⟩;refine⟨aS.ap (xs:=F q) (q:=(F q).length) rfl (by omega),aC ?_⟩;exact⟨(),hq,aA,sb [(64,64),(65,65),(66,66),(67,67),(68,68),(69,71)]⟩
  .have k2:VJ m s[q]=false:=k2;have Qe:F (q+1)=F q:=by
    rw [hFq,List.filter_cons_of_neg (by rw [k2];exact Bool.false_ne_true)];exact List.append_nil _
   have hl1:(F q).length=(F (q+1)).length:=(by rw [Qe]);have Kz:aS.l (F q)=aS.l (F (q+1)):=(by rw [Qe]);refine aC ?_;exact⟨(),hq,aA,sb [(64,64),(65,65),(66,66),(67,67),(68,68),(69,69)]⟩
 .obtain rfl:=ou hq k1;have hFr:F s.length=ur s m:=by rw [hF,List.take_length];rfl
  rw [hFr];generalize ur s m=R at*;have hRl:R.length<=1000000:=h4.nr;conv=>whnf
  refine vJ (nY.2 (show(R.length:Int)≠0 by omega)) (aC ?_);have xF:ah .i64 (Int.add (R.length:Int) (m.length:Int))=(s.length:Int):=by
   show ah .i64 ((R.length:Int)+(m.length:Int))=_;rw [az (by omega) (by omega)];omega
  refine vJ (show aU (bG (ah .i64 (Int.add (R.length:Int) (m.length:Int))) (s.length:Int))=false by rw [xF,bw.2 rfl];rfl) (aC ?_);refine bP (by decide) (ch (l:=tMv) (by decide) 2 (c:=Cn.lift bJ HP) rfl (m,R) trivial (v:=fBp m R) rfl (hbor:=?_) (has:=?_) (hk:=?_))
  .refine⟨aA,?_,aA⟩;exact(aS.ep R).symm
  .rfl
  refine aC ?_;refine Cw.weaken (r':=bm (mvR ⟨l,x.q,k,m,R⟩)) (m':=[]) (h':=hp (aeV ⟨l,x.q,k,m,R⟩ []) 69) (sb [(64,64),(65,65),(66,66),(67,67),(68,68)]) ?_;cases hb:VF ⟨l,x.q,k,m,R⟩ m with
  |true=>
   refine Cw.range af rfl hc rfl rfl (kX (F:=VG) ⟨l,x.q,k,m,R⟩ h4 (VH ⟨l,x.q,k,m,R⟩ hb)) (x:=_) rfl ?_ ?_
   .intro e;cases e
   refine aC ?_;exact aj.pure (.aO (.cons .bool (.cons .int .nil)))
  |false=>
   refine Cw.range af rfl hc rfl rfl (kX (F:=VG) ⟨l,x.q,k,m,R⟩ h4 (VH ⟨l,x.q,k,m,R⟩ hb)) (x:=_) rfl ?_ ?_
   .intro e;cases e
   refine aC ?_;exact aj.pure (.aO (.cons .bool (.cons .int .nil)))
end
section
attribute [local irreducible] Cw aj bE PF Sub
attribute [local instance] bJ
def eI8:bX Int:=aq .i8
def HQ:bX I3:=eI8.pair (eI8.pair eI8)
abbrev sk:=Bdy×Bool×Int×I3×Bool
def uu:bX sk:=aeQ.pair (bj.pair (ZH.pair (HQ.pair bj)))
def I8 (x:Int):Prop:= -128<=x/\x<=127
structure pa (x:sk):Prop where
 b:U8 x.1.1/\∀y∈x.1.2,wE y
 t:U8 x.2.2.1
 s:I8 x.2.2.2.1.1/\I8 x.2.2.2.1.2.1/\I8 x.2.2.2.1.2.2
def Bi (n:Int) (h:Bool):Int×Bool:=match h with
 |true=>(match aU (bG (Int.tmod n 2) 0)with|true=>(n,true)|false=>(ah .i64 (Int.tdiv n 2),false))
 |false=>(n,false)
def itT (x:sk):Tn:=bZ.getD (Int.tmod x.2.2.1 27).toNat (1,0,0,0)
def wI (n:Int):Int:=ah .i64 n
def oi (x:sk):EG:=(itT x,Bi (wI x.2.2.2.1.1) x.2.2.2.2,Bi (wI x.2.2.2.1.2.1) x.2.2.2.2,Bi (wI x.2.2.2.1.2.2) x.2.2.2.2)
def Ap:List (Cn prog):=[fF,NN]
theorem rF (n:Int):(mL n).length<=4:=by
 have h:∀m,(dgt m).length<=3:=λm=>by
  unfold dgt;split
  .exact Nat.le_add_left 1 2
  .split
   .exact Nat.le_add_left 2 1
   .exact Nat.le_refl 3
 unfold mL;have:=h n.natAbs;split
 .rw [List.length_cons];omega
 .omega
theorem aeZ (x:sk) (h:pa x):PF prog 65 (.cons (uu.v x) .nil) (KQ.v (Ag (oi x))):=by
 obtain⟨⟨d,bs⟩,ag,t,⟨s1,s2,s3⟩,hf⟩:=x;obtain⟨_,⟨t1,t2⟩,⟨⟨a1,a2⟩,⟨b1,b2⟩,⟨c1,c2⟩⟩⟩:=h;have t1:0<=t:=t1;have t2:t<=255:=t2;have a1:-128<=s1:=a1;have a2:s1<=127:=a2;have b1:-128<=s2:=b1;have b2:s2<=127:=b2;have c1:-128<=s3:=c1;have c2:s3<=127:=c2;have hti:ah .i64 t=t:=az (by omega) (by omega);have htm:Int.tmod t 27=((t.toNat % 27:Nat):Int):=by
  obtain⟨n,rfl⟩:=Int.eq_ofNat_of_zero_le t1;rfl
 have cJ:t.toNat % 27<bZ.length:=Nat.mod_lt _ (by decide);have hT:itT ((d,bs),ag,t,(s1,s2,s3),hf)=bZ[t.toNat % 27]:=by
  unfold itT;show bZ.getD (Int.tmod t 27).toNat _=_;rw [htm,Int.toNat_natCast,List.getD_eq_getElem?_getD,List.getElem?_eq_getElem cJ];rfl
 refine PF.go af ae Ap (fn:=f65) rfl rfl rfl λB0 hc=>?_;conv=>whnf
 repeat(first|(refine nw ?_ (by decide);conv=>whnf)|(refine nw ?_;conv=>whnf))
 refine cg Ap 1 NN () aA (aB ?_);repeat(first|(refine nw ?_ (by decide);conv=>whnf)|(refine nw ?_;conv=>whnf))
 refine aG.go (t.toNat % 27) (show(ah .i64 t).tmod 27=_ by rw [hti,htm]) cJ (aB ?_);refine⟨_,eTn.rd rfl cJ,aB ?_⟩;repeat(first|(refine nw ?_ (by decide);conv=>whnf)|(refine nw ?_;conv=>whnf)|(refine nw ?_ ⟨_,eTn.rd (P:=prog) rfl cJ,eTn.rd (P:=prog) rfl cJ⟩;conv=>whnf))
 unfold oi;rw [hT];generalize bZ[t.toNat % 27]=T at*;have d1:-128<=wI s1/\wI s1<=127:=by unfold wI;rw [az (by omega) (by omega)];omega
 have d2:-128<=wI s2/\wI s2<=127:=by unfold wI;rw [az (by omega) (by omega)];omega
 have d3:-128<=wI s3/\wI s3<=127:=by unfold wI;rw [az (by omega) (by omega)];omega
 have hv:∀{n:Int},-128<=n/\n<=127 -> -128<=ah .i64 (Int.tdiv n 2)/\ah .i64 (Int.tdiv n 2)<=127:=λ{n} h=>by
  have h1:-128<=Int.tdiv n 2/\Int.tdiv n 2<=127:=by
   obtain⟨g1,g2⟩:=h;cases n with
   |ofNat k=>
    show -128<=((k/2:Nat):Int)/\((k/2:Nat):Int)<=127;have g2:(k:Int)<=127:=g2;omega
   |negSucc k=>
    show -128<= -(((k+1)/2:Nat):Int)/\ -(((k+1)/2:Nat):Int)<=127;have g1:-128<= -((k:Int)+1):=(by rw [Int.negSucc_eq]at g1;exact g1);omega
  rw [az (by omega) (by omega)];exact h1
 cases hf with
 |false=>
  repeat(first|(refine Cw.bL af rfl rfl hc 8 ?_;conv=>whnf)|(refine nw ?_ (by decide);conv=>whnf)|(refine nw ?_;conv=>whnf)|(refine cg Ap 0 fF (wI s1) d1 ?_;conv=>whnf)|(refine cg Ap 0 fF (wI s2) d2 ?_;conv=>whnf)|(refine cg Ap 0 fF (wI s3) d3 ?_;conv=>whnf))
  exact aj.pure (KQ.ak (Ag (T,(wI s1,false),(wI s2,false),(wI s3,false))))
 |true=>
  have h1:-128<=ah .i64 (Int.tdiv (wI s1) 2)/\ah .i64 (Int.tdiv (wI s1) 2)<=127:=hv d1;have h2:-128<=ah .i64 (Int.tdiv (wI s2) 2)/\ah .i64 (Int.tdiv (wI s2) 2)<=127:=hv d2;have h3:-128<=ah .i64 (Int.tdiv (wI s3) 2)/\ah .i64 (Int.tdiv (wI s3) 2)<=127:=hv d3;obtain⟨P1,hP1⟩:∃P,P=Bi (wI s1) true:=⟨_,rfl⟩
  obtain⟨P2,hP2⟩:∃P,P=Bi (wI s2) true:=⟨_,rfl⟩
  obtain⟨P3,hP3⟩:∃P,P=Bi (wI s3) true:=⟨_,rfl⟩
  rw [<-hP1,<-hP2,<-hP3];repeat(first|(refine Cw.bL af rfl rfl hc 8 ?_;conv=>whnf)|(refine nw ?_ (by decide);conv=>whnf)|(refine nw ?_;conv=>whnf))
  refine an (λk=>?_) (λk=>?_);rw [show Bi (wI s1) true=(wI s1,true) by unfold Bi;rw [show aU (bG (Int.tmod (wI s1) 2) 0)=true from k]]at hP1;conv=>whnf
  repeat(first|(refine Cw.bL af rfl rfl hc 8 ?_;conv=>whnf)|(refine nw ?_ (by decide);conv=>whnf)|(refine nw ?_;conv=>whnf))
  refine cg Ap 0 fF (wI s1) d1 (aB ?_);refine⟨Nat.le_trans (Nat.add_le_add_right (rF _) _) (by decide),aB ?_⟩;repeat(first|(refine Cw.bL af rfl rfl hc 8 ?_;conv=>whnf)|(refine nw ?_ (by decide);conv=>whnf)|(refine nw ?_;conv=>whnf))
  rotate_left;rw [show Bi (wI s1) true=(ah .i64 (Int.tdiv (wI s1) 2),false) by unfold Bi;rw [show aU (bG (Int.tmod (wI s1) 2) 0)=false from k]]at hP1;conv=>whnf
  repeat(first|(refine Cw.bL af rfl rfl hc 8 ?_;conv=>whnf)|(refine nw ?_ (by decide);conv=>whnf)|(refine nw ?_;conv=>whnf))
  refine cg Ap 0 fF (ah .i64 (Int.tdiv (wI s1) 2)) h1 (aB ?_);repeat(first|(refine Cw.bL af rfl rfl hc 8 ?_;conv=>whnf)|(refine nw ?_ (by decide);conv=>whnf)|(refine nw ?_;conv=>whnf))
  all_goals
   refine an (λk=>?_) (λk=>?_);rw [show Bi (wI s2) true=(wI s2,true) by unfold Bi;rw [show aU (bG (Int.tmod (wI s2) 2) 0)=true from k]]at hP2;conv=>whnf
   repeat(first|(refine Cw.bL af rfl rfl hc 8 ?_;conv=>whnf)|(refine nw ?_ (by decide);conv=>whnf)|(refine nw ?_;conv=>whnf))
   refine cg Ap 0 fF (wI s2) d2 (aB ?_);refine⟨Nat.le_trans (Nat.add_le_add_right (rF _) _) (by decide),aB ?_⟩;repeat(first|(refine Cw.bL af rfl rfl hc 8 ?_;conv=>whnf)|(refine nw ?_ (by decide);conv=>whnf)|(refine nw ?_;conv=>whnf))
   rotate_left;rw [show Bi (wI s2) true=(ah .i64 (Int.tdiv (wI s2) 2),false) by unfold Bi;rw [show aU (bG (Int.tmod (wI s2) 2) 0)=false from k]]at hP2;conv=>whnf
   repeat(first|(refine Cw.bL af rfl rfl hc 8 ?_;conv=>whnf)|(refine nw ?_ (by decide);conv=>whnf)|(refine nw ?_;conv=>whnf))
   refine cg Ap 0 fF (ah .i64 (Int.tdiv (wI s2) 2)) h2 (aB ?_);repeat(first|(refine Cw.bL af rfl rfl hc 8 ?_;conv=>whnf)|(refine nw ?_ (by decide);conv=>whnf)|(refine nw ?_;conv=>whnf))
  all_goals
   refine an (λk=>?_) (λk=>?_);rw [show Bi (wI s3) true=(wI s3,true) by unfold Bi;rw [show aU (bG (Int.tmod (wI s3) 2) 0)=true from k]]at hP3;conv=>whnf
   repeat(first|(refine Cw.bL af rfl rfl hc 8 ?_;conv=>whnf)|(refine nw ?_ (by decide);conv=>whnf)|(refine nw ?_;conv=>whnf))
   refine cg Ap 0 fF (wI s3) d3 (aB ?_);refine⟨Nat.le_trans (Nat.add_le_add_right (rF _) _) (by decide),aB ?_⟩;repeat(first|(refine Cw.bL af rfl rfl hc 8 ?_;conv=>whnf)|(refine nw ?_ (by decide);conv=>whnf)|(refine nw ?_;conv=>whnf))
   rotate_left;rw [show Bi (wI s3) true=(ah .i64 (Int.tdiv (wI s3) 2),false) by unfold Bi;rw [show aU (bG (Int.tmod (wI s3) 2) 0)=false from k]]at hP3;conv=>whnf
   repeat(first|(refine Cw.bL af rfl rfl hc 8 ?_;conv=>whnf)|(refine nw ?_ (by decide);conv=>whnf)|(refine nw ?_;conv=>whnf))
   refine cg Ap 0 fF (ah .i64 (Int.tdiv (wI s3) 2)) h3 (aB ?_);repeat(first|(refine Cw.bL af rfl rfl hc 8 ?_;conv=>whnf)|(refine nw ?_ (by decide);conv=>whnf)|(refine nw ?_;conv=>whnf))
  all_goals
   rw [hP1,hP2,hP3];exact aj.pure (.agg (.cons .int (.cons .int (.cons .int (.cons .int (.cons .str (.cons .str (.cons .str .nil))))))))
theorem VL (y:Plc):∀a∈KQ.cs y,qa a=true:=by
 intro a ha;have ha:a∈[AV.int .i64 y.1.1,.int .i64 y.1.2.1,.int .i64 y.1.2.2.1,.int .i64 y.1.2.2.2,.str y.2.1,.str y.2.2.1,.str y.2.2.2]:=ha;simp only [List.mem_cons,List.not_mem_nil,or_false]at ha;rcases ha with rfl|rfl|rfl|rfl|rfl|rfl|rfl<;>rfl
def ET:Cn prog:= .lE uu KQ 65 true pa (λx=>Ag (oi x)) (λ_ y=>VL y) aeZ (au rfl rfl)
end
section
theorem CD:∀(a:Nat) {l:AV} {b:Nat},cX (a+b) l=cX b (cX a l)
 |0,l,b=>by rw [Nat.zero_add];rfl
 |a+1,l,b=>by
  rw [show a+1+b=(a+b)+1 by omega];cases l with
  |cons x t=>exact CD a (l:=t)|_=>cases b<;>rfl
theorem bX.Ii [aY] {P:Program} {α:Type} (E:bX α) {t:TypeId} {xs:List α} {i k off:Nat} (hi:i<xs.length) {v:AV} (h:fR P t (cX k (E.c xs[i] (E.l (xs.drop (i+1)))))=some v) (ho:off=i*E.sz+k):fR P t (cX off (E.l xs))=some v:=by
 subst ho;rw [CD];have e:cX (i*E.sz) (E.l xs)=E.l (xs.drop i):=E.xP (Nat.le_of_lt hi);rw [e,List.drop_eq_getElem_cons hi];exact h
attribute [local irreducible] Cw aj bE PF Sub
attribute [local instance] bJ
theorem QB {α:Type} (pr:α ->Bool) (d:α) (l:List α) (q:Nat) (hq:q<l.length):((l.drop q).find? pr).getD d=match pr l[q]with|true=>l[q]|false=>((l.drop (q+1)).find? pr).getD d:=by
 rw [List.drop_eq_getElem_cons hq,List.find?_cons];cases pr l[q]<;>rfl
theorem VM (a:jg) (s:Nm) (h1:a.1.length<=64) (h2:∃p∈a.1,p.1=s):PF prog 31 (.cons (eF.v a) (.cons (aR.v s) .nil)) (.aO (.cons (cO.v (lg a s)) (.cons (bj.v true) .nil))):=by
 refine PF.go af ae [] (fn:=f31) rfl rfl rfl λB0 hc=>?_;obtain⟨W,hW⟩:∃W,W=lg a s:=⟨_,rfl⟩
 rw [<-hW];unfold lg at hW;have hex:∃p∈a.1.drop 0,p.1=s:=h2;conv=>whnf
 refine Cw.lp (σ:=Unit) af rfl rfl hc a.1.length (λq _=>[(1,.str s),(2,.ptr (pathOf 64) 0),(4,.ptr (pathOf 65) 0),(6,.int .i64 (q:Int))]) (λq _=>hp [(64,cl (eF.cs a)),(65,cl [.str [],.int .i64 0,.bA])] 66)
  (λq _=>((a.1.drop q).find? λp=>decide (p.1=s)).getD ([],0,[])=W/\∃p∈a.1.drop q,p.1=s) () ⟨hW.symm,hex⟩ (sb [(64,64),(65,65)]) (λq _ hq hs=>?_)
 obtain⟨dt,kL⟩:=hs;conv=>whnf
 refine an (λk1=>?_) (λk1=>?_)
 .have hq:=mY k1;have bM:=mX hq (by omega);rw [QB _ _ _ _ hq]at dt;refine aC ?_;refine aG.go q rfl hq (aC ?_);refine⟨_,cO.Ii (k:=0) hq rfl rfl,aC ?_⟩;refine an (λk2=>?_) (λk2=>?_)
  .have k2:kq a.1[q].1 s=true:=k2;rw [eM]at k2;rw [k2]at dt;have dt:a.1[q]=W:=dt;refine aC ?_;refine aG.go q rfl hq (aB ?_);refine⟨_,cO.rd rfl hq,aC ?_⟩;rw [<-dt];exact aj.pure (.aO (.cons (cO.ak a.1[q]) (.cons .bool .nil)))
  .have k2:kq a.1[q].1 s=false:=k2;rw [eM]at k2;rw [k2]at dt;have dt:((a.1.drop (q+1)).find? λp=>decide (p.1=s)).getD ([],0,[])=W:=dt;have BG:∃p∈a.1.drop (q+1),p.1=s:=by
    rw [List.drop_eq_getElem_cons hq]at kL;obtain⟨p,hp,hps⟩:=kL;rcases List.mem_cons.1 hp with rfl|hp
    .exact absurd hps (of_decide_eq_false k2)
    .exact⟨p,hp,hps⟩
   refine aC ?_;exact⟨(),hq,⟨dt,BG⟩,sb [(64,64),(65,65)]⟩
 .obtain rfl:=ou hq k1;rw [List.drop_length]at kL;obtain⟨_,hx,_⟩:=kL;cases hx
def HS:Cn prog:= .Gr eF aR cO bj 31 (λa s=>a.1.length<=64/\∃p∈a.1,p.1=s) lg (λ_ _=>true) (λa s h=>VM a s h.1 h.2) (au rfl rfl)
def s15:List (cW×cW) ->Int ->Int
 |[],s=>s|p::l,s=>s15 l (Qr s (lG p.1 p.2))
def wH (a b:fi):Int:=s15 (prs a b) 1
theorem VO (a b:fi) (h:nN a b):PF prog 33 (.cons (bc.v a) (.cons (bc.v b) .nil)) (aS.v (wH a b)):=by
 obtain⟨da,X⟩:=a;obtain⟨db,Y⟩:=b;obtain⟨hX,hY,hs⟩:=h;have hX:X.length<=1000000:=hX;have hY:Y.length<=1000000:=hY;have hs:∀x∈X,∀y∈Y,wz x y:=hs;refine PF.go af ae [mM] (fn:=f33) rfl rfl rfl λB0 hc=>?_;obtain⟨W,hW⟩:∃W,W=wH (da,X) (db,Y):=⟨_,rfl⟩
 rw [<-hW];conv=>whnf
 refine Cw.lp (σ:=Int) af rfl rfl hc X.length (λq s=>[(2,.ptr (pathOf 64) 0),(3,.ptr (pathOf 65) 0),(5,.int .i64 s),(6,.int .i64 (q:Int))])
  (λq s=>hp [(64,cl [.int .i64 da,aL.list.v X]),(65,cl [.int .i64 db,aL.list.v Y])] 66) (λq s=>s15 ((X.drop q).flatMap λx=>Y.map λy=>(x,y)) s=W) 1 hW.symm (sb [(64,64),(65,65)]) (λq s hq KM=>?_)
 conv=>whnf
 refine an (λh1=>?_) (λh1=>?_)
 .have hq:=mY h1;have bM:=mX hq (by omega);rw [List.drop_eq_getElem_cons hq,List.flatMap_cons]at KM;have AN:X[q]∈X:=List.getElem_mem hq;obtain⟨R,hR⟩:∃R,R=(X.drop (q+1)).flatMap λx=>Y.map λy=>(x,y):=⟨_,rfl⟩
  rw [<-hR]at KM;refine aC ?_;refine Cw.lp (σ:=Int) af rfl rfl hc Y.length (λp s=>[(2,.ptr (pathOf 64) 0),(3,.ptr (pathOf 65) 0),(5,.int .i64 s),(6,.int .i64 (q:Int)),(7,.int .i64 (p:Int))])
   (λp s=>hp [(64,cl [.int .i64 da,aL.list.v X]),(65,cl [.int .i64 db,aL.list.v Y])] 66) (λp s=>s15 (((Y.drop p).map λy=>(X[q],y))++R) s=W) s KM (sb [(64,64),(65,65)]) (λp s hp cS=>?_)
  conv=>whnf
  refine an (λh2=>?_) (λh2=>?_)
  .have hp:=mY h2;have KB:=mX hp (by omega);rw [List.drop_eq_getElem_cons hp,List.map_cons,List.cons_append]at cS;have cS:s15 (((Y.drop (p+1)).map λy=>(X[q],y))++R) (Qr s (lG X[q] Y[p]))=W:=cS;refine aC ?_;refine aG.go q rfl hq (aB ?_);refine⟨_,aL.rd rfl hq,aC ?_⟩;refine aG.go p rfl hp (aB ?_);refine⟨_,aL.rd rfl hp,aC ?_⟩;refine cg [mM] 0 mM (X[q],Y[p]) (hs _ AN _ (List.getElem_mem hp)) (aB ?_) (hl:=nd1);repeat(first|(refine nw ?_;conv=>whnf)|(refine nw ?_ ⟨_,aL.rd (P:=prog) rfl hq,aL.rd (P:=prog) rfl hq⟩;conv=>whnf)|(refine nw ?_ ⟨_,aL.rd (P:=prog) rfl hp,aL.rd (P:=prog) rfl hp⟩;conv=>whnf))
   exact⟨Qr s (lG X[q] Y[p]),hp,cS,sb [(64,64),(65,65)]⟩
  .have hpe:=ou hp h2;subst hpe;rw [List.drop_length]at cS;have cS:s15 R s=W:=cS;rw [hR]at cS;refine aC ?_;exact⟨s,hq,cS,sb [(64,64),(65,65)]⟩
 .have Ia:=ou hq h1;subst Ia;rw [List.drop_length]at KM;have KM:s=W:=KM;rw [<-KM];refine aC ?_;exact aj.pure .int
def HT:Cn prog:= .kz bc bc aS 33 true nN wH (cM _) VO (au rfl rfl)
end
section
attribute [local irreducible] Cw aj bE PF Sub
attribute [local instance] bJ
def Aq (s:fi):Bool ->List fi ->Bool
 |f,[]=>f|f,y::r=>Aq s (match f with|true=>aU (bG (wH s y) 3)|false=>false) r
def mkS (a:jg) (x:mP) (S:List fi):Bool:=Aq (ql a x) (bG (lT (lg a x.2.1)) 0) S
def Bj (a:jg):List mP ->List mP×List fi ->List mP×List fi
 |[],z=>z|x::l,z=>Bj a l (match mkS a x z.2 with|true=>(z.1++[x],z.2++[ql a x])|false=>z)
def VP (a:jg):jg:=(a.1,(Bj a a.2 ([],[])).1)
structure aht (a:jg):Prop where
 n1:a.1.length<=64
 n2:a.2.length<=1000
 pt:∀x∈a.2,∃p∈a.1,p.1=x.2.1
 so:∀x∈a.2,Ah x.2.2/\Cu (lg a x.2.1) (oY x.2.2)
 st:∀x∈a.2,∀y∈a.2,nN (ql a x) (ql a y)
structure MkI (a:jg) (q:Nat) (z:List mP×List fi):Prop where
 n1:z.1.length<=q
 n2:z.2.length<=q
 s:∀s∈z.2,∃y∈a.2,s=ql a y
def aj1:List (Cn prog):=[HS,EH,HT]
def ahu (wv:AV) (hw:DP wv) (a:jg) (hl:PF prog 30 (.cons wv .nil) (eF.v a)):Cn prog:=⟨30,false,Unit,λ_=> .cons wv .nil,λ_=>eF.v a,λ_=>True,λ_ _ _ _ _=>rfl,λ_=>⟨hw,aA⟩,λ_=>eF.ak _,λh=>Bool.noConfusion h,λ_ _=>hl,au rfl rfl⟩
theorem aal (l:AV) (wn:Nat) (hl:dh l) (a:jg) (h:aht a) (hlo:PF prog 30 (.cons (.agg (.cons (.ro wn l) .nil)) .nil) (eF.v a)):PF prog 14 (.cons (.agg (.cons (.ro wn l) .nil)) .nil) (eF.v (VP a)):=by
 obtain⟨hn1,hn2,hpt,hso,mw⟩:=h;have hw:DP (.agg (.cons (.ro wn l) .nil)):=⟨hl,aA⟩
 obtain⟨T,hT⟩:∃T,T=ahu _ hw a hlo::aj1:=⟨_,rfl⟩
 have iP:(T.map Cn.f).Nodup:=by rw [hT];show [30,31,32,33].Nodup;decide
 refine PF.go af ae T (fn:=f14) rfl rfl rfl (hpure:= .cons (.agg (.cons (aV hl) .nil)) .nil) λB0 hc=>?_;unfold VP;obtain⟨W,hW⟩:∃W,W=Bj a a.2 ([],[]):=⟨_,rfl⟩
 rw [<-hW];conv=>whnf
 refine cg T 0 (ahu _ hw a hlo) () aA (aC ?_) (hl:=iP) (hc:=by rw [hT];rfl);refine Cw.lp (σ:=List mP×List fi) af rfl rfl hc a.2.length (λq z=>[(2,.ptr (pathOf 64) 0),(3,.ptr (pathOf 65) 0),(4,.gs (pathOf 66) z.1.length 9),(5,.gs (pathOf 67) z.2.length 2),(6,.int .i64 (q:Int))])
  (λq z=>hp [(64,cl [.bA,.bA]),(65,cl (eF.cs a)),(66,.gl (ja.l z.1) false),(67,.gl (bc.l z.2) false)] 68) (λq z=>Bj a (a.2.drop q) z=W/\MkI a q z) ([],[]) ⟨hW.symm,⟨Nat.zero_le _,Nat.zero_le _,λs hs=>by cases hs⟩⟩ (sb [(64,65),(65,66),(66,0),(67,0)]) (λq z hq hs=>?_)
 obtain⟨dt,kL,BG,hs4⟩:=hs;obtain⟨K,S⟩:=z;have kL:K.length<=q:=kL;have BG:S.length<=q:=BG;conv=>whnf
 refine an (λk1=>?_) (λk1=>?_)
 .have hq:=mY k1;have bM:=mX hq (by omega);have AN:a.2[q]∈a.2:=List.getElem_mem hq;have h1:=hpt _ AN;have h2:=hso _ AN;rw [List.drop_eq_getElem_cons hq]at dt;have dt:Bj a (a.2.drop (q+1)) (match mkS a a.2[q] S with|true=>(K++[a.2[q]],S++[ql a a.2[q]])|false=>(K,S))=W:=dt;refine aC ?_;refine aG.go q rfl hq (aC ?_);refine⟨_,ja.Ii (k:=1) hq rfl rfl,aC ?_⟩;refine cg T 1 HS (a,a.2[q].2.1) ⟨hn1,h1⟩ (aB ?_) (hl:=iP) (hc:=by rw [hT];rfl);repeat(first|(refine nw ?_;conv=>whnf)|(refine nw ?_ ⟨_,ja.Ii (P:=prog) (k:=1) hq rfl rfl,ja.Ii (P:=prog) (k:=1) hq rfl rfl⟩;conv=>whnf))
  refine aG.go q rfl hq (aC ?_);refine⟨_,ja.Ii (k:=2) hq rfl rfl,aC ?_⟩;refine cg T 2 EH (lg a a.2[q].2.1,a.2[q].2.2) h2 (aB ?_) (hl:=iP) (hc:=by rw [hT];rfl);repeat(first|(refine nw ?_;conv=>whnf)|(refine nw ?_ ⟨_,ja.Ii (P:=prog) (k:=1) hq rfl rfl,ja.Ii (P:=prog) (k:=1) hq rfl rfl⟩;conv=>whnf)|(refine nw ?_ ⟨_,ja.Ii (P:=prog) (k:=2) hq rfl rfl,ja.Ii (P:=prog) (k:=2) hq rfl rfl⟩;conv=>whnf))
  have hsm:∀t∈S,nN (ql a a.2[q]) t:=λt ht=>by
   obtain⟨y,hy,rfl⟩:=hs4 t ht;exact mw _ AN y hy
  obtain⟨F,hF⟩:∃F,F=mkS a a.2[q] S:=⟨_,rfl⟩
  rw [<-hF]at dt;unfold mkS at hF;obtain⟨s,hsd⟩:∃s,s=ql a a.2[q]:=⟨_,rfl⟩
  rw [<-hsd]at dt hsm hF;refine Cw.lp (σ:=Bool) af rfl rfl hc S.length (λp f=>[(2,.ptr (pathOf 64) 0),(3,.ptr (pathOf 65) 0),(4,.gs (pathOf 66) K.length 9),(5,.gs (pathOf 67) S.length 2),(6,.int .i64 (q:Int)),(9,.ptr (pathOf 68) 0),(11,.bool f),(12,.int .i64 (p:Int))])
   (λp f=>hp [(64,cl [.bA,.bA]),(65,cl (eF.cs a)),(66,.gl (ja.l K) false),(67,.gl (bc.l S) false),(68,cl (bc.cs s))] 69) (λp f=>Aq s f (S.drop p)=F) _ hF.symm ?_ (λp f hp cS=>?_)
  .subst hsd;exact sb [(64,64),(65,65),(66,66),(67,67),(68,69)]
  conv=>whnf
  refine an (λk2=>?_) (λk2=>?_)
  .have hp:=mY k2;have KB:=mX hp (by omega);rw [List.drop_eq_getElem_cons hp]at cS;cases f with
   |true=>
    have cS:Aq s (aU (bG (wH s S[p]) 3)) (S.drop (p+1))=F:=cS;refine aC ?_;refine aG.go p rfl hp (aB ?_);refine⟨_,bc.rd rfl hp,aC ?_⟩;refine cg T 3 HT (s,S[p]) (hsm _ (List.getElem_mem hp)) (aB ?_) (hl:=iP) (hc:=by rw [hT];rfl);repeat(first|(refine nw ?_;conv=>whnf)|(refine nw ?_ ⟨_,bc.rd (P:=prog) rfl hp,bc.rd (P:=prog) rfl hp⟩;conv=>whnf))
    exact⟨aU (bG (wH s S[p]) 3),hp,cS,sb [(64,64),(65,65),(66,66),(67,67),(68,68)]⟩
   |false=>
    have cS:Aq s false (S.drop (p+1))=F:=cS;refine aC ?_;exact⟨false,hp,cS,sb [(64,64),(65,65),(66,66),(67,67),(68,68)]⟩
  .obtain rfl:=ou hp k2;rw [List.drop_length]at cS;have cS:f=F:=cS;rw [<-cS]at dt;cases f with
   |true=>
    have dt:Bj a (a.2.drop (q+1)) (K++[a.2[q]],S++[s])=W:=dt;have hK:=ja.wg K a.2[q];have hS:=bc.wg S s;have hKl:K.length+1=(K++[a.2[q]]).length:=(by rw [List.length_append];rfl);have hSl:S.length+1=(S++[s]).length:=(by rw [List.length_append];rfl);refine aC ?_;refine aG.go q rfl hq (aB ?_);refine⟨_,ja.rd rfl hq,aC ?_⟩;refine⟨_,rfl,aB ?_⟩;refine⟨ja.ap (xs:=K) (q:=K.length) rfl (by omega),aC ?_⟩;refine⟨_,rfl,aB ?_⟩;refine⟨bc.ap (xs:=S) (q:=S.length) rfl (by omega),aB ?_⟩;repeat(first|(refine nw ?_;conv=>whnf)|(refine nw ?_ ⟨_,ja.rd (P:=prog) rfl hq,ja.rd (P:=prog) rfl hq⟩;conv=>whnf))
    refine⟨(K++[a.2[q]],S++[s]),hq,⟨dt,by show(K++[a.2[q]]).length<=q+1;omega,by show(S++[s]).length<=q+1;omega,λt ht=>?_⟩,sb [(64,64),(65,65),(66,71),(67,72)]⟩;rcases List.mem_append.1 ht with ht|ht
    .exact hs4 t ht
    .exact⟨_,AN,(List.mem_singleton.1 ht).trans hsd⟩
   |false=>
    have dt:Bj a (a.2.drop (q+1)) (K,S)=W:=dt;refine aC ?_;exact⟨(K,S),hq,⟨dt,Nat.le_succ_of_le kL,Nat.le_succ_of_le BG,hs4⟩,sb [(64,64),(65,65),(66,66),(67,67)]⟩
 .obtain rfl:=ou hq k1;rw [List.drop_length]at dt;have dt:(K,S)=W:=dt;rw [<-dt];refine aC ?_;exact .agg (.cons (.pure (cO.list.ak a.1)) (.cons (ja.gk rfl rfl rfl) .nil))
def nh (x:sk) (n:Nat):nO:=(112::mL n,(NM x.1).2)
def sD (P:List nO) (x:sk):List nO:=match bG (P.length:Int) 0 with|true=>P++[nh x P.length]|false=>(match aU x.2.1 with|true=>P++[nh x P.length]|false=>P)
def lsI (P:List nO) (I:List mP) (q:Nat) (x:sk):List mP:=I++[([97+q],(P.getD (P.length - 1) ([],0,[])).1,Ag (oi x))]
def VQ:Nat ->List sk ->jg ->jg
 |_,[],z=>z|q,x::l,z=>VQ (q+1) l (sD z.1 x,lsI (sD z.1 x) z.2 q x)
def oj (l:List sk):jg:=VQ 0 l ([],[])
def tLo:List (Cn prog):=[Cn.lift bJ Vz,fF,ET]
theorem mS {P:Program} {src dst e:TypeId} (h1:P.underlying src=some (.slice e)) (h2:P.underlying dst=some .string) (h3:P.underlying e=some (.int .u8)) {x:Operand} {r:Tr AV} {h:Heap} {id:Pos} {n sz:Nat} (yC:ev x r= .gs id n sz) {l:AV} (hg:gP h id 0 n=some l) {s:List Nat} (hb:mj l=some s):gh src dst x P r h=some (.str s):=by
 unfold gh;rw [yC];simp only [h1,h2,h3,hg];rw [hb];rfl
theorem mT (q:Nat) (hq:q<4):mj (.cons (.int .u8 (ah .u8 (ah .i64 (Int.add 97 (q:Int))))) .nil)=some [97+q]:=by
 match q,hq with
 |0,_=>rfl|1,_=>rfl|2,_=>rfl|3,_=>rfl
theorem bX.Xa {P:Program} {α:Type} (E:bX α) {t:TypeId} {xs:List α} {y:α} {k off:Nat} {v:AV} (h:fR P t (cX k (E.c y .nil))=some v) (ho:off=xs.length*E.sz+k):fR P t (cX off (app (E.l xs) (E.c y .nil)))=some v:=by
 rw [E.wg];have hi:xs.length<(xs++[y]).length:=by rw [List.length_append];exact Nat.lt_succ_self _
 have e1:(xs++[y])[xs.length]=y:=by rw [List.getElem_append_right (Nat.le_refl _)];simp
 have e2:(xs++[y]).drop (xs.length+1)=[]:=List.drop_eq_nil_of_le (by rw [List.length_append];exact Nat.le_refl _);refine E.Ii hi ?_ ho;rw [e1,e2];exact h
theorem NS (P:List nO) (y:nO) (I:List mP) (q:Nat) (x:sk):lsI (P++[y]) I q x=I++[([97+q],y.1,Ag (oi x))]:=by
 unfold lsI;rw [List.length_append,show P.length+[y].length - 1=P.length from rfl,List.getD_eq_getElem?_getD,List.getElem?_append_right (Nat.le_refl _),Nat.sub_self];rfl
theorem aam (P:List nO) (hp:P.length - 1<P.length) (I:List mP) (q:Nat) (x:sk):lsI P I q x=I++[([97+q],P[P.length - 1].1,Ag (oi x))]:=by
 unfold lsI;rw [List.getD_eq_getElem?_getD,List.getElem?_eq_getElem hp];rfl
structure LoI (q:Nat) (z:jg):Prop where
 p:z.1.length<=q
 i:z.2.length=q
 n:0<q ->0<z.1.length
theorem aan (l:List sk) (hl:l.length<=4) (hi:∀x∈l,pa x):PF prog 30 (.cons (.agg (.cons (uu.list.v l) .nil)) .nil) (eF.v (oj l)):=by
 refine PF.go af ae tLo (fn:=f30) rfl rfl rfl (hpure:= .cons (.agg (.cons (uu.list.ak _) .nil)) .nil) λB0 hc=>?_;obtain⟨W,hW⟩:∃W,W=oj l:=⟨_,rfl⟩
 rw [<-hW];conv=>whnf
 refine Cw.lp (σ:=jg) af rfl rfl hc l.length (λq z=>[(1,.ptr (pathOf 64) 0),(2,.ptr (pathOf 65) 0),(3,.ptr (pathOf 66) 0),(4,.int .i64 (q:Int))])
  (λq z=>hp [(64,cl [uu.list.v l]),(65,cl [.bA,.bA]),(66,cl [.gs (pathOf 67) z.1.length 3,.gs (pathOf 68) z.2.length 9]),(67,.gl (cO.l z.1) false),(68,.gl (ja.l z.2) false)] 69) (λq z=>VQ q (l.drop q) z=W/\LoI q z) ([],[]) ⟨hW.symm,⟨Nat.le_refl _,rfl,λh=>absurd h (Nat.lt_irrefl _)⟩⟩ (sb [(64,64),(65,65),(66,66),(67,0),(68,0)]) (λq z hq hs=>?_)
 obtain⟨dt,kL,BG,hs4⟩:=hs;obtain⟨P,I⟩:=z;have kL:P.length<=q:=kL;have BG:I.length=q:=BG;have hs4:0<q ->0<P.length:=hs4;conv=>whnf
 refine an (λk1=>?_) (λk1=>?_)
 .have hq:=mY k1;have bM:=mX hq (by omega);have hx:=hi _ (List.getElem_mem hq);rw [List.drop_eq_getElem_cons hq]at dt;have dt:VQ (q+1) (l.drop (q+1)) (sD P l[q],lsI (sD P l[q]) I q l[q])=W:=dt;refine aC ?_;refine aG.go q rfl hq (aB ?_);refine⟨_,uu.rd rfl hq,aC ?_⟩;generalize l[q]=x at*;have hsz:-128<=(P.length:Int)/\(P.length:Int)<=127:=by omega
  refine an (λk2=>?_) (λk2=>?_)
  .have k2:bG (P.length:Int) 0=true:=k2;have hP:sD P x=P++[nh x P.length]:=(by unfold sD;rw [k2]);rw [hP,NS]at dt;have GC:ah .i64 (Int.sub (Int.ofNat (P.length+1)) 1)=(P.length:Int):=by
    show ah .i64 (((P.length+1:Nat):Int) - 1)=_;rw [az (by omega) (by omega)];omega
   have hPl:P.length+1=(P++[nh x P.length]).length:=(by rw [List.length_append];rfl);have hIl:I.length+1=(I++[([97+q],(nh x P.length).1,Ag (oi x))]).length:=(by rw [List.length_append];rfl);have hIa:=ja.wg I ([97+q],(nh x P.length).1,Ag (oi x));have hPa:=cO.wg P (nh x P.length);refine aC ?_;refine cg tLo 0 (Cn.lift bJ Vz) x.1 hx.b.2 (aC ?_);refine cg tLo 1 fF (P.length:Int) hsz (aC ?_);refine⟨Nat.le_trans (Nat.add_le_add_left (rF _) _) (by decide),aC ?_⟩;refine⟨_,rfl,aB ?_⟩;refine⟨cO.ap (xs:=P) (q:=P.length) rfl (by omega),aC ?_⟩;refine⟨.str [97+q],mS rfl rfl rfl rfl rfl (mT q (by omega)),aC ?_⟩;refine aG.go P.length GC (Nat.lt_succ_self _) (aC ?_);refine⟨_,cO.Xa (P:=prog) (t:=9) (v:= .str (nh x P.length).1) (xs:=P) (y:=nh x P.length) (k:=0) rfl rfl,aC ?_⟩;refine cg tLo 2 ET x hx (aB ?_);repeat(first|(refine nw ?_;conv=>whnf)|(refine nw ?_ ⟨_,cO.Xa (P:=prog) (t:=9) (v:= .str (nh x P.length).1) (xs:=P) (y:=nh x P.length) (k:=0) rfl rfl,cO.Xa (P:=prog) (t:=9) (v:= .str (nh x P.length).1) (xs:=P) (y:=nh x P.length) (k:=0) rfl rfl⟩;conv=>whnf)|(refine nw ?_ ⟨_,mS rfl rfl rfl rfl rfl (mT q (by omega)),mS rfl rfl rfl rfl rfl (mT q (by omega))⟩;conv=>whnf))
   refine⟨_,rfl,aB ?_⟩;refine⟨ja.ap (xs:=I) (q:=I.length) rfl (by omega),aB ?_⟩;repeat(first|(refine nw ?_;conv=>whnf)|(refine nw ?_ ⟨_,cO.Xa (P:=prog) (t:=9) (v:= .str (nh x P.length).1) (xs:=P) (y:=nh x P.length) (k:=0) rfl rfl,cO.Xa (P:=prog) (t:=9) (v:= .str (nh x P.length).1) (xs:=P) (y:=nh x P.length) (k:=0) rfl rfl⟩;conv=>whnf)|(refine nw ?_ ⟨_,mS rfl rfl rfl rfl rfl (mT q (by omega)),mS rfl rfl rfl rfl rfl (mT q (by omega))⟩;conv=>whnf))
   exact⟨(P++[nh x P.length],I++[([97+q],(nh x P.length).1,Ag (oi x))]),hq,⟨dt,⟨by show(P++[nh x P.length]).length<=q+1;omega,by show(I++[([97+q],(nh x P.length).1,Ag (oi x))]).length=q+1;omega,λ_=>by show 0<(P++[nh x P.length]).length;omega⟩⟩,sb [(64,64),(65,65),(66,66),(67,72),(68,75)]⟩
  .have k2:bG (P.length:Int) 0=false:=k2;refine aC ?_;refine an (λk3=>?_) (λk3=>?_)
   .have k3:aU x.2.1=true:=k3;have hP:sD P x=P++[nh x P.length]:=(by unfold sD;rw [k2];show(match aU x.2.1 with|true=>_|false=>_)=_;rw [k3]);rw [hP,NS]at dt;have GC:ah .i64 (Int.sub (Int.ofNat (P.length+1)) 1)=(P.length:Int):=by
     show ah .i64 (((P.length+1:Nat):Int) - 1)=_;rw [az (by omega) (by omega)];omega
    have hPl:P.length+1=(P++[nh x P.length]).length:=(by rw [List.length_append];rfl);have hIl:I.length+1=(I++[([97+q],(nh x P.length).1,Ag (oi x))]).length:=(by rw [List.length_append];rfl);have hIa:=ja.wg I ([97+q],(nh x P.length).1,Ag (oi x));have hPa:=cO.wg P (nh x P.length);refine aC ?_;refine cg tLo 0 (Cn.lift bJ Vz) x.1 hx.b.2 (aC ?_);refine cg tLo 1 fF (P.length:Int) hsz (aC ?_);refine⟨Nat.le_trans (Nat.add_le_add_left (rF _) _) (by decide),aC ?_⟩;refine⟨_,rfl,aB ?_⟩;refine⟨cO.ap (xs:=P) (q:=P.length) rfl (by omega),aC ?_⟩;refine⟨.str [97+q],mS rfl rfl rfl rfl rfl (mT q (by omega)),aC ?_⟩;refine aG.go P.length GC (Nat.lt_succ_self _) (aC ?_);refine⟨_,cO.Xa (P:=prog) (t:=9) (v:= .str (nh x P.length).1) (xs:=P) (y:=nh x P.length) (k:=0) rfl rfl,aC ?_⟩;refine cg tLo 2 ET x hx (aB ?_);repeat(first|(refine nw ?_;conv=>whnf)|(refine nw ?_ ⟨_,cO.Xa (P:=prog) (t:=9) (v:= .str (nh x P.length).1) (xs:=P) (y:=nh x P.length) (k:=0) rfl rfl,cO.Xa (P:=prog) (t:=9) (v:= .str (nh x P.length).1) (xs:=P) (y:=nh x P.length) (k:=0) rfl rfl⟩;conv=>whnf)|(refine nw ?_ ⟨_,mS rfl rfl rfl rfl rfl (mT q (by omega)),mS rfl rfl rfl rfl rfl (mT q (by omega))⟩;conv=>whnf))
    refine⟨_,rfl,aB ?_⟩;refine⟨ja.ap (xs:=I) (q:=I.length) rfl (by omega),aB ?_⟩;repeat(first|(refine nw ?_;conv=>whnf)|(refine nw ?_ ⟨_,cO.Xa (P:=prog) (t:=9) (v:= .str (nh x P.length).1) (xs:=P) (y:=nh x P.length) (k:=0) rfl rfl,cO.Xa (P:=prog) (t:=9) (v:= .str (nh x P.length).1) (xs:=P) (y:=nh x P.length) (k:=0) rfl rfl⟩;conv=>whnf)|(refine nw ?_ ⟨_,mS rfl rfl rfl rfl rfl (mT q (by omega)),mS rfl rfl rfl rfl rfl (mT q (by omega))⟩;conv=>whnf))
    exact⟨(P++[nh x P.length],I++[([97+q],(nh x P.length).1,Ag (oi x))]),hq,⟨dt,⟨by show(P++[nh x P.length]).length<=q+1;omega,by show(I++[([97+q],(nh x P.length).1,Ag (oi x))]).length=q+1;omega,λ_=>by show 0<(P++[nh x P.length]).length;omega⟩⟩,sb [(64,64),(65,65),(66,66),(67,72),(68,75)]⟩
   .have k3:aU x.2.1=false:=k3;have hP:sD P x=P:=(by unfold sD;rw [k2];show(match aU x.2.1 with|true=>_|false=>_)=_;rw [k3]);have hp0:0<P.length:=by
     rcases Nat.eq_zero_or_pos P.length with h|h
     .rw [h]at k2;cases k2
     .exact h
    have hp:P.length - 1<P.length:=(by omega);rw [hP,aam P hp]at dt;have GC:ah .i64 (Int.sub (P.length:Int) 1)=((P.length - 1:Nat):Int):=by
     show ah .i64 ((P.length:Int) - 1)=_;rw [az (by omega) (by omega)];omega
    have hIl:I.length+1=(I++[([97+q],P[P.length - 1].1,Ag (oi x))]).length:=(by rw [List.length_append];rfl);have hIa:=ja.wg I ([97+q],P[P.length - 1].1,Ag (oi x));refine aC ?_;refine⟨.str [97+q],mS rfl rfl rfl rfl rfl (mT q (by omega)),aC ?_⟩;refine aG.go (P.length - 1) GC hp (aC ?_);refine⟨_,cO.Ii (P:=prog) (t:=9) (v:= .str P[P.length - 1].1) (k:=0) hp rfl rfl,aC ?_⟩;refine cg tLo 2 ET x hx (aB ?_);repeat(first|(refine nw ?_;conv=>whnf)|(refine nw ?_ ⟨_,cO.Ii (P:=prog) (t:=9) (v:= .str P[P.length - 1].1) (k:=0) hp rfl rfl,cO.Ii (P:=prog) (t:=9) (v:= .str P[P.length - 1].1) (k:=0) hp rfl rfl⟩;conv=>whnf)|(refine nw ?_ ⟨_,mS rfl rfl rfl rfl rfl (mT q (by omega)),mS rfl rfl rfl rfl rfl (mT q (by omega))⟩;conv=>whnf))
    refine⟨_,rfl,aB ?_⟩;refine⟨ja.ap (xs:=I) (q:=I.length) rfl (by omega),aB ?_⟩;repeat(first|(refine nw ?_;conv=>whnf)|(refine nw ?_ ⟨_,cO.Ii (P:=prog) (t:=9) (v:= .str P[P.length - 1].1) (k:=0) hp rfl rfl,cO.Ii (P:=prog) (t:=9) (v:= .str P[P.length - 1].1) (k:=0) hp rfl rfl⟩;conv=>whnf)|(refine nw ?_ ⟨_,mS rfl rfl rfl rfl rfl (mT q (by omega)),mS rfl rfl rfl rfl rfl (mT q (by omega))⟩;conv=>whnf))
    exact⟨(P,I++[([97+q],P[P.length - 1].1,Ag (oi x))]),hq,⟨dt,⟨Nat.le_succ_of_le kL,by show(I++[([97+q],P[P.length - 1].1,Ag (oi x))]).length=q+1;omega,λ_=>hp0⟩⟩,sb [(64,64),(65,65),(66,66),(67,67),(68,72)]⟩
 .obtain rfl:=ou hq k1;rw [List.drop_length]at dt;have dt:(P,I)=W:=dt;rw [<-dt];refine aC ?_;exact .agg (.cons (cO.gk rfl rfl rfl) (.cons (ja.gk rfl rfl rfl) .nil))
end
section
attribute [local irreducible] Cw aj bE PF Sub
section
attribute [local instance] fe
def bt (b q:Nat):Bool:=bG (Int.ofNat (Nat.land (Nat.div b (Nat.pow 2 (Nat.min q 8))) 1)) 1
def fj (n b:Nat):List Int:=((List.range n).filter (bt b)).map λi:Nat=>(i:Int)
theorem Ar (b q:Nat):fj (q+1) b=fj q b++(match bt b q with|true=>[(q:Int)]|false=>[]):=by
 unfold fj;rw [List.range_succ,List.filter_append,List.map_append];cases h:bt b q with
 |true=>rw [List.filter_cons_of_pos h];rfl|false=>rw [List.filter_cons_of_neg (by rw [h];exact Bool.false_ne_true)];rfl
theorem yl (b:Nat):∀q,(fj q b).length<=q
 |0=>Nat.le_refl 0|q+1=>by
  rw [Ar,List.length_append];have:=yl b q;cases bt b q with
  |true=>exact Nat.succ_le_succ this|false=>exact Nat.le_succ_of_le this
theorem VS (n:Nat) (b:Nat) (hb:b<=255) (hn:n<=1000):dA 10 (.cons (.int .i64 (n:Int)) (.cons (.int .u8 (b:Int)) .nil)) (aS.list.v (fj n b)):=by
 refine PF.go af ae [] (fn:=f10) rfl rfl rfl λB0 hc=>?_;obtain⟨F,hF⟩:∃F:Nat ->List Int,∀q,F q=fj q b:=⟨_,λ_=>rfl⟩
 have hF0:F 0=[]:=hF 0;rw [<-hF n];conv=>whnf
 refine Cw.lp (σ:=Unit) af rfl rfl hc n (λq _=>[(0,.int .i64 (n:Int)),(1,.int .u8 (b:Int)),(5,.gs (pathOf 64) (F q).length 1),(6,.int .i64 (q:Int))])
  (λq _=>hp [(64,.gl (aS.l (F q)) false)] 65) (λ_ _=>True) () aA ?_ (λq _ hq _=>?_)
 .rw [hF0];exact sb [(64,0)]
 conv=>whnf
 refine an (λk1=>?_) (λk1=>?_)
 .have hq:=mY k1;have bM:=mX hq (by omega);have hFl:(F q).length<=q:=by rw [hF];exact yl b q
  have hft:fits .u8 (Int.ofNat (Nat.div b (Nat.pow 2 (Nat.min q 8))))=true:=bC.2 (show b/2 ^ (Nat.min q 8)<256 by
   have:=Nat.div_le_self b (2 ^ (Nat.min q 8));omega)
  refine aC ?_;refine⟨⟨Int.natCast_nonneg _,Int.natCast_nonneg _⟩,aC ?_⟩;refine⟨⟨Int.natCast_nonneg _,hft,by decide,by decide⟩,aC ?_⟩;refine an (λk2=>?_) (λk2=>?_)
  .have k2:bt b q=true:=k2;have Qe:F (q+1)=F q++[(q:Int)]:=(by rw [hF,hF,Ar,k2]);have hl1:(F q).length+1=(F (q+1)).length:=(by rw [Qe,List.length_append];rfl);have Kz:=aS.wg (F q) (q:Int);rw [<-Qe]at Kz;refine aC ?_;refine⟨_,rfl,aB ?_⟩;refine⟨aS.ap (xs:=F q) (q:=(F q).length) rfl (by omega),aC ?_⟩;exact⟨(),hq,aA,sb [(64,66)]⟩
  .have k2:bt b q=false:=k2;have Qe:F (q+1)=F q:=(by rw [hF,hF,Ar,k2];exact List.append_nil _);have hl1:(F q).length=(F (q+1)).length:=(by rw [Qe]);have Kz:aS.l (F q)=aS.l (F (q+1)):=(by rw [Qe]);refine aC ?_;exact⟨(),hq,aA,sb [(64,64)]⟩
 .obtain rfl:=ou hq k1;refine aC ?_;exact aS.gk rfl rfl rfl
def rG:Cn prog:=Cn.mk 10 false (Nat×Nat) (λx=> .cons (.int .i64 (x.1:Int)) (.cons (.int .u8 (x.2:Int)) .nil)) (λx=>aS.list.v (fj x.1 x.2)) (λx=>x.2<=255/\x.1<=1000)
 (λa b _ _ h=>by
  obtain⟨a1,a2⟩:=a;obtain⟨b1,b2⟩:=b;injection h with h1 h;injection h with h2 _;injection h1 with _ h1;injection h2 with _ h2;have e1:a1=b1:=Int.ofNat_inj.1 h1;have e2:a2=b2:=Int.ofNat_inj.1 h2;rw [e1,e2]) (λx=>⟨aA,aA,aA⟩) (λx=>aS.list.ak _) (λh=>Bool.noConfusion h) (λx h=>VS x.1 x.2 h.1 h.2) (au rfl rfl)
def wJ (b:Int):Int:=match bG (Int.tmod b 2) 0 with|true=>1|false=>2
theorem ae0 (b:Int):dA 9 (.cons (ZH.v b) .nil) (aS.v (wJ b)):=by
 refine PF.go af ae [] (fn:=f9) rfl rfl rfl λB0 hc=>?_;unfold wJ;conv=>whnf
 repeat(first|(refine nw ?_ (by decide);conv=>whnf)|(refine nw ?_;conv=>whnf))
 refine an (λk=>?_) (λk=>?_);all_goals
  rw [show bG (Int.tmod b 2) 0=_ from k];refine aC ?_;exact aj.same rfl .int
def VT:Cn prog:= .lE ZH aS 9 true (λ_=>True) wJ (cM _) (λb _=>ae0 b) (au rfl rfl)
def ahv:List (Cn prog):=[rn]
def om (n:I3):V3:=(wI n.1,wI n.2.1,wI n.2.2)
def wK (n:I3):Prop:=I8 n.1/\I8 n.2.1/\I8 n.2.2
theorem VU {n:Int} (h:I8 n):wI n=n:=by
 obtain⟨h1,h2⟩:=h;unfold wI;rw [az (by omega) (by omega)]
theorem aao {n:I3} (h:wK n):Ay (om n).1/\Ay (om n).2.1/\Ay (om n).2.2:=by
 obtain⟨h1,h2,h3⟩:=h;show Ay (wI n.1)/\Ay (wI n.2.1)/\Ay (wI n.2.2);rw [VU h1,VU h2,VU h3];obtain⟨a1,a2⟩:=h1;obtain⟨b1,b2⟩:=h2;obtain⟨c1,c2⟩:=h3;exact⟨⟨by omega,by omega⟩,⟨by omega,by omega⟩,⟨by omega,by omega⟩⟩
theorem ahw (n:I3) (h:wK n):dA 46 (.cons (HQ.v n) .nil) (aN.v (fJ (om n))):=by
 refine PF.go af ae ahv (fn:=f46) rfl rfl rfl λB0 hc=>?_;refine aC ?_;refine cg ahv 0 rn (om n) (aao h) (aC ?_) (hl:=List.nodup_cons.2 ⟨List.not_mem_nil,List.nodup_nil⟩);exact aj.same rfl (aN.ak (fJ (om n)))
def VV:Cn prog:= .lE HQ aN 46 false wK (λn=>fJ (om n)) (λe=>by cases e) ahw (au rfl rfl)
theorem ahx (n:I3) (h:wK n):dA 18 (.cons (HQ.v n) .nil) (aN.v (fJ (om n))):=by
 refine PF.go af ae [VV] (fn:=f18) rfl rfl rfl λB0 hc=>?_;conv=>whnf
 refine cg [VV] 0 VV n h (aC ?_) (hl:=List.nodup_cons.2 ⟨List.not_mem_nil,List.nodup_nil⟩);exact aj.same rfl (aN.ak (fJ (om n)))
def abO:Cn prog:= .lE HQ aN 18 false wK (λn=>fJ (om n)) (λe=>by cases e) ahx (au rfl rfl)
def aap:List (Cn prog):=[abO,lv,rn]
def EU (n:I3):Q3:=match aU (bG (kh (fJ (om n))) 0)with|true=>fJ (0,0,1)|false=>aP (fJ (om n))
theorem ahy (n:I3) (h:wK n/\jl (fJ (om n))):dA 7 (.cons (HQ.v n) .nil) (aN.v (EU n)):=by
 refine PF.go af ae aap (fn:=f7) rfl rfl rfl λB0 hc=>?_;unfold EU;conv=>whnf
 refine cg aap 0 abO n h.1 (aC ?_);refine cg aap 1 lv (fJ (om n)) h.2 (aC ?_);refine an (λk=>?_) (λk=>?_)
 .rw [show aU (bG (kh (fJ (om n))) 0)=true from k];refine aC ?_;refine cg aap 2 rn ((0,0,1):V3) ⟨⟨by decide,by decide⟩,⟨by decide,by decide⟩,⟨by decide,by decide⟩⟩ (aC ?_);exact aj.same rfl (aN.ak (fJ (0,0,1)))
 .rw [show aU (bG (kh (fJ (om n))) 0)=false from k];refine aC ?_;exact aj.same rfl (aN.ak _)
def abP:Cn prog:= .lE HQ aN 7 false (λn=>wK n/\jl (fJ (om n))) EU (λe=>by cases e) ahy (au rfl rfl)
end
end
section
attribute [local irreducible] Cw aj bE PF Sub
attribute [local instance] bJ
def xJ (l:List sk):AV:= .agg (.cons (uu.list.v l) .nil)
theorem nP (l:List sk):DP (xJ l):=⟨uu.list.eK l,aA⟩
def VW:List sk ->Bool
 |[]=>true|x::l=>match dj 3 (x.1.2.length:Int)with|true=>false|false=>VW l
def uv (l:List sk):Bool:=match VW l with|true=>gg (l.length:Int) 4|false=>false
theorem aaq (l:List sk) (hl:l.length<=9223372036854775807):PF prog 5 (.cons (xJ l) .nil) (.bool (uv l)):=by
 refine PF.go af ae [] (fn:=f5) rfl rfl rfl (hpure:= .cons (aV (nP l)) .nil) λB0 hc=>?_;unfold uv;obtain⟨W,hW⟩:∃W,W=VW l:=⟨_,rfl⟩
 rw [<-hW];conv=>whnf
 refine Cw.lp (σ:=Unit) af rfl rfl hc l.length (λq _=>[(1,.ptr (pathOf 64) 0),(3,.int .i64 (q:Int))]) (λq _=>hp [(64,cl [uu.list.v l])] 65) (λq _=>VW (l.drop q)=W) () hW.symm (sb [(64,64)]) (λq _ hq hs=>?_);conv=>whnf
 refine an (λk1=>?_) (λk1=>?_)
 .have hq:=mY k1;have bM:ah .i64 (Int.add (q:Int) 1)=((q+1:Nat):Int):=by
   show ah .i64 ((q:Int)+1)=_;rw [az (by omega) (by omega)];omega
  rw [List.drop_eq_getElem_cons hq]at hs;have hs:(match dj 3 (l[q].1.2.length:Int)with|true=>false|false=>VW (l.drop (q+1)))=W:=hs;refine aC ?_;refine aG.go q rfl hq (aC ?_);refine⟨_,uu.Ii (t:=54) (v:=mV.list.v l[q].1.2) (k:=1) hq rfl rfl,aC ?_⟩;refine an (λk2=>?_) (λk2=>?_)
  .have k2:dj 3 (l[q].1.2.length:Int)=true:=k2;rw [k2]at hs;have hs:false=W:=hs;rw [<-hs];refine aC ?_;exact aj.pure .bool
  .have k2:dj 3 (l[q].1.2.length:Int)=false:=k2;rw [k2]at hs;refine aC ?_;exact⟨(),hq,hs,sb [(64,64)]⟩
 .obtain rfl:=ou hq k1;rw [List.drop_length]at hs;have hs:true=W:=hs;rw [<-hs];refine aC ?_;exact aj.pure .bool
def wL (a:jg):AV:=match aU (bG ((sB a).e (tg a)) 0)with
 |true=> .aO (.cons .eZ (.cons (bc.list.v (dv a)) (.cons (.bool false) .nil)))|false=> .aO (.cons (Al (dv a)) (.cons (bc.list.v (dv a)) (.cons (.bool (dj 0 ((dv a).length:Int))) .nil)))
def ahz (wv:AV) (hw:DP wv) (a:jg) (hl:PF prog 14 (.cons wv .nil) (eF.v a)):Cn prog:=⟨14,false,Unit,λ_=> .cons wv .nil,λ_=>eF.v a,λ_=>True,λ_ _ _ _ _=>rfl,λ_=>⟨hw,aA⟩,λ_=>eF.ak _,λh=>Bool.noConfusion h,λ_ _=>hl,au rfl rfl⟩
theorem aar (l:List sk) (a:jg) (h:HJ a) (hmk:PF prog 14 (.cons (xJ l) .nil) (eF.v a)):PF prog 6 (.cons (xJ l) .nil) (wL a):=by
 obtain⟨T,hT⟩:∃T,T=[ahz _ (nP l) a hmk,KV,mQ]:=⟨_,rfl⟩
 have iP:(T.map Cn.f).Nodup:=by rw [hT];show [14,15,16].Nodup;decide
 refine PF.go af ae T (fn:=f6) rfl rfl rfl (hpure:= .cons (aV (nP l)) .nil) λB0 hc=>?_;conv=>whnf
 refine cg T 0 (ahz _ (nP l) a hmk) () aA (aC ?_) (hl:=iP) (hc:=by rw [hT];rfl);cases k:aU (bG ((sB a).e (tg a)) 0)with
 |true=>
  have e1:EL a= .aO (.cons .eZ (.cons (.int .i64 ((sB a).e (tg a))) .nil)):=by unfold EL;rw [k]
  have e2:wL a= .aO (.cons .eZ (.cons (bc.list.v (dv a)) (.cons (.bool false) .nil))):=by unfold wL;rw [k]
  rw [e2];refine ch (l:=T) iP 1 (c:=KV) (by rw [hT];rfl) a h (v:= .aO (.cons .eZ (.cons (.int .i64 ((sB a).e (tg a))) .nil))) e1 (hk:=?_);refine aC ?_;refine cg T 2 mQ a h.pl (aC ?_) (hl:=iP) (hc:=by rw [hT];rfl);have hz:bG ((sB a).e (tg a)) 0=false:=by
   cases hb:bG ((sB a).e (tg a)) 0 with
   |false=>rfl|true=>rw [hb]at k;cases k
  refine an (λk2=>?_) (λk2=>?_)
  .have k2:bG ((sB a).e (tg a)) 0=true:=k2;rw [hz]at k2;cases k2
  .refine aC ?_;exact aj.pure (.aO (.cons .eZ (.cons (bc.list.ak _) (.cons .bool .nil))))
 |false=>
  have hz:=OP.e0 k;have e1:EL a= .aO (.cons (Al (dv a)) (.cons (.int .i64 0) .nil)):=by unfold EL;rw [k]
  have e2:wL a= .aO (.cons (Al (dv a)) (.cons (bc.list.v (dv a)) (.cons (.bool (dj 0 ((dv a).length:Int))) .nil))):=by unfold wL;rw [k]
  rw [e2];refine ch (l:=T) iP 1 (c:=KV) (by rw [hT];rfl) a h (v:= .aO (.cons (Al (dv a)) (.cons (.int .i64 0) .nil))) e1 (hk:=?_);refine aC ?_;refine ch (l:=T) iP 2 (c:=mQ) (by rw [hT];rfl) a h.pl (v:= .aO (.cons (bc.list.v (dv a)) (.cons (aS.v 0) .nil))) (by show AV.aO (.cons (bc.list.v (dv a)) (.cons (aS.v (tg a)) .nil))=_;rw [hz]) (hk:=?_);refine aC ?_;exact aj.pure (.aO (.cons (aV (mR _)) (.cons (bc.list.ak _) (.cons .bool .nil))))
abbrev MvX:=List fi×List Int×List Int×lz×Int
def HU:Cn prog:=Cn.mk 11 true MvX (λx=> .cons (Al x.1) (.cons (aS.list.v x.2.1) (.cons (aS.list.v x.2.2.1) (.cons x.2.2.2.1.s (.cons (aS.v x.2.2.2.2) .nil))))) (λx=> .aO (.cons (bj.v (pW x.1 x.2.1 x.2.2.1 x.2.2.2.1.q x.2.2.2.2)) (.cons (aS.v 0) .nil))) (λx=>Ao x.1 x.2.1 x.2.2.1 x.2.2.2.1 x.2.2.2.2)
 (λa b ha hb h=>by
  injection h with h1 h;injection h with h2 h;injection h with h3 h;injection h with h4 h;injection h with h5 _;rw [EJ h1,aS.list.aZ h2,aS.list.aZ h3,lz.Hu ha.ask.d.ok hb.ask.d.ok h4,aS.aZ h5]) (λx=>⟨mR _,aS.list.eK _,aS.list.eK _,⟨aR.eK _,aR.eK _,aR.eK _,aA⟩,aA,aA⟩)
 (λx=> .aO (.cons .bool (.cons .int .nil))) (λ_ _=>λ_ _ _ h=>h) (λx h=>ahs x.1 x.2.1 x.2.2.1 x.2.2.2.1 x.2.2.2.2 h) (au rfl rfl)
def VX (hK:PF prog 4 .nil (.bool true)):Cn prog:=⟨4,true,Unit,λ_=> .nil,λ_=> .bool true,λ_=>True,λ_ _ _ _ _=>rfl,λ_=>trivial,λ_=> .bool,λ_ _=>λ_ _ _ h=>h,λ_ _=>hK,au rfl rfl⟩
def aas (l:List sk) (hl:l.length<=9223372036854775807):Cn prog:=⟨5,true,Unit,λ_=> .cons (xJ l) .nil,λ_=> .bool (uv l),λ_=>True,λ_ _ _ _ _=>rfl,λ_=>⟨nP l,aA⟩,λ_=> .bool,λ_ _=>λ_ _ _ h=>h,λ_ _=>aaq l hl,au rfl rfl⟩
theorem aat (a:jg):cL (wL a):=by
 unfold wL;split
 .exact .aO (.cons .eZ (.cons (bc.list.ak _) (.cons .bool .nil)))
 .exact .aO (.cons (aV (mR _)) (.cons (bc.list.ak _) (.cons .bool .nil)))
def ae1 (l:List sk) (a:jg) (hs:PF prog 6 (.cons (xJ l) .nil) (wL a)):Cn prog:=⟨6,false,Unit,λ_=> .cons (xJ l) .nil,λ_=>wL a,λ_=>True,λ_ _ _ _ _=>rfl,λ_=>⟨nP l,aA⟩,λ_=>aat a,λh=>Bool.noConfusion h,λ_ _=>hs,au rfl rfl⟩
def aau (A B:Nat) (k:Int) (n:I3):AV:= .agg (.cons (.int .u8 (A:Int)) (.cons (.int .u8 (B:Int)) (.cons (ZH.v k) (HQ.c n .nil))))
theorem NT (A B:Nat) (k:Int) (n:I3):DP (aau A B k n):=⟨aA,aA,aA,aA,aA,aA,aA⟩
theorem Le (hK:PF prog 4 .nil (.bool true)) (l:List sk) (hl:l.length<=9223372036854775807) (hs:uv l=false) (A B M:Nat) (k:Int) (n:I3):PF prog 3 (.cons (xJ l) (.cons (aau A B k n) (.cons (.int .u8 (M:Int)) .nil))) (.bool true):=by
 obtain⟨T,hT⟩:∃T,T=[VX hK,aas l hl]:=⟨_,rfl⟩
 have iP:(T.map Cn.f).Nodup:=by rw [hT];show [4,5].Nodup;decide
 refine PF.go af ae T (fn:=f3) rfl rfl rfl (hpure:= .cons (aV (nP l)) (.cons (aV (NT A B k n)) (.cons .int .nil))) λB0 hc=>?_;conv=>whnf
 refine cg T 0 (VX hK) () aA (aC ?_) (hl:=iP) (hc:=by rw [hT];rfl);refine ch (l:=T) iP 1 (c:=aas l hl) (by rw [hT];rfl) () trivial (v:= .bool false) (congrArg AV.bool hs) (hk:=?_);refine aC ?_;refine cg T 0 (VX hK) () aA (aC ?_) (hl:=iP) (hc:=by rw [hT];rfl);exact aj.pure .bool
structure aj2 (l:List sk) (n:I3) (a:jg) (y:lz):Prop where
 hmk:PF prog 14 (.cons (xJ l) .nil) (eF.v a)
 sd:HJ a
 n8:(dv a).length<=1000
 d1:wK n/\jl (fJ (om n))
 d2:qc (EU n)
 d3:iE.v (jz (EU n))=y.s
 dr:EK y
theorem ahA {x:Nat} (h:x<=255):fits .u8 (x:Int)=true:=bC.2 (Nat.lt_succ_of_le h)
def bN (a b:Nat):Nat:=Nat.land a b
structure abQ (S:List fi) (y:lz) (s m:List Int):Prop where
 k1:Ao S s m y 1
 k2:Ao S s m y 2
theorem ahB (hK:PF prog 4 .nil (.bool true)) (l:List sk) (hl:l.length<=9223372036854775807) (hs:uv l=true) (A B M:Nat) (hA:A<=255) (hB:B<=255) (hM:M<=255) (k:Int) (n:I3) (a:jg) (y:lz) (H:aj2 l n a y)
  (hm:∀A',A'<=255 ->fj (dv a).length (bN A' M)≠[] ->(fj (dv a).length (bN A' M)).length≠(fj (dv a).length A').length ->abQ (dv a) y (fj (dv a).length A') (fj (dv a).length (bN A' M)))
  (p1:∀k,pW (dv a) (fj (dv a).length A) (fj (dv a).length (bN A M)) y.q k=true ->pW (dv a) (fj (dv a).length (bN A B)) (fj (dv a).length (bN (bN A B) M)) y.q k=true)
  (p2:pW (dv a) (fj (dv a).length A) (fj (dv a).length (bN A M)) y.q 1=true ->pW (dv a) (fj (dv a).length A) (fj (dv a).length (bN A M)) y.q 2=true):
  PF prog 3 (.cons (xJ l) (.cons (aau A B k n) (.cons (.int .u8 (M:Int)) .nil))) (.bool true):=by
 obtain⟨hmk,hsd,h8,PN,QO,hd3,hdr⟩:=H;have hsc:=aar l a hsd hmk;have hAM:bN A M<=255:=Nat.le_trans Nat.and_le_left hA;have hAB:bN A B<=255:=Nat.le_trans Nat.and_le_left hA;have aj3:bN (bN A B) M<=255:=Nat.le_trans Nat.and_le_left hAB;obtain⟨T,hT⟩:∃T,T=[VX hK,aas l hl,ae1 l a hsc,Cn.lift bJ abP,nI,Cn.lift bJ VT,Cn.lift bJ rG,HU]:=⟨_,rfl⟩
 have iP:(T.map Cn.f).Nodup:=by rw [hT];show [4,5,6,7,8,9,10,11].Nodup;decide
 refine PF.go af ae T (fn:=f3) rfl rfl rfl (hpure:= .cons (aV (nP l)) (.cons (aV (NT A B k n)) (.cons .int .nil))) λB0 hc=>?_;conv=>whnf
 refine cg T 0 (VX hK) () aA (aC ?_) (hl:=iP) (hc:=by rw [hT];rfl);refine ch (l:=T) iP 1 (c:=aas l hl) (by rw [hT];rfl) () trivial (v:= .bool true) (congrArg AV.bool hs) (hk:=?_);refine aC ?_;cases kb:aU (bG ((sB a).e (tg a)) 0)with
 |true=>
  have e2:wL a= .aO (.cons .eZ (.cons (bc.list.v (dv a)) (.cons (.bool false) .nil))):=by unfold wL;rw [kb]
  refine ch (l:=T) iP 2 (c:=ae1 l a hsc) (by rw [hT];rfl) () trivial (v:= .aO (.cons .eZ (.cons (bc.list.v (dv a)) (.cons (.bool false) .nil)))) e2 (hk:=?_);refine aC ?_;exact aj.pure .bool
 |false=>
  have e2:wL a= .aO (.cons (Al (dv a)) (.cons (bc.list.v (dv a)) (.cons (.bool (dj 0 ((dv a).length:Int))) .nil))):=by unfold wL;rw [kb]
  refine ch (l:=T) iP 2 (c:=ae1 l a hsc) (by rw [hT];rfl) () trivial (v:= .aO (.cons (Al (dv a)) (.cons (bc.list.v (dv a)) (.cons (.bool (dj 0 ((dv a).length:Int))) .nil)))) e2 (hk:=?_);generalize dv a=S at*;refine aC ?_;refine an (λk1=>?_) (λk1=>?_)
  .refine aC ?_;exact aj.pure .bool
  refine aC ?_;refine cg T 3 (Cn.lift bJ abP) n PN (aC ?_) (hl:=iP) (hc:=by rw [hT];rfl);refine ch (l:=T) iP 4 (c:=nI) (by rw [hT];rfl) (EU n) QO (v:=y.s) hd3 (hk:=?_);refine aC ?_;refine cg T 5 (Cn.lift bJ VT) k aA (aC ?_) (hl:=iP) (hc:=by rw [hT];rfl);repeat(first|(refine nw ?_;conv=>whnf)|(refine⟨⟨Int.natCast_nonneg _,ahA (by assumption),Int.natCast_nonneg _,ahA (by assumption)⟩,?_⟩;conv=>whnf)|(refine cg T 6 (Cn.lift bJ rG) (S.length,A) ⟨hA,h8⟩ ?_ (hl:=iP) (hc:=by rw [hT];rfl);conv=>whnf)|(refine cg T 6 (Cn.lift bJ rG) (S.length,bN A M) ⟨hAM,h8⟩ ?_ (hl:=iP) (hc:=by rw [hT];rfl);conv=>whnf)|(refine cg T 6 (Cn.lift bJ rG) (S.length,bN A B) ⟨hAB,h8⟩ ?_ (hl:=iP) (hc:=by rw [hT];rfl);conv=>whnf)|(refine cg T 6 (Cn.lift bJ rG) (S.length,bN (bN A B) M) ⟨aj3,h8⟩ ?_ (hl:=iP) (hc:=by rw [hT];rfl);conv=>whnf))
  refine an (λk2=>?_) (λk2=>?_)
  .refine aC ?_;exact aj.pure .bool
  have k2:bG ((fj S.length (bN A M)).length:Int) 0=false:=k2;refine aC ?_;refine an (λk3=>?_) (λk3=>?_)
  .refine aC ?_;exact aj.pure .bool
  have k3:bG ((fj S.length (bN A M)).length:Int) ((fj S.length A).length:Int)=false:=k3;refine aC ?_;refine an (λk4=>?_) (λk4=>?_)
  .refine aC ?_;exact aj.pure .bool
  have k4:bG ((fj S.length (bN (bN A B) M)).length:Int) 0=false:=k4;refine aC ?_;refine an (λk5=>?_) (λk5=>?_)
  .refine aC ?_;exact aj.pure .bool
  have k5:bG ((fj S.length (bN (bN A B) M)).length:Int) ((fj S.length (bN A B)).length:Int)=false:=k5;refine aC ?_;have ne1:∀{L:List Int},bG (L.length:Int) 0=false ->L≠[]:=λh e=>by rw [e]at h;cases h
  have ne2:∀{L K:List Int},bG (L.length:Int) (K.length:Int)=false ->L.length≠K.length:=λh e=>by rw [e,bw.2 rfl]at h;cases h
  have m1:=hm A hA (ne1 k2) (ne2 k3);have m2:=hm (bN A B) hAB (ne1 k4) (ne2 k5);have hk:wJ k=1\/wJ k=2:=by unfold wJ;split<;>simp
  have m1k:Ao S (fj S.length A) (fj S.length (bN A M)) y (wJ k):=by
   rcases hk with h|h
   .rw [h];exact m1.k1
   .rw [h];exact m1.k2
  have m2k:Ao S (fj S.length (bN A B)) (fj S.length (bN (bN A B) M)) y (wJ k):=by
   rcases hk with h|h
   .rw [h];exact m2.k1
   .rw [h];exact m2.k2
  have q1:=p1 (wJ k);refine cg T 7 HU (S,fj S.length A,fj S.length (bN A M),y,wJ k) m1k (aC ?_) (hl:=iP) (hc:=by rw [hT];rfl);refine cg T 7 HU (S,fj S.length (bN A B),fj S.length (bN (bN A B) M),y,wJ k) m2k (aC ?_) (hl:=iP) (hc:=by rw [hT];rfl);refine cg T 7 HU (S,fj S.length A,fj S.length (bN A M),y,1) m1.k1 (aC ?_) (hl:=iP) (hc:=by rw [hT];rfl);refine cg T 7 HU (S,fj S.length A,fj S.length (bN A M),y,2) m1.k2 (aC ?_) (hl:=iP) (hc:=by rw [hT];rfl);have bn:∀{b:Bool},aU b=false ->b=true:=λ{b} h=>by cases b<;>first|rfl|cases h
  refine an (λk6=>?_) (λk6=>?_);rotate_left
  .have b1:pW S (fj S.length A) (fj S.length (bN A M)) y.q (wJ k)=true:=bn k6;have b2:=q1 b1;refine aC ?_;refine an (λk7=>?_) (λk7=>?_);rotate_left
   .rw [show pW S (fj S.length (bN A B)) (fj S.length (bN (bN A B) M)) y.q (wJ k)=false from k7]at b2;cases b2
   refine aC ?_;refine an (λk8=>?_) (λk8=>?_)
   .refine aC ?_;exact aj.pure .bool
   .have b3:=p2 (bn k8);refine aC ?_;show aj _ (AV.bool (pW S (fj S.length A) (fj S.length (bN A M)) y.q 2)) _;rw [b3];exact aj.pure .bool
  .refine aC ?_;refine an (λk8=>?_) (λk8=>?_)
   .refine aC ?_;exact aj.pure .bool
   .have b3:=p2 (bn k8);refine aC ?_;show aj _ (AV.bool (pW S (fj S.length A) (fj S.length (bN A M)) y.q 2)) _;rw [b3];exact aj.pure .bool
end
section
def GW (S:List fi):Prop:=S.length<=1000/\∀a∈S,a.2.length<=1000/\∀x∈a.2,GS x
variable {s s':cW} {d:Q3} {a b:fi} {S:List fi} {y:lz} {n A B M:Nat} {k:Int}
theorem ahC:Bb b0:=λe=>by cases e
theorem VY (h:GS s) (h':GS s') (hd:Bv 8 2 d):Zv s s' d/\Bq 40000 40000 (uz s s' d).1/\Bq 40000 40000 (uz s s' d).2.1:=by
 have z0:Bq 40000 40000 ((0,0):Q):=⟨Bz.zero,Bz.zero⟩
 obtain⟨k1,k2⟩:=aad h h' hd (pS s s') b0 b0 (EO h h').2 ahC ahC;refine⟨⟨mK hd Ho (by decide) (by decide) (by decide) (by decide),(EO h h').1,λ_=>k1⟩,?_⟩;unfold uz;cases dP d with
 |true=>exact⟨z0,z0⟩|false=>
  show Bq _ _ (Cr (um s s' d (pS s s') b0 b0)).1/\Bq _ _ (Cr (um s s' d (pS s s') b0 b0)).2.1;generalize um s s' d (pS s s') b0 b0=o at k2;cases o with
  |none=>exact⟨z0,z0⟩|some x=>
   obtain⟨⟨f,f'⟩,⟨t,t'⟩⟩:=x;obtain⟨b1,b2⟩:=k2 _ rfl;cases f' with
   |false=>exact⟨z0,z0⟩|true=>
    cases t' with
    |false=>exact⟨z0,z0⟩|true=>
     show Bq _ _ (match gg 0 (Q.cmp f t)with|true=>((0,0),(0,0),false,0)|false=>(f,t,true,0):IvR).1/\Bq _ _ (match gg 0 (Q.cmp f t)with|true=>((0,0),(0,0),false,0)|false=>(f,t,true,0):IvR).2.1;cases gg 0 (Q.cmp f t)with
     |true=>exact⟨z0,z0⟩|false=>exact⟨b1 rfl,b2 rfl⟩
def SB (z:Az):Prop:=Bq 40000 40000 z.2.2.1/\Bq 40000 40000 z.2.2.2
theorem abR {P:Az ->Prop} {o p:OS} (h1:∀z,o=some z ->P z) (h2:∀z,p=some z ->P z):∀z,HK o p=some z ->P z:=λz hz=>by
 cases o with
 |none=>exact h2 z hz|some w=>exact h1 z hz
theorem ahD {loc:Bool} (h:GS s) (h':GS s') (hd:Bv 8 2 d) (i j:Nat):∀z,KT loc (EI s s' d i j)=some z ->SB z:=λz hz=>by
 obtain⟨_,b1,b2⟩:=VY h h' hd;have key:∀w,EI s s' d i j=some w ->SB w:=λw hw=>by
  unfold EI at hw;split at hw
  .split at hw
   .injection hw with hw;subst hw;exact⟨b1,b2⟩
   .cases hw
  .cases hw
 cases e:EI s s' d i j with
 |none=>rw [e]at hz;cases hz|some w=>
  rw [e]at hz;have hz:hit loc w=some z:=hz;unfold hit at hz;split at hz
  .injection hz with hz;exact hz ▸ key w e
  .cases hz
theorem Wa {loc:Bool} {x:cW} (hx:GS x) (hd:Bv 8 2 d) (i:Nat):∀(Y:List cW) (j:Nat),(∀y∈Y,GS y) ->∀z,sC loc d x i j Y=some z ->SB z
 |[],_,_=>λz hz=>by cases hz
 |y::Y,j,h=>abR (ahD hx (h y (List.mem_cons_self ..)) hd i j) (Wa hx hd i Y (j+1) λw hw=>h w (List.mem_cons_of_mem _ hw))
theorem Wb {loc:Bool} {Y:List cW} (hY:∀y∈Y,GS y) (hd:Bv 8 2 d):∀(X:List cW) (i:Nat),(∀x∈X,GS x) ->∀z,Bh loc d Y i X=some z ->SB z
 |[],_,_=>λz hz=>by cases hz
 |x::X,i,h=>abR (Wa (h x (List.mem_cons_self ..)) hd i Y 0 hY) (Wb hY hd X (i+1) λw hw=>h w (List.mem_cons_of_mem _ hw))
theorem ahE {z:Az} (h:SB z):abC z:=by
 have z0:Bq 40000 40000 ((0,0):Q):=⟨Bz.zero,Bz.zero⟩
 obtain⟨a1,a2⟩:=Q.rz 80000 (Vv h.1 z0).1 h.2 (by decide) (by decide) (by decide) (by decide) (by decide) (by decide);have t0:Bq 2 1 ((2,0):Q):=⟨by show 2<2 ^ 2;decide,Bz.zero⟩
 obtain⟨d1,d2⟩:=MQ a2 t0 (by decide) (by decide) (by decide) (by decide);exact⟨jV z0 h.1 (by decide) (by decide) (by decide) (by decide),a1,d1,xZ d2 (by decide) (by decide)⟩
theorem ahF (ha:a.2.length<=1000/\∀x∈a.2,GS x) (hb:b.2.length<=1000/\∀x∈b.2,GS x) (hd:Bv 8 2 d) (hz:dP d=false) (hk:k=1\/k=2):NF a b d k:=
 ⟨mK hd Ho (by decide) (by decide) (by decide) (by decide),hz,hk,⟨Nat.le_trans ha.1 (by decide),Nat.le_trans hb.1 (by decide),λx hx y hy=>(VY (ha.2 x hx) (hb.2 y hy) hd).1⟩,λz hs _=>ahE (Wb hb.2 hd a.2 0 ha.2 z hs)⟩
theorem ahG (h:EK y):Bv 8 2 y.q/\dP y.q=false:=by
 obtain⟨⟨⟨a1,a2,_⟩,⟨b1,b2,_⟩,⟨c1,c2,_⟩⟩,⟨w1,w2,w3⟩,hg⟩:=h;obtain⟨⟨a,a'⟩,⟨b,b'⟩,⟨c,c'⟩⟩:=y;have w1:a'=false:=w1;have w2:b'=false:=w2;have w3:c'=false:=w3;subst w1 w2 w3;have kb:∀{z:Int},-128<=z ->z<=127 ->Bq 8 2 ((z,0):Q):=λh1 h2=>⟨by show _<2 ^ 8;omega,Bz.zero⟩
 refine⟨⟨kb a1 a2,kb b1 b2,kb c1 c2⟩,?_⟩;cases e:dP (lz.q ((a,false),(b,false),(c,false)))with
 |false=>rfl|true=>
  exfalso;have hz:∀z:Int,Q.cmp (z,0) (0,0)=kD z 0:=λz=>by
   rw [nG];show kD (z*1) (0*1)=_;rw [Int.mul_one,Int.zero_mul]
  have hc:∀{z:Int},kD z 0=0 ->z=0:=λ{z} g=>by
   have g1:=(iD (a:=z) (b:=0)).1;have g2:=(iD (a:=z) (b:=0)).2.1;have g3:¬z<0:=λg4=>by have:=g1.2 g4;omega
   have g4:=g2.1 (by omega);omega
  have e:dH ((a,0),(b,0),(c,0)) z3=0:=bw.1 e;unfold dH at e;split at e
  .rename_i g;rw [bw.2 e]at g;cases g
  .rename_i g1;have g1:Q.cmp (a,0) (0,0)=0:=bw.1 g1;split at e
   .rename_i g;rw [bw.2 e]at g;cases g
   .rename_i g2;have g2:Q.cmp (b,0) (0,0)=0:=bw.1 g2;have e:Q.cmp (c,0) (0,0)=0:=e;rw [hz]at g1 g2 e;have a0:=hc g1;have b0:=hc g2;have c0:=hc e;subst a0 b0 c0;revert hg;decide
theorem Wc (b q:Nat):bt b q=b.testBit (min q 8):=by
 unfold bt;rw [Nat.testBit_eq_decide_div_mod_eq];have e:Nat.land (Nat.div b (Nat.pow 2 (Nat.min q 8))) 1=b/2 ^ min q 8 % 2:=Nat.and_one_is_mod _;rw [e];by_cases h:b/2 ^ min q 8 % 2=1
 .rw [h];rfl
 .rw [decide_eq_false h];cases g:bG (Int.ofNat (b/2 ^ min q 8 % 2)) 1 with
  |false=>rfl|true=>
   have:=bw.1 g;exact absurd (Int.ofNat.inj this) h
theorem uw (a b q:Nat):bt (bN a b) q=(bt a q &&bt b q):=by
 rw [Wc,Wc,Wc];exact Nat.testBit_and ..
theorem lU {i:Int}:i∈fj n A↔∃q:Nat,q<n/\i=(q:Int)/\bt A q=true:=by
 unfold fj;rw [List.mem_map];constructor
 .rintro ⟨q,hq,rfl⟩;obtain⟨h1,h2⟩:=List.mem_filter.1 hq;exact⟨q,List.mem_range.1 h1,rfl,h2⟩
 .rintro ⟨q,h1,rfl,h2⟩;exact⟨q,List.mem_filter.2 ⟨List.mem_range.2 h1,h2⟩,rfl⟩
theorem aav:∀q (hq:q+1<(fj n A).length),(fj n A)[q]<(fj n A)[q+1]:=by
 have h:(fj n A).Pairwise (·<·):=by
  unfold fj;refine List.pairwise_map.2 ?_;exact((List.pairwise_lt_range).filter _).imp λh=>by omega
 intro q hq;exact List.pairwise_iff_getElem.1 h q (q+1) (by omega) hq (by omega)
theorem NU (hn:n<=1000) (h:fj n A≠[]):NH n (fj n A):=by
 have hl:=yl A n;refine⟨List.length_pos_iff.2 h,by omega,λq hq=>?_,aav⟩;obtain⟨p,h1,h2,_⟩:=lU.1 (List.getElem_mem hq);rw [h2];omega
theorem EV {m:List Int} {i:Int}:VJ m i=true↔i ∉ m:=by
 unfold VJ;cases h:m.any λy=>bG i y with
 |true=>
  obtain⟨y,hy,e⟩:=List.any_eq_true.1 h;have e:=bw.1 e;subst e;exact⟨λk=>(by cases k),λk=>absurd hy k⟩
 |false=>
  refine⟨λ_ hi=>?_,λ_=>rfl⟩;have:=List.any_eq_false.1 h i hi;exact this (bw.2 rfl)
theorem EW {i:Int}:i∈ur (fj n A) (fj n (bN A M))↔∃q:Nat,q<n/\i=(q:Int)/\bt A q=true/\bt M q=false:=by
 unfold ur;rw [List.mem_filter,lU,EV];constructor
 .rintro ⟨⟨q,h1,rfl,h2⟩,h3⟩;refine⟨q,h1,rfl,h2,?_⟩;cases e:bt M q with
  |false=>rfl|true=>exact absurd (lU.2 ⟨q,h1,rfl,by rw [uw,h2,e];rfl⟩) h3
 .rintro ⟨q,h1,rfl,h2,h3⟩;refine⟨⟨q,h1,rfl,h2⟩,λg=>?_⟩;obtain⟨p,_,g1,g2⟩:=lU.1 g;have:p=q:=by omega
  subst this;rw [uw,h3,Bool.and_false]at g2;cases g2
theorem NV {α:Type} (f:α ->Bool):∀l:List α,(l.filter f).length+(l.filter λi=>!f i).length=l.length
 |[]=>rfl|x::l=>by
  have:=NV f l;cases e:f x with
  |true=>rw [List.filter_cons_of_pos e,List.filter_cons_of_neg (by rw [e];decide),List.length_cons,List.length_cons];omega|false=>rw [List.filter_cons_of_neg (by rw [e];decide),List.filter_cons_of_pos (by rw [e];rfl),List.length_cons,List.length_cons];omega
theorem aaw:(ur (fj n A) (fj n (bN A M))).length+(fj n (bN A M)).length=(fj n A).length:=by
 have e:(fj n A).filter (λi=>!VJ (fj n (bN A M)) i)=fj n (bN A M):=by
  unfold fj;rw [List.filter_map,List.filter_filter];congr 1;refine List.filter_congr λq hq=>?_;have hq:=List.mem_range.1 hq;show(!VJ (fj n (bN A M)) (q:Int) &&bt A q)=bt (bN A M) q;cases g:VJ (fj n (bN A M)) (q:Int)with
  |true=>
   have:=EV.1 g;cases g2:bt (bN A M) q with
   |false=>rfl|true=>exact absurd (lU.2 ⟨q,hq,rfl,g2⟩) this
  |false=>
   have:(q:Int)∈fj n (bN A M):=by
    refine Decidable.byContradiction λk=>?_;rw [EV.2 k]at g;cases g
   obtain⟨p,_,g1,g2⟩:=lU.1 this;have:p=q:=(by omega);subst this;rw [g2];rw [uw,Bool.and_eq_true]at g2;rw [g2.1];rfl
 have:=NV (VJ (fj n (bN A M))) (fj n A);rw [e]at this;unfold ur;omega
theorem abS (h:GW S) (hy:EK y) (hk:k=1\/k=2) (h1:fj S.length (bN A M)≠[]) (h2:(fj S.length (bN A M)).length≠(fj S.length A).length):Ao S (fj S.length A) (fj S.length (bN A M)) y k:=by
 have hn:=h.1;have hl:=aaw (n:=S.length) (A:=A) (M:=M);have l1:=yl A S.length;have hA:fj S.length A≠[]:=λe=>by
  rw [e]at hl;have:=List.length_pos_iff.2 h1;simp only [List.length_nil]at hl;omega
 obtain⟨d1,d2⟩:=ahG hy;refine⟨⟨hy,hk,show 2<=1000 by decide,λs hs=>?_⟩,by omega,hl,by show(fj S.length (bN A M)).length<=1000000;omega,by show(ur (fj S.length A) (fj S.length (bN A M))).length<=1000000;omega,λi hi j hj _=>?_⟩
 .rcases List.mem_cons.1 hs with rfl|hs
  .exact NU hn hA
  .rw [List.mem_singleton.1 hs];exact NU hn h1
 .obtain⟨p,p1,rfl,_⟩:=lU.1 hi;obtain⟨q,q1,rfl,_⟩:=EW.1 hj;exact⟨Int.natCast_nonneg _,Int.natCast_nonneg _,p1,q1,ahF (h.2 _ (List.getElem_mem _)) (h.2 _ (List.getElem_mem _)) d1 d2 hk⟩
theorem ahH (h:GW S) (hy:EK y) (h1:fj S.length (bN A M)≠[]) (h2:(fj S.length (bN A M)).length≠(fj S.length A).length):abQ S y (fj S.length A) (fj S.length (bN A M)):=
 ⟨abS h hy (.inl rfl) h1 h2,abS h hy (.inr rfl) h1 h2⟩
theorem NW {l:List fi} {s m:List Int} {v:Q3}:pW l s m v k=false↔∃i∈m,∃j∈ur s m,i≠j/\blk ⟨l,v,k,m,ur s m⟩ i j=true:=by
 unfold pW VF;have key:∀i j,(match aU (bG i j)with|true=>blk ⟨l,v,k,m,ur s m⟩ i j|false=>false)=true↔i≠j/\blk ⟨l,v,k,m,ur s m⟩ i j=true:=λi j=>by
  cases e:bG i j with
  |true=>exact⟨λh=>(by cases h),λh=>absurd (bw.1 e) h.1⟩|false=>exact⟨λh=>⟨λg=>(by rw [bw.2 g]at e;cases e),h⟩,λh=>h.2⟩
 have h0:∀b:Bool,aU b=false↔b=true:=λb=>by cases b<;>simp [aU]
 rw [h0,List.any_eq_true];constructor
 .rintro ⟨i,hi,h⟩;obtain⟨j,hj,g⟩:=List.any_eq_true.1 h;exact⟨i,hi,j,hj,(key i j).1 g⟩
 .rintro ⟨i,hi,j,hj,g⟩;exact⟨i,hi,List.any_eq_true.2 ⟨j,hj,(key i j).2 g⟩⟩
theorem aax {l:List fi} {v:Q3} (h:pW l (fj n A) (fj n (bN A M)) v k=true):pW l (fj n (bN A B)) (fj n (bN (bN A B) M)) v k=true:=by
 cases e:pW l (fj n (bN A B)) (fj n (bN (bN A B) M)) v k with
 |true=>rfl|false=>
  obtain⟨i,hi,j,hj,dE,hb⟩:=NW.1 e;obtain⟨p,p1,rfl,p2⟩:=lU.1 hi;obtain⟨q,q1,rfl,q2,q3⟩:=EW.1 hj;rw [uw,uw,Bool.and_eq_true,Bool.and_eq_true]at p2;rw [uw,Bool.and_eq_true]at q2;rw [NW.2 ⟨_,lU.2 ⟨p,p1,rfl,by rw [uw,p2.1.1,p2.2];rfl⟩,_,EW.2 ⟨q,q1,rfl,q2.1,q3⟩,dE,hb⟩]at h;cases h
theorem abT {o p:OS}:(HK o p).isSome=(o.isSome||p.isSome):=by cases o<;>rfl
theorem ahI {o:OS} (h:(KT true o).isSome=true):(KT false o).isSome=true:=by
 cases o with
 |none=>cases h|some z=>
  have h:(hit true z).isSome=true:=h;show(hit false z).isSome=true;have key:Vj true z=true ->Vj false z=true:=λe=>by
   have e:zQ z=true:=e;show YN z=true;unfold zQ at e;split at e
   .exact e
   .cases e
  unfold hit at*;cases e:Vj true z with
  |true=>rw [key e];rfl|false=>rw [e]at h;cases h
theorem Wd {x:cW} {i:Nat}:∀(Y:List cW) (j:Nat),(sC true d x i j Y).isSome=true ->(sC false d x i j Y).isSome=true
 |[],_,h=>by cases h
 |y::Y,j,h=>by
  have h:(HK (KT true (EI x y d i j)) (sC true d x i (j+1) Y)).isSome=true:=h;show(HK (KT false (EI x y d i j)) (sC false d x i (j+1) Y)).isSome=true;rw [abT,Bool.or_eq_true]at h ⊢;exact h.imp ahI (Wd Y (j+1))
theorem We {Y:List cW}:∀(X:List cW) (i:Nat),(Bh true d Y i X).isSome=true ->(Bh false d Y i X).isSome=true
 |[],_,h=>by cases h
 |x::X,i,h=>by
  have h:(HK (sC true d x i 0 Y) (Bh true d Y (i+1) X)).isSome=true:=h;show(HK (sC false d x i 0 Y) (Bh false d Y (i+1) X)).isSome=true;rw [abT,Bool.or_eq_true]at h ⊢;exact h.imp (Wd Y 0) (We X (i+1))
theorem abU {I:CC} {i j:Int}:blk I i j=(uq (kI (I.l.getD i.toNat QU) (I.l.getD j.toNat QU) I.v I.k)).isSome:=by
 unfold blk Vs Ak ahf;cases uq (kI (I.l.getD i.toNat QU) (I.l.getD j.toNat QU) I.v I.k)<;>rfl
theorem aay {l:List fi} {s m:List Int} {v:Q3} (h:pW l s m v 1=true):pW l s m v 2=true:=by
 cases e:pW l s m v 2 with
 |true=>rfl|false=>
  obtain⟨i,hi,j,hj,dE,hb⟩:=NW.1 e;rw [abU]at hb;rw [NW.2 ⟨i,hi,j,hj,dE,by rw [abU];exact We _ 0 hb⟩]at h;cases h
end
end
end Go.Sy
