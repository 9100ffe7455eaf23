/- A piece of the proof, made small by a program of ours. -/
import Derived.Test.YtilmgbneiikbiaaGreatDoorP19
set_option linter.all false
set_option maxRecDepth 1000000
set_option maxHeartbeats 0
namespace Go.Sy
noncomputable section
open Go.RowKit Go.Proofs Go.Proofs.Tryz
section
attribute [local irreducible] Cw ak bq PF Sub
attribute [local instance] fp
def xm (x s y:Int):Bool:=gD (aj .i64 (Int.add (aj .i64 (Int.add (aj .i64 (Int.tmod x 5)) 1)) (aj .i64 (Int.tmod s 3)))) (aj .i64 (Int.tmod y 5))
def IA (a b:Bk):Bool:=(match xm (b.2.1.1) (b.2.2.1) (a.2.1.1)with|true=>false|false=>(match xm (a.2.1.1) (a.2.2.1) (b.2.1.1)with|true=>false|false=>(match xm (b.2.1.2.1) (b.2.2.2.1) (a.2.1.2.1)with|true=>false|false=>(match xm (a.2.1.2.1) (a.2.2.2.1) (b.2.1.2.1)with|true=>false|false=>(match xm (b.2.1.2.2) (b.2.2.2.2) (a.2.1.2.2)with|true=>false|false=>(match xm (a.2.1.2.2) (a.2.2.2.2) (b.2.1.2.2)with|true=>false|false=>true))))))
theorem aha (a b:Bk):dQ 129 (.cons (mR.v a) (.cons (mR.v b) .nil)) (bG.v (IA a b)):=by
 refine PF.go af ae [] (fn:=f129) rfl rfl rfl λB0 hc=>?_;obtain⟨W,hW⟩:∃W,W=IA a b:=⟨_,rfl⟩
 rw [<-hW];unfold IA at hW;conv=>whnf
 repeat(first|(refine Cw.bH af rfl rfl hc 8 ?_;conv=>whnf)|(refine nw ?_ (by decide);conv=>whnf)|(refine nw ?_;conv=>whnf))
 refine ay (λk1=>?_) (λk1=>?_)
 .rw [show xm (b.2.1.1) (b.2.2.1) (a.2.1.1)=true from k1]at hW;have hW:W=false:=hW;rw [hW];conv=>whnf
  repeat(first|(refine Cw.bH af rfl rfl hc 8 ?_;conv=>whnf)|(refine nw ?_ (by decide);conv=>whnf)|(refine nw ?_;conv=>whnf))
  exact ak.same rfl .bool
 .rw [show xm (b.2.1.1) (b.2.2.1) (a.2.1.1)=false from k1]at hW;conv=>whnf
  repeat(first|(refine Cw.bH af rfl rfl hc 8 ?_;conv=>whnf)|(refine nw ?_ (by decide);conv=>whnf)|(refine nw ?_;conv=>whnf))
  refine ay (λk2=>?_) (λk2=>?_)
  .have k2:xm (a.2.1.1) (a.2.2.1) (b.2.1.1)=true:=k2;simp only [k2]at hW;have hW:W=false:=hW;rw [hW];conv=>whnf
   repeat(first|(refine Cw.bH af rfl rfl hc 8 ?_;conv=>whnf)|(refine nw ?_ (by decide);conv=>whnf)|(refine nw ?_;conv=>whnf))
   exact ak.same rfl .bool
  .have k2:xm (a.2.1.1) (a.2.2.1) (b.2.1.1)=false:=k2;simp only [k2]at hW;conv=>whnf
   repeat(first|(refine Cw.bH af rfl rfl hc 8 ?_;conv=>whnf)|(refine nw ?_ (by decide);conv=>whnf)|(refine nw ?_;conv=>whnf))
   refine ay (λk1=>?_) (λk1=>?_)
   .rw [show xm (b.2.1.2.1) (b.2.2.2.1) (a.2.1.2.1)=true from k1]at hW;have hW:W=false:=hW;rw [hW];conv=>whnf
    repeat(first|(refine Cw.bH af rfl rfl hc 8 ?_;conv=>whnf)|(refine nw ?_ (by decide);conv=>whnf)|(refine nw ?_;conv=>whnf))
    exact ak.same rfl .bool
   .rw [show xm (b.2.1.2.1) (b.2.2.2.1) (a.2.1.2.1)=false from k1]at hW;conv=>whnf
    repeat(first|(refine Cw.bH af rfl rfl hc 8 ?_;conv=>whnf)|(refine nw ?_ (by decide);conv=>whnf)|(refine nw ?_;conv=>whnf))
    refine ay (λk2=>?_) (λk2=>?_)
    .have k2:xm (a.2.1.2.1) (a.2.2.2.1) (b.2.1.2.1)=true:=k2;simp only [k2]at hW;have hW:W=false:=hW;rw [hW];conv=>whnf
     repeat(first|(refine Cw.bH af rfl rfl hc 8 ?_;conv=>whnf)|(refine nw ?_ (by decide);conv=>whnf)|(refine nw ?_;conv=>whnf))
     exact ak.same rfl .bool
    .have k2:xm (a.2.1.2.1) (a.2.2.2.1) (b.2.1.2.1)=false:=k2;simp only [k2]at hW;conv=>whnf
     repeat(first|(refine Cw.bH af rfl rfl hc 8 ?_;conv=>whnf)|(refine nw ?_ (by decide);conv=>whnf)|(refine nw ?_;conv=>whnf))
     refine ay (λk1=>?_) (λk1=>?_)
     .rw [show xm (b.2.1.2.2) (b.2.2.2.2) (a.2.1.2.2)=true from k1]at hW;have hW:W=false:=hW;rw [hW];conv=>whnf
      repeat(first|(refine Cw.bH af rfl rfl hc 8 ?_;conv=>whnf)|(refine nw ?_ (by decide);conv=>whnf)|(refine nw ?_;conv=>whnf))
      exact ak.same rfl .bool
     .rw [show xm (b.2.1.2.2) (b.2.2.2.2) (a.2.1.2.2)=false from k1]at hW;conv=>whnf
      repeat(first|(refine Cw.bH af rfl rfl hc 8 ?_;conv=>whnf)|(refine nw ?_ (by decide);conv=>whnf)|(refine nw ?_;conv=>whnf))
      refine ay (λk2=>?_) (λk2=>?_)
      .have k2:xm (a.2.1.2.2) (a.2.2.2.2) (b.2.1.2.2)=true:=k2;simp only [k2]at hW;have hW:W=false:=hW;rw [hW];conv=>whnf
       repeat(first|(refine Cw.bH af rfl rfl hc 8 ?_;conv=>whnf)|(refine nw ?_ (by decide);conv=>whnf)|(refine nw ?_;conv=>whnf))
       exact ak.same rfl .bool
      .have k2:xm (a.2.1.2.2) (a.2.2.2.2) (b.2.1.2.2)=false:=k2;simp only [k2]at hW;have hW:W=true:=hW;rw [hW];conv=>whnf
       repeat(first|(refine Cw.bH af rfl rfl hc 8 ?_;conv=>whnf)|(refine nw ?_ (by decide);conv=>whnf)|(refine nw ?_;conv=>whnf))
       exact ak.same rfl .bool
def abT:Cn prog:= .kP mR mR bG 129 true (λ_ _=>True) IA fF (λa b _=>aha a b) (aw rfl rfl)
end
section
attribute [local irreducible] Cw ak bq PF Sub
section
attribute [local instance] fp
abbrev Bdy:=Int×List Bk
def aeI:bW Bdy:=eU8.pair mR.list
def dns (d:Int):Int:=aj .i64 (Int.add 1 (aj .i64 (Int.tmod d 9)))
def bk0:Bk:=(0,(0,0,0),(0,0,0))
def Bj:List Bk ->List (List V3)
 |[]=>[cL bk0]
 |[x]=>[cL x]
 |x::y::_=>match aY (IA x y)with|true=>[cL x,cL y]|false=>[cL x]
def Oe (b:Bdy):mM:=([112,97,114,116],dns b.1,Bj b.2)
def tLb:List (Cn prog):=[wF,abT]
theorem ahb (b:Bdy) (h:∀x∈b.2,lB x):dQ 66 (.cons (aeI.v b) .nil) (cH.v (Oe b)):=by
 obtain⟨d,l⟩:=b;unfold Oe;refine PF.go af ae tLb (fn:=f66) rfl rfl rfl λB0 hc=>?_
 match l,h with
 |[],_=>
  conv=>whnf
  repeat(first|(refine nw ?_ (by decide);conv=>whnf)|(refine nw ?_;conv=>whnf))
  refine aL.go 0 rfl (by decide) (aC ?_);repeat(first|(refine nw ?_ (by decide);conv=>whnf)|(refine nw ?_;conv=>whnf))
  repeat(refine⟨_,rfl,?_⟩;conv=>whnf)
  repeat(first|(refine nw ?_ (by decide);conv=>whnf)|(refine nw ?_;conv=>whnf))
  refine cg tLb 0 wF bk0 (by unfold wF;unfold bk0;exact⟨⟨by decide,by decide⟩,⟨⟨by decide,by decide⟩,⟨by decide,by decide⟩,⟨by decide,by decide⟩⟩,⟨⟨by decide,by decide⟩,⟨by decide,by decide⟩,⟨by decide,by decide⟩⟩⟩) (aC ?_);repeat(first|(refine nw ?_ (by decide);conv=>whnf)|(refine nw ?_;conv=>whnf))
  refine⟨_,rfl,aC ?_⟩;refine⟨⟨by decide,rfl⟩,aC ?_⟩;repeat(first|(refine nw ?_ (by decide);conv=>whnf)|(refine nw ?_;conv=>whnf))
  exact .agg (.cons (.pure (aV.an _)) (.cons (.pure .int) (.cons (kM.gG (xs:=[cL bk0]) rfl rfl rfl) .nil)))
 |[x],h=>
  have hx:=h x (.head _);have h0:0<[x].length:=Nat.succ_pos _;conv=>whnf
  repeat(first|(refine nw ?_ (by decide);conv=>whnf)|(refine nw ?_;conv=>whnf))
  refine aL.go 0 rfl h0 (aC ?_);refine⟨_,mR.rd (xs:=[x]) (i:=0) rfl h0,aC ?_⟩;repeat(first|(refine nw ?_ (by decide);conv=>whnf)|(refine nw ?_;conv=>whnf))
  refine cg tLb 0 wF x hx (aC ?_);repeat(first|(refine nw ?_ (by decide);conv=>whnf)|(refine nw ?_;conv=>whnf))
  refine⟨_,rfl,aC ?_⟩;refine⟨⟨by decide,rfl⟩,aC ?_⟩;repeat(first|(refine nw ?_ (by decide);conv=>whnf)|(refine nw ?_;conv=>whnf))
  exact .agg (.cons (.pure (aV.an _)) (.cons (.pure .int) (.cons (kM.gG (xs:=[cL x]) rfl rfl rfl) .nil)))
 |x::y::t,h=>
  have hx:=h x (.head _);have hy:=h y (.tail _ (.head _));have hl:1<(x::y::t).length:=Nat.succ_lt_succ (Nat.succ_pos _);have h0:0<(x::y::t).length:=Nat.succ_pos _;conv=>whnf
  repeat(first|(refine nw ?_ (by decide);conv=>whnf)|(refine nw ?_;conv=>whnf))
  refine aL.go 0 rfl h0 (aC ?_);refine⟨_,mR.rd (xs:=x::y::t) (i:=0) rfl h0,aC ?_⟩;repeat(first|(refine nw ?_ (by decide);conv=>whnf)|(refine nw ?_;conv=>whnf))
  refine cg tLb 0 wF x hx (aC ?_);repeat(first|(refine nw ?_ (by decide);conv=>whnf)|(refine nw ?_;conv=>whnf))
  refine⟨_,rfl,aC ?_⟩;refine⟨⟨by decide,rfl⟩,aC ?_⟩;repeat(first|(refine nw ?_ (by decide);conv=>whnf)|(refine nw ?_;conv=>whnf))
  refine aL.go 0 rfl h0 (aC ?_);refine⟨_,mR.rd (xs:=x::y::t) (i:=0) rfl h0,aC ?_⟩;repeat(first|(refine nw ?_ (by decide);conv=>whnf)|(refine nw ?_;conv=>whnf)|(refine nw ?_ ⟨_,mR.rd (P:=prog) (xs:=x::y::t) (i:=0) rfl h0,mR.rd (P:=prog) (xs:=x::y::t) (i:=0) rfl h0⟩;conv=>whnf)|(refine nw ?_ ⟨_,mR.rd (P:=prog) (xs:=x::y::t) (i:=1) rfl hl,mR.rd (P:=prog) (xs:=x::y::t) (i:=1) rfl hl⟩;conv=>whnf))
  refine aL.go 1 rfl hl (aC ?_);refine⟨_,mR.rd (xs:=x::y::t) (i:=1) rfl hl,aC ?_⟩;repeat(first|(refine nw ?_ (by decide);conv=>whnf)|(refine nw ?_;conv=>whnf)|(refine nw ?_ ⟨_,mR.rd (P:=prog) (xs:=x::y::t) (i:=0) rfl h0,mR.rd (P:=prog) (xs:=x::y::t) (i:=0) rfl h0⟩;conv=>whnf)|(refine nw ?_ ⟨_,mR.rd (P:=prog) (xs:=x::y::t) (i:=1) rfl hl,mR.rd (P:=prog) (xs:=x::y::t) (i:=1) rfl hl⟩;conv=>whnf))
  refine cg tLb 1 abT (x,y) aB (aC ?_);repeat(first|(refine nw ?_ (by decide);conv=>whnf)|(refine nw ?_;conv=>whnf)|(refine nw ?_ ⟨_,mR.rd (P:=prog) (xs:=x::y::t) (i:=0) rfl h0,mR.rd (P:=prog) (xs:=x::y::t) (i:=0) rfl h0⟩;conv=>whnf)|(refine nw ?_ ⟨_,mR.rd (P:=prog) (xs:=x::y::t) (i:=1) rfl hl,mR.rd (P:=prog) (xs:=x::y::t) (i:=1) rfl hl⟩;conv=>whnf))
  refine ay (λk1=>?_) (λk1=>?_)
  .have k1:aY (IA x y)=true:=k1;have e:Bj (x::y::t)=[cL x,cL y]:=(by show(match aY (IA x y)with|true=>[cL x,cL y]|false=>[cL x])=_;rw [k1]);rw [show Bj (d,x::y::t).2=[cL x,cL y]from e];conv=>whnf
   repeat(first|(refine nw ?_ (by decide);conv=>whnf)|(refine nw ?_;conv=>whnf)|(refine nw ?_ ⟨_,mR.rd (P:=prog) (xs:=x::y::t) (i:=0) rfl h0,mR.rd (P:=prog) (xs:=x::y::t) (i:=0) rfl h0⟩;conv=>whnf)|(refine nw ?_ ⟨_,mR.rd (P:=prog) (xs:=x::y::t) (i:=1) rfl hl,mR.rd (P:=prog) (xs:=x::y::t) (i:=1) rfl hl⟩;conv=>whnf))
   refine aL.go 1 rfl hl (aC ?_);refine⟨_,mR.rd (xs:=x::y::t) (i:=1) rfl hl,aC ?_⟩;repeat(first|(refine nw ?_ (by decide);conv=>whnf)|(refine nw ?_;conv=>whnf)|(refine nw ?_ ⟨_,mR.rd (P:=prog) (xs:=x::y::t) (i:=0) rfl h0,mR.rd (P:=prog) (xs:=x::y::t) (i:=0) rfl h0⟩;conv=>whnf)|(refine nw ?_ ⟨_,mR.rd (P:=prog) (xs:=x::y::t) (i:=1) rfl hl,mR.rd (P:=prog) (xs:=x::y::t) (i:=1) rfl hl⟩;conv=>whnf))
   refine cg tLb 0 wF y hy (aC ?_);repeat(first|(refine nw ?_ (by decide);conv=>whnf)|(refine nw ?_;conv=>whnf)|(refine nw ?_ ⟨_,mR.rd (P:=prog) (xs:=x::y::t) (i:=0) rfl h0,mR.rd (P:=prog) (xs:=x::y::t) (i:=0) rfl h0⟩;conv=>whnf)|(refine nw ?_ ⟨_,mR.rd (P:=prog) (xs:=x::y::t) (i:=1) rfl hl,mR.rd (P:=prog) (xs:=x::y::t) (i:=1) rfl hl⟩;conv=>whnf))
   refine⟨_,rfl,aC ?_⟩;refine⟨⟨by decide,rfl,rfl⟩,aC ?_⟩;repeat(first|(refine nw ?_;conv=>whnf)|(refine nw ?_ ⟨_,mR.rd (P:=prog) (xs:=x::y::t) (i:=1) rfl hl,mR.rd (P:=prog) (xs:=x::y::t) (i:=1) rfl hl⟩;conv=>whnf))
   exact .agg (.cons (.pure (aV.an _)) (.cons (.pure .int) (.cons (kM.gG (xs:=[cL x,cL y]) rfl rfl rfl) .nil)))
  .have k1:aY (IA x y)=false:=k1;have e:Bj (x::y::t)=[cL x]:=(by show(match aY (IA x y)with|true=>[cL x,cL y]|false=>[cL x])=_;rw [k1]);rw [show Bj (d,x::y::t).2=[cL x]from e];conv=>whnf
   repeat(first|(refine nw ?_ (by decide);conv=>whnf)|(refine nw ?_;conv=>whnf)|(refine nw ?_ ⟨_,mR.rd (P:=prog) (xs:=x::y::t) (i:=0) rfl h0,mR.rd (P:=prog) (xs:=x::y::t) (i:=0) rfl h0⟩;conv=>whnf)|(refine nw ?_ ⟨_,mR.rd (P:=prog) (xs:=x::y::t) (i:=1) rfl hl,mR.rd (P:=prog) (xs:=x::y::t) (i:=1) rfl hl⟩;conv=>whnf))
   exact .agg (.cons (.pure (aV.an _)) (.cons (.pure .int) (.cons (kM.gG (xs:=[cL x]) rfl rfl rfl) .nil)))
def VT:Cn prog:= .mU aeI cH 66 false (λb=>∀x∈b.2,lB x) Oe (λe=>by cases e) ahb (aw rfl rfl)
end
attribute [local instance] bZ
def dgT (k m:Nat):List (AV×AV):=(List.range m).map λi=>(.cons (.int .i64 (((k+i:Nat):Int) - 128)) .nil,.str (vw (((k+i:Nat):Int) - 128)))
theorem aeJ:cS prog vq 67 (dgT 0 128)=true:=by decide+kernel
theorem aeK:cS prog vq 67 (dgT 128 128)=true:=by decide+kernel
theorem VU (n:Int) (h:-128<=n/\n<=127):PF prog 67 (.cons (fj.v n) .nil) (aV.v (vw n)):=by
 obtain⟨h1,h2⟩:=h;have mem:∀k m:Nat,(k:Int)<=n+128 ->n+128<(k+m:Nat) ->((.cons (.int .i64 n) .nil,.str (vw n)):AV×AV)∈dgT k m:=λk m g1 g2=>by
  unfold dgT;refine List.mem_map.2 ⟨(n+128).toNat - k,List.mem_range.2 (by omega),?_⟩;rw [show((k+((n+128).toNat - k):Nat):Int) - 128=n by omega]
 by_cases h3:n<0
 .exact(cz af ae iR (by decide) aeJ _ (mem 0 128 (by omega) (by omega))).1
 .exact(cz af ae iR (by decide) aeK _ (mem 128 128 (by omega) (by omega))).1
def fJ:Cn prog:= .mU fj aV 67 true (λn=> -128<=n/\n<=127) vw (λ_ y=>oI y) VU (aw rfl rfl)
def eTn:bW Tn:=fj.pair (fj.pair (fj.pair fj))
theorem QM:cS prog vq 130 [(.nil,eTn.list.v bN)]=true:=by kernel_rfl
def Of:Cn prog:= .of0 eTn.list 130 bN ((cz af ae iR (by decide) QM _ (.head _)).1) (aw rfl rfl)
end
section
attribute [local irreducible] Cw ak bq PF Sub
attribute [local instance] bZ
def eI8:bW Int:=au .i8
def ajD:bW I3:=eI8.pair (eI8.pair eI8)
abbrev pX:=Bdy×Bool×Int×I3×Bool
def ui:bW pX:=aeI.pair (bG.pair (eU8.pair (ajD.pair bG)))
def I8 (x:Int):Prop:= -128<=x/\x<=127
structure lK (x:pX):Prop where
 b:U8 x.1.1/\∀y∈x.1.2,lB y
 t:U8 x.2.2.1
 s:I8 x.2.2.2.1.1/\I8 x.2.2.2.1.2.1/\I8 x.2.2.2.1.2.2
def Bl (n:Int) (h:Bool):Int×Bool:=match h with
 |true=>(match aY (bD (Int.tmod n 2) 0)with|true=>(n,true)|false=>(aj .i64 (Int.tdiv n 2),false))
 |false=>(n,false)
def itT (x:pX):Tn:=bN.getD (Int.tmod x.2.2.1 27).toNat (1,0,0,0)
def wI (n:Int):Int:=aj .i64 n
def nX (x:pX):EL:=(itT x,Bl (wI x.2.2.2.1.1) x.2.2.2.2,Bl (wI x.2.2.2.1.2.1) x.2.2.2.2,Bl (wI x.2.2.2.1.2.2) x.2.2.2.2)
def Ah:List (Cn prog):=[fJ,Of]
theorem rm (n:Int):(vw n).length<=4:=by
 have h:∀m,(dgt m).length<=3:=λm=>by
  unfold dgt;split
  .exact Nat.le_add_left 1 2
  .split
   .exact Nat.le_add_left 2 1
   .exact Nat.le_refl 3
 unfold vw;have:=h n.natAbs;split
 .rw [List.length_cons];omega
 .omega
theorem aeL (x:pX) (h:lK x):PF prog 68 (.cons (ui.v x) .nil) (Le.v (Aa (nX x))):=by
 obtain⟨⟨d,bs⟩,ag,t,⟨s1,s2,s3⟩,hf⟩:=x;obtain⟨_,⟨t1,t2⟩,⟨⟨a1,a2⟩,⟨b1,b2⟩,⟨c1,c2⟩⟩⟩:=h;have t1:0<=t:=t1;have t2:t<=255:=t2;have a1:-128<=s1:=a1;have a2:s1<=127:=a2;have b1:-128<=s2:=b1;have b2:s2<=127:=b2;have c1:-128<=s3:=c1;have c2:s3<=127:=c2;have hti:aj .i64 t=t:=aA (by omega) (by omega);have htm:Int.tmod t 27=((t.toNat % 27:Nat):Int):=by
  obtain⟨n,rfl⟩:=Int.eq_ofNat_of_zero_le t1;rfl
 have cR:t.toNat % 27<bN.length:=Nat.mod_lt _ (by decide);have hT:itT ((d,bs),ag,t,(s1,s2,s3),hf)=bN[t.toNat % 27]:=by
  unfold itT;show bN.getD (Int.tmod t 27).toNat _=_;rw [htm,Int.toNat_natCast,List.getD_eq_getElem?_getD,List.getElem?_eq_getElem cR];rfl
 refine PF.go af ae Ah (fn:=f68) rfl rfl rfl λB0 hc=>?_;conv=>whnf
 repeat(first|(refine nw ?_ (by decide);conv=>whnf)|(refine nw ?_;conv=>whnf))
 refine cg Ah 1 Of () aB (aC ?_);repeat(first|(refine nw ?_ (by decide);conv=>whnf)|(refine nw ?_;conv=>whnf))
 refine aL.go (t.toNat % 27) (show(aj .i64 t).tmod 27=_ by rw [hti,htm]) cR (aC ?_);refine⟨_,eTn.rd rfl cR,aC ?_⟩;repeat(first|(refine nw ?_ (by decide);conv=>whnf)|(refine nw ?_;conv=>whnf)|(refine nw ?_ ⟨_,eTn.rd (P:=prog) rfl cR,eTn.rd (P:=prog) rfl cR⟩;conv=>whnf))
 unfold nX;rw [hT];generalize bN[t.toNat % 27]=T at*;have d1:-128<=wI s1/\wI s1<=127:=by unfold wI;rw [aA (by omega) (by omega)];omega
 have d2:-128<=wI s2/\wI s2<=127:=by unfold wI;rw [aA (by omega) (by omega)];omega
 have d3:-128<=wI s3/\wI s3<=127:=by unfold wI;rw [aA (by omega) (by omega)];omega
 have hv:∀{n:Int},-128<=n/\n<=127 -> -128<=aj .i64 (Int.tdiv n 2)/\aj .i64 (Int.tdiv n 2)<=127:=λ{n} h=>by
  have h1:-128<=Int.tdiv n 2/\Int.tdiv n 2<=127:=by
   obtain⟨g1,g2⟩:=h;cases n with
   |ofNat k=>
    show -128<=((k/2:Nat):Int)/\((k/2:Nat):Int)<=127;have g2:(k:Int)<=127:=g2;omega
   |negSucc k=>
    show -128<= -(((k+1)/2:Nat):Int)/\ -(((k+1)/2:Nat):Int)<=127;have g1:-128<= -((k:Int)+1):=(by rw [Int.negSucc_eq]at g1;exact g1);omega
  rw [aA (by omega) (by omega)];exact h1
 cases hf with
 |false=>
  repeat(first|(refine Cw.bH af rfl rfl hc 8 ?_;conv=>whnf)|(refine nw ?_ (by decide);conv=>whnf)|(refine nw ?_;conv=>whnf)|(refine cg Ah 0 fJ (wI s1) d1 ?_;conv=>whnf)|(refine cg Ah 0 fJ (wI s2) d2 ?_;conv=>whnf)|(refine cg Ah 0 fJ (wI s3) d3 ?_;conv=>whnf))
  exact ak.pure (Le.an (Aa (T,(wI s1,false),(wI s2,false),(wI s3,false))))
 |true=>
  have h1:-128<=aj .i64 (Int.tdiv (wI s1) 2)/\aj .i64 (Int.tdiv (wI s1) 2)<=127:=hv d1;have h2:-128<=aj .i64 (Int.tdiv (wI s2) 2)/\aj .i64 (Int.tdiv (wI s2) 2)<=127:=hv d2;have h3:-128<=aj .i64 (Int.tdiv (wI s3) 2)/\aj .i64 (Int.tdiv (wI s3) 2)<=127:=hv d3;obtain⟨P1,hP1⟩:∃P,P=Bl (wI s1) true:=⟨_,rfl⟩
  obtain⟨P2,hP2⟩:∃P,P=Bl (wI s2) true:=⟨_,rfl⟩
  obtain⟨P3,hP3⟩:∃P,P=Bl (wI s3) true:=⟨_,rfl⟩
  rw [<-hP1,<-hP2,<-hP3];repeat(first|(refine Cw.bH af rfl rfl hc 8 ?_;conv=>whnf)|(refine nw ?_ (by decide);conv=>whnf)|(refine nw ?_;conv=>whnf))
  refine ay (λk=>?_) (λk=>?_);rw [show Bl (wI s1) true=(wI s1,true) by unfold Bl;rw [show aY (bD (Int.tmod (wI s1) 2) 0)=true from k]]at hP1;conv=>whnf
  repeat(first|(refine Cw.bH af rfl rfl hc 8 ?_;conv=>whnf)|(refine nw ?_ (by decide);conv=>whnf)|(refine nw ?_;conv=>whnf))
  refine cg Ah 0 fJ (wI s1) d1 (aC ?_);refine⟨Nat.le_trans (Nat.add_le_add_right (rm _) _) (by decide),aC ?_⟩;repeat(first|(refine Cw.bH af rfl rfl hc 8 ?_;conv=>whnf)|(refine nw ?_ (by decide);conv=>whnf)|(refine nw ?_;conv=>whnf))
  rotate_left;rw [show Bl (wI s1) true=(aj .i64 (Int.tdiv (wI s1) 2),false) by unfold Bl;rw [show aY (bD (Int.tmod (wI s1) 2) 0)=false from k]]at hP1;conv=>whnf
  repeat(first|(refine Cw.bH af rfl rfl hc 8 ?_;conv=>whnf)|(refine nw ?_ (by decide);conv=>whnf)|(refine nw ?_;conv=>whnf))
  refine cg Ah 0 fJ (aj .i64 (Int.tdiv (wI s1) 2)) h1 (aC ?_);repeat(first|(refine Cw.bH af rfl rfl hc 8 ?_;conv=>whnf)|(refine nw ?_ (by decide);conv=>whnf)|(refine nw ?_;conv=>whnf))
  all_goals
   refine ay (λk=>?_) (λk=>?_);rw [show Bl (wI s2) true=(wI s2,true) by unfold Bl;rw [show aY (bD (Int.tmod (wI s2) 2) 0)=true from k]]at hP2;conv=>whnf
   repeat(first|(refine Cw.bH af rfl rfl hc 8 ?_;conv=>whnf)|(refine nw ?_ (by decide);conv=>whnf)|(refine nw ?_;conv=>whnf))
   refine cg Ah 0 fJ (wI s2) d2 (aC ?_);refine⟨Nat.le_trans (Nat.add_le_add_right (rm _) _) (by decide),aC ?_⟩;repeat(first|(refine Cw.bH af rfl rfl hc 8 ?_;conv=>whnf)|(refine nw ?_ (by decide);conv=>whnf)|(refine nw ?_;conv=>whnf))
   rotate_left;rw [show Bl (wI s2) true=(aj .i64 (Int.tdiv (wI s2) 2),false) by unfold Bl;rw [show aY (bD (Int.tmod (wI s2) 2) 0)=false from k]]at hP2;conv=>whnf
   repeat(first|(refine Cw.bH af rfl rfl hc 8 ?_;conv=>whnf)|(refine nw ?_ (by decide);conv=>whnf)|(refine nw ?_;conv=>whnf))
   refine cg Ah 0 fJ (aj .i64 (Int.tdiv (wI s2) 2)) h2 (aC ?_);repeat(first|(refine Cw.bH af rfl rfl hc 8 ?_;conv=>whnf)|(refine nw ?_ (by decide);conv=>whnf)|(refine nw ?_;conv=>whnf))
  all_goals
   refine ay (λk=>?_) (λk=>?_);rw [show Bl (wI s3) true=(wI s3,true) by unfold Bl;rw [show aY (bD (Int.tmod (wI s3) 2) 0)=true from k]]at hP3;conv=>whnf
   repeat(first|(refine Cw.bH af rfl rfl hc 8 ?_;conv=>whnf)|(refine nw ?_ (by decide);conv=>whnf)|(refine nw ?_;conv=>whnf))
   refine cg Ah 0 fJ (wI s3) d3 (aC ?_);refine⟨Nat.le_trans (Nat.add_le_add_right (rm _) _) (by decide),aC ?_⟩;repeat(first|(refine Cw.bH af rfl rfl hc 8 ?_;conv=>whnf)|(refine nw ?_ (by decide);conv=>whnf)|(refine nw ?_;conv=>whnf))
   rotate_left;rw [show Bl (wI s3) true=(aj .i64 (Int.tdiv (wI s3) 2),false) by unfold Bl;rw [show aY (bD (Int.tmod (wI s3) 2) 0)=false from k]]at hP3;conv=>whnf
   repeat(first|(refine Cw.bH af rfl rfl hc 8 ?_;conv=>whnf)|(refine nw ?_ (by decide);conv=>whnf)|(refine nw ?_;conv=>whnf))
   refine cg Ah 0 fJ (aj .i64 (Int.tdiv (wI s3) 2)) h3 (aC ?_);repeat(first|(refine Cw.bH af rfl rfl hc 8 ?_;conv=>whnf)|(refine nw ?_ (by decide);conv=>whnf)|(refine nw ?_;conv=>whnf))
  all_goals
   rw [hP1,hP2,hP3];exact ak.pure (.agg (.cons .int (.cons .int (.cons .int (.cons .int (.cons .str (.cons .str (.cons .str .nil))))))))
theorem VV (y:Plc):∀a∈Le.cs y,pL a=true:=by
 intro a ha;have ha:a∈[AV.int .i64 y.1.1,.int .i64 y.1.2.1,.int .i64 y.1.2.2.1,.int .i64 y.1.2.2.2,.str y.2.1,.str y.2.2.1,.str y.2.2.2]:=ha;simp only [List.mem_cons,List.not_mem_nil,or_false]at ha;rcases ha with rfl|rfl|rfl|rfl|rfl|rfl|rfl<;>rfl
def EV:Cn prog:= .mU ui Le 68 true lK (λx=>Aa (nX x)) (λ_ y=>VV y) aeL (aw rfl rfl)
def QN (l:List fA):AV:= .dq (bM.list.c l .nil) 0
theorem wG (l:List fA):DP (QN l):=bM.list.lH l .nil
theorem Og {a b:List fA} (h:QN a=QN b):a=b:=by
 injection h with h _;injection h with h _;exact bM.list.bO h
def dSl:fA:=(0,[])
def Ai (a:iL):AV:=match aY (bD ((vD a).e (uh a)) 0)with
 |true=> .aS (.cons .fy (.cons (.int .i64 ((vD a).e (uh a))) .nil))|false=> .aS (.cons (QN (lk a)) (.cons (.int .i64 0) .nil))
def aeN:List (Cn prog):=[vE,oM]
theorem OP.e0 {o:OP} {e:Int} (h:aY (bD (o.e e) 0)=false):e=0:=by
 cases hb:bD (o.e e) 0 with
 |false=>rw [hb]at h;cases h|true=>
  have h:=bh.1 hb;cases o with
  |none=>exact h|some z=>exact absurd h (show(25:Int)≠0 by decide)
theorem aeO (a:iL) (h:HP a):PF prog 10 (.cons (eA.v a) .nil) (Ai a):=by
 refine PF.go af ae aeN (fn:=f10) rfl rfl rfl λB0 hc=>?_;unfold Ai;conv=>whnf
 refine cg aeN 0 vE a h (aE ?_);refine ay (λk1=>?_) (λk1=>?_)
 .have k1:aY (bD ((vD a).e (uh a)) 0)=true:=k1;rw [k1];refine aE ?_;exact ak.pure (.aS (.cons .fy (.cons .int .nil)))
 .have k1:aY (bD ((vD a).e (uh a)) 0)=false:=k1;have hz:=OP.e0 k1;rw [k1];refine aE ?_;refine cC (l:=aeN) (by decide) 1 (c:=oM) rfl a h.pl (v:= .aS (.cons (bM.list.v (lk a)) (.cons (fj.v 0) .nil))) (by show AV.aS (.cons (bM.list.v (lk a)) (.cons (fj.v (uh a)) .nil))=_;rw [hz]) (hk:=?_);refine aE ?_;exact .aS (.cons (.ptr rfl rfl (.pure (bM.list.lH _ .nil))) (.cons (.pure .int) .nil))
theorem aap (a:iL):cN (Ai a):=by
 unfold Ai;split
 .exact .aS (.cons .fy (.cons .int .nil))
 .exact .aS (.cons (br (wG _)) (.cons .int .nil))
def EW:Cn prog:=Cn.mk 10 false iL (λa=> .cons (eA.v a) .nil) Ai HP (λa b _ _ h=>by injection h with h1 _;rw [eA.bO h1]) (λa=>⟨eA.jm _,aB⟩) aap (λh=>by cases h) aeO (aw rfl rfl)
theorem ahc (l:List fA):PF prog 12 (.cons (QN l) .nil) (fj.v (l.length:Int)):=by
 refine PF.go af ae [] (fn:=f12) rfl rfl rfl (hpure:= .cons (br (wG l)) .nil) λB0 hc=>?_;conv=>whnf
 repeat(first|(refine nw ?_;conv=>whnf)|(refine⟨_,rfl,?_⟩;conv=>whnf))
 exact ak.pure .int
def abU:Cn prog:=Cn.mk 12 true (List fA) (λl=> .cons (QN l) .nil) (λl=>fj.v (l.length:Int)) (λ_=>True)
 (λa b _ _ h=>by injection h with h1 _;rw [Og h1]) (λl=>⟨wG l,aB⟩) (λ_=> .int) (λ_ _=>λ_ _ _ h=>h) (λl _=>ahc l) (aw rfl rfl)
def aeP:List (Cn prog):=[Cn.lift bZ NH]
theorem aaq (l:List fA) (i:Nat) (hi:i<l.length) (hl:l.length<=1000000) (h:nW l[i] (Lc z3)):PF prog 13 (.cons (QN l) (.cons (.int .i64 (i:Int)) .nil)) (.aS (.cons (bM.v (rk l[i] z3)) (.cons (.int .i64 0) .nil))):=by
 refine PF.go af ae aeP (fn:=f13) rfl rfl rfl (hpure:= .cons (br (wG l)) (.cons .int .nil)) λB0 hc=>?_;conv=>whnf
 repeat(first|(refine nw ?_;conv=>whnf)|(refine⟨_,rfl,?_⟩;conv=>whnf))
 refine xA (kG.2 (show(i:Int)<(l.length:Int) by omega)) (aC ?_);repeat(first|(refine nw ?_;conv=>whnf)|(refine⟨_,rfl,?_⟩;conv=>whnf))
 refine aL.go i rfl hi (aC ?_);refine⟨_,bM.rd rfl hi,aC ?_⟩;repeat(first|(refine nw ?_;conv=>whnf))
 refine cg aeP 0 (Cn.lift bZ NH) (l[i],z3) h (aE ?_);exact ak.pure (.aS (.cons (bM.an _) (.cons .int .nil)))
theorem VW (l:List fA) (i:Int) (hl:l.length<=1000000) (h:i<0\/(l.length:Int)<=i):PF prog 13 (.cons (QN l) (.cons (.int .i64 i) .nil)) (.aS (.cons (bM.v (0,[])) (.cons (.int .i64 2) .nil))):=by
 refine PF.go af ae aeP (fn:=f13) rfl rfl rfl (hpure:= .cons (br (wG l)) (.cons .int .nil)) λB0 hc=>?_;conv=>whnf
 rcases h with h|h
 .refine bT (aO.2 h) (aE ?_);exact .aS (.cons (.agg (.cons (.pure .int) (.cons .bt .nil))) (.cons (.pure .int) .nil))
 .refine xA (aX.2 (show(0:Int)<=i by omega)) (aC ?_);repeat(first|(refine nw ?_;conv=>whnf)|(refine⟨_,rfl,?_⟩;conv=>whnf))
  refine bT (cG.2 h) (aE ?_);exact .aS (.cons (.agg (.cons (.pure .int) (.cons .bt .nil))) (.cons (.pure .int) .nil))
def HX (l:List fA) (i:Int):AV:=match gD 0 i &&cQ i (l.length:Int)with
 |true=> .aS (.cons (bM.v (rk (l.getD i.toNat dSl) z3)) (.cons (.int .i64 0) .nil))|false=> .aS (.cons (bM.v (0,[])) (.cons (.int .i64 2) .nil))
theorem Oh {l:List fA} {i:Nat} (hi:i<l.length):HX l (i:Int)= .aS (.cons (bM.v (rk l[i] z3)) (.cons (.int .i64 0) .nil)):=by
 unfold HX;rw [cG.2 (Int.natCast_nonneg i),aO.2 (by omega:(i:Int)<(l.length:Int)),Int.toNat_natCast,List.getD_eq_getElem?_getD,List.getElem?_eq_getElem hi];rfl
theorem Aj {l:List fA} {i:Int} (h:i<0\/(l.length:Int)<=i):HX l i= .aS (.cons (bM.v (0,[])) (.cons (.int .i64 2) .nil)):=by
 unfold HX;rcases h with h|h
 .rw [kG.2 h];rfl
 .rw [aX.2 h,Bool.and_false]
theorem ahd (l:List fA) (i:Int) (hl:l.length<=1000000) (h:∀s∈l,nW s (Lc z3)):PF prog 13 (.cons (QN l) (.cons (.int .i64 i) .nil)) (HX l i):=by
 by_cases g:i<0\/(l.length:Int)<=i
 .rw [Aj g];exact VW l i hl g
 .obtain⟨k,rfl⟩:=Int.eq_ofNat_of_zero_le (show 0<=i by omega);have hk:k<l.length:=by omega
  rw [Oh hk];exact aaq l k hk hl (h _ (List.getElem_mem hk))
theorem aar (l:List fA) (i:Int):cN (HX l i):=by
 unfold HX;split
 .exact .aS (.cons (bM.an _) (.cons .int .nil))
 .exact .aS (.cons (bM.an _) (.cons .int .nil))
def Oi:Cn prog:=Cn.mk 13 false (List fA×Int) (λx=> .cons (QN x.1) (.cons (.int .i64 x.2) .nil)) (λx=>HX x.1 x.2) (λx=>x.1.length<=1000000/\∀s∈x.1,nW s (Lc z3))
 (λa b _ _ h=>by injection h with h1 h;injection h with h2 _;injection h2 with _ h2;rw [Og h1,h2]) (λx=>⟨wG _,aB,aB⟩) (λx=>aar _ _) (λh=>Bool.noConfusion h) (λx h=>ahd x.1 x.2 h.1 h.2) (aw rfl rfl)
end
section
theorem CC:∀(a:Nat) {l:AV} {b:Nat},cZ (a+b) l=cZ b (cZ a l)
 |0,l,b=>by rw [Nat.zero_add];rfl
 |a+1,l,b=>by
  rw [show a+1+b=(a+b)+1 by omega];cases l with
  |cons x t=>exact CC a (l:=t)|_=>cases b<;>rfl
theorem bW.EX [aT] {P:Program} {α:Type} (E:bW α) {t:TypeId} {xs:List α} {i k off:Nat} (hi:i<xs.length) {v:AV} (h:gM P t (cZ k (E.c xs[i] (E.l (xs.drop (i+1)))))=some v) (ho:off=i*E.sz+k):gM P t (cZ off (E.l xs))=some v:=by
 subst ho;rw [CC];have e:cZ (i*E.sz) (E.l xs)=E.l (xs.drop i):=E.xK (Nat.le_of_lt hi);rw [e,List.drop_eq_getElem_cons hi];exact h
attribute [local irreducible] Cw ak bq PF Sub
attribute [local instance] bZ
theorem QO {α:Type} (pr:α ->Bool) (d:α) (l:List α) (q:Nat) (hq:q<l.length):((l.drop q).find? pr).getD d=match pr l[q]with|true=>l[q]|false=>((l.drop (q+1)).find? pr).getD d:=by
 rw [List.drop_eq_getElem_cons hq,List.find?_cons];cases pr l[q]<;>rfl
theorem VX (a:iL) (s:Nm) (h1:a.1.length<=64) (h2:∃p∈a.1,p.1=s):PF prog 36 (.cons (eA.v a) (.cons (aV.v s) .nil)) (.aS (.cons (cH.v (fx a s)) (.cons (bG.v true) .nil))):=by
 refine PF.go af ae [] (fn:=f36) rfl rfl rfl λB0 hc=>?_;obtain⟨W,hW⟩:∃W,W=fx a s:=⟨_,rfl⟩
 rw [<-hW];unfold fx at hW;have hex:∃p∈a.1.drop 0,p.1=s:=h2;conv=>whnf
 refine Cw.lp (σ:=Unit) af rfl rfl hc a.1.length (λq _=>[(1,.str s),(2,.ptr (pathOf 64) 0),(4,.ptr (pathOf 65) 0),(6,.int .i64 (q:Int))]) (λq _=>hp [(64,cl (eA.cs a)),(65,cl [.str [],.int .i64 0,.bt])] 66)
  (λq _=>((a.1.drop q).find? λp=>decide (p.1=s)).getD ([],0,[])=W/\∃p∈a.1.drop q,p.1=s) () ⟨hW.symm,hex⟩ (sb [(64,64),(65,65)]) (λq _ hq hs=>?_)
 obtain⟨dA,lr⟩:=hs;conv=>whnf
 refine ay (λk1=>?_) (λk1=>?_)
 .have hq:=pT k1;have cE:=pS hq (by omega);rw [QO _ _ _ _ hq]at dA;refine aE ?_;refine aL.go q rfl hq (aE ?_);refine⟨_,cH.EX (k:=0) hq rfl rfl,aE ?_⟩;refine ay (λk2=>?_) (λk2=>?_)
  .have k2:kz a.1[q].1 s=true:=k2;rw [eN]at k2;rw [k2]at dA;have dA:a.1[q]=W:=dA;refine aE ?_;refine aL.go q rfl hq (aC ?_);refine⟨_,cH.rd rfl hq,aE ?_⟩;rw [<-dA];exact ak.pure (.aS (.cons (cH.an a.1[q]) (.cons .bool .nil)))
  .have k2:kz a.1[q].1 s=false:=k2;rw [eN]at k2;rw [k2]at dA;have dA:((a.1.drop (q+1)).find? λp=>decide (p.1=s)).getD ([],0,[])=W:=dA;have BH:∃p∈a.1.drop (q+1),p.1=s:=by
    rw [List.drop_eq_getElem_cons hq]at lr;obtain⟨p,hp,hps⟩:=lr;rcases List.mem_cons.1 hp with rfl|hp
    .exact absurd hps (of_decide_eq_false k2)
    .exact⟨p,hp,hps⟩
   refine aE ?_;exact⟨(),hq,⟨dA,BH⟩,sb [(64,64),(65,65)]⟩
 .obtain rfl:=rN hq k1;rw [List.drop_length]at lr;obtain⟨_,hx,_⟩:=lr;cases hx
def HY:Cn prog:= .Gy eA aV cH bG 36 (λa s=>a.1.length<=64/\∃p∈a.1,p.1=s) fx (λ_ _=>true) (λa s h=>VX a s h.1 h.2) (aw rfl rfl)
def s15:List (dh×dh) ->Int ->Int
 |[],s=>s|p::l,s=>s15 l (yc s (ew p.1 p.2))
def lC (a b:fA):Int:=s15 (prs a b) 1
theorem VY (a b:fA) (h:nD a b):PF prog 38 (.cons (bM.v a) (.cons (bM.v b) .nil)) (fj.v (lC a b)):=by
 obtain⟨da,X⟩:=a;obtain⟨db,Y⟩:=b;obtain⟨hX,hY,hs⟩:=h;have hX:X.length<=1000000:=hX;have hY:Y.length<=1000000:=hY;have hs:∀x∈X,∀y∈Y,wA x y:=hs;refine PF.go af ae [mK] (fn:=f38) rfl rfl rfl λB0 hc=>?_;obtain⟨W,hW⟩:∃W,W=lC (da,X) (db,Y):=⟨_,rfl⟩
 rw [<-hW];conv=>whnf
 refine Cw.lp (σ:=Int) af rfl rfl hc X.length (λq s=>[(2,.ptr (pathOf 64) 0),(3,.ptr (pathOf 65) 0),(5,.int .i64 s),(6,.int .i64 (q:Int))])
  (λq s=>hp [(64,cl [.int .i64 da,aN.list.v X]),(65,cl [.int .i64 db,aN.list.v Y])] 66) (λq s=>s15 ((X.drop q).flatMap λx=>Y.map λy=>(x,y)) s=W) 1 hW.symm (sb [(64,64),(65,65)]) (λq s hq KY=>?_)
 conv=>whnf
 refine ay (λh1=>?_) (λh1=>?_)
 .have hq:=pT h1;have cE:=pS hq (by omega);rw [List.drop_eq_getElem_cons hq,List.flatMap_cons]at KY;have As:X[q]∈X:=List.getElem_mem hq;obtain⟨R,hR⟩:∃R,R=(X.drop (q+1)).flatMap λx=>Y.map λy=>(x,y):=⟨_,rfl⟩
  rw [<-hR]at KY;refine aE ?_;refine Cw.lp (σ:=Int) af rfl rfl hc Y.length (λp s=>[(2,.ptr (pathOf 64) 0),(3,.ptr (pathOf 65) 0),(5,.int .i64 s),(6,.int .i64 (q:Int)),(7,.int .i64 (p:Int))])
   (λp s=>hp [(64,cl [.int .i64 da,aN.list.v X]),(65,cl [.int .i64 db,aN.list.v Y])] 66) (λp s=>s15 (((Y.drop p).map λy=>(X[q],y))++R) s=W) s KY (sb [(64,64),(65,65)]) (λp s hp fw=>?_)
  conv=>whnf
  refine ay (λh2=>?_) (λh2=>?_)
  .have hp:=pT h2;have UG:=pS hp (by omega);rw [List.drop_eq_getElem_cons hp,List.map_cons,List.cons_append]at fw;have fw:s15 (((Y.drop (p+1)).map λy=>(X[q],y))++R) (yc s (ew X[q] Y[p]))=W:=fw;refine aE ?_;refine aL.go q rfl hq (aC ?_);refine⟨_,aN.rd rfl hq,aE ?_⟩;refine aL.go p rfl hp (aC ?_);refine⟨_,aN.rd rfl hp,aE ?_⟩;refine cg [mK] 0 mK (X[q],Y[p]) (hs _ As _ (List.getElem_mem hp)) (aC ?_) (hl:=nd1);repeat(first|(refine nw ?_;conv=>whnf)|(refine nw ?_ ⟨_,aN.rd (P:=prog) rfl hq,aN.rd (P:=prog) rfl hq⟩;conv=>whnf)|(refine nw ?_ ⟨_,aN.rd (P:=prog) rfl hp,aN.rd (P:=prog) rfl hp⟩;conv=>whnf))
   exact⟨yc s (ew X[q] Y[p]),hp,fw,sb [(64,64),(65,65)]⟩
  .have hpe:=rN hp h2;subst hpe;rw [List.drop_length]at fw;have fw:s15 R s=W:=fw;rw [hR]at fw;refine aE ?_;exact⟨s,hq,fw,sb [(64,64),(65,65)]⟩
 .have Iu:=rN hq h1;subst Iu;rw [List.drop_length]at KY;have KY:s=W:=KY;rw [<-KY];refine aE ?_;exact ak.pure .int
def HZ:Cn prog:= .kP bM bM fj 38 true nD lC (de _) VY (aw rfl rfl)
end
end
end Go.Sy
