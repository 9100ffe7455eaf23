/- A piece of the proof, made small by a program of ours. -/
import Derived.Test.YtilmgbneiikbiaaGreatDoorP09
import Derived.Test.YtilmgbneiikbiaaGreatDoorSyShelf2
import Derived.Test.YtilmgbneiikbiaaGreatDoorSyShelf3
set_option linter.all false
set_option maxRecDepth 1000000
set_option maxHeartbeats 0
namespace Go.Sy
noncomputable section
open Go.RowKit Go.Proofs Go.Proofs.Tryz
section
attribute [local irreducible] Cw ak bq PF Sub
attribute [local instance] fp
def tX:List (Cn prog):=[Hl,Na,Ek,nT,kJ,Hk]
def Cg (m:Bc) (vs:List Q3) (f:lS):lS:=(aI (iI m f.1),bw (aI (iI m f.1)) (vs.getD (f.2.2.headD 0).toNat z3),f.2.2)
def iS (m:Bc) (s:dh):dh:=(s.1.map (lT m),s.2.1.map (Cg m (s.1.map (lT m))),s.2.2)
def adN (m:Bc) (vs:List Q3) (f:lS):Prop:=qV m f.1/\mI (iI m f.1)/\f.2.2.length<=1048575/\∃i:Nat,i<vs.length/\f.2.2.head?=some (i:Int)/\oG (aI (iI m f.1)) (vs.getD i z3)
structure pF (m:Bc) (s:dh):Prop where
 l1:s.1.length<=1048575
 l2:s.2.1.length<=1048575
 l3:s.2.2.length<=1048575
 v:∀q (hq:q<s.1.length),Hh m s.1[q]
 f:∀q (hq:q<s.2.1.length),adN m (s.1.map (lT m)) s.2.1[q]
theorem Zb (s:dh) (m:Bc) (h:pF m s):dQ 137 (.cons (aN.v s) (.cons (kY.v m) .nil)) (aN.v (iS m s)):=by
 obtain⟨vs,fs,es⟩:=s;obtain⟨l1,l2,l3,hv,hf⟩:=h;have l1:vs.length<=1048575:=l1;have l2:fs.length<=1048575:=l2;have l3:es.length<=1048575:=l3;rw [show iS m (vs,fs,es)=(vs.map (lT m),fs.map (Cg m (vs.map (lT m))),es)from rfl];refine PF.go af ae tX (fn:=f137) rfl rfl rfl λB0 hc=>?_;refine aE ?_;refine cg tX 0 Hl es (by show es.length<=_;omega) (aE ?_);refine Cw.lp (σ:=Unit) af rfl rfl hc vs.length (λq _=>[(2,.ptr (pathOf 64) 0),(3,.ptr (pathOf 65) 0),(4,.ptr (pathOf 66) 0),(5,.ptr (pathOf 67) 0),(17,aQ.list.v vs),(18,.int .i64 (vs.length:Int)),(19,.int .i64 (q:Int))])
  (λq _=>hp [(64,cl (aN.cs (vs,fs,es))),(65,cl (kY.cs m)),(66,cl [.bt,.bt,.bt]),(67,cl [.gs (pathOf 68) q 12,.bt,jD.list.v es]),(68,.gl (aQ.l ((vs.take q).map (lT m))) false)] 69) (λ_ _=>True) () aB ?_ (λq _ hq _=>?_)
 .exact sb [(64,64),(65,65),(66,66),(67,67),(68,0)]
 conv=>whnf
 refine ay (λh1=>?_) (λh1=>?_)
 .have hq:=pT h1;have cE:=pS hq (by omega);conv=>whnf
  refine aL.go q rfl hq (aC ?_);refine⟨_,aQ.rd rfl hq,aE ?_⟩;refine cg tX 1 Na (m,vs[q]) (hv q hq) (aE ?_);refine⟨_,rfl,aC ?_⟩;refine⟨aQ.ap (gg (Nat.le_of_lt hq)) (by omega),aE ?_⟩;have ha:=aQ.pq (lT m) hq;refine⟨(),hq,aB,sb [(64,64),(65,65),(66,66),(67,67),(68,71)]⟩
 .obtain rfl:=rN hq h1;rw [List.take_length];have hW:(vs.map (lT m)).length=vs.length:=List.length_map ..;generalize vs.map (lT m)=W at*;conv=>whnf
  refine Cw.lp (σ:=Unit) af rfl rfl hc fs.length (λq _=>[(2,.ptr (pathOf 64) 0),(3,.ptr (pathOf 65) 0),(4,.ptr (pathOf 66) 0),(5,.ptr (pathOf 67) 0),(33,bC.list.v fs),(34,.int .i64 (fs.length:Int)),(35,.int .i64 (q:Int))])
   (λq _=>hp [(65,cl (kY.cs m)),(66,cl [.bt,.bt,.bt]),(67,cl [.gs (pathOf 68) vs.length 12,.gs (pathOf 69) q 17,jD.list.v es]),(68,.gl (aQ.l W) false),(69,.gl (bC.l ((fs.take q).map (Cg m W))) false)] 70) (λ_ _=>True) () aB ?_ (λq _ hq _=>?_)
  .exact sb [(64,64),(65,65),(66,66),(67,67),(68,68),(69,0)]
  conv=>whnf
  refine ay (λh1=>?_) (λh1=>?_)
  .have hq:=pT h1;have cE:=pS hq (by omega);obtain⟨k1,k2,k3,i,k4,k5,k6⟩:=hf q hq;have k1:qV m fs[q].1:=k1;have k2:mI (iI m fs[q].1):=k2;have ha:=bC.pq (Cg m W) hq;have hr:∃h0:0<fs[q].2.2.length,fs[q].2.2[0]=(i:Int):=by
    have k5:fs[q].2.2.head?=some (i:Int):=k5;rw [List.head?_eq_getElem?]at k5;exact List.getElem?_eq_some_iff.1 k5
   have h0:=hr.1;have hi:=hr.2;have hg:W.getD i z3=W[i]:=(by rw [List.getD_eq_getElem?_getD,List.getElem?_eq_getElem k4];rfl);have hF:Cg m W fs[q]=(aI (iI m fs[q].1),bw (aI (iI m fs[q].1)) W[i],fs[q].2.2):=by
    unfold Cg;rw [List.headD_eq_head?_getD,show fs[q].2.2.head?=some (i:Int)from k5,<-hg];rfl
   rw [hF]at ha;rw [hg]at k6;conv=>whnf
   refine aL.go q rfl hq (aC ?_);refine⟨_,bC.rd rfl hq,aE ?_⟩;refine cg tX 2 Ek (m,fs[q].1) k1 (aE ?_);refine cg tX 3 nT (iI m fs[q].1) k2 (aE ?_);refine aL.go 0 rfl h0 (aC ?_);refine⟨_,(au .i64).rd rfl h0,aE ?_⟩;refine aL.go i hi (hW ▸ k4) (aC ?_);refine⟨_,aQ.rd rfl k4,aE ?_⟩;refine cg tX 4 kJ (aI (iI m fs[q].1),W[i]) k6 (aE ?_);refine cg tX 5 Hk fs[q].2.2 (by show fs[q].2.2.length<=_;have:fs[q].2.2.length<=1048575:=k3;omega) (aE ?_);refine⟨_,rfl,aC ?_⟩;refine⟨bC.ap (gg (Nat.le_of_lt hq)) (by omega),aE ?_⟩;refine⟨(),hq,aB,sb [(64,64),(65,65),(66,66),(67,67),(68,68),(69,73)]⟩
  .obtain rfl:=rN hq h1;rw [List.take_length];refine aE ?_;exact .agg (.cons (aQ.gG rfl rfl hW.symm) (.cons (bC.gG rfl rfl (List.length_map ..).symm) (.cons (ak.same rfl (jD.list.an es)) .nil)))
def Em:Cn prog:= .kP aN kY aN 137 false (λs m=>pF m s) (λs m=>iS m s) (λe=>by cases e) Zb (aw rfl rfl)
end
section
open Go.RowKit Go.Proofs Go.Shelf
attribute [local instance] bZ
def Hm (l:List UInt8):List Nat:=l.map UInt8.toNat
theorem KK {μ:Mu} (l:List UInt8):dC μ (.str (Hm l)) (.string ⟨l.toArray⟩):=⟨⟨l.toArray⟩,rfl,rfl⟩
theorem adO:Lib.pow10Tab=xh:=by decide
theorem Zc {s:Nat ->Option (Array Value)} {w:World} (hs:mC s w) (ht:AA s aT.l):Lib.TabIs prog w "internal/strconv.uint64pow10" .u64 Lib.pow10Tab:=by
 obtain⟨c,vs,h1,h2,h3,h4⟩:=ht 6 (tf .u64 xh,20) rfl (by intro h;cases h);obtain⟨el,fz,h5⟩:=hs 6 c h1;have h6:=wZ xh (h3 (tH s));have hc:c=(xh.map (Value.int .u64)).toArray:=by
  apply Array.ext_getElem?;intro k;by_cases hk:k<20
  .have hv:vs[k]?=some (vs[k]'(by rw [h6];simpa [xh]using hk)):=List.getElem?_eq_getElem _;rw [h4 k _ hv,<-hv,h6];simp
  .rw [Array.getElem?_eq_none (by omega),Array.getElem?_eq_none (by simp [xh];omega)]
 unfold Lib.TabIs World.var?;rw [show prog.globalNamed "internal/strconv.uint64pow10" =some 6 from rfl];show(match w.heap[6]? with|some (.cells cs _ _)=>some cs|_=>none)=_;rw [h5,adO,hc]
def fT (n:Int):List Nat:=Hm (Lib.itoa n)
theorem adP (n:Int) (h:Iy n):PF prog 161 (.cons ((au .i64).v n) .nil) (aV.v (fT n)):=by
 intro sl w hs ht cargs hv;obtain⟨a,r,h1,h2,h3⟩:=hv;have h2:=zD h2;have h3:r=[]:=h3;subst h3 h2;have hc:cargs=#[.int .i64 n]:=by cases cargs;simp at h1;rw [h1]
 subst hc;refine(strconv_Itoa n h.1 (by have:=h.2;omega) w (Zc hs ht)).mono λe w' ⟨he,k,os,hw⟩=>?_;have rB:Below w.heap.size w w':=by
  rw [hw];refine⟨⟨rfl,rfl,rfl,?_,λk hk=>?_⟩,λ_=>?_⟩
  .show _<=(_++os).size;rw [Array.size_append];exact Nat.le_add_right _ _
  .show(_++os)[_]?=_;exact Array.getElem?_append_left hk
  .exact Nat.le_add_right _ _
 refine⟨_,sl,he,Grow.refl _ _,λb x e=>?_,KK _,rB⟩;obtain⟨el,fz,h1⟩:=hs b x e;exact⟨el,fz,(rB.block b (Array.getElem?_eq_some_iff.1 h1).1).trans h1⟩
theorem agq (l:List UInt8):∀c:Nat,Hm (Lib.repeatL l c)=(List.replicate c (l.map UInt8.toNat)).flatten
 |0=>rfl|c+1=>by
  rw [List.replicate_succ,List.flatten_cons,<-agq l c];exact List.map_append
theorem agr (l:List (List UInt8)):Lib.join l []=l.flatten:=by
 unfold Lib.join;induction l with
 |nil=>rfl|cons a l ih=>
  cases l with
  |nil=>simp|cons b l=>rw [List.intercalate_cons_cons,ih];simp
theorem oI (a:List Nat):∀y∈aV.cs a,pL y=true:=λy hy=>by rw [List.mem_singleton.1 hy];rfl
def Ut:Cn prog:= .mU (au .i64) aV 161 true Iy fT (λ_ y=>oI y) adP (qS rfl rfl)
theorem Uu (s:List Nat) (c:Int) (h:0<=c/\c<=1000/\s.length<=1000):PF prog 162 (.cons (aV.v s) (.cons ((au .i64).v c) .nil)) (aV.v (List.replicate c.toNat s).flatten):=by
 intro sl w hs ht cargs hv;obtain⟨a,r,h1,h2,b,q,h3,h4,h5⟩:=hv;obtain⟨bs,rfl,hb⟩:=zC h2;have h4:=zD h4;have h5:q=[]:=h5;subst h5 h4 h3;have hc:cargs=#[.string bs,.int .i64 c]:=by cases cargs;simp at h1;rw [h1]
 subst hc;obtain⟨c,rfl⟩:∃k:Nat,c=(k:Int):=⟨c.toNat,(Int.toNat_of_nonneg h.1).symm⟩
 have hsz:bs.size=s.length:=by rw [<-hb];simp
 refine(strings_Repeat bs c w (by omega) (by
  rw [hsz];exact Nat.le_trans (Nat.mul_le_mul h.2.2 (show c<=1000 by omega)) (by decide))).mono λe w' ⟨he,hw⟩=>?_
 have rB:Below w.heap.size w w':=⟨hw,λe=>by cases e⟩
 refine⟨_,sl,he,Grow.refl _ _,λb x e=>?_,?_,rB⟩
 .obtain⟨el,fz,h1⟩:=hs b x e;exact⟨el,fz,(rB.block b (Array.getElem?_eq_some_iff.1 h1).1).trans h1⟩
 .have:=KK (μ:=tH sl) (Lib.repeatL bs.data.toList c);have e:Hm (Lib.repeatL bs.data.toList c)=(List.replicate ((c:Int)).toNat s).flatten:=by
   rw [Int.toNat_natCast,<-hb];exact agq _ _
  rw [e]at this;exact this
def Hn:Cn prog:= .kP aV (au .i64) aV 162 true (λs c=>0<=c/\c<=1000/\s.length<=1000) (λs c=>(List.replicate c.toNat s).flatten) (λ_ y=>oI y) Uu (qS rfl rfl)
theorem Nd {μ:Mu}:∀{gs:List (List Nat)} {vs:List Value},cJ μ (aV.l gs) vs ->∃xs:List ByteArray,vs=xs.map Value.string/\xs.map (λb=>b.data.toList.map UInt8.toNat)=gs
 |[],vs,h=>by
  have h:vs=[]:=h;exact⟨[],h,rfl⟩
 |g::gs,vs,h=>by
  obtain⟨v,r,e,h1,h2⟩:=(show ∃v r,vs=v::r/\VR μ (.str g) false [v]/\cJ μ (aV.l gs) r from h)
  obtain⟨b,rfl,hb⟩:=zC h1;obtain⟨xs,rfl,hx⟩:=Nd h2;exact⟨b::xs,by rw [e];rfl,by rw [List.map_cons,hb,hx]⟩
theorem adQ (gs:List (List Nat)) (h:gs≠[]/\gs.length<=140737488355328/\gs.flatten.length<=140737488355328):PF prog 164 (.cons (aV.list.v gs) (.cons (aV.v []) .nil)) (aV.v gs.flatten):=by
 intro sl w hs ht cargs hv;obtain⟨dD,hn,hfl⟩:=h;obtain⟨a,r,h1,h2,b,q,h3,h4,h5⟩:=hv;obtain⟨sb,rfl,Xz⟩:=zC h4;have h5:q=[]:=h5;subst h5 h3;obtain⟨vs,xG,wP⟩:=h2;obtain⟨xs,FD,hx⟩:=Nd xG;have Ji:xs.length=gs.length:=by rw [<-hx,List.length_map]
 rcases wP with ⟨bk,o,c,ha,hcap,hse⟩|⟨h0,h01,h02⟩
 .injection ha with ha _;subst ha;have hc:cargs=#[.slice (some ⟨bk,o,none⟩) xs.length c,.string sb]:=by cases cargs;simp at h1;rw [h1,Ji]
  subst hc;have hse:=hse.resolve_left (λe=>dD (List.length_eq_zero_iff.1 (by rw [<-Ji,<-List.length_map (f:=Value.string),<-FD,e];rfl)));subst FD;obtain⟨cs,mQ,Az⟩:=hse;obtain⟨el,fz,hh⟩:=hs bk cs mQ;have hsd:sb.data.toList=[]:=by simpa using Xz
  have hJ:Hm (Lib.join (xs.map (·.data.toList)) sb.data.toList)=gs.flatten:=by
   rw [hsd,<-hx,agr];unfold Hm;rw [List.map_flatten,List.map_map];rfl
  refine(strings_Join bk o c xs sb w (λj x hj=>?_) (Array.getElem?_eq_some_iff.1 hh).1 (by omega) (by omega) ?_).mono λe w' ⟨he,hw⟩=>?_
  .simp only [World.cell?,hh];exact Az j (.string x) (by rw [List.getElem?_map,hj];rfl)
  .have:=congrArg List.length hJ;unfold Hm at this;rw [List.length_map]at this;omega
  have rB:Below w.heap.size w w':=⟨hw,λe=>by cases e⟩
  refine⟨_,sl,he,Grow.refl _ _,λb x e=>?_,?_,rB⟩
  .obtain⟨el,fz,h1⟩:=hs b x e;exact⟨el,fz,(rB.block b (Array.getElem?_eq_some_iff.1 h1).1).trans h1⟩
  .have:=KK (μ:=tH sl) (Lib.join (xs.map (·.data.toList)) sb.data.toList);rw [hJ]at this;exact this
 .exact absurd (List.length_eq_zero_iff.1 h0) dD
def Uv:Cn prog:= .kP aV.list aV aV 164 true (λgs s=>s=[]/\gs≠[]/\gs.length<=140737488355328/\gs.flatten.length<=140737488355328) (λgs _=>gs.flatten) (λ_ y=>oI y) (λgs s h=>by
 obtain⟨rfl,h⟩:=h;exact adQ gs h) (qS rfl rfl)
end
section
open Go.RowKit Go.Proofs Go.Sort
attribute [local irreducible] Cw ak bq PF Sub
attribute [local instance] fp
structure kK {α:Type} (c:α ->α ->Int):Prop where
 sym:∀x y,c y x= - c x y
 le:∀x y z,c x y<=0 ->c y z<=0 ->c x z<=0
 lt:∀x y z,c x y<0 ->c y z<=0 ->c x z<0
theorem kK.lt' {α:Type} {c:α ->α ->Int} (h:kK c) {x y z:α} (h1:c x y<=0) (h2:c y z<0):c x z<0:=by
 rcases Int.lt_or_le (c x z) 0 with h3|h3
 .exact h3
 .have h4:c z x<=0:=by rw [h.sym x z];omega
  have h5:=h.lt y z x h2 h4;rw [h.sym x y]at h5;omega
theorem kK.swo {α:Type} {c:α ->α ->Int} (h:kK c):SWO λx y=>decide (c x y<0) where
 irrefl x:=by have:=h.sym x x;exact decide_eq_false (by omega)
 trans x y z h1 h2:=by
  have h1:=of_decide_eq_true h1;have h2:=of_decide_eq_true h2;exact decide_eq_true (h.lt x y z h1 (by omega))
 ntrans x y z h1 h2:=by
  have h1:=of_decide_eq_false h1;have h2:=of_decide_eq_false h2;refine decide_eq_false ?_;have:=h.le z y x (by rw [h.sym y z];omega) (by rw [h.sym x y];omega);rw [h.sym x z]at this;omega
def KL {α:Type} (c d:α ->α ->Int) (x y:α):Int:=match bD (c x y) 0 with|false=>c x y|true=>d x y
theorem En {α:Type} {c d:α ->α ->Int} {x y:α} (h:c x y=0):KL c d x y=d x y:=by
 unfold KL;rw [show bD (c x y) 0=true from bh.2 h]
theorem Eo {α:Type} {c d:α ->α ->Int} {x y:α} (h:c x y≠0):KL c d x y=c x y:=by
 unfold KL;cases hb:bD (c x y) 0 with
 |false=>rfl|true=>exact absurd (bh.1 hb) h
theorem kK.lex {α:Type} {c d:α ->α ->Int} (h:kK c) (k:kK d):kK (KL c d):=by
 have key:∀x y,(KL c d x y<=0↔c x y<0\/(c x y=0/\d x y<=0))/\(KL c d x y<0↔c x y<0\/(c x y=0/\d x y<0)):=λx y=>by
  by_cases e:c x y=0
  .rw [En e];omega
  .rw [Eo e];omega
 refine⟨λx y=>?_,λx y z=>?_,λx y z=>?_⟩
 .by_cases e:c x y=0
  .rw [En e,En (by rw [h.sym x y];omega)];exact k.sym x y
  .rw [Eo e,Eo (by rw [h.sym x y];omega)];exact h.sym x y
 .rw [(key x y).1,(key y z).1,(key x z).1];rintro (a|⟨a,a'⟩) (b|⟨b,b'⟩)
  .exact .inl (h.lt x y z a (by omega))
  .exact .inl (h.lt x y z a (by omega))
  .exact .inl (h.lt' (by omega) b)
  .have h1:=h.le x y z (by omega) (by omega);have h2:=h.le z y x (by rw [h.sym y z];omega) (by rw [h.sym x y];omega);rw [h.sym x z]at h2;exact .inr ⟨by omega,k.le x y z a' b'⟩
 .rw [(key x y).2,(key y z).1,(key x z).2];rintro (a|⟨a,a'⟩) (b|⟨b,b'⟩)
  .exact .inl (h.lt x y z a (by omega))
  .exact .inl (h.lt x y z a (by omega))
  .exact .inl (h.lt' (by omega) b)
  .have h1:=h.le x y z (by omega) (by omega);have h2:=h.le z y x (by rw [h.sym y z];omega) (by rw [h.sym x y];omega);rw [h.sym x z]at h2;exact .inr ⟨by omega,k.lt x y z a' b'⟩
theorem kK.on {α β:Type} {c:β ->β ->Int} (h:kK c) (f:α ->β):kK λx y=>c (f x) (f y):=
 ⟨λx y=>h.sym _ _,λx y z=>h.le _ _ _,λx y z=>h.lt _ _ _⟩
def gT (q:Q):Q:=(q.1,if q.2<=0 then 0 else q.2)
theorem wx (q:Q):0<Q.dn (gT q):=by
 unfold Q.dn gT;by_cases h:q.2<=0
 .rw [if_pos h];show 0<(if (0:Int)=0 then(1:Int)else 0);decide
 .rw [if_neg h];show 0<if q.2=0 then 1 else q.2;rw [if_neg (by omega)];omega
theorem pG (p q:Q):Q.cmp p q=eM (p.1*Q.dn q) (q.1*Q.dn p):=by
 unfold Q.cmp;split
 .rename_i h;have hw:∀q:Q,Q.whole q=true ->Q.dn q=1:=λq h=>by
   unfold Q.whole at h;have h:=of_decide_eq_true h;unfold Q.dn;split
   .rfl
   .omega
  rw [Bool.and_eq_true]at h;rw [hw p h.1,hw q h.2,Int.mul_one,Int.mul_one]
 .rfl
theorem ka {a b:Int}:(eM a b<0↔a<b)/\(eM a b<=0↔a<=b)/\eM b a= - eM a b:=by
 unfold eM;refine⟨?_,?_,?_⟩<;>(repeat' split)<;>omega
theorem adR:kK λp q=>Q.cmp (gT p) (gT q):=by
 have mul:∀a b c:Int,0<c ->(a*c<b*c↔a<b)/\(a*c<=b*c↔a<=b):=λa b c h=>⟨Int.mul_lt_mul_right h,Int.mul_le_mul_right h⟩
 refine⟨λx y=>?_,λx y z h1 h2=>?_,λx y z h1 h2=>?_⟩
 .show Q.cmp (gT y) (gT x)= - Q.cmp (gT x) (gT y);rw [pG,pG];exact ka.2.2
 .have h1:Q.cmp (gT x) (gT y)<=0:=h1;have h2:Q.cmp (gT y) (gT z)<=0:=h2;show Q.cmp (gT x) (gT z)<=0;rw [pG]at h1 h2 ⊢;have h1:=ka.2.1.1 h1;have h2:=ka.2.1.1 h2;refine ka.2.1.2 ?_;have hx:=wx x;have hy:=wx y;have hz:=wx z;generalize Q.dn (gT x)=dx at*;generalize Q.dn (gT y)=dy at*;generalize Q.dn (gT z)=dz at*;generalize (gT x).1=a at*;generalize (gT y).1=b at*;generalize (gT z).1=c at*;have e1:=(mul _ _ dz hz).2.2 h1;have e2:=(mul _ _ dx hx).2.2 h2;refine(mul _ _ dy hy).2.1 ?_;calc a*dz*dy=a*dy*dz:=by rw [Int.mul_right_comm]
   _<=b*dx*dz:=e1
   _=b*dz*dx:=by rw [Int.mul_right_comm]
   _<=c*dy*dx:=e2
   _=c*dx*dy:=by rw [Int.mul_right_comm]
 .have h1:Q.cmp (gT x) (gT y)<0:=h1;have h2:Q.cmp (gT y) (gT z)<=0:=h2;show Q.cmp (gT x) (gT z)<0;rw [pG]at h1 h2 ⊢;have h1:=ka.1.1 h1;have h2:=ka.2.1.1 h2;refine ka.1.2 ?_;have hx:=wx x;have hy:=wx y;have hz:=wx z;generalize Q.dn (gT x)=dx at*;generalize Q.dn (gT y)=dy at*;generalize Q.dn (gT z)=dz at*;generalize (gT x).1=a at*;generalize (gT y).1=b at*;generalize (gT z).1=c at*;have e1:=(mul _ _ dz hz).1.2 h1;have e2:=(mul _ _ dx hx).2.2 h2;refine(mul _ _ dy hy).1.1 ?_;calc a*dz*dy=a*dy*dz:=by rw [Int.mul_right_comm]
   _<b*dx*dz:=e1
   _=b*dz*dx:=by rw [Int.mul_right_comm]
   _<=c*dy*dx:=e2
   _=c*dx*dy:=by rw [Int.mul_right_comm]
def Zd (v:Q3):Q3:=(gT v.1,gT v.2.1,gT v.2.2)
def nU (a b:Q3):Int:=dH (Zd a) (Zd b)
theorem Ze:kK nU:=
 (adR.on (λv:Q3=>v.1)).lex ((adR.on (λv:Q3=>v.2.1)).lex (adR.on (λv:Q3=>v.2.2)))
def Ho (v:Q3):Prop:=0<=v.1.2/\0<=v.2.1.2/\0<=v.2.2.2
theorem zK {q:Q} (h:0<=q.2):gT q=q:=by
 obtain⟨n,d⟩:=q;have h:0<=d:=h;show(n,if d<=0 then 0 else d)=(n,d)
 split
 .rw [show d=0 by omega]
 .rfl
theorem Hp {v:Q3} (h:Ho v):Zd v=v:=by
 unfold Zd;rw [zK h.1,zK h.2.1,zK h.2.2]
theorem Hq {a b:Q3} (ha:Ho a) (hb:Ho b):nU a b=dH a b:=by unfold nU;rw [Hp ha,Hp hb]
theorem Ch {a b:Q3} (ha:Ho a) (hb:Ho b) (h0:dH a b=0 ->a=b) (h1:¬nU a b<0) (h2:¬nU b a<0):a=b:=by
 have h3:nU a b=0:=by have:=Ze.sym a b;omega
 rw [Hq ha hb]at h3;exact h0 h3
theorem ags (a b:Q3) (h:rP dt a b):dQ 174 (.cons (aQ.v a) (.cons (aQ.v b) .nil)) ((au .i64).v (dH a b)):=by
 refine PF.go af ae [fb] (fn:=f174) rfl rfl rfl λB0 hc=>?_;conv=>whnf
 refine cg [fb] 0 fb (a,b) h (aE ?_) (hl:=List.nodup_cons.2 ⟨List.not_mem_nil,List.nodup_nil⟩);exact ak.same rfl .int
end
section
attribute [local irreducible] Cw ak bq PF Sub
def ny (gs:List (List Nat)) (i:Nat):List (List Nat):=(List.range gs.length).map λk=>if k<i\/gs.length - i<=k then gs.getD (gs.length - 1 - k) []else gs.getD k []
theorem jB (gs:List (List Nat)) (i:Nat):(ny gs i).length=gs.length:=by simp [ny]
theorem KM (gs:List (List Nat)):ny gs 0=gs:=by
 apply List.ext_getElem (jB _ _);intro k h1 h2;simp [ny,h2];intro h;omega
theorem Qw (gs:List (List Nat)) (i:Nat) (h:gs.length - 1<=2*i):ny gs i=gs.reverse:=by
 apply List.ext_getElem (by rw [jB,List.length_reverse]);intro k h1 h2;rw [jB]at h1;rw [List.getElem_reverse];simp only [ny,List.getElem_map,List.getElem_range];split
 .rw [List.getD_eq_getElem?_getD,List.getElem?_eq_getElem (by omega)];rfl
 .rw [List.getD_eq_getElem?_getD,List.getElem?_eq_getElem (by omega)];show gs[k]=_;congr 1;omega
theorem KN (gs:List (List Nat)) (i:Nat) (h:2*i+1<gs.length):((ny gs i).set i (gs.getD (gs.length - 1 - i) [])).set (gs.length - 1 - i) (gs.getD i [])=ny gs (i+1):=by
 apply List.ext_getElem (by rw [List.length_set,List.length_set,jB,jB]);intro k h1 h2;rw [jB]at h2;rw [List.getElem_set,List.getElem_set];simp only [ny,List.getElem_map,List.getElem_range];by_cases e1:gs.length - 1 - i=k
 .rw [if_pos e1,if_pos (by omega),show gs.length - 1 - k=i by omega]
 .rw [if_neg e1];by_cases e2:i=k
  .rw [if_pos e2,if_pos (by omega),e2]
  .rw [if_neg e2];by_cases e3:k<i\/gs.length - i<=k
   .rw [if_pos e3,if_pos (by omega)]
   .rw [if_neg e3,if_neg (by omega)]
theorem Ci {gs:List (List Nat)} {i k:Nat} (hk:k<gs.length) (h:i<=k/\k<gs.length - i):(ny gs i)[k]'(by rw [jB];exact hk)=gs.getD k []:=by
 simp only [ny,List.getElem_map,List.getElem_range];rw [if_neg (by omega)]
section
local instance iK:aT:=pR fp 2
def hRv (neg:Bool) (M:Nat) (gs:List (List Nat)):Heap:=hp [(64,cl [.bool neg,aM.v M]),(65,.gl (aV.l gs) false)] 66
def aRv (gs:List (List Nat)):AV:= .cons (.gs (pathOf 65) gs.length 1) .nil
theorem agt (neg:Bool) (M:Nat) (gs:List (List Nat)) (h0:0<gs.length) (hn:gs.length<=1048575) (B0:Nat) {r:Tr AV} (hr:iH (aRv gs) 0 f163.ntmps .leaf=some r):
  @Cw iK prog B0 ⟨prog,163,f163.ntmps,none,aH (P:=prog) [],0⟩ (vK f163) r [] (hRv neg M gs)
   (QK (fK prog f163 (.aS .nil) [(pathOf 64,cl [.bool neg,aM.v M]),(pathOf 65,.gl (aV.l gs.reverse) false)] (pathOf 66)) (fK prog f163 (.aS .nil) [(pathOf 64,cl [.bool neg,aM.v M]),(pathOf 65,.gl (aV.l gs.reverse) false)] (pathOf 66)) (λ_ _ _ _=>False)):=by
 cases hr;have hc:= @az iK prog ae [] B0;refine aD af rfl rfl hc _ (aC ?_);have hj0:aj .i64 (Int.sub (gs.length:Int) 1)=((gs.length - 1 - 0:Nat):Int):=by
  show aj .i64 ((gs.length:Int) - 1)=_;rw [aA (by omega) (by omega)];omega
 refine Cw.loop (ι:=Nat) (λi=>bl [(0,.gs (pathOf 65) gs.length 1),(2,.int .i64 (i:Int)),(3,.int .i64 ((gs.length - 1 - i:Nat):Int))]) (λ_=>[]) (λi=>hp [(64,cl [.bool neg,aM.v M]),(65,.gl (aV.l (ny gs i)) false)] 66)
  (λi=>2*i<=gs.length) (λi=>gs.length - i) ?_ 0 (Nat.zero_le _) ?_
 .intro i hi;have hi:2*i<=gs.length:=hi;refine aD af rfl rfl hc _ (aC ?_);refine ay (λh1=>?_) (λh1=>?_)
  .have h1:i<gs.length - 1 - i:=pT h1;have cE:=pS (show i<gs.length by omega) (by omega);have Yc:aj .i64 (Int.sub ((gs.length - 1 - i:Nat):Int) 1)=((gs.length - 1 - (i+1):Nat):Int):=by
    show aj .i64 (((gs.length - 1 - i:Nat):Int) - 1)=_;rw [aA (by omega) (by omega)];omega
   have hL:=jB gs i;have g1:=Ci (gs:=gs) (i:=i) (k:=i) (by omega) ⟨Nat.le_refl _,by omega⟩;have g2:=Ci (gs:=gs) (i:=i) (k:=gs.length - 1 - i) (by omega) ⟨by omega,by omega⟩;have hs:=KN gs i (by omega);conv=>whnf
   refine aL.go (gs.length - 1 - i) rfl (by omega) (aC ?_);refine⟨_,(aV.rd rfl (by omega:gs.length - 1 - i<(ny gs i).length)).trans (congrArg (λx=>some (aV.v x)) g2),aC ?_⟩;refine aL.go i rfl (by omega) (aC ?_);refine⟨_,(aV.rd rfl (by omega:i<(ny gs i).length)).trans (congrArg (λx=>some (aV.v x)) g1),aC ?_⟩;refine aL.go i rfl (by omega) (aC ?_);refine aV.st (gs.getD (gs.length - 1 - i) []) (by omega) (aC ?_);refine aL.go (gs.length - 1 - i) rfl (by omega) (aC ?_);refine aV.st (gs.getD i []) (by rw [List.length_set];omega) ?_;have wP:=congrArg aV.l hs;conv=>whnf
   refine⟨i+1,by show 2*(i+1)<=gs.length;omega,by show gs.length - (i+1)<gs.length - i;omega,sb [(64,64),(65,65)]⟩
  .have h1:((gs.length - 1 - i:Nat):Int)<=(i:Int):=aX.1 h1;have he:=Qw gs i (by omega);rw [he];conv=>whnf
   exact⟨rfl,rfl,rfl,rfl,aB⟩
 .have wP:=congrArg aV.l (KM gs).symm;exact sb [(64,64),(65,65)]
end
attribute [local instance] bZ
def Qx (m:Nat):List Nat:=match cQ 0 (nd (m/1000000000):Int)with
 |true=>(List.replicate (9 - (fT ((m % 1000000000:Nat):Int)).length) [48]).flatten++fT ((m % 1000000000:Nat):Int)|false=>fT ((m % 1000000000:Nat):Int)
def Bd:Nat ->Nat ->List (List Nat)
 |0,_=>[]
 |f+1,m=>if m=0 then []else Qx m::Bd f (m/1000000000)
def fI (m:Nat):List (List Nat):=Bd m m
theorem Hr:∀(f g m:Nat),m<=f ->m<=g ->Bd f m=Bd g m
 |0,g,m,h,_=>by
  obtain rfl:m=0:=by omega
  cases g<;>rfl
 |f+1,0,m,_,h=>by
  obtain rfl:m=0:=by omega
  rfl
 |f+1,g+1,m,h1,h2=>by
  unfold Bd;split
  .rfl
  .rw [Hr f g (m/1000000000) (by omega) (by omega)]
theorem rS {m:Nat} (h:m≠0):fI m=Qx m::fI (m/1000000000):=by
 obtain⟨k,rfl⟩:∃k,m=k+1:=⟨m - 1,by omega⟩
 show Bd (k+1) (k+1)=_;unfold Bd;rw [if_neg h,Hr k ((k+1)/1000000000) _ (by omega) (Nat.le_refl _)];rfl
theorem Qy:fI 0=[]:=rfl
theorem Hs:∀(k m:Nat),m<65536 ^ k ->(fI m).length<=k
 |0,m,h=>by
  obtain rfl:m=0:=by simpa using h
  exact Nat.le_refl _
 |k+1,m,h=>by
  by_cases h0:m=0
  .subst h0;exact Nat.zero_le _
  .rw [rS h0,List.length_cons];refine Nat.succ_le_succ (Hs k _ ?_);rw [Nat.div_lt_iff_lt_mul (by decide)];rw [Nat.pow_succ]at h;exact Nat.lt_of_lt_of_le h (Nat.mul_le_mul_left _ (by decide))
theorem Nf (m:Nat):(fI m).length<=2*nd m:=by
 refine Hs _ _ ?_;have:=dV m;rw [show(4294967296:Nat)=65536 ^ 2 by decide,<-Nat.pow_mul]at this;exact this
theorem aby {r:Nat} (h:r<1000000000):(fT (r:Int)).length<=9:=by
 unfold fT Hm;rw [List.length_map];unfold Lib.itoa;rw [if_neg (by omega),Int.toNat_natCast,Lib.decDigits_length];rcases Nat.lt_or_ge (Lib.nDigits r) 10 with h1|h1
 .omega
 .exfalso;have h2:10 ^ 9<=r:=by
   have hn:Lib.nDigits r<=Lib.nDigits r:=Nat.le_refl _;obtain⟨k,hk⟩:∃k,Lib.nDigits r=k+1:=⟨Lib.nDigits r - 1,by omega⟩
   by_cases hr:r<10
   .rw [Lib.nDigits_small hr]at h1;omega
   .exact Nat.le_trans (Nat.pow_le_pow_right (by decide) (show 9<=k by omega)) (Ng k r hk hr)
  omega
where
 Ng:∀(k r:Nat),Lib.nDigits r=k+1 ->¬r<10 ->10 ^ k<=r
 |0,r,h,hr=>by omega
 |k+1,r,h,hr=>by
  rw [Lib.nDigits_big hr]at h;by_cases h2:r/10<10
  .rw [Lib.nDigits_small h2]at h;obtain rfl:k=0:=by omega
   show 10 ^ 1<=r;omega
  .have:=Ng k (r/10) (by omega) h2;rw [Nat.pow_succ];omega
theorem Zf (m:Nat):(Qx m).length<=9:=by
 have h:=aby (Nat.mod_lt m (show 0<1000000000 by decide));unfold Qx;split
 .rw [List.length_append,List.length_flatten,List.map_replicate,List.sum_replicate_nat];show(9 - _)*1+_<=9;omega
 .exact h
theorem Cj (m:Nat):(fI m).flatten.length<=9*(fI m).length:=by
 unfold fI;generalize m=f at*
 suffices ∀f m,(Bd f m).flatten.length<=9*(Bd f m).length from this f f
 intro f;induction f with
 |zero=>intro m;exact Nat.le_refl _|succ f ih=>
  intro m;unfold Bd;split
  .exact Nat.le_refl _
  .rw [List.flatten_cons,List.length_append,List.length_cons];have:=Zf m;have:=ih (m/1000000000);omega
def gJ (z:Int):List Nat:=if z=0 then [48]else match decide (z<0)with|true=>45::(fI z.natAbs).reverse.flatten|false=>(fI z.natAbs).reverse.flatten
def wy (z:Int):Prop:=nd z.natAbs<=500000
def KO:List (Cn prog):=[Cn.lift bZ vn,Ut,Hn,Uv]
def cRv (neg:Bool) (M:Nat):eL ->AV ->Heap ->CR:=jS 163 (aRv (fI M)) (hRv neg M (fI M)) (.aS .nil) ⟨bV [(pathOf 64,cl [.bool neg,aM.v M]),(pathOf 65,.gl (aV.l (fI M).reverse) false)],pathOf 66⟩ (aH KO)
theorem Uw (neg:Bool) (M:Nat) (h0:0<(fI M).length) (hn:(fI M).length<=1048575) (B0:Nat):aU prog B0 (cRv neg M):=
 PG (T0:=fp) rfl ae 2 (az ae KO B0) (fn:=f163) rfl rfl rfl rfl (Nat.le_refl _) (agt neg M (fI M) h0 hn B0 rfl)
theorem adS (z:Int) (h:wy z):PF prog 98 (.cons (aR.v z) .nil) (aV.v (gJ z)):=by
 by_cases hz:z=0
 .subst hz;refine PF.go af ae KO (fn:=f98) rfl rfl rfl λB0 hc=>?_;conv=>whnf
  exact ak.pure (aV.an _)
 have hz':z.natAbs≠0:=λe=>hz (Int.natAbs_eq_zero.1 e);have hl:=Nf z.natAbs;have h:nd z.natAbs<=500000:=h;have h0:0<(fI z.natAbs).length:=by rw [rS hz'];exact Nat.succ_pos _
 have hv:gJ z=match decide (z<0)with|true=>45::(fI z.natAbs).reverse.flatten|false=>(fI z.natAbs).reverse.flatten:=if_neg hz
 have hfl:=Cj z.natAbs;refine PF.of_wp af (by decide) (fn:=f98) rfl rfl rfl (.cons (aR.an _) .nil) (call:=cRv (decide (z<0)) z.natAbs) (λB0=>Uw _ _ h0 (by omega) B0) λB0=>?_;have hc:=Uw (decide (z<0)) z.natAbs h0 (by omega) B0;rw [hv];have hd0:(dg z.natAbs).length=nd z.natAbs:=bj _;conv=>whnf
 refine ay (λh1=>?_) (λh1=>?_)
 .exfalso;have h1:bD ((dg z.natAbs).length:Int) 0=true:=h1;rw [hd0]at h1;have h1:=bh.1 h1;have:=nQ hz';omega
 conv=>whnf
 refine Cw.loop (ι:=Nat×List (List Nat)) (λq=>bl [(1,.ptr (pathOf 64) 0),(3,.gs (pathOf 65) q.2.length 1),(4,aM.v q.1)]) (λ_=>[]) (λq=>hp [(64,cl [.bool (decide (z<0)),aM.v z.natAbs]),(65,.gl (aV.l q.2) false)] 66)
  (λq=>q.2++fI q.1=fI z.natAbs/\nd q.1<=500000) (λq=>q.1) ?_ (z.natAbs,[]) ⟨rfl,h⟩ (sb [(64,64),(65,0)])
 rintro ⟨m,gs⟩ ⟨hq,hm⟩;have hq:gs++fI m=fI z.natAbs:=hq;have hm:nd m<=500000:=hm;refine aD af rfl rfl hc _ ?_;have hdm:(dg m).length=nd m:=bj _;conv=>whnf
 refine ay (λh2=>?_) (λh2=>?_)
 .have h2:cQ 0 ((dg m).length:Int)=true:=h2;rw [hdm]at h2;have h2:=aO.1 h2;have hm0:m≠0:=λe=>by subst e;exact absurd h2 (by decide)
  have hqd:nd (m/1000000000)<=500000:=Nat.le_trans (px (Nat.div_le_self _ _)) hm;have hr:m % 1000000000<1000000000:=Nat.mod_lt _ (by decide);rw [rS hm0]at hq;have hgl:gs.length<1048575:=by
   have:=congrArg List.length hq;rw [List.length_append,List.length_cons]at this;omega
  have cR:m/1000000000<m:=Nat.div_lt_self (by omega) (by decide);have hrl:=aby hr;conv=>whnf
  refine gP (by decide) (cg KO 0 (Cn.lift bZ vn) (m,(1000000000:Int)) ⟨by show nd m<_;omega,by show(0:Int)<1000000000;decide,by show(1000000000:Int)<4294967296;decide⟩ (aC ?_));have aiX:aj .i64 ((m % 1000000000:Nat):Int)=((m % 1000000000:Nat):Int):=aA (by omega) (by omega);refine gP (by decide) (cg KO 1 Ut ((m % 1000000000:Nat):Int) ⟨by omega,by omega⟩ (has:=?_) ?_);rotate_left
  .exact congrArg (λx=>AV.cons (.int .i64 x) .nil) aiX.symm
  conv=>whnf
  refine ay (λh3=>?_) (λh3=>?_)
  .have h3:cQ 0 ((dg (m/1000000000)).length:Int)=true:=h3;rw [bj]at h3;have hg:Qx m=(List.replicate (9 - (fT ((m % 1000000000:Nat):Int)).length) [48]).flatten++fT ((m % 1000000000:Nat):Int):=(by unfold Qx;rw [h3]);rw [hg]at hq;have h9:aj .i64 (Int.sub 9 ((fT ((m % 1000000000:Nat):Int)).length:Int))=((9 - (fT ((m % 1000000000:Nat):Int)).length:Nat):Int):=by
    show aj .i64 (9 - ((fT ((m % 1000000000:Nat):Int)).length:Int))=_;rw [aA (by omega) (by omega)];omega
   conv=>whnf
   refine gP (by decide) (cg KO 2 Hn ([48],((9 - (fT ((m % 1000000000:Nat):Int)).length:Nat):Int)) ⟨Int.natCast_nonneg _,by show((9 - _:Nat):Int)<=1000;omega,by show 1<=1000;decide⟩ (has:=?_) ?_);rotate_left
   .exact congrArg (λx=>AV.cons (.str [48]) (.cons (.int .i64 x) .nil)) h9.symm
   refine aE ?_;refine nw ?_ (by
    show(List.replicate (9 - (fT ((m % 1000000000:Nat):Int)).length) [48]).flatten.length+_<=9223372036854775807;rw [List.length_flatten,List.map_replicate,List.sum_replicate_nat];show(9 - _)*1+_<=_;omega)
   refine aE ?_;refine⟨_,rfl,aC ?_⟩;refine⟨aV.ap (q:=gs.length) rfl (by omega),?_⟩;have Ri:=aV.wg gs ((List.replicate (9 - (fT ((m % 1000000000:Nat):Int)).length) [48]).flatten++fT ((m % 1000000000:Nat):Int));have aiY:gs.length+1=(gs++[(List.replicate (9 - (fT ((m % 1000000000:Nat):Int)).length) [48]).flatten++fT ((m % 1000000000:Nat):Int)]).length:=(by rw [List.length_append];rfl);refine aE ?_;refine⟨(m/1000000000,gs++[(List.replicate (9 - (fT ((m % 1000000000:Nat):Int)).length) [48]).flatten++fT ((m % 1000000000:Nat):Int)]),⟨?_,hqd⟩,cR,sb [(64,64),(65,67)]⟩;rw [<-hq,List.append_assoc];rfl
  .have h3:cQ 0 ((dg (m/1000000000)).length:Int)=false:=h3;rw [bj]at h3;have hg:Qx m=fT ((m % 1000000000:Nat):Int):=(by unfold Qx;rw [h3]);rw [hg]at hq;refine aE ?_;refine⟨_,rfl,aC ?_⟩;refine⟨aV.ap (q:=gs.length) rfl (by omega),?_⟩;have Ri:=aV.wg gs (fT ((m % 1000000000:Nat):Int));have aiY:gs.length+1=(gs++[fT ((m % 1000000000:Nat):Int)]).length:=(by rw [List.length_append];rfl);refine aE ?_;refine⟨(m/1000000000,gs++[fT ((m % 1000000000:Nat):Int)]),⟨?_,hqd⟩,cR,sb [(64,64),(65,67)]⟩;rw [<-hq,List.append_assoc];rfl
 .have h2:cQ 0 ((dg m).length:Int)=false:=h2;rw [hdm]at h2;have h2:=aX.1 h2;obtain rfl:m=0:=by
   by_cases e:m=0
   .exact e
   .have:=nQ e;omega
  rw [Qy,List.append_nil]at hq;rw [hq];have hrl:(fI z.natAbs).reverse.length=(fI z.natAbs).length:=List.length_reverse;have dD:(fI z.natAbs).reverse≠[]:=λe=>by rw [e]at hrl;simp at hrl;omega
  have akb:(fI z.natAbs).reverse.flatten.length<=9*(fI z.natAbs).length:=by
   refine Nat.le_trans (Nat.le_of_eq ?_) hfl;rw [List.length_flatten,List.length_flatten,List.map_reverse,List.sum_reverse]
  conv=>whnf
  refine pn (hk:=?_);conv=>whnf
  refine gP (by decide) (cg KO 3 Uv ((fI z.natAbs).reverse,[]) ⟨rfl,dD,by show(fI z.natAbs).reverse.length<=_;omega,by show(fI z.natAbs).reverse.flatten.length<=_;omega⟩ (hbor:=?_) (has:=?_) ?_);rotate_left
  .have rB:(aV.l (fI z.natAbs).reverse).len=(fI z.natAbs).length*1:=(by rw [aV.ep,hrl];rfl);repeat' first|exact aB|exact rB|exact rB.symm|exact rfl|refine And.intro ?_ ?_
  .show AV.cons (.ro (fI z.natAbs).reverse.length (aV.l (fI z.natAbs).reverse)) _= .cons (.ro (fI z.natAbs).length (aV.l (fI z.natAbs).reverse)) _;rw [hrl];rfl
  conv=>whnf
  refine ay (λh4=>?_) (λh4=>?_)
  .have h4:decide (z<0)=true:=h4;rw [h4];conv=>whnf
   refine nw (aE ?_) (by show 1+(fI z.natAbs).reverse.flatten.length<=9223372036854775807;omega);exact ak.pure (aV.an _)
  .have h4:decide (z<0)=false:=h4;rw [h4];refine aE ?_;exact ak.pure (aV.an _)
def Ep:Cn prog:= .mU aR aV 98 true wy gJ (λ_ y=>oI y) adS (aw rfl rfl)
end
section
attribute [local irreducible] Cw ak bq PF Sub
def Cn.of3 [aT] {P:Program} {α β γ ρ:Type} (A:bW α) (B:bW β) (C:bW γ) (R:bW ρ) (f:FuncId) (flat:Bool) (ok:α ->β ->γ ->Prop) (g:α ->β ->γ ->ρ) (fl:flat=true ->∀y,∀a∈R.cs y,pL a=true) (pf:∀a b c,ok a b c ->PF P f (.cons (A.v a) (.cons (B.v b) (.cons (C.v c) .nil))) (R.v (g a b c))) (bd:∃fn,P.funcs[f]?=some fn/\fn.body.isSome=true):Cn P where
 f:=f
 flat:=flat
 α:=α×β×γ
 aZs:=λa=> .cons (A.v a.1) (.cons (B.v a.2.1) (.cons (C.v a.2.2) .nil))
 v:=λa=>R.v (g a.1 a.2.1 a.2.2)
 ok:=λa=>ok a.1 a.2.1 a.2.2
 inj:=λa b _ _ h=>by injection h with h1 h;injection h with h2 h;injection h with h3 _;rw [A.bO h1,B.bO h2,C.bO h3]
 dp:=λa=>⟨A.jm _,B.jm _,C.jm _,aB⟩
 pv:=λa=>R.an _
 fl:=λe a=>R.zd _ (fl e _)
 pf:=λa h=>pf a.1 a.2.1 a.2.2 h
 bd:=bd
attribute [local instance] fp
def eG (s:dh) (n:Q3):Q×Q:=fS n 0 s.1 ((0,0),(0,0))
def Ck (s:dh) (n:Q3):Prop:=s.1.length<=1000000/\Hi n 0 s.1 ((0,0),(0,0))
def pH:Cn prog:= .Gy aN aQ aK aK 175 Ck (λs n=>(eG s n).1) (λs n=>(eG s n).2) (λs n h=>Uo s.1 s.2.1.length s.2.2.length (bC.l s.2.1) (jD.l s.2.2) n (Nat.le_trans h.1 (by decide)) h.2) (aw rfl rfl)
def od (s:dh):List AV:=[aQ.list.v s.1,bC.list.v s.2.1,jD.list.v s.2.2]
end
section
attribute [local irreducible] Cw ak bq PF Sub
attribute [local instance] bZ
theorem Ht {z:Int} (h:wy z):(gJ z).length<=10000000:=by
 have h:nd z.natAbs<=500000:=h;have h1:=Nf z.natAbs;have h2:=Cj z.natAbs;have h3:(fI z.natAbs).reverse.flatten.length=(fI z.natAbs).flatten.length:=by rw [List.length_flatten,List.length_flatten,List.map_reverse,List.sum_reverse]
 unfold gJ;split
 .decide
 .split
  .rw [List.length_cons];omega
  .omega
def tY (q:Q):List Nat:=match Q.whole q with|true=>gJ q.1|false=>(gJ q.1++[47])++gJ q.2
def Cl (q:Q):Prop:=SZ q.2/\wy q.1/\wy q.2
def Ux:List (Cn prog):=[Cn.lift bZ ji,Ep]
theorem Uy (q:Q) (h:Cl q):PF prog 51 (.cons (aK.v q) .nil) (aV.v (tY q)):=by
 obtain⟨n,d⟩:=q;obtain⟨h0,h1,h2⟩:=h;have l1:(gJ n).length<=10000000:=Ht h1;have l2:(gJ d).length<=10000000:=Ht h2;have l3:(gJ n++[47]).length=(gJ n).length+1:=List.length_append;refine PF.go af ae Ux (fn:=f51) rfl rfl rfl λB0 hc=>?_;unfold tY;conv=>whnf
 refine cg Ux 0 (Cn.lift bZ ji) (n,d) h0 (aC ?_);refine ay (λh3=>?_) (λh3=>?_)
 .have h3:Q.whole (n,d)=true:=h3;rw [h3];refine aE ?_;refine cg Ux 1 Ep n h1 (aE ?_);exact ak.pure (aV.an _)
 .have h3:Q.whole (n,d)=false:=h3;rw [h3];refine aE ?_;refine cg Ux 1 Ep n h1 (aE ?_);refine nw (aE ?_) (show(gJ n).length+1<=9223372036854775807 by omega);refine cg Ux 1 Ep d h2 (aC ?_);repeat(first|(refine nw ?_;conv=>whnf)|(refine nw ?_ (show(gJ n).length+1<=9223372036854775807 by omega);conv=>whnf)|(refine nw ?_ (show(gJ n++[47]).length+(gJ d).length<=9223372036854775807 by omega);conv=>whnf))
  exact ak.pure (aV.an _)
def vr:Cn prog:= .mU aK aV 51 true Cl tY (λ_ y=>oI y) Uy (aw rfl rfl)
abbrev Pnt:=List Nat×List Nat×List Nat
def jE:bW Pnt:=aV.pair (aV.pair aV)
def kc (v:Q3):Pnt:=(tY v.1,tY v.2.1,tY v.2.2)
def Zg:List (Cn prog):=[vr]
def vt (v:Q3):Prop:=Cl v.1/\Cl v.2.1/\Cl v.2.2
theorem Zh (v:Q3) (h:vt v):PF prog 22 (.cons (aQ.v v) .nil) (jE.v (kc v)):=by
 obtain⟨a,b,c⟩:=v;obtain⟨h1,h2,h3⟩:=h;refine PF.go af ae Zg (fn:=f22) rfl rfl rfl λB0 hc=>?_;conv=>whnf
 refine Cw.bH af rfl rfl hc 4 (aC ?_);refine cg Zg 0 vr a h1 (aE ?_);refine cg Zg 0 vr b h2 (aE ?_);refine cg Zg 0 vr c h3 (aE ?_);exact ak.pure (jE.an (kc (a,b,c)))
theorem Uz (y:Pnt):∀a∈jE.cs y,pL a=true:=by
 intro a ha;have ha:a∈[AV.str y.1,.str y.2.1,.str y.2.2]:=ha;simp only [List.mem_cons,List.not_mem_nil,or_false]at ha;rcases ha with rfl|rfl|rfl<;>rfl
def rT:Cn prog:= .mU aQ jE 22 true vt kc (λ_ y=>Uz y) Zh (aw rfl rfl)
def Be:Nat ->Nat ->Nat
 |0,_=>0|f+1,m=>match Nat.beq (m % 2) 1 with|true=>0|false=>Be f (m/2)+1
def aiZ:List (AV×AV):=(List.range 255).map λi=>(.cons ((au .u64).v ((i+1:Nat):Int)) .nil,(au .i64).v ((Be 8 (i+1):Nat):Int))
theorem adT:cS prog (λ_ _ _=>none) 315 aiZ=true:=by decide+kernel
theorem Zi (B0:Nat):xw prog B0 (λ_ _ _=>none):=λt xs h v h' e=>by cases e
theorem agu (m:Nat) (h:0<m/\m<256):PF prog 315 (.cons ((au .u64).v (m:Int)) .nil) ((au .i64).v ((Be 8 m:Nat):Int)):=by
 have key:=cz af ae Zi (by decide) adT;refine(key (.cons ((au .u64).v ((m:Nat):Int)) .nil,(au .i64).v ((Be 8 m:Nat):Int)) (List.mem_map.2 ⟨m - 1,List.mem_range.2 (by omega),?_⟩)).1;rw [show m - 1+1=m by omega]
def abz:Cn prog:= .mU (au .u64) (au .i64) 315 true (λn=>0<n/\n<256) (λn=>((Be 8 n.toNat:Nat):Int)) (de _) (λn h=>by
 have:=agu n.toNat (by omega);rw [Int.toNat_of_nonneg (by omega)]at this;exact this) (aw rfl rfl)
def sQ:List (Cn prog):=[abz,Cn.lift bZ nu,Cn.lift bZ py,Cn.lift bZ vo]
def qW:Nat ->Nat ->List Int ->Option (List Int)
 |0,_,_=>none|f+1,m,acc=>match Nat.beq m 0 with|true=>some acc|false=>qW f (Nat.land m (m - 1)) (acc++[((Be 8 m:Nat):Int)])
def kZ (l:List V3) (n last:V3) (li i nx:Int):Option Int:=
 match bD i li with
 |true=>some nx|false=>(match cQ nx 0 with
  |true=>some i|false=>(match l[nx.toNat]?,l[i.toNat]? with
   |some a,some b=>some (match cQ (ja n (eF (bQ a last) (bQ b last))) 0 with
    |true=>i|false=>(match bD (ja n (eF (bQ a last) (bQ b last))) 0 with
     |true=>(match cQ (ja (bQ a last) (bQ a last)) (ja (bQ b last) (bQ b last))with|true=>i|false=>nx)
     |false=>nx))
   |_,_=>none))
def iT (l:List V3) (n last:V3) (li:Int):List Int ->Int ->Option Int
 |[],nx=>some nx|i::r,nx=>(kZ l n last li i nx).bind (iT l n last li r)
def Zj (l:List V3) (i:Int):Option V3:=match gD 0 i with|true=>l[i.toNat]?|false=>none
def kg (l:List V3) (n:V3) (on:List Int) (i0:Int):Nat ->List Int ->Option (List Int)
 |0,_=>none|f+1,out=>match out.getLast? with
  |none=>none|some li=>(match Zj l li with
   |none=>none|some last=>(match iT l n last li on (-1)with
    |none=>none|some nx=>(match bD nx i0 with|true=>some out|false=>kg l n on i0 f (out++[nx]))))
def nA (l:List V3) (n:V3) (m:Nat):Option (List Int):=
 match qW 9 m []with
 |some (i::r)=>(match (i::r).all λj=>gD 0 j &&cQ j (l.length:Int)with|true=>kg l n (i::r) i 65 [i]|false=>none)
 |_=>none
theorem nv {p q:Prop} (k:q) (h:p:=by first|exact⟨_,rfl,rfl⟩|exact aB|exact⟨_,bL.rd (P:=prog) (t:=127) rfl (by assumption),bL.rd (P:=prog) (t:=127) rfl (by assumption)⟩|exact rfl):p/\q:=⟨h,k⟩
theorem sR {p q:Prop} (h:q) (e:(True ->q) ->p:=by intro hq;(conv=>whnf);(repeat(refine nv ?_;conv=>whnf));exact hq trivial):p:=e λ_=>h
theorem adU (l:List V3) (n:V3) (m:Nat) (r:List Int) (hl:l.length<=4294967296) (hm:m<256) (h:nA l n m=some r):PF prog 262 (.cons (bL.list.v l) (.cons (bY.v (n,(m:Int))) .nil)) ((au .i64).list.v r):=by
 unfold nA at h;cases hb:qW 9 m []with
 |none=>rw [hb]at h;cases h|some on=>
 rw [hb]at h;cases on with
 |nil=>cases h|cons i0 on'=>
 have h:(match (i0::on').all λj=>gD 0 j &&cQ j (l.length:Int)with|true=>kg l n (i0::on') i0 65 [i0]|false=>none)=some r:=h;cases hal:(i0::on').all λj=>gD 0 j &&cQ j (l.length:Int)with
 |false=>rw [hal]at h;cases h|true=>
 rw [hal]at h;have h:kg l n (i0::on') i0 65 [i0]=some r:=h;have dF:∀j∈i0::on',0<=j/\j<(l.length:Int):=λj hj=>by
  have:=List.all_eq_true.1 hal j hj;simp only [Bool.and_eq_true]at this;exact⟨cG.1 this.1,aO.1 this.2⟩
 generalize hon:i0::on'=on at*;obtain⟨n0,n1,n2⟩:=n;refine PF.of_wp (c:=_) af (by decide) (fn:=f262) rfl rfl rfl (.cons (bL.list.an _) (.cons (bY.an _) .nil)) (call:=aH sQ) (λB0=>az ae sQ B0) ?_;intro B0;have hc:=az (P:=prog) ae sQ B0;conv=>whnf
 refine Cw.loop (ι:=Nat×Nat×List Int) (λq=>bl [(0,bL.list.v l),(3,.ptr (pathOf 64) 0),(5,.gs (pathOf 65) q.2.2.length 1),(6,.int .u64 (q.2.1:Int))]) (λ_=>[]) (λq=>⟨bV [(pathOf 64,.cells (bl [(0,.int .i64 n0),(1,.int .i64 n1),(2,.int .i64 n2),(3,.int .u64 (m:Int))]) 4 false),(pathOf 65,.gl ((au .i64).l q.2.2) false)],pathOf 66⟩)
  (λq=>qW q.1 q.2.1 q.2.2=some on/\q.2.1<256/\q.1+q.2.2.length=9) (λq=>q.1) ?_ (9,m,[]) ⟨hb,hm,rfl⟩ ?_
 .intro q hq;obtain⟨f,x,acc⟩:=q;obtain⟨g1,g2,g3⟩:=hq;have g1:qW f x acc=some on:=g1;have g2:x<256:=g2;have g3:f+acc.length=9:=g3;cases f with
  |zero=>cases g1|succ f=>
  refine aD af rfl rfl hc _ (aC ?_);refine ay (λh1=>?_) (λh1=>?_)
  .have hx:x≠0:=λe=>xM.1 h1 (by show((x:Nat):Int)=0;omega);have hac:acc.length<=8:=(by omega);conv=>whnf
   refine cn (l:=sQ) (by decide) 0 (c:=abz) rfl (x:Int) ⟨by omega,by omega⟩ (hk:=?_);conv=>whnf
   repeat(refine nx ?_;conv=>whnf)
   refine⟨_,rfl,aC ?_⟩;refine⟨⟨?_,rfl,((au .i64).ep acc).symm⟩,?_⟩
   .show(acc.length+1)*(8+1)<=1099511627776;omega
   conv=>whnf
   have hs:aj .u64 (Int.sub (x:Int) 1)=((x - 1:Nat):Int):=by
    show aj .u64 ((x:Int) - 1)=_;rw [aW (by omega) (by omega)];omega
   have Xh:aj .u64 (Int.sub (((f+1,x,acc):Nat×Nat×List Int).2.1:Int) 1)=((x - 1:Nat):Int):=hs;have hand:Int.ofNat (Nat.land (Int.toNat ((x:Nat):Int)) (Int.toNat (aj .u64 (Int.sub (x:Int) 1))))=((Nat.land x (x - 1):Nat):Int):=(by rw [hs];rfl);refine⟨⟨Int.natCast_nonneg _,oC (Int.natCast_nonneg _) (show(x:Int)<_ by omega),by rw [Xh];exact Int.natCast_nonneg _,by rw [Xh];exact oC (Int.natCast_nonneg _) (by omega)⟩,aC ?_⟩;repeat(refine nx ?_;conv=>whnf)
   have hg:qW f (Nat.land x (x - 1)) (acc++[((Be 8 x:Nat):Int)])=some on:=by
    have g1:(match Nat.beq x 0 with|true=>some acc|false=>qW f (Nat.land x (x - 1)) (acc++[((Be 8 x:Nat):Int)]))=some on:=g1;rwa [show Nat.beq x 0=false by cases e:Nat.beq x 0 with|false=>rfl|true=>exact absurd (Nat.eq_of_beq_eq_true e) hx]at g1
   refine⟨(f,Nat.land x (x - 1),acc++[((Be 8 x:Nat):Int)]),⟨hg,Nat.lt_of_le_of_lt Nat.and_le_left g2,by show f+(acc++[_]).length=9;rw [List.length_append];show f+(acc.length+1)=9;omega⟩,Nat.lt_succ_self f,?_⟩;refine Sub.of [(pathOf 64,some (pathOf 64)),(pathOf 65,some (pathOf 67))] [] rfl rfl rfl ?_ ?_
   .repeat' first|exact aB|exact rfl|refine And.intro ?_ ?_
    all_goals first|exact hand|(rw [List.length_append];exact rfl)|(simp;done)
   .repeat' first|exact aB|exact rfl|refine And.intro ?_ ?_
    all_goals first|exact(au .i64).ot acc [((Be 8 x:Nat):Int)]|exact(au .i64).bm _
  .have hx:x=0:=by
    have:=zc.1 h1;have this:((x:Nat):Int)=0:=this;omega
   have ha:acc=on:=by
    rw [hx]at g1;injection g1
   subst hx;subst ha;have dD:0<acc.length:=(by rw [<-hon];exact Nat.succ_pos _);have Xx:acc[0]=i0:=(by subst hon;rfl);conv=>whnf
   refine aL.go 0 rfl dD (aC ?_);refine⟨_,(au .i64).rd rfl dD,aC ?_⟩;rw [Xx];refine Cw.loop (ι:=Nat×List Int) (λq=>bl [(0,bL.list.v l),(3,.ptr (pathOf 64) 0),(5,.gs (pathOf 65) acc.length 1),(7,.gs (pathOf 66) q.2.length 1)]) (λ_=>[]) (λq=>⟨bV [(pathOf 64,.cells (bl [(0,.int .i64 n0),(1,.int .i64 n1),(2,.int .i64 n2),(3,.int .u64 (m:Int))]) 4 false),(pathOf 65,.gl ((au .i64).l acc) false),(pathOf 66,.gl ((au .i64).l q.2) false)],pathOf 67⟩)
    (λq=>kg l (n0,n1,n2) acc i0 q.1 q.2=some r/\0<q.2.length/\q.2[0]?=some i0/\q.1+q.2.length=66) (λq=>q.1) ?_ (65,[i0]) ⟨h,Nat.succ_pos _,rfl,rfl⟩ ?_
   .intro q hq;obtain⟨f,out⟩:=q;obtain⟨g1,g2,g4,g3⟩:=hq;have g1:kg l (n0,n1,n2) acc i0 f out=some r:=g1;have g2:0<out.length:=g2;have g3:f+out.length=66:=g3;have g4:out[0]?=some i0:=g4;cases f with
    |zero=>cases g1|succ f=>
    have UA:out.length - 1<out.length:=(by omega);have hgl:out.getLast?=some out[out.length - 1]:=(by rw [List.getLast?_eq_getElem?,List.getElem?_eq_getElem UA]);have g1:(match out.getLast? with
     |none=>none|some li=>(match Zj l li with
      |none=>none|some last=>(match iT l (n0,n1,n2) last li acc (-1)with
       |none=>none|some nz=>(match bD nz i0 with|true=>some out|false=>kg l (n0,n1,n2) acc i0 f (out++[nz])))))=some r:=g1
    rw [hgl]at g1;generalize hli:out[out.length - 1]=li at*;replace g1:(match Zj l li with
     |none=>none|some last=>(match iT l (n0,n1,n2) last li acc (-1)with
      |none=>none|some nz=>(match bD nz i0 with|true=>some out|false=>kg l (n0,n1,n2) acc i0 f (out++[nz]))))=some r:=g1
    cases Iv:Zj l li with
    |none=>rw [Iv]at g1;cases g1|some last=>
    rw [Iv]at g1;obtain⟨akc,UB,agv,hla⟩:0<=li/\∃UB:li.toNat<l.length,li=((li.toNat:Nat):Int)/\l[li.toNat]=last:=by
     unfold Zj at Iv;cases hle:gD 0 li with
     |false=>rw [hle]at Iv;cases Iv|true=>
      rw [hle]at Iv;have h0:=cG.1 hle;obtain⟨p,q⟩:=List.getElem?_eq_some_iff.1 Iv;exact⟨h0,p,(Int.toNat_of_nonneg h0).symm,q⟩
    subst hla;replace g1:(match iT l (n0,n1,n2) l[li.toNat] li acc (-1)with
     |none=>none|some nz=>(match bD nz i0 with|true=>some out|false=>kg l (n0,n1,n2) acc i0 f (out++[nz])))=some r:=g1
    cases hng:iT l (n0,n1,n2) l[li.toNat] li acc (-1)with
    |none=>rw [hng]at g1;cases g1|some nz=>
    rw [hng]at g1;replace g1:(match bD nz i0 with|true=>some out|false=>kg l (n0,n1,n2) acc i0 f (out++[nz]))=some r:=g1;have DQ:aj .i64 (Int.sub ((out.length:Nat):Int) 1)=((out.length - 1:Nat):Int):=by
     show aj .i64 ((out.length:Int) - 1)=_;rw [aA (by omega) (by omega)];omega
    refine aD af rfl rfl hc _ (aC ?_);refine aL.go (out.length - 1) DQ UA (aC ?_);refine⟨_,(au .i64).rd rfl UA,aC ?_⟩;rw [hli];refine Cw.loop (ι:=Nat×Int) (λq=>bl [(0,bL.list.v l),(3,.ptr (pathOf 64) 0),(5,.gs (pathOf 65) acc.length 1),(7,.gs (pathOf 66) out.length 1),(8,.int .i64 li),(9,.int .i64 q.2),(38,.gs (pathOf 65) acc.length 1),(39,.int .i64 (acc.length:Int)),(40,.int .i64 (q.1:Int))]) (λ_=>[]) (λ_=>⟨bV [(pathOf 64,.cells (bl [(0,.int .i64 n0),(1,.int .i64 n1),(2,.int .i64 n2),(3,.int .u64 (m:Int))]) 4 false),(pathOf 65,.gl ((au .i64).l acc) false),(pathOf 66,.gl ((au .i64).l out) false)],pathOf 67⟩)
     (λq=>q.1<=acc.length/\iT l (n0,n1,n2) l[li.toNat] li (acc.drop q.1) q.2=some nz) (λq=>acc.length - q.1) ?_ (0,-1) ⟨Nat.zero_le _,hng⟩ ?_
    .intro q hq;obtain⟨k,y⟩:=q;obtain⟨e1,e2⟩:=hq;have e1:k<=acc.length:=e1;have e2:iT l (n0,n1,n2) l[li.toNat] li (acc.drop k) y=some nz:=e2;refine aD af rfl rfl hc _ (aC ?_);refine ay (λh1=>?_) (λh1=>?_)
     .have hk:k<acc.length:=Int.ofNat_lt.1 (aO.1 h1);have cE:aj .i64 (Int.add (k:Int) 1)=((k+1:Nat):Int):=by
       show aj .i64 ((k:Int)+1)=_;rw [aA (by omega) (by omega)];omega
      obtain⟨j0,j1⟩:=dF acc[k] (List.getElem_mem hk);rw [List.drop_eq_getElem_cons hk]at e2;generalize hi:acc[k]=i at*;have e2:(kZ l (n0,n1,n2) l[li.toNat] li i y).bind (iT l (n0,n1,n2) l[li.toNat] li (acc.drop (k+1)))=some nz:=e2;obtain⟨y',s1,s2⟩:∃y',kZ l (n0,n1,n2) l[li.toNat] li i y=some y'/\iT l (n0,n1,n2) l[li.toNat] li (acc.drop (k+1)) y'=some nz:=by
       cases hs:kZ l (n0,n1,n2) l[li.toNat] li i y with
       |none=>rw [hs]at e2;cases e2|some y'=>rw [hs]at e2;exact⟨y',rfl,e2⟩
      unfold kZ at s1;conv=>whnf
      refine aL.go k rfl hk (aC ?_);refine⟨_,(au .i64).rd rfl hk,aC ?_⟩;rw [hi];refine ay (λh2=>?_) (λh2=>?_)
      .have h2:bD i li=true:=h2;rw [h2]at s1;injection s1 with s1;subst s1;conv=>whnf
       refine⟨(k+1,y),⟨hk,s2⟩,by show acc.length - (k+1)<acc.length - k;omega,?_⟩;refine Sub.of (gU [64,65,66]) [] rfl rfl rfl ?_ ?_
       .exact Ap
       .repeat' first|exact aB|exact rfl|refine And.intro ?_ ?_
        all_goals exact(au .i64).bm _
      .have h2:bD i li=false:=h2;rw [h2]at s1;conv=>whnf
       refine ay (λh3=>?_) (λh3=>?_)
       .have h3:cQ y 0=true:=h3;rw [h3]at s1;injection s1 with s1;subst s1;conv=>whnf
        refine⟨(k+1,i),⟨hk,s2⟩,by show acc.length - (k+1)<acc.length - k;omega,?_⟩;refine Sub.of (gU [64,65,66]) [] rfl rfl rfl ?_ ?_
        .exact Ap
        .repeat' first|exact aB|exact rfl|refine And.intro ?_ ?_
         all_goals exact(au .i64).bm _
       .have h3:cQ y 0=false:=h3;rw [h3]at s1;have hy0:0<=y:=aX.1 h3;replace s1:(match l[y.toNat]?,l[i.toNat]? with
         |some a,some b=>some (match cQ (ja (n0,n1,n2) (eF (bQ a l[li.toNat]) (bQ b l[li.toNat]))) 0 with
          |true=>i|false=>(match bD (ja (n0,n1,n2) (eF (bQ a l[li.toNat]) (bQ b l[li.toNat]))) 0 with
           |true=>(match cQ (ja (bQ a l[li.toNat]) (bQ a l[li.toNat])) (ja (bQ b l[li.toNat]) (bQ b l[li.toNat]))with|true=>i|false=>y)
           |false=>y))
         |_,_=>none)=some y':=s1
        have adV:i.toNat<l.length:=(by omega);cases hya:l[y.toNat]? with
        |none=>rw [hya]at s1;cases s1|some a=>
        obtain⟨hyl,hya⟩:=List.getElem?_eq_some_iff.1 hya;subst hya;rw [List.getElem?_eq_getElem hyl,List.getElem?_eq_getElem adV]at s1;replace s1:some (match cQ (ja (n0,n1,n2) (eF (bQ l[y.toNat] l[li.toNat]) (bQ l[i.toNat] l[li.toNat]))) 0 with
         |true=>i|false=>(match bD (ja (n0,n1,n2) (eF (bQ l[y.toNat] l[li.toNat]) (bQ l[i.toNat] l[li.toNat]))) 0 with
          |true=>(match cQ (ja (bQ l[y.toNat] l[li.toNat]) (bQ l[y.toNat] l[li.toNat])) (ja (bQ l[i.toNat] l[li.toNat]) (bQ l[i.toNat] l[li.toNat]))with|true=>i|false=>y)
          |false=>y))=some y':=s1
        have hyn:y=((y.toNat:Nat):Int):=(Int.toNat_of_nonneg hy0).symm;have ai0:i=((i.toNat:Nat):Int):=(Int.toNat_of_nonneg j0).symm;conv=>whnf
        refine aL.go y.toNat hyn hyl (aC ?_);refine⟨_,bL.rd rfl hyl,aC ?_⟩;refine aL.go li.toNat agv UB (aC ?_);refine⟨_,bL.rd rfl UB,aC ?_⟩;refine aL.go i.toNat ai0 adV (aC ?_);refine⟨_,bL.rd rfl adV,aC ?_⟩;refine aL.go li.toNat agv UB (aC ?_);refine⟨_,bL.rd rfl UB,aC ?_⟩;refine cn (l:=sQ) (by decide) 1 (c:=Cn.lift bZ nu) rfl (l[y.toNat],l[li.toNat]) trivial (hk:=?_);refine sR ?_;refine cn (l:=sQ) (by decide) 1 (c:=Cn.lift bZ nu) rfl (l[i.toNat],l[li.toNat]) trivial (hk:=?_);refine sR ?_;refine cn (l:=sQ) (by decide) 2 (c:=Cn.lift bZ py) rfl (bQ l[y.toNat] l[li.toNat],bQ l[i.toNat] l[li.toNat]) trivial (hk:=?_);refine sR ?_;refine cn (l:=sQ) (by decide) 3 (c:=Cn.lift bZ vo) rfl ((n0,n1,n2),eF (bQ l[y.toNat] l[li.toNat]) (bQ l[i.toNat] l[li.toNat])) trivial (hk:=?_);refine sR ?_;refine ay (λh4=>?_) (λh4=>?_)
        .have h4:cQ (ja (n0,n1,n2) (eF (bQ l[y.toNat] l[li.toNat]) (bQ l[i.toNat] l[li.toNat]))) 0=true:=h4;rw [h4]at s1;injection s1 with s1;subst s1;refine sR ?_;refine⟨(k+1,i),⟨hk,s2⟩,by show acc.length - (k+1)<acc.length - k;omega,?_⟩;refine Sub.of (gU [64,65,66]) [] rfl rfl rfl ?_ ?_
         .exact Ap
         .repeat' first|exact aB|exact rfl|refine And.intro ?_ ?_
          all_goals exact(au .i64).bm _
        .have h4:cQ (ja (n0,n1,n2) (eF (bQ l[y.toNat] l[li.toNat]) (bQ l[i.toNat] l[li.toNat]))) 0=false:=h4;rw [h4]at s1;refine sR ?_;refine ay (λh5=>?_) (λh5=>?_)
         .have h5:bD (ja (n0,n1,n2) (eF (bQ l[y.toNat] l[li.toNat]) (bQ l[i.toNat] l[li.toNat]))) 0=true:=h5;rw [h5]at s1;refine sR ?_;refine cn (l:=sQ) (by decide) 3 (c:=Cn.lift bZ vo) rfl (bQ l[i.toNat] l[li.toNat],bQ l[i.toNat] l[li.toNat]) trivial (hk:=?_);refine sR ?_;refine cn (l:=sQ) (by decide) 3 (c:=Cn.lift bZ vo) rfl (bQ l[y.toNat] l[li.toNat],bQ l[y.toNat] l[li.toNat]) trivial (hk:=?_);refine sR ?_;refine ay (λh6=>?_) (λh6=>?_)
          .have h6:cQ (ja (bQ l[y.toNat] l[li.toNat]) (bQ l[y.toNat] l[li.toNat])) (ja (bQ l[i.toNat] l[li.toNat]) (bQ l[i.toNat] l[li.toNat]))=true:=h6;rw [h6]at s1;injection s1 with s1;subst s1;refine sR ?_;refine⟨(k+1,i),⟨hk,s2⟩,by show acc.length - (k+1)<acc.length - k;omega,?_⟩;refine Sub.of (gU [64,65,66]) [] rfl rfl rfl ?_ ?_
           .exact Ap
           .repeat' first|exact aB|exact rfl|refine And.intro ?_ ?_
            all_goals exact(au .i64).bm _
          .have h6:cQ (ja (bQ l[y.toNat] l[li.toNat]) (bQ l[y.toNat] l[li.toNat])) (ja (bQ l[i.toNat] l[li.toNat]) (bQ l[i.toNat] l[li.toNat]))=false:=h6;rw [h6]at s1;injection s1 with s1;subst s1;refine sR ?_;refine⟨(k+1,y),⟨hk,s2⟩,by show acc.length - (k+1)<acc.length - k;omega,?_⟩;refine Sub.of (gU [64,65,66]) [] rfl rfl rfl ?_ ?_
           .exact Ap
           .repeat' first|exact aB|exact rfl|refine And.intro ?_ ?_
            all_goals exact(au .i64).bm _
         .have h5:bD (ja (n0,n1,n2) (eF (bQ l[y.toNat] l[li.toNat]) (bQ l[i.toNat] l[li.toNat]))) 0=false:=h5;rw [h5]at s1;injection s1 with s1;subst s1;refine sR ?_;refine⟨(k+1,y),⟨hk,s2⟩,by show acc.length - (k+1)<acc.length - k;omega,?_⟩;refine Sub.of (gU [64,65,66]) [] rfl rfl rfl ?_ ?_
          .exact Ap
          .repeat' first|exact aB|exact rfl|refine And.intro ?_ ?_
           all_goals exact(au .i64).bm _
     .have hk:k=acc.length:=(by have:=aX.1 h1;have this:((acc.length:Nat):Int)<=(k:Int):=this;omega);rw [hk,List.drop_length]at e2;injection e2 with e2;subst e2;conv=>whnf
      have abA:out[0]=i0:=by
       have:=(List.getElem?_eq_getElem g2).symm.trans g4;injection this
      refine aL.go 0 rfl g2 (aC ?_);refine⟨_,(au .i64).rd rfl g2,aC ?_⟩;refine ay (λh7=>?_) (λh7=>?_)
      .have h7:bD y out[0]=true:=h7;rw [abA]at h7;rw [h7]at g1;injection g1 with g1;subst g1;conv=>whnf
       exact(au .i64).gG rfl rfl rfl
      .have h7:bD y out[0]=false:=h7;rw [abA]at h7;rw [h7]at g1;replace g1:kg l (n0,n1,n2) acc i0 f (out++[y])=some r:=g1;conv=>whnf
       refine⟨_,rfl,aC ?_⟩;refine⟨⟨?_,rfl,((au .i64).ep out).symm⟩,?_⟩
       .show(out.length+1)*(8+1)<=1099511627776;omega
       conv=>whnf
       refine⟨(f,out++[y]),⟨g1,by show 0<(out++[y]).length;rw [List.length_append];omega,by show(out++[y])[0]?=some i0;rw [List.getElem?_append_left g2];exact g4,by show f+(out++[y]).length=66;rw [List.length_append];show f+(out.length+1)=66;omega⟩,Nat.lt_succ_self f,?_⟩;refine Sub.of [(pathOf 64,some (pathOf 64)),(pathOf 65,some (pathOf 65)),(pathOf 66,some (pathOf 68))] [] rfl rfl rfl ?_ ?_
       .repeat' first|exact aB|exact rfl|refine And.intro ?_ ?_
        all_goals first|(rw [List.length_append];exact rfl)|(simp;done)
       .repeat' first|exact aB|exact rfl|refine And.intro ?_ ?_
        all_goals first|exact(au .i64).ot out [y]|exact(au .i64).bm _
    .refine Sub.of (gU [64,65,66]) [] rfl rfl rfl ?_ ?_
     .exact oR
     .repeat' first|exact aB|exact rfl|refine And.intro ?_ ?_
      all_goals exact(au .i64).bm _
   .refine Sub.of (gU [64,65,66]) [] rfl rfl rfl ?_ ?_
    .exact oR
    .repeat' first|exact aB|exact rfl|refine And.intro ?_ ?_
     all_goals exact(au .i64).bm _
 .refine Sub.of [(pathOf 64,some (pathOf 64)),(pathOf 65,none)] [] rfl rfl rfl ?_ ?_
  .exact oR
  .exact oR
def UC:Cn prog:= .kP bL.list bY (au .i64).list 262 false (λl p=>l.length<=4294967296/\0<=p.2/\p.2<256/\(nA l p.1 p.2.toNat).isSome=true) (λl p=>(nA l p.1 p.2.toNat).getD []) (λe=>by cases e)
 (λl p h=>by
  obtain⟨h1,h2,h3,h4⟩:=h;obtain⟨n,m⟩:=p;obtain⟨r,hr⟩:=Option.isSome_iff_exists.1 h4;have h2:0<=m:=h2;have h3:m<256:=h3;have hr:nA l n m.toNat=some r:=hr;have:=adU l n m.toNat r h1 (by omega) hr;rw [Int.toNat_of_nonneg h2]at this;show PF _ _ _ ((au .i64).list.v ((nA l n m.toNat).getD []));rw [hr];exact this) (aw rfl rfl)
end
section
theorem PF.tabs {T T':aT} (e:T.l=T'.l) {P:Program} {f:FuncId} {xs v:AV} (h:@PF T P f xs v):@PF T' P f xs v:=λs w hs ht cargs hc=>(h s w hs (by rw [e];exact ht) cargs hc).mono λe' w' ⟨cv,s',h1,h2,h3,h4,h5⟩=>⟨cv,s',h1,h2,h3,h4,Below.tabs (λk=>e.trans k) h5⟩
def Cn.tabs {T T':aT} (e:T.l=T'.l) {P:Program} (c:@Cn T P):@Cn T' P:=
 @Cn.mk T' P (@Cn.f T P c) (@Cn.flat T P c) (@Cn.α T P c) (@Cn.aZs T P c) (@Cn.v T P c) (@Cn.ok T P c) (@Cn.inj T P c) (@Cn.dp T P c) (@Cn.pv T P c) (@Cn.fl T P c) (λa h=>PF.tabs e (@Cn.pf T P c a h)) (@Cn.bd T P c)
attribute [local irreducible] Cw ak bq PF Sub
theorem Er:PR prog 48 jE where
 eqv:=by
  rintro ⟨a,b,c⟩ ⟨d,e,f⟩;show some (aF (kz a d) (aF (kz b e) (aF (kz c f) true)))=_;rw [eN,eN,eN];congr 1;by_cases h1:a=d<;>by_cases h2:b=e<;>by_cases h3:c=f<;>simp [h1,h2,h3,aF]
 key:=by rintro ⟨a,b,c⟩;rfl
 ke:=by
  rintro ⟨a,b,c⟩;show aF (kz a a) (aF (kz b b) (aF (kz c c) true))=true;rw [eN,eN,eN];simp [aF]
theorem Es [aT] {κ β:Type} {A:bW κ} {B:bW β} {l k:List (κ×β)} (h:mE A B l=mE A B k):l=k:=by
 unfold mE at h;refine(List.map_inj_right ?_).1 h;rintro ⟨a,b⟩ ⟨c,d⟩ e;injection e with e1 e2;have e1:a=c:=A.bO e1;have e2:b=d:=B.bO e2;rw [e1,e2]
def kn (a:Q3):Q3:=jC Q.sub z3 a
abbrev Hu:=List (Pnt×Q3)
def bK (l:Hu) (v:Q3):Hu:=match cT v with
 |true=>l|false=>kW (kc (kn (aI v))) (kn (aI v)) (kW (kc (aI v)) (aI v) l)
structure KP (v:Q3):Prop where
 p:mI v
 n:cT v=false ->vt (aI v)/\rP kq z3 (aI v)/\vt (kn (aI v))
def fcL (f:lS):List AV:=oc f.1++[.bool (decide (f.2.1.1<0)),aM.v f.2.1.1.natAbs,.bool (decide (f.2.1.2<0)),aM.v f.2.1.2.natAbs,(au .i64).list.v f.2.2]
abbrev IxF:=dh×dh×lS
abbrev IxP:=dh×dh×Q3×Q3
def hAF (i:IxF) (l:Hu):List (Nat×AO):=[(64,cl (od i.1)),(65,cl (od i.2.1)),(66,.mp (mE jE aQ l)),(67,cl [.map (pathOf 66)]),(68,cl (fcL i.2.2))]
def Nh:Av (IxF×Hu) where
 ar:=λi=> .cons (aQ.v i.1.2.2.1) (.cons (.ptr (pathOf 67) 0) .nil)
 h0:=λi=>hp (hAF i.1 i.2) 69
 v:=λ_=> .aS .nil
 H:=λi=>(hAF i.1 (bK i.2 i.1.2.2.1)).map λx=>(pathOf x.1,x.2)
 N:=λ_=>pathOf 71
 ok:=λi=>KP i.1.2.2.1
 inj:=by
  rintro ⟨i,l⟩ ⟨j,k⟩ _ _ e1 e2;injection e1 with e0 _;have e1:i.2.2.1=j.2.2.1:=aQ.bO e0;clear e0;have g4:some (cl (od i.1))=some (cl (od j.1)):=congrArg (λh:Heap=>h.t.get (pathOf 64)) e2;have g5:some (cl (od i.2.1))=some (cl (od j.2.1)):=congrArg (λh:Heap=>h.t.get (pathOf 65)) e2;have g6:some (AO.mp (mE jE aQ l))=some (.mp (mE jE aQ k)):=congrArg (λh:Heap=>h.t.get (pathOf 66)) e2;have g8:some (cl (fcL i.2.2))=some (cl (fcL j.2.2)):=congrArg (λh:Heap=>h.t.get (pathOf 68)) e2;injection g6 with g6;injection g6 with g6;have g6:=Es g6;subst g6;refine⟨rfl,?_,rfl⟩;show(hAF i (bK l (i.2.2.1))).map _=(hAF j (bK l (j.2.2.1))).map _;rw [e1];unfold hAF;rw [Option.some.inj g4,Option.some.inj g5,Option.some.inj g8]
section
abbrev iAF:aT:=pR bZ 5
attribute [local instance] iAF
def Qz:List (Cn prog):=[Cn.lift iAF nT,Cn.tabs (T:=bZ) (T':=iAF) rfl rT,Cn.lift iAF tT]
theorem agw (i:IxF) (l:Hu) (h:KP i.2.2.1) (B0:Nat) {r:Tr AV} (hr:iH (.cons (aQ.v i.2.2.1) (.cons (.ptr (pathOf 67) 0) .nil)) 0 f168.ntmps .leaf=some r):
  Cw prog B0 ⟨prog,168,f168.ntmps,none,aH Qz,0⟩ (vK f168) r [] (hp (hAF i l) 69)
   (QK (fK prog f168 (.aS .nil) ((hAF i (bK l i.2.2.1)).map λx=>(pathOf x.1,x.2)) (pathOf 71)) (fK prog f168 (.aS .nil) ((hAF i (bK l i.2.2.1)).map λx=>(pathOf x.1,x.2)) (pathOf 71)) (λ_ _ _ _=>False)):=by
 cases hr;obtain⟨hp,hn⟩:=h;have hc:=az (P:=prog) ae Qz B0;refine aD af rfl rfl hc _ ?_;obtain⟨l',yw⟩:∃l',l'=bK l i.2.2.1:=⟨_,rfl⟩
 rw [<-yw];obtain⟨a,b,f⟩:=i;have hp:mI f.1:=hp;have hn:cT f.1=false ->vt (aI f.1)/\rP kq z3 (aI f.1)/\vt (kn (aI f.1)):=hn;have yw:l'=bK l f.1:=yw;conv=>whnf
 refine cg Qz 0 (Cn.lift iAF nT) f.1 hp (aE ?_);refine ay (λh1=>?_) (λh1=>?_)
 .have h1:aY (bD (qU f.1) 0)=true:=h1;have hz:cT f.1=true:=by
   cases hb:cT f.1 with
   |true=>rfl|false=>unfold qU at h1;rw [hb]at h1;cases h1
  have e:bK l f.1=l:=by unfold bK;rw [hz]
  rw [e]at yw;subst yw;conv=>whnf
  repeat' first|exact aB|exact rfl|refine And.intro ?_ ?_
 .have h1:aY (bD (qU f.1) 0)=false:=h1;have hz:cT f.1=false:=by
   cases hb:cT f.1 with
   |false=>rfl|true=>unfold qU at h1;rw [hb]at h1;cases h1
  obtain⟨n1,n2,n3⟩:=hn hz;have e:bK l f.1=kW (kc (kn (aI f.1))) (kn (aI f.1)) (kW (kc (aI f.1)) (aI f.1) l):=by unfold bK;rw [hz]
  rw [e]at yw;subst yw;conv=>whnf
  refine cg Qz 1 (Cn.tabs (T:=bZ) (T':=iAF) rfl rT) (aI f.1) n1 (aE ?_);refine wi (PS (A:=jE) (B:=aQ) (key:=kc (aI f.1)) (v:=aI f.1) (l:=l) Er rfl rfl rfl rfl rfl) (aE ?_);refine cg Qz 2 (Cn.lift iAF tT) (aI f.1) n2 (aE ?_);refine cg Qz 1 (Cn.tabs (T:=bZ) (T':=iAF) rfl rT) (kn (aI f.1)) n3 (aE ?_);refine wi (PS (A:=jE) (B:=aQ) (key:=kc (kn (aI f.1))) (v:=kn (aI f.1)) (l:=kW (kc (aI f.1)) (aI f.1) l) Er rfl rfl rfl rfl rfl) (aE ?_);repeat' first|exact aB|exact rfl|refine And.intro ?_ ?_
end
theorem UD {B0:Nat} {call:eL ->AV ->Heap ->CR} (aZ:@aU bZ prog B0 call):@aU bZ prog B0 (fQ 168 Nh call):=
 jX ae 5 aZ (fn:=f168) rfl rfl Nh (λi hi=>⟨_,_,rfl,rfl,(show(pathOf 69).toNat<=(pathOf 71).toNat by decide),agw i.1 i.2 hi B0 rfl⟩)
def hAP (i:IxP) (l:Hu):List (Nat×AO):=[(64,cl (od i.1)),(65,cl (od i.2.1)),(66,.mp (mE jE aQ l)),(67,cl [.map (pathOf 66)]),(68,cl (oc i.2.2.1)),(69,cl (oc i.2.2.2))]
def Ni:Av (IxP×Hu) where
 ar:=λi=> .cons (aQ.v (aG i.1.2.2.1 i.1.2.2.2)) (.cons (.ptr (pathOf 67) 0) .nil)
 h0:=λi=>hp (hAP i.1 i.2) 70
 v:=λ_=> .aS .nil
 H:=λi=>(hAP i.1 (bK i.2 (aG i.1.2.2.1 i.1.2.2.2))).map λx=>(pathOf x.1,x.2)
 N:=λ_=>pathOf 72
 ok:=λi=>KP (aG i.1.2.2.1 i.1.2.2.2)
 inj:=by
  rintro ⟨i,l⟩ ⟨j,k⟩ _ _ e1 e2;injection e1 with e0 _;have e1:aG i.2.2.1 i.2.2.2=aG j.2.2.1 j.2.2.2:=aQ.bO e0;clear e0;have g4:some (cl (od i.1))=some (cl (od j.1)):=congrArg (λh:Heap=>h.t.get (pathOf 64)) e2;have g5:some (cl (od i.2.1))=some (cl (od j.2.1)):=congrArg (λh:Heap=>h.t.get (pathOf 65)) e2;have g6:some (AO.mp (mE jE aQ l))=some (.mp (mE jE aQ k)):=congrArg (λh:Heap=>h.t.get (pathOf 66)) e2;have g8:some (cl (oc i.2.2.1))=some (cl (oc j.2.2.1)):=congrArg (λh:Heap=>h.t.get (pathOf 68)) e2;have g9:some (cl (oc i.2.2.2))=some (cl (oc j.2.2.2)):=congrArg (λh:Heap=>h.t.get (pathOf 69)) e2;injection g6 with g6;injection g6 with g6;have g6:=Es g6;subst g6;refine⟨rfl,?_,rfl⟩;show(hAP i (bK l (aG i.2.2.1 i.2.2.2))).map _=(hAP j (bK l (aG j.2.2.1 j.2.2.2))).map _;rw [e1];unfold hAP;rw [Option.some.inj g4,Option.some.inj g5,Option.some.inj g8,Option.some.inj g9]
section
abbrev iAP:aT:=pR bZ 6
attribute [local instance] iAP
def QA:List (Cn prog):=[Cn.lift iAP nT,Cn.tabs (T:=bZ) (T':=iAP) rfl rT,Cn.lift iAP tT]
theorem agx (i:IxP) (l:Hu) (h:KP (aG i.2.2.1 i.2.2.2)) (B0:Nat) {r:Tr AV} (hr:iH (.cons (aQ.v (aG i.2.2.1 i.2.2.2)) (.cons (.ptr (pathOf 67) 0) .nil)) 0 f168.ntmps .leaf=some r):
  Cw prog B0 ⟨prog,168,f168.ntmps,none,aH QA,0⟩ (vK f168) r [] (hp (hAP i l) 70)
   (QK (fK prog f168 (.aS .nil) ((hAP i (bK l (aG i.2.2.1 i.2.2.2))).map λx=>(pathOf x.1,x.2)) (pathOf 72)) (fK prog f168 (.aS .nil) ((hAP i (bK l (aG i.2.2.1 i.2.2.2))).map λx=>(pathOf x.1,x.2)) (pathOf 72)) (λ_ _ _ _=>False)):=by
 cases hr;obtain⟨hp,hn⟩:=h;have hc:=az (P:=prog) ae QA B0;refine aD af rfl rfl hc _ ?_;obtain⟨l',yw⟩:∃l',l'=bK l (aG i.2.2.1 i.2.2.2):=⟨_,rfl⟩
 rw [<-yw];obtain⟨a,b,x,y⟩:=i;have hp:mI (aG x y):=hp;have hn:cT (aG x y)=false ->vt (aI (aG x y))/\rP kq z3 (aI (aG x y))/\vt (kn (aI (aG x y))):=hn;have yw:l'=bK l (aG x y):=yw;conv=>whnf
 refine cg QA 0 (Cn.lift iAP nT) (aG x y) hp (aE ?_);refine ay (λh1=>?_) (λh1=>?_)
 .have h1:aY (bD (qU (aG x y)) 0)=true:=h1;have hz:cT (aG x y)=true:=by
   cases hb:cT (aG x y)with
   |true=>rfl|false=>unfold qU at h1;rw [hb]at h1;cases h1
  have e:bK l (aG x y)=l:=by unfold bK;rw [hz]
  rw [e]at yw;subst yw;conv=>whnf
  repeat' first|exact aB|exact rfl|refine And.intro ?_ ?_
 .have h1:aY (bD (qU (aG x y)) 0)=false:=h1;have hz:cT (aG x y)=false:=by
   cases hb:cT (aG x y)with
   |false=>rfl|true=>unfold qU at h1;rw [hb]at h1;cases h1
  obtain⟨n1,n2,n3⟩:=hn hz;have e:bK l (aG x y)=kW (kc (kn (aI (aG x y)))) (kn (aI (aG x y))) (kW (kc (aI (aG x y))) (aI (aG x y)) l):=by unfold bK;rw [hz]
  rw [e]at yw;subst yw;conv=>whnf
  refine cg QA 1 (Cn.tabs (T:=bZ) (T':=iAP) rfl rT) (aI (aG x y)) n1 (aE ?_);refine wi (PS (A:=jE) (B:=aQ) (key:=kc (aI (aG x y))) (v:=aI (aG x y)) (l:=l) Er rfl rfl rfl rfl rfl) (aE ?_);refine cg QA 2 (Cn.lift iAP tT) (aI (aG x y)) n2 (aE ?_);refine cg QA 1 (Cn.tabs (T:=bZ) (T':=iAP) rfl rT) (kn (aI (aG x y))) n3 (aE ?_);refine wi (PS (A:=jE) (B:=aQ) (key:=kc (kn (aI (aG x y)))) (v:=kn (aI (aG x y))) (l:=kW (kc (aI (aG x y))) (aI (aG x y)) l) Er rfl rfl rfl rfl rfl) (aE ?_);repeat' first|exact aB|exact rfl|refine And.intro ?_ ?_
end
theorem UE {B0:Nat} {call:eL ->AV ->Heap ->CR} (aZ:@aU bZ prog B0 call):@aU bZ prog B0 (fQ 168 Ni call):=
 jX ae 6 aZ (fn:=f168) rfl rfl Ni (λi hi=>⟨_,_,rfl,rfl,(show(pathOf 70).toNat<=(pathOf 72).toNat by decide),agx i.1 i.2 hi B0 rfl⟩)
end
section
attribute [local irreducible] Cw ak bq PF Sub
attribute [local instance] bZ
theorem Nj {ι:Type} {F:Av ι} {call:eL ->AV ->Heap ->CR} {f0:FuncId} {xs:AV} {h:Heap} (dD:∀i,F.ok i ->h≠F.h0 i) {K:AV ->Heap ->Prop} (hk:∃v h',call (.fn f0) xs h= .ret v h'/\K v h'):∃v h',fQ f0 F call (.fn f0) xs h= .ret v h'/\K v h':=by
 obtain⟨v,h',e,k⟩:=hk;refine⟨v,h',?_,k⟩;unfold fQ;rw [dif_neg]
 .exact e
 .rintro ⟨i,hi,_,_,e⟩;exact dD i hi e
theorem agy {x:R} {r:Tr AV} {m:List Pos} {h:Heap} (e:x= .ok r m h):x≠.fail:=by subst e;intro e;cases e
def Fl (a b:dh):List Q3:=(a.2.1++b.2.1).map (·.1)++(dw a).flatMap λx=>(dw b).map λy=>aG x y
def Fm (a b:dh):Hu:=(Fl a b).foldl bK []
def kL (a b:dh):List Q3:=Iw nU ((Fm a b).map (·.2))
structure zM (a b:dh):Prop where
 f0:0<(a.2.1++b.2.1).length
 fn:(a.2.1++b.2.1).length<=1000000
 da:zI a
 db:zI b
 cr:∀x∈dw a,∀y∈dw b,pA x y
 ax:∀v∈Fl a b,KP v
 ne:Fm a b≠[]
 n:(Fm a b).length<=1000000
 int:∀x∈Fm a b,Ho x.2
 Yh:∀x∈Fm a b,∀y∈Fm a b,dH x.2 y.2=0 ->x.2=y.2
 cmp:∀x∈Fm a b,∀y∈Fm a b,rP dt x.2 y.2
def okS (xs:List Q3):Prop:=xs≠[]/\xs.length<=1000000/\(∀x∈xs,Ho x)/\∀x∈xs,∀y∈xs,rP dt x y/\(dH x y=0 ->x=y)
theorem adW:Tg bZ prog 173 174 aQ nU okS where
 agg:=rfl
 shelf:=sort_vec
 swo:=Ze.swo
 Yh xs h x hx y hy:=Ch (h.2.2.1 x hx) (h.2.2.1 y hy) (h.2.2.2 x hx y hy).2
 ne xs h:=⟨h.1,by have:=h.2.1;omega⟩
 bd:=aw rfl rfl
 bg:=aw rfl rfl
 pf xs h x hx y hy:=by
  rw [Hq (h.2.2.1 x hx) (h.2.2.1 y hy)];exact ags x y (h.2.2.2 x hx y hy).1
def tAx:List (Cn prog):=[Cn.lift bZ abx,Cn.lift bZ wu,Cn.lift bZ qP]
def cAx:eL ->AV ->Heap ->CR:=fQ 168 Nh (fQ 168 Ni (BU 173 174 aQ nU okS (aH tAx)))
theorem UF (B0:Nat):aU prog B0 cAx:=UD (UE (Th ae adW (az ae tAx B0)))
theorem adX (a b:dh) (h:zM a b):PF prog 102 (.cons (aN.v a) (.cons (aN.v b) .nil)) (aQ.list.v (kL a b)):=by
 refine PF.of_wp af (by decide) (fn:=f102) rfl rfl rfl (.cons (aN.an _) (.cons (aN.an _) .nil)) (call:=cAx) (λB0=>UF B0) λB0=>?_;have hc:=UF B0;have hfl:([a.2.1,b.2.1]:List (List lS)).flatten=a.2.1++b.2.1:=by simp
 conv=>whnf
 refine bS (by decide) (bS (by decide) (xN (by decide) (cC (l:=tAx) (by decide) 0 (c:=Cn.lift bZ abx) rfl [a.2.1,b.2.1] ?_ (v:=bC.list.v (a.2.1++b.2.1)) (congrArg bC.list.v hfl) (hbor:=?_) (has:=?_) (hk:=?_))))
 .show 0<([a.2.1,b.2.1]:List (List lS)).flatten.length/\([a.2.1,b.2.1]:List (List lS)).flatten.length<=1048576/\2<=1048576;rw [hfl];exact⟨h.f0,Nat.le_trans h.fn (by decide),by decide⟩
 .exact oR
 .rfl
 obtain⟨fs,hfs⟩:∃fs,fs=a.2.1++b.2.1:=⟨_,rfl⟩
 have qA:∀q (hq:q<fs.length),fs[q].1∈Fl a b:=λq hq=>by
  unfold Fl;rw [<-hfs];exact List.mem_append_left _ (List.mem_map_of_mem (List.getElem_mem hq))
 have Gb:=h.fn;rw [<-hfs]at Gb ⊢;conv=>whnf
 refine Cw.lp (σ:=Unit) af rfl rfl hc fs.length (λq _=>[(2,.ptr (pathOf 64) 0),(3,.ptr (pathOf 65) 0),(5,.ptr (pathOf 67) 0),(6,.func (.func 168) .nil (.cons (.ptr (pathOf 67) 0) .nil)),(24,bC.list.v fs),(25,.int .i64 (fs.length:Int)),(26,.int .i64 (q:Int))])
  (λq _=>hp [(64,cl (od a)),(65,cl (od b)),(66,.mp (mE jE aQ (((fs.take q).map (·.1)).foldl bK []))),(67,cl [.map (pathOf 66)])] 68) (λ_ _=>True) () aB ?_ (λq _ hq _=>?_)
 .have hp0:=jh jE aQ ([]:Hu);exact sb [(64,64),(65,65),(66,66),(67,67)]
 conv=>whnf
 refine ay (λh1=>?_) (λh1=>?_)
 .have hq:=pT h1;have cE:=pS hq (by omega);have mw:((fs.take (q+1)).map (·.1)).foldl bK []=bK (((fs.take q).map (·.1)).foldl bK []) fs[q].1:=by
   rw [List.take_succ_eq_append_getElem hq,List.map_append,List.foldl_append];rfl
  rw [mw];generalize ((fs.take q).map (·.1)).foldl bK []=l at*;have hp0:=jh jE aQ (bK l fs[q].1);conv=>whnf
  refine aL.go q rfl hq (aC ?_);refine⟨_,bC.rd rfl hq,aE ?_⟩;refine lO (F:=Nh) ((a,b,fs[q]),l) (h.ax _ (qA q hq)) (hk:=?_);refine aE ?_;exact⟨(),hq,aB,sb [(64,64),(65,65),(66,66),(67,67)]⟩
 .have Iu:=rN hq h1;subst Iu;rw [List.take_length];obtain⟨l,hl⟩:∃l,l=(fs.map (·.1)).foldl bK []:=⟨_,rfl⟩
  rw [<-hl];conv=>whnf
  refine bS (by decide) (bS (by decide) (xN (by decide) (cg tAx 1 (Cn.lift bZ wu) b h.db (aE ?_))));refine bS (by decide) (bS (by decide) (xN (by decide) (cg tAx 1 (Cn.lift bZ wu) a h.da (aC ?_))));have hX:(dw a).length<=1000:=Nat.le_trans (mf a.1 a.2.2 []).2 (by show 0+a.2.2.length<=1000;have:=h.da.n;omega);have hY:(dw b).length<=1000:=Nat.le_trans (mf b.1 b.2.2 []).2 (by show 0+b.2.2.length<=1000;have:=h.db.n;omega);have hM:Fm a b=((dw a).flatMap λx=>(dw b).map λy=>aG x y).foldl bK l:=by
   unfold Fm Fl;rw [<-hfs,List.foldl_append,<-hl]
  have hcr:=h.cr;have hax:∀x∈dw a,∀y∈dw b,KP (aG x y):=λx hx y hy=>h.ax _ (by
   unfold Fl;exact List.mem_append_right _ (List.mem_flatMap.2 ⟨x,hx,List.mem_map_of_mem hy⟩))
  obtain⟨X,hXd⟩:∃X,X=dw a:=⟨_,rfl⟩
  obtain⟨Y,hYd⟩:∃Y,Y=dw b:=⟨_,rfl⟩
  rw [<-hXd]at hX hM hcr hax ⊢;rw [<-hYd]at hY hM hcr hax ⊢;refine Cw.lp (σ:=Unit) af rfl rfl hc X.length (λq _=>[(5,.ptr (pathOf 67) 0),(6,.func (.func 168) .nil (.cons (.ptr (pathOf 67) 0) .nil)),(9,aQ.list.v Y),(38,aQ.list.v X),(39,.int .i64 (X.length:Int)),(40,.int .i64 (q:Int))])
   (λq _=>hp [(64,cl (od a)),(65,cl (od b)),(66,.mp (mE jE aQ (((X.take q).flatMap λx=>Y.map λy=>aG x y).foldl bK l))),(67,cl [.map (pathOf 66)])] 68) (λ_ _=>True) () aB ?_ (λq _ hq _=>?_)
  .have hp0:=jh jE aQ l;exact sb [(64,64),(65,65),(66,66),(67,67)]
  conv=>whnf
  refine ay (λh2=>?_) (λh2=>?_)
  .have hq:=pT h2;have cE:=pS hq (by omega);have mw:((X.take (q+1)).flatMap λx=>Y.map λy=>aG x y).foldl bK l=(Y.map λy=>aG X[q] y).foldl bK (((X.take q).flatMap λx=>Y.map λy=>aG x y).foldl bK l):=by
    rw [List.take_succ_eq_append_getElem hq,List.flatMap_append,List.foldl_append];simp
   rw [mw];generalize ((X.take q).flatMap λx=>Y.map λy=>aG x y).foldl bK l=l2 at*;conv=>whnf
   refine aL.go q rfl hq (aC ?_);refine⟨_,aQ.rd rfl hq,aE ?_⟩;have As:X[q]∈X:=List.getElem_mem hq;generalize X[q]=x at*;refine Cw.lp (σ:=Unit) af rfl rfl hc Y.length (λp _=>[(5,.ptr (pathOf 67) 0),(6,.func (.func 168) .nil (.cons (.ptr (pathOf 67) 0) .nil)),(9,aQ.list.v Y),(11,.ptr (pathOf 68) 0),(38,aQ.list.v X),(39,.int .i64 (X.length:Int)),(40,.int .i64 (q:Int)),(44,aQ.list.v Y),(45,.int .i64 (Y.length:Int)),(46,.int .i64 (p:Int))])
    (λp _=>hp [(64,cl (od a)),(65,cl (od b)),(66,.mp (mE jE aQ (((Y.take p).map λy=>aG x y).foldl bK l2))),(67,cl [.map (pathOf 66)]),(68,cl (oc x))] 69) (λ_ _=>True) () aB ?_ (λp _ hp _=>?_)
   .have hp0:=jh jE aQ l2;exact sb [(64,64),(65,65),(66,66),(67,67),(68,68)]
   conv=>whnf
   refine ay (λh3=>?_) (λh3=>?_)
   .have hp:=pT h3;have UG:=pS hp (by omega);have ai1:((Y.take (p+1)).map λy=>aG x y).foldl bK l2=bK (((Y.take p).map λy=>aG x y).foldl bK l2) (aG x Y[p]):=by
     rw [List.take_succ_eq_append_getElem hp,List.map_append,List.foldl_append];rfl
    rw [ai1];generalize ((Y.take p).map λy=>aG x y).foldl bK l2=l3 at*;have hp0:=jh jE aQ (bK l3 (aG x Y[p]));conv=>whnf
    refine aL.go p rfl hp (aC ?_);refine⟨_,aQ.rd rfl hp,aE ?_⟩;refine bS (by decide) (bS (by decide) (xN (by decide) (cg tAx 2 (Cn.lift bZ qP) (x,Y[p]) (hcr _ As _ (List.getElem_mem hp)) (aE ?_))));refine Nj (λi _ e=>absurd (congrArg Heap.n e) (show pathOf 70≠pathOf 69 by decide)) (lO (F:=Ni) ((a,b,x,Y[p]),l3) (hax _ As _ (List.getElem_mem hp)) (hk:=?_));refine aE ?_;exact⟨(),hp,aB,sb [(64,64),(65,65),(66,66),(67,67),(68,68)]⟩
   .obtain rfl:=rN hp h3;rw [List.take_length];have hp0:=jh jE aQ ((Y.map λy=>aG x y).foldl bK l2);refine aE ?_;exact⟨(),hq,aB,sb [(64,64),(65,65),(66,66),(67,67)]⟩
  .have Iu:=rN hq h2;subst Iu;rw [List.take_length,<-hM];have hMn:=h.n;have ai2:=h.ne;have hMi:=h.int;have hMc:=h.cmp;have hMa:=h.Yh;have hax:kL a b=Iw nU ((Fm a b).map (·.2)):=rfl;rw [hax];generalize Fm a b=M at*;conv=>whnf
   have hml:=Kg jE aQ M;have hpu:=jh jE aQ M;obtain⟨vs,xG⟩:∃vs:List Nat ->List Q3,∀seen,vs seen=seen.reverse.map λj=>(M[j]?.map (·.2)).getD z3:=⟨_,λ_=>rfl⟩
   have Rf:∀seen,(vs seen).length=seen.length:=λseen=>by rw [xG,List.length_map,List.length_reverse]
   have hv0:vs []=[]:=(by rw [xG];rfl);refine Cw.loop (ι:=List Nat) (λseen=>bl [(14,.gs (pathOf 68) (vs seen).length 12),(58,.ptr (pathOf 67) 0)]) (λ_=>[]) (λseen=>hp [(66,.mp (mE jE aQ M)),(67,.mi (pathOf 66) M.length seen),(68,.gl (aQ.l (vs seen)) false)] 69)
    (λseen=>seen.Nodup/\∀j∈seen,j<M.length) (λseen=>M.length - seen.length) ?_ [] ⟨List.nodup_nil,λj hj=>by cases hj⟩ ?_
   .intro seen hse;obtain⟨kO,cR⟩:=hse;obtain⟨L,hL,hLq⟩:=afE (A:=jE) (B:=aQ) (x:= .tmp 58) (r:=bl [(14,.gs (pathOf 68) (vs seen).length 12),(58,.ptr (pathOf 67) 0)]) (h:=hp [(66,.mp (mE jE aQ M)),(67,.mi (pathOf 66) M.length seen),(68,.gl (aQ.l (vs seen)) false)] 69) (id:=pathOf 67) (m:=pathOf 66) (n:=M.length) (seen:=seen) (l:=M) rfl rfl rfl rfl;refine Cw.seq (Cw.next (P:=prog) (cx:=⟨prog,102,f102.ntmps,none,cAx,0⟩) (by rfl) hc (by rfl) (by rfl) (by rfl) hL λq hq=>?_);rcases hLq q hq with ⟨AH,rfl⟩|⟨j,hj,hjn,rfl⟩
    .refine⟨_,rfl,agy rfl,?_⟩;show Cw _ _ _ _ _ _ _ _;have zo:(vs seen).Perm (M.map (·.2)):=(by rw [xG];exact PW AH kO cR z3);have dF:∀x∈vs seen,∃y∈M,y.2=x:=λx hx=>List.mem_map.1 (zo.subset hx);have hlen:(vs seen).length=M.length:=(by rw [zo.length_eq,List.length_map]);have gy:okS (vs seen):=by
      refine⟨λe=>ai2 ?_,by omega,λx hx=>?_,λx hx y hy=>?_⟩
      .rw [e]at hlen;exact List.length_eq_zero_iff.1 hlen.symm
      .obtain⟨y,hy,rfl⟩:=dF x hx;exact hMi y hy
      .obtain⟨u,hu,rfl⟩:=dF x hx;obtain⟨v,hv,rfl⟩:=dF y hy;exact⟨hMc u hu v hv,hMa u hu v hv⟩
     have ai3:Iw nU (vs seen)=Iw nU (M.map (·.2)):=GG Ze.swo (λx hx y hy=>by
      obtain⟨u,hu,rfl⟩:=List.mem_map.1 hx;obtain⟨v,hv,rfl⟩:=List.mem_map.1 hy;exact Ch (hMi u hu) (hMi v hv) (hMa u hu v hv)) zo
     have wP:(vs seen).length=(Iw nU (M.map (·.2))).length:=(by rw [(jY nU _).length_eq,<-zo.length_eq]);refine aD af rfl rfl hc _ (aE ?_);refine bS (by decide) (bS (by decide) (Yg (E:=aQ) (id:=pathOf 68) (xs:=vs seen) gy rfl rfl rfl ?_));rw [ai3];refine aE ?_;exact aQ.gG rfl rfl wP
    .refine⟨_,rfl,agy rfl,?_⟩;show Cw _ _ _ _ _ _ _ _;refine aD af rfl rfl hc _ ?_;have hvc:vs (j::seen)=vs seen++[M[j].2]:=by
      rw [xG,xG,List.reverse_cons,List.map_append,List.map_singleton,List.getElem?_eq_getElem hj];rfl
     have ai4:(vs seen).length+1=(vs seen++[M[j].2]).length:=(by rw [List.length_append];rfl);have wP:seen.length<M.length:=by
      have h1:=List.Nodup.length_le_of_subset (l₁:=j::seen) (l₂:=List.range M.length) (List.nodup_cons.2 ⟨hjn,kO⟩) (λx hx=>List.mem_range.2 (by
       rcases List.mem_cons.1 hx with rfl|hx
       .exact hj
       .exact cR x hx))
      rw [List.length_range,List.length_cons]at h1;omega
     have hvb:(vs seen).length<1048576:=(by rw [Rf];omega);have Ri:=aQ.wg (vs seen) M[j].2;have ai5:(j::seen).Nodup:=List.nodup_cons.2 ⟨hjn,kO⟩;have ai6:∀k∈j::seen,k<M.length:=λk hk=>by
      rcases List.mem_cons.1 hk with rfl|hk
      .exact hj
      .exact cR k hk
     rw [<-hvc]at ai4 Ri;refine aE ?_;refine wi (aiz (A:=jE) (B:=aQ) (id:=pathOf 67) (m:=pathOf 66) (n:=M.length) (j:=j) (seen:=seen) (l:=M) (by rfl) (by rfl) (by rfl) rfl hj) (aE ?_);refine⟨_,rfl,aC ?_⟩;refine⟨aQ.ap (q:=(vs seen).length) rfl hvb,aE ?_⟩;exact⟨j::seen,⟨ai5,ai6⟩,by show M.length - (seen.length+1)<M.length - seen.length;omega,sb [(66,66),(67,67),(68,71)]⟩
   .rw [hv0];exact sb [(66,66),(67,68),(68,0)]
def Et:Cn prog:= .kP aN aN aQ.list 102 false zM kL (λe=>by cases e) adX (aw rfl rfl)
end
section
def Bz (k:Nat) (z:Int):Prop:=z.natAbs<2 ^ k
def Bq (k m:Nat) (q:Q):Prop:=Bz k q.1/\Bz m q.2
def Bv (k m:Nat) (a:Q3):Prop:=Bq k m a.1/\Bq k m a.2.1/\Bq k m a.2.2
theorem Bz.mono {k m:Nat} {z:Int} (h:Bz k z) (hk:k<=m):Bz m z:=Nat.lt_of_lt_of_le h (Nat.pow_le_pow_right (by decide) hk)
theorem Bq.mono {k m k' m':Nat} {z:Q} (h:Bq k m z) (hk:k<=k') (hm:m<=m'):Bq k' m' z:=⟨h.1.mono hk,h.2.mono hm⟩
theorem Bv.mono {k m k' m':Nat} {z:Q3} (h:Bv k m z) (hk:k<=k') (hm:m<=m'):Bv k' m' z:=⟨h.1.mono hk hm,h.2.1.mono hk hm,h.2.2.mono hk hm⟩
theorem Bz.nd {k n:Nat} {z:Int} (h:Bz k z) (hk:k<=32*n):nd z.natAbs<=n:=xa (by
 rw [show(4294967296:Nat)=2 ^ 32 from rfl,<-Nat.pow_mul];exact h.mono hk)
theorem Bz.sz {k:Nat} {z:Int} (h:Bz k z) (hk:k<=1000000):SZ z:=Nat.lt_of_le_of_lt (h.nd (n:=31250) hk) (by decide)
theorem Bz.sh {k:Nat} {z:Int} (h:Bz k z) (hk:k<=1000000):SH z:=Nat.lt_of_le_of_lt (h.nd (n:=31250) hk) (by decide)
theorem Bz.txt {k:Nat} {z:Int} (h:Bz k z) (hk:k<=1000000):wy z:=Nat.le_trans (h.nd (n:=31250) hk) (by decide)
theorem Bz.mul {k m:Nat} {a b:Int} (ha:Bz k a) (hb:Bz m b):Bz (k+m) (a*b):=by
 unfold Bz;rw [Int.natAbs_mul,Nat.pow_add];exact Nat.mul_lt_mul'' ha hb
theorem Bz.add {k:Nat} {a b:Int} (ha:Bz k a) (hb:Bz k b):Bz (k+1) (a+b):=by
 unfold Bz at*;have:=Int.natAbs_add_le a b;rw [Nat.pow_succ];omega
theorem Bz.neg {k:Nat} {a:Int} (ha:Bz k a):Bz k (-a):=by unfold Bz;rw [Int.natAbs_neg];exact ha
theorem Bz.one {k:Nat} (hk:0<k):Bz k 1:=by
 show 1<2 ^ k;exact Nat.one_lt_two_pow (by omega)
theorem Bz.zero {k:Nat}:Bz k 0:=Nat.pow_pos (by decide)
theorem Bq.dn {k m:Nat} {q:Q} (h:Bq k m q) (hk:0<m):Bz m (Q.dn q):=by
 unfold Q.dn;split
 .exact Bz.one hk
 .exact h.2
theorem sS (q:Q):Q.dn q≠0:=by
 unfold Q.dn;split
 .decide
 .assumption
theorem agz (a:Int) (g:Nat):(lA a g).natAbs<=a.natAbs:=by
 unfold lA;split
 .exact Nat.zero_le _
 .rw [Int.fdiv_eq_ediv_of_nonneg _ (Int.natCast_nonneg g)];exact Int.natAbs_ediv_le_natAbs _ _
theorem Bz.dm {k:Nat} {a:Int} (h:Bz k a) (g:Nat):Bz k (lA a g):=Nat.lt_of_le_of_lt (agz a g) h
theorem zN {k m:Nat} {n d:Int} (hn:Bz k n) (hd:Bz m d):Bq k m (dv n d):=by
 unfold dv;split
 .exact⟨hn.neg.dm _,hd.neg.dm _⟩
 .exact⟨hn.dm _,hd.dm _⟩
variable {a b c e k m:Nat} {p q:Q} {x y:Q3}
theorem Q.qX (hp:Bq a b p) (hq:Bq c e q) (hb:0<b) (he:0<e) (h1:a+c<=1000000) (h2:b+e<=1000000):oE p q/\Bq (a+c) (b+e) (Q.mul p q):=by
 have hz:=(hp.dn hb).mul (hq.dn he);refine⟨⟨hp.1.sh (by omega),hp.2.sh (by omega),hq.1.sh (by omega),hq.2.sh (by omega),λ_=>⟨(hp.1.mul hq.1).sz h1,hz.sz h2,Int.mul_ne_zero (sS p) (sS q)⟩⟩,?_⟩;unfold Q.mul;split
 .exact⟨hp.1.mul hq.1,Bz.zero⟩
 .exact zN (hp.1.mul hq.1) hz
theorem Q.tZ (k:Nat) (hp:Bq a b p) (hq:Bq c e q) (hb:0<b) (he:0<e) (k1:a+e<=k) (k2:c+b<=k) (h1:k+1<=1000000) (h2:b+e<=1000000):oD p q/\Bq (k+1) (b+e) (Q.add p q):=by
 have hz:=(hp.dn hb).mul (hq.dn he);have hn:=((hp.1.mul (hq.dn he)).mono k1).add ((hq.1.mul (hp.dn hb)).mono k2);refine⟨⟨hp.1.sh (by omega),hp.2.sh (by omega),hq.1.sh (by omega),hq.2.sh (by omega),λ_=>⟨hn.sz h1,hz.sz h2,Int.mul_ne_zero (sS p) (sS q)⟩⟩,?_⟩;unfold Q.add;split
 .exact⟨(hp.1.mono (show a<=k by omega)).add (hq.1.mono (show c<=k by omega)),Bz.zero⟩
 .exact zN hn hz
theorem kQ (hp:Bq a b p) (hq:Bq c e q) (h1:a<=1000000) (h2:b<=1000000) (h3:c<=1000000) (h4:e<=1000000):dt p q:=⟨hp.1.sh h1,hp.2.sh h2,hq.1.sh h3,hq.2.sh h4,aB⟩
theorem Bq.neg (h:Bq a b p):Bq a b (Q.neg p):=⟨h.1.neg,h.2⟩
theorem Q.zO (k:Nat) (hp:Bq a b p) (hq:Bq c e q) (hb:0<b) (he:0<e) (k1:a+e<=k) (k2:c+b<=k) (h1:k+1<=1000000) (h2:b+e<=1000000):kq p q/\Bq (k+1) (b+e) (Q.sub p q):=Q.tZ k hp hq.neg hb he k1 k2 h1 h2
theorem kh (hx:Bv a b x) (hy:Bv c e y) (hb:0<b) (he:0<e) (h:a+c+3*(b+e)+4<=1000000):oG x y/\Bq (a+c+3*(b+e)+4) (3*(b+e)+1) (bw x y):=by
 obtain⟨m1,g1⟩:=Q.qX hx.1 hy.1 hb he (by omega) (by omega);obtain⟨m2,g2⟩:=Q.qX hx.2.1 hy.2.1 hb he (by omega) (by omega);obtain⟨m3,g3⟩:=Q.qX hx.2.2 hy.2.2 hb he (by omega) (by omega);have z0:Bq 0 1 ((0,0):Q):=⟨Bz.zero,Bz.zero⟩
 obtain⟨s1,k1⟩:=Q.tZ (a+c+(b+e)+1) z0 g1 (by omega) (by omega) (by omega) (by omega) (by omega) (by omega);obtain⟨s2,k2⟩:=Q.tZ (a+c+2*(b+e)+2) k1 g2 (by omega) (by omega) (by omega) (by omega) (by omega) (by omega);obtain⟨s3,k3⟩:=Q.tZ (a+c+3*(b+e)+3) k2 g3 (by omega) (by omega) (by omega) (by omega) (by omega) (by omega);exact⟨⟨⟨m1,m2,m3⟩,s1,s2,s3⟩,k3.mono (by omega) (by omega)⟩
theorem KQ {p1 p2 p3 p4:Q} (h1:Bq a b p1) (h2:Bq c e p2) (h3:Bq a b p3) (h4:Bq c e p4) (hb:0<b) (he:0<e) (h:a+c+(b+e)+1<=1000000) (h':2*(b+e)<=1000000):TM p1 p2 p3 p4/\Bq (a+c+(b+e)+1) (2*(b+e)) (Eg p1 p2 p3 p4):=by
 obtain⟨m1,g1⟩:=Q.qX h1 h2 hb he (by omega) (by omega);obtain⟨m2,g2⟩:=Q.qX h3 h4 hb he (by omega) (by omega);obtain⟨m3,g3⟩:=Q.zO (a+c+(b+e)) g1 g2 (by omega) (by omega) (by omega) (by omega) (by omega) (by omega);exact⟨⟨m1,m2,m3⟩,g3.mono (Nat.le_refl _) (by omega)⟩
theorem QB (hx:Bv a b x) (hy:Bv a b y) (hb:0<b) (h:2*a+2*b+1<=1000000) (h':4*b<=1000000):pA x y/\Bv (2*a+2*b+1) (4*b) (aG x y):=by
 obtain⟨c1,d1⟩:=KQ hx.2.1 hy.2.2 hx.2.2 hy.2.1 hb hb (by omega) (by omega);obtain⟨c2,d2⟩:=KQ hx.2.2 hy.1 hx.1 hy.2.2 hb hb (by omega) (by omega);obtain⟨c3,d3⟩:=KQ hx.1 hy.2.1 hx.2.1 hy.1 hb hb (by omega) (by omega);exact⟨⟨c1,c2,c3⟩,d1.mono (by omega) (by omega),d2.mono (by omega) (by omega),d3.mono (by omega) (by omega)⟩
theorem Eu:Bv 0 1 z3:=⟨⟨Bz.zero,Bz.zero⟩,⟨Bz.zero,Bz.zero⟩,⟨Bz.zero,Bz.zero⟩⟩
theorem oJ (hx:Bv a b x) (hy:Bv c e y) (h1:a<=1000000) (h2:b<=1000000) (h3:c<=1000000) (h4:e<=1000000):rP dt x y:=⟨kQ hx.1 hy.1 h1 h2 h3 h4,kQ hx.2.1 hy.2.1 h1 h2 h3 h4,kQ hx.2.2 hy.2.2 h1 h2 h3 h4⟩
theorem Hv (k:Nat) (hx:Bv a b x) (hy:Bv c e y) (hb:0<b) (he:0<e) (k1:a+e<=k) (k2:c+b<=k) (h1:k+1<=1000000) (h2:b+e<=1000000):rP kq x y/\Bv (k+1) (b+e) (jC Q.sub x y):=by
 obtain⟨c1,d1⟩:=Q.zO k hx.1 hy.1 hb he k1 k2 h1 h2;obtain⟨c2,d2⟩:=Q.zO k hx.2.1 hy.2.1 hb he k1 k2 h1 h2;obtain⟨c3,d3⟩:=Q.zO k hx.2.2 hy.2.2 hb he k1 k2 h1 h2;exact⟨⟨c1,c2,c3⟩,d1,d2,d3⟩
theorem Hw (k:Nat) (hx:Bv a b x) (hy:Bv c e y) (hb:0<b) (he:0<e) (k1:a+e<=k) (k2:c+b<=k) (h1:k+1<=1000000) (h2:b+e<=1000000):rP oD x y/\Bv (k+1) (b+e) (jC Q.add x y):=by
 obtain⟨c1,d1⟩:=Q.tZ k hx.1 hy.1 hb he k1 k2 h1 h2;obtain⟨c2,d2⟩:=Q.tZ k hx.2.1 hy.2.1 hb he k1 k2 h1 h2;obtain⟨c3,d3⟩:=Q.tZ k hx.2.2 hy.2.2 hb he k1 k2 h1 h2;exact⟨⟨c1,c2,c3⟩,d1,d2,d3⟩
theorem Nk (hx:Bv a b x) (hb:0<b) (h:a+b+2<=1000000):rP kq z3 x/\Bv (a+b+2) (b+1) (kn x):=by
 obtain⟨c1,d1⟩:=Hv (a+b+1) Eu hx (by omega) hb (by omega) (by omega) (by omega) (by omega);exact⟨c1,d1.mono (by omega) (by omega)⟩
theorem Ev (hp:Bq a b p) (h1:a<=1000000) (h2:b<=1000000):Cl p:=⟨hp.2.sz h2,hp.1.txt h1,hp.2.txt h2⟩
theorem Nl (hx:Bv a b x) (h1:a<=1000000) (h2:b<=1000000):vt x:=⟨Ev hx.1 h1 h2,Ev hx.2.1 h1 h2,Ev hx.2.2 h1 h2⟩
theorem Zk (hp:Bq a b p) (hq:Bq c e q) (hb:0<b) (he:0<e) (h1:a+e<=1000000) (h2:b+c<=1000000):Uj p q/\Bq (a+e) (b+c) (Q.div p q):=by
 have hn:=hp.1.mul (hq.dn he);have hd:=(hp.dn hb).mul hq.1;refine⟨λh=>⟨hp.1.sh (by omega),hq.1.sh (by omega),(hp.dn hb).sh (by omega),(hq.dn he).sh (by omega),hn.sz h1,hd.sz h2,Int.mul_ne_zero (sS p) h⟩,?_⟩;unfold Q.div;split
 .exact⟨Bz.zero,Bz.zero⟩
 .exact zN hn hd
end
section
theorem Zl {k:Nat} {x y:Int} (hx:Bz k x) (hy:Bz k y):Bz k (wq x y):=by
 show(((Nat.gcd x.natAbs y.natAbs:Nat):Int)).natAbs<_;rw [Int.natAbs_natCast];rcases Nat.eq_zero_or_pos x.natAbs with h|h
 .rw [h,Nat.gcd_zero_left];exact hy
 .exact Nat.lt_of_le_of_lt (Nat.gcd_le_left _ h) hx
theorem mJ {n:Int} {g:Nat} (hg:g ∣ n.natAbs) (h0:g≠0):lA n g*g=n/\(lA n g).natAbs=n.natAbs/g:=by
 have hd:(g:Int) ∣ n:=Int.ofNat_dvd_left.2 hg;have e:lA n g=n/(g:Int):=by
  unfold lA;rw [if_neg (by omega),Int.fdiv_eq_ediv_of_nonneg _ (Int.natCast_nonneg g)]
 rw [e];have h1:n/(g:Int)*g=n:=Int.ediv_mul_cancel hd;refine⟨h1,?_⟩;have h2:(n/(g:Int)).natAbs*g=n.natAbs:=by
  have:=congrArg Int.natAbs h1;rw [Int.natAbs_mul,Int.natAbs_natCast]at this;exact this
 rw [<-h2,Nat.mul_div_cancel _ (Nat.pos_of_ne_zero h0)]
theorem Nn {n:Int} {g:Nat} (hg:g ∣ n.natAbs) (hn:n≠0):lA n g≠0:=λe=>by
 have h0:g≠0:=λh=>by
  subst h;exact hn (Int.natAbs_eq_zero.1 (Nat.eq_zero_of_zero_dvd hg))
 have h:=(mJ hg h0).1;rw [e,Int.zero_mul]at h;exact hn h.symm
theorem wz {n d:Int} (hn:n≠0):(dv n d).1≠0:=by
 unfold dv;split
 .refine Nn ?_ (by omega);rw [Int.natAbs_neg];exact Nat.gcd_dvd_left _ _
 .exact Nn (Nat.gcd_dvd_left _ _) hn
theorem jq {p q:Q} (hp:p.1≠0) (hq:q.1≠0):(Q.mul p q).1≠0:=by
 unfold Q.mul;split
 .exact Int.mul_ne_zero hp hq
 .exact wz (Int.mul_ne_zero hp hq)
theorem zP {p q:Q} (hp:p.1=0) (hq:q.1=0):Q.cmp p q=0:=by
 rw [pG,hp,hq,Int.zero_mul,Int.zero_mul];rfl
theorem Np {a:Q3} (h:cT a=false):a.1.1≠0\/a.2.1.1≠0\/a.2.2.1≠0:=by
 by_cases h1:a.1.1=0
 .by_cases h2:a.2.1.1=0
  .by_cases h3:a.2.2.1=0
   .exfalso;have e:dH a z3=0:=by
     unfold dH;rw [zP h1 rfl,zP h2 rfl,zP h3 rfl];rfl
    unfold cT at h;rw [e]at h;cases h
   .exact .inr (.inr h3)
  .exact .inr (.inl h2)
 .exact .inl h1
theorem UH {d:Int} {x:Q} (hd:d≠0):pD d x≠0:=Int.mul_ne_zero (Nn (Nat.gcd_dvd_left _ _) hd) (sS x)
theorem Ew (a:Q3):oH a≠0:=UH (UH (UH (by decide)))
theorem Cm {x y:Int} (h:x≠0\/y≠0):wq x y≠0:=λe=>by
 have e:Nat.gcd x.natAbs y.natAbs=0:=Int.ofNat_eq_zero.1 e;have:=Nat.gcd_eq_zero_iff.1 e;rcases h with h|h
 .exact h (Int.natAbs_eq_zero.1 this.1)
 .exact h (Int.natAbs_eq_zero.1 this.2)
theorem Zm {b:Q3} (h:b.1.1≠0\/b.2.1.1≠0\/b.2.2.1≠0):tW b≠0:=by
 unfold tW;rcases h with h|h|h
 .exact Cm (.inl (Cm (.inl (Cm (.inr h)))))
 .exact Cm (.inl (Cm (.inr h)))
 .exact Cm (.inr h)
variable {a b:Nat} {x:Q3}
theorem adY {k:Nat} {d:Int} {q:Q} (hd:Bz k d) (hq:Bq a b q) (hb:0<b) (h:k+b<=1000000):PD d q/\Bz (k+b) (pD d q):=by
 have hn:=hq.dn hb;have hg:=Zl (hd.mono (show k<=k+b by omega)) (hn.mono (show b<=k+b by omega));exact⟨⟨⟨hd.sz (by omega),hn.sz (by omega)⟩,⟨hd.sz (by omega),hg.sz h⟩,(hd.dm _).sh (by omega),hn.sh (by omega)⟩,(hd.dm _).mul hn⟩
theorem agA {c e:Nat} {k:Q} (hx:Bv a b x) (hk:Bq c e k) (hb:0<b) (he:0<e) (h1:a+c<=1000000) (h2:b+e<=1000000):Hd x k/\Bv (c+a) (e+b) (qT x k):=by
 obtain⟨c1,d1⟩:=Q.qX hk hx.1 he hb (by omega) (by omega);obtain⟨c2,d2⟩:=Q.qX hk hx.2.1 he hb (by omega) (by omega);obtain⟨c3,d3⟩:=Q.qX hk hx.2.2 he hb (by omega) (by omega);exact⟨⟨c1,c2,c3⟩,d1,d2,d3⟩
theorem qY (hx:Bv a b x) (hb:0<b) (h:a+4*b+4<=1000000):mI x/\Bv (a+3*b+3) (a+4*b+4) (aI x):=by
 obtain⟨p1,q1⟩:=adY (Bz.one (k:=1) (by decide)) hx.1 hb (by omega);obtain⟨p2,q2⟩:=adY q1 hx.2.1 hb (by omega);obtain⟨p3,q3⟩:=adY q2 hx.2.2 hb (by omega);have o1:Bz 1 1:=Bz.one (by decide);have r1:Bq (1+b+b+b) 1 (dv (oH x) 1):=zN q3 o1;obtain⟨s1,t1⟩:=agA hx r1 hb (by decide) (by omega) (by omega);have t1:=t1.mono (show 1+b+b+b+a<=a+3*b+1 by omega) (show 1+b<=b+1 by omega);have g0:Bz (a+3*b+1) (wq 0 (qT x (dv (oH x) 1)).1.1):=Zl Bz.zero t1.1.1;have g1:=Zl g0 t1.2.1.1;have g2:Bz (a+3*b+1) (tW (qT x (dv (oH x) 1))):=Zl g1 t1.2.2.1;have r2:Bq 1 (a+3*b+1) (dv 1 (tW (qT x (dv (oH x) 1)))):=zN o1 g2;obtain⟨s2,t2⟩:=agA t1 r2 (by omega) (by omega) (by omega) (by omega);refine⟨⟨oJ hx Eu (by omega) (by omega) (by omega) (by omega),λhz=>⟨p1,p2,p3,⟨q3.sz (by omega),o1.sz (by omega),by decide⟩,s1,?_⟩⟩,?_⟩
 .refine⟨⟨(Bz.zero (k:=0)).sz (by omega),t1.1.1.sz (by omega)⟩,⟨g0.sz (by omega),t1.2.1.1.sz (by omega)⟩,⟨g1.sz (by omega),t1.2.2.1.sz (by omega)⟩,⟨o1.sz (by omega),g2.sz (by omega),?_⟩,s2⟩;have hk:(dv (oH x) 1).1≠0:=wz (Ew x);refine Zm ?_;rcases Np hz with h|h|h
  .exact .inl (jq hk h)
  .exact .inr (.inl (jq hk h))
  .exact .inr (.inr (jq hk h))
 .unfold aI;split
  .exact Eu.mono (by omega) (by omega)
  .exact t2.mono (by omega) (by omega)
def Nq (q:Q):Prop:=q.2=0\/(0<q.2/\Nat.gcd q.1.natAbs q.2.natAbs=1)
def N3 (v:Q3):Prop:=Nq v.1/\Nq v.2.1/\Nq v.2.2
theorem UI {n d:Int} (hd:d≠0):Nq (dv n d):=by
 have key:∀m e:Int,0<e ->Nq (lA m (Nat.gcd m.natAbs e.natAbs:Nat),lA e (Nat.gcd m.natAbs e.natAbs:Nat)):=λm e he=>by
  have hg:0<Nat.gcd m.natAbs e.natAbs:=Nat.gcd_pos_of_pos_right _ (by omega);obtain⟨h1,h2⟩:=mJ (n:=m) (Nat.gcd_dvd_left m.natAbs e.natAbs) (by omega);obtain⟨h3,h4⟩:=mJ (n:=e) (Nat.gcd_dvd_right m.natAbs e.natAbs) (by omega);refine .inr ⟨?_,?_⟩
  .have hn:lA e (Nat.gcd m.natAbs e.natAbs:Nat)≠0:=Nn (Nat.gcd_dvd_right _ _) (by omega);have RT:0<=lA e (Nat.gcd m.natAbs e.natAbs:Nat):=by
    unfold lA;split
    .exact Int.le_refl _
    .rw [Int.fdiv_eq_ediv_of_nonneg _ (Int.natCast_nonneg _)];exact Int.ediv_nonneg (by omega) (Int.natCast_nonneg _)
   show 0<lA e (Nat.gcd m.natAbs e.natAbs:Nat);omega
  .show Nat.gcd (lA m (Nat.gcd m.natAbs e.natAbs:Nat)).natAbs (lA e (Nat.gcd m.natAbs e.natAbs:Nat)).natAbs=1;rw [h2,h4];exact Nat.coprime_div_gcd_div_gcd hg
 unfold dv;split
 .rename_i h;have:=key (-n) (-d) (by omega);rw [Int.natAbs_neg,Int.natAbs_neg]at this;exact this
 .rename_i h;exact key n d (by omega)
theorem UJ (p q:Q):Nq (Q.mul p q):=by
 unfold Q.mul;split
 .exact .inl rfl
 .exact UI (Int.mul_ne_zero (sS p) (sS q))
theorem UK (p q:Q):Nq (Q.add p q):=by
 unfold Q.add;split
 .exact .inl rfl
 .exact UI (Int.mul_ne_zero (sS p) (sS q))
theorem zQ {v:Q3}:N3 (aI v):=by
 unfold aI;split
 .exact⟨.inl rfl,.inl rfl,.inl rfl⟩
 .exact⟨UJ _ _,UJ _ _,UJ _ _⟩
theorem agB {v:Q3}:N3 (kn v):=⟨UK _ _,UK _ _,UK _ _⟩
theorem N3.int {v:Q3} (h:N3 v):Ho v:=by
 have key:∀{q:Q},Nq q ->0<=q.2:=λh=>by
  rcases h with h|⟨h,_⟩<;>omega
 exact⟨key h.1,key h.2.1,key h.2.2⟩
theorem adZ {a b c e:Int} (hb:0<b) (he:0<e) (h1:Nat.gcd a.natAbs b.natAbs=1) (h2:Nat.gcd c.natAbs e.natAbs=1) (h:a*e=c*b):a=c/\b=e:=by
 have hn:a.natAbs*e.natAbs=c.natAbs*b.natAbs:=by rw [<-Int.natAbs_mul,<-Int.natAbs_mul,h]
 have d1:b.natAbs ∣ e.natAbs:=(Nat.Coprime.symm h1:Nat.Coprime b.natAbs a.natAbs).dvd_of_dvd_mul_left ⟨c.natAbs,by rw [hn,Nat.mul_comm]⟩;have d2:e.natAbs ∣ b.natAbs:=(Nat.Coprime.symm h2:Nat.Coprime e.natAbs c.natAbs).dvd_of_dvd_mul_left ⟨a.natAbs,by rw [<-hn,Nat.mul_comm]⟩;have hbe:b=e:=by
  have:=Nat.dvd_antisymm d1 d2;omega
 subst hbe;exact⟨Int.eq_of_mul_eq_mul_right (by omega) h,rfl⟩
theorem Nq.dn {q:Q} (h:Nq q):0<Q.dn q/\Nat.gcd q.1.natAbs (Q.dn q).natAbs=1:=by
 unfold Q.dn;rcases h with h|⟨h,g⟩
 .rw [if_pos h];exact⟨by decide,Nat.gcd_one_right _⟩
 .rw [if_neg (by omega)];exact⟨h,g⟩
theorem ad0 {p q:Q} (h1:p.1=q.1) (h2:Q.dn p=Q.dn q) (hp:Nq p) (hq:Nq q):tY p=tY q:=by
 have hw:∀{q:Q},Nq q ->Q.whole q=decide (Q.dn q=1):=λ{q} h=>by
  unfold Q.whole Q.dn;by_cases h0:q.2=0
  .rw [if_pos h0];simp [h0]
  .rw [if_neg h0];simp [h0]
 unfold tY;rw [hw hp,hw hq,h2];cases hd:decide (Q.dn q=1)with
 |true=>show gJ p.1=gJ q.1;rw [h1]|false=>
  have LU:Q.dn q≠1:=of_decide_eq_false hd;have key:∀{q:Q},Q.dn q≠1 ->Q.dn q=q.2:=λ{q} h=>by
   unfold Q.dn at h ⊢;split at h
   .exact absurd rfl h
   .rename_i g;rw [if_neg g]
  show(gJ p.1++[47])++gJ p.2=(gJ q.1++[47])++gJ q.2;rw [h1,<-key LU,<-key (by rw [h2];exact LU),h2]
theorem Ex {p q:Q} (hp:Nq p) (hq:Nq q) (h:Q.cmp p q=0):tY p=tY q:=by
 rw [pG]at h;have h:p.1*Q.dn q=q.1*Q.dn p:=by
  have h1:=(ka (a:=p.1*Q.dn q) (b:=q.1*Q.dn p)).2.1.1 (by omega);have h2:=(ka (a:=p.1*Q.dn q) (b:=q.1*Q.dn p)).1;have h3:¬p.1*Q.dn q<q.1*Q.dn p:=λe=>by have:=h2.2 e;omega
  omega
 obtain⟨e1,e2⟩:=adZ hp.dn.1 hq.dn.1 hp.dn.2 hq.dn.2 h;exact ad0 e1 e2 hp hq
theorem ad1 {x y:Q3} (hx:N3 x) (hy:N3 y) (h:dH x y=0):kc x=kc y:=by
 unfold dH at h;split at h
 .rename_i hb;rw [bh.2 h]at hb;cases hb
 .rename_i e1;have e1:=bh.1 e1;split at h
  .rename_i hb;rw [bh.2 h]at hb;cases hb
  .rename_i e2;have e2:=bh.1 e2;unfold kc;rw [Ex hx.1 hy.1 e1,Ex hx.2.1 hy.2.1 e2,Ex hx.2.2 hy.2.2 h]
end
end
end Go.Sy
