/- A piece of the proof, made small by a program of ours. -/
import Derived.Test.YtihglcfnelokaaaGreatDoorP10
import Derived.Test.YtihglcfnelokaaaGreatDoorSyShelf3
set_option linter.all false
set_option maxRecDepth 1000000
set_option maxHeartbeats 0
namespace Go.Sy
noncomputable section
open Go.RowKit Go.Proofs Go.Proofs.Tryz
section
attribute [local irreducible] Cw aj bE PF Sub
attribute [local instance] bJ
theorem MO {ι:Type} {F:xf ι} {call:dY ->AV ->Heap ->CR} {f0:FuncId} {xs:AV} {h:Heap} (dE:∀i,F.ok i ->h≠F.h0 i) {K:AV ->Heap ->Prop} (hk:∃v h',call (.fn f0) xs h= .ret v h'/\K v h'):∃v h',fx f0 F call (.fn f0) xs h= .ret v h'/\K v h':=by
 obtain⟨v,h',e,k⟩:=hk;refine⟨v,h',?_,k⟩;unfold fx;rw [dif_neg]
 .exact e
 .rintro ⟨i,hi,_,_,e⟩;exact dE i hi e
theorem agF {x:R} {r:Tr AV} {m:List Pos} {h:Heap} (e:x= .ok r m h):x≠.fail:=by subst e;intro e;cases e
def Uj (a b:cW):List Q3:=(a.2.1++b.2.1).map (·.1)++(dK a).flatMap λx=>(dK b).map λy=>aI x y
def Hn (a b:cW):ML:=(Uj a b).foldl cD []
def pS (a b:cW):List Q3:=Ic oT ((Hn a b).map (·.2))
structure zT (a b:cW):Prop where
 f0:0<(a.2.1++b.2.1).length
 fn:(a.2.1++b.2.1).length<=1000000
 da:zO a
 db:zO b
 cr:∀x∈dK a,∀y∈dK b,pN x y
 ax:∀v∈Uj a b,KA v
 ne:Hn a b≠[]
 n:(Hn a b).length<=1000000
 int:∀x∈Hn a b,Hh x.2
 XU:∀x∈Hn a b,∀y∈Hn a b,dH x.2 y.2=0 ->x.2=y.2
 cmp:∀x∈Hn a b,∀y∈Hn a b,ri de x.2 y.2
def okS (xs:List Q3):Prop:=xs≠[]/\xs.length<=1000000/\(∀x∈xs,Hh x)/\∀x∈xs,∀y∈xs,ri de x y/\(dH x y=0 ->x=y)
theorem adW:SN bJ prog 177 178 aN oT okS where
 agg:=rfl
 shelf:=sort_vec
 swo:=YR.swo
 XU xs h x hx y hy:=Cj (h.2.2.1 x hx) (h.2.2.1 y hy) (h.2.2.2 x hx y hy).2
 ne xs h:=⟨h.1,by have:=h.2.1;omega⟩
 bd:=au rfl rfl
 bg:=au rfl rfl
 pf xs h x hx y hy:=by
  rw [Hj (h.2.2.1 x hx) (h.2.2.1 y hy)];exact agz x y (h.2.2.2 x hx y hy).1
def tAx:List (Cn prog):=[Cn.lift bJ abp,Cn.lift bJ wt,Cn.lift bJ rj]
def cAx:dY ->AV ->Heap ->CR:=fx 172 MM (fx 172 MN (BU 177 178 aN oT okS (aE tAx)))
theorem Uk (B0:Nat):aW prog B0 cAx:=Uh (Ui (SO ae adW (ay ae tAx B0)))
theorem adX (a b:cW) (h:zT a b):PF prog 121 (.cons (aL.v a) (.cons (aL.v b) .nil)) (aN.list.v (pS a b)):=by
 refine PF.of_wp af (by decide) (fn:=f121) rfl rfl rfl (.cons (aL.ak _) (.cons (aL.ak _) .nil)) (call:=cAx) (λB0=>Uk B0) λB0=>?_;have hc:=Uk B0;have hfl:([a.2.1,b.2.1]:List (List lQ)).flatten=a.2.1++b.2.1:=by simp
 conv=>whnf
 refine bP (by decide) (bP (by decide) (xS (by decide) (ch (l:=tAx) (by decide) 0 (c:=Cn.lift bJ abp) rfl [a.2.1,b.2.1] ?_ (v:=bK.list.v (a.2.1++b.2.1)) (congrArg bK.list.v hfl) (hbor:=?_) (has:=?_) (hk:=?_))))
 .show 0<([a.2.1,b.2.1]:List (List lQ)).flatten.length/\([a.2.1,b.2.1]:List (List lQ)).flatten.length<=1048576/\2<=1048576;rw [hfl];exact⟨h.f0,Nat.le_trans h.fn (by decide),by decide⟩
 .exact pc
 .rfl
 obtain⟨fs,hfs⟩:∃fs,fs=a.2.1++b.2.1:=⟨_,rfl⟩
 have qO:∀q (hq:q<fs.length),fs[q].1∈Uj a b:=λq hq=>by
  unfold Uj;rw [<-hfs];exact List.mem_append_left _ (List.mem_map_of_mem (List.getElem_mem hq))
 have FU:=h.fn;rw [<-hfs]at FU ⊢;conv=>whnf
 refine Cw.lp (σ:=Unit) af rfl rfl hc fs.length (λq _=>[(2,.ptr (pathOf 64) 0),(3,.ptr (pathOf 65) 0),(5,.ptr (pathOf 67) 0),(6,.func (.func 172) .nil (.cons (.ptr (pathOf 67) 0) .nil)),(24,bK.list.v fs),(25,.int .i64 (fs.length:Int)),(26,.int .i64 (q:Int))])
  (λq _=>hp [(64,cl (lS a)),(65,cl (lS b)),(66,.mp (mE iE aN (((fs.take q).map (·.1)).foldl cD []))),(67,cl [.map (pathOf 66)])] 68) (λ_ _=>True) () aA ?_ (λq _ hq _=>?_)
 .have hp0:=je iE aN ([]:ML);exact sb [(64,64),(65,65),(66,66),(67,67)]
 conv=>whnf
 refine an (λh1=>?_) (λh1=>?_)
 .have hq:=mY h1;have bM:=mX hq (by omega);have mw:((fs.take (q+1)).map (·.1)).foldl cD []=cD (((fs.take q).map (·.1)).foldl cD []) fs[q].1:=by
   rw [List.take_succ_eq_append_getElem hq,List.map_append,List.foldl_append];rfl
  rw [mw];generalize ((fs.take q).map (·.1)).foldl cD []=l at*;have hp0:=je iE aN (cD l fs[q].1);conv=>whnf
  refine aG.go q rfl hq (aB ?_);refine⟨_,bK.rd rfl hq,aC ?_⟩;refine lO (F:=MM) ((a,b,fs[q]),l) (h.ax _ (qO q hq)) (hk:=?_);refine aC ?_;exact⟨(),hq,aA,sb [(64,64),(65,65),(66,66),(67,67)]⟩
 .have Ia:=ou hq h1;subst Ia;rw [List.take_length];obtain⟨l,hl⟩:∃l,l=(fs.map (·.1)).foldl cD []:=⟨_,rfl⟩
  rw [<-hl];conv=>whnf
  refine bP (by decide) (bP (by decide) (xS (by decide) (cg tAx 1 (Cn.lift bJ wt) b h.db (aC ?_))));refine bP (by decide) (bP (by decide) (xS (by decide) (cg tAx 1 (Cn.lift bJ wt) a h.da (aB ?_))));have hX:(dK a).length<=1000:=Nat.le_trans (mf a.1 a.2.2 []).2 (by show 0+a.2.2.length<=1000;have:=h.da.n;omega);have hY:(dK b).length<=1000:=Nat.le_trans (mf b.1 b.2.2 []).2 (by show 0+b.2.2.length<=1000;have:=h.db.n;omega);have hM:Hn a b=((dK a).flatMap λx=>(dK b).map λy=>aI x y).foldl cD l:=by
   unfold Hn Uj;rw [<-hfs,List.foldl_append,<-hl]
  have hcr:=h.cr;have hax:∀x∈dK a,∀y∈dK b,KA (aI x y):=λx hx y hy=>h.ax _ (by
   unfold Uj;exact List.mem_append_right _ (List.mem_flatMap.2 ⟨x,hx,List.mem_map_of_mem hy⟩))
  obtain⟨X,hXd⟩:∃X,X=dK a:=⟨_,rfl⟩
  obtain⟨Y,hYd⟩:∃Y,Y=dK b:=⟨_,rfl⟩
  rw [<-hXd]at hX hM hcr hax ⊢;rw [<-hYd]at hY hM hcr hax ⊢;refine Cw.lp (σ:=Unit) af rfl rfl hc X.length (λq _=>[(5,.ptr (pathOf 67) 0),(6,.func (.func 172) .nil (.cons (.ptr (pathOf 67) 0) .nil)),(9,aN.list.v Y),(38,aN.list.v X),(39,.int .i64 (X.length:Int)),(40,.int .i64 (q:Int))])
   (λq _=>hp [(64,cl (lS a)),(65,cl (lS b)),(66,.mp (mE iE aN (((X.take q).flatMap λx=>Y.map λy=>aI x y).foldl cD l))),(67,cl [.map (pathOf 66)])] 68) (λ_ _=>True) () aA ?_ (λq _ hq _=>?_)
  .have hp0:=je iE aN l;exact sb [(64,64),(65,65),(66,66),(67,67)]
  conv=>whnf
  refine an (λh2=>?_) (λh2=>?_)
  .have hq:=mY h2;have bM:=mX hq (by omega);have mw:((X.take (q+1)).flatMap λx=>Y.map λy=>aI x y).foldl cD l=(Y.map λy=>aI X[q] y).foldl cD (((X.take q).flatMap λx=>Y.map λy=>aI x y).foldl cD l):=by
    rw [List.take_succ_eq_append_getElem hq,List.flatMap_append,List.foldl_append];simp
   rw [mw];generalize ((X.take q).flatMap λx=>Y.map λy=>aI x y).foldl cD l=l2 at*;conv=>whnf
   refine aG.go q rfl hq (aB ?_);refine⟨_,aN.rd rfl hq,aC ?_⟩;have AN:X[q]∈X:=List.getElem_mem hq;generalize X[q]=x at*;refine Cw.lp (σ:=Unit) af rfl rfl hc Y.length (λp _=>[(5,.ptr (pathOf 67) 0),(6,.func (.func 172) .nil (.cons (.ptr (pathOf 67) 0) .nil)),(9,aN.list.v Y),(11,.ptr (pathOf 68) 0),(38,aN.list.v X),(39,.int .i64 (X.length:Int)),(40,.int .i64 (q:Int)),(44,aN.list.v Y),(45,.int .i64 (Y.length:Int)),(46,.int .i64 (p:Int))])
    (λp _=>hp [(64,cl (lS a)),(65,cl (lS b)),(66,.mp (mE iE aN (((Y.take p).map λy=>aI x y).foldl cD l2))),(67,cl [.map (pathOf 66)]),(68,cl (nE x))] 69) (λ_ _=>True) () aA ?_ (λp _ hp _=>?_)
   .have hp0:=je iE aN l2;exact sb [(64,64),(65,65),(66,66),(67,67),(68,68)]
   conv=>whnf
   refine an (λh3=>?_) (λh3=>?_)
   .have hp:=mY h3;have KB:=mX hp (by omega);have ajn:((Y.take (p+1)).map λy=>aI x y).foldl cD l2=cD (((Y.take p).map λy=>aI x y).foldl cD l2) (aI x Y[p]):=by
     rw [List.take_succ_eq_append_getElem hp,List.map_append,List.foldl_append];rfl
    rw [ajn];generalize ((Y.take p).map λy=>aI x y).foldl cD l2=l3 at*;have hp0:=je iE aN (cD l3 (aI x Y[p]));conv=>whnf
    refine aG.go p rfl hp (aB ?_);refine⟨_,aN.rd rfl hp,aC ?_⟩;refine bP (by decide) (bP (by decide) (xS (by decide) (cg tAx 2 (Cn.lift bJ rj) (x,Y[p]) (hcr _ AN _ (List.getElem_mem hp)) (aC ?_))));refine MO (λi _ e=>absurd (congrArg Heap.n e) (show pathOf 70≠pathOf 69 by decide)) (lO (F:=MN) ((a,b,x,Y[p]),l3) (hax _ AN _ (List.getElem_mem hp)) (hk:=?_));refine aC ?_;exact⟨(),hp,aA,sb [(64,64),(65,65),(66,66),(67,67),(68,68)]⟩
   .obtain rfl:=ou hp h3;rw [List.take_length];have hp0:=je iE aN ((Y.map λy=>aI x y).foldl cD l2);refine aC ?_;exact⟨(),hq,aA,sb [(64,64),(65,65),(66,66),(67,67)]⟩
  .have Ia:=ou hq h2;subst Ia;rw [List.take_length,<-hM];have hMn:=h.n;have ajo:=h.ne;have hMi:=h.int;have hMc:=h.cmp;have hMa:=h.XU;have hax:pS a b=Ic oT ((Hn a b).map (·.2)):=rfl;rw [hax];generalize Hn a b=M at*;conv=>whnf
   have hml:=JP iE aN M;have hpu:=je iE aN M;obtain⟨vs,xM⟩:∃vs:List Nat ->List Q3,∀seen,vs seen=seen.reverse.map λj=>(M[j]?.map (·.2)).getD z3:=⟨_,λ_=>rfl⟩
   have QN:∀seen,(vs seen).length=seen.length:=λseen=>by rw [xM,List.length_map,List.length_reverse]
   have hv0:vs []=[]:=(by rw [xM];rfl);refine Cw.loop (ι:=List Nat) (λseen=>bm [(14,.gs (pathOf 68) (vs seen).length 12),(58,.ptr (pathOf 67) 0)]) (λ_=>[]) (λseen=>hp [(66,.mp (mE iE aN M)),(67,.mi (pathOf 66) M.length seen),(68,.gl (aN.l (vs seen)) false)] 69)
    (λseen=>seen.Nodup/\∀j∈seen,j<M.length) (λseen=>M.length - seen.length) ?_ [] ⟨List.nodup_nil,λj hj=>by cases hj⟩ ?_
   .intro seen hse;obtain⟨iP,cJ⟩:=hse;obtain⟨L,hL,hLq⟩:=afJ (A:=iE) (B:=aN) (x:= .tmp 58) (r:=bm [(14,.gs (pathOf 68) (vs seen).length 12),(58,.ptr (pathOf 67) 0)]) (h:=hp [(66,.mp (mE iE aN M)),(67,.mi (pathOf 66) M.length seen),(68,.gl (aN.l (vs seen)) false)] 69) (id:=pathOf 67) (m:=pathOf 66) (n:=M.length) (seen:=seen) (l:=M) rfl rfl rfl rfl;refine Cw.seq (Cw.next (P:=prog) (cx:=⟨prog,121,f121.ntmps,none,cAx,0⟩) (by rfl) hc (by rfl) (by rfl) (by rfl) hL λq hq=>?_);rcases hLq q hq with ⟨AK,rfl⟩|⟨j,hj,hjn,rfl⟩
    .refine⟨_,rfl,agF rfl,?_⟩;show Cw _ _ _ _ _ _ _ _;have zx:(vs seen).Perm (M.map (·.2)):=(by rw [xM];exact PH AK iP cJ z3);have dC:∀x∈vs seen,∃y∈M,y.2=x:=λx hx=>List.mem_map.1 (zx.subset hx);have hlen:(vs seen).length=M.length:=(by rw [zx.length_eq,List.length_map]);have fY:okS (vs seen):=by
      refine⟨λe=>ajo ?_,by omega,λx hx=>?_,λx hx y hy=>?_⟩
      .rw [e]at hlen;exact List.length_eq_zero_iff.1 hlen.symm
      .obtain⟨y,hy,rfl⟩:=dC x hx;exact hMi y hy
      .obtain⟨u,hu,rfl⟩:=dC x hx;obtain⟨v,hv,rfl⟩:=dC y hy;exact⟨hMc u hu v hv,hMa u hu v hv⟩
     have ajp:Ic oT (vs seen)=Ic oT (M.map (·.2)):=Gw YR.swo (λx hx y hy=>by
      obtain⟨u,hu,rfl⟩:=List.mem_map.1 hx;obtain⟨v,hv,rfl⟩:=List.mem_map.1 hy;exact Cj (hMi u hu) (hMi v hv) (hMa u hu v hv)) zx
     have wS:(vs seen).length=(Ic oT (M.map (·.2))).length:=(by rw [(kT oT _).length_eq,<-zx.length_eq]);refine aD af rfl rfl hc _ (aC ?_);refine bP (by decide) (bP (by decide) (XT (E:=aN) (id:=pathOf 68) (xs:=vs seen) fY rfl rfl rfl ?_));rw [ajp];refine aC ?_;exact aN.gk rfl rfl wS
    .refine⟨_,rfl,agF rfl,?_⟩;show Cw _ _ _ _ _ _ _ _;refine aD af rfl rfl hc _ ?_;have hvc:vs (j::seen)=vs seen++[M[j].2]:=by
      rw [xM,xM,List.reverse_cons,List.map_append,List.map_singleton,List.getElem?_eq_getElem hj];rfl
     have ajq:(vs seen).length+1=(vs seen++[M[j].2]).length:=(by rw [List.length_append];rfl);have wS:seen.length<M.length:=by
      have h1:=List.Nodup.length_le_of_subset (l₁:=j::seen) (l₂:=List.range M.length) (List.nodup_cons.2 ⟨hjn,iP⟩) (λx hx=>List.mem_range.2 (by
       rcases List.mem_cons.1 hx with rfl|hx
       .exact hj
       .exact cJ x hx))
      rw [List.length_range,List.length_cons]at h1;omega
     have hvb:(vs seen).length<1048576:=(by rw [QN];omega);have Kz:=aN.wg (vs seen) M[j].2;have ajr:(j::seen).Nodup:=List.nodup_cons.2 ⟨hjn,iP⟩;have ajs:∀k∈j::seen,k<M.length:=λk hk=>by
      rcases List.mem_cons.1 hk with rfl|hk
      .exact hj
      .exact cJ k hk
     rw [<-hvc]at ajq Kz;refine aC ?_;refine wj (aiV (A:=iE) (B:=aN) (id:=pathOf 67) (m:=pathOf 66) (n:=M.length) (j:=j) (seen:=seen) (l:=M) (by rfl) (by rfl) (by rfl) rfl hj) (aC ?_);refine⟨_,rfl,aB ?_⟩;refine⟨aN.ap (q:=(vs seen).length) rfl hvb,aC ?_⟩;exact⟨j::seen,⟨ajr,ajs⟩,by show M.length - (seen.length+1)<M.length - seen.length;omega,sb [(66,66),(67,67),(68,71)]⟩
   .rw [hv0];exact sb [(66,66),(67,68),(68,0)]
def Ep:Cn prog:= .kz aL aL aN.list 121 false zT pS (λe=>by cases e) adX (au rfl rfl)
end
section
def Bz (k:Nat) (z:Int):Prop:=z.natAbs<2 ^ k
def Bq (k m:Nat) (q:Q):Prop:=Bz k q.1/\Bz m q.2
def Bv (k m:Nat) (a:Q3):Prop:=Bq k m a.1/\Bq k m a.2.1/\Bq k m a.2.2
theorem Bz.mono {k m:Nat} {z:Int} (h:Bz k z) (hk:k<=m):Bz m z:=Nat.lt_of_lt_of_le h (Nat.pow_le_pow_right (by decide) hk)
theorem Bq.mono {k m k' m':Nat} {z:Q} (h:Bq k m z) (hk:k<=k') (hm:m<=m'):Bq k' m' z:=⟨h.1.mono hk,h.2.mono hm⟩
theorem Bv.mono {k m k' m':Nat} {z:Q3} (h:Bv k m z) (hk:k<=k') (hm:m<=m'):Bv k' m' z:=⟨h.1.mono hk hm,h.2.1.mono hk hm,h.2.2.mono hk hm⟩
theorem Bz.nd {k n:Nat} {z:Int} (h:Bz k z) (hk:k<=32*n):nd z.natAbs<=n:=vn (by
 rw [show(4294967296:Nat)=2 ^ 32 from rfl,<-Nat.pow_mul];exact h.mono hk)
theorem Bz.sz {k:Nat} {z:Int} (h:Bz k z) (hk:k<=1000000):SZ z:=Nat.lt_of_le_of_lt (h.nd (n:=31250) hk) (by decide)
theorem Bz.sh {k:Nat} {z:Int} (h:Bz k z) (hk:k<=1000000):SH z:=Nat.lt_of_le_of_lt (h.nd (n:=31250) hk) (by decide)
theorem Bz.txt {k:Nat} {z:Int} (h:Bz k z) (hk:k<=1000000):wy z:=Nat.le_trans (h.nd (n:=31250) hk) (by decide)
theorem Bz.mul {k m:Nat} {a b:Int} (ha:Bz k a) (hb:Bz m b):Bz (k+m) (a*b):=by
 unfold Bz;rw [Int.natAbs_mul,Nat.pow_add];exact Nat.mul_lt_mul'' ha hb
theorem Bz.add {k:Nat} {a b:Int} (ha:Bz k a) (hb:Bz k b):Bz (k+1) (a+b):=by
 unfold Bz at*;have:=Int.natAbs_add_le a b;rw [Nat.pow_succ];omega
theorem Bz.neg {k:Nat} {a:Int} (ha:Bz k a):Bz k (-a):=by unfold Bz;rw [Int.natAbs_neg];exact ha
theorem Bz.one {k:Nat} (hk:0<k):Bz k 1:=by
 show 1<2 ^ k;exact Nat.one_lt_two_pow (by omega)
theorem Bz.zero {k:Nat}:Bz k 0:=Nat.pow_pos (by decide)
theorem Bq.dn {k m:Nat} {q:Q} (h:Bq k m q) (hk:0<m):Bz m (Q.dn q):=by
 unfold Q.dn;split
 .exact Bz.one hk
 .exact h.2
theorem tc (q:Q):Q.dn q≠0:=by
 unfold Q.dn;split
 .decide
 .assumption
theorem agG (a:Int) (g:Nat):(sy a g).natAbs<=a.natAbs:=by
 unfold sy;split
 .exact Nat.zero_le _
 .rw [Int.fdiv_eq_ediv_of_nonneg _ (Int.natCast_nonneg g)];exact Int.natAbs_ediv_le_natAbs _ _
theorem Bz.dm {k:Nat} {a:Int} (h:Bz k a) (g:Nat):Bz k (sy a g):=Nat.lt_of_le_of_lt (agG a g) h
theorem zU {k m:Nat} {n d:Int} (hn:Bz k n) (hd:Bz m d):Bq k m (ft n d):=by
 unfold ft;split
 .exact⟨hn.neg.dm _,hd.neg.dm _⟩
 .exact⟨hn.dm _,hd.dm _⟩
variable {a b c e k m:Nat} {p q:Q} {x y:Q3}
theorem Q.ry (hp:Bq a b p) (hq:Bq c e q) (hb:0<b) (he:0<e) (h1:a+c<=1000000) (h2:b+e<=1000000):oN p q/\Bq (a+c) (b+e) (Q.mul p q):=by
 have hz:=(hp.dn hb).mul (hq.dn he);refine⟨⟨hp.1.sh (by omega),hp.2.sh (by omega),hq.1.sh (by omega),hq.2.sh (by omega),λ_=>⟨(hp.1.mul hq.1).sz h1,hz.sz h2,Int.mul_ne_zero (tc p) (tc q)⟩⟩,?_⟩;unfold Q.mul;split
 .exact⟨hp.1.mul hq.1,Bz.zero⟩
 .exact zU (hp.1.mul hq.1) hz
theorem Q.rz (k:Nat) (hp:Bq a b p) (hq:Bq c e q) (hb:0<b) (he:0<e) (k1:a+e<=k) (k2:c+b<=k) (h1:k+1<=1000000) (h2:b+e<=1000000):nD p q/\Bq (k+1) (b+e) (Q.add p q):=by
 have hz:=(hp.dn hb).mul (hq.dn he);have hn:=((hp.1.mul (hq.dn he)).mono k1).add ((hq.1.mul (hp.dn hb)).mono k2);refine⟨⟨hp.1.sh (by omega),hp.2.sh (by omega),hq.1.sh (by omega),hq.2.sh (by omega),λ_=>⟨hn.sz h1,hz.sz h2,Int.mul_ne_zero (tc p) (tc q)⟩⟩,?_⟩;unfold Q.add;split
 .exact⟨(hp.1.mono (show a<=k by omega)).add (hq.1.mono (show c<=k by omega)),Bz.zero⟩
 .exact zU hn hz
theorem jV (hp:Bq a b p) (hq:Bq c e q) (h1:a<=1000000) (h2:b<=1000000) (h3:c<=1000000) (h4:e<=1000000):de p q:=⟨hp.1.sh h1,hp.2.sh h2,hq.1.sh h3,hq.2.sh h4,aA⟩
theorem Bq.neg (h:Bq a b p):Bq a b (Q.neg p):=⟨h.1.neg,h.2⟩
theorem Q.zV (k:Nat) (hp:Bq a b p) (hq:Bq c e q) (hb:0<b) (he:0<e) (k1:a+e<=k) (k2:c+b<=k) (h1:k+1<=1000000) (h2:b+e<=1000000):kg p q/\Bq (k+1) (b+e) (Q.sub p q):=Q.rz k hp hq.neg hb he k1 k2 h1 h2
theorem pT (hx:Bv a b x) (hy:Bv c e y) (hb:0<b) (he:0<e) (h:a+c+3*(b+e)+4<=1000000):oP x y/\Bq (a+c+3*(b+e)+4) (3*(b+e)+1) (cQ x y):=by
 obtain⟨m1,g1⟩:=Q.ry hx.1 hy.1 hb he (by omega) (by omega);obtain⟨m2,g2⟩:=Q.ry hx.2.1 hy.2.1 hb he (by omega) (by omega);obtain⟨m3,g3⟩:=Q.ry hx.2.2 hy.2.2 hb he (by omega) (by omega);have z0:Bq 0 1 ((0,0):Q):=⟨Bz.zero,Bz.zero⟩
 obtain⟨s1,k1⟩:=Q.rz (a+c+(b+e)+1) z0 g1 (by omega) (by omega) (by omega) (by omega) (by omega) (by omega);obtain⟨s2,k2⟩:=Q.rz (a+c+2*(b+e)+2) k1 g2 (by omega) (by omega) (by omega) (by omega) (by omega) (by omega);obtain⟨s3,k3⟩:=Q.rz (a+c+3*(b+e)+3) k2 g3 (by omega) (by omega) (by omega) (by omega) (by omega) (by omega);exact⟨⟨⟨m1,m2,m3⟩,s1,s2,s3⟩,k3.mono (by omega) (by omega)⟩
theorem KD {p1 p2 p3 p4:Q} (h1:Bq a b p1) (h2:Bq c e p2) (h3:Bq a b p3) (h4:Bq c e p4) (hb:0<b) (he:0<e) (h:a+c+(b+e)+1<=1000000) (h':2*(b+e)<=1000000):Tu p1 p2 p3 p4/\Bq (a+c+(b+e)+1) (2*(b+e)) (crQ p1 p2 p3 p4):=by
 obtain⟨m1,g1⟩:=Q.ry h1 h2 hb he (by omega) (by omega);obtain⟨m2,g2⟩:=Q.ry h3 h4 hb he (by omega) (by omega);obtain⟨m3,g3⟩:=Q.zV (a+c+(b+e)) g1 g2 (by omega) (by omega) (by omega) (by omega) (by omega) (by omega);exact⟨⟨m1,m2,m3⟩,g3.mono (Nat.le_refl _) (by omega)⟩
theorem Qp (hx:Bv a b x) (hy:Bv a b y) (hb:0<b) (h:2*a+2*b+1<=1000000) (h':4*b<=1000000):pN x y/\Bv (2*a+2*b+1) (4*b) (aI x y):=by
 obtain⟨c1,d1⟩:=KD hx.2.1 hy.2.2 hx.2.2 hy.2.1 hb hb (by omega) (by omega);obtain⟨c2,d2⟩:=KD hx.2.2 hy.1 hx.1 hy.2.2 hb hb (by omega) (by omega);obtain⟨c3,d3⟩:=KD hx.1 hy.2.1 hx.2.1 hy.1 hb hb (by omega) (by omega);exact⟨⟨c1,c2,c3⟩,d1.mono (by omega) (by omega),d2.mono (by omega) (by omega),d3.mono (by omega) (by omega)⟩
theorem Ho:Bv 0 1 z3:=⟨⟨Bz.zero,Bz.zero⟩,⟨Bz.zero,Bz.zero⟩,⟨Bz.zero,Bz.zero⟩⟩
theorem mK (hx:Bv a b x) (hy:Bv c e y) (h1:a<=1000000) (h2:b<=1000000) (h3:c<=1000000) (h4:e<=1000000):ri de x y:=⟨jV hx.1 hy.1 h1 h2 h3 h4,jV hx.2.1 hy.2.1 h1 h2 h3 h4,jV hx.2.2 hy.2.2 h1 h2 h3 h4⟩
theorem Hp (k:Nat) (hx:Bv a b x) (hy:Bv c e y) (hb:0<b) (he:0<e) (k1:a+e<=k) (k2:c+b<=k) (h1:k+1<=1000000) (h2:b+e<=1000000):ri kg x y/\Bv (k+1) (b+e) (jS Q.sub x y):=by
 obtain⟨c1,d1⟩:=Q.zV k hx.1 hy.1 hb he k1 k2 h1 h2;obtain⟨c2,d2⟩:=Q.zV k hx.2.1 hy.2.1 hb he k1 k2 h1 h2;obtain⟨c3,d3⟩:=Q.zV k hx.2.2 hy.2.2 hb he k1 k2 h1 h2;exact⟨⟨c1,c2,c3⟩,d1,d2,d3⟩
theorem Ul (k:Nat) (hx:Bv a b x) (hy:Bv c e y) (hb:0<b) (he:0<e) (k1:a+e<=k) (k2:c+b<=k) (h1:k+1<=1000000) (h2:b+e<=1000000):ri nD x y/\Bv (k+1) (b+e) (jS Q.add x y):=by
 obtain⟨c1,d1⟩:=Q.rz k hx.1 hy.1 hb he k1 k2 h1 h2;obtain⟨c2,d2⟩:=Q.rz k hx.2.1 hy.2.1 hb he k1 k2 h1 h2;obtain⟨c3,d3⟩:=Q.rz k hx.2.2 hy.2.2 hb he k1 k2 h1 h2;exact⟨⟨c1,c2,c3⟩,d1,d2,d3⟩
theorem MP (hx:Bv a b x) (hb:0<b) (h:a+b+2<=1000000):ri kg z3 x/\Bv (a+b+2) (b+1) (oV x):=by
 obtain⟨c1,d1⟩:=Hp (a+b+1) Ho hx (by omega) hb (by omega) (by omega) (by omega) (by omega);exact⟨c1,d1.mono (by omega) (by omega)⟩
theorem xZ (hp:Bq a b p) (h1:a<=1000000) (h2:b<=1000000):zS p:=⟨hp.2.sz h2,hp.1.txt h1,hp.2.txt h2⟩
theorem ya (hx:Bv a b x) (h1:a<=1000000) (h2:b<=1000000):qc x:=⟨xZ hx.1 h1 h2,xZ hx.2.1 h1 h2,xZ hx.2.2 h1 h2⟩
theorem MQ (hp:Bq a b p) (hq:Bq c e q) (hb:0<b) (he:0<e) (h1:a+e<=1000000) (h2:b+c<=1000000):Qh p q/\Bq (a+e) (b+c) (Q.div p q):=by
 have hn:=hp.1.mul (hq.dn he);have hd:=(hp.dn hb).mul hq.1;refine⟨λh=>⟨hp.1.sh (by omega),hq.1.sh (by omega),(hp.dn hb).sh (by omega),(hq.dn he).sh (by omega),hn.sz h1,hd.sz h2,Int.mul_ne_zero (tc p) h⟩,?_⟩;unfold Q.div;split
 .exact⟨Bz.zero,Bz.zero⟩
 .exact zU hn hd
end
section
theorem YX {k:Nat} {x y:Int} (hx:Bz k x) (hy:Bz k y):Bz k (nF x y):=by
 show(((Nat.gcd x.natAbs y.natAbs:Nat):Int)).natAbs<_;rw [Int.natAbs_natCast];rcases Nat.eq_zero_or_pos x.natAbs with h|h
 .rw [h,Nat.gcd_zero_left];exact hy
 .exact Nat.lt_of_le_of_lt (Nat.gcd_le_left _ h) hx
theorem zW {n:Int} {g:Nat} (hg:g ∣ n.natAbs) (h0:g≠0):sy n g*g=n/\(sy n g).natAbs=n.natAbs/g:=by
 have hd:(g:Int) ∣ n:=Int.ofNat_dvd_left.2 hg;have e:sy n g=n/(g:Int):=by
  unfold sy;rw [if_neg (by omega),Int.fdiv_eq_ediv_of_nonneg _ (Int.natCast_nonneg g)]
 rw [e];have h1:n/(g:Int)*g=n:=Int.ediv_mul_cancel hd;refine⟨h1,?_⟩;have h2:(n/(g:Int)).natAbs*g=n.natAbs:=by
  have:=congrArg Int.natAbs h1;rw [Int.natAbs_mul,Int.natAbs_natCast]at this;exact this
 rw [<-h2,Nat.mul_div_cancel _ (Nat.pos_of_ne_zero h0)]
theorem MT {n:Int} {g:Nat} (hg:g ∣ n.natAbs) (hn:n≠0):sy n g≠0:=λe=>by
 have h0:g≠0:=λh=>by
  subst h;exact hn (Int.natAbs_eq_zero.1 (Nat.eq_zero_of_zero_dvd hg))
 have h:=(zW hg h0).1;rw [e,Int.zero_mul]at h;exact hn h.symm
theorem Er {n d:Int} (hn:n≠0):(ft n d).1≠0:=by
 unfold ft;split
 .refine MT ?_ (by omega);rw [Int.natAbs_neg];exact Nat.gcd_dvd_left _ _
 .exact MT (Nat.gcd_dvd_left _ _) hn
theorem pU {p q:Q} (hp:p.1≠0) (hq:q.1≠0):(Q.mul p q).1≠0:=by
 unfold Q.mul;split
 .exact Int.mul_ne_zero hp hq
 .exact Er (Int.mul_ne_zero hp hq)
theorem zX {p q:Q} (hp:p.1=0) (hq:q.1=0):Q.cmp p q=0:=by
 rw [nG,hp,hq,Int.zero_mul,Int.zero_mul];rfl
theorem Um {a:Q3} (h:dP a=false):a.1.1≠0\/a.2.1.1≠0\/a.2.2.1≠0:=by
 by_cases h1:a.1.1=0
 .by_cases h2:a.2.1.1=0
  .by_cases h3:a.2.2.1=0
   .exfalso;have e:dH a z3=0:=by
     unfold dH;rw [zX h1 rfl,zX h2 rfl,zX h3 rfl];rfl
    unfold dP at h;rw [e]at h;cases h
   .exact .inr (.inr h3)
  .exact .inr (.inl h2)
 .exact .inl h1
theorem Un {d:Int} {x:Q} (hd:d≠0):pD d x≠0:=Int.mul_ne_zero (MT (Nat.gcd_dvd_left _ _) hd) (tc x)
theorem MU (a:Q3):ud a≠0:=Un (Un (Un (by decide)))
theorem Co {x y:Int} (h:x≠0\/y≠0):nF x y≠0:=λe=>by
 have e:Nat.gcd x.natAbs y.natAbs=0:=Int.ofNat_eq_zero.1 e;have:=Nat.gcd_eq_zero_iff.1 e;rcases h with h|h
 .exact h (Int.natAbs_eq_zero.1 this.1)
 .exact h (Int.natAbs_eq_zero.1 this.2)
theorem YY {b:Q3} (h:b.1.1≠0\/b.2.1.1≠0\/b.2.2.1≠0):xG b≠0:=by
 unfold xG;rcases h with h|h|h
 .exact Co (.inl (Co (.inl (Co (.inr h)))))
 .exact Co (.inl (Co (.inr h)))
 .exact Co (.inr h)
variable {a b:Nat} {x:Q3}
theorem adY {k:Nat} {d:Int} {q:Q} (hd:Bz k d) (hq:Bq a b q) (hb:0<b) (h:k+b<=1000000):PD d q/\Bz (k+b) (pD d q):=by
 have hn:=hq.dn hb;have hg:=YX (hd.mono (show k<=k+b by omega)) (hn.mono (show b<=k+b by omega));exact⟨⟨⟨hd.sz (by omega),hn.sz (by omega)⟩,⟨hd.sz (by omega),hg.sz h⟩,(hd.dm _).sh (by omega),hn.sh (by omega)⟩,(hd.dm _).mul hn⟩
theorem agH {c e:Nat} {k:Q} (hx:Bv a b x) (hk:Bq c e k) (hb:0<b) (he:0<e) (h1:a+c<=1000000) (h2:b+e<=1000000):GY x k/\Bv (c+a) (e+b) (xY x k):=by
 obtain⟨c1,d1⟩:=Q.ry hk hx.1 he hb (by omega) (by omega);obtain⟨c2,d2⟩:=Q.ry hk hx.2.1 he hb (by omega) (by omega);obtain⟨c3,d3⟩:=Q.ry hk hx.2.2 he hb (by omega) (by omega);exact⟨⟨c1,c2,c3⟩,d1,d2,d3⟩
theorem rA (hx:Bv a b x) (hb:0<b) (h:a+4*b+4<=1000000):jl x/\Bv (a+3*b+3) (a+4*b+4) (aP x):=by
 obtain⟨p1,q1⟩:=adY (Bz.one (k:=1) (by decide)) hx.1 hb (by omega);obtain⟨p2,q2⟩:=adY q1 hx.2.1 hb (by omega);obtain⟨p3,q3⟩:=adY q2 hx.2.2 hb (by omega);have o1:Bz 1 1:=Bz.one (by decide);have r1:Bq (1+b+b+b) 1 (ft (ud x) 1):=zU q3 o1;obtain⟨s1,t1⟩:=agH hx r1 hb (by decide) (by omega) (by omega);have t1:=t1.mono (show 1+b+b+b+a<=a+3*b+1 by omega) (show 1+b<=b+1 by omega);have g0:Bz (a+3*b+1) (nF 0 (xY x (ft (ud x) 1)).1.1):=YX Bz.zero t1.1.1;have g1:=YX g0 t1.2.1.1;have g2:Bz (a+3*b+1) (xG (xY x (ft (ud x) 1))):=YX g1 t1.2.2.1;have r2:Bq 1 (a+3*b+1) (ft 1 (xG (xY x (ft (ud x) 1)))):=zU o1 g2;obtain⟨s2,t2⟩:=agH t1 r2 (by omega) (by omega) (by omega) (by omega);refine⟨⟨mK hx Ho (by omega) (by omega) (by omega) (by omega),λhz=>⟨p1,p2,p3,⟨q3.sz (by omega),o1.sz (by omega),by decide⟩,s1,?_⟩⟩,?_⟩
 .refine⟨⟨(Bz.zero (k:=0)).sz (by omega),t1.1.1.sz (by omega)⟩,⟨g0.sz (by omega),t1.2.1.1.sz (by omega)⟩,⟨g1.sz (by omega),t1.2.2.1.sz (by omega)⟩,⟨o1.sz (by omega),g2.sz (by omega),?_⟩,s2⟩;have hk:(ft (ud x) 1).1≠0:=Er (MU x);refine YY ?_;rcases Um hz with h|h|h
  .exact .inl (pU hk h)
  .exact .inr (.inl (pU hk h))
  .exact .inr (.inr (pU hk h))
 .unfold aP;split
  .exact Ho.mono (by omega) (by omega)
  .exact t2.mono (by omega) (by omega)
def Nq (q:Q):Prop:=q.2=0\/(0<q.2/\Nat.gcd q.1.natAbs q.2.natAbs=1)
def N3 (v:Q3):Prop:=Nq v.1/\Nq v.2.1/\Nq v.2.2
theorem abu {n d:Int} (hd:d≠0):Nq (ft n d):=by
 have key:∀m e:Int,0<e ->Nq (sy m (Nat.gcd m.natAbs e.natAbs:Nat),sy e (Nat.gcd m.natAbs e.natAbs:Nat)):=λm e he=>by
  have hg:0<Nat.gcd m.natAbs e.natAbs:=Nat.gcd_pos_of_pos_right _ (by omega);obtain⟨h1,h2⟩:=zW (n:=m) (Nat.gcd_dvd_left m.natAbs e.natAbs) (by omega);obtain⟨h3,h4⟩:=zW (n:=e) (Nat.gcd_dvd_right m.natAbs e.natAbs) (by omega);refine .inr ⟨?_,?_⟩
  .have hn:sy e (Nat.gcd m.natAbs e.natAbs:Nat)≠0:=MT (Nat.gcd_dvd_right _ _) (by omega);have WQ:0<=sy e (Nat.gcd m.natAbs e.natAbs:Nat):=by
    unfold sy;split
    .exact Int.le_refl _
    .rw [Int.fdiv_eq_ediv_of_nonneg _ (Int.natCast_nonneg _)];exact Int.ediv_nonneg (by omega) (Int.natCast_nonneg _)
   show 0<sy e (Nat.gcd m.natAbs e.natAbs:Nat);omega
  .show Nat.gcd (sy m (Nat.gcd m.natAbs e.natAbs:Nat)).natAbs (sy e (Nat.gcd m.natAbs e.natAbs:Nat)).natAbs=1;rw [h2,h4];exact Nat.coprime_div_gcd_div_gcd hg
 unfold ft;split
 .rename_i h;have:=key (-n) (-d) (by omega);rw [Int.natAbs_neg,Int.natAbs_neg]at this;exact this
 .rename_i h;exact key n d (by omega)
theorem Uo (p q:Q):Nq (Q.mul p q):=by
 unfold Q.mul;split
 .exact .inl rfl
 .exact abu (Int.mul_ne_zero (tc p) (tc q))
theorem Up (p q:Q):Nq (Q.add p q):=by
 unfold Q.add;split
 .exact .inl rfl
 .exact abu (Int.mul_ne_zero (tc p) (tc q))
theorem adZ {v:Q3}:N3 (aP v):=by
 unfold aP;split
 .exact⟨.inl rfl,.inl rfl,.inl rfl⟩
 .exact⟨Uo _ _,Uo _ _,Uo _ _⟩
theorem agI {v:Q3}:N3 (oV v):=⟨Up _ _,Up _ _,Up _ _⟩
theorem N3.int {v:Q3} (h:N3 v):Hh v:=by
 have key:∀{q:Q},Nq q ->0<=q.2:=λh=>by
  rcases h with h|⟨h,_⟩<;>omega
 exact⟨key h.1,key h.2.1,key h.2.2⟩
theorem ad0 {a b c e:Int} (hb:0<b) (he:0<e) (h1:Nat.gcd a.natAbs b.natAbs=1) (h2:Nat.gcd c.natAbs e.natAbs=1) (h:a*e=c*b):a=c/\b=e:=by
 have hn:a.natAbs*e.natAbs=c.natAbs*b.natAbs:=by rw [<-Int.natAbs_mul,<-Int.natAbs_mul,h]
 have d1:b.natAbs ∣ e.natAbs:=(Nat.Coprime.symm h1:Nat.Coprime b.natAbs a.natAbs).dvd_of_dvd_mul_left ⟨c.natAbs,by rw [hn,Nat.mul_comm]⟩;have d2:e.natAbs ∣ b.natAbs:=(Nat.Coprime.symm h2:Nat.Coprime e.natAbs c.natAbs).dvd_of_dvd_mul_left ⟨a.natAbs,by rw [<-hn,Nat.mul_comm]⟩;have hbe:b=e:=by
  have:=Nat.dvd_antisymm d1 d2;omega
 subst hbe;exact⟨Int.eq_of_mul_eq_mul_right (by omega) h,rfl⟩
theorem Nq.dn {q:Q} (h:Nq q):0<Q.dn q/\Nat.gcd q.1.natAbs (Q.dn q).natAbs=1:=by
 unfold Q.dn;rcases h with h|⟨h,g⟩
 .rw [if_pos h];exact⟨by decide,Nat.gcd_one_right _⟩
 .rw [if_neg (by omega)];exact⟨h,g⟩
theorem ad1 {p q:Q} (h1:p.1=q.1) (h2:Q.dn p=Q.dn q) (hp:Nq p) (hq:Nq q):uh p=uh q:=by
 have hw:∀{q:Q},Nq q ->Q.whole q=decide (Q.dn q=1):=λ{q} h=>by
  unfold Q.whole Q.dn;by_cases h0:q.2=0
  .rw [if_pos h0];simp [h0]
  .rw [if_neg h0];simp [h0]
 unfold uh;rw [hw hp,hw hq,h2];cases hd:decide (Q.dn q=1)with
 |true=>show ng p.1=ng q.1;rw [h1]|false=>
  have Lw:Q.dn q≠1:=of_decide_eq_false hd;have key:∀{q:Q},Q.dn q≠1 ->Q.dn q=q.2:=λ{q} h=>by
   unfold Q.dn at h ⊢;split at h
   .exact absurd rfl h
   .rename_i g;rw [if_neg g]
  show(ng p.1++[47])++ng p.2=(ng q.1++[47])++ng q.2;rw [h1,<-key Lw,<-key (by rw [h2];exact Lw),h2]
theorem Es {p q:Q} (hp:Nq p) (hq:Nq q) (h:Q.cmp p q=0):uh p=uh q:=by
 rw [nG]at h;have h:p.1*Q.dn q=q.1*Q.dn p:=by
  have h1:=(iD (a:=p.1*Q.dn q) (b:=q.1*Q.dn p)).2.1.1 (by omega);have h2:=(iD (a:=p.1*Q.dn q) (b:=q.1*Q.dn p)).1;have h3:¬p.1*Q.dn q<q.1*Q.dn p:=λe=>by have:=h2.2 e;omega
  omega
 obtain⟨e1,e2⟩:=ad0 hp.dn.1 hq.dn.1 hp.dn.2 hq.dn.2 h;exact ad1 e1 e2 hp hq
theorem ad2 {x y:Q3} (hx:N3 x) (hy:N3 y) (h:dH x y=0):jz x=jz y:=by
 unfold dH at h;split at h
 .rename_i hb;rw [bw.2 h]at hb;cases hb
 .rename_i e1;have e1:=bw.1 e1;split at h
  .rename_i hb;rw [bw.2 h]at hb;cases hb
  .rename_i e2;have e2:=bw.1 e2;unfold jz;rw [Es hx.1 hy.1 e1,Es hx.2.1 hy.2.1 e2,Es hx.2.2 hy.2.2 h]
end
section
attribute [local irreducible] Cw bE PF Sub
attribute [local instance] fe
theorem aj.func {h:Heap} {fn:Fn} {f f' c c':AV} (h1:bE h f f') (h2:bE h c c'):aj h (.func fn f c) (.func fn f' c'):=by
 intro μ B0 w cv hr hv;obtain⟨F,C,e,h0,g1,g2⟩:=hv;unfold bE at h1 h2;exact⟨F,C,e,h0,h1 μ B0 w _ hr g1,h2 μ B0 w _ hr g2⟩
attribute [local irreducible] aj
end
section
attribute [local irreducible] Cw aj bE PF Sub dK
section
attribute [local instance] fe
def YZ (a b:cW):AV:= .func (.func 219) .nil (.cons (.cR (aL.c a .nil) 0) (.cons (.cR (aL.c b .nil) 0) .nil))
theorem Za (a b:cW):DP (YZ a b):=⟨aA,aL.fN a .nil,aL.fN b .nil,aA⟩
theorem Zb (a b:cW):dA 166 (.cons (aL.v a) (.cons (aL.v b) .nil)) (YZ a b):=by
 refine PF.go af ae [] (fn:=f166) rfl rfl rfl λB0 hc=>?_;conv=>whnf
 exact .func .nil (.cons (.ptr rfl rfl (.cons (.pure (aN.list.ak _)) (.cons (.pure (bK.list.ak _)) (.cons (.pure (jy.list.ak _)) .nil)))) (.cons (.ptr rfl rfl (.cons (.pure (aN.list.ak _)) (.cons (.pure (bK.list.ak _)) (.cons (.pure (jy.list.ak _)) .nil)))) .nil))
def yb:Cn prog:=Cn.mk 166 false (cW×cW) (λx=> .cons (aL.v x.1) (.cons (aL.v x.2) .nil)) (λx=>YZ x.1 x.2) (λ_=>True)
 (λa b _ _ h=>by injection h with h1 h;injection h with h2 _;rw [aL.aZ h1,aL.aZ h2]) (λx=>⟨aL.eK _,aL.eK _,aA⟩)
 (λx=>aV (Za x.1 x.2)) (λh=>by cases h) (λx _=>Zb x.1 x.2) (au rfl rfl)
end
theorem MV [aY] {ι:Type} {F:xf ι} {call:dY ->AV ->Heap ->CR} {id:Pos} {xs:AV} {h:Heap} (dE:∀i,F.ok i ->h≠F.h0 i) {K:AV ->Heap ->Prop} (hk:∃v h',call (.rd id) xs h= .ret v h'/\K v h'):∃v h',mF id F call (.rd id) xs h= .ret v h'/\K v h':=by
 obtain⟨v,h',e,k⟩:=hk;refine⟨v,h',?_,k⟩;unfold mF;rw [dif_neg]
 .exact e
 .rintro ⟨i,hi,_,_,e⟩;exact dE i hi e
def iF (a b:cW) (n:Q3):Bool:=match gg 0 (Q.cmp (gp a n).1 (gp b n).2)with|true=>true|false=>gg 0 (Q.cmp (gp b n).1 (gp a n).2)
structure vA (a b:cW) (n:Q3):Prop where
 ea:Cm a n
 eb:Cm b n
 c:de (gp a n).1 (gp b n).2
 d:de (gp b n).1 (gp a n).2
def pnR (a b:cW):List (Nat×AV):=[(0,aL.v a),(1,aL.v b),(2,.ptr (pathOf 64) 0),(3,.ptr (pathOf 65) 0),(4,.ptr (pathOf 66) 0),(10,aL.v a),(11,aL.v b),(12,YZ a b)]
def agJ (st:Bool) (a b:cW):AO:= .loop (Bool.casesOn st true false) (Bool.casesOn (motive:=λ_=>Option (Option Nat)) st none (some none)) 117 (bm (pnR a b)) f117.ntmps (jO (oJ f117)).1 (jO (oJ f117)).2.1 (jO (oJ f117)).2.2 (pathOf 67)
def yc (a b:cW) (st:Bool) (r:List (Nat×AO)):List (Nat×AO):=(64,cl (lS a))::(65,cl (lS b))::(66,cl [.bool false])::(67,.marks)::(68,agJ st a b)::r
def ki (a b:cW):xf (cW×lQ) where
 ar:=λi=> .cons (aN.v i.2.1) .nil
 h0:=λi=>hp (yc a b false [(69,cl (lS i.1)),(70,cl (bK.cs i.2))]) 71
 v:=λi=> .bool (aU (iF a b i.2.1))
 H:=λi=>(yc a b (iF a b i.2.1) [(69,cl (lS i.1)),(70,cl (bK.cs i.2))]).map λx=>(pathOf x.1,x.2)
 N:=λ_=>pathOf 80
 ok:=λi=>vA a b i.2.1
 inj:=by
  rintro ⟨s,f⟩ ⟨s',f'⟩ _ _ e1 e2;injection e1 with e0 _;have e1:f.1=f'.1:=aN.aZ e0;have g1:some (cl (lS s))=some (cl (lS s')):=congrArg (λh:Heap=>h.t.get (pathOf 69)) e2;have g2:some (cl (bK.cs f))=some (cl (bK.cs f')):=congrArg (λh:Heap=>h.t.get (pathOf 70)) e2;show _/\List.map _ (yc a b (iF a b f.1) [(69,cl (lS s)),(70,cl (bK.cs f))])=List.map _ (yc a b (iF a b f'.1) [(69,cl (lS s')),(70,cl (bK.cs f'))])/\_;rw [e1,Option.some.inj g1,Option.some.inj g2];exact⟨rfl,rfl,rfl⟩
def lF (a b:cW):xf (Q3×Q3) where
 ar:=λi=> .cons (aN.v (aI i.1 i.2)) .nil
 h0:=λi=>hp (yc a b false [(69,cl (nE i.1)),(70,cl (nE i.2)),(71,cl (nE (aI i.1 i.2)))]) 72
 v:=λi=> .bool (aU (iF a b (aI i.1 i.2)))
 H:=λi=>(yc a b (iF a b (aI i.1 i.2)) [(69,cl (nE i.1)),(70,cl (nE i.2)),(71,cl (nE (aI i.1 i.2)))]).map λx=>(pathOf x.1,x.2)
 N:=λ_=>pathOf 80
 ok:=λi=>vA a b (aI i.1 i.2)
 inj:=by
  rintro ⟨d,e⟩ ⟨d',e'⟩ _ _ e1 e2;injection e1 with e0 _;have e1:aI d e=aI d' e':=aN.aZ e0;have g1:some (cl (nE d))=some (cl (nE d')):=congrArg (λh:Heap=>h.t.get (pathOf 69)) e2;have g2:some (cl (nE e))=some (cl (nE e')):=congrArg (λh:Heap=>h.t.get (pathOf 70)) e2;show _/\List.map _ (yc a b (iF a b (aI d e)) [(69,cl (nE d)),(70,cl (nE e)),(71,cl (nE (aI d e)))])=List.map _ (yc a b (iF a b (aI d' e')) [(69,cl (nE d')),(70,cl (nE e')),(71,cl (nE (aI d' e')))])/\_;rw [e1,Option.some.inj g1,Option.some.inj g2];exact⟨rfl,rfl,rfl⟩
section
abbrev iP7:aY:=qi fe 7
attribute [local instance] iP7
def Zc:List (Cn prog):=[Cn.lift iP7 pR,Cn.lift iP7 cn]
theorem ajt (a b:cW) (s:cW) (f:lQ) (n:Q3) (h:vA a b n) (B0:Nat):QJ prog B0 (pathOf 68) 117 f117.ntmps (jO (oJ f117)).2.1 (jO (oJ f117)).2.2 (aE Zc)
  ((bm (pnR a b)).set (aN.v n) (pathOf 13)) (hp (yc a b false [(69,cl (lS s)),(70,cl (bK.cs f))]) 71) (.bool (aU (iF a b n))) ((yc a b (iF a b n) [(69,cl (lS s)),(70,cl (bK.cs f))]).map λx=>(pathOf x.1,x.2)) (pathOf 80):=by
 obtain⟨h1,h2,h3,h4⟩:=h;have hc:=ay (P:=prog) ae Zc B0;obtain⟨W,hW⟩:∃W,W=iF a b n:=⟨_,rfl⟩
 rw [<-hW];unfold iF at hW;refine fD (cx:=⟨_,_,_,_,aE Zc,0⟩) af rfl hc _ (aB ?_);refine fD (cx:=⟨_,_,_,_,aE Zc,0⟩) af rfl hc _ (aB ?_);refine cg Zc 0 (Cn.lift iP7 pR) (a,n) h1 (aC ?_);refine cg Zc 0 (Cn.lift iP7 pR) (b,n) h2 (aC ?_);refine cg Zc 1 (Cn.lift iP7 cn) ((gp a n).1,(gp b n).2) h3 (aC ?_);refine an (λk1=>?_) (λk1=>?_)
 .have k1:gg 0 (Q.cmp (gp a n).1 (gp b n).2)=true:=k1;rw [k1]at hW;subst hW;refine aC ?_;repeat' first|exact aA|exact rfl|refine And.intro ?_ ?_
 .have k1:gg 0 (Q.cmp (gp a n).1 (gp b n).2)=false:=k1;rw [k1]at hW;refine aC ?_;refine cg Zc 1 (Cn.lift iP7 cn) ((gp b n).1,(gp a n).2) h4 (aC ?_);refine an (λk2=>?_) (λk2=>?_);all_goals
   rw [show gg 0 (Q.cmp (gp b n).1 (gp a n).2)=_ from k2]at hW;subst hW;refine aC ?_;repeat' first|exact aA|exact rfl|refine And.intro ?_ ?_
theorem yd (a b:cW) (s:cW) (f:lQ) {st:Bool} (hb:iF a b f.1=st):(ki a b).H (s,f)=(yc a b st [(69,cl (lS s)),(70,cl (bK.cs f))]).map λx=>(pathOf x.1,x.2):=by subst hb;rfl
theorem ye (a b:cW) (s:cW) (f:lQ) {st:Bool} (hb:iF a b f.1=st):(ki a b).v (s,f)= .bool (aU st):=by subst hb;rfl
theorem aju (a b:cW) (B0:Nat) (i:_×_) (hi:(ki a b).ok i):∃(fn:FuncId) (im:Tr AV) (nt:Nat) (ps:Array Tmp) (assign body:Code) (wN:Pos) (r:Tr AV) (ib:dY ->AV ->Heap ->CR),((ki a b).h0 i).t.get (pathOf 68)=some (.loop true none fn im nt ps assign body wN)/\mn ps.toList ((ki a b).ar i) nt im=some r/\
  ((ki a b).h0 i).n.toNat=64+7/\((ki a b).h0 i).n.toNat<=((ki a b).N i).toNat/\QJ prog B0 (pathOf 68) fn nt assign body ib r ((ki a b).h0 i) ((ki a b).v i) ((ki a b).H i) ((ki a b).N i):=
 ⟨_,_,_,_,_,_,_,_,aE Zc,rfl,rfl,rfl,(show(pathOf 71).toNat<=(pathOf 80).toNat by decide),ajt a b i.1 i.2 i.2.1 hi B0⟩
end
section
abbrev iP8:aY:=qi fe 8
attribute [local instance] iP8
def Zd:List (Cn prog):=[Cn.lift iP8 pR,Cn.lift iP8 cn]
theorem ajv (a b:cW) (x y z:Q3) (n:Q3) (h:vA a b n) (B0:Nat):QJ prog B0 (pathOf 68) 117 f117.ntmps (jO (oJ f117)).2.1 (jO (oJ f117)).2.2 (aE Zd)
  ((bm (pnR a b)).set (aN.v n) (pathOf 13)) (hp (yc a b false [(69,cl (nE x)),(70,cl (nE y)),(71,cl (nE z))]) 72) (.bool (aU (iF a b n))) ((yc a b (iF a b n) [(69,cl (nE x)),(70,cl (nE y)),(71,cl (nE z))]).map λx=>(pathOf x.1,x.2)) (pathOf 80):=by
 obtain⟨h1,h2,h3,h4⟩:=h;have hc:=ay (P:=prog) ae Zd B0;obtain⟨W,hW⟩:∃W,W=iF a b n:=⟨_,rfl⟩
 rw [<-hW];unfold iF at hW;refine fD (cx:=⟨_,_,_,_,aE Zd,0⟩) af rfl hc _ (aB ?_);refine fD (cx:=⟨_,_,_,_,aE Zd,0⟩) af rfl hc _ (aB ?_);refine cg Zd 0 (Cn.lift iP8 pR) (a,n) h1 (aC ?_);refine cg Zd 0 (Cn.lift iP8 pR) (b,n) h2 (aC ?_);refine cg Zd 1 (Cn.lift iP8 cn) ((gp a n).1,(gp b n).2) h3 (aC ?_);refine an (λk1=>?_) (λk1=>?_)
 .have k1:gg 0 (Q.cmp (gp a n).1 (gp b n).2)=true:=k1;rw [k1]at hW;subst hW;refine aC ?_;repeat' first|exact aA|exact rfl|refine And.intro ?_ ?_
 .have k1:gg 0 (Q.cmp (gp a n).1 (gp b n).2)=false:=k1;rw [k1]at hW;refine aC ?_;refine cg Zd 1 (Cn.lift iP8 cn) ((gp b n).1,(gp a n).2) h4 (aC ?_);refine an (λk2=>?_) (λk2=>?_);all_goals
   rw [show gg 0 (Q.cmp (gp b n).1 (gp a n).2)=_ from k2]at hW;subst hW;refine aC ?_;repeat' first|exact aA|exact rfl|refine And.intro ?_ ?_
theorem MW (a b:cW) (x y:Q3) {st:Bool} (hb:iF a b (aI x y)=st):(lF a b).H (x,y)=(yc a b st [(69,cl (nE x)),(70,cl (nE y)),(71,cl (nE (aI x y)))]).map λx=>(pathOf x.1,x.2):=by subst hb;rfl
theorem MX (a b:cW) (x y:Q3) {st:Bool} (hb:iF a b (aI x y)=st):(lF a b).v (x,y)= .bool (aU st):=by subst hb;rfl
theorem ajw (a b:cW) (B0:Nat) (i:_×_) (hi:(lF a b).ok i):∃(fn:FuncId) (im:Tr AV) (nt:Nat) (ps:Array Tmp) (assign body:Code) (wN:Pos) (r:Tr AV) (ib:dY ->AV ->Heap ->CR),((lF a b).h0 i).t.get (pathOf 68)=some (.loop true none fn im nt ps assign body wN)/\mn ps.toList ((lF a b).ar i) nt im=some r/\
  ((lF a b).h0 i).n.toNat=64+8/\((lF a b).h0 i).n.toNat<=((lF a b).N i).toNat/\QJ prog B0 (pathOf 68) fn nt assign body ib r ((lF a b).h0 i) ((lF a b).v i) ((lF a b).H i) ((lF a b).N i):=
 ⟨_,_,_,_,_,_,_,_,aE Zd,rfl,rfl,rfl,(show(pathOf 72).toNat<=(pathOf 80).toNat by decide),ajv a b i.1 i.2 (aI i.1 i.2) (aI i.1 i.2) hi B0⟩
end
def Et (a b:cW):List Q3:=a.2.1.map (·.1)++(b.2.1.map (·.1)++(dK a).flatMap λx=>((dK b).map λy=>aI x y).filter λn=>aU (dP n))
structure td (a b:cW):Prop where
 na:a.2.1.length<=1000000
 nb:b.2.1.length<=1000000
 da:zO a
 db:zO b
 la:(dK a).length<=1000000
 lb:(dK b).length<=1000000
 cr:∀x∈dK a,∀y∈dK b,pN x y/\ri de (aI x y) z3
 sp:∀n∈Et a b,vA a b n
theorem gq [aY] {ι:Type} {F:xf ι} {call:dY ->AV ->Heap ->CR} {id:Pos} (i:ι) (hi:F.ok i) {v:AV} {H:List (Pos×AO)} (hv:F.v i=v) (hH:F.H i=H) {xs:AV} {h:Heap} {K:AV ->Heap ->Prop} (hk:K v ⟨bW H,F.N i⟩) (ea:xs=F.ar i:=by rfl) (eh:h=F.h0 i:=by rfl):∃v h',mF id F call (.rd id) xs h= .ret v h'/\K v h':=by
 subst hv hH;exact XR i hi ea eh hk
section
abbrev iP5:aY:=qi fe 5
attribute [local instance] iP5
def tP5:List (Cn prog):=[Cn.lift iP5 wt,Cn.lift iP5 rj,Cn.lift iP5 iX]
def cP5 (a b:cW):dY ->AV ->Heap ->CR:=mF (pathOf 68) (ki a b) (mF (pathOf 68) (lF a b) (aE tP5))
theorem ad3 (a b:cW) (B0:Nat):aW prog B0 (cP5 a b):=
 qY 7 (qY 8 (ay ae tP5 B0) (lF a b) (by decide) (ajw a b B0)) (ki a b) (by decide) (aju a b B0)
def pnA (a b:cW):AV:= .cons (.yield (pathOf 68)) (.cons (.cR (aL.c a .nil) 0) (.cons (.cR (aL.c b .nil) 0) .nil))
theorem ajx (a b:cW) (h:td a b) (B0:Nat) {r:Tr AV} (hr:gH (pnA a b) 0 f219.ntmps .leaf=some r):
  Cw prog B0 ⟨prog,219,f219.ntmps,none,cP5 a b,0⟩ (oJ f219) r [] (hp (yc a b false []) 69)
   (QK (fa prog f219 (.aO .nil) ((yc a b ((Et a b).any (iF a b)) []).map λx=>(pathOf x.1,x.2)) (pathOf 90)) (fa prog f219 (.aO .nil) ((yc a b ((Et a b).any (iF a b)) []).map λx=>(pathOf x.1,x.2)) (pathOf 90)) (λ_ _ _ _=>False)):=by
 cases hr;obtain⟨hna,hnb,hda,hdb,hla,hlb,hcr,cS⟩:=h;have hc:=ad3 a b B0;refine aD (cx:=⟨_,_,_,_,cP5 a b,0⟩) af rfl rfl hc _ ?_;obtain⟨W,hW⟩:∃W,W=(Et a b).any (iF a b):=⟨_,rfl⟩
 rw [<-hW];unfold Et at hW cS;have ajy:∀x∈dK a,∀y∈dK b,dP (aI x y)=false ->vA a b (aI x y):=λx hx y hy e=>cS _ (List.mem_append_right _ (List.mem_append_right _ (List.mem_flatMap.2 ⟨x,hx,List.mem_filter.2 ⟨List.mem_map_of_mem hy,by rw [e];rfl⟩⟩)));refine aC ?_;refine⟨_,rfl,aB ?_⟩;refine⟨_,rfl,aB ?_⟩;refine Cw.bL af rfl rfl hc 3 (aC ?_);refine Cw.lp (σ:=Unit) af rfl rfl hc a.2.1.length (λq _=>[(0,.yield (pathOf 68)),(1,.cR (aL.c a .nil) 0),(2,.cR (aL.c b .nil) 0),(5,.ptr (pathOf 69) 0),(16,.agg (aL.c a (aL.c b .nil))),(17,.int .i64 0),(21,bK.list.v a.2.1),(22,.int .i64 (a.2.1.length:Int)),(23,.int .i64 (q:Int))])
  (λq _=>hp (yc a b false [(69,cl (lS a))]) 70) (λq _=>((a.2.1.drop q).map (·.1)++(b.2.1.map (·.1)++((dK a).flatMap λx=>((dK b).map λy=>aI x y).filter λn=>aU (dP n)))).any (iF a b)=W) () hW.symm (sb [(64,64),(65,65),(66,66),(67,67),(68,68),(69,69)]) (λq _ hq hs=>?_)
 conv=>whnf
 refine an (λh1=>?_) (λh1=>?_)
 .have hq:=mY h1;have bM:=mX hq (by omega);rw [List.drop_eq_getElem_cons hq,List.map_cons,List.cons_append,List.any_cons]at hs;have fY:vA a b a.2.1[q].1:=cS _ (List.mem_append_left _ (List.mem_map_of_mem (List.getElem_mem hq)));conv=>whnf
  refine aG.go q rfl hq (aB ?_);refine⟨_,bK.rd rfl hq,aC ?_⟩;generalize a.2.1[q]=f at*;cases hb:iF a b f.1 with
  |true=>
   rw [hb]at hs;have hs:true=W:=hs;subst hs;refine gq (F:=ki a b) (a,f) fY (ye a b a f hb) (yd a b a f hb) (aC ?_);repeat' first|exact aA|exact rfl|refine And.intro ?_ ?_
  |false=>
   rw [hb,Bool.false_or]at hs;refine gq (F:=ki a b) (a,f) fY (ye a b a f hb) (yd a b a f hb) (aC ?_);exact⟨(),hq,hs,sb [(64,64),(65,65),(66,66),(67,67),(68,68),(69,69)]⟩
 .obtain rfl:=ou hq h1;rw [List.drop_length,List.map_nil,List.nil_append]at hs;have hW:=hs.symm;clear hs;refine aC ?_;refine Cw.lp (σ:=Unit) af rfl rfl hc b.2.1.length (λq _=>[(0,.yield (pathOf 68)),(1,.cR (aL.c a .nil) 0),(2,.cR (aL.c b .nil) 0),(5,.ptr (pathOf 69) 0),(16,.agg (aL.c a (aL.c b .nil))),(17,.int .i64 1),(21,bK.list.v b.2.1),(22,.int .i64 (b.2.1.length:Int)),(23,.int .i64 (q:Int))])
   (λq _=>hp (yc a b false [(69,cl (lS b))]) 70) (λq _=>((b.2.1.drop q).map (·.1)++((dK a).flatMap λx=>((dK b).map λy=>aI x y).filter λn=>aU (dP n))).any (iF a b)=W) () hW.symm (sb [(64,64),(65,65),(66,66),(67,67),(68,68),(69,70)]) (λq _ hq hs=>?_)
  conv=>whnf
  refine an (λh1=>?_) (λh1=>?_)
  .have hq:=mY h1;have bM:=mX hq (by omega);rw [List.drop_eq_getElem_cons hq,List.map_cons,List.cons_append,List.any_cons]at hs;have fY:vA a b b.2.1[q].1:=cS _ (List.mem_append_right _ (List.mem_append_left _ (List.mem_map_of_mem (List.getElem_mem hq))));conv=>whnf
   refine aG.go q rfl hq (aB ?_);refine⟨_,bK.rd rfl hq,aC ?_⟩;generalize b.2.1[q]=f at*;cases hb:iF a b f.1 with
   |true=>
    rw [hb]at hs;have hs:true=W:=hs;subst hs;refine gq (F:=ki a b) (b,f) fY (ye a b b f hb) (yd a b b f hb) (aC ?_);repeat' first|exact aA|exact rfl|refine And.intro ?_ ?_
   |false=>
    rw [hb,Bool.false_or]at hs;refine gq (F:=ki a b) (b,f) fY (ye a b b f hb) (yd a b b f hb) (aC ?_);exact⟨(),hq,hs,sb [(64,64),(65,65),(66,66),(67,67),(68,68),(69,69)]⟩
  .obtain rfl:=ou hq h1;rw [List.drop_length,List.map_nil,List.nil_append]at hs;have hW:=hs.symm;clear hs;refine aC ?_;refine⟨_,rfl,aB ?_⟩;refine kN (kN (cg tP5 0 (Cn.lift iP5 wt) b hdb (aC ?_)));refine⟨_,rfl,aB ?_⟩;refine kN (kN (cg tP5 0 (Cn.lift iP5 wt) a hda (aC ?_)));refine Cw.lp (σ:=Unit) af rfl rfl hc (dK a).length (λq _=>[(0,.yield (pathOf 68)),(8,aN.list.v (dK b)),(37,aN.list.v (dK a)),(38,.int .i64 ((dK a).length:Int)),(39,.int .i64 (q:Int))])
    (λq _=>hp (yc a b false []) 69) (λq _=>(((dK a).drop q).flatMap λx=>((dK b).map λy=>aI x y).filter λn=>aU (dP n)).any (iF a b)=W) () hW.symm (sb [(64,64),(65,65),(66,66),(67,67),(68,68)]) (λq _ hq hs=>?_)
   conv=>whnf
   refine an (λh1=>?_) (λh1=>?_)
   .have hq:=mY h1;have bM:=mX hq (by omega);rw [List.drop_eq_getElem_cons hq,List.flatMap_cons]at hs;have AN:(dK a)[q]∈dK a:=List.getElem_mem hq;conv=>whnf
    refine aG.go q rfl hq (aB ?_);refine⟨_,aN.rd rfl hq,aC ?_⟩;obtain⟨R,hR⟩:∃R,R=((dK a).drop (q+1)).flatMap λx=>((dK b).map λy=>aI x y).filter λn=>aU (dP n):=⟨_,rfl⟩
    rw [<-hR]at hs;generalize (dK a)[q]=x at*;refine Cw.lp (σ:=Unit) af rfl rfl hc (dK b).length (λp _=>[(0,.yield (pathOf 68)),(8,aN.list.v (dK b)),(10,.ptr (pathOf 69) 0),(37,aN.list.v (dK a)),(38,.int .i64 ((dK a).length:Int)),(39,.int .i64 (q:Int)),(43,aN.list.v (dK b)),(44,.int .i64 ((dK b).length:Int)),(45,.int .i64 (p:Int))])
     (λp _=>hp (yc a b false [(69,cl (nE x))]) 70) (λp _=>((((dK b).drop p).map λy=>aI x y).filter (λn=>aU (dP n))++R).any (iF a b)=W) () hs (sb [(64,64),(65,65),(66,66),(67,67),(68,68),(69,69)]) (λp _ hp cS=>?_)
    conv=>whnf
    refine an (λh2=>?_) (λh2=>?_)
    .have hp:=mY h2;have KB:=mX hp (by omega);rw [List.drop_eq_getElem_cons hp,List.map_cons]at cS;have hcy:=hcr _ AN _ (List.getElem_mem hp);have hsy:dP (aI x (dK b)[p])=false ->vA a b (aI x (dK b)[p]):=λe=>ajy x AN _ (List.getElem_mem hp) e;conv=>whnf
     refine aG.go p rfl hp (aB ?_);refine⟨_,aN.rd rfl hp,aC ?_⟩;generalize (dK b)[p]=y at*;refine kN (kN (cg tP5 1 (Cn.lift iP5 rj) (x,y) hcy.1 (aC ?_)));refine kN (kN (cg tP5 2 (Cn.lift iP5 iX) (aI x y) hcy.2 (aC ?_)));cases hz:dP (aI x y)with
     |true=>
      rw [List.filter_cons_of_neg (by rw [hz];exact Bool.false_ne_true)]at cS;refine aC ?_;exact⟨(),hp,cS,sb [(64,64),(65,65),(66,66),(67,67),(68,68),(69,69)]⟩
     |false=>
      rw [List.filter_cons_of_pos (by rw [hz];rfl),List.cons_append,List.any_cons]at cS;have fY:=hsy hz;refine aC ?_;cases hb:iF a b (aI x y)with
      |true=>
       rw [hb]at cS;have cS:true=W:=cS;subst cS;refine MV ?_ (gq (F:=lF a b) (x,y) fY (MX a b x y hb) (MW a b x y hb) ?_)
       .exact λi _ e=>absurd (congrArg Heap.n e) (show pathOf 72≠pathOf 71 by decide)
       refine aC ?_;repeat' first|exact aA|exact rfl|refine And.intro ?_ ?_
      |false=>
       rw [hb,Bool.false_or]at cS;refine MV ?_ (gq (F:=lF a b) (x,y) fY (MX a b x y hb) (MW a b x y hb) ?_)
       .exact λi _ e=>absurd (congrArg Heap.n e) (show pathOf 72≠pathOf 71 by decide)
       refine aC ?_;exact⟨(),hp,cS,sb [(64,64),(65,65),(66,66),(67,67),(68,68),(69,69)]⟩
    .obtain rfl:=ou hp h2;rw [List.drop_length,List.map_nil,List.filter_nil,List.nil_append,hR]at cS;refine aC ?_;exact⟨(),hq,cS,sb [(64,64),(65,65),(66,66),(67,67),(68,68)]⟩
   .obtain rfl:=ou hq h1;rw [List.drop_length]at hs;have hs:false=W:=hs;subst hs;refine aC ?_;repeat' first|exact aA|exact rfl|refine And.intro ?_ ?_
end
section
attribute [local instance] fe
def Uq:xf (cW×cW) where
 ar:=λi=>pnA i.1 i.2
 h0:=λi=>hp (yc i.1 i.2 false []) 69
 v:=λ_=> .aO .nil
 H:=λi=>(yc i.1 i.2 ((Et i.1 i.2).any (iF i.1 i.2)) []).map λx=>(pathOf x.1,x.2)
 N:=λ_=>pathOf 90
 ok:=λi=>td i.1 i.2
 inj:=by
  rintro ⟨a,b⟩ ⟨a',b'⟩ _ _ e1 e2;injection e1 with _ e1;injection e1 with e3 e4;injection e4 with e4 _;injection e3 with e3 _;injection e4 with e4 _;have e3:a=a':=by have:=aL.aZ (congrArg AV.agg e3);exact this
  have e4:b=b':=by have:=aL.aZ (congrArg AV.agg e4);exact this
  rw [e3,e4];exact⟨rfl,rfl,rfl⟩
theorem Us (a b:cW) {st:Bool} (hb:(Et a b).any (iF a b)=st):Uq.H (a,b)=(yc a b st []).map λx=>(pathOf x.1,x.2):=by subst hb;rfl
def xH (a b:cW):Bool:=aU ((Et a b).any (iF a b))
theorem kX [aY] {ι:Type} {F:xf ι} {call:dY ->AV ->Heap ->CR} {f0:FuncId} (i:ι) (hi:F.ok i) {H:List (Pos×AO)} (hH:F.H i=H) {xs:AV} {h:Heap} (ea:xs=F.ar i:=by rfl) (eh:h=F.h0 i:=by rfl):fx f0 F call (.fn f0) xs h= .ret (F.v i) ⟨bW H,F.N i⟩:=by
 subst hH ea eh;exact BR i hi
def cPn:dY ->AV ->Heap ->CR:=fx 219 Uq (aE (P:=prog) [yb])
theorem Ut (B0:Nat):aW prog B0 cPn:=
 ic ae 5 (ay ae [yb] B0) (fn:=f219) rfl rfl Uq (λi hi=>⟨_,_,rfl,rfl,(show(pathOf 69).toNat<=(pathOf 90).toNat by decide),ajx i.1 i.2 hi B0 rfl⟩)
theorem agK (a b:cW) (h:td a b):dA 117 (.cons (aL.v a) (.cons (aL.v b) .nil)) (bj.v (xH a b)):=by
 refine PF.of_wp af (by decide) (fn:=f117) rfl rfl rfl (.cons (aL.ak _) (.cons (aL.ak _) .nil)) (call:=cPn) (λB0=>Ut B0) λB0=>?_;have hc:=Ut B0;unfold xH;conv=>whnf
 refine bP (by decide) (cg [yb] 0 yb (a,b) aA (aC ?_) (hl:=List.nodup_cons.2 ⟨List.not_mem_nil,List.nodup_nil⟩));cases hb:(Et a b).any (iF a b)with
 |true=>
  refine Cw.range af rfl hc rfl rfl (kX (F:=Uq) (a,b) h (Us a b hb)) (x:=_) rfl ?_ ?_
  .intro e;cases e
  refine aC ?_;exact aj.same rfl .bool
 |false=>
  refine Cw.range af rfl hc rfl rfl (kX (F:=Uq) (a,b) h (Us a b hb)) (x:=_) rfl ?_ ?_
  .intro e;cases e
  refine aC ?_;exact aj.same rfl .bool
def Uu:Cn prog:= .kz aL aL bj 117 true td xH fh agK (au rfl rfl)
end
end
section
attribute [local instance] bJ
abbrev Rgs:=List (List Int)
def kY:List (Rgs×List WV):=[
 ([[0,1,3,2],[0,2,6,4],[0,4,5,1],[1,5,7,3],[2,3,7,6],[4,6,7,5]],[(0,1,0,2),(0,2,0,1),(0,4,1,2),(1,3,0,3),(1,5,2,3),(2,3,0,4),(2,6,1,4),(3,7,3,4),(4,5,2,5),(4,6,1,5),(5,7,3,5),(6,7,4,5)]),
 ([[0,1,3,2],[0,2,4],[0,4,5,1],[1,5,3],[2,3,5,4]],[(0,1,0,2),(0,2,0,1),(0,4,1,2),(1,3,0,3),(1,5,2,3),(2,3,0,4),(2,4,1,4),(3,5,3,4),(4,5,2,4)]),
 ([[0,1,5,4],[0,2,3,1],[0,4,2],[1,3,5],[2,4,5,3]],[(0,1,0,1),(0,2,1,2),(0,4,0,2),(1,3,1,3),(1,5,0,3),(2,3,1,4),(2,4,2,4),(3,5,3,4),(4,5,0,4)]),
 ([[0,1,2],[0,2,3],[0,3,1],[1,3,2]],[(0,1,0,2),(0,2,0,1),(0,3,1,2),(1,2,0,3),(1,3,2,3),(2,3,1,3)]),
 ([[0,1,3],[0,2,1],[0,3,2],[1,2,3]],[(0,1,0,1),(0,2,1,2),(0,3,0,2),(1,2,1,3),(1,3,0,3),(2,3,2,3)])]
def te (r:Rgs):List WV:=((kY.find? λx=>x.1==r).map (·.2)).getD []
theorem rB {P:Program} (hm:P.follows .mixedOrders=true) (eG:eN P) {ov:dY ->AV ->Heap ->Option CR} (HX:∀B0,xB P B0 ov) (hlen:aY.l.length<=64) {f:FuncId} {a v:AV} (hp:dh a) (h:sV P ov f (a,v)=true):PF P f a v:=by
 unfold sV at h;split at h
 .rename_i v1 hh bH;split at h
  .rename_i u hs;have e:u=v:=JQ h;rw [<-e];exact PF.of_run hm eG HX hlen hp bH (ie _ hs).1
  .cases h
 .cases h
abbrev NO:=Q3×Q
def fcs:List NO ->Rgs ->List lQ
 |x::l,r::m=>(x.1,x.2,r)::fcs l m|_,_=>[]
theorem Ze (a0 a1 a2 a3 a4 a5:NO):sV prog uy 164 (.cons (bK.list.v (fcs [a0,a1,a2,a3,a4,a5] (kY.map (·.1))[0]!)) .nil,jy.list.v (kY.map (·.2))[0]!)=true:=by kernel_rfl
theorem Zf (a0 a1 a2 a3 a4:NO):sV prog uy 164 (.cons (bK.list.v (fcs [a0,a1,a2,a3,a4] (kY.map (·.1))[1]!)) .nil,jy.list.v (kY.map (·.2))[1]!)=true:=by kernel_rfl
theorem Zg (a0 a1 a2 a3 a4:NO):sV prog uy 164 (.cons (bK.list.v (fcs [a0,a1,a2,a3,a4] (kY.map (·.1))[2]!)) .nil,jy.list.v (kY.map (·.2))[2]!)=true:=by kernel_rfl
theorem Zh (a0 a1 a2 a3:NO):sV prog uy 164 (.cons (bK.list.v (fcs [a0,a1,a2,a3] (kY.map (·.1))[3]!)) .nil,jy.list.v (kY.map (·.2))[3]!)=true:=by kernel_rfl
theorem Zi (a0 a1 a2 a3:NO):sV prog uy 164 (.cons (bK.list.v (fcs [a0,a1,a2,a3] (kY.map (·.1))[4]!)) .nil,jy.list.v (kY.map (·.2))[4]!)=true:=by kernel_rfl
theorem Zj (fs:List lQ) (h:fs.map (·.2.2)∈kY.map (·.1)):PF prog 164 (.cons (bK.list.v fs) .nil) (jy.list.v (te (fs.map (·.2.2)))):=by
 simp only [kY,List.map_cons,List.map_nil,List.mem_cons,List.not_mem_nil,or_false]at h;rcases h with h|h|h|h|h
 .have hl:fs.length=6:=by rw [<-List.length_map (f:=λx:lQ=>x.2.2),h];rfl
  match fs,hl with
  |[(n0,o0,r0),(n1,o1,r1),(n2,o2,r2),(n3,o3,r3),(n4,o4,r4),(n5,o5,r5)],_=>
   simp only [List.map_cons,List.map_nil,List.cons.injEq,and_true]at h;obtain⟨rfl,rfl,rfl,rfl,rfl,rfl⟩:=h;exact rB af ae ik (by decide) (.cons (bK.list.ak _) .nil) (Ze (n0,o0) (n1,o1) (n2,o2) (n3,o3) (n4,o4) (n5,o5))
 .have hl:fs.length=5:=by rw [<-List.length_map (f:=λx:lQ=>x.2.2),h];rfl
  match fs,hl with
  |[(n0,o0,r0),(n1,o1,r1),(n2,o2,r2),(n3,o3,r3),(n4,o4,r4)],_=>
   simp only [List.map_cons,List.map_nil,List.cons.injEq,and_true]at h;obtain⟨rfl,rfl,rfl,rfl,rfl⟩:=h;exact rB af ae ik (by decide) (.cons (bK.list.ak _) .nil) (Zf (n0,o0) (n1,o1) (n2,o2) (n3,o3) (n4,o4))
 .have hl:fs.length=5:=by rw [<-List.length_map (f:=λx:lQ=>x.2.2),h];rfl
  match fs,hl with
  |[(n0,o0,r0),(n1,o1,r1),(n2,o2,r2),(n3,o3,r3),(n4,o4,r4)],_=>
   simp only [List.map_cons,List.map_nil,List.cons.injEq,and_true]at h;obtain⟨rfl,rfl,rfl,rfl,rfl⟩:=h;exact rB af ae ik (by decide) (.cons (bK.list.ak _) .nil) (Zg (n0,o0) (n1,o1) (n2,o2) (n3,o3) (n4,o4))
 .have hl:fs.length=4:=by rw [<-List.length_map (f:=λx:lQ=>x.2.2),h];rfl
  match fs,hl with
  |[(n0,o0,r0),(n1,o1,r1),(n2,o2,r2),(n3,o3,r3)],_=>
   simp only [List.map_cons,List.map_nil,List.cons.injEq,and_true]at h;obtain⟨rfl,rfl,rfl,rfl⟩:=h;exact rB af ae ik (by decide) (.cons (bK.list.ak _) .nil) (Zh (n0,o0) (n1,o1) (n2,o2) (n3,o3))
 .have hl:fs.length=4:=by rw [<-List.length_map (f:=λx:lQ=>x.2.2),h];rfl
  match fs,hl with
  |[(n0,o0,r0),(n1,o1,r1),(n2,o2,r2),(n3,o3,r3)],_=>
   simp only [List.map_cons,List.map_nil,List.cons.injEq,and_true]at h;obtain⟨rfl,rfl,rfl,rfl⟩:=h;exact rB af ae ik (by decide) (.cons (bK.list.ak _) .nil) (Zi (n0,o0) (n1,o1) (n2,o2) (n3,o3))
def MY:Cn prog:= .lE bK.list jy.list 164 false (λfs=>fs.map (·.2.2)∈kY.map (·.1)) (λfs=>te (fs.map (·.2.2))) (λe=>by cases e) Zj (au rfl rfl)
end
end
end Go.Sy
