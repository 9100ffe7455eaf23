/- A piece of the proof, made small by a program of ours. -/
import Derived.Test.YtihglcfnelokaaaGreatDoorP20
import Derived.Test.YtihglcfnelokaaaGreatDoorP21
import Derived.WalkKit
import Derived.ProofKit
import Derived.ChangeSlices
import Derived.OpenShut
import Derived.Laws.IdiomArrays
set_option linter.all false
set_option maxRecDepth 1000000
set_option maxHeartbeats 0
namespace Go.Sy
noncomputable section
open Go.RowKit Go.Proofs Go.Proofs.Tryz
section
variable {s:cW} {t:Tn} {p:lz} {v:Q3}
theorem ahJ (h:v.1.1≠0\/v.2.1.1≠0\/v.2.2.1≠0):dP v=false:=by
 cases e:dP v with
 |false=>rfl|true=>
  exfalso;have hz:∀{q:Q},Q.cmp q (0,0)=0 ->q.1=0:=λ{q} g=>by
   rw [nG]at g;have g:kD (q.1*1) (0*Q.dn q)=0:=g;rw [Int.mul_one,Int.zero_mul]at g;have g1:=(iD (a:=q.1) (b:=0)).1;have g2:=(iD (a:=q.1) (b:=0)).2.1;have g3:¬q.1<0:=λg4=>by have:=g1.2 g4;omega
   have g4:=g2.1 (by omega);omega
  have e:dH v z3=0:=bw.1 e;unfold dH at e;split at e
  .rename_i g;rw [bw.2 e]at g;cases g
  .rename_i g1;have a0:=hz (q:=v.1) (bw.1 g1);split at e
   .rename_i g;rw [bw.2 e]at g;cases g
   .rename_i g2;have b0:=hz (q:=v.2.1) (bw.1 g2);have c0:=hz (q:=v.2.2) e;rcases h with h|h|h
    .exact h a0
    .exact h b0
    .exact h c0
theorem aaz (h:dP v=false):dP (aP v)=false:=by
 have k1:(ft (ud v) 1).1≠0:=Er (MU v);have k2:∀z:Int,(ft 1 z).1≠0:=λz=>Er (by decide);unfold aP;rw [h];refine ahJ ?_;rcases Um h with g|g|g
 .exact .inl (pU (k2 _) (pU k1 g))
 .exact .inr (.inl (pU (k2 _) (pU k1 g)))
 .exact .inr (.inr (pU (k2 _) (pU k1 g)))
def q8B (q:Q):Bool:=Nat.blt q.1.natAbs 8 &&Nat.blt q.2.natAbs 8
def Wf (r:Q3):Bool:=q8B r.1 &&(q8B r.2.1 &&q8B r.2.2)
theorem EX {r:Q3} (h:Wf r=true):Bv 3 3 r:=by
 unfold Wf q8B at h;simp only [Bool.and_eq_true]at h;exact⟨⟨blt' h.1.1,blt' h.1.2⟩,⟨blt' h.2.1.1,blt' h.2.1.2⟩,blt' h.2.2.1,blt' h.2.2.2⟩
theorem ae2:∀t∈bZ,Wf (xY (fJ (kj t).1) (mN t))=true/\Wf (xY (fJ (kj t).2.1) (mN t))=true/\Wf (xY (fJ (kj t).2.2) (mN t))=true:=by decide+kernel
theorem aj4 (h:p.OK):Bv 8 2 p.q:=by
 have key:∀{n:Int} {b:Bool},vB n b ->Bq 8 2 (KE n b):=λ{n b} k=>by
  obtain⟨a,c,_⟩:=k;cases b with
  |true=>exact⟨by show _<2 ^ 8;show n.natAbs<_;omega,by show 2<2 ^ 2;decide⟩|false=>exact⟨by show _<2 ^ 8;show n.natAbs<_;omega,Bz.zero⟩
 exact⟨key h.1,key h.2.1,key h.2.2⟩
theorem Wg {a b k m:Nat} (ht:t∈bZ) (hv:Bv a b v) (hb:0<b) (hk:3+a+3*(3+b)+4<=k) (hm:3*(3+b)+1<=m) (h:k<=1000000):uf (kH t p) v/\Bv k m (iY (kH t p) v):=by
 obtain⟨r1,r2,r3⟩:=ae2 t ht;obtain⟨a1,b1⟩:=pT (EX r1) hv (by decide) hb (by omega);obtain⟨a2,b2⟩:=pT (EX r2) hv (by decide) hb (by omega);obtain⟨a3,b3⟩:=pT (EX r3) hv (by decide) hb (by omega);exact⟨⟨a1,a2,a3⟩,b1.mono hk hm,b2.mono hk hm,b3.mono hk hm⟩
theorem abV (ht:t∈bZ) (hp:p.OK) (hv:Bv 3 1 v):MD (kH t p) v/\Bv 25 15 (oQ (kH t p) v):=by
 obtain⟨a,b⟩:=Wg (p:=p) (k:=22) (m:=13) ht hv (by decide) (by decide) (by decide) (by decide);obtain⟨c,d⟩:=Ul 24 b (aj4 hp) (by decide) (by decide) (by decide) (by decide) (by decide) (by decide);exact⟨⟨a,c⟩,d⟩
theorem NY (h:GS s) (hz:NZ s) (ht:t∈bZ) (hp:p.OK):sg (kH t p) s/\GS (ru (kH t p) s):=by
 obtain⟨z1,z2,x0,hx0,z3',z4⟩:=hz;have hV:∀v∈s.1.map (oQ (kH t p)),Bv 25 15 v:=λv hv=>by
  obtain⟨u,hu,rfl⟩:=List.mem_map.1 hv;exact(abV ht hp (z1 u hu)).2
 have hl:(s.1.map (oQ (kH t p))).length=s.1.length:=List.length_map ..;have hN:∀x∈s.2.1,uf (kH t p) x.1/\jl (iY (kH t p) x.1)/\Bv 66 80 (aP (iY (kH t p) x.1)):=λx hx=>by
  obtain⟨a,b⟩:=Wg (p:=p) (k:=24) (m:=13) ht (z2 x hx) (by decide) (by decide) (by decide) (by decide);obtain⟨c,d⟩:=rA b (by decide) (by decide);exact⟨a,c,d⟩
 have v1:=h.v1;have f1:=h.f1;have e1:=h.e1;have v0:=h.v0;have f0:=h.f0;refine⟨⟨by omega,by omega,by omega,λq hq=>(abV ht hp (z1 _ (List.getElem_mem hq))).1,λq hq=>?_⟩,⟨?_,?_,hV,?_,?_,λx hx=>?_,?_,e1,λx hx=>?_⟩⟩
 .obtain⟨a,b,c⟩:=hN _ (List.getElem_mem hq);obtain⟨_,g,i,hi,hh⟩:=h.f _ (List.getElem_mem hq);exact⟨a,b,by omega,i,by omega,hh,(pT c (EM (i:=i) hV) (by decide) (by decide) (by decide)).1⟩
 .show 0<(s.1.map (oQ (kH t p))).length;omega
 .show(s.1.map (oQ (kH t p))).length<=16;omega
 .show 0<(s.2.1.map _).length;rw [List.length_map];exact f0
 .show(s.2.1.map _).length<=10;rw [List.length_map];exact f1
 .obtain⟨y,hy,rfl⟩:=List.mem_map.1 hx;obtain⟨_,g,i,hi,hh⟩:=h.f _ hy;exact⟨(hN y hy).2.2,g,i,by show i<(s.1.map (oQ (kH t p))).length;omega,hh⟩
 .exact⟨_,List.mem_map_of_mem hx0,aaz (z4 t ht p)⟩
 .obtain⟨⟨i,a,b⟩,j,c,d⟩:=h.e x hx;exact⟨⟨i,a,by show i<(s.1.map (oQ (kH t p))).length;omega⟩,j,c,by show j<(s.1.map (oQ (kH t p))).length;omega⟩
structure Lf (p:nO):Prop where
 d1:1<=p.2.1
 d2:p.2.1<=9
 c0:0<p.2.2.length
 c1:p.2.2.length<=2
 c:∀l∈p.2.2,∃b,wE b/\l=iG b
theorem ae3:∀{l:List Bk},(∀x∈l,wE x) ->0<(ES l).length/\(ES l).length<=2/\∀c∈ES l,∃b,wE b/\c=iG b
 |[],_=>⟨by decide,by decide,λc hc=>⟨bk0,by unfold wE U83 U8;decide,List.mem_singleton.1 hc⟩⟩
 |[x],h=>⟨by show 0<1;decide,by show 1<=2;decide,λc hc=>⟨x,h x (List.mem_cons_self ..),List.mem_singleton.1 hc⟩⟩
 |x::y::r,h=>by
  have hx:=h x (List.mem_cons_self ..);have hy:=h y (List.mem_cons_of_mem _ (List.mem_cons_self ..));have e:ES (x::y::r)=(match aU (Vy x y)with|true=>[iG x,iG y]|false=>[iG x]):=rfl;rw [e];cases aU (Vy x y);rotate_left
  .refine⟨by show 0<2;decide,by show 2<=2;decide,λc hc=>?_⟩;rcases List.mem_cons.1 hc with rfl|hc
   .exact⟨x,hx,rfl⟩
   .exact⟨y,hy,List.mem_singleton.1 hc⟩
  .exact⟨by show 0<1;decide,by show 1<=2;decide,λc hc=>⟨x,hx,List.mem_singleton.1 hc⟩⟩
theorem ae4 {x:sk} (h:pa x) (n:Nat):Lf (nh x n):=by
 obtain⟨a,b,c⟩:=ae3 h.b.2;obtain⟨d1,d2⟩:=h.b.1;have e1:Int.tmod x.1.1 9=x.1.1 % 9:=Int.tmod_eq_emod_of_nonneg d1;have e:dns x.1.1=1+x.1.1 % 9:=by
  unfold dns;rw [e1];have b1:0<=x.1.1 % 9/\x.1.1 % 9<9:=⟨Int.emod_nonneg _ (by decide),Int.emod_lt_of_pos _ (by decide)⟩
  generalize x.1.1 % 9=u at*;rw [az (n:=u) (by omega) (by omega)];show ah .i64 (1+u)=_;rw [az (by omega) (by omega)]
 exact⟨by show 1<=dns x.1.1;omega,by show dns x.1.1<=9;omega,a,b,c⟩
variable {P:nO}
theorem Lf.sh (h:Lf P):∀x∈oW P,GS x/\NZ x:=λx hx=>by
 obtain⟨l,hl,rfl⟩:=List.mem_map.1 hx;obtain⟨b,hb,rfl⟩:=h.c l hl;exact(ER hb).2
theorem Lf.part (h:Lf P):uo P:=by
 have d1:=h.d1;have d2:=h.d2;have c0:=h.c0;have c1:=h.c1;refine⟨d1,by omega,c0,by omega,λl hl=>?_,λa ha b hb=>?_⟩
 .obtain⟨b,hb,rfl⟩:=h.c l hl;exact(ER hb).1
 .exact ahk (h.sh _ (List.mem_map_of_mem ha)).1 (h.sh _ (List.mem_map_of_mem hb)).1
theorem Lf.clo (h:Lf P):Nv P:=by
 have c1:=h.c1;refine⟨h.c0,by omega,λl hl=>?_⟩;obtain⟨b,hb,rfl⟩:=h.c l hl;have:=(ER hb).1.ck.hi;omega
theorem Lf.len (h:Lf P):(oW P).length<=2:=by unfold oW;rw [List.length_map];exact h.c1
theorem Lf.sol (h:Lf P) {y:EG} (ht:y.1∈bZ) (hp:y.2.OK):Cu P y/\(Af P y).2.length<=1000/\∀x∈(Af P y).2,GS x:=by
 have hl:=h.len;refine⟨⟨h.part,ht,hp,by show(oW P).length<=1000000;omega,λx hx=>(NY (h.sh x hx).1 (h.sh x hx).2 ht hp).1⟩,?_,λx hx=>?_⟩
 .unfold Af;split
  .decide
  .show((oW P).map _).length<=1000;rw [List.length_map];omega
 .unfold Af at hx;split at hx
  .cases hx
  .obtain⟨z,hz,rfl⟩:=List.mem_map.1 hx;exact(NY (h.sh z hz).1 (h.sh z hz).2 ht hp).2
end
section
def GSp (y:EG):Prop:=y.1∈bZ/\y.2.OK
structure GA (a:jg):Prop where
 n1:a.1.length<=4
 n2:a.2.length<=4
 p:∀p∈a.1,p.1∈names/\Lf p
 dp:(a.1.map (·.1)).Nodup
 i:∀x∈a.2,x.1∈names/\(∃p∈a.1,p.1=x.2.1)/\∃y,x.2.2=Ag y/\GSp y
 di:(a.2.map (·.1)).Nodup
variable {a:jg}
theorem GA.prt (h:GA a) {s:Nm} (hs:∃p∈a.1,p.1=s):Lf (lg a s):=by
 unfold lg;cases e:a.1.find? λp=>decide (p.1=s)with
 |none=>
  obtain⟨p,hp,g⟩:=hs;have:=List.find?_eq_none.1 e p hp;exact absurd (decide_eq_true g) this
 |some p=>exact(h.p p (List.mem_of_find?_eq_some e)).2
theorem GA.pt (h:GA a) {x:mP} (hx:x∈a.2):ZF a x.2.1:=⟨Nat.le_trans h.n1 (by decide),(h.i x hx).2.1,λp hp=>(h.p p hp).2.clo⟩
theorem GA.so (h:GA a) {x:mP} (hx:x∈a.2):(Ah x.2.2/\Cu (lg a x.2.1) (oY x.2.2))/\(ql a x).2.length<=1000/\∀s∈(ql a x).2,GS s:=by
 obtain⟨_,h1,y,h2,h3,h4⟩:=h.i x hx;have e:oY x.2.2=y:=by rw [h2];exact Qy h4
 have k:=(h.prt h1).sol h3 h4;unfold ql Ah;rw [e];exact⟨⟨⟨h2,h3,h4⟩,k.1⟩,k.2⟩
theorem GA.st (h:GA a) {x y:mP} (hx:x∈a.2) (hy:y∈a.2):nN (ql a x) (ql a y):=by
 obtain⟨_,a1,a2⟩:=h.so hx;obtain⟨_,b1,b2⟩:=h.so hy;exact⟨by omega,by omega,λs hs t ht=>KX (a2 s hs) (b2 t ht)⟩
theorem GA.mok (h:GA a):aht a:=⟨Nat.le_trans h.n1 (by decide),Nat.le_trans h.n2 (by decide),λx hx=>(h.i x hx).2.1,λx hx=>(h.so hx).1,λx hx y hy=>h.st hx hy⟩
theorem As (a:jg):∀(l:List mP) (z:List mP×List fi),∃k:List mP,k.Sublist l/\(Bj a l z).1=z.1++k
 |[],z=>⟨[],.slnil,by simp [Bj]⟩
 |x::l,z=>by
  unfold Bj;cases mkS a x z.2 with
  |true=>
   obtain⟨k,h1,h2⟩:=As a l (z.1++[x],z.2++[ql a x]);exact⟨x::k,h1.cons_cons x,by rw [h2,List.append_assoc];rfl⟩
  |false=>
   obtain⟨k,h1,h2⟩:=As a l z;exact⟨k,h1.cons x,h2⟩
theorem GA.VP (h:GA a):GA (VP a):=by
 obtain⟨k,h1,h2⟩:=As a a.2 ([],[]);have e:(Go.Sy.VP a).2=k:=h2;have hs:(Go.Sy.VP a).2.Sublist a.2:=by rw [e];exact h1
 exact⟨h.n1,Nat.le_trans hs.length_le h.n2,h.p,h.dp,λx hx=>h.i x (hs.subset hx),(hs.map _).nodup h.di⟩
theorem GA.ck (h:GA a):Nt a:=⟨Nat.le_trans h.n1 (by decide),Nat.le_trans h.n2 (by decide),λp hp=>⟨(h.p p hp).1,(h.p p hp).2.part⟩,λx hx=>⟨(h.i x hx).1,(h.so hx).1.1⟩,h.dp,h.di⟩
theorem GA.pla (h:GA a):Ny a:=⟨h.ck,λ_=>⟨Nat.le_trans h.n2 (by decide),λx hx=>h.pt hx,λx hx=>(h.so hx).1⟩⟩
theorem GA.gw (h:GA a):GW (dv a):=by
 have key:∀s∈dv a,∃x∈a.2,s=ql a x:=λs hs=>by
  unfold dv at hs;split at hs
  .cases hs
  .obtain⟨x,hx,rfl⟩:=List.mem_map.1 hs;exact⟨x,hx,rfl⟩
 refine⟨?_,λs hs=>?_⟩
 .unfold dv;split
  .decide
  .show(a.2.map _).length<=1000;rw [List.length_map];exact Nat.le_trans h.n2 (by decide)
 .obtain⟨x,hx,rfl⟩:=key s hs;exact(h.so hx).2
theorem GA.sd (h:GA a):HJ a:=by
 have g:=h.gw;refine⟨h.pla,Nat.le_trans g.1 (by decide),λx hx y hy=>?_⟩;obtain⟨a1,a2⟩:=g.2 x hx;obtain⟨b1,b2⟩:=g.2 y hy;exact⟨by omega,by omega,λs hs t ht=>KX (a2 s hs) (b2 t ht)⟩
theorem aaA:∀i:_root_.Fin 256,-128<=Int.tdiv ((i.1:Int) - 128) 2/\Int.tdiv ((i.1:Int) - 128) 2<=127:=by decide+kernel
theorem Lg {n:Int} (h:I8 n) (b:Bool):vB (Bi (wI n) b).1 (Bi (wI n) b).2:=by
 obtain⟨h1,h2⟩:=h;have e:wI n=n:=az (by omega) (by omega);rw [e];unfold Bi;cases b with
 |false=>exact⟨h1,h2,λg=>by cases g⟩|true=>
  cases g:aU (bG (Int.tmod n 2) 0)with
  |true=>
   refine⟨h1,h2,λ_=>?_⟩;rcases Int.emod_two_eq n with k|k
   .rw [bw.2 (Int.tmod_eq_zero_of_dvd (Int.dvd_of_emod_eq_zero k))]at g;cases g
   .exact k
  |false=>
   have k:=aaA ⟨(n+128).toNat,by omega⟩;have e:(((n+128).toNat:Nat):Int) - 128=n:=(by omega);simp only [e]at k;dsimp only;rw [az (by omega) (by omega)];exact⟨k.1,k.2,λg=>by cases g⟩
theorem Wh (k:Nat):bZ.getD k (1,0,0,0)∈bZ:=by
 rcases Nat.lt_or_ge k bZ.length with h|h
 .rw [show bZ.getD k (1,0,0,0)=bZ[k] by simp [List.getD,h]];exact List.getElem_mem h
 .rw [show bZ.getD k (1,0,0,0)=(1,0,0,0) by simp [List.getD,h]];exact List.mem_cons_self ..
theorem ae5 {x:sk} (h:pa x):GSp (oi x):=⟨Wh _,Lg h.s.1 _,Lg h.s.2.1 _,Lg h.s.2.2 _⟩
structure LI (q:Nat) (z:jg):Prop where
 n1:z.1.length<=q
 n0:0<q ->0<z.1.length
 p1:z.1.map (·.1)=(List.range z.1.length).map λi:Nat=>112::mL i
 p2:∀p∈z.1,Lf p
 i1:z.2.map (·.1)=(List.range q).map λi=>[97+i]
 i2:∀x∈z.2,(∃p∈z.1,p.1=x.2.1)/\∃y,x.2.2=Ag y/\GSp y
theorem ae6 (P:List nO) (x:sk):(sD P x=P/\0<P.length)\/sD P x=P++[nh x P.length]:=by
 unfold sD;cases e:bG (P.length:Int) 0 with
 |true=>exact .inr rfl|false=>
  cases aU x.2.1 with
  |true=>exact .inr rfl|false=>
   refine .inl ⟨rfl,?_⟩;rcases Nat.eq_zero_or_pos P.length with g|g
   .rw [g]at e;cases e
   .exact g
theorem LI.go:∀{l:List sk} {q:Nat} {z:jg},LI q z ->(∀x∈l,pa x) ->LI (q+l.length) (VQ q l z)
 |[],q,z,h,_=>h|x::l,q,z,h,hl=>by
  have hx:=hl x (List.mem_cons_self ..);have key:LI (q+1) (sD z.1 x,lsI (sD z.1 x) z.2 q x):=by
   have hP:(sD z.1 x).length<=q+1/\0<(sD z.1 x).length/\(sD z.1 x).map (·.1)=((List.range (sD z.1 x).length).map λi:Nat=>112::mL i)/\(∀p∈sD z.1 x,Lf p)/\∀p∈z.1,p∈sD z.1 x:=by
    have n1:=h.n1;rcases ae6 z.1 x with ⟨e,g⟩|e
    .rw [e];exact⟨by omega,g,h.p1,h.p2,λp hp=>hp⟩
    .rw [e];refine⟨by rw [List.length_append];show z.1.length+1<=q+1;omega,by rw [List.length_append];show 0<z.1.length+1;omega,?_,λp hp=>?_,λp hp=>List.mem_append_left _ hp⟩
     .rw [List.map_append,h.p1,List.length_append,show [nh x z.1.length].length=1 from rfl,List.range_succ,List.map_append];rfl
     .rcases List.mem_append.1 hp with g|g
      .exact h.p2 p g
      .rw [List.mem_singleton.1 g];exact ae4 hx _
   obtain⟨a1,a2,a3,a4,a5⟩:=hP;refine⟨a1,λ_=>a2,a3,a4,?_,λy hy=>?_⟩
   .show(z.2++[([97+q],((sD z.1 x).getD ((sD z.1 x).length - 1) ([],0,[])).1,Ag (oi x))]).map (·.1)=_;rw [List.map_append,h.i1,List.range_succ,List.map_append];rfl
   .rcases List.mem_append.1 hy with g|g
    .obtain⟨⟨p,p1,p2⟩,r⟩:=h.i2 y g;exact⟨⟨p,a5 p p1,p2⟩,r⟩
    .rw [List.mem_singleton.1 g];refine⟨⟨(sD z.1 x)[(sD z.1 x).length - 1],List.getElem_mem _,?_⟩,oi x,rfl,ae5 hx⟩;show _=((sD z.1 x).getD ((sD z.1 x).length - 1) ([],0,[])).1;rw [show(sD z.1 x).getD ((sD z.1 x).length - 1) ([],0,[])=(sD z.1 x)[(sD z.1 x).length - 1]'(by omega) by simp [List.getD,show(sD z.1 x).length - 1<(sD z.1 x).length by omega]]
  have k:=LI.go key λy hy=>hl y (List.mem_cons_of_mem _ hy);have e:q+(x::l).length=q+1+l.length:=by rw [List.length_cons];omega
  rw [e];exact k
theorem Wi:∀n:_root_.Fin 5,(((List.range n.1).map λi:Nat=>112::mL i).Nodup/\∀s∈(List.range n.1).map (λi:Nat=>112::mL i),s∈names)/\((List.range n.1).map λi=>[97+i]).Nodup/\∀s∈(List.range n.1).map (λi=>[97+i]),s∈names:=by decide+kernel
theorem Wj {l:List sk} (hl:l.length<=4) (hi:∀x∈l,pa x):GA (oj l):=by
 have h:LI (0+l.length) (oj l):=LI.go ⟨Nat.le_refl _,λg=>absurd g (by decide),rfl,(λp hp=>by cases hp),rfl,(λx hx=>by cases hx)⟩ hi;rw [Nat.zero_add]at h;obtain⟨n1,_,p1,p2,i1,i2⟩:=h;have k1:=(Wi ⟨(oj l).1.length,by omega⟩).1;have k2:=(Wi ⟨l.length,by omega⟩).2;have e2:(oj l).2.length=l.length:=by
  have:=congrArg List.length i1;rw [List.length_map,List.length_map,List.length_range]at this;exact this
 refine⟨by omega,by omega,λp hp=>⟨k1.2 _ ?_,p2 p hp⟩,?_,λx hx=>⟨k2.2 _ ?_,i2 x hx⟩,?_⟩
 .show p.1∈(List.range (oj l).1.length).map λi:Nat=>112::mL i;rw [<-p1];exact List.mem_map_of_mem hp
 .rw [p1];exact k1.1
 .show x.1∈(List.range l.length).map λi=>[97+i]
  rw [<-i1];exact List.mem_map_of_mem hx
 .rw [i1];exact k2.1
theorem Wk {l:List sk} (hl:l.length<=4) (hi:∀x∈l,pa x):PF prog 14 (.cons (xJ l) .nil) (eF.v (VP (oj l)))/\HJ (VP (oj l))/\GW (dv (VP (oj l))):=by
 have h:=Wj hl hi;exact⟨aal _ _ (uu.bh l) _ h.mok (aan l hl hi),h.VP.sd,h.VP.gw⟩
end
def dgB (g:Nat) (z:Int):Bool:=aU (bG (z % (g:Int)) 0)||(decide (uh (Q.mul (ft 1 g) (Q.mul (1,1) (z,0)))=mL (z/(g:Int))) &&(gg (-128) (z/(g:Int)) &&gg (z/(g:Int)) 127))
theorem ae7:∀g:_root_.Fin 128,∀z:_root_.Fin 256,dgB (g.1+1) ((z.1:Int) - 128)=true:=by decide+kernel
theorem Wl {g:Nat} {z:Int} (h0:0<g) (h1:g<=128) (h:I8 z) (hd:(g:Int) ∣ z):uh (Q.mul (ft 1 g) (Q.mul (1,1) (z,0)))=mL (z/(g:Int))/\vB (z/(g:Int)) false:=by
 obtain⟨a,b⟩:=h;have k:=ae7 ⟨g - 1,by omega⟩ ⟨(z+128).toNat,by omega⟩;have e:(((z+128).toNat:Nat):Int) - 128=z:=by omega
 have e2:g - 1+1=g:=by omega
 simp only [e,e2]at k;unfold dgB at k;rw [bw.2 (Int.emod_eq_zero_of_dvd hd)]at k;have k:(decide (uh (Q.mul (ft 1 g) (Q.mul (1,1) (z,0)))=mL (z/(g:Int))) &&(gg (-128) (z/(g:Int)) &&gg (z/(g:Int)) 127))=true:=k;rw [Bool.and_eq_true,Bool.and_eq_true]at k;exact⟨of_decide_eq_true k.1,cA.1 k.2.1,cA.1 k.2.2,λg=>by cases g⟩
theorem aj5 {a b c:Int} {g:Nat} (h:g=Nat.gcd (Nat.gcd (Nat.gcd 0 a.natAbs) b.natAbs) c.natAbs) (h0:0<g):(g:Int) ∣ a/\(g:Int) ∣ b/\(g:Int) ∣ c/\nF (nF (nF 0 (a/(g:Int))) (b/(g:Int))) (c/(g:Int))=1:=by
 rw [Nat.gcd_zero_left]at h;have d1:g ∣ Nat.gcd a.natAbs b.natAbs:=h ▸ Nat.gcd_dvd_left _ _;have da:g ∣ a.natAbs:=Nat.dvd_trans d1 (Nat.gcd_dvd_left _ _);have db:g ∣ b.natAbs:=Nat.dvd_trans d1 (Nat.gcd_dvd_right _ _);have dc:g ∣ c.natAbs:=h ▸ Nat.gcd_dvd_right _ _;have ab:∀{z:Int},g ∣ z.natAbs ->(z/(g:Int)).natAbs=z.natAbs/g:=λ{z} hz=>by
  have k:=Int.ediv_mul_cancel (Int.ofNat_dvd_left.2 hz);have k:=congrArg Int.natAbs k;rw [Int.natAbs_mul,Int.natAbs_natCast]at k;rw [<-k,Nat.mul_div_cancel _ h0]
 refine⟨Int.ofNat_dvd_left.2 da,Int.ofNat_dvd_left.2 db,Int.ofNat_dvd_left.2 dc,?_⟩;show((Nat.gcd (((Nat.gcd (((Nat.gcd 0 (a/(g:Int)).natAbs:Nat):Int)).natAbs (b/(g:Int)).natAbs:Nat):Int)).natAbs (c/(g:Int)).natAbs:Nat):Int)=1;rw [Int.natAbs_natCast,Int.natAbs_natCast,Nat.gcd_zero_left,ab da,ab db,ab dc,Nat.gcd_div da db,Nat.gcd_div d1 dc,<-h,Nat.div_self h0];rfl
theorem ahK (v:V3):ft (ud (fJ v)) 1=(1,1):=by
 have Ie:∀z:Int,Q.dn (z,0)=1:=λz=>by unfold Q.dn;rw [if_pos rfl]
 have hp:∀z:Int,pD 1 (z,0)=1:=λz=>by
  unfold pD;rw [Ie];decide
 show ft (pD (pD (pD 1 (v.1,0)) (v.2.1,0)) (v.2.2,0)) 1=(1,1)
 rw [hp,hp,hp];decide
theorem ae8 {n:I3} (h:wK n):(wK n/\jl (fJ (om n)))/\qc (EU n)/\∃y:lz,iE.v (jz (EU n))=y.s/\EK y:=by
 obtain⟨h1,h2,h3⟩:=h;have w:∀{z:Int},I8 z ->wI z=z:=λh=>by
  obtain⟨a,b⟩:=h;exact az (by omega) (by omega)
 have e:om n=n:=by
  unfold om;rw [w h1,w h2,w h3]
 have kb:∀{z:Int},I8 z ->Bq 8 1 ((z,0):Q):=λh=>by
  obtain⟨a,b⟩:=h;exact⟨by show _<2 ^ 8;omega,Bz.zero⟩
 unfold EU;rw [e];have hv:Bv 8 1 (fJ n):=⟨kb h1,kb h2,kb h3⟩
 obtain⟨p1,p2⟩:=rA hv (by decide) (by decide);refine⟨⟨⟨h1,h2,h3⟩,p1⟩,?_⟩;cases hz:dP (fJ n)with
 |true=>
  have e:aU (bG (kh (fJ n)) 0)=true:=by unfold kh;rw [hz];rfl
  rw [e];show qc (fJ (0,0,1))/\∃y:lz,iE.v (jz (fJ (0,0,1)))=y.s/\EK y;have hT:jz (fJ (0,0,1))=(mL 0,mL 0,mL 1):=by decide+kernel
  rw [hT];exact⟨ya (a:=8) (b:=1) (x:=fJ (0,0,1)) ⟨⟨Bz.zero,Bz.zero⟩,⟨Bz.zero,Bz.zero⟩,Bz.one (by decide),Bz.zero⟩ (by decide) (by decide),((0,false),(0,false),(1,false)),rfl,⟨⟨by decide,by decide,λg=>by cases g⟩,⟨by decide,by decide,λg=>by cases g⟩,by decide,by decide,λg=>by cases g⟩,⟨rfl,rfl,rfl⟩,rfl⟩
 |false=>
  have e:aU (bG (kh (fJ n)) 0)=false:=by unfold kh;rw [hz];rfl
  rw [e];refine⟨ya p2 (by decide) (by decide),?_⟩;obtain⟨a,b,c⟩:=n;obtain⟨g,hg⟩:∃g,g=Nat.gcd (Nat.gcd (Nat.gcd 0 a.natAbs) b.natAbs) c.natAbs:=⟨_,rfl⟩
  have hn:a≠0\/b≠0\/c≠0:=Um hz;have h0:0<g/\g<=128:=by
   obtain⟨a1,a2⟩:=h1;obtain⟨b1,b2⟩:=h2;obtain⟨c1,c2⟩:=h3;have a1:-128<=a:=a1;have a2:a<=127:=a2;have b1:-128<=b:=b1;have b2:b<=127:=b2;have c1:-128<=c:=c1;have c2:c<=127:=c2;rw [Nat.gcd_zero_left]at hg;have k1:g ∣ Nat.gcd a.natAbs b.natAbs:=hg ▸ Nat.gcd_dvd_left _ _;have ka:g ∣ a.natAbs:=Nat.dvd_trans k1 (Nat.gcd_dvd_left _ _);have kb:g ∣ b.natAbs:=Nat.dvd_trans k1 (Nat.gcd_dvd_right _ _);have kc:g ∣ c.natAbs:=hg ▸ Nat.gcd_dvd_right _ _;have fin:∀{z:Int},z≠0 -> -128<=z ->z<=127 ->g ∣ z.natAbs ->0<g/\g<=128:=λhz l1 l2 hd=>by
    have p:=Nat.le_of_dvd (by omega) hd;refine⟨Nat.pos_of_dvd_of_pos hd (by omega),by omega⟩
   rcases hn with k|k|k
   .exact fin k a1 a2 ka
   .exact fin k b1 b2 kb
   .exact fin k c1 c2 kc
  obtain⟨d1,d2,d3,d4⟩:=aj5 hg h0.1;obtain⟨s1,t1⟩:=Wl h0.1 h0.2 h1 d1;obtain⟨s2,t2⟩:=Wl h0.1 h0.2 h2 d2;obtain⟨s3,t3⟩:=Wl h0.1 h0.2 h3 d3;have one:∀z:Int,(Q.mul (1,1) (z,0)).1=z:=λz=>by show 1*z=z;exact Int.one_mul z
  have hG:xG (xY (fJ (a,b,c)) (ft (ud (fJ (a,b,c))) 1))=(g:Int):=by
   rw [ahK];unfold xG xY;show nF (nF (nF 0 (Q.mul (1,1) (a,0)).1) (Q.mul (1,1) (b,0)).1) (Q.mul (1,1) (c,0)).1=_;rw [one,one,one,hg];show((Nat.gcd (((Nat.gcd (((Nat.gcd 0 a.natAbs:Nat):Int)).natAbs b.natAbs:Nat):Int)).natAbs c.natAbs:Nat):Int)=_;rw [Int.natAbs_natCast,Int.natAbs_natCast]
  have hP:aP (fJ (a,b,c))=(Q.mul (ft 1 g) (Q.mul (1,1) (a,0)),Q.mul (ft 1 g) (Q.mul (1,1) (b,0)),Q.mul (ft 1 g) (Q.mul (1,1) (c,0))):=by
   unfold aP;rw [hz,hG,ahK];rfl
  refine⟨((a/(g:Int),false),(b/(g:Int),false),(c/(g:Int),false)),?_,⟨t1,t2,t3⟩,⟨rfl,rfl,rfl⟩,d4⟩;have hS:jz (aP (fJ (a,b,c)))=(mL (a/(g:Int)),mL (b/(g:Int)),mL (c/(g:Int))):=by
   rw [hP];unfold jz;rw [s1,s2,s3]
  show iE.v (jz (aP (fJ (a,b,c))))=_;rw [hS];rfl
theorem aaB (hK:PF prog 4 .nil (.bool true)) (l:List sk) (hl:l.length<=9223372036854775807) (hi:∀x∈l,pa x) (A B M:Nat) (hA:A<=255) (hB:B<=255) (hM:M<=255) (k:Int) (n:I3) (hn:wK n):
  PF prog 3 (.cons (xJ l) (.cons (aau A B k n) (.cons (.int .u8 (M:Int)) .nil))) (.bool true):=by
 cases hs:uv l with
 |false=>exact Le hK l hl hs A B M k n|true=>
  have h4:l.length<=4:=by
   unfold uv at hs;split at hs
   .have:=cA.1 hs;omega
   .cases hs
  obtain⟨w1,w2,w3⟩:=Wk h4 hi;obtain⟨d1,d2,y,d3,d4⟩:=ae8 hn;exact ahB hK l hl hs A B M hA hB hM k n _ y ⟨w1,w2,w3.1,d1,d2,d3,d4⟩ (λA' _ h1 h2=>ahH w3 d4 h1 h2) (λk=>aax) aay
section
open Go.RowKit Go.Proofs Go.ChangeShapes Go.WideShapes
def muW (W:World):Mu:=tP (ju W (W.heap.size+64))
def LT (W:World) (a:AV) (zs:List Value):Prop:=cG (muW W) a zs
theorem Oa {μ:Mu}:∀{l:List AV} {t:AV} {xs ys:List Value},cG μ (bV l .nil) xs ->cG μ t ys ->cG μ (bV l t) (xs++ys)
 |[],t,xs,ys,h,k=>by
  obtain rfl:xs=[]:=h;exact k
 |a::l,t,xs,ys,h,k=>by
  obtain⟨v,r,rfl,h1,h2⟩:=h;exact⟨v,r++ys,rfl,h1,Oa h2 k⟩
section
attribute [local instance] fe
theorem CE {μ:Mu} {α:Type} (E:bX α) (f:Nat ->α) (g:Nat ->List Value):∀(idx:List Nat),(∀i∈idx,cG μ (E.c (f i) .nil) (g i)) ->cG μ (E.l (idx.map f)) (idx.flatMap g)
 |[],_=>rfl|i::idx,h=>Oa (h i (by simp)) (CE E f g idx λj hj=>h j (by simp [hj]))
end
theorem Ob (g:Nat ->List Value) (m:Nat) (hg:∀i,(g i).length=m):∀(n j:Nat) (z:Value),((List.range n).flatMap g)[j]?=some z ->∃i k,i<n/\k<m/\j=i*m+k/\(g i)[k]?=some z
 |0,j,z,h=>by simp at h
 |n+1,j,z,h=>by
  rw [List.range_succ,List.flatMap_append]at h;have hl:∀n,((List.range n).flatMap g).length=n*m:=λn=>by
   induction n with
   |zero=>simp|succ n ih=>rw [List.range_succ,List.flatMap_append,List.length_append,ih];simp [hg,Nat.add_mul]
  by_cases hj:j<n*m
  .rw [List.getElem?_append_left (by rw [hl];exact hj)]at h;obtain⟨i,k,h1,h2,h3,h4⟩:=Ob g m hg n j z h;exact⟨i,k,by omega,h2,h3,h4⟩
  .rw [List.getElem?_append_right (by rw [hl];omega),hl]at h;have h':(g n)[j - n*m]?=some z:=(by simpa using h);have hk:=(List.getElem?_eq_some_iff.1 h').1;rw [hg]at hk;exact⟨n,j - n*m,by omega,hk,by omega,h'⟩
theorem Lh {W:World} {b o:Nat} {zs:List Value} (h:∀j z,zs[j]?=some z ->W.cell? ⟨b,o+j,none⟩=some z):jD (muW W).s b o zs:=by
 cases zs with
 |nil=>exact .inl rfl|cons z zs=>
  have h0:=h 0 z rfl;unfold World.cell? at h0;split at h0
  .rename_i arr el fz hg;refine .inr ⟨arr,?_,λj x hj=>?_⟩
   .show ju W (W.heap.size+64) b=some arr;have cJ:=(Array.getElem?_eq_some_iff.1 hg).1;have cJ:b<W.heap.size:=cJ;unfold ju;rw [if_pos (by omega)];have hg:W.heap[b]?=some (.cells arr el fz):=hg;rw [hg]
   .have h1:=h j x hj;unfold World.cell? at h1;have hg:W.heap[b]?=some (.cells arr el fz):=hg;simp only [hg]at h1;simpa using h1
  .cases h0
section
variable {P:Program} {H:Type} {enc:TypeId×Value ->H} {W:World} {t e:TypeId} {fuel:Nat} {cs:List Value} {x:DataW H×List MemPlace}
theorem Oc {α:Type} (E:bX α) (G:α ->Prop) (m:Nat) (hm:0<m) (ht:P.underlying t=some (.slice e)) (hc:P.cellsOf e=m)
  (hel:∀(fuel:Nat) (cs:List Value) (x:DataW H×List MemPlace),DataW.trod enc P W 0 (λ_=>true) true fuel e cs=some x ->∃y:α,G y/\LT W (E.c y .nil) cs)
  (h:DataW.trod enc P W 0 (λ_=>true) true fuel t cs=some x):∃l:List α,l.length<=9223372036854775807/\(∀y∈l,G y)/\LT W (.cons (E.list.v l) .nil) cs:=by
 have nl:∀o:Option Addr,∃l:List α,l.length<=9223372036854775807/\(∀y∈l,G y)/\LT W (.cons (E.list.v l) .nil) [.slice o 0 0]:=λo=>⟨[],Nat.zero_le _,(λy hy=>by cases hy),_,[],rfl,⟨[],rfl,.inr ⟨rfl,rfl,o,rfl⟩⟩,rfl⟩
 rcases DataW.trod_slice ht h with ⟨rfl,_⟩|⟨a,len,cap,elems,rest,n,_,rfl,_,_,hl,hmx,hlen,ahL,cS,_⟩
 .exact nl none
 rcases Nat.eq_zero_or_pos cap with rfl|hp
 .obtain rfl:len=0:=by omega
  exact nl (some a)
 have spot:∀{y:DataW H×List MemPlace},(W.cells? 0 (a.add 0) (P.cellsOf e)).bind (DataW.trod enc P W 0 (λ_=>true) true n e)=some y ->a.spot=none:=λ{y} hy=>by
  obtain⟨cs',h2,_⟩:=Option.bind_eq_some_iff.1 hy;obtain⟨_,h3,h4⟩:=World.cells?_some h2;have h5:=h4 0 (by omega);rw [List.getElem?_eq_getElem (by omega)]at h5;exact World.cell?_spot h5
 have Wm:a.spot=none:=by
  rcases Nat.eq_zero_or_pos len with rfl|oz
  .obtain⟨k1,k2⟩:=cS rfl;have k3:=k2 0 (by omega);rw [List.getElem?_eq_getElem (by omega)]at k3;refine spot (y:=rest[0]'(by omega)) ?_;simpa using k3
  .have k3:=ahL 0 oz;rw [List.getElem?_eq_getElem (by omega)]at k3;refine spot (y:=elems[0]'(by omega)) ?_;simpa using k3
 obtain⟨b,off,sp⟩:=a;have Wm:sp=none:=Wm;subst Wm;rcases Nat.eq_zero_or_pos len with rfl|hp
 .exact⟨[],Nat.zero_le _,(λy hy=>by cases hy),_,[],rfl,⟨[],rfl,.inl ⟨b,off,cap,rfl,hl,.inl rfl⟩⟩,rfl⟩
 have one:∀i,i<len ->∃(y:α) (cs:List Value),G y/\cs.length=m/\LT W (E.c y .nil) cs/\∀k z,cs[k]?=some z ->W.cell? ⟨b,off+i*m+k,none⟩=some z:=λi hi=>by
  have h1:=ahL i hi;rw [List.getElem?_eq_getElem (by omega),hc,Option.bind_eq_some_iff]at h1;obtain⟨cs,h2,h3⟩:=h1;obtain⟨y,hg,hy⟩:=hel n cs _ h3;obtain⟨_,h4,h5⟩:=World.cells?_some h2;refine⟨y,cs,hg,h4,hy,λk z hz=>?_⟩;have hk:=(List.getElem?_eq_some_iff.1 hz).1;have:=h5 k (by omega);rw [add_plain,add_plain,hz]at this;exact this
 have key:∀i,∃(y:α) (cs:List Value),G y/\cs.length=m/\LT W (E.c y .nil) cs/\(i<len ->∀k z,cs[k]?=some z ->W.cell? ⟨b,off+i*m+k,none⟩=some z):=λi=>by
  by_cases hi:i<len
  .obtain⟨y,cs,h0,h1,h2,h3⟩:=one i hi;exact⟨y,cs,h0,h1,h2,λ_=>h3⟩
  .obtain⟨y,cs,h0,h1,h2,_⟩:=one 0 hp;exact⟨y,cs,h0,h1,h2,λh=>absurd h hi⟩
 obtain⟨f,hf⟩:=Classical.axiomOfChoice key;obtain⟨g,hg⟩:=Classical.axiomOfChoice hf;have hr:((List.range len).map f).length=len:=by simp
 have hmx:cap<=9223372036854775807:=hmx;refine⟨(List.range len).map f,by omega,λy hy=>?_,_,[],rfl,⟨(List.range len).flatMap g,CE E f g _ (λi _=>(hg i).2.2.1),.inl ⟨b,off,cap,by rw [hr],by rw [hr];exact hl,Lh λj z hz=>?_⟩⟩,rfl⟩
 .obtain⟨i,_,rfl⟩:=List.mem_map.1 hy;exact(hg i).1
 .obtain⟨i,k,h1,h2,h3,h4⟩:=Ob g m (λi=>(hg i).2.1) len j z hz;have:=(hg i).2.2.2 h1 k z h4;rw [h3,<-Nat.add_assoc];exact this
theorem wf_u8 {n:Int} (h:(Lit.int .u8 n).wf=true):U8 n:=by
 simp [Lit.wf,IntKind.min,IntKind.max,IntKind.signed,IntKind.bits]at h;unfold U8;omega
theorem wf_i8 {n:Int} (h:(Lit.int .i8 n).wf=true):I8 n:=by
 simp [Lit.wf,IntKind.min,IntKind.max,IntKind.signed,IntKind.bits]at h;unfold I8;omega
theorem lW {k:IntKind} (he:P.underlying e=some (.int k)) (h:DataW.trod enc P W 0 (λ_=>true) true fuel e cs=some x):∃n,cs=[.int k n]/\(Lit.int k n).wf=true:=by
 obtain⟨n,h1,_,h2⟩:=DataW.trod_int he h;exact⟨n,h1,h2⟩
theorem aaC {k:IntKind} (ht:P.underlying t=some (.array 3 e)) (he:P.underlying e=some (.int k)) (hce:P.cellsOf e=1) (hct:P.cellsOf t=3) (h:DataW.trod enc P W 0 (λ_=>true) true fuel t cs=some x):
  ∃a b c:Int,cs=[.int k a,.int k b,.int k c]/\(Lit.int k a).wf=true/\(Lit.int k b).wf=true/\(Lit.int k c).wf=true:=by
 obtain⟨xs,n,_,_,h1,h2,h3⟩:=DataW.trod_array ht h;rw [hct]at h1
 match cs,h1 with
 |[c0,c1,c2],_=>
  have g0:=h3 0 (by decide);have g1:=h3 1 (by decide);have g2:=h3 2 (by decide);rw [List.getElem?_eq_getElem (by omega),hce]at g0 g1 g2;obtain⟨n0,e0,w0⟩:=lW he g0;obtain⟨n1,e1,w1⟩:=lW he g1;obtain⟨n2,e2,w2⟩:=lW he g2;obtain rfl:c0= .int k n0:=by injection e0
  obtain rfl:c1= .int k n1:=by injection e1
  obtain rfl:c2= .int k n2:=by injection e2
  exact⟨n0,n1,n2,rfl,w0,w1,w2⟩
end
structure WTy (P:Program) (tw ti tb tk ta ts u8 i8 bo tI tB:TypeId):Prop where
 w:∃f,P.underlying tw=some (.struct #[f])/\f.offset=0/\f.type=tI
 I:P.underlying tI=some (.slice ti)
 i:∃f0 f1 f2 f3 f4,P.underlying ti=some (.struct #[f0,f1,f2,f3,f4])/\(f0.offset=0/\f0.type=tb)/\(f1.offset=2/\f1.type=bo)/\(f2.offset=3/\f2.type=u8)/\(f3.offset=4/\f3.type=ts)/\f4.offset=7/\f4.type=bo
 b:∃f0 f1,P.underlying tb=some (.struct #[f0,f1])/\(f0.offset=0/\f0.type=u8)/\f1.offset=1/\f1.type=tB
 B:P.underlying tB=some (.slice tk)
 k:∃f0 f1 f2,P.underlying tk=some (.struct #[f0,f1,f2])/\(f0.offset=0/\f0.type=u8)/\(f1.offset=1/\f1.type=ta)/\f2.offset=4/\f2.type=ta
 a:P.underlying ta=some (.array 3 u8)
 s:P.underlying ts=some (.array 3 i8)
 u:P.underlying u8=some (.int .u8)
 j:P.underlying i8=some (.int .i8)
 o:P.underlying bo=some .bool
 cw:P.cellsOf tw=1
 cI:P.cellsOf tI=1
 ci:P.cellsOf ti=8
 cb:P.cellsOf tb=2
 cB:P.cellsOf tB=1
 ck:P.cellsOf tk=7
 ca:P.cellsOf ta=3
 cs:P.cellsOf ts=3
 cu:P.cellsOf u8=1
 cj:P.cellsOf i8=1
 co:P.cellsOf bo=1
section
variable {P:Program} {H:Type} {enc:TypeId×Value ->H} {W:World} {tw ti tb tk ta ts u8 i8 bo tI tB:TypeId} {fuel:Nat} {cs:List Value} {x:DataW H×List MemPlace}
theorem Wn (T:WTy P tw ti tb tk ta ts u8 i8 bo tI tB) (h:DataW.trod enc P W 0 (λ_=>true) true fuel tk cs=some x):∃y:Bk,wE y/\LT W (mV.c y .nil) cs:=by
 obtain⟨f0,f1,f2,hk,o0,o1,o2⟩:=T.k;obtain⟨xs,n,_,_,h1,h2,h3⟩:=DataW.trod_struct hk h;rw [T.ck]at h1;have h2:xs.length=3:=h2
 match cs,h1 with
 |[c0,c1,c2,c3,c4,c5,c6],_=>
  have g0:=h3 0 f0 rfl;have g1:=h3 1 f1 rfl;have g2:=h3 2 f2 rfl;rw [List.getElem?_eq_getElem (by omega)]at g0 g1 g2;rw [o0.1,o0.2,T.cu]at g0;rw [o1.1,o1.2,T.ca]at g1;rw [o2.1,o2.2,T.ca]at g2;obtain⟨n0,e0,w0⟩:=lW T.u g0;obtain⟨a1,a2,a3,e1,p1,p2,p3⟩:=aaC T.a T.u T.cu T.ca g1;obtain⟨b1,b2,b3,e2,q1,q2,q3⟩:=aaC T.a T.u T.cu T.ca g2;obtain rfl:c0= .int .u8 n0:=by injection e0
  have x1:[c1,c2,c3]=[.int .u8 a1,.int .u8 a2,.int .u8 a3]:=e1;have x2:[c4,c5,c6]=[.int .u8 b1,.int .u8 b2,.int .u8 b3]:=e2;clear e1 e2 g0 g1 g2;injection x1 with y1 r1;injection r1 with y2 r1;injection r1 with y3 r1;injection x2 with y4 r2;injection r2 with y5 r2;injection r2 with y6 r2;subst y1 y2 y3 y4 y5 y6;exact⟨(n0,(a1,a2,a3),(b1,b2,b3)),⟨wf_u8 w0,⟨wf_u8 p1,wf_u8 p2,wf_u8 p3⟩,wf_u8 q1,wf_u8 q2,wf_u8 q3⟩,_,_,rfl,rfl,_,_,rfl,rfl,_,_,rfl,rfl,_,_,rfl,rfl,_,_,rfl,rfl,_,_,rfl,rfl,_,[],rfl,rfl,rfl⟩
theorem Wo (T:WTy P tw ti tb tk ta ts u8 i8 bo tI tB) (h:DataW.trod enc P W 0 (λ_=>true) true fuel ti cs=some x):∃y:sk,pa y/\LT W (uu.c y .nil) cs:=by
 obtain⟨f0,f1,f2,f3,f4,hk,o0,o1,o2,o3,o4⟩:=T.i;obtain⟨xs,n,_,_,h1,h2,h3⟩:=DataW.trod_struct hk h;rw [T.ci]at h1;have h2:xs.length=5:=h2
 match cs,h1 with
 |[c0,c1,c2,c3,c4,c5,c6,c7],_=>
  have g0:=h3 0 f0 rfl;have g1:=h3 1 f1 rfl;have g2:=h3 2 f2 rfl;have g3:=h3 3 f3 rfl;have g4:=h3 4 f4 rfl;rw [List.getElem?_eq_getElem (by omega)]at g0 g1 g2 g3 g4;rw [o0.1,o0.2,T.cb]at g0;rw [o1.1,o1.2,T.co]at g1;rw [o2.1,o2.2,T.cu]at g2;rw [o3.1,o3.2,T.cs]at g3;rw [o4.1,o4.2,T.co]at g4;obtain⟨d0,d1,hb,p0,p1⟩:=T.b;obtain⟨ys,m,_,_,k1,k2,k3⟩:=DataW.trod_struct hb g0;have k2:ys.length=2:=k2;have r0:=k3 0 d0 rfl;have r1:=k3 1 d1 rfl;rw [List.getElem?_eq_getElem (by omega)]at r0 r1;rw [p0.1,p0.2,T.cu]at r0;rw [p1.1,p1.2,T.cB]at r1;obtain⟨n0,e0,w0⟩:=lW T.u r0;obtain⟨L,_,hL,v0,z0,e1,hv,hz⟩:=Oc mV wE 7 (by decide) T.B T.ck (λfuel cs x hx=>Wn T hx) r1;obtain⟨b1,e2,_⟩:=DataW.trod_bool T.o g1;obtain⟨n2,e3,w3⟩:=lW T.u g2;obtain⟨s1,s2,s3,e4,q1,q2,q3⟩:=aaC T.s T.j T.cj T.cs g3;obtain⟨b2,e5,_⟩:=DataW.trod_bool T.o g4;obtain rfl:c0= .int .u8 n0:=by injection e0
  have e1:[c1]=v0::z0:=e1;obtain rfl:c1=v0:=by injection e1
  obtain rfl:c2= .bool b1:=by injection e2
  obtain rfl:c3= .int .u8 n2:=by injection e3
  have x1:[c4,c5,c6]=[.int .i8 s1,.int .i8 s2,.int .i8 s3]:=e4;obtain rfl:c7= .bool b2:=by injection e5
  clear e4 g0 g1 g2 g3 g4 r0 r1 k3 h3;injection x1 with y1 t1;injection t1 with y2 t1;injection t1 with y3 t1;subst y1 y2 y3;exact⟨((n0,L),b1,n2,(s1,s2,s3),b2),⟨⟨wf_u8 w0,hL⟩,wf_u8 w3,wf_i8 q1,wf_i8 q2,wf_i8 q3⟩,_,_,rfl,rfl,_,_,rfl,hv,_,_,rfl,rfl,_,_,rfl,rfl,_,_,rfl,rfl,_,_,rfl,rfl,_,_,rfl,rfl,_,[],rfl,rfl,rfl⟩
theorem Wp (T:WTy P tw ti tb tk ta ts u8 i8 bo tI tB) (h:DataW.trod enc P W 0 (λ_=>true) true fuel tw cs=some x):∃l:List sk,l.length<=9223372036854775807/\(∀y∈l,pa y)/\LT W (.cons (uu.list.v l) .nil) cs:=by
 obtain⟨f,hw,o1,o2⟩:=T.w;obtain⟨xs,n,_,_,h1,h2,h3⟩:=DataW.trod_struct hw h;have h2:xs.length=1:=h2;have g0:=h3 0 f rfl;rw [List.getElem?_eq_getElem (by omega),o1,o2,T.cI]at g0;rw [T.cw]at h1
 match cs,h1 with
 |[c0],_=>exact Oc uu pa 8 (by decide) T.I T.ci (λfuel cs x hx=>Wo T hx) g0
theorem Wq {tq:TypeId} (T:WTy P tw ti tb tk ta ts u8 i8 bo tI tB) (hq:∃f0 f1 f2 f3,P.underlying tq=some (.struct #[f0,f1,f2,f3])/\(f0.offset=0/\f0.type=u8)/\(f1.offset=1/\f1.type=u8)/\(f2.offset=2/\f2.type=u8)/\f3.offset=3/\f3.type=ts) (hc:P.cellsOf tq=6)
  (h:DataW.trod enc P W 0 (λ_=>true) true fuel tq cs=some x):∃(A B:Nat) (k:Int) (n:I3),A<=255/\B<=255/\wK n/\LT W (.cons (.int .u8 (A:Int)) (.cons (.int .u8 (B:Int)) (.cons (.int .u8 k) (.cons (.int .i8 n.1) (.cons (.int .i8 n.2.1) (.cons (.int .i8 n.2.2) .nil)))))) cs:=by
 obtain⟨f0,f1,f2,f3,hk,o0,o1,o2,o3⟩:=hq;obtain⟨xs,n,_,_,h1,h2,h3⟩:=DataW.trod_struct hk h;rw [hc]at h1;have h2:xs.length=4:=h2
 match cs,h1 with
 |[c0,c1,c2,c3,c4,c5],_=>
  have g0:=h3 0 f0 rfl;have g1:=h3 1 f1 rfl;have g2:=h3 2 f2 rfl;have g3:=h3 3 f3 rfl;rw [List.getElem?_eq_getElem (by omega)]at g0 g1 g2 g3;rw [o0.1,o0.2,T.cu]at g0;rw [o1.1,o1.2,T.cu]at g1;rw [o2.1,o2.2,T.cu]at g2;rw [o3.1,o3.2,T.cs]at g3;obtain⟨a,e0,w0⟩:=lW T.u g0;obtain⟨b,e1,w1⟩:=lW T.u g1;obtain⟨k,e2,w2⟩:=lW T.u g2;obtain⟨s1,s2,s3,e3,q1,q2,q3⟩:=aaC T.s T.j T.cj T.cs g3;obtain rfl:c0= .int .u8 a:=by injection e0
  obtain rfl:c1= .int .u8 b:=by injection e1
  obtain rfl:c2= .int .u8 k:=by injection e2
  have x1:[c3,c4,c5]=[.int .i8 s1,.int .i8 s2,.int .i8 s3]:=e3;clear e3 g0 g1 g2 g3 h3;injection x1 with y1 t1;injection t1 with y2 t1;injection t1 with y3 t1;subst y1 y2 y3;obtain⟨a1,a2⟩:=wf_u8 w0;obtain⟨b1,b2⟩:=wf_u8 w1;obtain⟨A,rfl⟩:=Int.eq_ofNat_of_zero_le a1;obtain⟨B,rfl⟩:=Int.eq_ofNat_of_zero_le b1;exact⟨A,B,k,(s1,s2,s3),by omega,by omega,⟨wf_i8 q1,wf_i8 q2,wf_i8 q3⟩,_,_,rfl,rfl,_,_,rfl,rfl,_,_,rfl,rfl,_,_,rfl,rfl,_,_,rfl,rfl,_,[],rfl,rfl,rfl⟩
end
attribute [local instance] bJ
theorem Wr (hK:PF prog 4 .nil (.bool true)) {W:World} (ht:LM W aY.l) {c0 c1:Array Value} {l:List sk} {A B M:Nat} {k:Int} {n:I3} (hl:l.length<=9223372036854775807) (hi:∀y∈l,pa y) (h0:LT W (.cons (uu.list.v l) .nil) c0.toList)
  (hA:A<=255) (hB:B<=255) (hM:M<=255) (hn:wK n) (h1:LT W (.cons (.int .u8 (A:Int)) (.cons (.int .u8 (B:Int)) (.cons (.int .u8 k) (.cons (.int .i8 n.1) (.cons (.int .i8 n.2.1) (.cons (.int .i8 n.2.2) .nil)))))) c1.toList):
  Calls prog 3 #[.agg c0,.agg c1,.int .u8 (M:Int)] W λe w=>e= .returned (.bool true)/\Below W.heap.size W w:=by
 refine(aaB hK l hl hi A B M hA hB hM k n hn (ju W (W.heap.size+64)) W (DB W (W.heap.size+64)) (ht.shut (Nat.le_trans (by decide:(@aY.l bJ).length<=64) (by omega))) #[.agg c0,.agg c1,.int .u8 (M:Int)] ⟨_,_,rfl,⟨c0,rfl,h0⟩,_,_,rfl,⟨c1,rfl,h1⟩,_,[],rfl,rfl,rfl⟩).mono λe w' h=>?_;obtain⟨cv,s',he,_,_,hv,hb⟩:=h;have h3:cv= .bool true:=by simpa [VR]using hv
 exact⟨by rw [he,h3],hb⟩
end
end
end Go.Sy
