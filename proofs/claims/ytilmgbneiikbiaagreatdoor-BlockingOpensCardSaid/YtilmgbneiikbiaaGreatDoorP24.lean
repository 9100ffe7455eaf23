/- A piece of the proof, made small by a program of ours. -/
import Derived.Test.YtilmgbneiikbiaaGreatDoorP23
import Derived.WalkKit
import Derived.ProofKit
import Derived.ChangeSlices
import Derived.OpenShut
import Derived.Laws.IdiomArrays
set_option linter.all false
set_option maxRecDepth 1000000
set_option maxHeartbeats 0
namespace Go.Sy
noncomputable section
open Go.RowKit Go.Proofs Go.Proofs.Tryz
section
attribute [local instance] bZ
theorem QU (hK:PF prog 7 .nil (.bool true)) (l:List pX) (hl:l.length<=9223372036854775807) (hi:∀x∈l,lK x) (M:Nat) (hM:M<=255):
  PF prog 3 (.cons (Ia l) (.cons (.int .u8 (M:Int)) .nil)) (.bool true):=by
 cases hs:uj l with
 |false=>exact Ff hK l hl hs M|true=>
  have h4:l.length<=4:=by
   unfold uj at hs;split at hs
   .have:=cG.1 hs;omega
   .cases hs
  obtain⟨w1,_,_⟩:=Wp h4 hi;exact aaJ hK l hl hs M hM _ (aaI h4 hi) w1
end
section
open Go.RowKit Go.Proofs Go.ChangeShapes Go.WideShapes
def muW (W:World):Mu:=tH (jx W (W.heap.size+64))
def LT (W:World) (a:AV) (zs:List Value):Prop:=cJ (muW W) a zs
theorem Ot {μ:Mu}:∀{l:List AV} {t:AV} {xs ys:List Value},cJ μ (bR l .nil) xs ->cJ μ t ys ->cJ μ (bR l t) (xs++ys)
 |[],t,xs,ys,h,k=>by
  obtain rfl:xs=[]:=h;exact k
 |a::l,t,xs,ys,h,k=>by
  obtain⟨v,r,rfl,h1,h2⟩:=h;exact⟨v,r++ys,rfl,h1,Ot h2 k⟩
section
attribute [local instance] fp
theorem CJ {μ:Mu} {α:Type} (E:bW α) (f:Nat ->α) (g:Nat ->List Value):∀(idx:List Nat),(∀i∈idx,cJ μ (E.c (f i) .nil) (g i)) ->cJ μ (E.l (idx.map f)) (idx.flatMap g)
 |[],_=>rfl|i::idx,h=>Ot (h i (by simp)) (CJ E f g idx λj hj=>h j (by simp [hj]))
end
theorem Ou (g:Nat ->List Value) (m:Nat) (hg:∀i,(g i).length=m):∀(n j:Nat) (z:Value),((List.range n).flatMap g)[j]?=some z ->∃i k,i<n/\k<m/\j=i*m+k/\(g i)[k]?=some z
 |0,j,z,h=>by simp at h
 |n+1,j,z,h=>by
  rw [List.range_succ,List.flatMap_append]at h;have hl:∀n,((List.range n).flatMap g).length=n*m:=λn=>by
   induction n with
   |zero=>simp|succ n ih=>rw [List.range_succ,List.flatMap_append,List.length_append,ih];simp [hg,Nat.add_mul]
  by_cases hj:j<n*m
  .rw [List.getElem?_append_left (by rw [hl];exact hj)]at h;obtain⟨i,k,h1,h2,h3,h4⟩:=Ou g m hg n j z h;exact⟨i,k,by omega,h2,h3,h4⟩
  .rw [List.getElem?_append_right (by rw [hl];omega),hl]at h;have h':(g n)[j - n*m]?=some z:=(by simpa using h);have hk:=(List.getElem?_eq_some_iff.1 h').1;rw [hg]at hk;exact⟨n,j - n*m,by omega,hk,by omega,h'⟩
theorem LC {W:World} {b o:Nat} {zs:List Value} (h:∀j z,zs[j]?=some z ->W.cell? ⟨b,o+j,none⟩=some z):jJ (muW W).s b o zs:=by
 cases zs with
 |nil=>exact .inl rfl|cons z zs=>
  have h0:=h 0 z rfl;unfold World.cell? at h0;split at h0
  .rename_i arr el fz hg;refine .inr ⟨arr,?_,λj x hj=>?_⟩
   .show jx W (W.heap.size+64) b=some arr;have cR:=(Array.getElem?_eq_some_iff.1 hg).1;have cR:b<W.heap.size:=cR;unfold jx;rw [if_pos (by omega)];have hg:W.heap[b]?=some (.cells arr el fz):=hg;rw [hg]
   .have h1:=h j x hj;unfold World.cell? at h1;have hg:W.heap[b]?=some (.cells arr el fz):=hg;simp only [hg]at h1;simpa using h1
  .cases h0
section
variable {P:Program} {H:Type} {enc:TypeId×Value ->H} {W:World} {t e:TypeId} {fuel:Nat} {cs:List Value} {x:DataW H×List MemPlace}
theorem Ov {α:Type} (E:bW α) (G:α ->Prop) (m:Nat) (hm:0<m) (ht:P.underlying t=some (.slice e)) (hc:P.cellsOf e=m)
  (hel:∀(fuel:Nat) (cs:List Value) (x:DataW H×List MemPlace),DataW.trod enc P W 0 (λ_=>true) true fuel e cs=some x ->∃y:α,G y/\LT W (E.c y .nil) cs)
  (h:DataW.trod enc P W 0 (λ_=>true) true fuel t cs=some x):∃l:List α,l.length<=9223372036854775807/\(∀y∈l,G y)/\LT W (.cons (E.list.v l) .nil) cs:=by
 have nl:∀o:Option Addr,∃l:List α,l.length<=9223372036854775807/\(∀y∈l,G y)/\LT W (.cons (E.list.v l) .nil) [.slice o 0 0]:=λo=>⟨[],Nat.zero_le _,(λy hy=>by cases hy),_,[],rfl,⟨[],rfl,.inr ⟨rfl,rfl,o,rfl⟩⟩,rfl⟩
 rcases DataW.trod_slice ht h with ⟨rfl,_⟩|⟨a,len,cap,elems,rest,n,_,rfl,_,_,hl,hmx,hlen,ahp,fw,_⟩
 .exact nl none
 rcases Nat.eq_zero_or_pos cap with rfl|hp
 .obtain rfl:len=0:=by omega
  exact nl (some a)
 have spot:∀{y:DataW H×List MemPlace},(W.cells? 0 (a.add 0) (P.cellsOf e)).bind (DataW.trod enc P W 0 (λ_=>true) true n e)=some y ->a.spot=none:=λ{y} hy=>by
  obtain⟨cs',h2,_⟩:=Option.bind_eq_some_iff.1 hy;obtain⟨_,h3,h4⟩:=World.cells?_some h2;have h5:=h4 0 (by omega);rw [List.getElem?_eq_getElem (by omega)]at h5;exact World.cell?_spot h5
 have WD:a.spot=none:=by
  rcases Nat.eq_zero_or_pos len with rfl|nK
  .obtain⟨k1,k2⟩:=fw rfl;have k3:=k2 0 (by omega);rw [List.getElem?_eq_getElem (by omega)]at k3;refine spot (y:=rest[0]'(by omega)) ?_;simpa using k3
  .have k3:=ahp 0 nK;rw [List.getElem?_eq_getElem (by omega)]at k3;refine spot (y:=elems[0]'(by omega)) ?_;simpa using k3
 obtain⟨b,off,sp⟩:=a;have WD:sp=none:=WD;subst WD;rcases Nat.eq_zero_or_pos len with rfl|hp
 .exact⟨[],Nat.zero_le _,(λy hy=>by cases hy),_,[],rfl,⟨[],rfl,.inl ⟨b,off,cap,rfl,hl,.inl rfl⟩⟩,rfl⟩
 have one:∀i,i<len ->∃(y:α) (cs:List Value),G y/\cs.length=m/\LT W (E.c y .nil) cs/\∀k z,cs[k]?=some z ->W.cell? ⟨b,off+i*m+k,none⟩=some z:=λi hi=>by
  have h1:=ahp i hi;rw [List.getElem?_eq_getElem (by omega),hc,Option.bind_eq_some_iff]at h1;obtain⟨cs,h2,h3⟩:=h1;obtain⟨y,hg,hy⟩:=hel n cs _ h3;obtain⟨_,h4,h5⟩:=World.cells?_some h2;refine⟨y,cs,hg,h4,hy,λk z hz=>?_⟩;have hk:=(List.getElem?_eq_some_iff.1 hz).1;have:=h5 k (by omega);rw [add_plain,add_plain,hz]at this;exact this
 have key:∀i,∃(y:α) (cs:List Value),G y/\cs.length=m/\LT W (E.c y .nil) cs/\(i<len ->∀k z,cs[k]?=some z ->W.cell? ⟨b,off+i*m+k,none⟩=some z):=λi=>by
  by_cases hi:i<len
  .obtain⟨y,cs,h0,h1,h2,h3⟩:=one i hi;exact⟨y,cs,h0,h1,h2,λ_=>h3⟩
  .obtain⟨y,cs,h0,h1,h2,_⟩:=one 0 hp;exact⟨y,cs,h0,h1,h2,λh=>absurd h hi⟩
 obtain⟨f,hf⟩:=Classical.axiomOfChoice key;obtain⟨g,hg⟩:=Classical.axiomOfChoice hf;have hr:((List.range len).map f).length=len:=by simp
 have hmx:cap<=9223372036854775807:=hmx;refine⟨(List.range len).map f,by omega,λy hy=>?_,_,[],rfl,⟨(List.range len).flatMap g,CJ E f g _ (λi _=>(hg i).2.2.1),.inl ⟨b,off,cap,by rw [hr],by rw [hr];exact hl,LC λj z hz=>?_⟩⟩,rfl⟩
 .obtain⟨i,_,rfl⟩:=List.mem_map.1 hy;exact(hg i).1
 .obtain⟨i,k,h1,h2,h3,h4⟩:=Ou g m (λi=>(hg i).2.1) len j z hz;have:=(hg i).2.2.2 h1 k z h4;rw [h3,<-Nat.add_assoc];exact this
theorem wf_u8 {n:Int} (h:(Lit.int .u8 n).wf=true):U8 n:=by
 simp [Lit.wf,IntKind.min,IntKind.max,IntKind.signed,IntKind.bits]at h;unfold U8;omega
theorem wf_i8 {n:Int} (h:(Lit.int .i8 n).wf=true):I8 n:=by
 simp [Lit.wf,IntKind.min,IntKind.max,IntKind.signed,IntKind.bits]at h;unfold I8;omega
theorem rZ {k:IntKind} (he:P.underlying e=some (.int k)) (h:DataW.trod enc P W 0 (λ_=>true) true fuel e cs=some x):∃n,cs=[.int k n]/\(Lit.int k n).wf=true:=by
 obtain⟨n,h1,_,h2⟩:=DataW.trod_int he h;exact⟨n,h1,h2⟩
theorem ae2 {k:IntKind} (ht:P.underlying t=some (.array 3 e)) (he:P.underlying e=some (.int k)) (hce:P.cellsOf e=1) (hct:P.cellsOf t=3) (h:DataW.trod enc P W 0 (λ_=>true) true fuel t cs=some x):
  ∃a b c:Int,cs=[.int k a,.int k b,.int k c]/\(Lit.int k a).wf=true/\(Lit.int k b).wf=true/\(Lit.int k c).wf=true:=by
 obtain⟨xs,n,_,_,h1,h2,h3⟩:=DataW.trod_array ht h;rw [hct]at h1
 match cs,h1 with
 |[c0,c1,c2],_=>
  have g0:=h3 0 (by decide);have g1:=h3 1 (by decide);have g2:=h3 2 (by decide);rw [List.getElem?_eq_getElem (by omega),hce]at g0 g1 g2;obtain⟨n0,e0,w0⟩:=rZ he g0;obtain⟨n1,e1,w1⟩:=rZ he g1;obtain⟨n2,e2,w2⟩:=rZ he g2;obtain rfl:c0= .int k n0:=by injection e0
  obtain rfl:c1= .int k n1:=by injection e1
  obtain rfl:c2= .int k n2:=by injection e2
  exact⟨n0,n1,n2,rfl,w0,w1,w2⟩
end
structure WTy (P:Program) (tw ti tb tk ta ts u8 i8 bo tI tB:TypeId):Prop where
 w:∃f,P.underlying tw=some (.struct #[f])/\f.offset=0/\f.type=tI
 I:P.underlying tI=some (.slice ti)
 i:∃f0 f1 f2 f3 f4,P.underlying ti=some (.struct #[f0,f1,f2,f3,f4])/\(f0.offset=0/\f0.type=tb)/\(f1.offset=2/\f1.type=bo)/\(f2.offset=3/\f2.type=u8)/\(f3.offset=4/\f3.type=ts)/\f4.offset=7/\f4.type=bo
 b:∃f0 f1,P.underlying tb=some (.struct #[f0,f1])/\(f0.offset=0/\f0.type=u8)/\f1.offset=1/\f1.type=tB
 B:P.underlying tB=some (.slice tk)
 k:∃f0 f1 f2,P.underlying tk=some (.struct #[f0,f1,f2])/\(f0.offset=0/\f0.type=u8)/\(f1.offset=1/\f1.type=ta)/\f2.offset=4/\f2.type=ta
 a:P.underlying ta=some (.array 3 u8)
 s:P.underlying ts=some (.array 3 i8)
 u:P.underlying u8=some (.int .u8)
 j:P.underlying i8=some (.int .i8)
 o:P.underlying bo=some .bool
 cw:P.cellsOf tw=1
 cI:P.cellsOf tI=1
 ci:P.cellsOf ti=8
 cb:P.cellsOf tb=2
 cB:P.cellsOf tB=1
 ck:P.cellsOf tk=7
 ca:P.cellsOf ta=3
 cs:P.cellsOf ts=3
 cu:P.cellsOf u8=1
 cj:P.cellsOf i8=1
 co:P.cellsOf bo=1
section
variable {P:Program} {H:Type} {enc:TypeId×Value ->H} {W:World} {tw ti tb tk ta ts u8 i8 bo tI tB:TypeId} {fuel:Nat} {cs:List Value} {x:DataW H×List MemPlace}
theorem WE (T:WTy P tw ti tb tk ta ts u8 i8 bo tI tB) (h:DataW.trod enc P W 0 (λ_=>true) true fuel tk cs=some x):∃y:Bk,lB y/\LT W (mR.c y .nil) cs:=by
 obtain⟨f0,f1,f2,hk,o0,o1,o2⟩:=T.k;obtain⟨xs,n,_,_,h1,h2,h3⟩:=DataW.trod_struct hk h;rw [T.ck]at h1;have h2:xs.length=3:=h2
 match cs,h1 with
 |[c0,c1,c2,c3,c4,c5,c6],_=>
  have g0:=h3 0 f0 rfl;have g1:=h3 1 f1 rfl;have g2:=h3 2 f2 rfl;rw [List.getElem?_eq_getElem (by omega)]at g0 g1 g2;rw [o0.1,o0.2,T.cu]at g0;rw [o1.1,o1.2,T.ca]at g1;rw [o2.1,o2.2,T.ca]at g2;obtain⟨n0,e0,w0⟩:=rZ T.u g0;obtain⟨a1,a2,a3,e1,p1,p2,p3⟩:=ae2 T.a T.u T.cu T.ca g1;obtain⟨b1,b2,b3,e2,q1,q2,q3⟩:=ae2 T.a T.u T.cu T.ca g2;obtain rfl:c0= .int .u8 n0:=by injection e0
  have x1:[c1,c2,c3]=[.int .u8 a1,.int .u8 a2,.int .u8 a3]:=e1;have x2:[c4,c5,c6]=[.int .u8 b1,.int .u8 b2,.int .u8 b3]:=e2;clear e1 e2 g0 g1 g2;injection x1 with y1 r1;injection r1 with y2 r1;injection r1 with y3 r1;injection x2 with y4 r2;injection r2 with y5 r2;injection r2 with y6 r2;subst y1 y2 y3 y4 y5 y6;exact⟨(n0,(a1,a2,a3),(b1,b2,b3)),⟨wf_u8 w0,⟨wf_u8 p1,wf_u8 p2,wf_u8 p3⟩,wf_u8 q1,wf_u8 q2,wf_u8 q3⟩,_,_,rfl,rfl,_,_,rfl,rfl,_,_,rfl,rfl,_,_,rfl,rfl,_,_,rfl,rfl,_,_,rfl,rfl,_,[],rfl,rfl,rfl⟩
theorem WG (T:WTy P tw ti tb tk ta ts u8 i8 bo tI tB) (h:DataW.trod enc P W 0 (λ_=>true) true fuel ti cs=some x):∃y:pX,lK y/\LT W (ui.c y .nil) cs:=by
 obtain⟨f0,f1,f2,f3,f4,hk,o0,o1,o2,o3,o4⟩:=T.i;obtain⟨xs,n,_,_,h1,h2,h3⟩:=DataW.trod_struct hk h;rw [T.ci]at h1;have h2:xs.length=5:=h2
 match cs,h1 with
 |[c0,c1,c2,c3,c4,c5,c6,c7],_=>
  have g0:=h3 0 f0 rfl;have g1:=h3 1 f1 rfl;have g2:=h3 2 f2 rfl;have g3:=h3 3 f3 rfl;have g4:=h3 4 f4 rfl;rw [List.getElem?_eq_getElem (by omega)]at g0 g1 g2 g3 g4;rw [o0.1,o0.2,T.cb]at g0;rw [o1.1,o1.2,T.co]at g1;rw [o2.1,o2.2,T.cu]at g2;rw [o3.1,o3.2,T.cs]at g3;rw [o4.1,o4.2,T.co]at g4;obtain⟨d0,d1,hb,p0,p1⟩:=T.b;obtain⟨ys,m,_,_,k1,k2,k3⟩:=DataW.trod_struct hb g0;have k2:ys.length=2:=k2;have r0:=k3 0 d0 rfl;have r1:=k3 1 d1 rfl;rw [List.getElem?_eq_getElem (by omega)]at r0 r1;rw [p0.1,p0.2,T.cu]at r0;rw [p1.1,p1.2,T.cB]at r1;obtain⟨n0,e0,w0⟩:=rZ T.u r0;obtain⟨L,_,hL,v0,z0,e1,hv,hz⟩:=Ov mR lB 7 (by decide) T.B T.ck (λfuel cs x hx=>WE T hx) r1;obtain⟨b1,e2,_⟩:=DataW.trod_bool T.o g1;obtain⟨n2,e3,w3⟩:=rZ T.u g2;obtain⟨s1,s2,s3,e4,q1,q2,q3⟩:=ae2 T.s T.j T.cj T.cs g3;obtain⟨b2,e5,_⟩:=DataW.trod_bool T.o g4;obtain rfl:c0= .int .u8 n0:=by injection e0
  have e1:[c1]=v0::z0:=e1;obtain rfl:c1=v0:=by injection e1
  obtain rfl:c2= .bool b1:=by injection e2
  obtain rfl:c3= .int .u8 n2:=by injection e3
  have x1:[c4,c5,c6]=[.int .i8 s1,.int .i8 s2,.int .i8 s3]:=e4;obtain rfl:c7= .bool b2:=by injection e5
  clear e4 g0 g1 g2 g3 g4 r0 r1 k3 h3;injection x1 with y1 t1;injection t1 with y2 t1;injection t1 with y3 t1;subst y1 y2 y3;exact⟨((n0,L),b1,n2,(s1,s2,s3),b2),⟨⟨wf_u8 w0,hL⟩,wf_u8 w3,wf_i8 q1,wf_i8 q2,wf_i8 q3⟩,_,_,rfl,rfl,_,_,rfl,hv,_,_,rfl,rfl,_,_,rfl,rfl,_,_,rfl,rfl,_,_,rfl,rfl,_,_,rfl,rfl,_,[],rfl,rfl,rfl⟩
theorem WH (T:WTy P tw ti tb tk ta ts u8 i8 bo tI tB) (h:DataW.trod enc P W 0 (λ_=>true) true fuel tw cs=some x):∃l:List pX,l.length<=9223372036854775807/\(∀y∈l,lK y)/\LT W (.cons (ui.list.v l) .nil) cs:=by
 obtain⟨f,hw,o1,o2⟩:=T.w;obtain⟨xs,n,_,_,h1,h2,h3⟩:=DataW.trod_struct hw h;have h2:xs.length=1:=h2;have g0:=h3 0 f rfl;rw [List.getElem?_eq_getElem (by omega),o1,o2,T.cI]at g0;rw [T.cw]at h1
 match cs,h1 with
 |[c0],_=>exact Ov ui lK 8 (by decide) T.I T.ci (λfuel cs x hx=>WG T hx) g0
end
attribute [local instance] bZ
theorem LD (hK:PF prog 7 .nil (.bool true)) {W:World} (ht:Mi W aT.l) {c0:Array Value} {l:List pX} {M:Nat} (hl:l.length<=9223372036854775807) (hi:∀y∈l,lK y) (h0:LT W (.cons (ui.list.v l) .nil) c0.toList) (hM:M<=255):
  Calls prog 3 #[.agg c0,.int .u8 (M:Int)] W λe w=>e= .returned (.bool true)/\Below W.heap.size W w:=by
 refine(QU hK l hl hi M hM (jx W (W.heap.size+64)) W (DJ W (W.heap.size+64)) (ht.shut (Nat.le_trans (by decide:(@aT.l bZ).length<=64) (by omega))) #[.agg c0,.int .u8 (M:Int)] ⟨_,_,rfl,⟨c0,rfl,h0⟩,_,[],rfl,rfl,rfl⟩).mono λe w' h=>?_;obtain⟨cv,s',he,_,_,hv,hb⟩:=h;have h3:cv= .bool true:=by simpa [VR]using hv
 exact⟨by rw [he,h3],hb⟩
end
end
end Go.Sy
