/- A piece of the proof, made small by a program of ours. -/
import Derived.Test.YtilmgbneiikbiaaGreatDoorP19
set_option linter.all false
set_option maxRecDepth 1000000
set_option maxHeartbeats 0
namespace Go.Sy
noncomputable section
open Go.RowKit Go.Proofs Go.Proofs.Tryz
def bas (r x y z:Int):List V3:=(xD r).map λc=>(c.1*x,c.2.1*y,c.2.2*z)
def aao (x:Int):Bool:=gD 0 x &&gD x 3
def ixB (l:List V3) (i:Int):Bool:=gD 0 i &&cQ i (l.length:Int)
def bqB (q:Q):Bool:=Nat.blt q.1.natAbs 32 &&Nat.blt q.2.natAbs 2
def fcB (l:List V3) (x:Fc):Bool:=Nat.blt x.1.1.1.natAbs 128 &&(Nat.blt x.1.1.2.1.natAbs 128 &&(Nat.blt x.1.1.2.2.natAbs 128 &&(bqB (aI (gR x.1.1)).1 &&(bqB (aI (gR x.1.1)).2.1 &&(bqB (aI (gR x.1.1)).2.2 &&(ixB l (x.2.headD (-1)) &&Nat.ble x.2.length 16))))))
def nzB (x:Fc):Bool:=bN.all λt=>aY (cT (iI (gh t ((0,false),(0,false),(0,false))) (aI (gR x.1.1)))) &&aY (cT (aI (gR x.1.1)))
def ag9 (l:List V3) (F:List Fc):Bool:=Nat.ble F.length 10 &&(F.all (fcB l) &&(decide (F.map (·.2)∈lh.map (·.1)) &&(Nat.ble (pN (F.map (·.2))).length 12 &&((pN (F.map (·.2))).all (λe=>ixB l e.1 &&ixB l e.2.1) &&F.any nzB))))
def ckC (l:List V3):Bool:=Nat.ble 4 l.length &&(Nat.ble l.length 16 &&(l.all (λp=>aao p.1 &&(aao p.2.1 &&aao p.2.2)) &&((List.range (l.length - 1)).all (λq=>cQ (ua (l3 (l.getD q (0,0,0))) (l3 (l.getD (q+1) (0,0,0)))) 0) &&(aY (ku l) &&
 (match iq l with|none=>false|some x=>(Nat.beq x.2 15||(Nat.beq x.2 63||Nat.beq x.2 255)) &&(gD (l.length:Int) (HJ x.2) &&ag9 l (cF x.1)))))))
theorem aeE:∀r∈([0,1,2,3,4,5]:List Int),∀x∈([1,2,3]:List Int),∀y∈([1,2,3]:List Int),∀z∈([1,2,3]:List Int),ckC (bas r x y z)=true:=by decide+kernel
def NZ (s:dh):Prop:=(∀x∈s.1,Bv 3 1 x)/\(∀x∈s.2.1,Bv 5 1 x.1)/\∃x∈s.2.1,cT x.1=false/\∀t∈bN,∀p,cT (iI (gh t p) x.1)=false
theorem bn {b:Bool} (h:aY b=true):b=false:=by cases b<;>first|rfl|cases h
theorem blt' {a b:Nat} (h:Nat.blt a b=true):a<b:=Nat.le_of_ble_eq_true h
theorem Ll {q:Q} (h:bqB q=true):Bq 5 1 q:=by
 obtain⟨h1,h2⟩:=Bool.and_eq_true .. ▸ h;exact⟨blt' h1,blt' h2⟩
theorem Lm {l:List V3} {i:Int} (h:ixB l i=true):∃j:Nat,i=(j:Int)/\j<l.length:=by
 unfold ixB at h;rw [Bool.and_eq_true]at h;have h1:=cG.1 h.1;have h2:=aO.1 h.2;exact⟨i.toNat,by omega,by omega⟩
structure FB (l:List V3) (x:Fc):Prop where
 a:x.1.1.1.natAbs<128
 b:x.1.1.2.1.natAbs<128
 c:x.1.1.2.2.natAbs<128
 n:Bv 5 1 (aI (gR x.1.1))
 h:∃i:Nat,i<l.length/\x.2.head?=some (i:Int)
 r:x.2.length<=16
theorem aeF {l:List V3} {x:Fc} (h:fcB l x=true):FB l x:=by
 unfold fcB at h;simp only [Bool.and_eq_true]at h;obtain⟨h1,h2,h3,h4,h5,h6,h7,h8⟩:=h;refine⟨blt' h1,blt' h2,blt' h3,⟨Ll h4,Ll h5,Ll h6⟩,?_,Nat.le_of_ble_eq_true h8⟩;obtain⟨i,e,hi⟩:=Lm h7;cases g:x.2 with
 |nil=>rw [g]at e;exact absurd e (by show(-1:Int)≠_;omega)|cons j r=>rw [g]at e;exact⟨i,hi,congrArg some e⟩
structure CB (l:List V3):Prop where
 lo:4<=l.length
 hi:l.length<=16
 v:∀p∈l,(0<=p.1/\p.1<=3)/\(0<=p.2.1/\p.2.1<=3)/\(0<=p.2.2/\p.2.2<=3)
 ord:∀q,q+1<l.length ->ua (l3 (l.getD q (0,0,0))) (l3 (l.getD (q+1) (0,0,0)))<0
 flat:ku l=false
 rings:∃a e,iq l=some (a,e)/\((e:Int)=15\/(e:Int)=63\/(e:Int)=255)/\(l.length:Int)<=HJ e
 n:(fU l).length<=10
 f:∀x∈fU l,FB l x
 ed:(fU l).map (·.2)∈lh.map (·.1)
 en:(pN ((fU l).map (·.2))).length<=12
 e:∀e∈pN ((fU l).map (·.2)),(∃i:Nat,e.1=(i:Int)/\i<l.length)/\∃j:Nat,e.2.1=(j:Int)/\j<l.length
 z:∃x∈fU l,cT (aI (gR x.1.1))=false/\∀t∈bN,∀p,cT (iI (gh t p) (aI (gR x.1.1)))=false
theorem aeG {l:List V3} (h:ckC l=true):CB l:=by
 unfold ckC at h;simp only [Bool.and_eq_true]at h;obtain⟨h1,h2,h3,h4,h5,h6⟩:=h;cases hr:iq l with
 |none=>rw [hr]at h6;cases h6|some x=>
  obtain⟨a,e⟩:=x;rw [hr]at h6;have ha:fU l=cF a:=by unfold fU;rw [hr]
  simp only [Bool.and_eq_true,Bool.or_eq_true]at h6;obtain⟨k1,k2,k3⟩:=h6;rw [<-ha]at k3;unfold ag9 at k3;simp only [Bool.and_eq_true]at k3;obtain⟨g1,g2,g3,g4,g5,g6⟩:=k3;refine⟨Nat.le_of_ble_eq_true h1,Nat.le_of_ble_eq_true h2,λp hp=>?_,λq hq=>?_,bn h5,⟨a,e,hr,?_,cG.1 k2⟩,Nat.le_of_ble_eq_true g1,λx hx=>aeF (List.all_eq_true.1 g2 x hx),of_decide_eq_true g3,Nat.le_of_ble_eq_true g4,λx hx=>?_,?_⟩
  .have k:=List.all_eq_true.1 h3 p hp;simp only [Bool.and_eq_true,aao]at k;exact⟨⟨cG.1 k.1.1,cG.1 k.1.2⟩,⟨cG.1 k.2.1.1,cG.1 k.2.1.2⟩,cG.1 k.2.2.1,cG.1 k.2.2.2⟩
  .exact aO.1 (List.all_eq_true.1 h4 q (List.mem_range.2 (by omega)))
  .have k:e=15\/e=63\/e=255:=by
    rcases k1 with k|k|k
    .exact .inl (Nat.eq_of_beq_eq_true k)
    .exact .inr (.inl (Nat.eq_of_beq_eq_true k))
    .exact .inr (.inr (Nat.eq_of_beq_eq_true k))
   omega
  .have k:=List.all_eq_true.1 g5 x hx;rw [Bool.and_eq_true]at k;exact⟨Lm k.1,Lm k.2⟩
  .obtain⟨x,hx,k⟩:=List.any_eq_true.1 g6;refine⟨x,hx,?_,λt ht p=>?_⟩
   .have:=List.all_eq_true.1 k (1,0,0,0) (List.mem_cons_self ..);rw [Bool.and_eq_true]at this;exact bn this.2
   .have:=List.all_eq_true.1 k t ht;rw [Bool.and_eq_true]at this;exact bn this.1
def sm (z:Int):Prop:=0<=z/\z<=4
theorem aeH {l:List V3} (h:CB l) {t:V3} (h1:sm t.1) (h2:sm t.2.1) (h3:sm t.2.2):QG (l.map (tr t)) (fU (l.map (tr t)))/\GS (bX (l.map (tr t)))/\NZ (bX (l.map (tr t))):=by
 obtain⟨a,e,r1,r2,r3⟩:=h.rings;have hL:(l.map (tr t)).length=l.length:=List.length_map ..;have hv:∀p∈l.map (tr t),(0<=p.1/\p.1<=7)/\(0<=p.2.1/\p.2.1<=7)/\(0<=p.2.2/\p.2.2<=7):=λp hp=>by
  obtain⟨q,hq,rfl⟩:=List.mem_map.1 hp;obtain⟨⟨a1,a2⟩,⟨b1,b2⟩,c1,c2⟩:=h.v q hq;obtain⟨a3,a4⟩:=h1;obtain⟨b3,b4⟩:=h2;obtain⟨c3,c4⟩:=h3;exact⟨⟨show 0<=q.1+t.1 by omega,show q.1+t.1<=7 by omega⟩,⟨show 0<=q.2.1+t.2.1 by omega,show q.2.1+t.2.1<=7 by omega⟩,show 0<=q.2.2+t.2.2 by omega,show q.2.2+t.2.2<=7 by omega⟩
 have hV3:∀v∈(l.map (tr t)).map gR,Bv 3 1 v:=λv hv'=>by
  obtain⟨p,hp,rfl⟩:=List.mem_map.1 hv';obtain⟨a,b,c⟩:=hv p hp;have kb:∀{z:Int},0<=z/\z<=7 ->Bq 3 1 ((z,0):Q):=λh=>⟨by show _<2 ^ 3;omega,Bz.zero⟩
  exact⟨kb a,kb b,kb c⟩
 have hV:∀v∈(l.map (tr t)).map gR,Bv 25 15 v:=λv hv=>(hV3 v hv).mono (by decide) (by decide);have hVl:((l.map (tr t)).map gR).length=l.length:=by rw [List.length_map,hL]
 have lo:=h.lo;have hi:=h.hi;have hn:=h.n;refine⟨⟨⟨by omega,by omega,λq hq=>?_,λq hq=>?_,by rw [aeC];exact h.flat,⟨a,e,by rw [EU];exact r1,r2,by rw [hL];exact r3⟩⟩,⟨a,e,by rw [EU];exact r1,by rw [oO];unfold fU;rw [r1]⟩,by rw [oO];omega,λq hq=>?_,by rw [oO];exact h.ed⟩,⟨by show 0<((l.map (tr t)).map gR).length;omega,by show((l.map (tr t)).map gR).length<=16;omega,hV,?_,?_,λx hx=>?_,?_,?_,λx hx=>?_⟩,?_⟩
 .obtain⟨a,b,c⟩:=hv _ (List.getElem_mem hq);exact⟨⟨by omega,by omega⟩,⟨by omega,by omega⟩,by omega,by omega⟩
 .have k:=h.ord q (by omega);rw [List.getElem_map,List.getElem_map,aeD];rw [show l.getD q (0,0,0)=l[q]'(by omega) by simp [List.getD,show q<l.length by omega],show l.getD (q+1) (0,0,0)=l[q+1]'(by omega) by simp [List.getD,show q+1<l.length by omega]]at k;exact k
 .obtain⟨x,hx⟩:∃x,x=(fU (l.map (tr t)))[q]:=⟨_,rfl⟩
  have hm:x∈fU (l.map (tr t)):=hx ▸ List.getElem_mem hq;rw [<-hx];rw [oO]at hm;obtain⟨k1,k2,k3,k4,⟨i,k5,k6⟩,k7⟩:=h.f x hm;have hb:Bv 7 1 (gR x.1.1):=⟨⟨k1,Bz.zero⟩,⟨k2,Bz.zero⟩,k3,Bz.zero⟩
  exact⟨⟨⟨by omega,by omega⟩,⟨by omega,by omega⟩,by omega,by omega⟩,(qY hb (by decide) (by decide)).1,i,by omega,k6,(kh k4 (EN (i:=i) hV) (by decide) (by decide) (by decide)).1⟩
 .show 0<((fU (l.map (tr t))).map _).length;rw [List.length_map,oO];obtain⟨x,hx,_⟩:=h.z;exact List.length_pos_iff.2 (List.ne_nil_of_mem hx)
 .show((fU (l.map (tr t))).map _).length<=10;rw [List.length_map,oO];exact hn
 .obtain⟨y,hy,rfl⟩:=List.mem_map.1 hx;rw [oO]at hy;obtain⟨_,_,_,k4,⟨i,k5,k6⟩,k7⟩:=h.f y hy;exact⟨k4.mono (by decide) (by decide),k7,i,by show i<((l.map (tr t)).map gR).length;omega,k6⟩
 .obtain⟨x,hx,k,_⟩:=h.z;exact⟨_,List.mem_map_of_mem (by rw [oO];exact hx),k⟩
 .show(pN ((fU (l.map (tr t))).map (·.2))).length<=12;rw [oO];exact h.en
 .have hx:x∈pN ((fU (l.map (tr t))).map (·.2)):=hx;rw [oO]at hx;obtain⟨⟨i,e1,i1⟩,j,e2,j1⟩:=h.e x hx;exact⟨⟨i,e1,by show i<((l.map (tr t)).map gR).length;omega⟩,j,e2,by show j<((l.map (tr t)).map gR).length;omega⟩
 .obtain⟨x,hx,k,k2⟩:=h.z;refine⟨hV3,λw hw=>?_,_,List.mem_map_of_mem (by rw [oO];exact hx),k,k2⟩;obtain⟨y,hy,rfl⟩:=List.mem_map.1 hw;rw [oO]at hy;exact(h.f y hy).n
theorem Ln {i a s:Int} (hi:i=0\/i=1) (ha:U8 a) (hs:U8 s):crd i a s=i*(1+s % 3)+a % 5:=by
 obtain⟨a1,a2⟩:=ha;obtain⟨s1,s2⟩:=hs;have e1:Int.tmod a 5=a % 5:=Int.tmod_eq_emod_of_nonneg a1;have e2:Int.tmod s 3=s % 3:=Int.tmod_eq_emod_of_nonneg s1;unfold crd;rw [e1,e2];have b1:0<=a % 5/\a % 5<5:=⟨Int.emod_nonneg _ (by decide),Int.emod_lt_of_pos _ (by decide)⟩
 have b2:0<=s % 3/\s % 3<3:=⟨Int.emod_nonneg _ (by decide),Int.emod_lt_of_pos _ (by decide)⟩
 generalize a % 5=u at*;generalize s % 3=w at*;rw [aA (n:=u) (by omega) (by omega),aA (n:=w) (by omega) (by omega)];show aj .i64 (u+aj .i64 (i*aj .i64 (1+w)))=_;rw [aA (n:=1+w) (by omega) (by omega)];rcases hi with rfl|rfl
 .rw [Int.zero_mul,aA (n:=0) (by omega) (by omega),aA (by omega) (by omega)];omega
 .rw [Int.one_mul,aA (n:=1+w) (by omega) (by omega),aA (by omega) (by omega)];omega
theorem VS {r:Int} {c:I3} (h:c∈xD r):(c.1=0\/c.1=1)/\(c.2.1=0\/c.2.1=1)/\(c.2.2=0\/c.2.2=1):=by
 have h:=(List.mem_filter.1 h).1;have key:∀c∈([(0,0,0),(0,0,1),(0,1,0),(0,1,1),(1,0,0),(1,0,1),(1,1,0),(1,1,1)]:List I3),(c.1=0\/c.1=1)/\(c.2.1=0\/c.2.1=1)/\(c.2.2=0\/c.2.2=1):=by decide
 exact key c h
theorem yd {b:Bk} (h:lB b):cL b=(bas (b.1 % 6) (1+b.2.2.1 % 3) (1+b.2.2.2.1 % 3) (1+b.2.2.2.2 % 3)).map (tr (b.2.1.1 % 5,b.2.1.2.1 % 5,b.2.1.2.2 % 5)):=by
 obtain⟨_,⟨a1,a2,a3⟩,s1,s2,s3⟩:=h;unfold cL bas;rw [List.map_map];refine List.map_congr_left λc hc=>?_;obtain⟨c1,c2,c3⟩:=VS hc;show Fp b c=(c.1*(1+b.2.2.1 % 3)+b.2.1.1 % 5,c.2.1*(1+b.2.2.2.1 % 3)+b.2.1.2.1 % 5,c.2.2*(1+b.2.2.2.2 % 3)+b.2.1.2.2 % 5)
 unfold Fp;rw [Ln c1 a1 s1,Ln c2 a2 s2,Ln c3 a3 s3]
theorem rV {b:Bk} (h:lB b):QG (cL b) (fU (cL b))/\GS (bX (cL b))/\NZ (bX (cL b)):=by
 have m5:∀a:Int,sm (a % 5):=λa=>by unfold sm;omega
 have m3:∀a:Int,(1+a % 3)∈([1,2,3]:List Int):=λa=>by
  have:1+a % 3=1\/1+a % 3=2\/1+a % 3=3:=by omega
  simpa using this
 have m6:b.1 % 6∈([0,1,2,3,4,5]:List Int):=by
  have:b.1 % 6=0\/b.1 % 6=1\/b.1 % 6=2\/b.1 % 6=3\/b.1 % 6=4\/b.1 % 6=5:=by omega
  simpa using this
 rw [yd h];exact aeH (aeG (aeE _ m6 _ (m3 _) _ (m3 _) _ (m3 _))) (m5 _) (m5 _) (m5 _)
end
end Go.Sy
