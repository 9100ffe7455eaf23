/- A piece of the proof, made small by a program of ours. -/
import Derived.Test.YtihglcfnelokaaaGreatDoorP07
set_option linter.all false
set_option maxRecDepth 1000000
set_option maxHeartbeats 0
namespace Go.Sy
noncomputable section
open Go.RowKit Go.Proofs Go.Proofs.Tryz
section
attribute [local irreducible] Cw aj bE PF Sub
attribute [local instance] fe
theorem Yn {f0:FuncId} {Pp xs:AV} {h0 h:Heap} {v0:AV} {h1:Heap} {call:dY ->AV ->Heap ->CR} (dE:h≠h0) {K:AV ->Heap ->Prop} (hk:∃v h',call (.fn f0) xs h= .ret v h'/\K v h'):∃v h',jL f0 Pp h0 v0 h1 call (.fn f0) xs h= .ret v h'/\K v h':=by
 obtain⟨v,h',e,k⟩:=hk;exact⟨v,h',(if_neg (λe=>dE e.2.2)).trans e,k⟩
theorem Mm {d d':DI} (h:d.OK) (h':d'.OK) (e:PO d d.W=PO d' d'.W) (e1:d.off=d'.off) (e2:d.V=d'.V):d.p=d'.p/\d.W=d'.W/\d.q=d'.q/\d.Q=d'.Q:=by
 have g1:some (AO.gl ((aq .u32).l (d.p++d.W++d.q)) false)=some (AO.gl ((aq .u32).l (d'.p++d'.W++d'.q)) false):=congrArg (λh=>h.t.get (pathOf 64)) e;have g2:some (AO.gl ((aq .u32).l d.Q) false)=some (AO.gl ((aq .u32).l d'.Q) false):=congrArg (λh=>h.t.get (pathOf 65)) e;injection g1 with g1;injection g1 with g1 _;injection g2 with g2;injection g2 with g2 _;have g1:=(aq .u32).vl g1;have g2:=(aq .u32).vl g2;rw [List.append_assoc,List.append_assoc]at g1;obtain⟨a1,a2⟩:=List.append_inj g1 (by rw [h.hp,h'.hp,e1]);obtain⟨a3,a4⟩:=List.append_inj a2 (by rw [h.hW,h'.hW,e2]);exact⟨a1,a3,a4,g2⟩
theorem Mn {d d':DI} (e:d.p=d'.p/\d.W=d'.W/\d.q=d'.q/\d.Q=d'.Q) (e2:d.V=d'.V):(AV.int .u32 (val d.W/d.V:Nat)=AV.int .u32 (val d'.W/d'.V:Nat))/\WU d=WU d'/\pathOf 66=pathOf 66:=by
 obtain⟨a1,a2,a3,a4⟩:=e;unfold WU xi;rw [a1,a2,a3,a4,e2];exact⟨rfl,rfl,rfl⟩
def Td:xf (Bool×DI) where
 ar:=λi=>match i.1 with|false=>afW i.2|true=>abg i.2
 h0:=λi=>PO i.2 i.2.W
 v:=λi=> .int .u32 (val i.2.W/i.2.V:Nat)
 H:=λi=>WU i.2
 N:=λ_=>pathOf 66
 ok:=λi=>i.2.OK/\(i.1=true ->i.2.off=0)
 inj:=by
  rintro ⟨b,d⟩ ⟨b',d'⟩ ⟨h1,h2⟩ ⟨h3,h4⟩ e1 e2;cases b<;>cases b'
  .injection e1 with e3 e4;injection e3 with _ e5 _ _ _;injection e4 with e4 _;have e4:=aM.aZ e4;exact Mn (Mm h1 h3 e2 (by simpa using e5) e4) e4
  .injection e1 with e3 _;cases e3
  .injection e1 with e3 _;cases e3
  .injection e1 with e3 e4;injection e4 with e4 _;have e4:=aM.aZ e4;exact Mn (Mm h1 h3 e2 ((h2 rfl).trans (h4 rfl).symm) e4) e4
theorem Yo {B0:Nat} {call:dY ->AV ->Heap ->CR} (bl:@aW fe prog B0 call):@aW fe prog B0 (fx 133 Td call):=
 ic ae 2 bl (fn:=f133) rfl rfl Td (λi hi=>by
  obtain⟨b,d⟩:=i;obtain⟨h1,h2⟩:=hi;cases b with
  |false=>exact⟨_,_,rfl,rfl,Nat.le_refl _,Yk d h1⟩|true=>exact⟨_,_,rfl,rfl,Nat.le_refl _,Tc d h1 (h2 rfl)⟩)
def Yp:List (Cn prog):=[iA,vx,eV,ac2,GH,Ca]
def cDv (a k:Nat):dY ->AV ->Heap ->CR:=
 fx 133 Td (jL 132 (.cons (aM.v a) (.cons (.int .i64 k) .nil)) ⟨.leaf,pathOf 64⟩ (.gs (pathOf 64) (nd a+1) 1) (Mf a k) (aE Yp))
theorem Te (a k:Nat) (ha:nd a<134217728) (hk:k<32) (B0:Nat):aW prog B0 (cDv a k):=
 Yo (jM ae 0 (ay ae Yp B0) (fn:=f132) rfl rfl rfl rfl (by decide) (GG a k ha hk (λr hr=>GF (congrArg (λx=>some (AV.cons x .nil)) hr) rfl ⟨rfl,aA⟩)))
theorem PQ (n:Nat):n<2 ^ bitLen n:=by
 cases n with
 |zero=>decide|succ n=>exact Nat.lt_log2_self
theorem PR {n:Nat} (h:n≠0):2 ^ (bitLen n - 1)<=n:=by
 cases n with
 |zero=>exact absurd rfl h|succ n=>exact Nat.log2_self_le (by omega)
structure DvK (b k:Nat):Prop where
 k32:k<32
 lt:b*2 ^ k<4294967296 ^ nd b
 ge:4294967296 ^ (nd b - 1)<=b*2 ^ k
theorem DvK.of {b:Nat} (hb:b≠0):DvK b (32 - bitLen (b/4294967296 ^ (nd b - 1) % 4294967296)):=by
 have hn:nd b≠0:=λe=>by rw [pF hb]at e;omega
 have cJ:=dG b;have WQ:4294967296 ^ (nd b - 1)<=b:=oI (by omega);have hB:0<4294967296 ^ (nd b - 1):=Nat.pow_pos (by decide);have e:(4294967296:Nat) ^ nd b=4294967296 ^ (nd b - 1)*4294967296:=by rw [<-Nat.pow_succ];congr 1;omega
 have h1:b/4294967296 ^ (nd b - 1)<4294967296:=by rw [Nat.div_lt_iff_lt_mul hB,Nat.mul_comm,<-e];exact cJ
 have h2:0<b/4294967296 ^ (nd b - 1):=Nat.div_pos WQ hB;rw [Nat.mod_eq_of_lt h1];have h3:=PQ (b/4294967296 ^ (nd b - 1));have h4:=PR (n:=b/4294967296 ^ (nd b - 1)) (by omega);have h5:=bitLen_le (n:=b/4294967296 ^ (nd b - 1)) (k:=32) h1;have h6:bitLen (b/4294967296 ^ (nd b - 1))≠0:=λe0=>by rw [e0]at h3;omega
 have hdm:=Nat.div_add_mod b (4294967296 ^ (nd b - 1));have hml:=Nat.mod_lt b hB;generalize b/4294967296 ^ (nd b - 1)=t at*;have Gv:0<2 ^ (32 - bitLen t):=Nat.two_pow_pos _;refine⟨by omega,?_,Nat.le_trans WQ (Nat.le_mul_of_pos_right _ Gv)⟩;have h7:b<(t+1)*4294967296 ^ (nd b - 1):=by rw [Nat.add_mul,Nat.one_mul,Nat.mul_comm t];omega
 have h8:(t+1)*2 ^ (32 - bitLen t)<=4294967296:=by
  have:(t+1)*2 ^ (32 - bitLen t)<=2 ^ bitLen t*2 ^ (32 - bitLen t):=Nat.mul_le_mul_right _ h3;rwa [<-Nat.pow_add,show bitLen t+(32 - bitLen t)=32 by omega]at this
 have h9:b*2 ^ (32 - bitLen t)<(t+1)*4294967296 ^ (nd b - 1)*2 ^ (32 - bitLen t):=Nat.mul_lt_mul_of_pos_right h7 Gv;have Iw:(t+1)*4294967296 ^ (nd b - 1)*2 ^ (32 - bitLen t)<=4294967296 ^ nd b:=by
  rw [Nat.mul_right_comm,e,Nat.mul_comm (4294967296 ^ (nd b - 1))];exact Nat.mul_le_mul_right _ h8
 omega
def kU (L Q:List Int) (V i:Nat):DI:=⟨i,L.take i,(L.drop i).take (nd V+1),L.drop (i+(nd V+1)),Q,V,L.length - i⟩
theorem PS {L Q:List Int} {V i:Nat}:(kU L Q V i).p++(kU L Q V i).W++(kU L Q V i).q=L:=by
 show L.take i++(L.drop i).take (nd V+1)++L.drop (i+(nd V+1))=L;rw [List.append_assoc,<-List.drop_drop,List.take_append_drop,List.take_append_drop]
theorem zC {L Q:List Int} {V i R:Nat} (hL:DG L) (hi:i+(nd V+1)<=L.length) (hv:val L=R) (hR:R<V*4294967296 ^ (i+1)):val (kU L Q V i).W=R/4294967296 ^ i/\val (L.drop (i+(nd V+1)))=0:=by
 have hVl:=dG V;have e0:val L=val (L.take i)+4294967296 ^ i*(val ((L.drop i).take (nd V+1))+4294967296 ^ (nd V+1)*val (L.drop (i+(nd V+1)))):=by
  conv=>lhs;rw [<-List.take_append_drop i L,gb,List.length_take_of_le (by omega),<-List.take_append_drop (nd V+1) (L.drop i),gb,List.length_take_of_le (by rw [List.length_drop];omega),List.drop_drop]
 have h1:val (L.take i)<4294967296 ^ i:=by
  have:=ky (hL.take i);rwa [List.length_take_of_le (by omega)]at this
 have hB:0<4294967296 ^ i:=Nat.pow_pos (by decide);have h2:R/4294967296 ^ i=val ((L.drop i).take (nd V+1))+4294967296 ^ (nd V+1)*val (L.drop (i+(nd V+1))):=by
  rw [<-hv,e0,Nat.add_mul_div_left _ _ hB,Nat.div_eq_of_lt h1,Nat.zero_add]
 have h3:R/4294967296 ^ i<4294967296 ^ (nd V+1):=by
  rw [Nat.div_lt_iff_lt_mul hB];have e1:V*4294967296 ^ (i+1)=V*4294967296*4294967296 ^ i:=by rw [Nat.pow_succ,Nat.mul_comm (4294967296 ^ i),Nat.mul_assoc]
  have e2:V*4294967296<4294967296 ^ nd V*4294967296:=Nat.mul_lt_mul_of_pos_right hVl (by decide);have e3:=Nat.mul_lt_mul_of_pos_right e2 hB;rw [Nat.pow_succ];omega
 have h4:val (L.drop (i+(nd V+1)))=0:=by
  apply Nat.eq_zero_of_not_pos;intro h0;have:=Nat.mul_le_mul_left (4294967296 ^ (nd V+1)) (show 1<=val (L.drop (i+(nd V+1)))from h0);omega
 refine⟨?_,h4⟩;show val ((L.drop i).take (nd V+1))=_;rw [h2,h4,Nat.mul_zero];rfl
theorem Yq {L Q:List Int} {V i R:Nat} (hL:DG L) (hi:i+(nd V+1)<=L.length) (hv:val L=R) (hR:R<V*4294967296 ^ (i+1)) (hn:2<=nd V) (hs:nd V<134217729):(kU L Q V i).OK:=by
 have hB:0<4294967296 ^ i:=Nat.pow_pos (by decide);refine⟨List.length_take_of_le (by omega),hn,?_,?_,?_,hs⟩
 .show((L.drop i).take (nd V+1)).length=_;rw [List.length_take_of_le (by rw [List.length_drop];omega)];rfl
 .exact λx hx=>hL x (List.mem_of_mem_drop (List.mem_of_mem_take hx))
 .rw [(zC hL hi hv hR).1];show R/4294967296 ^ i<V*4294967296;rw [Nat.div_lt_iff_lt_mul hB,Nat.mul_assoc,<-Nat.pow_succ'];exact hR
theorem PT {L Q:List Int} {V i R:Nat} (hL:DG L) (hi:i+(nd V+1)<=L.length) (hv:val L=R) (hR:R<V*4294967296 ^ (i+1)) (hV:0<V):
  DG ((kU L Q V i).p++xi (kU L Q V i)++(kU L Q V i).q)/\((kU L Q V i).p++xi (kU L Q V i)++(kU L Q V i).q).length=L.length/\val ((kU L Q V i).p++xi (kU L Q V i)++(kU L Q V i).q)=R % (V*4294967296 ^ i):=by
 obtain⟨h1,h2⟩:=zC (Q:=Q) hL hi hv hR;have hB:0<4294967296 ^ i:=Nat.pow_pos (by decide);have hVl:=dG V;have hm:R/4294967296 ^ i % V<4294967296 ^ (nd V+1):=by
  have:=Nat.mod_lt (R/4294967296 ^ i) hV;have:4294967296 ^ nd V<=4294967296 ^ (nd V+1):=Nat.pow_le_pow_right (by decide) (by omega);omega
 have hp:(L.take i).length=i:=List.length_take_of_le (by omega);refine⟨?_,?_,?_⟩
 .exact DG.append.2 ⟨DG.append.2 ⟨hL.take i,gC _ _⟩,λx hx=>hL x (List.mem_of_mem_drop hx)⟩
 .show(L.take i++fG (nd V+1) _++L.drop (i+(nd V+1))).length=_;rw [List.length_append,List.length_append,hp,bu,List.length_drop];omega
 .show val (L.take i++fG (nd V+1) (val (kU L Q V i).W % V)++L.drop (i+(nd V+1)))=_;rw [List.append_assoc,gb,hp,gb,bu,h2,h1,gI,Nat.mod_eq_of_lt hm,Nat.mul_zero,Nat.add_zero,Ta hL (by omega),hv,Nat.mul_comm V,Nat.mod_mul]
theorem PU (a b:Nat) (ha:nd a<134217728) (h2:2<=nd b) (hle:b<=a):dA 78 (.cons (aM.v a) (.cons (aM.v b) .nil)) (.aO (.cons (aM.v (a/b)) (.cons (aM.v (a % b)) .nil))):=by
 have AJ:b≠0:=λe=>by rw [e]at h2;exact absurd h2 (by decide)
 have hba:nd b<=nd a:=pJ hle;have lb:=br b;have la:=br a;have hK:=DvK.of AJ;have hi:nd b - 1<(dg b).length:=by omega
 have hx:=bz (v:=b) hi;have hxb:b/4294967296 ^ (nd b - 1) % 4294967296<4294967296:=Nat.mod_lt _ (by decide);generalize QE:32 - bitLen (b/4294967296 ^ (nd b - 1) % 4294967296)=k at*;have hk:=hK.k32;have Tf:0<b*2 ^ k:=Nat.mul_pos (Nat.pos_of_ne_zero AJ) (Nat.two_pow_pos k);have hnV:nd (b*2 ^ k)=nd b:=by
  apply Nat.le_antisymm (vn hK.lt);apply Nat.le_of_not_lt;intro cJ;have h3:=dG (b*2 ^ k);have h4:(4294967296:Nat) ^ nd (b*2 ^ k)<=4294967296 ^ (nd b - 1):=Nat.pow_le_pow_right (by decide) (by omega);have:=hK.ge;omega
 have hei:ah .i64 (Int.sub (Int.ofNat (dg b).length) 1)=((nd b - 1:Nat):Int):=by
  rw [lb];show ah .i64 (((nd b:Nat):Int) - 1)=_;rw [az (by omega) (by omega)];omega
 have hql:ah .i64 (Int.add (ah .i64 (Int.sub (Int.ofNat (dg a).length) (Int.ofNat (dg b).length))) 1)=((nd a - nd b+1:Nat):Int):=by
  rw [la,lb];show ah .i64 (ah .i64 (((nd a:Nat):Int) - ((nd b:Nat):Int))+1)=_;rw [az (n:=((nd a:Nat):Int) - ((nd b:Nat):Int)) (by omega) (by omega),az (by omega) (by omega)];omega
 refine PF.of_wp (c:=_) af (by decide) (fn:=f78) rfl rfl rfl (.cons (aM.ak _) (.cons (aM.ak _) .nil)) (call:=cDv a k) (λB0=>Te a k ha hk B0) ?_;intro B0;have hc:=Te a k ha hk B0;conv=>whnf
 refine bP (by decide) (gJ (by decide) (ct (l:=Yp) (by decide) 0 (c:=iA) rfl (a,b) ⟨by show nd a<_;omega,by show nd b<_;omega⟩ (hk:=?_)));conv=>whnf
 refine vJ (bf.2 (show 0<=jY a b by unfold jY;split<;>omega)) (aB ?_);refine vJ (nY.2 (show Int.ofNat (dg b).length≠1 by rw [lb];exact λe=>by have:((nd b:Nat):Int)=1:=e;omega)) (aB ?_);refine aG.go (nd b - 1) hei hi (aB ?_);refine⟨_,(aq .u32).rd rfl hi,aB ?_⟩;have hLZ:ac2.v ((dg b)[nd b - 1]'hi)=(aq .i64).v (k:Int):=by
  rw [hx,<-QE];rfl
 refine bP (by decide) (gJ (by decide) (ch (l:=Yp) (by decide) 3 (c:=ac2) rfl ((dg b)[nd b - 1]'hi) (by rw [hx];exact⟨Int.natCast_nonneg _,by omega⟩) hLZ (hk:=?_)));conv=>whnf
 refine bP (by decide) (pG (hk:=?_));conv=>whnf
 refine bP (by decide) (Yn (λe=>absurd (show pathOf 65=pathOf 64 from congrArg Heap.n e) (by decide)) (ct (l:=Yp) (by decide) 4 (c:=GH) rfl (b,(k:Int)) ⟨by show nd b<_;omega,Int.natCast_nonneg _,by show(k:Int)<32;omega⟩ (hk:=?_)));conv=>whnf
 have htr:val (fG (nd b+1) (b*2 ^ ((k:Int)).toNat))=b*2 ^ k:=by
  rw [gI,Int.toNat_natCast];exact Nat.mod_eq_of_lt (Nat.lt_of_lt_of_le hK.lt (Nat.pow_le_pow_right (by decide) (by omega)))
 refine bP (by decide) (gJ (by decide) (ch (l:=Yp) (by decide) 2 (c:=eV) rfl (fG (nd b+1) (b*2 ^ ((k:Int)).toNat)) ⟨gC _ _,by rw [bu];omega⟩ (v:=aM.v (b*2 ^ k)) (congrArg aM.v htr) (hk:=?_)));conv=>whnf
 refine(aq .u32).mk' (x:=0) (nd a - nd b+1) (nd a - nd b+1) hql hql (Nat.le_refl _) (by show(nd a - nd b+1)*(4+1)<=_;omega) ?_;conv=>whnf
 have hV2:2<=nd (b*2 ^ k):=by omega
 have hVs:nd (b*2 ^ k)<134217729:=by omega
 generalize hVV:b*2 ^ k=V at*;generalize hmm:nd a - nd b+1=m at*;refine Cw.loop (ι:=Nat×Nat×List Int) (λz=>bm [(4,.gs (pathOf 65) m 1),(8,.int .i64 k),(9,.gs (pathOf 64) (nd a+1) 1),(10,aM.v V),(11,.int .i64 ((z.1:Int) - 1))]) (λ_=>[])
  (λz=>⟨bW [(pathOf 64,.gl ((aq .u32).l (fG (nd a+1) z.2.1)) false),(pathOf 65,.gl ((aq .u32).l (List.replicate z.1 0++z.2.2)) false)],pathOf 66⟩)
  (λz=>z.1<=m/\z.1+z.2.2.length=m/\DG z.2.2/\z.2.1<V*4294967296 ^ z.1/\a*2 ^ k=V*4294967296 ^ z.1*val z.2.2+z.2.1) (λz=>z.1) ?_ (m,a*2 ^ k,[]) ⟨Nat.le_refl _,rfl,.nil,?_,?_⟩ ?_
 .rintro ⟨j,R,qs⟩ ⟨m1,m2,m3,m4,m5⟩;have m1:j<=m:=m1;have m2:j+qs.length=m:=m2;have m3:DG qs:=m3;have m4:R<V*4294967296 ^ j:=m4;have m5:a*2 ^ k=V*4294967296 ^ j*val qs+R:=m5;by_cases hj:1<=j
  .have SU:j - 1+1=j:=(by omega);generalize hii:j - 1=i at*;subst SU;have lL:=bu (nd a+1) R;have dL:=gC (nd a+1) R;have hRA:R<4294967296 ^ (nd a+1):=by
    have h5:=dG a;have h6:a*2 ^ k<=a*4294967296:=Nat.mul_le_mul_left _ (by have:=Nat.pow_le_pow_right (n:=2) (by decide) (show k<=32 by omega);omega);have h7:a*4294967296<4294967296 ^ nd a*4294967296:=Nat.mul_lt_mul_of_pos_right h5 (by decide);rw [Nat.pow_succ];omega
   have vL:val (fG (nd a+1) R)=R:=(by rw [gI,Nat.mod_eq_of_lt hRA]);have hiL:i+(nd V+1)<=(fG (nd a+1) R).length:=(by omega);have hOK:=Yq (Q:=List.replicate (i+1) 0++qs) dL hiL vL m4 hV2 hVs;have hNx:=PT (Q:=List.replicate (i+1) 0++qs) dL hiL vL m4 Tf;have hWv:=(zC (Q:=List.replicate (i+1) 0++qs) dL hiL vL m4).1;refine aD af rfl rfl hc _ (aB ?_);refine bT (cA.2 (by show(0:Int)<=((i+1:Nat):Int) - 1;omega)) ?_;have eh1:ah .i64 (Int.add (ah .i64 (Int.add (((i+1:Nat):Int) - 1) (Int.ofNat (dg V).length))) 1)=((i+(nd V+1):Nat):Int):=by
    rw [br];show ah .i64 (ah .i64 (((i+1:Nat):Int) - 1+((nd V:Nat):Int))+1)=_;rw [az (n:=((i+1:Nat):Int) - 1+((nd V:Nat):Int)) (by omega) (by omega),az (by omega) (by omega)];omega
   have eh2:((i+1:Nat):Int) - 1=(i:Int):=(by omega);have hdl:i+(nd V+1) - i=nd V+1:=(by omega);have heap:∀d:DI,d=kU (fG (nd a+1) R) (List.replicate (i+1) 0++qs) V i ->(⟨bW [(pathOf 64,.gl ((aq .u32).l (fG (nd a+1) R)) false),(pathOf 65,.gl ((aq .u32).l (List.replicate (i+1) 0++qs)) false)],pathOf 66⟩:Heap)=PO d d.W:=by
    rintro d rfl;show _=(⟨bW [(pathOf 64,.gl ((aq .u32).l ((kU (fG (nd a+1) R) (List.replicate (i+1) 0++qs) V i).p++(kU (fG (nd a+1) R) (List.replicate (i+1) 0++qs) V i).W++(kU (fG (nd a+1) R) (List.replicate (i+1) 0++qs) V i).q)) false),(pathOf 65,.gl ((aq .u32).l (List.replicate (i+1) 0++qs)) false)],pathOf 66⟩:Heap)
    rw [PS]
   conv=>whnf
   refine JA.go (i+(nd V+1)) eh1 (by show i+(nd V+1)<=nd a+1;omega) (aB ?_);refine JA.go i eh2 (by omega) (aB ?_);have hB:0<4294967296 ^ i:=Nat.pow_pos (by decide);have eVB:V*4294967296 ^ (i+1)=V*4294967296 ^ i*4294967296:=(by rw [Nat.pow_succ,Nat.mul_assoc]);have hVB:0<V*4294967296 ^ i:=Nat.mul_pos Tf hB;have eQ:val (kU (fG (nd a+1) R) (List.replicate (i+1) 0++qs) V i).W/V=R/(V*4294967296 ^ i):=(by rw [hWv,Nat.div_div_eq_div_mul,Nat.mul_comm V]);have hQb:R/(V*4294967296 ^ i)<4294967296:=(by rw [Nat.div_lt_iff_lt_mul hVB,Nat.mul_comm,<-eVB];exact m4);have mw:i<(List.replicate (i+1) (0:Int)++qs).length:=(by simp;omega);have OJ:i<=m/\i+(((R/(V*4294967296 ^ i):Nat):Int)::qs).length=m/\DG (((R/(V*4294967296 ^ i):Nat):Int)::qs)/\R % (V*4294967296 ^ i)<V*4294967296 ^ i/\
     a*2 ^ k=V*4294967296 ^ i*val (((R/(V*4294967296 ^ i):Nat):Int)::qs)+R % (V*4294967296 ^ i):=by
    refine⟨by omega,by rw [List.length_cons];omega,DG.cons.2 ⟨⟨Int.natCast_nonneg _,by omega⟩,m3⟩,Nat.mod_lt _ hVB,?_⟩;show _=V*4294967296 ^ i*((((R/(V*4294967296 ^ i):Nat):Int)).toNat+4294967296*val qs)+_;rw [Int.toNat_natCast,Nat.mul_add,m5,eVB,Nat.mul_assoc (V*4294967296 ^ i)];have:=Nat.div_add_mod R (V*4294967296 ^ i);omega
   have hul:(kU (fG (nd a+1) R) (List.replicate (i+1) 0++qs) V i).p++xi (kU (fG (nd a+1) R) (List.replicate (i+1) 0++qs) V i)++(kU (fG (nd a+1) R) (List.replicate (i+1) 0++qs) V i).q=fG (nd a+1) (R % (V*4294967296 ^ i)):=by
    have e:=lN hNx.1;rw [hNx.2.1,lL,hNx.2.2]at e;exact e.symm
   have afX:(List.replicate (i+1) (0:Int)++qs).set i ((val (kU (fG (nd a+1) R) (List.replicate (i+1) 0++qs) V i).W/V:Nat):Int)=List.replicate i 0++(((R/(V*4294967296 ^ i):Nat):Int)::qs):=(by rw [eQ];exact BX);have afY:ah .i64 (Int.sub (((i+1:Nat):Int) - 1) 1)=(i:Int) - 1:=by
    show ah .i64 (((i+1:Nat):Int) - 1 - 1)=_;rw [az (by omega) (by omega)];omega
   by_cases h0:i=0
   .refine .inl ⟨h0,aB ?_⟩;refine lO (F:=Td) (true,kU (fG (nd a+1) R) (List.replicate (i+1) 0++qs) V i) ⟨hOK,λ_=>h0⟩ (ea:=?_) (eh:=?_) (hk:=?_)
    .exact congrArg (λn=>AV.cons (.gs (pathOf 64) n 1) (.cons (aM.v V) .nil)) (show i+(nd V+1)=nd V+1 by omega)
    .exact heap _ rfl
    conv=>whnf
    refine aG.go i eh2 (by omega) (aB ?_);refine(aq .u32).st (xs:=List.replicate (i+1) 0++qs) (i:=i) _ mw ?_;conv=>whnf
    refine⟨(i,R % (V*4294967296 ^ i),((R/(V*4294967296 ^ i):Nat):Int)::qs),OJ,(by show i<i+1;omega),?_⟩;refine Sub.of (fI [64,65]) [] rfl rfl rfl ?_ ?_
    .repeat' first|exact aA|exact rfl|refine And.intro ?_ ?_
     all_goals exact afY
    .repeat' first|exact aA|exact rfl|refine And.intro ?_ ?_
     all_goals first|exact(aq .u32).bh _|exact congrArg (aq .u32).l hul|exact congrArg (aq .u32).l afX
   .refine .inr (.inl ⟨⟨by omega,by omega⟩,aB ?_⟩);refine lO (F:=Td) (false,kU (fG (nd a+1) R) (List.replicate (i+1) 0++qs) V i) ⟨hOK,λe=>by cases e⟩ (ea:=?_) (eh:=?_) (hk:=?_)
    .exact(congrArg (λn=>AV.cons (.slice (pathOf 64) (Nat.mul i 1) n (nd a+1 - i) 1) (.cons (aM.v V) .nil)) hdl).trans (congrArg (λn=>AV.cons (.slice (pathOf 64) (Nat.mul i 1) (nd V+1) (n - i) 1) (.cons (aM.v V) .nil)) lL.symm)
    .exact heap _ rfl
    conv=>whnf
    refine aG.go i eh2 (by omega) (aB ?_);refine(aq .u32).st (xs:=List.replicate (i+1) 0++qs) (i:=i) _ mw ?_;conv=>whnf
    refine⟨(i,R % (V*4294967296 ^ i),((R/(V*4294967296 ^ i):Nat):Int)::qs),OJ,(by show i<i+1;omega),?_⟩;refine Sub.of (fI [64,65]) [] rfl rfl rfl ?_ ?_
    .repeat' first|exact aA|exact rfl|refine And.intro ?_ ?_
     all_goals exact afY
    .repeat' first|exact aA|exact rfl|refine And.intro ?_ ?_
     all_goals first|exact(aq .u32).bh _|exact congrArg (aq .u32).l hul|exact congrArg (aq .u32).l afX
  .have hj:j=0:=(by omega);subst hj;have m5:a*2 ^ k=V*val qs+R:=(by simpa using m5);have m4:R<V:=(by simpa using m4);have Gv:0<2 ^ k:=Nat.two_pow_pos k;have eq1:val qs=a/b:=by
    have h1:a*2 ^ k/V=val qs:=(by rw [m5,Nat.mul_add_div Tf,Nat.div_eq_of_lt m4,Nat.add_zero]);rw [<-h1,<-hVV,Nat.mul_div_mul_right _ _ Gv]
   have eq2:R/2 ^ k=a % b:=by
    have h1:a*2 ^ k % V=R:=(by rw [m5,Nat.mul_add_mod,Nat.mod_eq_of_lt m4]);rw [<-h1,<-hVV,Nat.mul_mod_mul_right,Nat.mul_div_cancel _ Gv]
   have hRA:R<4294967296 ^ (nd a+1):=by
    have h1:=dG V;have h2:(4294967296:Nat) ^ nd V<=4294967296 ^ (nd a+1):=Nat.pow_le_pow_right (by decide) (by omega);omega
   have vL:val (fG (nd a+1) R)=R:=(by rw [gI,Nat.mod_eq_of_lt hRA]);have hRn:nd R<=nd a+1:=vn hRA;have hq0:List.replicate 0 (0:Int)++qs=qs:=rfl;refine aD af rfl rfl hc _ (aB ?_);refine bP (by decide) (gJ (by decide) (ch (l:=Yp) (by decide) 2 (c:=eV) rfl qs ⟨m3,by show qs.length<_;omega⟩ (v:=aM.v (a/b)) (congrArg aM.v eq1) (hbor:=?_) (has:=?_) (hk:=?_)))
   .exact⟨by show m*1=((aq .u32).l qs).len;rw [bX.ep];show m*1=qs.length*1;omega,aA⟩
   .show AV.cons (.ro qs.length _) .nil=AV.cons (.ro m _) .nil;rw [show qs.length=m by omega];rfl
   conv=>whnf
   refine bP (by decide) (gJ (by decide) (ch (l:=Yp) (by decide) 2 (c:=eV) rfl (fG (nd a+1) R) ⟨gC _ _,by rw [bu];omega⟩ (v:=aM.v R) (congrArg aM.v vL) (hbor:=?_) (has:=?_) (hk:=?_)))
   .exact⟨by show(nd a+1)*1=((aq .u32).l (fG (nd a+1) R)).len;rw [bX.ep,bu];rfl,aA⟩
   .show AV.cons (.ro (fG (nd a+1) R).length _) .nil=AV.cons (.ro (nd a+1) _) .nil;rw [bu]
   conv=>whnf
   refine bP (by decide) (gJ (by decide) (ch (l:=Yp) (by decide) 5 (c:=Ca) rfl (R,(k:Int)) ⟨by show nd R<=_;omega,Int.natCast_nonneg _,by show(k:Int)<32;omega⟩ (v:=aM.v (a % b)) (congrArg aM.v (show R/2 ^ ((k:Int)).toNat=a % b by rw [Int.toNat_natCast];exact eq2)) (hk:=?_)));conv=>whnf
   exact aj.same rfl (.aO (.cons (aM.ak _) (.cons (aM.ak _) .nil)))
 .show a*2 ^ k<V*4294967296 ^ m;have h1:=dG a;have h2:4294967296 ^ nd a<=b*4294967296 ^ m:=by
   have h3:4294967296 ^ (nd b - 1)<=b:=oI (by omega);have h4:=Nat.mul_le_mul_right (4294967296 ^ m) h3;rwa [<-Nat.pow_add,show nd b - 1+m=nd a by omega]at h4
  rw [<-hVV,Nat.mul_right_comm];exact Nat.mul_lt_mul_of_pos_right (by omega) (Nat.two_pow_pos k)
 .simp [val]
 .refine Sub.of (fI [64,65]) [] rfl rfl rfl ?_ ?_
  .repeat' first|exact aA|exact rfl|refine And.intro ?_ ?_
   show ah .i64 (((m:Nat):Int) - 1)=((m:Nat):Int) - 1;exact az (by omega) (by omega)
  .repeat' first|exact aA|exact rfl|refine And.intro ?_ ?_
   all_goals first|exact(aq .u32).bh _|exact congrArg (aq .u32).l (List.append_nil _).symm
def Tg:List (Cn prog):=[iA,vx,eV]
def ai4 (a b:Nat):Prop:=nd a<134217728/\nd b<134217728/\0<b/\(a<b\/b<4294967296)
theorem ac6 {b:Nat} (h:0<b) (h2:b<4294967296):nd b=1:=by
 apply Nat.le_antisymm
 .exact vn (by omega)
 .rw [pF (by omega)];omega
theorem PV (a b:Nat) (h:ai4 a b):dA 78 (.cons (aM.v a) (.cons (aM.v b) .nil)) (.aO (.cons (aM.v (a/b)) (.cons (aM.v (a % b)) .nil))):=by
 obtain⟨ha,hb,h0,hc⟩:=h;refine PF.of_wp (c:=_) af (by decide) (fn:=f78) rfl rfl rfl ?_ (call:=aE Tg) (λB0=>ay ae Tg B0) ?_
 .exact .cons (aM.ak _) (.cons (aM.ak _) .nil)
 .intro B0;have lb:=br b;conv=>whnf
  refine df Tg 0 iA (a,b) ⟨by show nd a<_;omega,by show nd b<_;omega⟩ (aB ?_);refine an (λh=>?_) (λh=>?_)
  .have h:jY a b<0:=aQ.1 h;have cJ:a<b:=by
    unfold jY at h;split at h
    .assumption
    .split at h<;>omega
   rw [Nat.div_eq_of_lt cJ,Nat.mod_eq_of_lt cJ];conv=>whnf
   exact aj.aO (.cons aj.bA (.cons (aj.pure (aM.ak _)) .nil))
  .have h:0<=jY a b:=bf.1 h;have hle:b<=a:=by
    unfold jY at h;split at h
    .omega
    .omega
   have hw:b<4294967296:=(by omega);have hn:=ac6 h0 hw;conv=>whnf
   refine an (λh1=>?_) (λh1=>?_)
   .have hi:0<(dg b).length:=(by omega);have hx:=bz hi;rw [Nat.pow_zero,Nat.div_one,Nat.mod_eq_of_lt hw]at hx;conv=>whnf
    refine aG.go 0 rfl hi (aB ?_);refine⟨_,(aq .u32).rd rfl hi,aB ?_⟩;rw [hx];refine df Tg 1 vx (a,(b:Int)) ⟨ha,by show(0:Int)<(b:Int);omega,by show(b:Int)<_;omega⟩ (jX ?_);have hm:a % b<b:=Nat.mod_lt _ h0;refine bI (l:=Tg) (by decide) 2 (c:=eV) rfl [((a % b:Nat):Int)] ⟨DG.cons.2 ⟨by omega,.nil⟩,by show(1:Nat)<_;omega⟩ ?_ ?_ ?_
    .exact⟨rfl,aA⟩
    .rfl
    refine jX ?_;refine aj.same ?_ (.aO (.cons (aM.ak _) (.cons (aM.ak _) .nil)));show AV.aO (.cons (aM.v (a/b)) (.cons (aM.v (a % b+4294967296*0)) .nil))=_;rfl
   .exfalso;have h1:=nY.1 h1;apply h1;rw [lb,hn];rfl
def abh (a b:Nat):Prop:=nd a<134217728/\nd b<134217728/\0<b
theorem Th (a b:Nat) (h:abh a b):dA 78 (.cons (aM.v a) (.cons (aM.v b) .nil)) (.aO (.cons (aM.v (a/b)) (.cons (aM.v (a % b)) .nil))):=by
 obtain⟨ha,hb,h0⟩:=h;by_cases h1:a<b\/b<4294967296
 .exact PV a b ⟨by omega,by omega,h0,h1⟩
 .refine PU a b ha ?_ (by omega);have h2:4294967296<=b:=by omega
  have h3:=dG b;apply Nat.le_of_not_lt;intro h4;have h5:(4294967296:Nat) ^ nd b<=4294967296 ^ 1:=Nat.pow_le_pow_right (by decide) (by omega);omega
def iU:Cn prog:= .Gr aM aM aM aM 78 abh (λa b=>a/b) (λa b=>a % b) Th (au rfl rfl)
def xj (a b:Int):Prop:=SZ a/\SZ b
theorem afZ (a b:Int) (h:xj a b):dA 40 (.cons (aX.v a) (.cons (aX.v b) .nil)) (aX.v (Nat.gcd a.natAbs b.natAbs)):=by
 obtain⟨ha,hb⟩:=h;unfold SZ at ha hb;refine PF.of_wp (c:=_) af (by decide) (fn:=f40) rfl rfl rfl ?_ (call:=aE [iU]) (λB0=>ay ae [iU] B0) ?_
 .exact .cons (aX.ak _) (.cons (aX.ak _) .nil)
 .intro B0;rw [dZ a,dZ b];generalize a.natAbs=A at*;generalize b.natAbs=B at*;conv=>whnf
  refine Cw.loop (ι:=Nat×Nat)
   (λq=>bm [(4,.ptr (pathOf 66) 0),(5,aM.v q.1),(6,aM.v q.2)]) (λ_=>[])
   (λq=>⟨bW [(pathOf 66,.cells (bm [(0,.bool false),(1,.bA)]) 2 false)],pathOf 67⟩)
   (λq=>nd q.1<134217728/\nd q.2<134217728/\Nat.gcd q.1 q.2=Nat.gcd A B)
   (λq=>q.2) ?_ (A,B) ⟨ha,hb,rfl⟩ ?_
  .rintro ⟨x,y⟩ ⟨hx,hy,hg⟩;simp only at hx hy hg;refine aD af rfl rfl (ay ae [iU] B0) _ (aB ?_);refine an (λh=>?_) (λh=>?_)
   .rw [show dj 0 (Int.ofNat (dg (x,y).snd).length)=decide (0<y)from tU]at h;have h0:=of_decide_eq_true h;have hm:=Nat.mod_lt x h0;conv=>whnf
    refine df [iU] 0 iU (x,y) ⟨hx,hy,h0⟩ (jX ?_);refine⟨(y,x % y),⟨hy,Nat.lt_of_le_of_lt (pJ (Nat.le_of_lt hm)) hy,?_⟩,hm,?_⟩
    .show Nat.gcd y (x % y)=_;rw [<-hg,Nat.gcd_comm x y,Nat.gcd_rec y x,Nat.gcd_comm]
    .refine Sub.of (fI [66]) [] rfl rfl rfl ⟨rfl,⟨rfl,rfl⟩,⟨rfl,rfl⟩,aA⟩ ⟨⟨rfl,rfl,aA,rfl,aA,aA,aA⟩,aA⟩
   .rw [show dj 0 (Int.ofNat (dg (x,y).snd).length)=decide (0<y)from tU]at h;have h0:y=0:=(by have:=of_decide_eq_false h;omega);subst h0;rw [Nat.gcd_zero_right]at hg;rw [<-hg];conv=>whnf
    refine aj.same ?_ (aX.ak _);rfl
  .refine Sub.of (fI [66]) [] rfl rfl rfl ⟨rfl,⟨rfl,rfl⟩,⟨rfl,rfl⟩,aA⟩ ⟨⟨rfl,rfl,aA,rfl,aA,aA,aA⟩,aA⟩
def mI:Cn prog:= .kz aX aX aX 40 false xj (λa b=>(Nat.gcd a.natAbs b.natAbs:Nat)) (λe=>by cases e) afZ (au rfl rfl)
theorem PW (neg:Bool) (m:Nat) (h:nd m<4294967296):dA 76 (.cons (bj.v neg) (.cons (aM.v m) .nil)) (aX.v (eU neg m)):=by
 have:=Gz neg (dg m) (abb m) (by rw [br];exact h);rw [DM]at this;exact this
def iB:Cn prog:= .kz bj aM aX 76 false (λ_ m=>nd m<4294967296) eU (λe=>by cases e) PW (au rfl rfl)
def cN:List (Cn prog):=[eW,iU,iB,iL,Mb,sX]
def zD (a b:Int):Prop:=SZ a/\SZ b
def sy (a b:Int):Int:=if b=0 then 0 else Int.fdiv a b
def dmR (a b:Int):Int:=if b=0 then 0 else Int.fmod a b
def dmE (a b:Int):Int:=if b=0 then 19 else 0
theorem DX {a b q r:Int} (h:0<b) (h1:r+b*q=a) (h2:0<=r) (h3:r<b):sy a b=q/\dmR a b=r/\dmE a b=0:=by
 have:=(Int.fdiv_fmod_unique h).2 ⟨h1,h2,h3⟩;unfold sy dmR dmE;rw [if_neg (by omega),if_neg (by omega),if_neg (by omega)];exact⟨this.1,this.2,rfl⟩
theorem DY {a b q r:Int} (h:b<0) (h1:r+b*q=a) (h2:b<r) (h3:r<=0):sy a b=q/\dmR a b=r/\dmE a b=0:=by
 have:=(Int.fdiv_fmod_unique' h).2 ⟨h1,h2,h3⟩;unfold sy dmR dmE;rw [if_neg (by omega),if_neg (by omega),if_neg (by omega)];exact⟨this.1,this.2,rfl⟩
theorem oL {s:Bool} {m:Nat}:bG (Int.sign (eU s m)) 0=true↔m=0:=by
 rw [bw,Int.sign_eq_zero_iff_zero];cases s<;>simp [eU]
theorem Ti {s:Bool} {m:Nat} (h:m≠0):decide (eU s m<0)=s:=by
 cases s
 .exact decide_eq_false (by simp only [eU];omega)
 .exact decide_eq_true (by simp only [eU];omega)
theorem xU {b:Int} {s:Bool} (hb:decide (b<0)=s) (x:Bool) (q:Nat):b*eU x q=eU (x !=s) (b.natAbs*q):=by
 subst hb;rcases Int.lt_or_le b 0 with h|h
 .obtain⟨n,hn⟩:∃n:Nat,b= -(n:Int):=⟨b.natAbs,by omega⟩
  subst hn;rw [decide_eq_true h];cases x<;>simp [eU,Int.neg_mul,Int.mul_neg]
 .obtain⟨n,rfl⟩:=Int.eq_ofNat_of_zero_le h;rw [decide_eq_false (by omega)];cases x<;>simp [eU,Int.neg_mul,Int.mul_neg]
theorem DZ {s:Bool} {m:Nat} (h:nd m<134217728):SZ (eU s m):=by unfold SZ;rw [LZ];exact h
theorem zE:SZ 1:=by unfold SZ;decide
theorem Tj (a b:Int) (h:zD a b):dA 39 (.cons (aX.v a) (.cons (aX.v b) .nil)) (.aO (.cons (aX.v (sy a b)) (.cons (aX.v (dmR a b)) (.cons ((aq .i64).v (dmE a b)) .nil)))):=by
 obtain⟨ha,hb⟩:=h;unfold SZ at ha hb;refine PF.of_wp (c:=_) af (by decide) (fn:=f39) rfl rfl rfl ?_ (call:=aE cN) (λB0=>ay ae cN B0) ?_
 .exact .cons (aX.ak _) (.cons (aX.ak _) .nil)
 .intro B0;by_cases h0:b=0
  .subst h0;conv=>whnf
   refine df cN 0 eW (0:Int) aA (jX ?_);refine aj.aO (.cons ?_ (.cons ?_ (.cons (aj.pure .int) .nil)))
   .exact aj.agg (.cons (aj.pure .bool) (.cons aj.bA .nil))
   .exact aj.agg (.cons (aj.pure .bool) (.cons aj.bA .nil))
  have hB:0<b.natAbs:=by omega
  have hQ:nd (a.natAbs/b.natAbs)<=nd a.natAbs:=pJ (Nat.div_le_self _ _);have hRl:nd (a.natAbs % b.natAbs)<=nd a.natAbs:=pJ (Nat.mod_le _ _);have hRb:=Nat.mod_lt a.natAbs hB;have hdm:=Nat.div_add_mod a.natAbs b.natAbs;rcases Int.lt_or_le a 0 with hna|hna<;>rcases Int.lt_or_le b 0 with hnb|hnb
  .rw [dZ a,dZ b,decide_eq_true (show a<0 by omega),decide_eq_true (show b<0 by omega)];have hmul:b*eU false (a.natAbs/b.natAbs)= -((b.natAbs*(a.natAbs/b.natAbs):Nat):Int):=xU (s:=true) (decide_eq_true (show b<0 by omega)) false _;conv=>whnf
   refine bI (l:=cN) (by decide) 0 (c:=eW) rfl b aA ?_ ?_ ?_
   .exact pc
   .show AV.cons (aX.v b) .nil=_;rw [dZ b,decide_eq_true (show b<0 by omega)];rfl
   refine jX ?_;refine an (λh=>?_) (λh=>?_)
   .exact absurd (Int.sign_eq_zero_iff_zero.1 (bw.1 h)) h0
   conv=>whnf
   refine df cN 1 iU (a.natAbs,b.natAbs) ⟨ha,hb,hB⟩ (jX ?_);refine df cN 2 iB (false,a.natAbs/b.natAbs) (by show nd (a.natAbs/b.natAbs)<_;omega) (jX ?_);refine df cN 2 iB (true,a.natAbs % b.natAbs) (by show nd (a.natAbs % b.natAbs)<_;omega) (jX ?_);refine df cN 0 eW (eU true (a.natAbs % b.natAbs)) aA (jX ?_);refine an (λh1=>?_) (λh1=>?_)
   .have hR:a.natAbs % b.natAbs≠0:=λe=>by rw [kS]at h1;rw [oL.2 e]at h1;cases h1
    conv=>whnf
    refine an (λh2=>?_) (λh2=>?_)
    .exfalso;have h3:aU (Bool.casesOn (motive:=λ_=>Bool) (decide (eU true (a.natAbs % b.natAbs)<0)) (aU true) true)=true:=h2;rw [Ti hR]at h3;cases h3
    .refine jX ?_;obtain⟨e1,e2,e3⟩:=DY (a:=a) (b:=b) (q:=eU false (a.natAbs/b.natAbs)) (r:=eU true (a.natAbs % b.natAbs)) (by omega) (by rw [hmul];simp only [eU];omega) (by simp only [eU];omega) (by simp only [eU];omega);rw [e1,e2,e3];exact aj.same rfl (.aO (.cons (aX.ak _) (.cons (aX.ak _) (.cons .int .nil))))
   .refine jX ?_;obtain⟨e1,e2,e3⟩:=DY (a:=a) (b:=b) (q:=eU false (a.natAbs/b.natAbs)) (r:=eU true (a.natAbs % b.natAbs)) (by omega) (by rw [hmul];simp only [eU];omega) (by simp only [eU];omega) (by simp only [eU];omega);rw [e1,e2,e3];exact aj.same rfl (.aO (.cons (aX.ak _) (.cons (aX.ak _) (.cons .int .nil))))
  .rw [dZ a,dZ b,decide_eq_true (show a<0 by omega),decide_eq_false (show ¬b<0 by omega)];have hmul:b*eU true (a.natAbs/b.natAbs)= -((b.natAbs*(a.natAbs/b.natAbs):Nat):Int):=xU (s:=false) (decide_eq_false (show ¬b<0 by omega)) true _;conv=>whnf
   refine bI (l:=cN) (by decide) 0 (c:=eW) rfl b aA ?_ ?_ ?_
   .exact pc
   .show AV.cons (aX.v b) .nil=_;rw [dZ b,decide_eq_false (show ¬b<0 by omega)];rfl
   refine jX ?_;refine an (λh=>?_) (λh=>?_)
   .exact absurd (Int.sign_eq_zero_iff_zero.1 (bw.1 h)) h0
   conv=>whnf
   refine df cN 1 iU (a.natAbs,b.natAbs) ⟨ha,hb,hB⟩ (jX ?_);refine df cN 2 iB (true,a.natAbs/b.natAbs) (by show nd (a.natAbs/b.natAbs)<_;omega) (jX ?_);refine df cN 2 iB (true,a.natAbs % b.natAbs) (by show nd (a.natAbs % b.natAbs)<_;omega) (jX ?_);refine df cN 0 eW (eU true (a.natAbs % b.natAbs)) aA (jX ?_);refine an (λh1=>?_) (λh1=>?_)
   .have hR:a.natAbs % b.natAbs≠0:=λe=>by rw [kS]at h1;rw [oL.2 e]at h1;cases h1
    conv=>whnf
    refine an (λh2=>?_) (λh2=>?_)
    .conv=>whnf
     refine df cN 3 iL (1:Int) ⟨by show(-9223372036854775808:Int)<=1;omega,by show(1:Int)<9223372036854775808;omega⟩ (jX ?_);refine df cN 4 Mb (eU true (a.natAbs/b.natAbs),(1:Int)) ⟨DZ (s:=true) (m:=a.natAbs/b.natAbs) (by omega),zE⟩ (jX ?_);refine bI (l:=cN) (by decide) 5 (c:=sX) rfl (eU true (a.natAbs % b.natAbs),b) ⟨DZ (s:=true) (m:=a.natAbs % b.natAbs) (by omega),hb⟩ ?_ ?_ ?_
     .exact pc
     .show AV.cons (aX.v _) (.cons (aX.v b) .nil)=_;rw [dZ b,decide_eq_false (show ¬b<0 by omega)];rfl
     refine jX ?_;repeat refine⟨⟨_,rfl,rfl⟩,?_⟩
     conv=>whnf
     obtain⟨e1,e2,e3⟩:=DX (a:=a) (b:=b) (q:=eU true (a.natAbs/b.natAbs) - 1) (r:=eU true (a.natAbs % b.natAbs)+b) (by omega) (by rw [Int.mul_sub,hmul];simp only [eU];omega) (by simp only [eU];omega) (by simp only [eU];omega);rw [e1,e2,e3];exact aj.same rfl (.aO (.cons (aX.ak _) (.cons (aX.ak _) (.cons .int .nil))))
    .exfalso;have h3:aU (Bool.casesOn (motive:=λ_=>Bool) (decide (eU true (a.natAbs % b.natAbs)<0)) (aU false) false)=false:=h2;rw [Ti hR]at h3;cases h3
   .have hR:a.natAbs % b.natAbs=0:=(by rw [rY]at h1;exact oL.1 h1);refine jX ?_;obtain⟨e1,e2,e3⟩:=DX (a:=a) (b:=b) (q:=eU true (a.natAbs/b.natAbs)) (r:=eU true (a.natAbs % b.natAbs)) (by omega) (by rw [hmul];simp only [eU];omega) (by simp only [eU];omega) (by simp only [eU];omega);rw [e1,e2,e3];exact aj.same rfl (.aO (.cons (aX.ak _) (.cons (aX.ak _) (.cons .int .nil))))
  .rw [dZ a,dZ b,decide_eq_false (show ¬a<0 by omega),decide_eq_true (show b<0 by omega)];have hmul:b*eU true (a.natAbs/b.natAbs)=((b.natAbs*(a.natAbs/b.natAbs):Nat):Int):=xU (s:=true) (decide_eq_true (show b<0 by omega)) true _;conv=>whnf
   refine bI (l:=cN) (by decide) 0 (c:=eW) rfl b aA ?_ ?_ ?_
   .exact pc
   .show AV.cons (aX.v b) .nil=_;rw [dZ b,decide_eq_true (show b<0 by omega)];rfl
   refine jX ?_;refine an (λh=>?_) (λh=>?_)
   .exact absurd (Int.sign_eq_zero_iff_zero.1 (bw.1 h)) h0
   conv=>whnf
   refine df cN 1 iU (a.natAbs,b.natAbs) ⟨ha,hb,hB⟩ (jX ?_);refine df cN 2 iB (true,a.natAbs/b.natAbs) (by show nd (a.natAbs/b.natAbs)<_;omega) (jX ?_);refine df cN 2 iB (false,a.natAbs % b.natAbs) (by show nd (a.natAbs % b.natAbs)<_;omega) (jX ?_);refine df cN 0 eW (eU false (a.natAbs % b.natAbs)) aA (jX ?_);refine an (λh1=>?_) (λh1=>?_)
   .have hR:a.natAbs % b.natAbs≠0:=λe=>by rw [kS]at h1;rw [oL.2 e]at h1;cases h1
    conv=>whnf
    refine df cN 3 iL (1:Int) ⟨by show(-9223372036854775808:Int)<=1;omega,by show(1:Int)<9223372036854775808;omega⟩ (jX ?_);refine df cN 4 Mb (eU true (a.natAbs/b.natAbs),(1:Int)) ⟨DZ (s:=true) (m:=a.natAbs/b.natAbs) (by omega),zE⟩ (jX ?_);refine bI (l:=cN) (by decide) 5 (c:=sX) rfl (eU false (a.natAbs % b.natAbs),b) ⟨DZ (s:=false) (m:=a.natAbs % b.natAbs) (by omega),hb⟩ ?_ ?_ ?_
    .exact pc
    .show AV.cons (aX.v _) (.cons (aX.v b) .nil)=_;rw [dZ b,decide_eq_true (show b<0 by omega)];rfl
    refine jX ?_;repeat refine⟨⟨_,rfl,rfl⟩,?_⟩
    conv=>whnf
    obtain⟨e1,e2,e3⟩:=DY (a:=a) (b:=b) (q:=eU true (a.natAbs/b.natAbs) - 1) (r:=eU false (a.natAbs % b.natAbs)+b) (by omega) (by rw [Int.mul_sub,hmul];simp only [eU];omega) (by simp only [eU];omega) (by simp only [eU];omega);rw [e1,e2,e3];exact aj.same rfl (.aO (.cons (aX.ak _) (.cons (aX.ak _) (.cons .int .nil))))
   .have hR:a.natAbs % b.natAbs=0:=(by rw [rY]at h1;exact oL.1 h1);refine jX ?_;obtain⟨e1,e2,e3⟩:=DY (a:=a) (b:=b) (q:=eU true (a.natAbs/b.natAbs)) (r:=eU false (a.natAbs % b.natAbs)) (by omega) (by rw [hmul];simp only [eU];omega) (by simp only [eU];omega) (by simp only [eU];omega);rw [e1,e2,e3];exact aj.same rfl (.aO (.cons (aX.ak _) (.cons (aX.ak _) (.cons .int .nil))))
  .rw [dZ a,dZ b,decide_eq_false (show ¬a<0 by omega),decide_eq_false (show ¬b<0 by omega)];have hmul:b*eU false (a.natAbs/b.natAbs)=((b.natAbs*(a.natAbs/b.natAbs):Nat):Int):=xU (s:=false) (decide_eq_false (show ¬b<0 by omega)) false _;conv=>whnf
   refine bI (l:=cN) (by decide) 0 (c:=eW) rfl b aA ?_ ?_ ?_
   .exact pc
   .show AV.cons (aX.v b) .nil=_;rw [dZ b,decide_eq_false (show ¬b<0 by omega)];rfl
   refine jX ?_;refine an (λh=>?_) (λh=>?_)
   .exact absurd (Int.sign_eq_zero_iff_zero.1 (bw.1 h)) h0
   conv=>whnf
   refine df cN 1 iU (a.natAbs,b.natAbs) ⟨ha,hb,hB⟩ (jX ?_);refine df cN 2 iB (false,a.natAbs/b.natAbs) (by show nd (a.natAbs/b.natAbs)<_;omega) (jX ?_);refine df cN 2 iB (false,a.natAbs % b.natAbs) (by show nd (a.natAbs % b.natAbs)<_;omega) (jX ?_);refine df cN 0 eW (eU false (a.natAbs % b.natAbs)) aA (jX ?_);refine an (λh1=>?_) (λh1=>?_)
   .have hR:a.natAbs % b.natAbs≠0:=λe=>by rw [kS]at h1;rw [oL.2 e]at h1;cases h1
    conv=>whnf
    .refine jX ?_;obtain⟨e1,e2,e3⟩:=DX (a:=a) (b:=b) (q:=eU false (a.natAbs/b.natAbs)) (r:=eU false (a.natAbs % b.natAbs)) (by omega) (by rw [hmul];simp only [eU];omega) (by simp only [eU];omega) (by simp only [eU];omega);rw [e1,e2,e3];exact aj.same rfl (.aO (.cons (aX.ak _) (.cons (aX.ak _) (.cons .int .nil))))
   .refine jX ?_;obtain⟨e1,e2,e3⟩:=DX (a:=a) (b:=b) (q:=eU false (a.natAbs/b.natAbs)) (r:=eU false (a.natAbs % b.natAbs)) (by omega) (by rw [hmul];simp only [eU];omega) (by simp only [eU];omega) (by simp only [eU];omega);rw [e1,e2,e3];exact aj.same rfl (.aO (.cons (aX.ak _) (.cons (aX.ak _) (.cons .int .nil))))
def iV:Cn prog:= .afA aX aX aX aX (aq .i64) 39 zD sy dmR dmE Tj (au rfl rfl)
abbrev V3:=Int×Int×Int
def bR:bX V3:=((aq .i64).pair ((aq .i64).pair (aq .i64)))
def Cd (n:Int):Int:=ah .i64 n
def bU (a b:V3):V3:=(Cd (Int.sub a.1 b.1),Cd (Int.sub a.2.1 b.2.1),Cd (Int.sub a.2.2 b.2.2))
def iW (a b:V3):Int:=Cd (Int.add (Cd (Int.add (Cd (Int.mul a.1 b.1)) (Cd (Int.mul a.2.1 b.2.1)))) (Cd (Int.mul a.2.2 b.2.2)))
def eD (a b:V3):V3:=(Cd (Int.sub (Cd (Int.mul a.2.1 b.2.2)) (Cd (Int.mul a.2.2 b.2.1))),Cd (Int.sub (Cd (Int.mul a.2.2 b.1)) (Cd (Int.mul a.1 b.2.2))),Cd (Int.sub (Cd (Int.mul a.1 b.2.1)) (Cd (Int.mul a.2.1 b.1))))
theorem af0 (a b:V3):dA 262 (.cons (bR.v a) (.cons (bR.v b) .nil)) (bR.v (bU a b)):=by
 obtain⟨a0,a1,a2⟩:=a;obtain⟨b0,b1,b2⟩:=b;refine PF.of_wp (c:=_) af (by decide) (fn:=f262) rfl rfl rfl (.cons (bR.ak _) (.cons (bR.ak _) .nil)) (call:=aE []) (λB0=>ay ae [] B0) ?_;intro B0;conv=>whnf
 exact aj.same rfl (bR.ak _)
theorem af1 (a b:V3):dA 265 (.cons (bR.v a) (.cons (bR.v b) .nil)) ((aq .i64).v (iW a b)):=by
 obtain⟨a0,a1,a2⟩:=a;obtain⟨b0,b1,b2⟩:=b;refine PF.of_wp (c:=_) af (by decide) (fn:=f265) rfl rfl rfl (.cons (bR.ak _) (.cons (bR.ak _) .nil)) (call:=aE []) (λB0=>ay ae [] B0) ?_;intro B0;conv=>whnf
 exact aj.same rfl cL.int
theorem Yr (a b:V3):dA 261 (.cons (bR.v a) (.cons (bR.v b) .nil)) (bR.v (eD a b)):=by
 obtain⟨a0,a1,a2⟩:=a;obtain⟨b0,b1,b2⟩:=b;refine PF.of_wp (c:=_) af (by decide) (fn:=f261) rfl rfl rfl (.cons (bR.ak _) (.cons (bR.ak _) .nil)) (call:=aE []) (λB0=>ay ae [] B0) ?_;intro B0;conv=>whnf
 exact aj.same rfl (bR.ak _)
theorem Mo:true=true ->∀y,∀a∈bR.cs y,qa a=true:=λ_ y x hx=>by
 obtain⟨y0,y1,y2⟩:=y;have hx:x∈[AV.int .i64 y0,AV.int .i64 y1,AV.int .i64 y2]:=hx;simp only [List.mem_cons,List.mem_nil_iff,or_false]at hx;rcases hx with rfl|rfl|rfl<;>rfl
def nC:Cn prog:= .kz bR bR bR 262 true (λ_ _=>True) bU Mo (λa b _=>af0 a b) (au rfl rfl)
def vy:Cn prog:= .kz bR bR (aq .i64) 265 true (λ_ _=>True) iW (cM _) (λa b _=>af1 a b) (au rfl rfl)
def pK:Cn prog:= .kz bR bR bR 261 true (λ_ _=>True) eD Mo (λa b _=>Yr a b) (au rfl rfl)
theorem oM {n:Int} (h1:0<=n) (h2:n<18446744073709551616):fits .u64 n=true:=cK.2 ⟨by simpa [Fk]using h1,h2⟩
def vz:List (Cn prog):=[nC,vy,pK]
def isZ (n:V3):Bool:=aF (bG n.1 0) (aF (bG n.2.1 0) (aF (bG n.2.2 0) true))
def Tk (m:Nat):Int:=ah .u64 (Int.mul 1 (Int.ofNat (Nat.pow 2 (Nat.min m 64))))
def orN (on m:Nat):Nat:=Nat.lor on (Tk m).toNat
def dO (n o:V3) (m:Nat) (p:V3) (s:Nat×Bool×Bool):Nat×Bool×Bool:=
 match dj (iW n (bU p o)) 0 with
 |true=>(s.1,true,s.2.2)
 |false=>(match dj 0 (iW n (bU p o))with|true=>(s.1,s.2.1,true)|false=>(orN s.1 m,s.2.1,s.2.2))
def iM (n o:V3):Nat ->List V3 ->Nat×Bool×Bool ->Nat×Bool×Bool
 |_,[],s=>s|m,p::l,s=>iM n o (m+1) l (dO n o m p s)
theorem xk {n o p:V3}:∀{l:List V3} {a:Nat} {s:Nat×Bool×Bool},iM n o a (l++[p]) s=dO n o (a+l.length) p (iM n o a l s)
 |[],a,s=>rfl|q::l,a,s=>by
  show iM n o (a+1) (l++[p]) (dO n o a q s)=_;rw [xk,List.length_cons,show a+1+l.length=a+(l.length+1) by omega];rfl
theorem pL (m:Nat):0<=Tk m/\Tk m<18446744073709551616:=by
 unfold Tk;rw [wrap_u64];omega
theorem Tl {on m:Nat} (h:on<18446744073709551616):orN on m<18446744073709551616:=by
 have h1:=pL m;have:(Tk m).toNat<2 ^ 64:=by omega
 exact Nat.or_lt_two_pow (n:=64) h this
theorem GN {n o p:V3} {m:Nat} {s:Nat×Bool×Bool} (h:s.1<18446744073709551616):(dO n o m p s).1<18446744073709551616:=by
 unfold dO;split
 .exact h
 .split
  .exact h
  .exact Tl h
theorem Ce {n o:V3}:∀{l:List V3} {a:Nat} {s:Nat×Bool×Bool},s.1<18446744073709551616 ->(iM n o a l s).1<18446744073709551616
 |[],_,_,h=>h|p::l,_,_,h=>Ce (l:=l) (GN h)
def bY:bX (V3×Int):=bR.pair (aq .u64)
def Tm (l:List V3) (n o:V3):(V3×Int)×Bool:=
 ((match (iM n o 0 l (0,false,false)).2.2 with|true=>bU (0,0,0) n|false=>n,(((iM n o 0 l (0,false,false)).1:Nat):Int)),aU (Bool.casesOn (motive:=λ_=>Bool) (iM n o 0 l (0,false,false)).2.1 (aU (iM n o 0 l (0,false,false)).2.2) (iM n o 0 l (0,false,false)).2.2))
def gm (l:List V3) (a b c:V3):(V3×Int)×Bool:=
 match isZ (eD (bU b a) (bU c a))with
 |true=>(((0,0,0),0),false)
 |false=>Tm l (eD (bU b a) (bU c a)) a
theorem ac7 (l:List V3) (i j k:Nat) (hl:l.length<=4294967296) (hi:i<l.length) (hj:j<l.length) (hk:k<l.length):dA 266 (.cons (bR.list.v l) (.cons ((aq .i64).v i) (.cons ((aq .i64).v j) (.cons ((aq .i64).v k) .nil)))) (.aO (.cons (bY.v (gm l l[i] l[j] l[k]).1) (.cons (bj.v (gm l l[i] l[j] l[k]).2) .nil))):=by
 refine PF.of_wp (c:=_) af (by decide) (fn:=f266) rfl rfl rfl (.cons (bR.list.ak _) (.cons .int (.cons .int (.cons .int .nil)))) (call:=aE vz) (λB0=>ay ae vz B0) ?_;intro B0;conv=>whnf
 refine aG.go j rfl hj (aB ?_);refine⟨_,bR.rd rfl hj,aB ?_⟩;refine aG.go i rfl hi (aB ?_);refine⟨_,bR.rd rfl hi,aB ?_⟩;refine aG.go k rfl hk (aB ?_);refine⟨_,bR.rd rfl hk,aB ?_⟩;refine aG.go i rfl hi (aB ?_);refine⟨_,bR.rd rfl hi,aB ?_⟩;refine bI (l:=vz) (by decide) 0 (c:=nC) rfl (l[j],l[i]) aA ?_ ?_ ?_
 .repeat' first|exact aA|refine⟨?_,?_⟩
 .rfl
 conv=>whnf
 repeat(first|(refine⟨⟨_,rfl,rfl⟩,?_⟩;conv=>whnf)|(refine⟨aA,?_⟩;conv=>whnf)|(refine⟨?_,?_⟩;(· first|exact⟨_,bR.rd (P:=prog) (t:=72) rfl hj,bR.rd (P:=prog) (t:=72) rfl hj⟩|exact⟨_,bR.rd (P:=prog) (t:=72) rfl hi,bR.rd (P:=prog) (t:=72) rfl hi⟩|exact⟨_,bR.rd (P:=prog) (t:=72) rfl hk,bR.rd (P:=prog) (t:=72) rfl hk⟩|exact rfl);conv=>whnf))
 conv=>whnf
 refine bI (l:=vz) (by decide) 0 (c:=nC) rfl (l[k],l[i]) aA ?_ ?_ ?_
 .repeat' first|exact aA|refine⟨?_,?_⟩
 .rfl
 conv=>whnf
 repeat(first|(refine⟨⟨_,rfl,rfl⟩,?_⟩;conv=>whnf)|(refine⟨aA,?_⟩;conv=>whnf)|(refine⟨?_,?_⟩;(· first|exact⟨_,bR.rd (P:=prog) (t:=72) rfl hj,bR.rd (P:=prog) (t:=72) rfl hj⟩|exact⟨_,bR.rd (P:=prog) (t:=72) rfl hi,bR.rd (P:=prog) (t:=72) rfl hi⟩|exact⟨_,bR.rd (P:=prog) (t:=72) rfl hk,bR.rd (P:=prog) (t:=72) rfl hk⟩|exact rfl);conv=>whnf))
 conv=>whnf
 refine bI (l:=vz) (by decide) 2 (c:=pK) rfl (bU l[j] l[i],bU l[k] l[i]) aA ?_ ?_ ?_
 .repeat' first|exact aA|refine⟨?_,?_⟩
 .rfl
 conv=>whnf
 repeat(first|(refine⟨⟨_,rfl,rfl⟩,?_⟩;conv=>whnf)|(refine⟨aA,?_⟩;conv=>whnf)|(refine⟨?_,?_⟩;(· first|exact⟨_,bR.rd (P:=prog) (t:=72) rfl hj,bR.rd (P:=prog) (t:=72) rfl hj⟩|exact⟨_,bR.rd (P:=prog) (t:=72) rfl hi,bR.rd (P:=prog) (t:=72) rfl hi⟩|exact⟨_,bR.rd (P:=prog) (t:=72) rfl hk,bR.rd (P:=prog) (t:=72) rfl hk⟩|exact rfl);conv=>whnf))
 conv=>whnf
 unfold gm;refine an (λh=>?_) (λh=>?_)
 .have hz:isZ (eD (bU l[j] l[i]) (bU l[k] l[i]))=true:=h;rw [hz];conv=>whnf
  exact aj.same rfl (.aO (.cons (bY.ak _) (.cons (bj.ak _) .nil)))
 .have hz:isZ (eD (bU l[j] l[i]) (bU l[k] l[i]))=false:=h;rw [hz];generalize eD (bU l[j] l[i]) (bU l[k] l[i])=n;conv=>whnf
  obtain⟨st,hS⟩:∃st:Nat ->Nat×Bool×Bool,∀q,st q=iM n l[i] 0 (l.take q) (0,false,false):=⟨_,λ_=>rfl⟩
  have mw:∀q,(st q).1<18446744073709551616:=λq=>by rw [hS];exact Ce (by show(0:Nat)<_;omega)
  have Xk:st 0=(0,false,false):=by rw [hS];rfl
  have fb:∀q (hq:q<l.length),st (q+1)=dO n l[i] q l[q] (st q):=λq hq=>by
   rw [hS,hS,List.take_succ_eq_append_getElem hq,xk,List.length_take_of_le (by omega),Nat.zero_add]
  have AX:iM n l[i] 0 l (0,false,false)=st l.length:=by rw [hS,List.take_length]
  refine Cw.loop (ι:=Nat) (λq=>bm [(0,bR.list.v l),(1,.int .i64 (i:Int)),(8,.ptr (pathOf 64) 0),(10,.ptr (pathOf 65) 0),(11,.ptr (pathOf 66) 0),(12,.bool (st q).2.1),(13,.bool (st q).2.2),(42,bR.list.v l),(43,.int .i64 (l.length:Int)),(44,.int .i64 (q:Int))]) (λ_=>[]) (λq=>⟨bW [(pathOf 64,.cells (bm [(0,.int .i64 0),(1,.int .i64 0),(2,.int .i64 0),(3,.int .u64 0)]) 4 false),(pathOf 65,.cells (bm [(0,.int .i64 n.1),(1,.int .i64 n.2.1),(2,.int .i64 n.2.2)]) 3 false),(pathOf 66,.cells (bm [(0,.int .i64 n.1),(1,.int .i64 n.2.1),(2,.int .i64 n.2.2),(3,.int .u64 ((st q).1:Nat))]) 4 false)],pathOf 67⟩) (λq=>q<=l.length) (λq=>l.length - q) ?_ 0 (Nat.zero_le _) ?_
  .intro q hq;refine aD af rfl rfl (ay ae vz B0) _ (aB ?_);refine an (λh1=>?_) (λh1=>?_)
   .have iw:q<l.length:=Int.ofNat_lt.1 (aQ.1 h1);have bM:ah .i64 (Int.add (q:Int) 1)=((q+1:Nat):Int):=by
     show ah .i64 ((q:Int)+1)=_;rw [az (by omega) (by omega)];omega
    conv=>whnf
    refine aG.go q rfl iw (aB ?_);refine⟨_,bR.rd rfl iw,aB ?_⟩;refine aG.go i rfl hi (aB ?_);refine⟨_,bR.rd rfl hi,aB ?_⟩;refine bI (l:=vz) (by decide) 0 (c:=nC) rfl (l[q],l[i]) aA ?_ ?_ ?_
    .repeat' first|exact aA|refine⟨?_,?_⟩
    .rfl
    conv=>whnf
    repeat(first|(refine⟨⟨_,rfl,rfl⟩,?_⟩;conv=>whnf)|(refine⟨aA,?_⟩;conv=>whnf)|(refine⟨?_,?_⟩;(· first|exact⟨_,bR.rd (P:=prog) (t:=72) rfl hj,bR.rd (P:=prog) (t:=72) rfl hj⟩|exact⟨_,bR.rd (P:=prog) (t:=72) rfl hi,bR.rd (P:=prog) (t:=72) rfl hi⟩|exact⟨_,bR.rd (P:=prog) (t:=72) rfl hk,bR.rd (P:=prog) (t:=72) rfl hk⟩|exact⟨_,bR.rd (P:=prog) (t:=72) rfl iw,bR.rd (P:=prog) (t:=72) rfl iw⟩|exact rfl);conv=>whnf))
    conv=>whnf
    refine bI (l:=vz) (by decide) 1 (c:=vy) rfl (n,bU l[q] l[i]) aA ?_ ?_ ?_
    .repeat' first|exact aA|refine⟨?_,?_⟩
    .rfl
    conv=>whnf
    repeat(first|(refine⟨⟨_,rfl,rfl⟩,?_⟩;conv=>whnf)|(refine⟨aA,?_⟩;conv=>whnf)|(refine⟨?_,?_⟩;(· first|exact⟨_,bR.rd (P:=prog) (t:=72) rfl hj,bR.rd (P:=prog) (t:=72) rfl hj⟩|exact⟨_,bR.rd (P:=prog) (t:=72) rfl hi,bR.rd (P:=prog) (t:=72) rfl hi⟩|exact⟨_,bR.rd (P:=prog) (t:=72) rfl hk,bR.rd (P:=prog) (t:=72) rfl hk⟩|exact rfl);conv=>whnf))
    conv=>whnf
    refine an (λh2=>?_) (λh2=>?_)
    .have cC:dO n l[i] q l[q] (st q)=((st q).1,true,(st q).2.2):=by
      unfold dO;rw [show dj (iW n (bU l[q] l[i])) 0=true from h2]
     conv=>whnf
     refine⟨q+1,iw,by omega,?_⟩;refine Sub.of (fI [64,65,66]) [] rfl rfl rfl ?_ ?_
     .repeat' first|exact aA|exact rfl|refine And.intro ?_ ?_
      all_goals first|exact bM|(rw [fb q iw,cC];exact rfl)
     .repeat' first|exact aA|exact rfl|refine And.intro ?_ ?_
      all_goals first|exact bM|(rw [fb q iw,cC];exact rfl)
    .refine an (λh3=>?_) (λh3=>?_)
     .have cC:dO n l[i] q l[q] (st q)=((st q).1,(st q).2.1,true):=by
       unfold dO;rw [show dj (iW n (bU l[q] l[i])) 0=false from h2,show dj 0 (iW n (bU l[q] l[i]))=true from h3]
      conv=>whnf
      refine⟨q+1,iw,by omega,?_⟩;refine Sub.of (fI [64,65,66]) [] rfl rfl rfl ?_ ?_
      .repeat' first|exact aA|exact rfl|refine And.intro ?_ ?_
       all_goals first|exact bM|(rw [fb q iw,cC];exact rfl)
      .repeat' first|exact aA|exact rfl|refine And.intro ?_ ?_
       all_goals first|exact bM|(rw [fb q iw,cC];exact rfl)
     .have cC:dO n l[i] q l[q] (st q)=(orN (st q).1 q,(st q).2.1,(st q).2.2):=by
       unfold dO;rw [show dj (iW n (bU l[q] l[i])) 0=false from h2,show dj 0 (iW n (bU l[q] l[i]))=false from h3]
      conv=>whnf
      refine⟨Int.natCast_nonneg q,aB ?_⟩;refine⟨⟨Int.natCast_nonneg _,oM (Int.natCast_nonneg _) (by have:=mw q;omega),(pL q).1,oM (pL q).1 (pL q).2⟩,aB ?_⟩;repeat(first|(refine⟨⟨_,rfl,rfl⟩,?_⟩;conv=>whnf)|(refine⟨aA,?_⟩;conv=>whnf))
      refine⟨q+1,iw,by omega,?_⟩;refine Sub.of (fI [64,65,66]) [] rfl rfl rfl ?_ ?_
      .repeat' first|exact aA|exact rfl|refine And.intro ?_ ?_
       all_goals first|exact bM|(rw [fb q iw,cC];exact rfl)
      .repeat' first|exact aA|exact rfl|refine And.intro ?_ ?_
       all_goals first|exact bM|(rw [fb q iw,cC];exact rfl)
   .have Lw:q=l.length:=(by have:=bf.1 h1;omega);subst Lw;have hb:=mw l.length;generalize st l.length=s0 at hb AX ⊢;obtain⟨on,less,more⟩:=s0;unfold Tm;rw [AX];cases more with
    |true=>
     conv=>whnf
     refine bI (l:=vz) (by decide) 0 (c:=nC) rfl (((0,0,0):V3),n) aA ?_ ?_ ?_
     .repeat' first|exact aA|refine⟨?_,?_⟩
     .rfl
     conv=>whnf
     repeat(first|(refine⟨⟨_,rfl,rfl⟩,?_⟩;conv=>whnf)|(refine⟨aA,?_⟩;conv=>whnf)|(refine⟨?_,?_⟩;(· first|exact⟨_,bR.rd (P:=prog) (t:=72) rfl hj,bR.rd (P:=prog) (t:=72) rfl hj⟩|exact⟨_,bR.rd (P:=prog) (t:=72) rfl hi,bR.rd (P:=prog) (t:=72) rfl hi⟩|exact⟨_,bR.rd (P:=prog) (t:=72) rfl hk,bR.rd (P:=prog) (t:=72) rfl hk⟩|exact rfl);conv=>whnf))
     conv=>whnf
     exact aj.same rfl (.aO (.cons (bY.ak _) (.cons (bj.ak _) .nil)))
    |false=>
     conv=>whnf
     exact aj.same rfl (.aO (.cons (bY.ak _) (.cons (bj.ak _) .nil)))
  .refine Sub.of (fI [64,65,66]) [] rfl rfl rfl ?_ ?_
   .repeat' first|exact aA|exact rfl|refine And.intro ?_ ?_
    all_goals (rw [Xk];exact rfl)
   .repeat' first|exact aA|exact rfl|refine And.intro ?_ ?_
    all_goals (rw [Xk];exact rfl)
def JZ:Cn prog where
 f:=266
 flat:=true
 α:=List V3×Nat×Nat×Nat
 aZs:=λa=> .cons (bR.list.v a.1) (.cons ((aq .i64).v a.2.1) (.cons ((aq .i64).v a.2.2.1) (.cons ((aq .i64).v a.2.2.2) .nil)))
 v:=λa=> .aO (.cons (bY.v (gm a.1 (a.1.getD a.2.1 (0,0,0)) (a.1.getD a.2.2.1 (0,0,0)) (a.1.getD a.2.2.2 (0,0,0))).1) (.cons (bj.v (gm a.1 (a.1.getD a.2.1 (0,0,0)) (a.1.getD a.2.2.1 (0,0,0)) (a.1.getD a.2.2.2 (0,0,0))).2) .nil))
 ok:=λa=>a.1.length<=4294967296/\a.2.1<a.1.length/\a.2.2.1<a.1.length/\a.2.2.2<a.1.length
 inj:=λa b _ _ h=>by
  obtain⟨l,i,j,k⟩:=a;obtain⟨l',i',j',k'⟩:=b;injection h with h1 h;injection h with h2 h;injection h with h3 h;injection h with h4 _;have e1:l=l':=bR.list.aZ h1;have e2:(i:Int)=i':=(aq .i64).aZ h2;have e3:(j:Int)=j':=(aq .i64).aZ h3;have e4:(k:Int)=k':=(aq .i64).aZ h4;have e2:=Int.ofNat.inj e2;have e3:=Int.ofNat.inj e3;have e4:=Int.ofNat.inj e4;subst e1 e2 e3 e4;rfl
 dp:=λa=>⟨bR.list.eK _,aA,aA,aA,aA⟩
 pv:=λa=> .aO (.cons (bY.ak _) (.cons (bj.ak _) .nil))
 fl:=λ_ a=>by
  intro μ μ' cv hv;obtain⟨c,e,v1,r1,h1,h2,v2,r2,h3,h4,h5⟩:=hv;refine⟨c,e,v1,r1,h1,?_,v2,r2,h3,?_,h5⟩
  .exact bY.zl _ (λx hx=>by
    have hx:x∈[AV.int .i64 _,AV.int .i64 _,AV.int .i64 _,AV.int .u64 _]:=hx;simp only [List.mem_cons,List.mem_nil_iff,or_false]at hx;rcases hx with rfl|rfl|rfl|rfl<;>rfl) μ μ' v1 h2
  .exact bj.zl _ (fh rfl _) μ μ' v2 h4
 pf:=λa h=>by
  obtain⟨l,i,j,k⟩:=a;obtain⟨h1,h2,h3,h4⟩:=h;have:=ac7 l i j k h1 h2 h3 h4;have e:∀{q:Nat} (hq:q<l.length),l.getD q (0,0,0)=l[q]:=λhq=>by rw [List.getD_eq_getElem?_getD,List.getElem?_eq_getElem hq];rfl
  show PF _ _ _ (.aO (.cons (bY.v (gm l (l.getD i (0,0,0)) (l.getD j (0,0,0)) (l.getD k (0,0,0))).1) (.cons (bj.v (gm l (l.getD i (0,0,0)) (l.getD j (0,0,0)) (l.getD k (0,0,0))).2) .nil)));rw [e h2,e h3,e h4];exact this
 bd:=au rfl rfl
abbrev Q:=Int×Int
def aK:bX Q:=aX.pair aX
def Q.dn (q:Q):Int:=if q.2=0 then 1 else q.2
def Q.whole (q:Q):Bool:=decide (q.2=0\/q.2=1)
theorem af2:dA 81 .nil (aX.v 1):=by
 refine PF.of_wp (c:=_) af (by decide) (fn:=f81) rfl rfl rfl .nil (call:=aE [iL]) (λB0=>ay ae [iL] B0) ?_;intro B0;conv=>whnf
 refine df [iL] 0 iL (1:Int) ⟨by show(-9223372036854775808:Int)<=1;omega,by show(1:Int)<9223372036854775808;omega⟩ (ew ?_);exact aj.same rfl (aX.ak _)
def zF:Cn prog:= .of0 aX 81 1 af2 (au rfl rfl)
def zG:List (Cn prog):=[eW,zF,gy]
theorem Ys (n d:Int) (hd:SZ d):dA 48 (.cons (aK.v (n,d)) .nil) (bj.v (Q.whole (n,d))):=by
 refine PF.of_wp (c:=_) af (by decide) (fn:=f48) rfl rfl rfl (.cons (aK.ak _) .nil) (call:=aE zG) (λB0=>ay ae zG B0) ?_;intro B0;conv=>whnf
 refine df zG 0 eW d aA (ew ?_);refine an (λh=>?_) (λh=>?_)
 .have h0:d=0:=Int.sign_eq_zero_iff_zero.1 (bw.1 h);have hw:Q.whole (n,d)=true:=decide_eq_true (.inl h0);rw [hw];refine ew ?_;exact aj.pure .bool
 .have h0:d≠0:=λe=>nY.1 h (by rw [e];rfl);have hw:Q.whole (n,d)=bG (kD d 1) 0:=by
   unfold Q.whole;rw [fX];congr 1;simp only [eq_iff_iff];show(d=0\/d=1)↔_;unfold kD;constructor
   .rintro (h|h)
    .exact absurd h h0
    .rw [if_neg (by omega),if_neg (by omega)]
   .intro h;split at h
    .omega
    .split at h<;>omega
  rw [hw];conv=>whnf
  refine df zG 1 zF () aA (ew ?_);refine df zG 2 gy (d,(1:Int)) ⟨hd,zE⟩ (ew ?_);exact aj.pure .bool
def jf:Cn prog:= .lE aK bj 48 true (λq=>SZ q.2) Q.whole fh (λq h=>Ys q.1 q.2 h) (au rfl rfl)
def Yt:List (Cn prog):=[eW,zF]
theorem af3 (n d:Int):dA 41 (.cons (aK.v (n,d)) .nil) (aX.v (Q.dn (n,d))):=by
 refine PF.of_wp (c:=_) af (by decide) (fn:=f41) rfl rfl rfl (.cons (aK.ak _) .nil) (call:=aE Yt) (λB0=>ay ae Yt B0) ?_;intro B0;conv=>whnf
 refine df Yt 0 eW d aA (aB ?_);refine an (λh=>?_) (λh=>?_)
 .have h0:d=0:=Int.sign_eq_zero_iff_zero.1 (bw.1 h);rw [show Q.dn (n,d)=1 from if_pos h0];conv=>whnf
  refine df Yt 1 zF () aA (ew ?_);exact aj.same rfl (aX.ak _)
 .have h0:d≠0:=λe=>nY.1 h (by rw [e];rfl);rw [show Q.dn (n,d)=d from if_neg h0];refine ew ?_;exact aj.same rfl (aX.ak _)
def dU:Cn prog:= .lE aK aX 41 false (λ_=>True) Q.dn (λe=>by cases e) (λq _=>af3 q.1 q.2) (au rfl rfl)
theorem Yu (n d:Int):dA 123 (.cons (aK.v (n,d)) .nil) ((aq .i64).v n.sign):=by
 refine PF.of_wp (c:=_) af (by decide) (fn:=f123) rfl rfl rfl (.cons (aK.ak _) .nil) (call:=aE [eW]) (λB0=>ay ae [eW] B0) ?_;intro B0;conv=>whnf
 refine df [eW] 0 eW n aA (aB ?_);exact aj.pure .int
def iC:Cn prog:= .lE aK (aq .i64) 123 true (λ_=>True) (λq=>q.1.sign) (cM _) (λq _=>Yu q.1 q.2) (au rfl rfl)
theorem Yv (n:Int) (h1:-9223372036854775808<=n) (h2:n<9223372036854775808):dA 47 (.cons ((aq .i64).v n) .nil) (aK.v (n,0)):=by
 refine PF.of_wp (c:=_) af (by decide) (fn:=f47) rfl rfl rfl (.cons .int .nil) (call:=aE [iL]) (λB0=>ay ae [iL] B0) ?_;intro B0;conv=>whnf
 refine df [iL] 0 iL n ⟨h1,h2⟩ (ew ?_);exact aj.agg (.cons (aj.pure .bool) (.cons (aj.pure (aM.ak _)) (.cons (aj.pure .bool) (.cons aj.bA .nil))))
def jQ:Cn prog:= .lE (aq .i64) aK 47 false (λn=> -9223372036854775808<=n/\n<9223372036854775808) (λn=>(n,0)) (λe=>by cases e) (λn h=>Yv n h.1 h.2) (au rfl rfl)
def tV:List (Cn prog):=[eW,sW,mI,zF,gy,iV]
def ft (n d:Int):Q:=if d<0 then(sy (-n) (Nat.gcd n.natAbs d.natAbs:Nat),sy (-d) (Nat.gcd n.natAbs d.natAbs:Nat))else(sy n (Nat.gcd n.natAbs d.natAbs:Nat),sy d (Nat.gcd n.natAbs d.natAbs:Nat))
def qb (n d:Int):Prop:=SZ n/\SZ d/\d≠0
theorem xW (n:Int):sy n 1=n:=by
 unfold sy;rw [if_neg (by decide)];exact Int.fdiv_one n
theorem Ea {n:Int} (h:SZ n):SZ (-n):=by unfold SZ at h ⊢;rw [Int.natAbs_neg];exact h
theorem PX (n d:Int) (h:qb n d):dA 82 (.cons (aX.v n) (.cons (aX.v d) .nil)) (aK.v (ft n d)):=by
 obtain⟨hn,hd,h0⟩:=h;refine PF.of_wp (c:=_) af (by decide) (fn:=f82) rfl rfl rfl (.cons (aX.ak _) (.cons (aX.ak _) .nil)) (call:=aE tV) (λB0=>ay ae tV B0) ?_;intro B0;have hgl:Nat.gcd n.natAbs d.natAbs<=d.natAbs:=Nat.gcd_le_right _ (by omega);have hg0:0<Nat.gcd n.natAbs d.natAbs:=Nat.gcd_pos_of_pos_right _ (by omega);unfold ft;generalize hgg:Nat.gcd n.natAbs d.natAbs=g at*;have hgs:SZ (g:Int):=by
  unfold SZ at hd ⊢;rw [show(g:Int).natAbs=g from rfl];exact Nat.lt_of_le_of_lt (pJ hgl) hd
 conv=>whnf
 refine df tV 0 eW d aA (ew ?_);refine an (λh=>?_) (λh=>?_)
 .have cJ:d<0:=by
   have h:=aQ.1 h;exact Int.sign_neg_iff.1 h
  have hg:xj (-n) (-d):=⟨Ea hn,Ea hd⟩
  have PN:zD (-n) (g:Int):=⟨Ea hn,hgs⟩
  have QO:zD (-d) (g:Int):=⟨Ea hd,hgs⟩
  have Eb:Nat.gcd (-n).natAbs (-d).natAbs=g:=by rw [Int.natAbs_neg,Int.natAbs_neg];exact hgg
  rw [if_pos cJ,<-Eb];conv=>whnf
  refine df tV 1 sW n aA (ew ?_);refine df tV 1 sW d aA (ew ?_);refine df tV 2 mI (-n,-d) hg (ew ?_);refine df tV 3 zF () aA (ew ?_);refine df tV 4 gy (((Nat.gcd (-n).natAbs (-d).natAbs:Nat):Int),(1:Int)) (by show SZ ((Nat.gcd (-n).natAbs (-d).natAbs:Nat):Int)/\SZ 1;rw [Eb];exact⟨hgs,zE⟩) (ew ?_);refine an (λh1=>?_) (λh1=>?_)
  .conv=>whnf
   refine df tV 5 iV (-n,((Nat.gcd (-n).natAbs (-d).natAbs:Nat):Int)) (by show zD (-n) ((Nat.gcd (-n).natAbs (-d).natAbs:Nat):Int);rw [Eb];exact PN) (ew ?_);refine df tV 5 iV (-d,((Nat.gcd (-n).natAbs (-d).natAbs:Nat):Int)) (by show zD (-d) ((Nat.gcd (-n).natAbs (-d).natAbs:Nat):Int);rw [Eb];exact QO) (ew ?_);exact aj.same rfl (aK.ak _)
  .have hg1:((Nat.gcd (-n).natAbs (-d).natAbs:Nat):Int)=1:=by
    have h1:kD ((Nat.gcd (-n).natAbs (-d).natAbs:Nat):Int) 1=0:=zk.1 h1;unfold kD at h1;split at h1
    .omega
    .split at h1<;>omega
   rw [hg1,xW,xW];refine ew ?_;exact aj.same rfl (aK.ak _)
 .have WQ:¬d<0:=λcJ=>by
   have h:=bf.1 h;have:=Int.sign_neg_iff.2 cJ;omega
  have Eb:Nat.gcd n.natAbs d.natAbs=g:=hgg;have hg:xj n d:=⟨hn,hd⟩
  have PN:zD n (g:Int):=⟨hn,hgs⟩
  have QO:zD d (g:Int):=⟨hd,hgs⟩
  rw [if_neg WQ,<-Eb];conv=>whnf
  refine df tV 2 mI (n,d) hg (ew ?_);refine df tV 3 zF () aA (ew ?_);refine df tV 4 gy (((Nat.gcd n.natAbs d.natAbs:Nat):Int),(1:Int)) (by show SZ ((Nat.gcd n.natAbs d.natAbs:Nat):Int)/\SZ 1;rw [Eb];exact⟨hgs,zE⟩) (ew ?_);refine an (λh1=>?_) (λh1=>?_)
  .conv=>whnf
   refine df tV 5 iV (n,((Nat.gcd n.natAbs d.natAbs:Nat):Int)) (by show zD (n) ((Nat.gcd n.natAbs d.natAbs:Nat):Int);rw [Eb];exact PN) (ew ?_);refine df tV 5 iV (d,((Nat.gcd n.natAbs d.natAbs:Nat):Int)) (by show zD (d) ((Nat.gcd n.natAbs d.natAbs:Nat):Int);rw [Eb];exact QO) (ew ?_);exact aj.same rfl (aK.ak _)
  .have hg1:((Nat.gcd n.natAbs d.natAbs:Nat):Int)=1:=by
    have h1:kD ((Nat.gcd n.natAbs d.natAbs:Nat):Int) 1=0:=zk.1 h1;unfold kD at h1;split at h1
    .omega
    .split at h1<;>omega
   rw [hg1,xW,xW];refine ew ?_;exact aj.same rfl (aK.ak _)
def fE:Cn prog:= .kz aX aX aK 82 false qb ft (λe=>by cases e) PX (au rfl rfl)
theorem SH.sz {z:Int} (h:SH z):SZ z:=by unfold SH at h;unfold SZ;omega
theorem Cf {n d:Int} (h:SH d):SH (Q.dn (n,d)):=by
 unfold Q.dn;split
 .unfold SH;decide
 .exact h
theorem ac8 (a b:Nat):nd (a*b)<=nd a+nd b:=by
 apply vn;rw [Nat.pow_add];exact Nat.mul_lt_mul'' (dG a) (dG b)
theorem rf {a b:Int} (ha:SH a) (hb:SH b):SZ (a*b):=by
 unfold SH at ha hb;unfold SZ;rw [Int.natAbs_mul];have:=ac8 a.natAbs b.natAbs;omega
def Q.neg (p:Q):Q:=(-p.1,p.2)
theorem ac9 (n d:Int):dA 225 (.cons (aK.v (n,d)) .nil) (aK.v (Q.neg (n,d))):=by
 refine PF.of_wp (c:=_) af (by decide) (fn:=f225) rfl rfl rfl (.cons (aK.ak _) .nil) (call:=aE [sW]) (λB0=>ay ae [sW] B0) ?_;intro B0;conv=>whnf
 refine df [sW] 0 sW n aA (ew ?_);exact aj.same rfl (aK.ak _)
def Ka:Cn prog:= .lE aK aK 225 false (λ_=>True) Q.neg (λe=>by cases e) (λq _=>ac9 q.1 q.2) (au rfl rfl)
def OK2 (R:Q ->Q ->Prop) (p q:Q):Prop:=SH p.1/\SH p.2/\SH q.1/\SH q.2/\R p q
def tW:List (Cn prog):=[jf,gy,dU,fP]
def Q.cmp (p q:Q):Int:=if (Q.whole p &&Q.whole q)=true then kD p.1 q.1 else kD (p.1*Q.dn q) (q.1*Q.dn p)
def de:Q ->Q ->Prop:=OK2 λ_ _=>True
theorem Kb (p q:Q) (h:de p q):dA 104 (.cons (aK.v p) (.cons (aK.v q) .nil)) ((aq .i64).v (Q.cmp p q)):=by
 obtain⟨n,d⟩:=p;obtain⟨m,e⟩:=q;obtain⟨hn,hd,hm,he,hr⟩:=h;have Ie:SH (Q.dn (n,d)):=Cf hd;have BV:SH (Q.dn (m,e)):=Cf he;refine PF.of_wp (c:=_) af (by decide) (fn:=f104) rfl rfl rfl (.cons (aK.ak _) (.cons (aK.ak _) .nil)) (call:=aE tW) (λB0=>ay ae tW B0) ?_;intro B0;conv=>whnf
 refine df tW 0 jf (n,d) (SH.sz hd) (ew ?_);refine an (λh1=>?_) (λh1=>?_)
 .have h1:Q.whole (n,d)=true:=h1;conv=>whnf
  refine df tW 0 jf (m,e) (SH.sz he) (ew ?_);refine an (λh2=>?_) (λh2=>?_)
  .have h2:Q.whole (m,e)=true:=h2;rw [show Q.cmp (n,d) (m,e)=_ from if_pos (by rw [h1,h2];rfl)];refine ew ?_;refine df tW 1 gy (n,m) ⟨SH.sz hn,SH.sz hm⟩ (ew ?_);exact aj.pure .int
  .have h2:Q.whole (m,e)=false:=h2;have hw:(Q.whole (n,d) &&Q.whole (m,e))=false:=(by rw [h2,Bool.and_false]);rw [show Q.cmp (n,d) (m,e)=_ from if_neg (by rw [hw];decide)];refine ew ?_;refine df tW 2 dU (m,e) aA (ew ?_);refine df tW 3 fP (n,Q.dn (m,e)) ⟨hn,BV⟩ (ew ?_);refine df tW 2 dU (n,d) aA (ew ?_);refine df tW 3 fP (m,Q.dn (n,d)) ⟨hm,Ie⟩ (ew ?_);refine df tW 1 gy (n*Q.dn (m,e),m*Q.dn (n,d)) ⟨rf hn BV,rf hm Ie⟩ (ew ?_);exact aj.pure .int
 .have h1:Q.whole (n,d)=false:=h1;have hw:(Q.whole (n,d) &&Q.whole (m,e))=false:=by rw [h1,Bool.false_and]
  rw [show Q.cmp (n,d) (m,e)=_ from if_neg (by rw [hw];decide)];refine ew ?_;refine df tW 2 dU (m,e) aA (ew ?_);refine df tW 3 fP (n,Q.dn (m,e)) ⟨hn,BV⟩ (ew ?_);refine df tW 2 dU (n,d) aA (ew ?_);refine df tW 3 fP (m,Q.dn (n,d)) ⟨hm,Ie⟩ (ew ?_);refine df tW 1 gy (n*Q.dn (m,e),m*Q.dn (n,d)) ⟨rf hn BV,rf hm Ie⟩ (ew ?_);exact aj.pure .int
def cn:Cn prog:= .kz aK aK (aq .i64) 104 true de Q.cmp (cM _) Kb (au rfl rfl)
def ij:List (Cn prog):=[jf,sX,dU,fP,fE]
def Q.add (p q:Q):Q:=if (Q.whole p &&Q.whole q)=true then(p.1+q.1,0)else ft (p.1*Q.dn q+q.1*Q.dn p) (Q.dn p*Q.dn q)
def nD:Q ->Q ->Prop:=OK2 λp q=>(Q.whole p &&Q.whole q)=false ->qb (p.1*Q.dn q+q.1*Q.dn p) (Q.dn p*Q.dn q)
theorem To (p q:Q) (h:nD p q):dA 98 (.cons (aK.v p) (.cons (aK.v q) .nil)) (aK.v (Q.add p q)):=by
 obtain⟨n,d⟩:=p;obtain⟨m,e⟩:=q;obtain⟨hn,hd,hm,he,hr⟩:=h;have Ie:SH (Q.dn (n,d)):=Cf hd;have BV:SH (Q.dn (m,e)):=Cf he;refine PF.of_wp (c:=_) af (by decide) (fn:=f98) rfl rfl rfl (.cons (aK.ak _) (.cons (aK.ak _) .nil)) (call:=aE ij) (λB0=>ay ae ij B0) ?_;intro B0;conv=>whnf
 refine df ij 0 jf (n,d) (SH.sz hd) (ew ?_);refine an (λh1=>?_) (λh1=>?_)
 .have h1:Q.whole (n,d)=true:=h1;conv=>whnf
  refine df ij 0 jf (m,e) (SH.sz he) (ew ?_);refine an (λh2=>?_) (λh2=>?_)
  .have h2:Q.whole (m,e)=true:=h2;rw [show Q.add (n,d) (m,e)=_ from if_pos (by rw [h1,h2];rfl)];refine ew ?_;refine df ij 1 sX (n,m) ⟨SH.sz hn,SH.sz hm⟩ (ew ?_);exact aj.agg (.cons (aj.pure .bool) (.cons (aj.pure (aM.ak _)) (.cons (aj.pure .bool) (.cons aj.bA .nil))))
  .have h2:Q.whole (m,e)=false:=h2;have hw:(Q.whole (n,d) &&Q.whole (m,e))=false:=(by rw [h2,Bool.and_false]);rw [show Q.add (n,d) (m,e)=_ from if_neg (by rw [hw];decide)];refine ew ?_;refine df ij 2 dU (m,e) aA (ew ?_);refine df ij 3 fP (n,Q.dn (m,e)) ⟨hn,BV⟩ (ew ?_);refine df ij 2 dU (n,d) aA (ew ?_);refine df ij 3 fP (m,Q.dn (n,d)) ⟨hm,Ie⟩ (ew ?_);refine df ij 1 sX (n*Q.dn (m,e),m*Q.dn (n,d)) ⟨rf hn BV,rf hm Ie⟩ (ew ?_);refine df ij 2 dU (n,d) aA (ew ?_);refine df ij 2 dU (m,e) aA (ew ?_);refine df ij 3 fP (Q.dn (n,d),Q.dn (m,e)) ⟨Ie,BV⟩ (ew ?_);refine df ij 4 fE (n*Q.dn (m,e)+m*Q.dn (n,d),Q.dn (n,d)*Q.dn (m,e)) (hr hw) (ew ?_);exact aj.same rfl (aK.ak _)
 .have h1:Q.whole (n,d)=false:=h1;have hw:(Q.whole (n,d) &&Q.whole (m,e))=false:=by rw [h1,Bool.false_and]
  rw [show Q.add (n,d) (m,e)=_ from if_neg (by rw [hw];decide)];refine ew ?_;refine df ij 2 dU (m,e) aA (ew ?_);refine df ij 3 fP (n,Q.dn (m,e)) ⟨hn,BV⟩ (ew ?_);refine df ij 2 dU (n,d) aA (ew ?_);refine df ij 3 fP (m,Q.dn (n,d)) ⟨hm,Ie⟩ (ew ?_);refine df ij 1 sX (n*Q.dn (m,e),m*Q.dn (n,d)) ⟨rf hn BV,rf hm Ie⟩ (ew ?_);refine df ij 2 dU (n,d) aA (ew ?_);refine df ij 2 dU (m,e) aA (ew ?_);refine df ij 3 fP (Q.dn (n,d),Q.dn (m,e)) ⟨Ie,BV⟩ (ew ?_);refine df ij 4 fE (n*Q.dn (m,e)+m*Q.dn (n,d),Q.dn (n,d)*Q.dn (m,e)) (hr hw) (ew ?_);exact aj.same rfl (aK.ak _)
def pM:Cn prog:= .kz aK aK aK 98 false nD Q.add (λe=>by cases e) To (au rfl rfl)
def mJ:List (Cn prog):=[jf,dU,fP,fE]
def Q.mul (p q:Q):Q:=if (Q.whole p &&Q.whole q)=true then(p.1*q.1,0)else ft (p.1*q.1) (Q.dn p*Q.dn q)
def oN:Q ->Q ->Prop:=OK2 λp q=>(Q.whole p &&Q.whole q)=false ->qb (p.1*q.1) (Q.dn p*Q.dn q)
theorem Tp (p q:Q) (h:oN p q):dA 85 (.cons (aK.v p) (.cons (aK.v q) .nil)) (aK.v (Q.mul p q)):=by
 obtain⟨n,d⟩:=p;obtain⟨m,e⟩:=q;obtain⟨hn,hd,hm,he,hr⟩:=h;have Ie:SH (Q.dn (n,d)):=Cf hd;have BV:SH (Q.dn (m,e)):=Cf he;refine PF.of_wp (c:=_) af (by decide) (fn:=f85) rfl rfl rfl (.cons (aK.ak _) (.cons (aK.ak _) .nil)) (call:=aE mJ) (λB0=>ay ae mJ B0) ?_;intro B0;conv=>whnf
 refine df mJ 0 jf (n,d) (SH.sz hd) (ew ?_);refine an (λh1=>?_) (λh1=>?_)
 .have h1:Q.whole (n,d)=true:=h1;conv=>whnf
  refine df mJ 0 jf (m,e) (SH.sz he) (ew ?_);refine an (λh2=>?_) (λh2=>?_)
  .have h2:Q.whole (m,e)=true:=h2;rw [show Q.mul (n,d) (m,e)=_ from if_pos (by rw [h1,h2];rfl)];refine ew ?_;refine df mJ 2 fP (n,m) ⟨hn,hm⟩ (ew ?_);exact aj.agg (.cons (aj.pure .bool) (.cons (aj.pure (aM.ak _)) (.cons (aj.pure .bool) (.cons aj.bA .nil))))
  .have h2:Q.whole (m,e)=false:=h2;have hw:(Q.whole (n,d) &&Q.whole (m,e))=false:=(by rw [h2,Bool.and_false]);rw [show Q.mul (n,d) (m,e)=_ from if_neg (by rw [hw];decide)];refine ew ?_;refine df mJ 2 fP (n,m) ⟨hn,hm⟩ (ew ?_);refine df mJ 1 dU (n,d) aA (ew ?_);refine df mJ 1 dU (m,e) aA (ew ?_);refine df mJ 2 fP (Q.dn (n,d),Q.dn (m,e)) ⟨Ie,BV⟩ (ew ?_);refine df mJ 3 fE (n*m,Q.dn (n,d)*Q.dn (m,e)) (hr hw) (ew ?_);exact aj.same rfl (aK.ak _)
 .have h1:Q.whole (n,d)=false:=h1;have hw:(Q.whole (n,d) &&Q.whole (m,e))=false:=by rw [h1,Bool.false_and]
  rw [show Q.mul (n,d) (m,e)=_ from if_neg (by rw [hw];decide)];refine ew ?_;refine df mJ 2 fP (n,m) ⟨hn,hm⟩ (ew ?_);refine df mJ 1 dU (n,d) aA (ew ?_);refine df mJ 1 dU (m,e) aA (ew ?_);refine df mJ 2 fP (Q.dn (n,d),Q.dn (m,e)) ⟨Ie,BV⟩ (ew ?_);refine df mJ 3 fE (n*m,Q.dn (n,d)*Q.dn (m,e)) (hr hw) (ew ?_);exact aj.same rfl (aK.ak _)
def od:Cn prog:= .kz aK aK aK 85 false oN Q.mul (λe=>by cases e) Tp (au rfl rfl)
abbrev Q3:=Q×Q×Q
def aN:bX Q3:=aK.pair (aK.pair aK)
theorem ada (g:FuncId) (op:Q ->Q ->Q) (ok:Q ->Q ->Prop) (pf:∀p q,ok p q ->dA g (.cons (aK.v p) (.cons (aK.v q) .nil)) (aK.v (op p q))) (bd:∃fn,prog.funcs[g]?=some fn/\fn.body.isSome=true)
  (a b:Q3) (h0:ok a.1 b.1) (h1:ok a.2.1 b.2.1) (h2:ok a.2.2 b.2.2):
  dA 83 (.cons (aN.v a) (.cons (aN.v b) (.cons (.func (.func g) .nil .nil) .nil))) (aN.v (op a.1 b.1,op a.2.1 b.2.1,op a.2.2 b.2.2)):=by
 obtain⟨⟨x0,y0⟩,⟨x1,y1⟩,⟨x2,y2⟩⟩:=a;obtain⟨⟨u0,v0⟩,⟨u1,v1⟩,⟨u2,v2⟩⟩:=b;refine PF.of_wp (c:=_) af (by decide) (fn:=f83) rfl rfl rfl (.cons (aN.ak _) (.cons (aN.ak _) (.cons .fn .nil))) (call:=aE [Cn.kz aK aK aK g false ok op (λe=>by cases e) pf bd]) (λB0=>ay ae _ B0) ?_;intro B0;conv=>whnf
 refine Cw.bL af rfl rfl (ay ae _ B0) 4 (aB ?_);refine bI (l:=[Cn.kz aK aK aK g false ok op (λe=>by cases e) pf bd]) (List.nodup_cons.2 ⟨List.not_mem_nil,List.nodup_nil⟩) 0 (c:=Cn.kz aK aK aK g false ok op (λe=>by cases e) pf bd) rfl ((x0,y0),(u0,v0)) h0 ?_ ?_ ?_
 .exact pc
 .rfl
 refine ew ?_;refine bI (l:=[Cn.kz aK aK aK g false ok op (λe=>by cases e) pf bd]) (List.nodup_cons.2 ⟨List.not_mem_nil,List.nodup_nil⟩) 0 (c:=Cn.kz aK aK aK g false ok op (λe=>by cases e) pf bd) rfl ((x1,y1),(u1,v1)) h1 ?_ ?_ ?_
 .exact pc
 .rfl
 refine ew ?_;refine bI (l:=[Cn.kz aK aK aK g false ok op (λe=>by cases e) pf bd]) (List.nodup_cons.2 ⟨List.not_mem_nil,List.nodup_nil⟩) 0 (c:=Cn.kz aK aK aK g false ok op (λe=>by cases e) pf bd) rfl ((x2,y2),(u2,v2)) h2 ?_ ?_ ?_
 .exact pc
 .rfl
 refine ew ?_;exact aj.same rfl (aN.ak (op (x0,y0) (u0,v0),op (x1,y1) (u1,v1),op (x2,y2) (u2,v2)))
def Kc (g:FuncId) (op:Q ->Q ->Q) (ok:Q ->Q ->Prop) (pf:∀p q,ok p q ->dA g (.cons (aK.v p) (.cons (aK.v q) .nil)) (aK.v (op p q))) (bd:∃fn,prog.funcs[g]?=some fn/\fn.body.isSome=true):Cn prog:=
 Cn.mk 83 false (Q3×Q3) (λp=> .cons (aN.v p.1) (.cons (aN.v p.2) (.cons (.func (.func g) .nil .nil) .nil))) (λp=>aN.v (op p.1.1 p.2.1,op p.1.2.1 p.2.2.1,op p.1.2.2 p.2.2.2))
  (λp=>ok p.1.1 p.2.1/\ok p.1.2.1 p.2.2.1/\ok p.1.2.2 p.2.2.2)
  (λa b _ _ h=>by
   injection h with h1 h2;injection h2 with h2 _;rw [aN.aZ h1,aN.aZ h2])
  (λa=>⟨aN.eK _,aN.eK _,⟨aA,aA⟩,aA⟩) (λa=>aN.ak _) (λh=>by cases h) (λp h=>ada g op ok pf bd p.1 p.2 h.1 h.2.1 h.2.2) (au rfl rfl)
def jS (op:Q ->Q ->Q) (a b:Q3):Q3:=(op a.1 b.1,op a.2.1 b.2.1,op a.2.2 b.2.2)
def ri (ok:Q ->Q ->Prop) (a b:Q3):Prop:=ok a.1 b.1/\ok a.2.1 b.2.1/\ok a.2.2 b.2.2
def tVC:List (Cn prog):=[cn]
def dH (a b:Q3):Int:=match bG (Q.cmp a.1 b.1) 0 with|false=>Q.cmp a.1 b.1|true=>(match bG (Q.cmp a.2.1 b.2.1) 0 with|false=>Q.cmp a.2.1 b.2.1|true=>Q.cmp a.2.2 b.2.2)
theorem Kd {b:Bool} (h:aU b=true):b=false:=by cases b<;>first|rfl|cases h
theorem Ke {b:Bool} (h:aU b=false):b=true:=by cases b<;>first|rfl|cases h
theorem Kf (a b:Q3) (h:ri de a b):dA 75 (.cons (aN.v a) (.cons (aN.v b) .nil)) ((aq .i64).v (dH a b)):=by
 obtain⟨⟨x0,y0⟩,⟨x1,y1⟩,⟨x2,y2⟩⟩:=a;obtain⟨⟨u0,v0⟩,⟨u1,v1⟩,⟨u2,v2⟩⟩:=b;obtain⟨h0,h1,h2⟩:=h;refine PF.of_wp (c:=_) af (by decide) (fn:=f75) rfl rfl rfl (.cons (aN.ak _) (.cons (aN.ak _) .nil)) (call:=aE tVC) (λB0=>ay ae _ B0) ?_;intro B0;conv=>whnf
 refine Cw.bL af rfl rfl (ay ae _ B0) 4 (aB ?_);refine df tVC 0 cn ((x0,y0),(u0,v0)) h0 (ew ?_);refine an (λhq=>?_) (λhq=>?_)
 .have e0:bG (Q.cmp (x0,y0) (u0,v0)) 0=false:=Kd hq;have ev:dH ((x0,y0),(x1,y1),(x2,y2)) ((u0,v0),(u1,v1),(u2,v2))=Q.cmp (x0,y0) (u0,v0):=by simp only [dH,e0]
  rw [ev];conv=>whnf
  exact aj.same rfl cL.int
 have e0:bG (Q.cmp (x0,y0) (u0,v0)) 0=true:=Ke hq;conv=>whnf
 refine df tVC 0 cn ((x1,y1),(u1,v1)) h1 (ew ?_);refine an (λhq=>?_) (λhq=>?_)
 .have e1:bG (Q.cmp (x1,y1) (u1,v1)) 0=false:=Kd hq;have ev:dH ((x0,y0),(x1,y1),(x2,y2)) ((u0,v0),(u1,v1),(u2,v2))=Q.cmp (x1,y1) (u1,v1):=by simp only [dH,e0,e1]
  rw [ev];conv=>whnf
  exact aj.same rfl cL.int
 have e1:bG (Q.cmp (x1,y1) (u1,v1)) 0=true:=Ke hq;conv=>whnf
 refine df tVC 0 cn ((x2,y2),(u2,v2)) h2 (ew ?_);refine an (λhq=>?_) (λhq=>?_)
 .have e2:bG (Q.cmp (x2,y2) (u2,v2)) 0=false:=Kd hq;have ev:dH ((x0,y0),(x1,y1),(x2,y2)) ((u0,v0),(u1,v1),(u2,v2))=Q.cmp (x2,y2) (u2,v2):=by simp only [dH,e0,e1]
  rw [ev];conv=>whnf
  exact aj.same rfl cL.int
 have e2:bG (Q.cmp (x2,y2) (u2,v2)) 0=true:=Ke hq;conv=>whnf
 have ev:dH ((x0,y0),(x1,y1),(x2,y2)) ((u0,v0),(u1,v1),(u2,v2))=0:=by simp only [dH,e0,e1];exact bw.1 e2
 rw [ev];exact aj.same rfl cL.int
end
end
end Go.Sy
