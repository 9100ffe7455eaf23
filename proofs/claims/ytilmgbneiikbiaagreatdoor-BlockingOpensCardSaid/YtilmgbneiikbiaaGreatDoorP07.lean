/- A piece of the proof, made small by a program of ours. -/
import Derived.Test.YtilmgbneiikbiaaGreatDoorP06
set_option linter.all false
set_option maxRecDepth 1000000
set_option maxHeartbeats 0
namespace Go.Sy
noncomputable section
open Go.RowKit Go.Proofs Go.Proofs.Tryz
section
attribute [local irreducible] Cw ak bq PF Sub
attribute [local instance] fp
theorem Km {m d i r x q:Nat} (hd:0<d) (hr:r=m/4294967296 ^ (i+1) % d) (hx:x=m/4294967296 ^ i % 4294967296) (hq:q=m/4294967296 ^ (i+1)/d):
  (r*4294967296+x)/d+4294967296*q=m/4294967296 ^ i/d/\(r*4294967296+x) % d=m/4294967296 ^ i % d/\(d<4294967296 ->(r*4294967296+x)/d<4294967296):=by
 have h1:m/4294967296 ^ i=m/4294967296 ^ (i+1)*4294967296+x:=by
  rw [hx,Nat.pow_succ,<-Nat.div_div_eq_div_mul];omega
 have h2:m/4294967296 ^ (i+1)=d*q+r:=by rw [hq,hr];exact(Nat.div_add_mod _ _).symm
 have h3:m/4294967296 ^ i=(r*4294967296+x)+d*(4294967296*q):=by
  rw [h1,h2,Nat.add_mul,Nat.mul_assoc,Nat.mul_comm q];omega
 refine⟨?_,?_,λcR=>?_⟩
 .rw [h3,Nat.add_mul_div_left _ _ hd]
 .rw [h3,Nat.add_mul_mod_self_left]
 .rw [Nat.div_lt_iff_lt_mul hd];have hr':r<d:=by rw [hr];exact Nat.mod_lt _ hd
  have Mg:x<4294967296:=by rw [hx];exact Nat.mod_lt _ (by decide)
  have:(r+1)*4294967296<=d*4294967296:=Nat.mul_le_mul_right _ hr';omega
theorem BX {n:Nat} {q:List Int} {x:Int}:(List.replicate (n+1) (0:Int)++q).set n x=List.replicate n 0++(x::q):=by
 rw [List.replicate_succ',List.append_assoc,List.set_append_right _ _ (by simp)];simp
theorem Mz {r x:Nat} (hx:x<4294967296):Nat.lor (r*4294967296) x=r*4294967296+x:=by
 have:=Nat.two_pow_add_eq_or_of_lt (i:=32) (b:=x) hx r;rw [Nat.mul_comm r];exact this.symm
theorem Ys (m d:Nat) (hm:nd m<134217728) (hd:0<d) (hdw:d<4294967296):dQ 160 (.cons (aM.v m) (.cons ((au .u32).v d) .nil)) (.aS (.cons (aM.v (m/d)) (.cons ((au .u32).v ((m % d:Nat):Int)) .nil))):=by
 refine PF.of_wp (c:=_) af (by decide) (fn:=f160) rfl rfl rfl ?_ (call:=aH [eW]) (λB0=>az ae [eW] B0) ?_
 .exact .cons (aM.an _) (.cons .int .nil)
 .intro B0;have lm:=bj m;conv=>whnf
  have e0:Int.ofNat (dg m).length=((nd m:Nat):Int):=congrArg Int.ofNat lm;refine(au .u32).mk' (x:=0) (nd m) (nd m) e0 e0 (Nat.le_refl _) (by show nd m*(4+1)<=_;omega) ?_;conv=>whnf
  refine Cw.loop (ι:=Nat×List Int×Nat)
   (λq=>bl [(0,aM.v m),(1,.int .u32 d),(6,.gs (pathOf 64) (nd m) 1),(7,.int .u64 q.2.2),(8,.int .i64 ((q.1:Int) - 1))]) (λ_=>[])
   (λq=>⟨bV [(pathOf 64,.gl ((au .u32).l (List.replicate q.1 0++q.2.1)) false)],pathOf 65⟩)
   (λq=>q.1<=nd m/\q.1+q.2.1.length=nd m/\DG q.2.1/\q.2.2=m/4294967296 ^ q.1 % d/\val q.2.1=m/4294967296 ^ q.1/d)
   (λq=>q.1) ?_ (nd m,[],0) ⟨Nat.le_refl _,rfl,.nil,?_,?_⟩ ?_
  .rintro ⟨j,q,r⟩ ⟨hj,hl,hq,hr,hv⟩;simp only at hj hl hq hr hv;refine aD af rfl rfl (az ae [eW] B0) _ (aC ?_);refine ay (λh=>?_) (λh=>?_)
   .have h:=cG.1 h;obtain⟨i,rfl⟩:∃i,j=i+1:=⟨j - 1,by omega⟩
    have hi:i<(dg m).length:=(by omega);have hx:=bI hi;have ei:(((i+1:Nat):Int) - 1)=(i:Int):=(by omega);have AU:r<d:=(by rw [hr];exact Nat.mod_lt _ hd);obtain⟨s1,s2,s3⟩:=Km hd hr rfl hv;have s3:=s3 hdw;have hxw:m/4294967296 ^ i % 4294967296<4294967296:=Nat.mod_lt _ (by decide);have esh:aj .u64 (Int.mul (r:Int) 4294967296)=((r*4294967296:Nat):Int):=aW (n:=(r:Int)*4294967296) (by omega) (by omega);have ex:aj .u64 (dg m)[i]=((m/4294967296 ^ i % 4294967296:Nat):Int):=(by rw [hx];exact aW (by omega) (by omega));have eor:Int.ofNat (Nat.lor (aj .u64 (Int.mul (r:Int) 4294967296)).toNat (aj .u64 (dg m)[i]).toNat)=((r*4294967296+m/4294967296 ^ i % 4294967296:Nat):Int):=by
     rw [esh,ex];exact congrArg Int.ofNat (Mz hxw)
    conv=>whnf
    refine⟨by decide,aC ?_⟩;refine aL.go i ei hi (aC ?_);refine⟨_,(au .u32).rd rfl hi,aC ?_⟩;refine⟨⟨?_,?_,?_,?_⟩,?_⟩
    .show(0:Int)<=aj .u64 (Int.mul (r:Int) 4294967296);rw [esh];omega
    .show fits .u64 (aj .u64 (Int.mul (r:Int) 4294967296))=true;rw [esh];exact cM.2 ⟨by show -(0:Int)<=_;omega,by show _<(18446744073709551616:Int);omega⟩
    .rw [ex];omega
    .rw [ex];exact cM.2 ⟨by show -(0:Int)<=_;omega,by show _<(18446744073709551616:Int);omega⟩
    have ed:aj .u64 (d:Int)=(d:Int):=aW (by omega) (by omega);have hRb:r*4294967296+m/4294967296 ^ i % 4294967296<18446744073709551616:=(by omega);generalize hR:r*4294967296+m/4294967296 ^ i % 4294967296=R at*;have hRq:R/d<=R:=Nat.div_le_self _ _;have hRr:R % d<d:=Nat.mod_lt _ hd;have eq0:Int.tdiv (Int.ofNat (Nat.lor (aj .u64 (Int.mul (r:Int) 4294967296)).toNat (aj .u64 (dg m)[i]).toNat)) (aj .u64 (d:Int))=((R/d:Nat):Int):=(by rw [eor,ed,<-Int.ofNat_tdiv]);have er:Int.tmod (Int.ofNat (Nat.lor (aj .u64 (Int.mul (r:Int) 4294967296)).toNat (aj .u64 (dg m)[i]).toNat)) (aj .u64 (d:Int))=((R % d:Nat):Int):=by
     rw [eor,ed,<-Int.ofNat_tmod]
    generalize R/d=Q at*;generalize R % d=T at*;have eq1:aj .u32 (aj .u64 (Int.tdiv (Int.ofNat (Nat.lor (aj .u64 (Int.mul (r:Int) 4294967296)).toNat (aj .u64 (dg m)[i]).toNat)) (aj .u64 (d:Int))))=(Q:Int):=by
     rw [eq0,aW (by omega) (by omega),gA (by omega) (by omega)]
    conv=>whnf
    refine⟨by rw [ed];omega,aC ?_⟩;refine aL.go i ei (by omega) (aC ?_);refine(au .u32).st (xs:=List.replicate (i+1) 0++q) (i:=i) _ (by simp;omega) ?_;conv=>whnf
    refine⟨by rw [ed];omega,aC ?_⟩;refine⟨(i,(Q:Int)::q,T),⟨by show i<=nd m;omega,by show i+(q.length+1)=nd m;omega,DG.cons.2 ⟨by omega,hq⟩,s2,?_⟩,by show i<i+1;omega,?_⟩
    .show(Q:Int).toNat+4294967296*val q=_;rw [<-s1];rfl
    .refine Sub.of (gU [64]) [] rfl rfl rfl ⟨⟨rfl,rfl⟩,rfl,⟨rfl,rfl⟩,er,?_,aB⟩ ⟨⟨?_,rfl,(au .u32).bm _⟩,aB⟩
     .show aj .i64 (((i+1:Nat):Int) - 1 - 1)=(i:Int) - 1;rw [aA (by omega) (by omega)];omega
     .show(au .u32).l ((List.replicate (i+1) 0++q).set i (aj .u32 (aj .u64 (Int.tdiv (Int.ofNat (Nat.lor (aj .u64 (Int.mul (r:Int) 4294967296)).toNat (aj .u64 (dg m)[i]).toNat)) (aj .u64 (d:Int))))))=(au .u32).l (List.replicate i 0++_);rw [eq1,BX]
   .have h:=kG.1 h;have hj0:j=0:=(by simp only at h;omega);subst hj0;have hv:val q=m/d:=(by simpa using hv);have hr:r=m % d:=(by simpa using hr);conv=>whnf
    refine bA (l:=[eW]) (by decide) 0 (c:=eW) rfl q ⟨hq,by omega⟩ ?_ ?_ ?_
    .exact⟨by show nd m*1=((au .u32).l q).len;rw [bW.ep];show nd m*1=q.length*1;omega,aB⟩
    .show AV.cons (.ro q.length _) .nil=AV.cons (.ro (nd m) _) .nil;rw [show q.length=nd m by omega];rfl
    refine kj ?_;rw [<-hv,<-hr];refine ak.same ?_ (.aS (.cons (aM.an _) (.cons .int .nil)));show AV.aS (.cons (aM.v (val q)) (.cons (.int .u32 (aj .u32 (r:Int))) .nil))=_;rw [gA (by omega) (by rw [hr];have:=Nat.mod_lt m hd;omega)];rfl
  .show 0=_;rw [Nat.div_eq_of_lt (dV m),Nat.zero_mod]
  .show 0=_;rw [Nat.div_eq_of_lt (dV m),Nat.zero_div]
  .refine Sub.of (gU [64]) [] rfl rfl rfl ⟨⟨rfl,rfl⟩,rfl,⟨rfl,rfl⟩,rfl,?_,aB⟩ ⟨⟨?_,rfl,(au .u32).bm _⟩,aB⟩
   .show aj .i64 (((dg m).length:Int) - 1)=_;rw [lm,aA (by omega) (by omega)]
   .simp
def vn:Cn prog:= .Gy aM (au .u32) aM (au .u32) 160 (λm d=>nd m<134217728/\0<d/\d<4294967296) (λm d=>m/d.toNat) (λm d=>((m % d.toNat:Nat):Int)) (λm d h=>by
 obtain⟨n,rfl⟩:=Int.eq_ofNat_of_zero_le (Int.le_of_lt h.2.1);exact Ys m n h.1 (by omega) (by omega)) (aw rfl rfl)
def bitLen (n:Nat):Nat:=match n with|0=>0|n=>n.log2+1
theorem bitLen_shift {n k:Nat} (h:2 ^ k<=n):bitLen n=k+bitLen (n/2 ^ k):=by
 have h0:n≠0:=by have:=Nat.two_pow_pos k;omega
 have h1:n/2 ^ k≠0:=by
  have:0<n/2 ^ k:=Nat.div_pos h (Nat.two_pow_pos k);omega
 have e:∀{m:Nat},m≠0 ->bitLen m=m.log2+1:=λ{m} hm=>by cases m with|zero=>exact absurd rfl hm|succ m=>rfl
 rw [e h0,e h1];have:n.log2=k+(n/2 ^ k).log2:=by
  have h2:k<=n.log2:=(Nat.le_log2 h0).2 h;apply Nat.le_antisymm
  .apply Nat.le_of_lt_succ;rw [Nat.log2_lt h0];have h3:n/2 ^ k<2 ^ ((n/2 ^ k).log2+1):=Nat.lt_log2_self;rw [Nat.div_lt_iff_lt_mul (Nat.two_pow_pos k),<-Nat.pow_add]at h3;exact Nat.lt_of_lt_of_le h3 (Nat.pow_le_pow_right (by decide) (by omega))
  .rw [Nat.le_log2 h0,Nat.pow_add];have h3:2 ^ (n/2 ^ k).log2<=n/2 ^ k:=Nat.log2_self_le h1;have h4:=Nat.mul_le_mul_left (2 ^ k) h3;exact Nat.le_trans h4 (Nat.mul_div_le _ _)
 omega
theorem bitLen_le {n k:Nat} (h:n<2 ^ k):bitLen n<=k:=by
 cases n with
 |zero=>exact Nat.zero_le _|succ n=>exact(Nat.log2_lt (by omega)).2 h
theorem xO {h:Heap} {T:List Nat} {x m:Nat} {a:Int} (k:Nat) (hx:x<256) (ea:a=(k:Int)) (e:m=k+bitLen x) (hk:k<=24) (hT:∀y<256,T.getD y 0=bitLen y):
  ak h (.int .i64 (aj .i64 (Int.add a (aj .i64 (Int.ofNat (T.getD x 0)))))) ((au .i64).v (m:Int)):=by
 rw [hT x hx,ea,e];have hb:bitLen x<=8:=bitLen_le (k:=8) hx;have e1:aj .i64 (Int.ofNat (bitLen x))=(bitLen x:Int):=aA (n:=(bitLen x:Int)) (by omega) (by omega);have e2:aj .i64 (Int.add (k:Int) (aj .i64 (Int.ofNat (bitLen x))))=((k+bitLen x:Nat):Int):=by
  rw [e1];show aj .i64 ((k:Int)+(bitLen x:Int))=_;rw [aA (by omega) (by omega)];omega
 rw [e2];exact ak.pure .int
theorem Ea {m:Nat} (h:m<256):aj .u8 ((m:Nat):Int)=(m:Int):=ve (k:= .u8) (by show -(0:Int)<=_;omega) (by show _<(256:Int);omega)
theorem Yt (n:Nat) (h:n<4294967296):dQ 229 (.cons ((au .u32).v n) .nil) ((au .i64).v (bitLen n:Nat)):=by
 refine PF.of_wp (c:=_) af (by decide) (fn:=f229) rfl rfl rfl (.cons .int .nil) (call:=aH []) (λB0=>az ae [] B0) ?_;intro B0;conv=>whnf
 refine ay (λh1=>?_) (λh1=>?_)
 .have h1:65536<=n:=by have:=cG.1 h1;omega
  have e1:=bitLen_shift (n:=n) (k:=16) h1;conv=>whnf
  refine⟨⟨Int.natCast_nonneg _,by decide⟩,aC ?_⟩;refine ay (λh2=>?_) (λh2=>?_)
  .have h2:256<=n/65536:=Int.ofNat_le.1 (cG.1 h2);have e2:=bitLen_shift (n:=n/65536) (k:=8) h2;conv=>whnf
   refine⟨⟨Int.natCast_nonneg _,by decide⟩,aC ?_⟩;refine aL.go (n/65536/256) (Ea (m:=n/65536/256) (by omega)) (by show n/65536/256<256;omega) (aC ?_);exact xO 24 (by omega) rfl (by rw [e1];show 16+bitLen (n/65536)=_;rw [e2];show 16+(8+bitLen (n/65536/256))=_;omega) (by omega) (by decide+kernel)
  .have h2:n/65536<256:=Int.ofNat_lt.1 (kG.1 h2);conv=>whnf
   refine aL.go (n/65536) (Ea h2) h2 (aC ?_);exact xO 16 h2 rfl e1 (by omega) (by decide+kernel)
 .have h1:n<65536:=by have:=kG.1 h1;omega
  conv=>whnf
  refine ay (λh2=>?_) (λh2=>?_)
  .have h2:256<=n:=(by have:=cG.1 h2;omega);have e2:=bitLen_shift (n:=n) (k:=8) h2;conv=>whnf
   refine⟨⟨Int.natCast_nonneg _,by decide⟩,aC ?_⟩;refine aL.go (n/256) (Ea (m:=n/256) (by omega)) (by show n/256<256;omega) (aC ?_);exact xO 8 (by omega) rfl e2 (by omega) (by decide+kernel)
  .have h2:n<256:=(by have:=kG.1 h2;omega);conv=>whnf
   refine aL.go n (Ea h2) h2 (aC ?_);exact xO 0 h2 rfl (by omega) (by omega) (by decide+kernel)
def MB:Cn prog:= .mU (au .u32) (au .i64) 229 true (λn=>0<=n/\n<4294967296) (λn=>(bitLen n.toNat:Nat)) (de _) (λn h=>by
 obtain⟨m,rfl⟩:=Int.eq_ofNat_of_zero_le h.1;exact Yt m (by omega)) (aw rfl rfl)
def tLz:List (Cn prog):=[MB]
theorem aiD (n:Nat) (h:n<4294967296):dQ 203 (.cons ((au .u32).v n) .nil) ((au .i64).v ((32 - bitLen n:Nat):Int)):=by
 refine PF.of_wp (c:=_) af (by decide) (fn:=f203) rfl rfl rfl (.cons .int .nil) (call:=aH tLz) (λB0=>az ae tLz B0) ?_;intro B0;conv=>whnf
 refine cn (l:=tLz) (by decide) 0 (c:=MB) rfl (n:Int) ⟨Int.natCast_nonneg _,by omega⟩ (hk:=?_);conv=>whnf
 have hb:=bitLen_le (n:=n) (k:=32) h;have e:aj .i64 (Int.sub 32 (bitLen n:Int))=((32 - bitLen n:Nat):Int):=by
  show aj .i64 ((32:Int) - (bitLen n:Int))=_;rw [aA (by omega) (by omega)];omega
 refine ak.same ?_ .int;exact congrArg (AV.int .i64) e
def ac4:Cn prog:= .mU (au .u32) (au .i64) 203 true (λn=>0<=n/\n<4294967296) (λn=>((32 - bitLen n.toNat:Nat):Int)) (de _) (λn h=>by
 obtain⟨m,rfl⟩:=Int.eq_ofNat_of_zero_le h.1;exact aiD m (by omega)) (aw rfl rfl)
theorem MC {P:Program} {fn:Func} {v a:AV} {r:Tr AV} {h:Heap} (hr:pP P fn.results.toList r h=some (.cons a .nil)) (hs:ak h a v):Fin P fn v r [] h:=by
 show fLo (pP P fn.results.toList r h) (λl=>fV (yl l) λu=>ak h u v);rw [hr];show fV a λu=>ak h u v;rw [Sw];exact hs
theorem GM {P:Program} {fn:Func} {v:AV} {H:List (Pos×AO)} {N:Pos} {r:Tr AV} {h:Heap} (hr:pP P fn.results.toList r h=some (.cons v .nil)) (hn:Nat.ble h.n.toNat N.toNat=true) (hh:JY h H):fK P fn v H N r [] h:=by
 show fLo (pP P fn.results.toList r h) (λl=>yl l=v/\Nat.ble h.n.toNat N.toNat=true/\JY h H);rw [hr];exact⟨rfl,hn,hh⟩
def MD (m k:Nat):Heap:=⟨bV [(pathOf 64,.gl ((au .u32).l (fL (nd m+1) (m*2 ^ k))) false)],pathOf 65⟩
theorem Kn {m k i:Nat} (hi:i<nd m) (hk:k<32):
  ((fL (nd m+1) (m % 4294967296 ^ i*2 ^ k)).set i ((Nat.lor (m % 4294967296 ^ i*2 ^ k/4294967296 ^ i % 4294967296) (m/4294967296 ^ i % 4294967296*2 ^ k % 4294967296):Nat):Int)).set (i+1) ((m/4294967296 ^ i % 4294967296*2 ^ k/4294967296:Nat):Int)=fL (nd m+1) (m % 4294967296 ^ (i+1)*2 ^ k)/\
  Nat.lor (m % 4294967296 ^ i*2 ^ k/4294967296 ^ i % 4294967296) (m/4294967296 ^ i % 4294967296*2 ^ k % 4294967296)<4294967296:=by
 have hB:0<4294967296 ^ i:=Nat.pow_pos (by decide);have Xc:2 ^ k<=2147483648:=Nat.pow_le_pow_right (n:=2) (by decide) (show k<=31 by omega);have GF:0<2 ^ k:=Nat.two_pow_pos k;have hp:(4294967296:Nat) ^ (i+1)=4294967296 ^ i*4294967296:=Nat.pow_succ _ _;have hmi:m % 4294967296 ^ i<4294967296 ^ i:=Nat.mod_lt _ hB;have hms:m % 4294967296 ^ (i+1)=m % 4294967296 ^ i+4294967296 ^ i*(m/4294967296 ^ i % 4294967296):=by rw [hp,Nat.mod_mul]
 have aiE:m % 4294967296 ^ (i+1)<4294967296 ^ (i+1):=Nat.mod_lt _ (Nat.pow_pos (by decide));have hle:(4294967296:Nat) ^ (i+1+1)<=4294967296 ^ (nd m+1):=Nat.pow_le_pow_right (by decide) (by omega);have lq:(4294967296:Nat) ^ (i+1+1)=4294967296 ^ (i+1)*4294967296:=Nat.pow_succ _ _;have hd:m/4294967296 ^ i % 4294967296<4294967296:=Nat.mod_lt _ (by decide);generalize m/4294967296 ^ i % 4294967296=d at*;generalize m % 4294967296 ^ i=r at*;generalize m % 4294967296 ^ (i+1)=r' at*;have hV:r*2 ^ k<4294967296 ^ i*2 ^ k:=Nat.mul_lt_mul_of_pos_right hmi GF;have hV2:4294967296 ^ i*2 ^ k<=4294967296 ^ i*4294967296:=Nat.mul_le_mul_left _ (by omega);have hV':r'*2 ^ k<4294967296 ^ (i+1)*4294967296:=by
  have h1:r'*2 ^ k<=r'*4294967296:=Nat.mul_le_mul_left _ (by omega);have h2:r'*4294967296<4294967296 ^ (i+1)*4294967296:=Nat.mul_lt_mul_of_pos_right aiE (by decide);omega
 have hq:r*2 ^ k/4294967296 ^ i<2 ^ k:=(Nat.div_lt_iff_lt_mul hB).2 (by rw [Nat.mul_comm (2 ^ k)];exact hV);have hlo:d*2 ^ k % 4294967296=2 ^ k*(d % 2 ^ (32 - k)):=by
  rw [show(4294967296:Nat)=2 ^ k*2 ^ (32 - k) by rw [<-Nat.pow_add,show k+(32 - k)=32 by omega],Nat.mul_comm d,Nat.mul_mod_mul_left]
 have hor:Nat.lor (r*2 ^ k/4294967296 ^ i % 4294967296) (d*2 ^ k % 4294967296)=r*2 ^ k/4294967296 ^ i+d*2 ^ k % 4294967296:=by
  rw [Nat.mod_eq_of_lt (by omega:r*2 ^ k/4294967296 ^ i<4294967296),hlo];have:=Nat.two_pow_add_eq_or_of_lt hq (d % 2 ^ (32 - k));rw [Nat.add_comm,this];exact Nat.or_comm _ _
 have cR:r*2 ^ k/4294967296 ^ i+d*2 ^ k % 4294967296<4294967296:=by
  rw [<-hor];exact Nat.or_lt_two_pow (n:=32) (Nat.mod_lt _ (by decide)) (Nat.mod_lt _ (by decide))
 refine⟨?_,by rw [hor];exact cR⟩;rw [hor];have Ba:=Nat.mod_add_div (d*2 ^ k) 4294967296;have hhi:d*2 ^ k/4294967296<4294967296:=by
  have h1:d*2 ^ k<=d*4294967296:=Nat.mul_le_mul_left _ (by omega);rw [Nat.div_lt_iff_lt_mul (by decide)];have h2:d*4294967296<4294967296*4294967296:=Nat.mul_lt_mul_of_pos_right hd (by decide);omega
 generalize d*2 ^ k % 4294967296=lo at*;generalize d*2 ^ k/4294967296=up at*;have hlen:=bf (nd m+1) (r*2 ^ k);have hDG:=gH (nd m+1) (r*2 ^ k);have g0:=il (n:=nd m+1) (v:=r*2 ^ k) (i:=i) (by rw [hlen];omega);have g1:=il (n:=nd m+1) (v:=r*2 ^ k) (i:=i+1) (by rw [hlen];omega);have v0:=gO (nd m+1) (r*2 ^ k);rw [Nat.mod_eq_of_lt (Nat.lt_of_lt_of_le (by omega:r*2 ^ k<4294967296 ^ (i+1+1)) hle)]at v0;rw [Nat.mod_eq_of_lt (by omega:r*2 ^ k/4294967296 ^ i<4294967296)]at g0;rw [Nat.div_eq_of_lt (by omega:r*2 ^ k<4294967296 ^ (i+1))]at g1;refine val_inj ((hDG.set i (Int.natCast_nonneg _) (by omega)).set (i+1) (Int.natCast_nonneg _) (by omega)) (gH _ _) (by rw [List.length_set,List.length_set,hlen,bf]) ?_;rw [gO,Nat.mod_eq_of_lt (Nat.lt_of_lt_of_le (by omega:r'*2 ^ k<4294967296 ^ (i+1+1)) hle)];have s1:=vl (l:=fL (nd m+1) (r*2 ^ k)) (i:=i) (by omega) (((r*2 ^ k/4294967296 ^ i+lo:Nat):Int));have s2:=vl (l:=(fL (nd m+1) (r*2 ^ k)).set i (((r*2 ^ k/4294967296 ^ i+lo:Nat):Int))) (i:=i+1) (by rw [List.length_set];omega) ((up:Nat):Int);rw [List.getElem_set_ne (by omega),g1]at s2;rw [g0]at s1;have t1:(((r*2 ^ k/4294967296 ^ i:Nat):Int)).toNat=r*2 ^ k/4294967296 ^ i:=rfl;have t2:(((r*2 ^ k/4294967296 ^ i+lo:Nat):Int)).toNat=r*2 ^ k/4294967296 ^ i+lo:=rfl;have t3:((up:Nat):Int).toNat=up:=rfl;have t4:(((0 % 4294967296:Nat):Int)).toNat=0:=rfl;rw [t1,t2,Nat.mul_add]at s1;rw [t3,t4]at s2;rw [hms,Nat.add_mul,Nat.mul_assoc,<-Ba,Nat.mul_add,<-Nat.mul_assoc,<-hp];omega
theorem GN (m k:Nat) (hm:nd m<134217728) (hk:k<32) {B0:Nat} {K:KC} (hK:∀r,gv (r.get (pathOf 4))= .gs (pathOf 64) (nd m+1) 1 ->K r [] (MD m k)):
  Cw prog B0 ⟨prog,204,f204.ntmps,none,aH (P:=prog) [],0⟩ (vK f204) (fnR f204 (.cons (aM.v m) (.cons (.int .i64 k) .nil))) [] ⟨.leaf,pathOf 64⟩ (QK K K (λ_ _ _ _=>False)):=by
 have hc:=az (P:=prog) ae [] B0;have lm:=bj m;have hK':∀i,i=nd m ->∀r,gv (r.get (pathOf 4))= .gs (pathOf 64) (nd m+1) 1 ->K r [] ⟨bV [(pathOf 64,.gl ((au .u32).l (fL (nd m+1) (m % 4294967296 ^ i*2 ^ k))) false)],pathOf 65⟩:=by
  rintro i rfl r hr;rw [Nat.mod_eq_of_lt (dV m)];exact hK r hr
 refine aD af rfl rfl hc _ (aC ?_);have e0:aj .i64 (Int.add (Int.ofNat (dg m).length) 1)=((nd m+1:Nat):Int):=by
  rw [lm];show aj .i64 ((nd m:Int)+1)=_;rw [aA (by omega) (by omega)];omega
 refine(au .u32).mk' (x:=0) (nd m+1) (nd m+1) e0 e0 (Nat.le_refl _) (by show(nd m+1)*(4+1)<=_;omega) ?_;conv=>whnf
 have hz:List.replicate (nd m+1) (0:Int)=fL (nd m+1) (m % 4294967296 ^ 0*2 ^ k):=by
  refine val_inj (λx hx=>by rw [(List.mem_replicate.1 hx).2];decide) (gH _ _) (by rw [List.length_replicate,bf]) ?_;rw [wj,gO,Nat.pow_zero,Nat.mod_one,Nat.zero_mul,Nat.zero_mod]
 refine Cw.loop (ι:=Nat) (λi=>bl [(0,aM.v m),(1,.int .i64 k),(5,.gs (pathOf 64) (nd m+1) 1),(12,aM.v m),(13,.int .i64 (nd m:Int)),(14,.int .i64 (i:Int))]) (λ_=>[])
  (λi=>⟨bV [(pathOf 64,.gl ((au .u32).l (fL (nd m+1) (m % 4294967296 ^ i*2 ^ k))) false)],pathOf 65⟩) (λi=>i<=nd m) (λi=>nd m - i) ?_ 0 (Nat.zero_le _) ?_
 .intro i hi;refine aD af rfl rfl hc _ (aC ?_);refine ay (λh=>?_) (λh=>?_)
  .have h:i<nd m:=Int.ofNat_lt.1 (aO.1 h);have cE:aj .i64 (Int.add (i:Int) 1)=((i+1:Nat):Int):=by
    show aj .i64 ((i:Int)+1)=_;rw [aA (by omega) (by omega)];omega
   have iu:i<(dg m).length:=(by omega);have hlen:=bf (nd m+1) (m % 4294967296 ^ i*2 ^ k);conv=>whnf
   refine aL.go i rfl iu (aC ?_);refine⟨_,(au .u32).rd rfl iu,aC ?_⟩;refine aL.go i rfl (by omega) (aC ?_);refine⟨_,(au .u32).rd rfl (by omega:i<(fL (nd m+1) (m % 4294967296 ^ i*2 ^ k)).length),aC ?_⟩;have hd:m/4294967296 ^ i % 4294967296<4294967296:=Nat.mod_lt _ (by decide);obtain⟨tq,ajY⟩:=Kn h hk;have ek:Nat.min ((k:Int)).toNat (fP .u32)=k:=Nat.min_eq_left (show k<=32 by omega);have ek6:Nat.min ((k:Int)).toNat (fP .u64)=k:=Nat.min_eq_left (show k<=64 by omega);have x1:aj .u32 (Int.mul (dg m)[i] (.ofNat (Nat.pow 2 (Nat.min ((k:Int)).toNat (fP .u32)))))=((m/4294967296 ^ i % 4294967296*2 ^ k % 4294967296:Nat):Int):=by
    rw [bI iu,ek];exact wrap_u32 (((m/4294967296 ^ i % 4294967296*2 ^ k:Nat):Int))
   have x2:(fL (nd m+1) (m % 4294967296 ^ i*2 ^ k))[i]'(by omega)=((m % 4294967296 ^ i*2 ^ k/4294967296 ^ i % 4294967296:Nat):Int):=il _;refine⟨Int.natCast_nonneg _,aC ?_⟩;refine⟨⟨by rw [x2];exact Int.natCast_nonneg _,?_,by rw [x1];exact Int.natCast_nonneg _,?_⟩,?_⟩
   .rw [x2];exact cM.2 ⟨by show -(0:Int)<=_;omega,by show _<(4294967296:Int);omega⟩
   .rw [x1];exact cM.2 ⟨by show -(0:Int)<=_;omega,by show _<(4294967296:Int);omega⟩
   conv=>whnf
   refine aL.go i rfl (by omega) (aC ?_);refine(au .u32).st (xs:=fL (nd m+1) (m % 4294967296 ^ i*2 ^ k)) (i:=i) _ (by omega) ?_;conv=>whnf
   have y1:aj .u64 (dg m)[i]=((m/4294967296 ^ i % 4294967296:Nat):Int):=(by rw [bI iu];exact aW (by omega) (by omega));have Xc:m/4294967296 ^ i % 4294967296*2 ^ k<=m/4294967296 ^ i % 4294967296*4294967296:=Nat.mul_le_mul_left _ (by have:=Nat.pow_le_pow_right (n:=2) (by decide) (show k<=32 by omega);omega);have y2:aj .u64 (Int.mul (aj .u64 (dg m)[i]) (.ofNat (Nat.pow 2 (Nat.min ((k:Int)).toNat (fP .u64)))))=((m/4294967296 ^ i % 4294967296*2 ^ k:Nat):Int):=by
    rw [y1,ek6];exact aW (n:=((m/4294967296 ^ i % 4294967296*2 ^ k:Nat):Int)) (by omega) (by omega)
   refine⟨Int.natCast_nonneg _,aC ?_⟩;refine⟨⟨by rw [y2];exact Int.natCast_nonneg _,by decide⟩,aC ?_⟩;refine aL.go (i+1) cE (by omega) (aC ?_);refine(au .u32).st (xs:=_) (i:=i+1) _ (by rw [List.length_set,hlen];omega) ?_;conv=>whnf
   refine⟨i+1,h,by omega,?_⟩;refine Sub.of (gU [64]) [] rfl rfl rfl ?_ ?_
   .exact Ap
   .repeat' first|exact aB|exact rfl|refine And.intro ?_ ?_
    all_goals first|exact(au .u32).bm _|skip
    refine congrArg (au .u32).l (Eq.trans ?_ tq);have z1:(((m % 4294967296 ^ i*2 ^ k/4294967296 ^ i % 4294967296:Nat):Int)).toNat=m % 4294967296 ^ i*2 ^ k/4294967296 ^ i % 4294967296:=rfl;have z2:(((m/4294967296 ^ i % 4294967296*2 ^ k % 4294967296:Nat):Int)).toNat=m/4294967296 ^ i % 4294967296*2 ^ k % 4294967296:=rfl;have z3:(((m/4294967296 ^ i % 4294967296*2 ^ k:Nat):Int)).toNat=m/4294967296 ^ i % 4294967296*2 ^ k:=rfl;have z4:aj .u32 (Int.ofNat (Nat.div (m/4294967296 ^ i % 4294967296*2 ^ k) (Nat.pow 2 (Nat.min (Int.toNat 32) (fP .u64)))))=((m/4294967296 ^ i % 4294967296*2 ^ k/4294967296:Nat):Int):=
     gA (n:=((m/4294967296 ^ i % 4294967296*2 ^ k/4294967296:Nat):Int)) (by omega) (by omega)
    rw [x2,x1,y2,z1,z2,z3,z4];rfl
  .have h:i=nd m:=(by have:=aX.1 h;have this:((nd m:Nat):Int)<=(i:Int):=this;omega);conv=>whnf
   exact hK' i h _ rfl
 .refine Sub.of (gU [64]) [] rfl rfl rfl ?_ ?_
  .repeat' first|exact aB|exact rfl|refine And.intro ?_ ?_
   all_goals exact congrArg Int.ofNat lm
  .repeat' first|exact aB|exact rfl|refine And.intro ?_ ?_
   all_goals first|exact(au .u32).bm _|exact congrArg (au .u32).l hz
theorem To (m k:Nat) (hm:nd m<134217728) (hk:k<32):dQ 204 (.cons (aM.v m) (.cons ((au .i64).v k) .nil)) (mW.v (fL (nd m+1) (m*2 ^ k))):=by
 refine PF.yW (c:=_) (by decide) (fn:=f204) rfl rfl rfl (.cons (aM.an _) (.cons .int .nil)) (call:=aH (P:=prog) []) (h0:=⟨.leaf,pathOf 64⟩) (λ_ _ e=>by cases e) rfl (λB0=>GN m k hm hk (λr hr=>?_));refine MC (a:= .gs (pathOf 64) (nd m+1) 1) (congrArg (λx=>some (AV.cons x .nil)) hr) ?_;exact(au .u32).gG rfl rfl (bf _ _).symm
def GO:Cn prog:= .kP aM (au .i64) mW 204 false (λm k=>nd m<134217728/\0<=k/\k<32) (λm k=>fL (nd m+1) (m*2 ^ k.toNat)) (λe=>by cases e) (λm k h=>by
 obtain⟨j,rfl⟩:=Int.eq_ofNat_of_zero_le h.2.1;exact To m j h.1 (by omega)) (aw rfl rfl)
theorem BZ (xs:List Int) (hn:xs.length<=134217729) (dD:xs≠[]) {B0:Nat} {K:KC} (hK:∀r h,gv (r.get (pathOf 2))= .gs (pathOf 65) xs.length 1 ->h.n=pathOf 66 ->h.t.get (pathOf 65)=some (.gl ((au .u32).l xs) false) ->K r [] h):
  Cw prog B0 ⟨prog,270,f270.ntmps,none,aH (P:=prog) [],0⟩ (vK f270) (fnR f270 (.cons (mW.v xs) .nil)) [] ⟨.leaf,pathOf 64⟩ (QK K K (λ_ _ _ _=>False)):=by
 have hc:=az (P:=prog) ae [] B0;obtain⟨x,t,rfl⟩:=List.exists_cons_of_ne_nil dD;have hl:(x::t).length=t.length+1:=rfl;refine aD af rfl rfl hc _ (aC ?_);refine⟨(au .u32).l (x::t),?_,?_⟩
 .exact((au .u32).jW (xs:=x::t) (i:=(x::t).length) (Nat.le_refl _)).trans (by rw [List.take_length])
 conv=>whnf
 refine⟨⟨?_,(au .u32).kF _,rfl⟩,?_⟩
 .show(0+(x::t).length)*(4+1)<=1099511627776;omega
 conv=>whnf
 refine hK _ _ ?_ rfl rfl;show AV.gs (pathOf 65) (0+(x::t).length) 1=_;rw [Nat.zero_add]
theorem PZ (xs:List Int) (hn:xs.length<=134217729):dQ 270 (.cons (mW.v xs) .nil) (mW.v xs):=by
 by_cases dD:xs=[]
 .subst dD;refine PF.yW (c:=_) (by decide) (fn:=f270) rfl rfl rfl (.cons (mW.an _) .nil) (call:=aH (P:=prog) []) (h0:=⟨.leaf,pathOf 64⟩) (λ_ _ e=>by cases e) rfl (λB0=>?_);have hc:=az (P:=prog) ae [] B0;refine Cw.vf 0 1 rfl ?_ ?_
  .refine aD af rfl rfl hc _ (aC ?_);exact ak.bt
  .refine aD af rfl rfl hc _ (aC ?_);refine⟨.nil,rfl,aC ?_⟩;refine⟨⟨by decide,rfl,rfl⟩,aC ?_⟩;exact(au .u32).gG (xs:=[]) rfl rfl rfl
 .refine PF.yW (c:=_) (by decide) (fn:=f270) rfl rfl rfl (.cons (mW.an _) .nil) (call:=aH (P:=prog) []) (h0:=⟨.leaf,pathOf 64⟩) (λ_ _ e=>by cases e) rfl (λB0=>BZ xs hn dD (λr h hr hn2 hg=>?_));refine MC (a:= .gs (pathOf 65) xs.length 1) (congrArg (λx=>some (AV.cons x .nil)) hr) ?_;exact(au .u32).gG hg rfl rfl
def mc:Cn prog:= .mU mW mW 270 false (λl=>l.length<=134217729) (λl=>l) (λe=>by cases e) (λl h=>PZ l h) (aw rfl rfl)
def mX (m k i:Nat):List Int:=(fL (nd m) (m/2 ^ k)).take i++(dg m).drop i
theorem zq {m k i:Nat} (hi:i<=nd m):(mX m k i).length=nd m:=by
 unfold mX;rw [List.length_append,List.length_take,List.length_drop,bf,bj];omega
theorem Tp {m k i:Nat} (hi:i<nd m):(mX m k i)[i]'(by rw [zq (by omega)];exact hi)=((m/4294967296 ^ i % 4294967296:Nat):Int):=by
 have hl:((fL (nd m) (m/2 ^ k)).take i).length=i:=by rw [List.length_take,bf];omega
 unfold mX;rw [List.getElem_append_right (by omega)];simp only [hl,Nat.sub_self,List.getElem_drop,Nat.add_zero];exact bI _
theorem GQ {m k i:Nat} (hi:i<nd m) {x:Int} (hx:x=((m/2 ^ k/4294967296 ^ i % 4294967296:Nat):Int)):(mX m k i).set i x=mX m k (i+1):=by
 have hl:((fL (nd m) (m/2 ^ k)).take i).length=i:=by rw [List.length_take,bf];omega
 unfold mX;rw [List.set_append_right _ _ (by omega),hl,Nat.sub_self,List.drop_eq_getElem_cons (by rw [bj];exact hi),List.set_cons_zero,List.take_succ_eq_append_getElem (by rw [bf];exact hi),List.append_assoc,List.singleton_append,il,hx]
theorem Tq {m k i:Nat} (hk:k<32):
  Nat.lor (m/4294967296 ^ i % 4294967296/2 ^ k) (m/4294967296 ^ (i+1) % 4294967296*4294967296 % 18446744073709551616/2 ^ k % 4294967296)=m/2 ^ k/4294967296 ^ i % 4294967296:=by
 have h1:m/2 ^ k/4294967296 ^ i=m/4294967296 ^ i/2 ^ k:=by rw [Nat.div_div_eq_div_mul,Nat.div_div_eq_div_mul,Nat.mul_comm]
 have h2:m/4294967296 ^ (i+1)=m/4294967296 ^ i/4294967296:=by rw [Nat.pow_succ,Nat.div_div_eq_div_mul]
 rw [h1,h2];generalize m/4294967296 ^ i=X;have hw:(4294967296:Nat)=2 ^ k*2 ^ (32 - k):=by rw [<-Nat.pow_add,show k+(32 - k)=32 by omega]
 have GF:0<2 ^ k:=Nat.two_pow_pos k;have hj0:0<2 ^ (32 - k):=Nat.two_pow_pos _;rw [Nat.mod_eq_of_lt (show X/4294967296 % 4294967296*4294967296<18446744073709551616 by have:=Nat.mod_lt (X/4294967296) (show 0<4294967296 by decide);omega)];have h3:X/4294967296 % 4294967296*4294967296/2 ^ k % 4294967296=2 ^ (32 - k)*(X/4294967296 % 2 ^ k):=by
  have:X/4294967296 % 4294967296*4294967296/2 ^ k=2 ^ (32 - k)*(X/4294967296 % 4294967296):=by
   generalize X/4294967296 % 4294967296=d;conv=>lhs;rw [hw,<-Nat.mul_assoc,Nat.mul_comm d,Nat.mul_assoc,Nat.mul_div_cancel_left _ GF]
   exact Nat.mul_comm _ _
  rw [this];conv=>lhs;rw [show(4294967296:Nat)=2 ^ (32 - k)*2 ^ k by rw [Nat.mul_comm];exact hw]
  rw [Nat.mul_mod_mul_left,Nat.mod_mod_of_dvd _ (Nat.dvd_mul_left _ _),<-hw.trans (Nat.mul_comm _ _)]
 have h4:X % 4294967296/2 ^ k<2 ^ (32 - k):=by
  rw [Nat.div_lt_iff_lt_mul GF,Nat.mul_comm,<-hw];exact Nat.mod_lt _ (by decide)
 have h5:Nat.lor (X % 4294967296/2 ^ k) (2 ^ (32 - k)*(X/4294967296 % 2 ^ k))=2 ^ (32 - k)*(X/4294967296 % 2 ^ k)+X % 4294967296/2 ^ k:=by
  rw [Nat.two_pow_add_eq_or_of_lt h4];exact Nat.or_comm _ _
 rw [h3,h5];have h6:X/2 ^ k=X % 4294967296/2 ^ k+2 ^ (32 - k)*(X/4294967296):=by
  conv=>lhs;rw [<-Nat.mod_add_div X 4294967296,hw,Nat.mul_assoc,Nat.add_mul_div_left _ _ GF,<-hw]
 rw [h6,hw.trans (Nat.mul_comm _ _)];clear h6 h5 h3;rw [hw.trans (Nat.mul_comm _ _)]at h4;generalize X % (2 ^ (32 - k)*2 ^ k)/2 ^ k=A at*;generalize X/(2 ^ (32 - k)*2 ^ k)=Z at*;rw [Nat.mod_mul,Nat.add_mul_mod_self_left,Nat.mod_eq_of_lt h4,Nat.add_mul_div_left _ _ hj0,Nat.div_eq_of_lt h4,Nat.zero_add,Nat.add_comm]
theorem GR {x:Int} (h1:0<=x) (h2:x<4294967296):fits .u32 x=true:=cM.2 ⟨by show -(0:Int)<=_;omega,h2⟩
theorem afM {a:Nat} {x:Int} (hx:x=(a:Int)):aj .u64 (Int.mul x (.ofNat (Nat.pow 2 (Nat.min (Int.toNat 32) (fP .u64)))))=((a*4294967296 % 18446744073709551616:Nat):Int):=by
 rw [hx,wrap_u64,show Int.mul (a:Int) (.ofNat (Nat.pow 2 (Nat.min (Int.toNat 32) (fP .u64))))=((a*4294967296:Nat):Int)from rfl];exact(Int.natCast_emod (a*4294967296) 18446744073709551616).symm
theorem afN {b k:Nat} {x:Int} (hk:k<32) (hx:x=(b:Int)):aj .u32 (Int.ofNat (Nat.div x.toNat (Nat.pow 2 (Nat.min ((k:Int)).toNat (fP .u64)))))=((b/2 ^ k % 4294967296:Nat):Int):=by
 rw [hx,show Nat.min ((k:Int)).toNat (fP .u64)=k from Nat.min_eq_left (show k<=64 by omega),wrap_u32];exact(Int.natCast_emod (b/2 ^ k) 4294967296).symm
def Yu (m:Nat):AV:= .cons (aM.v m) .nil
def ac5:List (Cn prog):=[eW]
def afO (m:Nat):eL ->AV ->Heap ->CR:=jS 270 (Yu m) ⟨.leaf,pathOf 64⟩ (.gs (pathOf 65) (nd m) 1) ⟨bV [(pathOf 65,.gl (mW.cs (dg m)|>λ_=>(au .u32).l (dg m)) false)],pathOf 66⟩ (aH ac5)
theorem ME (m:Nat) (hm:nd m<=134217729) (h0:m≠0) (B0:Nat):aU prog B0 (afO m):=
 jT ae 0 (az ae ac5 B0) (fn:=f270) rfl rfl rfl rfl (by decide) (BZ (dg m) (by rw [bj];exact hm) (λe=>h0 (acQ.1 e)) (λr h hr hn hg=>by
  refine GM (congrArg (λx=>some (AV.cons x .nil)) (hr.trans (by rw [bj]))) (by rw [hn];rfl) ⟨hg,aB⟩))
theorem Qa (m k:Nat) (hm:nd m<=134217729) (hk:k<32):dQ 206 (.cons (aM.v m) (.cons ((au .i64).v k) .nil)) (aM.v (m/2 ^ k)):=by
 by_cases h0:m=0
 .subst h0;refine PF.of_wp (c:=_) af (by decide) (fn:=f206) rfl rfl rfl (.cons (aM.an _) (.cons .int .nil)) (call:=aH [mc,eW]) (λB0=>az ae [mc,eW] B0) ?_;intro B0;have hc:=az (P:=prog) ae [mc,eW] B0;conv=>whnf
  refine cn (l:=[mc,eW]) (by decide) 0 (c:=mc) rfl ([]:List Int) (Nat.zero_le _) (hk:=?_);conv=>whnf
  refine Cw.bH af rfl rfl hc 1 (aC ?_);refine cn (l:=[mc,eW]) (by decide) 1 (c:=eW) rfl ([]:List Int) ⟨.nil,by decide⟩ (hk:=?_);conv=>whnf
  refine ak.same ?_ (aM.an _);rw [Nat.zero_div];rfl
 .have lm:=bj m;refine PF.of_wp (c:=_) af (by decide) (fn:=f206) rfl rfl rfl (.cons (aM.an _) (.cons .int .nil)) (call:=afO m) (λB0=>ME m hm h0 B0) ?_;intro B0;have hc:=ME m hm h0 B0;conv=>whnf
  refine pn (hk:=?_);conv=>whnf
  refine Cw.loop (ι:=Nat) (λi=>bl [(0,aM.v m),(1,.int .i64 k),(5,.gs (pathOf 65) (nd m) 1),(10,.int .i64 (nd m:Int)),(11,.int .i64 (i:Int))]) (λ_=>[])
   (λi=>⟨bV [(pathOf 65,.gl ((au .u32).l (mX m k i)) false)],pathOf 66⟩) (λi=>i<=nd m) (λi=>nd m - i) ?_ 0 (Nat.zero_le _) ?_
  .intro i hi;refine aD af rfl rfl hc _ (aC ?_);refine ay (λh=>?_) (λh=>?_)
   .have h:i<nd m:=Int.ofNat_lt.1 (aO.1 h);have cE:aj .i64 (Int.add (i:Int) 1)=((i+1:Nat):Int):=by
     show aj .i64 ((i:Int)+1)=_;rw [aA (by omega) (by omega)];omega
    have hlen:=zq (m:=m) (k:=k) hi;have hg:=Tp (m:=m) (k:=k) h;conv=>whnf
    refine aL.go i rfl h (aC ?_);refine⟨_,(au .u32).rd rfl (by omega:i<(mX m k i).length),aC ?_⟩;have ek:Nat.min ((k:Int)).toNat (fP .u32)=k:=Nat.min_eq_left (show k<=32 by omega);have ek6:Nat.min ((k:Int)).toNat (fP .u64)=k:=Nat.min_eq_left (show k<=64 by omega);have hd:m/4294967296 ^ i % 4294967296<4294967296:=Nat.mod_lt _ (by decide);have Yv:m/4294967296 ^ i % 4294967296/2 ^ k<=m/4294967296 ^ i % 4294967296:=Nat.div_le_self _ _;have x1:Int.ofNat (Nat.div ((mX m k i)[i]'(by omega)).toNat (Nat.pow 2 (Nat.min ((k:Int)).toNat (fP .u32))))=((m/4294967296 ^ i % 4294967296/2 ^ k:Nat):Int):=(by rw [hg,ek];rfl);have hls:=Tq (m:=m) (i:=i) hk;refine⟨⟨by rw [hg];exact Int.natCast_nonneg _,Int.natCast_nonneg _⟩,aC ?_⟩;refine aL.go i rfl h (aC ?_);refine(au .u32).st (xs:=mX m k i) (i:=i) _ (by omega) ?_;conv=>whnf
    refine ay (λh2=>?_) (λh2=>?_)
    .have h2:i+1<(dg m).length:=(by have:=aO.1 h2;rw [cE]at this;exact Int.ofNat_lt.1 this);conv=>whnf
     refine aL.go i rfl h (aC ?_);refine⟨_,(au .u32).rd rfl (by rw [List.length_set];omega),aC ?_⟩;refine aL.go (i+1) cE h2 (aC ?_);refine⟨_,(au .u32).rd rfl h2,aC ?_⟩;have y1:aj .u64 (dg m)[i+1]=((m/4294967296 ^ (i+1) % 4294967296:Nat):Int):=(by rw [bI h2];exact aW (by omega) (by omega));have y2:=afM y1;have y3:=afN (k:=k) hk y2;refine⟨by decide,aC ?_⟩;refine⟨⟨by rw [y2];exact Int.natCast_nonneg _,Int.natCast_nonneg _⟩,aC ?_⟩;have x2:((mX m k i).set i (Int.ofNat (Nat.div ((mX m k i)[i]'(by omega)).toNat (Nat.pow 2 (Nat.min ((k:Int)).toNat (fP .u32))))))[i]'(by rw [List.length_set];omega)=((m/4294967296 ^ i % 4294967296/2 ^ k:Nat):Int):=(by rw [List.getElem_set_self];exact x1);have hm3:m/4294967296 ^ (i+1) % 4294967296*4294967296 % 18446744073709551616/2 ^ k % 4294967296<4294967296:=Nat.mod_lt _ (by decide);refine⟨⟨by rw [x2];exact Int.natCast_nonneg _,by rw [x2];exact GR (Int.natCast_nonneg _) (by omega),by rw [y3];exact Int.natCast_nonneg _,by rw [y3];exact GR (Int.natCast_nonneg _) (by omega)⟩,aC ?_⟩;refine aL.go i rfl h (aC ?_);refine(au .u32).st (xs:=_) (i:=i) _ (by rw [List.length_set];omega) ?_;conv=>whnf
     refine⟨i+1,h,by omega,?_⟩;refine Sub.of (gU [65]) [] rfl rfl rfl ?_ ?_
     .exact Ap
     .repeat' first|exact aB|exact rfl|refine And.intro ?_ ?_
      all_goals first|exact(au .u32).bm _|skip
      refine congrArg (au .u32).l ((List.set_set _).trans (GQ h ?_));rw [x2,y3,<-hls,Int.toNat_natCast,Int.toNat_natCast];exact Int.ofNat_eq_natCast _
    .have h2:(dg m).length<=i+1:=(by have:=aX.1 h2;rw [cE]at this;exact Int.ofNat_le.1 this);conv=>whnf
     refine⟨i+1,h,by omega,?_⟩;refine Sub.of (gU [65]) [] rfl rfl rfl ?_ ?_
     .exact Ap
     .repeat' first|exact aB|exact rfl|refine And.intro ?_ ?_
      all_goals first|exact(au .u32).bm _|skip
      refine congrArg (au .u32).l (GQ h ?_);rw [x1,<-hls,show m/4294967296 ^ (i+1)=0 from Nat.div_eq_of_lt (Nat.lt_of_lt_of_le (dV m) (Nat.pow_le_pow_right (by decide) (by omega)))];simp
   .have h:i=nd m:=(by have:=aX.1 h;have this:((nd m:Nat):Int)<=(i:Int):=this;omega);have hv:val (mX m k i)=m/2 ^ k:=by
     have hle:m/2 ^ k<=m:=Nat.div_le_self _ _;unfold mX;rw [h,List.drop_of_length_le (Nat.le_of_eq lm),List.append_nil,List.take_of_length_le (by rw [bf];exact Nat.le_refl _),gO,Nat.mod_eq_of_lt (Nat.lt_of_le_of_lt hle (dV m))]
    have hdg:DG (mX m k i):=by
     unfold mX;exact DG.append.2 ⟨(gH _ _).take i,λx hx=>abj m x (List.mem_of_mem_drop hx)⟩
    have hlen:=zq (m:=m) (k:=k) hi;conv=>whnf
    refine gP (by decide) (cn (l:=ac5) (by decide) 0 (c:=eW) rfl (mX m k i) ⟨hdg,by show(mX m k i).length<_;omega⟩ (hbor:=?_) (has:=?_) (hk:=?_))
    .exact⟨by show nd m*1=((au .u32).l (mX m k i)).len;rw [bW.ep];show nd m*1=(mX m k i).length*1;omega,aB⟩
    .show AV.cons (.ro (mX m k i).length _) .nil=AV.cons (.ro (nd m) _) .nil;rw [hlen]
    conv=>whnf
    refine ak.same ?_ (aM.an _);exact congrArg aM.v hv
  .refine Sub.of (gU [65]) [] rfl rfl rfl ?_ ?_
   .exact oR
   .repeat' first|exact aB|exact rfl|refine And.intro ?_ ?_
    all_goals first|exact(au .u32).bm _|skip
def Ca:Cn prog:= .kP aM (au .i64) aM 206 false (λm k=>nd m<=134217729/\0<=k/\k<32) (λm k=>m/2 ^ k.toNat) (λe=>by cases e) (λm k h=>by
 obtain⟨j,rfl⟩:=Int.eq_ofNat_of_zero_le h.2.1;exact Qa m j h.1 (by omega)) (aw rfl rfl)
end
end
end Go.Sy
namespace Go.Sy
open Go.RowKit
theorem xP {l:List Int} (h:DG l) {i:Nat} (hi:i<l.length):l[i]=((val l/4294967296 ^ i % 4294967296:Nat):Int):=by
 have e:=nr h;have:(fL l.length (val l))[i]'(by rw [bf];exact hi)=((val l/4294967296 ^ i % 4294967296:Nat):Int):=il _;rw [<-this];congr 1;exact e.symm
theorem Ts {l:List Int} (h:DG l) {i:Nat} (hi:i<=l.length):val (l.take i)=val l % 4294967296 ^ i:=by
 have:=vk l.length (val l) i hi;rwa [nr h]at this
theorem Yw {p W q:List Int} {off i:Nat} (hp:p.length=off) (hi:i<W.length):(p++W++q)[off+i]'(by simp;omega)=W[i]:=by
 rw [List.getElem_append_left (by simp;omega),List.getElem_append_right (by omega)];congr 1;omega
theorem Yx {p W q:List Int} {off i:Nat} {x:Int} (hp:p.length=off) (hi:i<W.length):(p++W++q).set (off+i) x=p++W.set i x++q:=by
 rw [List.set_append_left _ _ (by simp;omega),List.set_append_right _ _ (by omega)];congr 3;omega
section
variable [aT] {P:Program}
theorem rdW {t:TypeId} (ht:ss P t=some none) {p W q:List Int} {off i:Nat} (hp:p.length=off) (hi:i<W.length):gM P t (cZ (Nat.add (Nat.mul off 1) (Nat.mul i 1)) ((au .u32).l (p++W++q)))=some ((au .u32).v W[i]):=by
 rw [show Nat.add (Nat.mul off 1) (Nat.mul i 1)=Nat.mul (off+i) 1 by show off*1+i*1=(off+i)*1;omega];have:=(au .u32).rd (P:=P) (t:=t) ht (xs:=p++W++q) (i:=off+i) (by simp;omega);rw [Yw hp hi]at this;exact this
theorem stW {p W q:List Int} {off i:Nat} (hp:p.length=off) (x:Int) (hi:i<W.length) {K:AV ->Prop} (hk:K ((au .u32).l (p++W.set i x++q))):StP (Nat.add (Nat.mul off 1) (Nat.mul i 1)) 1 ((au .u32).l (p++W++q)) ((au .u32).c x .nil) K:=by
 rw [show Nat.add (Nat.mul off 1) (Nat.mul i 1)=Nat.mul (off+i) 1 by show off*1+i*1=(off+i)*1;omega];exact(au .u32).st (xs:=p++W++q) (i:=off+i) x (by simp;omega) (by rw [Yx hp hi];exact hk)
end
structure KW (n U V hi h l u2 M U' V':Nat):Prop where
 hM:M=4294967296 ^ (n - 2)
 hV:V=(h*4294967296+l)*M+V'
 hU:U=(hi*4294967296+u2)*M+U'
 v':V'<M
 u':U'<M
 h0:0<h
 hb:h<4294967296
 lb:l<4294967296
 ub:u2<4294967296
 lt:U<V*4294967296
theorem KW.hiB {n U V hi h l u2 M U' V':Nat} (k:KW n U V hi h l u2 M U' V'):hi<=h*4294967296+l:=by
 have hM:0<M:=by rw [k.hM];exact Nat.pow_pos (by decide)
 apply Nat.le_of_lt_succ;apply Nat.lt_of_not_le;intro hle;have h1:(h*4294967296+l+1)*(4294967296*M)<=hi*(4294967296*M):=Nat.mul_le_mul_right _ hle;have h2:hi*(4294967296*M)<=U:=by
  rw [k.hU,Nat.add_mul,<-Nat.mul_assoc];generalize hi*4294967296*M=A;generalize u2*M=C;exact Nat.le_trans (Nat.le_add_right A C) (Nat.le_add_right _ _)
 have h3:V*4294967296<(h*4294967296+l+1)*(4294967296*M):=by
  rw [Nat.mul_comm 4294967296 M,<-Nat.mul_assoc];apply Nat.mul_lt_mul_of_pos_right _ (by decide);have:=k.v';rw [k.hV,Nat.add_mul _ 1,Nat.one_mul];omega
 have:=k.lt;omega
theorem KW.mk' {n:Nat} {V U:Nat} (hn:2<=n) (hV:V<4294967296 ^ n) (hV2:4294967296 ^ (n - 1)<=V) (cR:U<V*4294967296):
  KW n U V (U/4294967296 ^ (n - 1)) (V/4294967296 ^ (n - 1)) (V/4294967296 ^ (n - 2) % 4294967296) (U/4294967296 ^ (n - 2) % 4294967296) (4294967296 ^ (n - 2)) (U % 4294967296 ^ (n - 2)) (V % 4294967296 ^ (n - 2)):=by
 have e:(4294967296:Nat) ^ (n - 1)=4294967296 ^ (n - 2)*4294967296:=by rw [<-Nat.pow_succ];congr 1;omega
 have e2:(4294967296:Nat) ^ n=4294967296 ^ (n - 1)*4294967296:=by rw [<-Nat.pow_succ];congr 1;omega
 have hM:0<(4294967296:Nat) ^ (n - 2):=Nat.pow_pos (by decide);have hM1:0<(4294967296:Nat) ^ (n - 1):=Nat.pow_pos (by decide);have key:∀X:Nat,X=(X/4294967296 ^ (n - 1)*4294967296+X/4294967296 ^ (n - 2) % 4294967296)*4294967296 ^ (n - 2)+X % 4294967296 ^ (n - 2):=by
  intro X;rw [e,<-Nat.div_div_eq_div_mul];have h1:=Nat.div_add_mod (X/4294967296 ^ (n - 2)) 4294967296;rw [Nat.mul_comm 4294967296]at h1;rw [h1,Nat.mul_comm];exact(Nat.div_add_mod _ _).symm
 refine⟨rfl,key V,key U,Nat.mod_lt _ hM,Nat.mod_lt _ hM,Nat.div_pos hV2 hM1,?_,Nat.mod_lt _ (by decide),Nat.mod_lt _ (by decide),cR⟩;rw [Nat.div_lt_iff_lt_mul hM1,Nat.mul_comm,<-e2];exact hV
theorem Tt {c b q d u:Nat} (hc:c<4294967296) (hb:b<=1) (hq:q<4294967296) (hd:d<4294967296) (hu:u<4294967296):
  ∃w b':Nat,w<4294967296/\b'<=1/\((u:Int) - (b:Int) - (((c+q*d) % 4294967296:Nat):Int)) % 4294967296=(w:Int)/\(((u:Int) - (b:Int) - (((c+q*d) % 4294967296:Nat):Int)<0/\b'=1)\/(0<=(u:Int) - (b:Int) - (((c+q*d) % 4294967296:Nat):Int)/\b'=0))/\
   (c+q*d)/4294967296<4294967296/\c+b+w+q*d=u+((c+q*d)/4294967296+b')*4294967296/\c+q*d<18446744073709551616:=by
 have hqd:q*d<=4294967295*4294967295:=Nat.mul_le_mul (by omega) (by omega);generalize q*d=x at*;have h1:=Nat.div_add_mod (c+x) 4294967296;have h2:=Nat.mod_lt (c+x) (show 0<4294967296 by decide);have h3:(c+x)/4294967296<4294967296:=by rw [Nat.div_lt_iff_lt_mul (by decide)];omega
 generalize (c+x)/4294967296=y at*;generalize (c+x) % 4294967296=z at*;by_cases ht:(u:Int) - (b:Int) - (z:Int)<0
 .exact⟨u+4294967296 - b - z,1,by omega,by omega,by omega,.inl ⟨ht,rfl⟩,h3,by omega,by omega⟩
 .exact⟨u - b - z,0,by omega,by omega,by omega,.inr ⟨by omega,rfl⟩,h3,by omega,by omega⟩
namespace KW
variable {n U V hi h l u2 M U' V':Nat}
theorem afP (k:KW n U V hi h l u2 M U' V'):0<M:=by rw [k.hM];exact Nat.pow_pos (by decide)
theorem aiF (k:KW n U V hi h l u2 M U' V'):0<V:=by
 have:=k.lt;rcases Nat.eq_zero_or_pos V with e|e
 .rw [e,Nat.zero_mul]at this;omega
 .exact e
theorem qle (k:KW n U V hi h l u2 M U' V'):U/V*((h*4294967296+l)*M+V')<=(hi*4294967296+u2)*M+U':=by
 rw [<-k.hV,<-k.hU];exact Nat.div_mul_le_self _ _
theorem qlt (k:KW n U V hi h l u2 M U' V'):U/V<4294967296:=by
 rw [Nat.div_lt_iff_lt_mul k.aiF,Nat.mul_comm];exact k.lt
theorem start (k:KW n U V hi h l u2 M U' V'):U/V<=hi/h/\hi/h*h+hi % h=hi:=⟨SS k.h0 k.afP k.ub k.u' k.qle,by rw [Nat.mul_comm];exact Nat.div_add_mod _ _⟩
theorem step (k:KW n U V hi h l u2 M U' V') {q r:Nat} (e:q*h+r=hi) (hq:U/V<=q) (ht:4294967296<=q\/r*4294967296+u2<q*l):U/V<=q - 1/\(q - 1)*h+(r+h)=hi/\1<=q:=by
 have cR:U/V<q:=by
  rcases ht with ht|ht
  .exact Nat.lt_of_lt_of_le k.qlt ht
  .exact XW k.u' e k.qle ht
 obtain⟨j,rfl⟩:∃j,q=j+1:=Nat.exists_eq_add_one.2 (Nat.lt_of_le_of_lt (Nat.zero_le _) cR);refine⟨Nat.le_of_lt_succ cR,?_,Nat.succ_le_succ (Nat.zero_le _)⟩;rw [<-e,Nat.add_mul,Nat.one_mul,Nat.add_sub_cancel];omega
theorem exit (k:KW n U V hi h l u2 M U' V') {q r:Nat} (e:q*h+r=hi) (hq:U/V<=q) (ht:4294967296<=r\/(q<4294967296/\q*l<=r*4294967296+u2)):q<4294967296/\q*V<U+V:=by
 have hqb:q<4294967296:=by
  rcases ht with ht|ht
  .apply Nat.lt_of_not_le;intro hle;have h1:4294967296*h<=q*h:=Nat.mul_le_mul_right _ hle;have h2:=k.hiB;have h3:=k.lb;rw [Nat.mul_comm h]at h2;omega
  .exact ht.1
 refine⟨hqb,?_⟩;have:=PJ (M:=M) (U':=U') (V':=V') (l:=l) (u2:=u2) k.afP k.v' k.h0 k.hb k.lb k.ub k.u' hqb e (ht.imp id (λh=>h.2));rwa [<-k.hV,<-k.hU]at this
end KW
theorem Yy {U V q a t B:Nat} (hq:U/V<=q) (hV:0<V) (e:a+q*V+B*t=U):q=U/V/\U % V=a+B*t:=by
 have h1:q<=U/V:=(Nat.le_div_iff_mul_le hV).2 (by omega);have h2:q=U/V:=Nat.le_antisymm h1 hq;refine⟨h2,?_⟩;have:=Nat.div_add_mod U V;rw [h2,Nat.mul_comm (U/V)]at e;omega
theorem Qb {U V q a B:Nat} (hq:U/V<=q) (cR:q*V<U+V) (hV:0<V) (e:a+q*V=U+B) (ha:a<B):q=U/V+1/\U % V+B=a+V:=by
 have h1:U<q*V:=by omega
 have h2:U/V<q:=(Nat.div_lt_iff_lt_mul hV).2 h1;have h3:q<U/V+1+1:=by
  apply Nat.lt_of_not_le;intro hle;have h4:(U/V+1+1)*V<=q*V:=Nat.mul_le_mul_right _ hle;have h5:=Nat.div_add_mod U V;have h6:=Nat.mod_lt U hV;rw [Nat.add_mul,Nat.add_mul,Nat.one_mul,Nat.mul_comm (U/V)]at h4;omega
 have h4:q=U/V+1:=by omega
 refine⟨h4,?_⟩;have h5:=Nat.div_add_mod U V;rw [h4,Nat.add_mul,Nat.one_mul,Nat.mul_comm (U/V)]at e;omega
end Go.Sy
namespace Go.Sy
noncomputable section
open Go.RowKit Go.Proofs Go.Proofs.Tryz
section
attribute [local irreducible] Cw ak bq PF Sub
abbrev tbD:aT:=pR fp 2
attribute [local instance] tbD
theorem MF {x:Int} (h1:0<=x) (h2:x<18446744073709551616):fits .u64 x=true:=cM.2 ⟨by show -(0:Int)<=_;omega,h2⟩
theorem Tu {x y:Int} {a b:Nat} (hx:x=(a:Int)) (hy:y=(b:Int)) (ha:a<4294967296) (hb:b<4294967296):
  (0<=aj .u64 (Int.mul (aj .u64 x) (.ofNat (Nat.pow 2 (Nat.min (Int.toNat 32) (fP .u64)))))/\fits .u64 (aj .u64 (Int.mul (aj .u64 x) (.ofNat (Nat.pow 2 (Nat.min (Int.toNat 32) (fP .u64))))))=true/\0<=aj .u64 y/\fits .u64 (aj .u64 y)=true)/\
   Int.ofNat (Nat.lor (aj .u64 (Int.mul (aj .u64 x) (.ofNat (Nat.pow 2 (Nat.min (Int.toNat 32) (fP .u64)))))).toNat (aj .u64 y).toNat)=((a*4294967296+b:Nat):Int):=by
 have e1:aj .u64 x=(a:Int):=by rw [hx];exact aW (by omega) (by omega)
 have e2:=afM e1;rw [Nat.mod_eq_of_lt (by omega:a*4294967296<18446744073709551616)]at e2;have e3:aj .u64 y=(b:Int):=by rw [hy];exact aW (by omega) (by omega)
 rw [e2,e3];refine⟨⟨Int.natCast_nonneg _,MF (Int.natCast_nonneg _) (by omega),Int.natCast_nonneg _,MF (Int.natCast_nonneg _) (by omega)⟩,?_⟩;rw [Int.toNat_natCast,Int.toNat_natCast];exact congrArg Int.ofNat (Mz hb)
theorem Yz {r:Nat} {y:Int} {b:Nat} (hr:r<4294967296) (hy:y=(b:Int)) (hb:b<4294967296):
  (0<=aj .u64 (Int.mul (r:Int) (.ofNat (Nat.pow 2 (Nat.min (Int.toNat 32) (fP .u64)))))/\fits .u64 (aj .u64 (Int.mul (r:Int) (.ofNat (Nat.pow 2 (Nat.min (Int.toNat 32) (fP .u64))))))=true/\0<=aj .u64 y/\fits .u64 (aj .u64 y)=true)/\
   Int.ofNat (Nat.lor (aj .u64 (Int.mul (r:Int) (.ofNat (Nat.pow 2 (Nat.min (Int.toNat 32) (fP .u64)))))).toNat (aj .u64 y).toNat)=((r*4294967296+b:Nat):Int):=by
 have:=Tu (x:=(r:Int)) rfl hy hr hb;rwa [aW (n:=(r:Int)) (by omega) (by omega)]at this
structure DI where
 off:Nat
 p:List Int
 W:List Int
 q:List Int
 Q:List Int
 V:Nat
 cap:Nat
structure DI.OK (d:DI):Prop where
 hp:d.p.length=d.off
 hn:2<=nd d.V
 hW:d.W.length=nd d.V+1
 hD:DG d.W
 cR:val d.W<d.V*4294967296
 hs:nd d.V<134217729
def YA (d:DI) (W:List Int):Heap:=⟨bV [(pathOf 64,.gl ((au .u32).l (d.p++W++d.q)) false),(pathOf 65,.gl ((au .u32).l d.Q) false)],pathOf 66⟩
def afQ (d:DI):AV:= .cons (.slice (pathOf 64) (Nat.mul d.off 1) (nd d.V+1) d.cap 1) (.cons (aM.v d.V) .nil)
def abn (d:DI):AV:= .cons (.gs (pathOf 64) (nd d.V+1) 1) (.cons (aM.v d.V) .nil)
def zr (d:DI):List Int:=fL (nd d.V+1) (val d.W % d.V)
def HDg (d:DI):List (Pos×AO):=[(pathOf 64,.gl ((au .u32).l (d.p++zr d++d.q)) false),(pathOf 65,.gl ((au .u32).l d.Q) false)]
def InD (xs:AV) (d:DI) (B0:Nat):Prop:=
 Cw prog B0 ⟨prog,205,f205.ntmps,none,aH (P:=prog) [],0⟩ (vK f205) (fnR f205 xs) [] (YA d d.W)
  (QK (fK prog f205 (.int .u32 (val d.W/d.V:Nat)) (HDg d) (pathOf 66)) (fK prog f205 (.int .u32 (val d.W/d.V:Nat)) (HDg d) (pathOf 66)) (λ_ _ _ _=>False))
theorem GU (d:DI) (hd:d.OK) (x:Nat) (hx:x<4294967296) (hxV:x*d.V<val d.W+d.V) (hxQ:val d.W/d.V<=x) {B0:Nat}:
  Cw prog B0 ⟨prog,205,f205.ntmps,none,aH (P:=prog) [],0⟩ (Mv 5 (vK f205)) (bl [(0,.slice (pathOf 64) (Nat.mul d.off 1) (nd d.V+1) d.cap 1),(1,aM.v d.V),(5,.int .i64 (nd d.V:Nat)),(7,.int .u64 (x:Nat))]) [] (YA d d.W)
   (QK (fK prog f205 (.int .u32 (val d.W/d.V:Nat)) (HDg d) (pathOf 66)) (fK prog f205 (.int .u32 (val d.W/d.V:Nat)) (HDg d) (pathOf 66)) (λ_ _ _ _=>False)):=by
 have hc:=az (P:=prog) ae [] B0;obtain⟨off,p,W,q,Q,V,cap⟩:=d;obtain⟨hp,hn,hW,hD,cR,hs⟩:=hd;simp only at hp hn hW hD cR hs hxV hxQ;have lV:=bj V;have hV0:0<V:=Nat.pos_of_ne_zero (λe=>by rw [e]at hn;exact absurd hn (by decide));have YC:=dV V;refine aD af rfl rfl hc _ (aC ?_);refine Cw.loop (ι:=Nat×Nat×Nat×List Int) (λz=>bl [(0,.slice (pathOf 64) (Nat.mul off 1) (nd V+1) cap 1),(1,aM.v V),(5,.int .i64 (nd V:Nat)),(7,.int .u64 (x:Nat)),(9,.int .u64 (z.2.1:Nat)),(10,.int .i64 (z.2.2.1:Nat)),(84,aM.v V),(85,.int .i64 (nd V:Nat)),(86,.int .i64 (z.1:Nat))]) (λ_=>[]) (λz=>YA ⟨off,p,W,q,Q,V,cap⟩ z.2.2.2)
  (λz=>z.1<=nd V/\z.2.2.2.length=nd V+1/\DG z.2.2.2/\z.2.1<4294967296/\z.2.2.1<=1/\z.2.2.2.drop z.1=W.drop z.1/\val (z.2.2.2.take z.1)+x*(V % 4294967296 ^ z.1)=val W % 4294967296 ^ z.1+(z.2.1+z.2.2.1)*4294967296 ^ z.1) (λz=>nd V - z.1) ?_ (0,0,0,W) ⟨Nat.zero_le _,hW,hD,show 0<4294967296 by decide,Nat.zero_le 1,rfl,by simp [Nat.mod_one,val]⟩ ?_
 .rintro ⟨i,c,b,Y⟩ ⟨k1,k2,k3,k4,k5,k6,k7⟩;have k1:i<=nd V:=k1;have k2:Y.length=nd V+1:=k2;have k3:DG Y:=k3;have k4:c<4294967296:=k4;have k5:b<=1:=k5;have k6:Y.drop i=W.drop i:=k6;have k7:val (Y.take i)+x*(V % 4294967296 ^ i)=val W % 4294967296 ^ i+(c+b)*4294967296 ^ i:=k7;have hYi:Y[i]'(by omega)=((val W/4294967296 ^ i % 4294967296:Nat):Int):=by
   rw [<-xP hD (by omega)];have e1:=List.drop_eq_getElem_cons (l:=Y) (i:=i) (by omega);have e2:=List.drop_eq_getElem_cons (l:=W) (i:=i) (by omega);rw [k6,e2]at e1;injection e1 with e1 _;exact e1.symm
  refine aD af rfl rfl hc _ (aC ?_);refine ay (λh=>?_) (λh=>?_)
  .have h:i<nd V:=Int.ofNat_lt.1 (aO.1 h);have cE:aj .i64 (Int.add (i:Int) 1)=((i+1:Nat):Int):=by
    show aj .i64 ((i:Int)+1)=_;rw [aA (by omega) (by omega)];omega
   have iu:i<(dg V).length:=(by omega);have hVi:=bI (v:=V) (i:=i) iu;have hu:val W/4294967296 ^ i % 4294967296<4294967296:=Nat.mod_lt _ (by decide);have hdd:V/4294967296 ^ i % 4294967296<4294967296:=Nat.mod_lt _ (by decide);obtain⟨w,b',s1,s2,s3,s4,s5,s6,s7⟩:=Tt k4 k5 hx hdd hu;have hxd:x*(V/4294967296 ^ i % 4294967296)<18446744073709551616:=(by omega);have eC:aj .u64 (Int.add (c:Int) (aj .u64 (Int.mul (x:Int) (aj .u64 ((dg V)[i]'iu)))))=((c+x*(V/4294967296 ^ i % 4294967296):Nat):Int):=by
    rw [hVi,aW (n:=((V/4294967296 ^ i % 4294967296:Nat):Int)) (by omega) (by omega)];rw [show Int.mul (x:Int) ((V/4294967296 ^ i % 4294967296:Nat):Int)=((x*(V/4294967296 ^ i % 4294967296):Nat):Int)from rfl,aW (n:=((x*(V/4294967296 ^ i % 4294967296):Nat):Int)) (by omega) (by omega)];exact aW (n:=((c+x*(V/4294967296 ^ i % 4294967296):Nat):Int)) (by omega) (by omega)
   have hz:(c+x*(V/4294967296 ^ i % 4294967296)) % 4294967296<4294967296:=Nat.mod_lt _ (by decide);generalize xI:c+x*(V/4294967296 ^ i % 4294967296)=cd at*;have eT:aj .i64 (Int.sub (aj .i64 (Int.sub (aj .i64 (Y[i]'(by omega))) (b:Int))) (aj .i64 (aj .u32 (aj .u64 (Int.add (c:Int) (aj .u64 (Int.mul (x:Int) (aj .u64 ((dg V)[i]'iu)))))))))=((val W/4294967296 ^ i % 4294967296:Nat):Int) - (b:Int) - ((cd % 4294967296:Nat):Int):=by
    rw [eC,hYi,wrap_u32,show((cd:Nat):Int) % 4294967296=((cd % 4294967296:Nat):Int)from rfl];rw [aA (n:=((val W/4294967296 ^ i % 4294967296:Nat):Int)) (by omega) (by omega),aA (n:=((cd % 4294967296:Nat):Int)) (by omega) (by omega)];show aj .i64 (aj .i64 (((val W/4294967296 ^ i % 4294967296:Nat):Int) - (b:Int)) - ((cd % 4294967296:Nat):Int))=_;rw [aA (n:=((val W/4294967296 ^ i % 4294967296:Nat):Int) - (b:Int)) (by omega) (by omega)];exact aA (by omega) (by omega)
   conv=>whnf
   refine aL.go i rfl iu (aC ?_);refine⟨_,(au .u32).rd rfl iu,aC ?_⟩;refine aL.go i rfl (show i<nd V+1 by omega) (aC ?_);refine⟨_,rdW rfl hp (W:=Y) (i:=i) (by omega),aC ?_⟩;have eC':((cd:Nat):Int).toNat=cd:=rfl;have eC2:Int.ofNat (Nat.div (aj .u64 (Int.add (c:Int) (aj .u64 (Int.mul (x:Int) (aj .u64 ((dg V)[i]'iu)))))).toNat (Nat.pow 2 (Nat.min (Int.toNat 32) (fP .u64))))=((cd/4294967296:Nat):Int):=(by rw [eC];rfl);refine⟨⟨by rw [eC];exact Int.natCast_nonneg _,by decide⟩,aC ?_⟩;refine aL.go i rfl (show i<nd V+1 by omega) (aC ?_);refine stW hp (W:=Y) (i:=i) _ (by omega) ?_;have eS:aj .u32 (aj .i64 (Int.sub (aj .i64 (Int.sub (aj .i64 (Y[i]'(by omega))) (b:Int))) (aj .i64 (aj .u32 (aj .u64 (Int.add (c:Int) (aj .u64 (Int.mul (x:Int) (aj .u64 ((dg V)[i]'iu))))))))))=(w:Int):=(by rw [eT,wrap_u32];exact s3);have hm1:val W % 4294967296 ^ (i+1)=val W % 4294967296 ^ i+4294967296 ^ i*(val W/4294967296 ^ i % 4294967296):=(by rw [Nat.pow_succ,Nat.mod_mul]);have hm2:V % 4294967296 ^ (i+1)=V % 4294967296 ^ i+4294967296 ^ i*(V/4294967296 ^ i % 4294967296):=(by rw [Nat.pow_succ,Nat.mod_mul]);have mT:∀y:Int,y=(w:Int) ->((i+1<=nd V/\(Y.set i y).length=nd V+1/\DG (Y.set i y)/\cd/4294967296<4294967296/\b'<=1/\(Y.set i y).drop (i+1)=W.drop (i+1)/\val ((Y.set i y).take (i+1))+x*(V % 4294967296 ^ (i+1))=val W % 4294967296 ^ (i+1)+(cd/4294967296+b')*4294967296 ^ (i+1))):=by
    rintro y rfl;refine⟨h,by rw [List.length_set,k2],k3.set i (Int.natCast_nonneg _) (by omega),s5,s2,?_,?_⟩
    .rw [List.drop_set_of_lt (by omega)];have e1:=congrArg (List.drop 1) k6;rwa [List.drop_drop,List.drop_drop]at e1
    .have e1:(Y.set i (w:Int)).take (i+1)=Y.take i++[(w:Int)]:=by
      rw [List.take_succ_eq_append_getElem (by rw [List.length_set];omega),List.getElem_set_self,List.take_set_of_le (Nat.le_refl _)]
     rw [e1,oz,List.length_take_of_le (by omega),Int.toNat_natCast,hm1,hm2,Nat.pow_succ];generalize 4294967296 ^ i=Z at*;generalize val (Y.take i)=A at*;generalize V % Z=VZ at*;generalize val W % Z=UZ at*;rw [Nat.mul_add,<-Nat.mul_assoc,Nat.mul_comm x Z,Nat.mul_assoc];generalize x*(V/Z % 4294967296)=xd at*;generalize x*VZ=xV at*;have e2:(cd/4294967296+b')*(Z*4294967296)=Z*((cd/4294967296+b')*4294967296):=(by rw [Nat.mul_comm,Nat.mul_assoc,Nat.mul_comm 4294967296]);rw [e2,Nat.mul_comm (c+b)]at*;have e3:=congrArg (Z*·) s6;simp only [Nat.mul_add]at e3 k7 ⊢;omega
   conv=>whnf
   refine ay (λh2=>?_) (λh2=>?_)
   .have h2:aj .i64 (Int.sub (aj .i64 (Int.sub (aj .i64 (Y[i]'(by omega))) (b:Int))) (aj .i64 (aj .u32 (aj .u64 (Int.add (c:Int) (aj .u64 (Int.mul (x:Int) (aj .u64 ((dg V)[i]'iu)))))))))<0:=aO.1 h2;rw [eT]at h2;obtain rfl:b'=1:=by rcases s4 with ⟨_,e⟩|⟨e,_⟩<;>omega
    conv=>whnf
    refine⟨(i+1,cd/4294967296,1,Y.set i (w:Int)),mT _ rfl,(by show nd V - (i+1)<nd V - i;omega),?_⟩;refine Sub.of (gU [64,65]) [] rfl rfl rfl ?_ ?_
    .exact Ap
    .repeat' first|exact aB|exact rfl|refine And.intro ?_ ?_
     all_goals first|exact(au .u32).bm _|exact congrArg (λy=>(au .u32).l (p++Y.set i y++q)) eS
   .have h2:0<=aj .i64 (Int.sub (aj .i64 (Int.sub (aj .i64 (Y[i]'(by omega))) (b:Int))) (aj .i64 (aj .u32 (aj .u64 (Int.add (c:Int) (aj .u64 (Int.mul (x:Int) (aj .u64 ((dg V)[i]'iu))))))))):=aX.1 h2;rw [eT]at h2;obtain rfl:b'=0:=by rcases s4 with ⟨e,_⟩|⟨_,e⟩<;>omega
    conv=>whnf
    refine⟨(i+1,cd/4294967296,0,Y.set i (w:Int)),mT _ rfl,(by show nd V - (i+1)<nd V - i;omega),?_⟩;refine Sub.of (gU [64,65]) [] rfl rfl rfl ?_ ?_
    .exact Ap
    .repeat' first|exact aB|exact rfl|refine And.intro ?_ ?_
     all_goals first|exact(au .u32).bm _|exact congrArg (λy=>(au .u32).l (p++Y.set i y++q)) eS
  .have h:i=nd V:=(by have:=aX.1 h;have this:((nd V:Nat):Int)<=(i:Int):=this;omega);subst h;rw [Nat.mod_eq_of_lt YC]at k7;have Tv:=pj hD;rw [hW]at Tv;have hB0:0<4294967296 ^ nd V:=Nat.pow_pos (by decide);have aiG:val W/4294967296 ^ nd V<4294967296:=by
    rw [Nat.div_lt_iff_lt_mul hB0,Nat.mul_comm,<-Nat.pow_succ];exact Tv
   rw [Nat.mod_eq_of_lt aiG]at hYi;have hdm:=Nat.div_add_mod (val W) (4294967296 ^ nd V);have hta:val (Y.take (nd V))<4294967296 ^ nd V:=by
    have:=pj (k3.take (nd V));rwa [List.length_take_of_le (by omega)]at this
   generalize ajZ:val W/4294967296 ^ nd V=top at*;generalize hUr:val W % 4294967296 ^ nd V=Ur at*;have eT:aj .i64 (Int.sub (aj .i64 (Int.sub (aj .i64 (Y[nd V]'(by omega))) (b:Int))) (aj .i64 (c:Int)))=(top:Int) - (b:Int) - (c:Int):=by
    rw [hYi,aA (n:=(top:Int)) (by omega) (by omega),aA (n:=(c:Int)) (by omega) (by omega)];show aj .i64 (aj .i64 ((top:Int) - (b:Int)) - (c:Int))=_;rw [aA (n:=(top:Int) - (b:Int)) (by omega) (by omega)];exact aA (by omega) (by omega)
   have tq:∀(Z:List Int) (y:Nat),Z.length=nd V+1 ->DG Z ->y<4294967296 ->val (Z.take (nd V))+4294967296 ^ nd V*y=val W % V ->Z.set (nd V) (y:Int)=zr ⟨off,p,W,q,Q,V,cap⟩:=by
    intro Z y hZ hZD hy he;have e1:DG (Z.set (nd V) (y:Int)):=hZD.set _ (Int.natCast_nonneg _) (by omega);have e2:Z.set (nd V) (y:Int)=Z.take (nd V)++[(y:Int)]:=by
     rw [List.set_eq_take_append_cons_drop,if_pos (by omega),List.drop_of_length_le (by omega)]
    show _=fL (nd V+1) (val W % V);rw [<-he,<-nr e1,List.length_set,hZ];congr 1;rw [e2,oz,List.length_take_of_le (by omega),Int.toNat_natCast]
   conv=>whnf
   refine aL.go (nd V) rfl (Nat.lt_succ_self _) (aC ?_);refine⟨_,rdW rfl hp (W:=Y) (i:=nd V) (by omega),aC ?_⟩;refine aL.go (nd V) rfl (Nat.lt_succ_self _) (aC ?_);refine stW hp (W:=Y) (i:=nd V) _ (by omega) (aC ?_);refine ay (λh2=>?_) (λh2=>?_)
   .have h2:0<=aj .i64 (Int.sub (aj .i64 (Int.sub (aj .i64 (Y[nd V]'(by omega))) (b:Int))) (aj .i64 (c:Int))):=cG.1 h2;rw [eT]at h2;have e1:val (Y.take (nd V))+x*V+4294967296 ^ nd V*(top - b - c)=val W:=by
     have:4294967296 ^ nd V*(top - b - c)+(c+b)*4294967296 ^ nd V=4294967296 ^ nd V*top:=by
      rw [Nat.mul_comm (c+b),<-Nat.mul_add];congr 1;omega
     omega
    obtain⟨e2,e3⟩:=Yy hxQ hV0 e1;conv=>whnf
    refine⟨?_,rfl,?_,rfl,aB⟩
    .exact congrArg (AV.int .u32) ((gA (n:=(x:Int)) (by omega) (by omega)).trans (congrArg Int.ofNat e2))
    .have e4:=tq Y (top - b - c) k2 k3 (by omega) e3.symm;have e5:aj .u32 (aj .i64 (Int.sub (aj .i64 (Int.sub (aj .i64 (Y[nd V]'(by omega))) (b:Int))) (aj .i64 (c:Int))))=((top - b - c:Nat):Int):=by
      rw [eT,show(top:Int) - (b:Int) - (c:Int)=((top - b - c:Nat):Int) by omega];exact gA (by omega) (by omega)
     rw [<-e5]at e4;exact congrArg (λl=>some (AO.gl ((au .u32).l (p++l++q)) false)) e4
   .have h2:aj .i64 (Int.sub (aj .i64 (Int.sub (aj .i64 (Y[nd V]'(by omega))) (b:Int))) (aj .i64 (c:Int)))<0:=kG.1 h2;rw [eT]at h2;have e5:aj .u32 (aj .i64 (Int.sub (aj .i64 (Int.sub (aj .i64 (Y[nd V]'(by omega))) (b:Int))) (aj .i64 (c:Int))))=((4294967295:Nat):Int)/\x=val W/V+1/\val W % V+4294967296 ^ nd V=val (Y.take (nd V))+V:=by
     have hs:c+b - top=1:=by
      have e1:4294967296 ^ nd V*(c+b - top)+4294967296 ^ nd V*top=(c+b)*4294967296 ^ nd V:=by
       rw [<-Nat.mul_add,Nat.mul_comm (c+b)];congr 1;omega
      apply Nat.le_antisymm
      .apply Nat.le_of_lt_succ;apply Nat.lt_of_not_le;intro hle;have:=Nat.mul_le_mul_left (4294967296 ^ nd V) hle;omega
      .omega
     have e2:val (Y.take (nd V))+x*V=val W+4294967296 ^ nd V:=by
      have e1:(c+b)*4294967296 ^ nd V=4294967296 ^ nd V*top+4294967296 ^ nd V:=by
       rw [show c+b=top+1 by omega,Nat.add_mul,Nat.one_mul,Nat.mul_comm top]
      omega
     refine⟨?_,Qb hxQ hxV hV0 e2 hta⟩;rw [eT,wrap_u32];omega
    obtain⟨e5,e6,e7⟩:=e5;have hYD:DG (Y.set (nd V) ((4294967295:Nat):Int)):=k3.set _ (by decide) (by decide);have hlY:(Y.set (nd V) ((4294967295:Nat):Int)).length=nd V+1:=(by rw [List.length_set,k2]);have htk:∀i,i<=nd V ->(Y.set (nd V) ((4294967295:Nat):Int)).take i=Y.take i:=λi hi=>List.take_set_of_le hi;conv=>whnf
    refine Cw.loop (ι:=Nat×Nat×List Int) (λz=>bl [(0,.slice (pathOf 64) (Nat.mul off 1) (nd V+1) cap 1),(5,.int .i64 (nd V:Nat)),(7,.int .u64 (x:Nat)),(9,.int .u64 (z.2.1:Nat)),(137,aM.v V),(138,.int .i64 (nd V:Nat)),(139,.int .i64 (z.1:Nat))]) (λ_=>[]) (λz=>YA ⟨off,p,W,q,Q,V,cap⟩ z.2.2)
     (λz=>z.1<=nd V/\z.2.2.length=nd V+1/\DG z.2.2/\z.2.1<=1/\z.2.2.drop z.1=(Y.set (nd V) ((4294967295:Nat):Int)).drop z.1/\val (z.2.2.take z.1)+z.2.1*4294967296 ^ z.1=val (Y.take z.1)+V % 4294967296 ^ z.1) (λz=>nd V - z.1) ?_ (0,0,Y.set (nd V) ((4294967295:Nat):Int)) ⟨Nat.zero_le _,hlY,hYD,Nat.zero_le 1,rfl,by simp [Nat.mod_one,val]⟩ ?_
    .rintro ⟨i,cy,Z⟩ ⟨m1,m2,m3,m4,m5,m6⟩;have m1:i<=nd V:=m1;have m2:Z.length=nd V+1:=m2;have m3:DG Z:=m3;have m4:cy<=1:=m4;have m5:Z.drop i=(Y.set (nd V) ((4294967295:Nat):Int)).drop i:=m5;have m6:val (Z.take i)+cy*4294967296 ^ i=val (Y.take i)+V % 4294967296 ^ i:=m6;refine aD af rfl rfl hc _ (aC ?_);refine ay (λh=>?_) (λh=>?_)
     .have h:i<nd V:=Int.ofNat_lt.1 (aO.1 h);have cE:aj .i64 (Int.add (i:Int) 1)=((i+1:Nat):Int):=by
       show aj .i64 ((i:Int)+1)=_;rw [aA (by omega) (by omega)];omega
      have iu:i<(dg V).length:=(by omega);have hVi:=bI (v:=V) (i:=i) iu;have hdd:V/4294967296 ^ i % 4294967296<4294967296:=Nat.mod_lt _ (by decide);have hZi:Z[i]'(by omega)=Y[i]'(by omega):=by
       have e1:=List.drop_eq_getElem_cons (l:=Z) (i:=i) (by omega);have e2:=List.drop_eq_getElem_cons (l:=Y.set (nd V) ((4294967295:Nat):Int)) (i:=i) (by omega);rw [m5,e2]at e1;injection e1 with e1 _;rw [<-e1,List.getElem_set_ne (by omega)]
      have hyi:=k3.get (i:=i) (by omega);obtain⟨y,hy⟩:=Int.eq_ofNat_of_zero_le hyi.1;have hy:Y[i]'(by omega)=(y:Int):=hy;have hyb:y<4294967296:=(by omega);have eC:aj .u64 (Int.add (cy:Int) (aj .u64 (Int.add (aj .u64 (Z[i]'(by omega))) (aj .u64 ((dg V)[i]'iu)))))=((cy+(y+V/4294967296 ^ i % 4294967296):Nat):Int):=by
       rw [hZi,hy,hVi,aW (n:=(y:Int)) (by omega) (by omega),aW (n:=((V/4294967296 ^ i % 4294967296:Nat):Int)) (by omega) (by omega)];rw [show Int.add (y:Int) ((V/4294967296 ^ i % 4294967296:Nat):Int)=((y+V/4294967296 ^ i % 4294967296:Nat):Int)from rfl,aW (n:=((y+V/4294967296 ^ i % 4294967296:Nat):Int)) (by omega) (by omega)];exact aW (n:=((cy+(y+V/4294967296 ^ i % 4294967296):Nat):Int)) (by omega) (by omega)
      have eS:aj .u32 (aj .u64 (Int.add (cy:Int) (aj .u64 (Int.add (aj .u64 (Z[i]'(by omega))) (aj .u64 ((dg V)[i]'iu))))))=(((cy+(y+V/4294967296 ^ i % 4294967296)) % 4294967296:Nat):Int):=(by rw [eC,wrap_u32];exact(Int.natCast_emod _ _).symm);have eC2:Int.ofNat (Nat.div (aj .u64 (Int.add (cy:Int) (aj .u64 (Int.add (aj .u64 (Z[i]'(by omega))) (aj .u64 ((dg V)[i]'iu)))))).toNat (Nat.pow 2 (Nat.min (Int.toNat 32) (fP .u64))))=(((cy+(y+V/4294967296 ^ i % 4294967296))/4294967296:Nat):Int):=(by rw [eC];rfl);have hm2:V % 4294967296 ^ (i+1)=V % 4294967296 ^ i+4294967296 ^ i*(V/4294967296 ^ i % 4294967296):=(by rw [Nat.pow_succ,Nat.mod_mul]);have hvy:val (Y.take (i+1))=val (Y.take i)+4294967296 ^ i*y:=by
       rw [sN (by omega),hy,Int.toNat_natCast]
      have hdv:=Nat.div_add_mod (cy+(y+V/4294967296 ^ i % 4294967296)) 4294967296;have mT:∀w:Int,w=(((cy+(y+V/4294967296 ^ i % 4294967296)) % 4294967296:Nat):Int) ->((i+1<=nd V/\(Z.set i w).length=nd V+1/\DG (Z.set i w)/\(cy+(y+V/4294967296 ^ i % 4294967296))/4294967296<=1/\(Z.set i w).drop (i+1)=(Y.set (nd V) ((4294967295:Nat):Int)).drop (i+1)/\
        val ((Z.set i w).take (i+1))+(cy+(y+V/4294967296 ^ i % 4294967296))/4294967296*4294967296 ^ (i+1)=val (Y.take (i+1))+V % 4294967296 ^ (i+1))):=by
       rintro w rfl;refine⟨h,by rw [List.length_set,m2],m3.set i (Int.natCast_nonneg _) (by omega),by omega,?_,?_⟩
       .rw [List.drop_set_of_lt (by omega)];have e1:=congrArg (List.drop 1) m5;rwa [List.drop_drop,List.drop_drop]at e1
       .have e1:∀w:Int,(Z.set i w).take (i+1)=Z.take i++[w]:=λw=>by
         rw [List.take_succ_eq_append_getElem (by rw [List.length_set];omega),List.getElem_set_self,List.take_set_of_le (Nat.le_refl _)]
        rw [e1,oz,List.length_take_of_le (by omega),Int.toNat_natCast,hvy,hm2,Nat.pow_succ];generalize 4294967296 ^ i=B at*;generalize V/B % 4294967296=dd at*;generalize val (Z.take i)=A at*;generalize V % B=VB at*;generalize val (Y.take i)=YB at*;have e2:=congrArg (B*·) hdv;have e3:(cy+(y+dd))/4294967296*(B*4294967296)=B*(4294967296*((cy+(y+dd))/4294967296)):=(by rw [Nat.mul_comm,Nat.mul_assoc]);rw [e3];simp only [Nat.mul_add]at e2 ⊢;rw [Nat.mul_comm cy]at m6;omega
      conv=>whnf
      refine aL.go i rfl iu (aC ?_);refine⟨_,(au .u32).rd rfl iu,aC ?_⟩;refine aL.go i rfl (show i<nd V+1 by omega) (aC ?_);refine⟨_,rdW rfl hp (W:=Z) (i:=i) (by omega),aC ?_⟩;refine aL.go i rfl (show i<nd V+1 by omega) (aC ?_);refine stW hp (W:=Z) (i:=i) _ (by omega) (aC ?_);refine⟨⟨by rw [eC];exact Int.natCast_nonneg _,by decide⟩,aC ?_⟩;refine⟨(i+1,(cy+(y+V/4294967296 ^ i % 4294967296))/4294967296,_),mT _ rfl,(by show nd V - (i+1)<nd V - i;omega),?_⟩;refine Sub.of (gU [64,65]) [] rfl rfl rfl ?_ ?_
      .exact Ap
      .repeat' first|exact aB|exact rfl|refine And.intro ?_ ?_
       all_goals first|exact(au .u32).bm _|exact congrArg (λy=>(au .u32).l (p++Z.set i y++q)) eS
     .have h:i=nd V:=(by have:=aX.1 h;have this:((nd V:Nat):Int)<=(i:Int):=this;omega);subst h;rw [Nat.mod_eq_of_lt YC]at m6;have hZt:Z[nd V]'(by omega)=((4294967295:Nat):Int):=by
       have e1:=List.drop_eq_getElem_cons (l:=Z) (i:=nd V) (by omega);have e2:=List.drop_eq_getElem_cons (l:=Y.set (nd V) ((4294967295:Nat):Int)) (i:=nd V) (by omega);rw [m5,e2]at e1;injection e1 with e1 _;rw [<-e1,List.getElem_set_self]
      have hzt:val (Z.take (nd V))<4294967296 ^ nd V:=by
       have:=pj (m3.take (nd V));rwa [List.length_take_of_le (by omega)]at this
      have hr:=Nat.mod_lt (val W) hV0;have hcy:cy=1:=by
       rcases(by omega:cy=0\/cy=1)with e|e
       .rw [e,Nat.zero_mul]at m6;omega
       .exact e
      rw [hcy,Nat.one_mul]at m6;have e8:=tq Z 0 m2 m3 (by decide) (by omega);conv=>whnf
      refine aL.go (nd V) rfl (Nat.lt_succ_self _) (aC ?_);refine⟨_,rdW rfl hp (W:=Z) (i:=nd V) (by omega),aC ?_⟩;refine aL.go (nd V) rfl (Nat.lt_succ_self _) (aC ?_);refine stW hp (W:=Z) (i:=nd V) _ (by omega) (aC ?_);refine⟨?_,rfl,?_,rfl,aB⟩
      .refine congrArg (AV.int .u32) ?_;have hqb:val W/V<4294967296:=(by rw [Nat.div_lt_iff_lt_mul hV0,Nat.mul_comm];exact cR);show aj .u32 (aj .u64 ((x:Int) - 1))=((val W/V:Nat):Int)
       clear tq e8;generalize val W/V=QQ at*;rw [e6,aW (n:=((QQ+1:Nat):Int) - 1) (by omega) (by omega),gA (n:=((QQ+1:Nat):Int) - 1) (by omega) (by omega)];omega
      .have e9:aj .u32 (Int.add (Z[nd V]'(by omega)) (aj .u32 (cy:Int)))=((0:Nat):Int):=by
        rw [hZt,hcy];rfl
       rw [<-e9]at e8;exact congrArg (λl=>some (AO.gl ((au .u32).l (p++l++q)) false)) e8
    .refine Sub.of (gU [64,65]) [] rfl rfl rfl ?_ ?_
     .repeat' first|exact aB|exact rfl|refine And.intro ?_ ?_
      all_goals exact congrArg Int.ofNat lV
     .repeat' first|exact aB|exact rfl|refine And.intro ?_ ?_
      all_goals first|exact(au .u32).bm _|exact congrArg (λy=>(au .u32).l (p++Y.set (nd V) y++q)) e5
 .refine Sub.of (gU [64,65]) [] rfl rfl rfl ?_ ?_
  .repeat' first|exact aB|exact rfl|refine And.intro ?_ ?_
   all_goals exact congrArg Int.ofNat lV
  .repeat' first|exact aB|exact rfl|refine And.intro ?_ ?_
   all_goals first|exact(au .u32).bm _
end
section
attribute [local irreducible] Cw ak bq PF Sub
attribute [local instance] tbD
theorem MG (d:DI) (hd:d.OK) {B0:Nat}:InD (afQ d) d B0:=by
 have hc:=az (P:=prog) ae [] B0;obtain⟨off,p,W,q,Q,V,cap⟩:=d;obtain⟨hp,hn,hW,hD,cR,hs⟩:=hd;simp only at hp hn hW hD cR hs;have lV:=bj V;have YC:=dV V;have aiH:4294967296 ^ (nd V - 1)<=V:=qK (by omega);have kw:=KW.mk' hn YC aiH cR;have Tv:=pj hD;rw [hW]at Tv;have g1:=xP hD (i:=nd V) (by omega);have g2:=xP hD (i:=nd V - 1) (by omega);have g3:=xP hD (i:=nd V - 2) (by omega);have v1:=bI (v:=V) (i:=nd V - 1) (by omega);have v2:=bI (v:=V) (i:=nd V - 2) (by omega);have ei1:aj .i64 (Int.sub (Int.ofNat (dg V).length) 1)=((nd V - 1:Nat):Int):=by
  rw [lV];show aj .i64 (((nd V:Nat):Int) - 1)=_;rw [aA (by omega) (by omega)];omega
 have ei2:aj .i64 (Int.sub (Int.ofNat (dg V).length) 2)=((nd V - 2:Nat):Int):=by
  rw [lV];show aj .i64 (((nd V:Nat):Int) - 2)=_;rw [aA (by omega) (by omega)];omega
 have ej1:=ei1;have ej2:=ei2;rw [lV]at ej1 ej2;have Yv:val W/4294967296 ^ nd V % 4294967296<4294967296:=Nat.mod_lt _ (by decide);have hd2:val W/4294967296 ^ (nd V - 1) % 4294967296<4294967296:=Nat.mod_lt _ (by decide);obtain⟨pk1,pk2⟩:=Tu g1 g2 Yv hd2;have hhi:val W/4294967296 ^ nd V % 4294967296*4294967296+val W/4294967296 ^ (nd V - 1) % 4294967296=val W/4294967296 ^ (nd V - 1):=by
  have e1:(4294967296:Nat) ^ nd V=4294967296 ^ (nd V - 1)*4294967296:=by rw [<-Nat.pow_succ];congr 1;omega
  have e2:val W/4294967296 ^ nd V<4294967296:=by
   rw [Nat.div_lt_iff_lt_mul (Nat.pow_pos (by decide)),Nat.mul_comm,<-Nat.pow_succ];exact Tv
  rw [Nat.mod_eq_of_lt e2,e1,<-Nat.div_div_eq_div_mul,Nat.mul_comm];exact Nat.div_add_mod _ _
 rw [hhi]at pk2;have aj0:=kw.hiB;have hh0:=kw.h0;have hhb:=kw.hb;have hlb:=kw.lb;have hub:=kw.ub;have ev1:aj .u64 ((dg V)[nd V - 1]'(by omega))=((V/4294967296 ^ (nd V - 1):Nat):Int):=by
  rw [v1,Nat.mod_eq_of_lt hhb];exact aW (by omega) (by omega)
 have ev2:aj .u64 ((dg V)[nd V - 2]'(by omega))=((V/4294967296 ^ (nd V - 2) % 4294967296:Nat):Int):=by
  rw [v2];exact aW (by omega) (by omega)
 generalize hHI:val W/4294967296 ^ (nd V - 1)=HI at*;generalize hh:V/4294967296 ^ (nd V - 1)=h at*;generalize hl:V/4294967296 ^ (nd V - 2) % 4294967296=l at*;generalize hu2:val W/4294967296 ^ (nd V - 2) % 4294967296=u2 at*;generalize 4294967296 ^ (nd V - 2)=M at*;generalize val W % M=U' at*;generalize V % M=V' at*;obtain⟨dA,lr⟩:=kw.start;refine PK af rfl rfl hc 5 _ (aC ?_);refine aL.go (nd V) (congrArg Int.ofNat lV) (Nat.lt_succ_self _) (aC ?_);refine⟨_,rdW rfl hp (W:=W) (i:=nd V) (by omega),aC ?_⟩;refine⟨by decide,aC ?_⟩;refine aL.go (nd V - 1) ei1 (show nd V - 1<nd V+1 by omega) (aC ?_);refine⟨_,rdW rfl hp (W:=W) (i:=nd V - 1) (by omega),?_⟩;refine⟨pk1,aC ?_⟩;refine aL.go (nd V - 1) ei1 (show nd V - 1<(dg V).length by omega) (aC ?_);refine⟨_,(au .u32).rd rfl (by omega:nd V - 1<(dg V).length),?_⟩;have afR:aj .u64 ((dg V)[nd V - 1]'(by omega))≠0:=by rw [ev1];omega
 conv=>whnf
 refine⟨afR,aC ?_⟩;refine aL.go (nd V - 1) ei1 (show nd V - 1<(dg V).length by omega) (aC ?_);refine⟨_,(au .u32).rd rfl (by omega:nd V - 1<(dg V).length),aC ?_⟩;refine⟨afR,aC ?_⟩;have hqb:HI/h<=HI:=Nat.div_le_self _ _;have hHb:HI<18446744073709551616:=by
  have:h*4294967296<=4294967295*4294967296:=Nat.mul_le_mul_right _ (by omega);omega
 refine Cw.loop (ι:=Nat×Nat) (λx=>bl [(0,.slice (pathOf 64) (Nat.mul off 1) (nd V+1) cap 1),(1,aM.v V),(5,.int .i64 (nd V:Nat)),(7,.int .u64 (x.1:Nat)),(8,.int .u64 (x.2:Nat))]) (λ_=>[]) (λ_=>YA ⟨off,p,W,q,Q,V,cap⟩ W)
  (λx=>x.1*h+x.2=HI/\val W/V<=x.1) (λx=>x.1) ?_ (HI/h,HI % h) ⟨lr,dA⟩ ?_
 .rintro ⟨x,r⟩ ⟨k1,k2⟩;have k1:x*h+r=HI:=k1;have k2:val W/V<=x:=k2;have hxb:x<=HI:=by
   have:x*1<=x*h:=Nat.mul_le_mul_left _ hh0;omega
  have hrb:r<=HI:=by omega
  refine aD af rfl rfl hc _ (aC ?_);refine ay (λt1=>?_) (λt1=>?_)
  .have t1:r<4294967296:=(by have:=aO.1 t1;omega);have abo:(4294967296<=x\/r*4294967296+u2<x*l) ->((x - 1)*h+(r+h)=HI/\val W/V<=x - 1)/\x - 1<x/\aj .u64 (Int.sub (x:Int) 1)=((x - 1:Nat):Int)/\aj .u64 (Int.add (r:Int) (aj .u64 ((dg V)[nd V - 1]'(by omega))))=((r+h:Nat):Int):=by
    clear hc;intro ht;have zz:=kw.step k1 k2 ht;refine⟨⟨zz.2.1,zz.1⟩,by have:=zz.2.2;omega,?_,?_⟩
    .show aj .u64 ((x:Int) - 1)=((x - 1:Nat):Int)
     have:=zz.2.2;rw [aW (by omega) (by omega)];omega
    .rw [ev1];exact aW (n:=((r+h:Nat):Int)) (by omega) (by omega)
   conv=>whnf
   refine ay (λt2=>?_) (λt2=>?_)
   .have t2:4294967296<=x:=(by have:=cG.1 t2;omega);have zz:=abo (.inl t2);conv=>whnf
    refine aL.go (nd V - 1) ej1 (show nd V - 1<(dg V).length by omega) (aC ?_);refine⟨_,(au .u32).rd rfl (by omega:nd V - 1<(dg V).length),aC ?_⟩;refine⟨(x - 1,r+h),zz.1,zz.2.1,?_⟩;refine Sub.of (gU [64,65]) [] rfl rfl rfl ?_ ?_
    .repeat' first|exact aB|exact rfl|refine And.intro ?_ ?_
     all_goals first|exact zz.2.2.1|exact zz.2.2.2
    .repeat' first|exact aB|exact rfl|refine And.intro ?_ ?_
     all_goals first|exact(au .u32).bm _
   .have t2:x<4294967296:=(by have:=kG.1 t2;omega);have pk:=Yz (r:=r) t1 g3 hub;have eP:aj .u64 (Int.mul (x:Int) (aj .u64 ((dg V)[nd V - 2]'(by omega))))=((x*l:Nat):Int):=by
     rw [ev2];have hm:x*l<=4294967295*4294967295:=Nat.mul_le_mul (by omega) (by omega);exact aW (n:=((x*l:Nat):Int)) (by omega) (by omega)
    conv=>whnf
    refine aL.go (nd V - 2) ej2 (show nd V - 2<(dg V).length by omega) (aC ?_);refine⟨_,(au .u32).rd rfl (by omega:nd V - 2<(dg V).length),aC ?_⟩;refine⟨by decide,aC ?_⟩;refine aL.go (nd V - 2) ej2 (show nd V - 2<nd V+1 by omega) (aC ?_);refine⟨_,rdW rfl hp (W:=W) (i:=nd V - 2) (by omega),aC ?_⟩;refine⟨pk.1,aC ?_⟩;refine ay (λt3=>?_) (λt3=>?_)
    .have t3:r*4294967296+u2<x*l:=by
      have:=aO.1 t3;rw [eP,pk.2]at this;exact Int.ofNat_lt.1 this
     have zz:=abo (.inr t3);conv=>whnf
     refine aL.go (nd V - 1) ej1 (show nd V - 1<(dg V).length by omega) (aC ?_);refine⟨_,(au .u32).rd rfl (by omega:nd V - 1<(dg V).length),aC ?_⟩;refine⟨(x - 1,r+h),zz.1,zz.2.1,?_⟩;refine Sub.of (gU [64,65]) [] rfl rfl rfl ?_ ?_
     .repeat' first|exact aB|exact rfl|refine And.intro ?_ ?_
      all_goals first|exact zz.2.2.1|exact zz.2.2.2
     .repeat' first|exact aB|exact rfl|refine And.intro ?_ ?_
      all_goals first|exact(au .u32).bm _
    .have t3:x*l<=r*4294967296+u2:=by
      have:=aX.1 t3;rw [eP,pk.2]at this;exact Int.ofNat_le.1 this
     have zz:x<4294967296/\x*V<val W+V:=KW.exit (q:=x) (r:=r) kw k1 k2 (Or.inr ⟨t2,t3⟩);conv=>whnf
     refine Cw.weaken ?_ (GU ⟨off,p,W,q,Q,V,cap⟩ ⟨hp,hn,hW,hD,cR,hs⟩ x zz.1 zz.2 k2);refine Sub.of (gU [64,65]) [] rfl rfl rfl ?_ ?_
     .exact oR
     .repeat' first|exact aB|exact rfl|refine And.intro ?_ ?_
      all_goals first|exact(au .u32).bm _
  .have t1:4294967296<=r:=(by have:=aX.1 t1;omega);have zz:x<4294967296/\x*V<val W+V:=KW.exit (q:=x) (r:=r) kw k1 k2 (Or.inl t1);conv=>whnf
   refine Cw.weaken ?_ (GU ⟨off,p,W,q,Q,V,cap⟩ ⟨hp,hn,hW,hD,cR,hs⟩ x zz.1 zz.2 k2);refine Sub.of (gU [64,65]) [] rfl rfl rfl ?_ ?_
   .exact oR
   .repeat' first|exact aB|exact rfl|refine And.intro ?_ ?_
    all_goals first|exact(au .u32).bm _
 .refine Sub.of (gU [64,65]) [] rfl rfl rfl ?_ ?_
  .repeat' first|exact aB|exact rfl|refine And.intro ?_ ?_
   all_goals first|exact congrArg Int.ofNat lV|skip
   .rw [pk2,ev1];exact aW (n:=((HI/h:Nat):Int)) (Int.natCast_nonneg _) (by omega)
   .rw [pk2,ev1];exact Int.ofNat_tmod _ _|>.symm
  .repeat' first|exact aB|exact rfl|refine And.intro ?_ ?_
   all_goals first|exact(au .u32).bm _
theorem Tw (d:DI) (hd:d.OK) (h0:d.off=0) {B0:Nat}:InD (abn d) d B0:=by
 obtain⟨off,p,W,q,Q,V,cap⟩:=d;obtain rfl:off=0:=h0;exact Cw.XX (k:=0) (id:=pathOf 64) (n:=nd V+1) (sz:=1) rfl (Nat.succ_ne_zero _) (MG ⟨0,p,W,q,Q,V,nd V+1⟩ ⟨hd.hp,hd.hn,hd.hW,hd.hD,hd.cR,hd.hs⟩)
end
section
attribute [local irreducible] Cw ak bq PF Sub
attribute [local instance] fp
theorem YD {f0:FuncId} {PC xs:AV} {h0 h:Heap} {v0:AV} {h1:Heap} {call:eL ->AV ->Heap ->CR} (dD:h≠h0) {K:AV ->Heap ->Prop} (hk:∃v h',call (.fn f0) xs h= .ret v h'/\K v h'):∃v h',jS f0 PC h0 v0 h1 call (.fn f0) xs h= .ret v h'/\K v h':=by
 obtain⟨v,h',e,k⟩:=hk;exact⟨v,h',(if_neg (λe=>dD e.2.2)).trans e,k⟩
theorem MH {d d':DI} (h:d.OK) (h':d'.OK) (e:YA d d.W=YA d' d'.W) (e1:d.off=d'.off) (e2:d.V=d'.V):d.p=d'.p/\d.W=d'.W/\d.q=d'.q/\d.Q=d'.Q:=by
 have g1:some (AO.gl ((au .u32).l (d.p++d.W++d.q)) false)=some (AO.gl ((au .u32).l (d'.p++d'.W++d'.q)) false):=congrArg (λh=>h.t.get (pathOf 64)) e;have g2:some (AO.gl ((au .u32).l d.Q) false)=some (AO.gl ((au .u32).l d'.Q) false):=congrArg (λh=>h.t.get (pathOf 65)) e;injection g1 with g1;injection g1 with g1 _;injection g2 with g2;injection g2 with g2 _;have g1:=(au .u32).vd g1;have g2:=(au .u32).vd g2;rw [List.append_assoc,List.append_assoc]at g1;obtain⟨a1,a2⟩:=List.append_inj g1 (by rw [h.hp,h'.hp,e1]);obtain⟨a3,a4⟩:=List.append_inj a2 (by rw [h.hW,h'.hW,e2]);exact⟨a1,a3,a4,g2⟩
theorem MI {d d':DI} (e:d.p=d'.p/\d.W=d'.W/\d.q=d'.q/\d.Q=d'.Q) (e2:d.V=d'.V):(AV.int .u32 (val d.W/d.V:Nat)=AV.int .u32 (val d'.W/d'.V:Nat))/\HDg d=HDg d'/\pathOf 66=pathOf 66:=by
 obtain⟨a1,a2,a3,a4⟩:=e;unfold HDg zr;rw [a1,a2,a3,a4,e2];exact⟨rfl,rfl,rfl⟩
def Tx:Av (Bool×DI) where
 ar:=λi=>match i.1 with|false=>afQ i.2|true=>abn i.2
 h0:=λi=>YA i.2 i.2.W
 v:=λi=> .int .u32 (val i.2.W/i.2.V:Nat)
 H:=λi=>HDg i.2
 N:=λ_=>pathOf 66
 ok:=λi=>i.2.OK/\(i.1=true ->i.2.off=0)
 inj:=by
  rintro ⟨b,d⟩ ⟨b',d'⟩ ⟨h1,h2⟩ ⟨h3,h4⟩ e1 e2;cases b<;>cases b'
  .injection e1 with e3 e4;injection e3 with _ e5 _ _ _;injection e4 with e4 _;have e4:=aM.bO e4;exact MI (MH h1 h3 e2 (by simpa using e5) e4) e4
  .injection e1 with e3 _;cases e3
  .injection e1 with e3 _;cases e3
  .injection e1 with e3 e4;injection e4 with e4 _;have e4:=aM.bO e4;exact MI (MH h1 h3 e2 ((h2 rfl).trans (h4 rfl).symm) e4) e4
theorem YE {B0:Nat} {call:eL ->AV ->Heap ->CR} (aZ:@aU fp prog B0 call):@aU fp prog B0 (fQ 205 Tx call):=
 jX ae 2 aZ (fn:=f205) rfl rfl Tx (λi hi=>by
  obtain⟨b,d⟩:=i;obtain⟨h1,h2⟩:=hi;cases b with
  |false=>exact⟨_,_,rfl,rfl,Nat.le_refl _,MG d h1⟩|true=>exact⟨_,_,rfl,rfl,Nat.le_refl _,Tw d h1 (h2 rfl)⟩)
def YF:List (Cn prog):=[iD,vn,eW,ac4,GO,Ca]
def cDv (a k:Nat):eL ->AV ->Heap ->CR:=
 fQ 205 Tx (jS 204 (.cons (aM.v a) (.cons (.int .i64 k) .nil)) ⟨.leaf,pathOf 64⟩ (.gs (pathOf 64) (nd a+1) 1) (MD a k) (aH YF))
theorem Ty (a k:Nat) (ha:nd a<134217728) (hk:k<32) (B0:Nat):aU prog B0 (cDv a k):=
 YE (jT ae 0 (az ae YF B0) (fn:=f204) rfl rfl rfl rfl (by decide) (GN a k ha hk (λr hr=>GM (congrArg (λx=>some (AV.cons x .nil)) hr) rfl ⟨rfl,aB⟩)))
theorem Qc (n:Nat):n<2 ^ bitLen n:=by
 cases n with
 |zero=>decide|succ n=>exact Nat.lt_log2_self
theorem Qd {n:Nat} (h:n≠0):2 ^ (bitLen n - 1)<=n:=by
 cases n with
 |zero=>exact absurd rfl h|succ n=>exact Nat.log2_self_le (by omega)
structure DvK (b k:Nat):Prop where
 k32:k<32
 lt:b*2 ^ k<4294967296 ^ nd b
 ge:4294967296 ^ (nd b - 1)<=b*2 ^ k
theorem DvK.of {b:Nat} (hb:b≠0):DvK b (32 - bitLen (b/4294967296 ^ (nd b - 1) % 4294967296)):=by
 have hn:nd b≠0:=λe=>by rw [nQ hb]at e;omega
 have cR:=dV b;have RT:4294967296 ^ (nd b - 1)<=b:=qK (by omega);have hB:0<4294967296 ^ (nd b - 1):=Nat.pow_pos (by decide);have e:(4294967296:Nat) ^ nd b=4294967296 ^ (nd b - 1)*4294967296:=by rw [<-Nat.pow_succ];congr 1;omega
 have h1:b/4294967296 ^ (nd b - 1)<4294967296:=by rw [Nat.div_lt_iff_lt_mul hB,Nat.mul_comm,<-e];exact cR
 have h2:0<b/4294967296 ^ (nd b - 1):=Nat.div_pos RT hB;rw [Nat.mod_eq_of_lt h1];have h3:=Qc (b/4294967296 ^ (nd b - 1));have h4:=Qd (n:=b/4294967296 ^ (nd b - 1)) (by omega);have h5:=bitLen_le (n:=b/4294967296 ^ (nd b - 1)) (k:=32) h1;have h6:bitLen (b/4294967296 ^ (nd b - 1))≠0:=λe0=>by rw [e0]at h3;omega
 have hdm:=Nat.div_add_mod b (4294967296 ^ (nd b - 1));have hml:=Nat.mod_lt b hB;generalize b/4294967296 ^ (nd b - 1)=t at*;have GF:0<2 ^ (32 - bitLen t):=Nat.two_pow_pos _;refine⟨by omega,?_,Nat.le_trans RT (Nat.le_mul_of_pos_right _ GF)⟩;have h7:b<(t+1)*4294967296 ^ (nd b - 1):=by rw [Nat.add_mul,Nat.one_mul,Nat.mul_comm t];omega
 have h8:(t+1)*2 ^ (32 - bitLen t)<=4294967296:=by
  have:(t+1)*2 ^ (32 - bitLen t)<=2 ^ bitLen t*2 ^ (32 - bitLen t):=Nat.mul_le_mul_right _ h3;rwa [<-Nat.pow_add,show bitLen t+(32 - bitLen t)=32 by omega]at this
 have h9:b*2 ^ (32 - bitLen t)<(t+1)*4294967296 ^ (nd b - 1)*2 ^ (32 - bitLen t):=Nat.mul_lt_mul_of_pos_right h7 GF;have IP:(t+1)*4294967296 ^ (nd b - 1)*2 ^ (32 - bitLen t)<=4294967296 ^ nd b:=by
  rw [Nat.mul_right_comm,e,Nat.mul_comm (4294967296 ^ (nd b - 1))];exact Nat.mul_le_mul_right _ h8
 omega
def kX (L Q:List Int) (V i:Nat):DI:=⟨i,L.take i,(L.drop i).take (nd V+1),L.drop (i+(nd V+1)),Q,V,L.length - i⟩
theorem Qf {L Q:List Int} {V i:Nat}:(kX L Q V i).p++(kX L Q V i).W++(kX L Q V i).q=L:=by
 show L.take i++(L.drop i).take (nd V+1)++L.drop (i+(nd V+1))=L;rw [List.append_assoc,<-List.drop_drop,List.take_append_drop,List.take_append_drop]
theorem zt {L Q:List Int} {V i R:Nat} (hL:DG L) (hi:i+(nd V+1)<=L.length) (hv:val L=R) (hR:R<V*4294967296 ^ (i+1)):val (kX L Q V i).W=R/4294967296 ^ i/\val (L.drop (i+(nd V+1)))=0:=by
 have hVl:=dV V;have e0:val L=val (L.take i)+4294967296 ^ i*(val ((L.drop i).take (nd V+1))+4294967296 ^ (nd V+1)*val (L.drop (i+(nd V+1)))):=by
  conv=>lhs;rw [<-List.take_append_drop i L,gf,List.length_take_of_le (by omega),<-List.take_append_drop (nd V+1) (L.drop i),gf,List.length_take_of_le (by rw [List.length_drop];omega),List.drop_drop]
 have h1:val (L.take i)<4294967296 ^ i:=by
  have:=pj (hL.take i);rwa [List.length_take_of_le (by omega)]at this
 have hB:0<4294967296 ^ i:=Nat.pow_pos (by decide);have h2:R/4294967296 ^ i=val ((L.drop i).take (nd V+1))+4294967296 ^ (nd V+1)*val (L.drop (i+(nd V+1))):=by
  rw [<-hv,e0,Nat.add_mul_div_left _ _ hB,Nat.div_eq_of_lt h1,Nat.zero_add]
 have h3:R/4294967296 ^ i<4294967296 ^ (nd V+1):=by
  rw [Nat.div_lt_iff_lt_mul hB];have e1:V*4294967296 ^ (i+1)=V*4294967296*4294967296 ^ i:=by rw [Nat.pow_succ,Nat.mul_comm (4294967296 ^ i),Nat.mul_assoc]
  have e2:V*4294967296<4294967296 ^ nd V*4294967296:=Nat.mul_lt_mul_of_pos_right hVl (by decide);have e3:=Nat.mul_lt_mul_of_pos_right e2 hB;rw [Nat.pow_succ];omega
 have h4:val (L.drop (i+(nd V+1)))=0:=by
  apply Nat.eq_zero_of_not_pos;intro h0;have:=Nat.mul_le_mul_left (4294967296 ^ (nd V+1)) (show 1<=val (L.drop (i+(nd V+1)))from h0);omega
 refine⟨?_,h4⟩;show val ((L.drop i).take (nd V+1))=_;rw [h2,h4,Nat.mul_zero];rfl
theorem YG {L Q:List Int} {V i R:Nat} (hL:DG L) (hi:i+(nd V+1)<=L.length) (hv:val L=R) (hR:R<V*4294967296 ^ (i+1)) (hn:2<=nd V) (hs:nd V<134217729):(kX L Q V i).OK:=by
 have hB:0<4294967296 ^ i:=Nat.pow_pos (by decide);refine⟨List.length_take_of_le (by omega),hn,?_,?_,?_,hs⟩
 .show((L.drop i).take (nd V+1)).length=_;rw [List.length_take_of_le (by rw [List.length_drop];omega)];rfl
 .exact λx hx=>hL x (List.mem_of_mem_drop (List.mem_of_mem_take hx))
 .rw [(zt hL hi hv hR).1];show R/4294967296 ^ i<V*4294967296;rw [Nat.div_lt_iff_lt_mul hB,Nat.mul_assoc,<-Nat.pow_succ'];exact hR
theorem Qg {L Q:List Int} {V i R:Nat} (hL:DG L) (hi:i+(nd V+1)<=L.length) (hv:val L=R) (hR:R<V*4294967296 ^ (i+1)) (hV:0<V):
  DG ((kX L Q V i).p++zr (kX L Q V i)++(kX L Q V i).q)/\((kX L Q V i).p++zr (kX L Q V i)++(kX L Q V i).q).length=L.length/\val ((kX L Q V i).p++zr (kX L Q V i)++(kX L Q V i).q)=R % (V*4294967296 ^ i):=by
 obtain⟨h1,h2⟩:=zt (Q:=Q) hL hi hv hR;have hB:0<4294967296 ^ i:=Nat.pow_pos (by decide);have hVl:=dV V;have hm:R/4294967296 ^ i % V<4294967296 ^ (nd V+1):=by
  have:=Nat.mod_lt (R/4294967296 ^ i) hV;have:4294967296 ^ nd V<=4294967296 ^ (nd V+1):=Nat.pow_le_pow_right (by decide) (by omega);omega
 have hp:(L.take i).length=i:=List.length_take_of_le (by omega);refine⟨?_,?_,?_⟩
 .exact DG.append.2 ⟨DG.append.2 ⟨hL.take i,gH _ _⟩,λx hx=>hL x (List.mem_of_mem_drop hx)⟩
 .show(L.take i++fL (nd V+1) _++L.drop (i+(nd V+1))).length=_;rw [List.length_append,List.length_append,hp,bf,List.length_drop];omega
 .show val (L.take i++fL (nd V+1) (val (kX L Q V i).W % V)++L.drop (i+(nd V+1)))=_;rw [List.append_assoc,gf,hp,gf,bf,h2,h1,gO,Nat.mod_eq_of_lt hm,Nat.mul_zero,Nat.add_zero,Ts hL (by omega),hv,Nat.mul_comm V,Nat.mod_mul]
theorem Qh (a b:Nat) (ha:nd a<134217728) (h2:2<=nd b) (hle:b<=a):dQ 144 (.cons (aM.v a) (.cons (aM.v b) .nil)) (.aS (.cons (aM.v (a/b)) (.cons (aM.v (a % b)) .nil))):=by
 have AG:b≠0:=λe=>by rw [e]at h2;exact absurd h2 (by decide)
 have hba:nd b<=nd a:=px hle;have lb:=bj b;have la:=bj a;have hK:=DvK.of AG;have hi:nd b - 1<(dg b).length:=by omega
 have hx:=bI (v:=b) hi;have hxb:b/4294967296 ^ (nd b - 1) % 4294967296<4294967296:=Nat.mod_lt _ (by decide);generalize QX:32 - bitLen (b/4294967296 ^ (nd b - 1) % 4294967296)=k at*;have hk:=hK.k32;have Tz:0<b*2 ^ k:=Nat.mul_pos (Nat.pos_of_ne_zero AG) (Nat.two_pow_pos k);have hnV:nd (b*2 ^ k)=nd b:=by
  apply Nat.le_antisymm (xa hK.lt);apply Nat.le_of_not_lt;intro cR;have h3:=dV (b*2 ^ k);have h4:(4294967296:Nat) ^ nd (b*2 ^ k)<=4294967296 ^ (nd b - 1):=Nat.pow_le_pow_right (by decide) (by omega);have:=hK.ge;omega
 have hei:aj .i64 (Int.sub (Int.ofNat (dg b).length) 1)=((nd b - 1:Nat):Int):=by
  rw [lb];show aj .i64 (((nd b:Nat):Int) - 1)=_;rw [aA (by omega) (by omega)];omega
 have hql:aj .i64 (Int.add (aj .i64 (Int.sub (Int.ofNat (dg a).length) (Int.ofNat (dg b).length))) 1)=((nd a - nd b+1:Nat):Int):=by
  rw [la,lb];show aj .i64 (aj .i64 (((nd a:Nat):Int) - ((nd b:Nat):Int))+1)=_;rw [aA (n:=((nd a:Nat):Int) - ((nd b:Nat):Int)) (by omega) (by omega),aA (by omega) (by omega)];omega
 refine PF.of_wp (c:=_) af (by decide) (fn:=f144) rfl rfl rfl (.cons (aM.an _) (.cons (aM.an _) .nil)) (call:=cDv a k) (λB0=>Ty a k ha hk B0) ?_;intro B0;have hc:=Ty a k ha hk B0;conv=>whnf
 refine bS (by decide) (gP (by decide) (cn (l:=YF) (by decide) 0 (c:=iD) rfl (a,b) ⟨by show nd a<_;omega,by show nd b<_;omega⟩ (hk:=?_)));conv=>whnf
 refine xA (aX.2 (show 0<=km a b by unfold km;split<;>omega)) (aC ?_);refine xA (jo.2 (show Int.ofNat (dg b).length≠1 by rw [lb];exact λe=>by have:((nd b:Nat):Int)=1:=e;omega)) (aC ?_);refine aL.go (nd b - 1) hei hi (aC ?_);refine⟨_,(au .u32).rd rfl hi,aC ?_⟩;have hLZ:ac4.v ((dg b)[nd b - 1]'hi)=(au .i64).v (k:Int):=by
  rw [hx,<-QX];rfl
 refine bS (by decide) (gP (by decide) (cC (l:=YF) (by decide) 3 (c:=ac4) rfl ((dg b)[nd b - 1]'hi) (by rw [hx];exact⟨Int.natCast_nonneg _,by omega⟩) hLZ (hk:=?_)));conv=>whnf
 refine bS (by decide) (pn (hk:=?_));conv=>whnf
 refine bS (by decide) (YD (λe=>absurd (show pathOf 65=pathOf 64 from congrArg Heap.n e) (by decide)) (cn (l:=YF) (by decide) 4 (c:=GO) rfl (b,(k:Int)) ⟨by show nd b<_;omega,Int.natCast_nonneg _,by show(k:Int)<32;omega⟩ (hk:=?_)));conv=>whnf
 have htr:val (fL (nd b+1) (b*2 ^ ((k:Int)).toNat))=b*2 ^ k:=by
  rw [gO,Int.toNat_natCast];exact Nat.mod_eq_of_lt (Nat.lt_of_lt_of_le hK.lt (Nat.pow_le_pow_right (by decide) (by omega)))
 refine bS (by decide) (gP (by decide) (cC (l:=YF) (by decide) 2 (c:=eW) rfl (fL (nd b+1) (b*2 ^ ((k:Int)).toNat)) ⟨gH _ _,by rw [bf];omega⟩ (v:=aM.v (b*2 ^ k)) (congrArg aM.v htr) (hk:=?_)));conv=>whnf
 refine(au .u32).mk' (x:=0) (nd a - nd b+1) (nd a - nd b+1) hql hql (Nat.le_refl _) (by show(nd a - nd b+1)*(4+1)<=_;omega) ?_;conv=>whnf
 have hV2:2<=nd (b*2 ^ k):=by omega
 have hVs:nd (b*2 ^ k)<134217729:=by omega
 generalize hVV:b*2 ^ k=V at*;generalize hmm:nd a - nd b+1=m at*;refine Cw.loop (ι:=Nat×Nat×List Int) (λz=>bl [(4,.gs (pathOf 65) m 1),(8,.int .i64 k),(9,.gs (pathOf 64) (nd a+1) 1),(10,aM.v V),(11,.int .i64 ((z.1:Int) - 1))]) (λ_=>[])
  (λz=>⟨bV [(pathOf 64,.gl ((au .u32).l (fL (nd a+1) z.2.1)) false),(pathOf 65,.gl ((au .u32).l (List.replicate z.1 0++z.2.2)) false)],pathOf 66⟩)
  (λz=>z.1<=m/\z.1+z.2.2.length=m/\DG z.2.2/\z.2.1<V*4294967296 ^ z.1/\a*2 ^ k=V*4294967296 ^ z.1*val z.2.2+z.2.1) (λz=>z.1) ?_ (m,a*2 ^ k,[]) ⟨Nat.le_refl _,rfl,.nil,?_,?_⟩ ?_
 .rintro ⟨j,R,qs⟩ ⟨m1,m2,m3,m4,m5⟩;have m1:j<=m:=m1;have m2:j+qs.length=m:=m2;have m3:DG qs:=m3;have m4:R<V*4294967296 ^ j:=m4;have m5:a*2 ^ k=V*4294967296 ^ j*val qs+R:=m5;by_cases hj:1<=j
  .have Tm:j - 1+1=j:=(by omega);generalize hii:j - 1=i at*;subst Tm;have lL:=bf (nd a+1) R;have dL:=gH (nd a+1) R;have hRA:R<4294967296 ^ (nd a+1):=by
    have h5:=dV a;have h6:a*2 ^ k<=a*4294967296:=Nat.mul_le_mul_left _ (by have:=Nat.pow_le_pow_right (n:=2) (by decide) (show k<=32 by omega);omega);have h7:a*4294967296<4294967296 ^ nd a*4294967296:=Nat.mul_lt_mul_of_pos_right h5 (by decide);rw [Nat.pow_succ];omega
   have vL:val (fL (nd a+1) R)=R:=(by rw [gO,Nat.mod_eq_of_lt hRA]);have hiL:i+(nd V+1)<=(fL (nd a+1) R).length:=(by omega);have hOK:=YG (Q:=List.replicate (i+1) 0++qs) dL hiL vL m4 hV2 hVs;have hNx:=Qg (Q:=List.replicate (i+1) 0++qs) dL hiL vL m4 Tz;have hWv:=(zt (Q:=List.replicate (i+1) 0++qs) dL hiL vL m4).1;refine aD af rfl rfl hc _ (aC ?_);refine bT (cG.2 (by show(0:Int)<=((i+1:Nat):Int) - 1;omega)) ?_;have eh1:aj .i64 (Int.add (aj .i64 (Int.add (((i+1:Nat):Int) - 1) (Int.ofNat (dg V).length))) 1)=((i+(nd V+1):Nat):Int):=by
    rw [bj];show aj .i64 (aj .i64 (((i+1:Nat):Int) - 1+((nd V:Nat):Int))+1)=_;rw [aA (n:=((i+1:Nat):Int) - 1+((nd V:Nat):Int)) (by omega) (by omega),aA (by omega) (by omega)];omega
   have eh2:((i+1:Nat):Int) - 1=(i:Int):=(by omega);have hdl:i+(nd V+1) - i=nd V+1:=(by omega);have heap:∀d:DI,d=kX (fL (nd a+1) R) (List.replicate (i+1) 0++qs) V i ->(⟨bV [(pathOf 64,.gl ((au .u32).l (fL (nd a+1) R)) false),(pathOf 65,.gl ((au .u32).l (List.replicate (i+1) 0++qs)) false)],pathOf 66⟩:Heap)=YA d d.W:=by
    rintro d rfl;show _=(⟨bV [(pathOf 64,.gl ((au .u32).l ((kX (fL (nd a+1) R) (List.replicate (i+1) 0++qs) V i).p++(kX (fL (nd a+1) R) (List.replicate (i+1) 0++qs) V i).W++(kX (fL (nd a+1) R) (List.replicate (i+1) 0++qs) V i).q)) false),(pathOf 65,.gl ((au .u32).l (List.replicate (i+1) 0++qs)) false)],pathOf 66⟩:Heap)
    rw [Qf]
   conv=>whnf
   refine JR.go (i+(nd V+1)) eh1 (by show i+(nd V+1)<=nd a+1;omega) (aC ?_);refine JR.go i eh2 (by omega) (aC ?_);have hB:0<4294967296 ^ i:=Nat.pow_pos (by decide);have eVB:V*4294967296 ^ (i+1)=V*4294967296 ^ i*4294967296:=(by rw [Nat.pow_succ,Nat.mul_assoc]);have hVB:0<V*4294967296 ^ i:=Nat.mul_pos Tz hB;have eQ:val (kX (fL (nd a+1) R) (List.replicate (i+1) 0++qs) V i).W/V=R/(V*4294967296 ^ i):=(by rw [hWv,Nat.div_div_eq_div_mul,Nat.mul_comm V]);have hQb:R/(V*4294967296 ^ i)<4294967296:=(by rw [Nat.div_lt_iff_lt_mul hVB,Nat.mul_comm,<-eVB];exact m4);have mw:i<(List.replicate (i+1) (0:Int)++qs).length:=(by simp;omega);have Pb:i<=m/\i+(((R/(V*4294967296 ^ i):Nat):Int)::qs).length=m/\DG (((R/(V*4294967296 ^ i):Nat):Int)::qs)/\R % (V*4294967296 ^ i)<V*4294967296 ^ i/\
     a*2 ^ k=V*4294967296 ^ i*val (((R/(V*4294967296 ^ i):Nat):Int)::qs)+R % (V*4294967296 ^ i):=by
    refine⟨by omega,by rw [List.length_cons];omega,DG.cons.2 ⟨⟨Int.natCast_nonneg _,by omega⟩,m3⟩,Nat.mod_lt _ hVB,?_⟩;show _=V*4294967296 ^ i*((((R/(V*4294967296 ^ i):Nat):Int)).toNat+4294967296*val qs)+_;rw [Int.toNat_natCast,Nat.mul_add,m5,eVB,Nat.mul_assoc (V*4294967296 ^ i)];have:=Nat.div_add_mod R (V*4294967296 ^ i);omega
   have hul:(kX (fL (nd a+1) R) (List.replicate (i+1) 0++qs) V i).p++zr (kX (fL (nd a+1) R) (List.replicate (i+1) 0++qs) V i)++(kX (fL (nd a+1) R) (List.replicate (i+1) 0++qs) V i).q=fL (nd a+1) (R % (V*4294967296 ^ i)):=by
    have e:=nr hNx.1;rw [hNx.2.1,lL,hNx.2.2]at e;exact e.symm
   have afS:(List.replicate (i+1) (0:Int)++qs).set i ((val (kX (fL (nd a+1) R) (List.replicate (i+1) 0++qs) V i).W/V:Nat):Int)=List.replicate i 0++(((R/(V*4294967296 ^ i):Nat):Int)::qs):=(by rw [eQ];exact BX);have aj1:aj .i64 (Int.sub (((i+1:Nat):Int) - 1) 1)=(i:Int) - 1:=by
    show aj .i64 (((i+1:Nat):Int) - 1 - 1)=_;rw [aA (by omega) (by omega)];omega
   by_cases h0:i=0
   .refine .inl ⟨h0,aC ?_⟩;refine lO (F:=Tx) (true,kX (fL (nd a+1) R) (List.replicate (i+1) 0++qs) V i) ⟨hOK,λ_=>h0⟩ (ea:=?_) (eh:=?_) (hk:=?_)
    .exact congrArg (λn=>AV.cons (.gs (pathOf 64) n 1) (.cons (aM.v V) .nil)) (show i+(nd V+1)=nd V+1 by omega)
    .exact heap _ rfl
    conv=>whnf
    refine aL.go i eh2 (by omega) (aC ?_);refine(au .u32).st (xs:=List.replicate (i+1) 0++qs) (i:=i) _ mw ?_;conv=>whnf
    refine⟨(i,R % (V*4294967296 ^ i),((R/(V*4294967296 ^ i):Nat):Int)::qs),Pb,(by show i<i+1;omega),?_⟩;refine Sub.of (gU [64,65]) [] rfl rfl rfl ?_ ?_
    .exact Ap
    .repeat' first|exact aB|exact rfl|refine And.intro ?_ ?_
     all_goals first|exact(au .u32).bm _|exact congrArg (au .u32).l hul|exact congrArg (au .u32).l afS
   .refine .inr (.inl ⟨⟨by omega,by omega⟩,aC ?_⟩);refine lO (F:=Tx) (false,kX (fL (nd a+1) R) (List.replicate (i+1) 0++qs) V i) ⟨hOK,λe=>by cases e⟩ (ea:=?_) (eh:=?_) (hk:=?_)
    .exact(congrArg (λn=>AV.cons (.slice (pathOf 64) (Nat.mul i 1) n (nd a+1 - i) 1) (.cons (aM.v V) .nil)) hdl).trans (congrArg (λn=>AV.cons (.slice (pathOf 64) (Nat.mul i 1) (nd V+1) (n - i) 1) (.cons (aM.v V) .nil)) lL.symm)
    .exact heap _ rfl
    conv=>whnf
    refine aL.go i eh2 (by omega) (aC ?_);refine(au .u32).st (xs:=List.replicate (i+1) 0++qs) (i:=i) _ mw ?_;conv=>whnf
    refine⟨(i,R % (V*4294967296 ^ i),((R/(V*4294967296 ^ i):Nat):Int)::qs),Pb,(by show i<i+1;omega),?_⟩;refine Sub.of (gU [64,65]) [] rfl rfl rfl ?_ ?_
    .exact Ap
    .repeat' first|exact aB|exact rfl|refine And.intro ?_ ?_
     all_goals first|exact(au .u32).bm _|exact congrArg (au .u32).l hul|exact congrArg (au .u32).l afS
  .have hj:j=0:=(by omega);subst hj;have m5:a*2 ^ k=V*val qs+R:=(by simpa using m5);have m4:R<V:=(by simpa using m4);have GF:0<2 ^ k:=Nat.two_pow_pos k;have eq1:val qs=a/b:=by
    have h1:a*2 ^ k/V=val qs:=(by rw [m5,Nat.mul_add_div Tz,Nat.div_eq_of_lt m4,Nat.add_zero]);rw [<-h1,<-hVV,Nat.mul_div_mul_right _ _ GF]
   have eq2:R/2 ^ k=a % b:=by
    have h1:a*2 ^ k % V=R:=(by rw [m5,Nat.mul_add_mod,Nat.mod_eq_of_lt m4]);rw [<-h1,<-hVV,Nat.mul_mod_mul_right,Nat.mul_div_cancel _ GF]
   have hRA:R<4294967296 ^ (nd a+1):=by
    have h1:=dV V;have h2:(4294967296:Nat) ^ nd V<=4294967296 ^ (nd a+1):=Nat.pow_le_pow_right (by decide) (by omega);omega
   have vL:val (fL (nd a+1) R)=R:=(by rw [gO,Nat.mod_eq_of_lt hRA]);have hRn:nd R<=nd a+1:=xa hRA;have hq0:List.replicate 0 (0:Int)++qs=qs:=rfl;refine aD af rfl rfl hc _ (aC ?_);refine bS (by decide) (gP (by decide) (cC (l:=YF) (by decide) 2 (c:=eW) rfl qs ⟨m3,by show qs.length<_;omega⟩ (v:=aM.v (a/b)) (congrArg aM.v eq1) (hbor:=?_) (has:=?_) (hk:=?_)))
   .exact⟨by show m*1=((au .u32).l qs).len;rw [bW.ep];show m*1=qs.length*1;omega,aB⟩
   .show AV.cons (.ro qs.length _) .nil=AV.cons (.ro m _) .nil;rw [show qs.length=m by omega];rfl
   conv=>whnf
   refine bS (by decide) (gP (by decide) (cC (l:=YF) (by decide) 2 (c:=eW) rfl (fL (nd a+1) R) ⟨gH _ _,by rw [bf];omega⟩ (v:=aM.v R) (congrArg aM.v vL) (hbor:=?_) (has:=?_) (hk:=?_)))
   .exact⟨by show(nd a+1)*1=((au .u32).l (fL (nd a+1) R)).len;rw [bW.ep,bf];rfl,aB⟩
   .show AV.cons (.ro (fL (nd a+1) R).length _) .nil=AV.cons (.ro (nd a+1) _) .nil;rw [bf]
   conv=>whnf
   refine bS (by decide) (gP (by decide) (cC (l:=YF) (by decide) 5 (c:=Ca) rfl (R,(k:Int)) ⟨by show nd R<=_;omega,Int.natCast_nonneg _,by show(k:Int)<32;omega⟩ (v:=aM.v (a % b)) (congrArg aM.v (show R/2 ^ ((k:Int)).toNat=a % b by rw [Int.toNat_natCast];exact eq2)) (hk:=?_)));conv=>whnf
   exact ak.same rfl (.aS (.cons (aM.an _) (.cons (aM.an _) .nil)))
 .show a*2 ^ k<V*4294967296 ^ m;have h1:=dV a;have h2:4294967296 ^ nd a<=b*4294967296 ^ m:=by
   have h3:4294967296 ^ (nd b - 1)<=b:=qK (by omega);have h4:=Nat.mul_le_mul_right (4294967296 ^ m) h3;rwa [<-Nat.pow_add,show nd b - 1+m=nd a by omega]at h4
  rw [<-hVV,Nat.mul_right_comm];exact Nat.mul_lt_mul_of_pos_right (by omega) (Nat.two_pow_pos k)
 .simp [val]
 .refine Sub.of (gU [64,65]) [] rfl rfl rfl ?_ ?_
  .repeat' first|exact aB|exact rfl|refine And.intro ?_ ?_
   show aj .i64 (((m:Nat):Int) - 1)=((m:Nat):Int) - 1;exact aA (by omega) (by omega)
  .repeat' first|exact aB|exact rfl|refine And.intro ?_ ?_
   all_goals first|exact(au .u32).bm _|exact congrArg (au .u32).l (List.append_nil _).symm
end
end
end Go.Sy
