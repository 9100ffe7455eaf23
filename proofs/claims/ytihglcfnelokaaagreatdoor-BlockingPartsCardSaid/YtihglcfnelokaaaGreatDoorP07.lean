/- A piece of the proof, made small by a program of ours. -/
import Derived.Test.YtihglcfnelokaaaGreatDoorP06
set_option linter.all false
set_option maxRecDepth 1000000
set_option maxHeartbeats 0
namespace Go.Sy
noncomputable section
open Go.RowKit Go.Proofs Go.Proofs.Tryz
section
attribute [local irreducible] Cw aj bE PF Sub
attribute [local instance] fe
theorem JV {m d i r x q:Nat} (hd:0<d) (hr:r=m/4294967296 ^ (i+1) % d) (hx:x=m/4294967296 ^ i % 4294967296) (hq:q=m/4294967296 ^ (i+1)/d):
  (r*4294967296+x)/d+4294967296*q=m/4294967296 ^ i/d/\(r*4294967296+x) % d=m/4294967296 ^ i % d/\(d<4294967296 ->(r*4294967296+x)/d<4294967296):=by
 have h1:m/4294967296 ^ i=m/4294967296 ^ (i+1)*4294967296+x:=by
  rw [hx,Nat.pow_succ,<-Nat.div_div_eq_div_mul];omega
 have h2:m/4294967296 ^ (i+1)=d*q+r:=by rw [hq,hr];exact(Nat.div_add_mod _ _).symm
 have h3:m/4294967296 ^ i=(r*4294967296+x)+d*(4294967296*q):=by
  rw [h1,h2,Nat.add_mul,Nat.mul_assoc,Nat.mul_comm q];omega
 refine⟨?_,?_,λcJ=>?_⟩
 .rw [h3,Nat.add_mul_div_left _ _ hd]
 .rw [h3,Nat.add_mul_mod_self_left]
 .rw [Nat.div_lt_iff_lt_mul hd];have hr':r<d:=by rw [hr];exact Nat.mod_lt _ hd
  have LK:x<4294967296:=by rw [hx];exact Nat.mod_lt _ (by decide)
  have:(r+1)*4294967296<=d*4294967296:=Nat.mul_le_mul_right _ hr';omega
theorem BX {n:Nat} {q:List Int} {x:Int}:(List.replicate (n+1) (0:Int)++q).set n x=List.replicate n 0++(x::q):=by
 rw [List.replicate_succ',List.append_assoc,List.set_append_right _ _ (by simp)];simp
theorem Mc {r x:Nat} (hx:x<4294967296):Nat.lor (r*4294967296) x=r*4294967296+x:=by
 have:=Nat.two_pow_add_eq_or_of_lt (i:=32) (b:=x) hx r;rw [Nat.mul_comm r];exact this.symm
theorem Ye (m d:Nat) (hm:nd m<134217728) (hd:0<d) (hdw:d<4294967296):dA 87 (.cons (aM.v m) (.cons ((aq .u32).v d) .nil)) (.aO (.cons (aM.v (m/d)) (.cons ((aq .u32).v ((m % d:Nat):Int)) .nil))):=by
 refine PF.of_wp (c:=_) af (by decide) (fn:=f87) rfl rfl rfl ?_ (call:=aE [eV]) (λB0=>ay ae [eV] B0) ?_
 .exact .cons (aM.ak _) (.cons .int .nil)
 .intro B0;have lm:=br m;conv=>whnf
  have e0:Int.ofNat (dg m).length=((nd m:Nat):Int):=congrArg Int.ofNat lm;refine(aq .u32).mk' (x:=0) (nd m) (nd m) e0 e0 (Nat.le_refl _) (by show nd m*(4+1)<=_;omega) ?_;conv=>whnf
  refine Cw.loop (ι:=Nat×List Int×Nat)
   (λq=>bm [(0,aM.v m),(1,.int .u32 d),(6,.gs (pathOf 64) (nd m) 1),(7,.int .u64 q.2.2),(8,.int .i64 ((q.1:Int) - 1))]) (λ_=>[])
   (λq=>⟨bW [(pathOf 64,.gl ((aq .u32).l (List.replicate q.1 0++q.2.1)) false)],pathOf 65⟩)
   (λq=>q.1<=nd m/\q.1+q.2.1.length=nd m/\DG q.2.1/\q.2.2=m/4294967296 ^ q.1 % d/\val q.2.1=m/4294967296 ^ q.1/d)
   (λq=>q.1) ?_ (nd m,[],0) ⟨Nat.le_refl _,rfl,.nil,?_,?_⟩ ?_
  .rintro ⟨j,q,r⟩ ⟨hj,hl,hq,hr,hv⟩;simp only at hj hl hq hr hv;refine aD af rfl rfl (ay ae [eV] B0) _ (aB ?_);refine an (λh=>?_) (λh=>?_)
   .have h:=cA.1 h;obtain⟨i,rfl⟩:∃i,j=i+1:=⟨j - 1,by omega⟩
    have hi:i<(dg m).length:=(by omega);have hx:=bz hi;have ei:(((i+1:Nat):Int) - 1)=(i:Int):=(by omega);have AY:r<d:=(by rw [hr];exact Nat.mod_lt _ hd);obtain⟨s1,s2,s3⟩:=JV hd hr rfl hv;have s3:=s3 hdw;have hxw:m/4294967296 ^ i % 4294967296<4294967296:=Nat.mod_lt _ (by decide);have esh:ah .u64 (Int.mul (r:Int) 4294967296)=((r*4294967296:Nat):Int):=aJ (n:=(r:Int)*4294967296) (by omega) (by omega);have ex:ah .u64 (dg m)[i]=((m/4294967296 ^ i % 4294967296:Nat):Int):=(by rw [hx];exact aJ (by omega) (by omega));have eor:Int.ofNat (Nat.lor (ah .u64 (Int.mul (r:Int) 4294967296)).toNat (ah .u64 (dg m)[i]).toNat)=((r*4294967296+m/4294967296 ^ i % 4294967296:Nat):Int):=by
     rw [esh,ex];exact congrArg Int.ofNat (Mc hxw)
    conv=>whnf
    refine⟨by decide,aB ?_⟩;refine aG.go i ei hi (aB ?_);refine⟨_,(aq .u32).rd rfl hi,aB ?_⟩;refine⟨⟨?_,?_,?_,?_⟩,?_⟩
    .show(0:Int)<=ah .u64 (Int.mul (r:Int) 4294967296);rw [esh];omega
    .show fits .u64 (ah .u64 (Int.mul (r:Int) 4294967296))=true;rw [esh];exact cK.2 ⟨by show -(0:Int)<=_;omega,by show _<(18446744073709551616:Int);omega⟩
    .rw [ex];omega
    .rw [ex];exact cK.2 ⟨by show -(0:Int)<=_;omega,by show _<(18446744073709551616:Int);omega⟩
    have ed:ah .u64 (d:Int)=(d:Int):=aJ (by omega) (by omega);have hRb:r*4294967296+m/4294967296 ^ i % 4294967296<18446744073709551616:=(by omega);generalize hR:r*4294967296+m/4294967296 ^ i % 4294967296=R at*;have hRq:R/d<=R:=Nat.div_le_self _ _;have hRr:R % d<d:=Nat.mod_lt _ hd;have eq0:Int.tdiv (Int.ofNat (Nat.lor (ah .u64 (Int.mul (r:Int) 4294967296)).toNat (ah .u64 (dg m)[i]).toNat)) (ah .u64 (d:Int))=((R/d:Nat):Int):=(by rw [eor,ed,<-Int.ofNat_tdiv]);have er:Int.tmod (Int.ofNat (Nat.lor (ah .u64 (Int.mul (r:Int) 4294967296)).toNat (ah .u64 (dg m)[i]).toNat)) (ah .u64 (d:Int))=((R % d:Nat):Int):=by
     rw [eor,ed,<-Int.ofNat_tmod]
    generalize R/d=Q at*;generalize R % d=T at*;have eq1:ah .u32 (ah .u64 (Int.tdiv (Int.ofNat (Nat.lor (ah .u64 (Int.mul (r:Int) 4294967296)).toNat (ah .u64 (dg m)[i]).toNat)) (ah .u64 (d:Int))))=(Q:Int):=by
     rw [eq0,aJ (by omega) (by omega),eL (by omega) (by omega)]
    conv=>whnf
    refine⟨by rw [ed];omega,aB ?_⟩;refine aG.go i ei (by omega) (aB ?_);refine(aq .u32).st (xs:=List.replicate (i+1) 0++q) (i:=i) _ (by simp;omega) ?_;conv=>whnf
    refine⟨by rw [ed];omega,aB ?_⟩;refine⟨(i,(Q:Int)::q,T),⟨by show i<=nd m;omega,by show i+(q.length+1)=nd m;omega,DG.cons.2 ⟨by omega,hq⟩,s2,?_⟩,by show i<i+1;omega,?_⟩
    .show(Q:Int).toNat+4294967296*val q=_;rw [<-s1];rfl
    .refine Sub.of (fI [64]) [] rfl rfl rfl ⟨⟨rfl,rfl⟩,rfl,⟨rfl,rfl⟩,er,?_,aA⟩ ⟨⟨?_,rfl,(aq .u32).bh _⟩,aA⟩
     .show ah .i64 (((i+1:Nat):Int) - 1 - 1)=(i:Int) - 1;rw [az (by omega) (by omega)];omega
     .show(aq .u32).l ((List.replicate (i+1) 0++q).set i (ah .u32 (ah .u64 (Int.tdiv (Int.ofNat (Nat.lor (ah .u64 (Int.mul (r:Int) 4294967296)).toNat (ah .u64 (dg m)[i]).toNat)) (ah .u64 (d:Int))))))=(aq .u32).l (List.replicate i 0++_);rw [eq1,BX]
   .have h:=jk.1 h;have hj0:j=0:=(by simp only at h;omega);subst hj0;have hv:val q=m/d:=(by simpa using hv);have hr:r=m % d:=(by simpa using hr);conv=>whnf
    refine bI (l:=[eV]) (by decide) 0 (c:=eV) rfl q ⟨hq,by omega⟩ ?_ ?_ ?_
    .exact⟨by show nd m*1=((aq .u32).l q).len;rw [bX.ep];show nd m*1=q.length*1;omega,aA⟩
    .show AV.cons (.ro q.length _) .nil=AV.cons (.ro (nd m) _) .nil;rw [show q.length=nd m by omega];rfl
    refine jX ?_;rw [<-hv,<-hr];refine aj.same ?_ (.aO (.cons (aM.ak _) (.cons .int .nil)));show AV.aO (.cons (aM.v (val q)) (.cons (.int .u32 (ah .u32 (r:Int))) .nil))=_;rw [eL (by omega) (by rw [hr];have:=Nat.mod_lt m hd;omega)];rfl
  .show 0=_;rw [Nat.div_eq_of_lt (dG m),Nat.zero_mod]
  .show 0=_;rw [Nat.div_eq_of_lt (dG m),Nat.zero_div]
  .refine Sub.of (fI [64]) [] rfl rfl rfl ⟨⟨rfl,rfl⟩,rfl,⟨rfl,rfl⟩,rfl,?_,aA⟩ ⟨⟨?_,rfl,(aq .u32).bh _⟩,aA⟩
   .show ah .i64 (((dg m).length:Int) - 1)=_;rw [lm,az (by omega) (by omega)]
   .simp
def vx:Cn prog:= .Gr aM (aq .u32) aM (aq .u32) 87 (λm d=>nd m<134217728/\0<d/\d<4294967296) (λm d=>m/d.toNat) (λm d=>((m % d.toNat:Nat):Int)) (λm d h=>by
 obtain⟨n,rfl⟩:=Int.eq_ofNat_of_zero_le (Int.le_of_lt h.2.1);exact Ye m n h.1 (by omega) (by omega)) (au rfl rfl)
def bitLen (n:Nat):Nat:=match n with|0=>0|n=>n.log2+1
theorem bitLen_shift {n k:Nat} (h:2 ^ k<=n):bitLen n=k+bitLen (n/2 ^ k):=by
 have h0:n≠0:=by have:=Nat.two_pow_pos k;omega
 have h1:n/2 ^ k≠0:=by
  have:0<n/2 ^ k:=Nat.div_pos h (Nat.two_pow_pos k);omega
 have e:∀{m:Nat},m≠0 ->bitLen m=m.log2+1:=λ{m} hm=>by cases m with|zero=>exact absurd rfl hm|succ m=>rfl
 rw [e h0,e h1];have:n.log2=k+(n/2 ^ k).log2:=by
  have h2:k<=n.log2:=(Nat.le_log2 h0).2 h;apply Nat.le_antisymm
  .apply Nat.le_of_lt_succ;rw [Nat.log2_lt h0];have h3:n/2 ^ k<2 ^ ((n/2 ^ k).log2+1):=Nat.lt_log2_self;rw [Nat.div_lt_iff_lt_mul (Nat.two_pow_pos k),<-Nat.pow_add]at h3;exact Nat.lt_of_lt_of_le h3 (Nat.pow_le_pow_right (by decide) (by omega))
  .rw [Nat.le_log2 h0,Nat.pow_add];have h3:2 ^ (n/2 ^ k).log2<=n/2 ^ k:=Nat.log2_self_le h1;have h4:=Nat.mul_le_mul_left (2 ^ k) h3;exact Nat.le_trans h4 (Nat.mul_div_le _ _)
 omega
theorem bitLen_le {n k:Nat} (h:n<2 ^ k):bitLen n<=k:=by
 cases n with
 |zero=>exact Nat.zero_le _|succ n=>exact(Nat.log2_lt (by omega)).2 h
theorem xT {h:Heap} {T:List Nat} {x m:Nat} {a:Int} (k:Nat) (hx:x<256) (ea:a=(k:Int)) (e:m=k+bitLen x) (hk:k<=24) (hT:∀y<256,T.getD y 0=bitLen y):
  aj h (.int .i64 (ah .i64 (Int.add a (ah .i64 (Int.ofNat (T.getD x 0)))))) ((aq .i64).v (m:Int)):=by
 rw [hT x hx,ea,e];have hb:bitLen x<=8:=bitLen_le (k:=8) hx;have e1:ah .i64 (Int.ofNat (bitLen x))=(bitLen x:Int):=az (n:=(bitLen x:Int)) (by omega) (by omega);have e2:ah .i64 (Int.add (k:Int) (ah .i64 (Int.ofNat (bitLen x))))=((k+bitLen x:Nat):Int):=by
  rw [e1];show ah .i64 ((k:Int)+(bitLen x:Int))=_;rw [az (by omega) (by omega)];omega
 rw [e2];exact aj.pure .int
theorem DV {m:Nat} (h:m<256):ah .u8 ((m:Nat):Int)=(m:Int):=vm (k:= .u8) (by show -(0:Int)<=_;omega) (by show _<(256:Int);omega)
theorem Yf (n:Nat) (h:n<4294967296):dA 145 (.cons ((aq .u32).v n) .nil) ((aq .i64).v (bitLen n:Nat)):=by
 refine PF.of_wp (c:=_) af (by decide) (fn:=f145) rfl rfl rfl (.cons .int .nil) (call:=aE []) (λB0=>ay ae [] B0) ?_;intro B0;conv=>whnf
 refine an (λh1=>?_) (λh1=>?_)
 .have h1:65536<=n:=by have:=cA.1 h1;omega
  have e1:=bitLen_shift (n:=n) (k:=16) h1;conv=>whnf
  refine⟨⟨Int.natCast_nonneg _,by decide⟩,aB ?_⟩;refine an (λh2=>?_) (λh2=>?_)
  .have h2:256<=n/65536:=Int.ofNat_le.1 (cA.1 h2);have e2:=bitLen_shift (n:=n/65536) (k:=8) h2;conv=>whnf
   refine⟨⟨Int.natCast_nonneg _,by decide⟩,aB ?_⟩;refine aG.go (n/65536/256) (DV (m:=n/65536/256) (by omega)) (by show n/65536/256<256;omega) (aB ?_);exact xT 24 (by omega) rfl (by rw [e1];show 16+bitLen (n/65536)=_;rw [e2];show 16+(8+bitLen (n/65536/256))=_;omega) (by omega) (by decide+kernel)
  .have h2:n/65536<256:=Int.ofNat_lt.1 (jk.1 h2);conv=>whnf
   refine aG.go (n/65536) (DV h2) h2 (aB ?_);exact xT 16 h2 rfl e1 (by omega) (by decide+kernel)
 .have h1:n<65536:=by have:=jk.1 h1;omega
  conv=>whnf
  refine an (λh2=>?_) (λh2=>?_)
  .have h2:256<=n:=(by have:=cA.1 h2;omega);have e2:=bitLen_shift (n:=n) (k:=8) h2;conv=>whnf
   refine⟨⟨Int.natCast_nonneg _,by decide⟩,aB ?_⟩;refine aG.go (n/256) (DV (m:=n/256) (by omega)) (by show n/256<256;omega) (aB ?_);exact xT 8 (by omega) rfl e2 (by omega) (by decide+kernel)
  .have h2:n<256:=(by have:=jk.1 h2;omega);conv=>whnf
   refine aG.go n (DV h2) h2 (aB ?_);exact xT 0 h2 rfl (by omega) (by omega) (by decide+kernel)
def Md:Cn prog:= .lE (aq .u32) (aq .i64) 145 true (λn=>0<=n/\n<4294967296) (λn=>(bitLen n.toNat:Nat)) (cM _) (λn h=>by
 obtain⟨m,rfl⟩:=Int.eq_ofNat_of_zero_le h.1;exact Yf m (by omega)) (au rfl rfl)
def tLz:List (Cn prog):=[Md]
theorem aiZ (n:Nat) (h:n<4294967296):dA 131 (.cons ((aq .u32).v n) .nil) ((aq .i64).v ((32 - bitLen n:Nat):Int)):=by
 refine PF.of_wp (c:=_) af (by decide) (fn:=f131) rfl rfl rfl (.cons .int .nil) (call:=aE tLz) (λB0=>ay ae tLz B0) ?_;intro B0;conv=>whnf
 refine ct (l:=tLz) (by decide) 0 (c:=Md) rfl (n:Int) ⟨Int.natCast_nonneg _,by omega⟩ (hk:=?_);conv=>whnf
 have hb:=bitLen_le (n:=n) (k:=32) h;have e:ah .i64 (Int.sub 32 (bitLen n:Int))=((32 - bitLen n:Nat):Int):=by
  show ah .i64 ((32:Int) - (bitLen n:Int))=_;rw [az (by omega) (by omega)];omega
 refine aj.same ?_ .int;exact congrArg (AV.int .i64) e
def ac2:Cn prog:= .lE (aq .u32) (aq .i64) 131 true (λn=>0<=n/\n<4294967296) (λn=>((32 - bitLen n.toNat:Nat):Int)) (cM _) (λn h=>by
 obtain⟨m,rfl⟩:=Int.eq_ofNat_of_zero_le h.1;exact aiZ m (by omega)) (au rfl rfl)
theorem Me {P:Program} {fn:Func} {v a:AV} {r:Tr AV} {h:Heap} (hr:qh P fn.results.toList r h=some (.cons a .nil)) (hs:aj h a v):Fin P fn v r [] h:=by
 show fLo (qh P fn.results.toList r h) (λl=>fV (yu l) λu=>aj h u v);rw [hr];show fV a λu=>aj h u v;rw [Sb];exact hs
theorem GF {P:Program} {fn:Func} {v:AV} {H:List (Pos×AO)} {N:Pos} {r:Tr AV} {h:Heap} (hr:qh P fn.results.toList r h=some (.cons v .nil)) (hn:Nat.ble h.n.toNat N.toNat=true) (hh:JH h H):fa P fn v H N r [] h:=by
 show fLo (qh P fn.results.toList r h) (λl=>yu l=v/\Nat.ble h.n.toNat N.toNat=true/\JH h H);rw [hr];exact⟨rfl,hn,hh⟩
def Mf (m k:Nat):Heap:=⟨bW [(pathOf 64,.gl ((aq .u32).l (fG (nd m+1) (m*2 ^ k))) false)],pathOf 65⟩
theorem JW {m k i:Nat} (hi:i<nd m) (hk:k<32):
  ((fG (nd m+1) (m % 4294967296 ^ i*2 ^ k)).set i ((Nat.lor (m % 4294967296 ^ i*2 ^ k/4294967296 ^ i % 4294967296) (m/4294967296 ^ i % 4294967296*2 ^ k % 4294967296):Nat):Int)).set (i+1) ((m/4294967296 ^ i % 4294967296*2 ^ k/4294967296:Nat):Int)=fG (nd m+1) (m % 4294967296 ^ (i+1)*2 ^ k)/\
  Nat.lor (m % 4294967296 ^ i*2 ^ k/4294967296 ^ i % 4294967296) (m/4294967296 ^ i % 4294967296*2 ^ k % 4294967296)<4294967296:=by
 have hB:0<4294967296 ^ i:=Nat.pow_pos (by decide);have hk2:2 ^ k<=2147483648:=Nat.pow_le_pow_right (n:=2) (by decide) (show k<=31 by omega);have Gv:0<2 ^ k:=Nat.two_pow_pos k;have hp:(4294967296:Nat) ^ (i+1)=4294967296 ^ i*4294967296:=Nat.pow_succ _ _;have hmi:m % 4294967296 ^ i<4294967296 ^ i:=Nat.mod_lt _ hB;have hms:m % 4294967296 ^ (i+1)=m % 4294967296 ^ i+4294967296 ^ i*(m/4294967296 ^ i % 4294967296):=by rw [hp,Nat.mod_mul]
 have ai0:m % 4294967296 ^ (i+1)<4294967296 ^ (i+1):=Nat.mod_lt _ (Nat.pow_pos (by decide));have hle:(4294967296:Nat) ^ (i+1+1)<=4294967296 ^ (nd m+1):=Nat.pow_le_pow_right (by decide) (by omega);have lh:(4294967296:Nat) ^ (i+1+1)=4294967296 ^ (i+1)*4294967296:=Nat.pow_succ _ _;have hd:m/4294967296 ^ i % 4294967296<4294967296:=Nat.mod_lt _ (by decide);generalize m/4294967296 ^ i % 4294967296=d at*;generalize m % 4294967296 ^ i=r at*;generalize m % 4294967296 ^ (i+1)=r' at*;have hV:r*2 ^ k<4294967296 ^ i*2 ^ k:=Nat.mul_lt_mul_of_pos_right hmi Gv;have hV2:4294967296 ^ i*2 ^ k<=4294967296 ^ i*4294967296:=Nat.mul_le_mul_left _ (by omega);have hV':r'*2 ^ k<4294967296 ^ (i+1)*4294967296:=by
  have h1:r'*2 ^ k<=r'*4294967296:=Nat.mul_le_mul_left _ (by omega);have h2:r'*4294967296<4294967296 ^ (i+1)*4294967296:=Nat.mul_lt_mul_of_pos_right ai0 (by decide);omega
 have hq:r*2 ^ k/4294967296 ^ i<2 ^ k:=(Nat.div_lt_iff_lt_mul hB).2 (by rw [Nat.mul_comm (2 ^ k)];exact hV);have hlo:d*2 ^ k % 4294967296=2 ^ k*(d % 2 ^ (32 - k)):=by
  rw [show(4294967296:Nat)=2 ^ k*2 ^ (32 - k) by rw [<-Nat.pow_add,show k+(32 - k)=32 by omega],Nat.mul_comm d,Nat.mul_mod_mul_left]
 have hor:Nat.lor (r*2 ^ k/4294967296 ^ i % 4294967296) (d*2 ^ k % 4294967296)=r*2 ^ k/4294967296 ^ i+d*2 ^ k % 4294967296:=by
  rw [Nat.mod_eq_of_lt (by omega:r*2 ^ k/4294967296 ^ i<4294967296),hlo];have:=Nat.two_pow_add_eq_or_of_lt hq (d % 2 ^ (32 - k));rw [Nat.add_comm,this];exact Nat.or_comm _ _
 have cJ:r*2 ^ k/4294967296 ^ i+d*2 ^ k % 4294967296<4294967296:=by
  rw [<-hor];exact Nat.or_lt_two_pow (n:=32) (Nat.mod_lt _ (by decide)) (Nat.mod_lt _ (by decide))
 refine⟨?_,by rw [hor];exact cJ⟩;rw [hor];have xF:=Nat.mod_add_div (d*2 ^ k) 4294967296;have hhi:d*2 ^ k/4294967296<4294967296:=by
  have h1:d*2 ^ k<=d*4294967296:=Nat.mul_le_mul_left _ (by omega);rw [Nat.div_lt_iff_lt_mul (by decide)];have h2:d*4294967296<4294967296*4294967296:=Nat.mul_lt_mul_of_pos_right hd (by decide);omega
 generalize d*2 ^ k % 4294967296=lo at*;generalize d*2 ^ k/4294967296=up at*;have hlen:=bu (nd m+1) (r*2 ^ k);have hDG:=gC (nd m+1) (r*2 ^ k);have g0:=ig (n:=nd m+1) (v:=r*2 ^ k) (i:=i) (by rw [hlen];omega);have g1:=ig (n:=nd m+1) (v:=r*2 ^ k) (i:=i+1) (by rw [hlen];omega);have v0:=gI (nd m+1) (r*2 ^ k);rw [Nat.mod_eq_of_lt (Nat.lt_of_lt_of_le (by omega:r*2 ^ k<4294967296 ^ (i+1+1)) hle)]at v0;rw [Nat.mod_eq_of_lt (by omega:r*2 ^ k/4294967296 ^ i<4294967296)]at g0;rw [Nat.div_eq_of_lt (by omega:r*2 ^ k<4294967296 ^ (i+1))]at g1;refine val_inj ((hDG.set i (Int.natCast_nonneg _) (by omega)).set (i+1) (Int.natCast_nonneg _) (by omega)) (gC _ _) (by rw [List.length_set,List.length_set,hlen,bu]) ?_;rw [gI,Nat.mod_eq_of_lt (Nat.lt_of_lt_of_le (by omega:r'*2 ^ k<4294967296 ^ (i+1+1)) hle)];have s1:=vv (l:=fG (nd m+1) (r*2 ^ k)) (i:=i) (by omega) (((r*2 ^ k/4294967296 ^ i+lo:Nat):Int));have s2:=vv (l:=(fG (nd m+1) (r*2 ^ k)).set i (((r*2 ^ k/4294967296 ^ i+lo:Nat):Int))) (i:=i+1) (by rw [List.length_set];omega) ((up:Nat):Int);rw [List.getElem_set_ne (by omega),g1]at s2;rw [g0]at s1;have t1:(((r*2 ^ k/4294967296 ^ i:Nat):Int)).toNat=r*2 ^ k/4294967296 ^ i:=rfl;have t2:(((r*2 ^ k/4294967296 ^ i+lo:Nat):Int)).toNat=r*2 ^ k/4294967296 ^ i+lo:=rfl;have t3:((up:Nat):Int).toNat=up:=rfl;have t4:(((0 % 4294967296:Nat):Int)).toNat=0:=rfl;rw [t1,t2,Nat.mul_add]at s1;rw [t3,t4]at s2;rw [hms,Nat.add_mul,Nat.mul_assoc,<-xF,Nat.mul_add,<-Nat.mul_assoc,<-hp];omega
theorem GG (m k:Nat) (hm:nd m<134217728) (hk:k<32) {B0:Nat} {K:KC} (hK:∀r,gv (r.get (pathOf 4))= .gs (pathOf 64) (nd m+1) 1 ->K r [] (Mf m k)):
  Cw prog B0 ⟨prog,132,f132.ntmps,none,aE (P:=prog) [],0⟩ (oJ f132) (fnR f132 (.cons (aM.v m) (.cons (.int .i64 k) .nil))) [] ⟨.leaf,pathOf 64⟩ (QK K K (λ_ _ _ _=>False)):=by
 have hc:=ay (P:=prog) ae [] B0;have lm:=br m;have hK':∀i,i=nd m ->∀r,gv (r.get (pathOf 4))= .gs (pathOf 64) (nd m+1) 1 ->K r [] ⟨bW [(pathOf 64,.gl ((aq .u32).l (fG (nd m+1) (m % 4294967296 ^ i*2 ^ k))) false)],pathOf 65⟩:=by
  rintro i rfl r hr;rw [Nat.mod_eq_of_lt (dG m)];exact hK r hr
 refine aD af rfl rfl hc _ (aB ?_);have e0:ah .i64 (Int.add (Int.ofNat (dg m).length) 1)=((nd m+1:Nat):Int):=by
  rw [lm];show ah .i64 ((nd m:Int)+1)=_;rw [az (by omega) (by omega)];omega
 refine(aq .u32).mk' (x:=0) (nd m+1) (nd m+1) e0 e0 (Nat.le_refl _) (by show(nd m+1)*(4+1)<=_;omega) ?_;conv=>whnf
 have hz:List.replicate (nd m+1) (0:Int)=fG (nd m+1) (m % 4294967296 ^ 0*2 ^ k):=by
  refine val_inj (λx hx=>by rw [(List.mem_replicate.1 hx).2];decide) (gC _ _) (by rw [List.length_replicate,bu]) ?_;rw [wk,gI,Nat.pow_zero,Nat.mod_one,Nat.zero_mul,Nat.zero_mod]
 refine Cw.loop (ι:=Nat) (λi=>bm [(0,aM.v m),(1,.int .i64 k),(5,.gs (pathOf 64) (nd m+1) 1),(12,aM.v m),(13,.int .i64 (nd m:Int)),(14,.int .i64 (i:Int))]) (λ_=>[])
  (λi=>⟨bW [(pathOf 64,.gl ((aq .u32).l (fG (nd m+1) (m % 4294967296 ^ i*2 ^ k))) false)],pathOf 65⟩) (λi=>i<=nd m) (λi=>nd m - i) ?_ 0 (Nat.zero_le _) ?_
 .intro i hi;refine aD af rfl rfl hc _ (aB ?_);refine an (λh=>?_) (λh=>?_)
  .have h:i<nd m:=Int.ofNat_lt.1 (aQ.1 h);have bM:ah .i64 (Int.add (i:Int) 1)=((i+1:Nat):Int):=by
    show ah .i64 ((i:Int)+1)=_;rw [az (by omega) (by omega)];omega
   have fw:i<(dg m).length:=(by omega);have hlen:=bu (nd m+1) (m % 4294967296 ^ i*2 ^ k);conv=>whnf
   refine aG.go i rfl fw (aB ?_);refine⟨_,(aq .u32).rd rfl fw,aB ?_⟩;refine aG.go i rfl (by omega) (aB ?_);refine⟨_,(aq .u32).rd rfl (by omega:i<(fG (nd m+1) (m % 4294967296 ^ i*2 ^ k)).length),aB ?_⟩;have hd:m/4294967296 ^ i % 4294967296<4294967296:=Nat.mod_lt _ (by decide);obtain⟨pw,akj⟩:=JW h hk;have ek:Nat.min ((k:Int)).toNat (fu .u32)=k:=Nat.min_eq_left (show k<=32 by omega);have ek6:Nat.min ((k:Int)).toNat (fu .u64)=k:=Nat.min_eq_left (show k<=64 by omega);have x1:ah .u32 (Int.mul (dg m)[i] (.ofNat (Nat.pow 2 (Nat.min ((k:Int)).toNat (fu .u32)))))=((m/4294967296 ^ i % 4294967296*2 ^ k % 4294967296:Nat):Int):=by
    rw [bz fw,ek];exact wrap_u32 (((m/4294967296 ^ i % 4294967296*2 ^ k:Nat):Int))
   have x2:(fG (nd m+1) (m % 4294967296 ^ i*2 ^ k))[i]'(by omega)=((m % 4294967296 ^ i*2 ^ k/4294967296 ^ i % 4294967296:Nat):Int):=ig _;refine⟨Int.natCast_nonneg _,aB ?_⟩;refine⟨⟨by rw [x2];exact Int.natCast_nonneg _,?_,by rw [x1];exact Int.natCast_nonneg _,?_⟩,?_⟩
   .rw [x2];exact cK.2 ⟨by show -(0:Int)<=_;omega,by show _<(4294967296:Int);omega⟩
   .rw [x1];exact cK.2 ⟨by show -(0:Int)<=_;omega,by show _<(4294967296:Int);omega⟩
   conv=>whnf
   refine aG.go i rfl (by omega) (aB ?_);refine(aq .u32).st (xs:=fG (nd m+1) (m % 4294967296 ^ i*2 ^ k)) (i:=i) _ (by omega) ?_;conv=>whnf
   have y1:ah .u64 (dg m)[i]=((m/4294967296 ^ i % 4294967296:Nat):Int):=(by rw [bz fw];exact aJ (by omega) (by omega));have hk2:m/4294967296 ^ i % 4294967296*2 ^ k<=m/4294967296 ^ i % 4294967296*4294967296:=Nat.mul_le_mul_left _ (by have:=Nat.pow_le_pow_right (n:=2) (by decide) (show k<=32 by omega);omega);have y2:ah .u64 (Int.mul (ah .u64 (dg m)[i]) (.ofNat (Nat.pow 2 (Nat.min ((k:Int)).toNat (fu .u64)))))=((m/4294967296 ^ i % 4294967296*2 ^ k:Nat):Int):=by
    rw [y1,ek6];exact aJ (n:=((m/4294967296 ^ i % 4294967296*2 ^ k:Nat):Int)) (by omega) (by omega)
   refine⟨Int.natCast_nonneg _,aB ?_⟩;refine⟨⟨by rw [y2];exact Int.natCast_nonneg _,by decide⟩,aB ?_⟩;refine aG.go (i+1) bM (by omega) (aB ?_);refine(aq .u32).st (xs:=_) (i:=i+1) _ (by rw [List.length_set,hlen];omega) ?_;conv=>whnf
   refine⟨i+1,h,by omega,?_⟩;refine Sub.of (fI [64]) [] rfl rfl rfl ?_ ?_
   .repeat' first|exact aA|exact rfl|refine And.intro ?_ ?_
    all_goals exact bM
   .repeat' first|exact aA|exact rfl|refine And.intro ?_ ?_
    all_goals first|exact(aq .u32).bh _|skip
    refine congrArg (aq .u32).l (Eq.trans ?_ pw);have z1:(((m % 4294967296 ^ i*2 ^ k/4294967296 ^ i % 4294967296:Nat):Int)).toNat=m % 4294967296 ^ i*2 ^ k/4294967296 ^ i % 4294967296:=rfl;have z2:(((m/4294967296 ^ i % 4294967296*2 ^ k % 4294967296:Nat):Int)).toNat=m/4294967296 ^ i % 4294967296*2 ^ k % 4294967296:=rfl;have z3:(((m/4294967296 ^ i % 4294967296*2 ^ k:Nat):Int)).toNat=m/4294967296 ^ i % 4294967296*2 ^ k:=rfl;have z4:ah .u32 (Int.ofNat (Nat.div (m/4294967296 ^ i % 4294967296*2 ^ k) (Nat.pow 2 (Nat.min (Int.toNat 32) (fu .u64)))))=((m/4294967296 ^ i % 4294967296*2 ^ k/4294967296:Nat):Int):=
     eL (n:=((m/4294967296 ^ i % 4294967296*2 ^ k/4294967296:Nat):Int)) (by omega) (by omega)
    rw [x2,x1,y2,z1,z2,z3,z4];rfl
  .have h:i=nd m:=(by have:=bf.1 h;have this:((nd m:Nat):Int)<=(i:Int):=this;omega);conv=>whnf
   exact hK' i h _ rfl
 .refine Sub.of (fI [64]) [] rfl rfl rfl ?_ ?_
  .repeat' first|exact aA|exact rfl|refine And.intro ?_ ?_
   all_goals exact congrArg Int.ofNat lm
  .repeat' first|exact aA|exact rfl|refine And.intro ?_ ?_
   all_goals first|exact(aq .u32).bh _|exact congrArg (aq .u32).l hz
theorem SV (m k:Nat) (hm:nd m<134217728) (hk:k<32):dA 132 (.cons (aM.v m) (.cons ((aq .i64).v k) .nil)) (mZ.v (fG (nd m+1) (m*2 ^ k))):=by
 refine PF.ze (c:=_) (by decide) (fn:=f132) rfl rfl rfl (.cons (aM.ak _) (.cons .int .nil)) (call:=aE (P:=prog) []) (h0:=⟨.leaf,pathOf 64⟩) (λ_ _ e=>by cases e) rfl (λB0=>GG m k hm hk (λr hr=>?_));refine Me (a:= .gs (pathOf 64) (nd m+1) 1) (congrArg (λx=>some (AV.cons x .nil)) hr) ?_;exact(aq .u32).gk rfl rfl (bu _ _).symm
def GH:Cn prog:= .kz aM (aq .i64) mZ 132 false (λm k=>nd m<134217728/\0<=k/\k<32) (λm k=>fG (nd m+1) (m*2 ^ k.toNat)) (λe=>by cases e) (λm k h=>by
 obtain⟨j,rfl⟩:=Int.eq_ofNat_of_zero_le h.2.1;exact SV m j h.1 (by omega)) (au rfl rfl)
theorem BZ (xs:List Int) (hn:xs.length<=134217729) (dE:xs≠[]) {B0:Nat} {K:KC} (hK:∀r h,gv (r.get (pathOf 2))= .gs (pathOf 65) xs.length 1 ->h.n=pathOf 66 ->h.t.get (pathOf 65)=some (.gl ((aq .u32).l xs) false) ->K r [] h):
  Cw prog B0 ⟨prog,182,f182.ntmps,none,aE (P:=prog) [],0⟩ (oJ f182) (fnR f182 (.cons (mZ.v xs) .nil)) [] ⟨.leaf,pathOf 64⟩ (QK K K (λ_ _ _ _=>False)):=by
 have hc:=ay (P:=prog) ae [] B0;obtain⟨x,t,rfl⟩:=List.exists_cons_of_ne_nil dE;have hl:(x::t).length=t.length+1:=rfl;refine aD af rfl rfl hc _ (aB ?_);refine⟨(aq .u32).l (x::t),?_,?_⟩
 .exact((aq .u32).kM (xs:=x::t) (i:=(x::t).length) (Nat.le_refl _)).trans (by rw [List.take_length])
 conv=>whnf
 refine⟨⟨?_,(aq .u32).lu _,rfl⟩,?_⟩
 .show(0+(x::t).length)*(4+1)<=1099511627776;omega
 conv=>whnf
 refine hK _ _ ?_ rfl rfl;show AV.gs (pathOf 65) (0+(x::t).length) 1=_;rw [Nat.zero_add]
theorem PL (xs:List Int) (hn:xs.length<=134217729):dA 182 (.cons (mZ.v xs) .nil) (mZ.v xs):=by
 by_cases dE:xs=[]
 .subst dE;refine PF.ze (c:=_) (by decide) (fn:=f182) rfl rfl rfl (.cons (mZ.ak _) .nil) (call:=aE (P:=prog) []) (h0:=⟨.leaf,pathOf 64⟩) (λ_ _ e=>by cases e) rfl (λB0=>?_);have hc:=ay (P:=prog) ae [] B0;refine Cw.vo 0 1 rfl ?_ ?_
  .refine aD af rfl rfl hc _ (aB ?_);exact aj.bA
  .refine aD af rfl rfl hc _ (aB ?_);refine⟨.nil,rfl,aB ?_⟩;refine⟨⟨by decide,rfl,rfl⟩,aB ?_⟩;exact(aq .u32).gk (xs:=[]) rfl rfl rfl
 .refine PF.ze (c:=_) (by decide) (fn:=f182) rfl rfl rfl (.cons (mZ.ak _) .nil) (call:=aE (P:=prog) []) (h0:=⟨.leaf,pathOf 64⟩) (λ_ _ e=>by cases e) rfl (λB0=>BZ xs hn dE (λr h hr hn2 hg=>?_));refine Me (a:= .gs (pathOf 65) xs.length 1) (congrArg (λx=>some (AV.cons x .nil)) hr) ?_;exact(aq .u32).gk hg rfl rfl
def mc:Cn prog:= .lE mZ mZ 182 false (λl=>l.length<=134217729) (λl=>l) (λe=>by cases e) (λl h=>PL l h) (au rfl rfl)
def nc (m k i:Nat):List Int:=(fG (nd m) (m/2 ^ k)).take i++(dg m).drop i
theorem zA {m k i:Nat} (hi:i<=nd m):(nc m k i).length=nd m:=by
 unfold nc;rw [List.length_append,List.length_take,List.length_drop,bu,br];omega
theorem SX {m k i:Nat} (hi:i<nd m):(nc m k i)[i]'(by rw [zA (by omega)];exact hi)=((m/4294967296 ^ i % 4294967296:Nat):Int):=by
 have hl:((fG (nd m) (m/2 ^ k)).take i).length=i:=by rw [List.length_take,bu];omega
 unfold nc;rw [List.getElem_append_right (by omega)];simp only [hl,Nat.sub_self,List.getElem_drop,Nat.add_zero];exact bz _
theorem GI {m k i:Nat} (hi:i<nd m) {x:Int} (hx:x=((m/2 ^ k/4294967296 ^ i % 4294967296:Nat):Int)):(nc m k i).set i x=nc m k (i+1):=by
 have hl:((fG (nd m) (m/2 ^ k)).take i).length=i:=by rw [List.length_take,bu];omega
 unfold nc;rw [List.set_append_right _ _ (by omega),hl,Nat.sub_self,List.drop_eq_getElem_cons (by rw [br];exact hi),List.set_cons_zero,List.take_succ_eq_append_getElem (by rw [bu];exact hi),List.append_assoc,List.singleton_append,ig,hx]
theorem SY {m k i:Nat} (hk:k<32):
  Nat.lor (m/4294967296 ^ i % 4294967296/2 ^ k) (m/4294967296 ^ (i+1) % 4294967296*4294967296 % 18446744073709551616/2 ^ k % 4294967296)=m/2 ^ k/4294967296 ^ i % 4294967296:=by
 have h1:m/2 ^ k/4294967296 ^ i=m/4294967296 ^ i/2 ^ k:=by rw [Nat.div_div_eq_div_mul,Nat.div_div_eq_div_mul,Nat.mul_comm]
 have h2:m/4294967296 ^ (i+1)=m/4294967296 ^ i/4294967296:=by rw [Nat.pow_succ,Nat.div_div_eq_div_mul]
 rw [h1,h2];generalize m/4294967296 ^ i=X;have hw:(4294967296:Nat)=2 ^ k*2 ^ (32 - k):=by rw [<-Nat.pow_add,show k+(32 - k)=32 by omega]
 have Gv:0<2 ^ k:=Nat.two_pow_pos k;have hj0:0<2 ^ (32 - k):=Nat.two_pow_pos _;rw [Nat.mod_eq_of_lt (show X/4294967296 % 4294967296*4294967296<18446744073709551616 by have:=Nat.mod_lt (X/4294967296) (show 0<4294967296 by decide);omega)];have h3:X/4294967296 % 4294967296*4294967296/2 ^ k % 4294967296=2 ^ (32 - k)*(X/4294967296 % 2 ^ k):=by
  have:X/4294967296 % 4294967296*4294967296/2 ^ k=2 ^ (32 - k)*(X/4294967296 % 4294967296):=by
   generalize X/4294967296 % 4294967296=d;conv=>lhs;rw [hw,<-Nat.mul_assoc,Nat.mul_comm d,Nat.mul_assoc,Nat.mul_div_cancel_left _ Gv]
   exact Nat.mul_comm _ _
  rw [this];conv=>lhs;rw [show(4294967296:Nat)=2 ^ (32 - k)*2 ^ k by rw [Nat.mul_comm];exact hw]
  rw [Nat.mul_mod_mul_left,Nat.mod_mod_of_dvd _ (Nat.dvd_mul_left _ _),<-hw.trans (Nat.mul_comm _ _)]
 have h4:X % 4294967296/2 ^ k<2 ^ (32 - k):=by
  rw [Nat.div_lt_iff_lt_mul Gv,Nat.mul_comm,<-hw];exact Nat.mod_lt _ (by decide)
 have h5:Nat.lor (X % 4294967296/2 ^ k) (2 ^ (32 - k)*(X/4294967296 % 2 ^ k))=2 ^ (32 - k)*(X/4294967296 % 2 ^ k)+X % 4294967296/2 ^ k:=by
  rw [Nat.two_pow_add_eq_or_of_lt h4];exact Nat.or_comm _ _
 rw [h3,h5];have h6:X/2 ^ k=X % 4294967296/2 ^ k+2 ^ (32 - k)*(X/4294967296):=by
  conv=>lhs;rw [<-Nat.mod_add_div X 4294967296,hw,Nat.mul_assoc,Nat.add_mul_div_left _ _ Gv,<-hw]
 rw [h6,hw.trans (Nat.mul_comm _ _)];clear h6 h5 h3;rw [hw.trans (Nat.mul_comm _ _)]at h4;generalize X % (2 ^ (32 - k)*2 ^ k)/2 ^ k=A at*;generalize X/(2 ^ (32 - k)*2 ^ k)=Z at*;rw [Nat.mod_mul,Nat.add_mul_mod_self_left,Nat.mod_eq_of_lt h4,Nat.add_mul_div_left _ _ hj0,Nat.div_eq_of_lt h4,Nat.zero_add,Nat.add_comm]
theorem GJ {x:Int} (h1:0<=x) (h2:x<4294967296):fits .u32 x=true:=cK.2 ⟨by show -(0:Int)<=_;omega,h2⟩
theorem afS {a:Nat} {x:Int} (hx:x=(a:Int)):ah .u64 (Int.mul x (.ofNat (Nat.pow 2 (Nat.min (Int.toNat 32) (fu .u64)))))=((a*4294967296 % 18446744073709551616:Nat):Int):=by
 rw [hx,wrap_u64,show Int.mul (a:Int) (.ofNat (Nat.pow 2 (Nat.min (Int.toNat 32) (fu .u64))))=((a*4294967296:Nat):Int)from rfl];exact(Int.natCast_emod (a*4294967296) 18446744073709551616).symm
theorem afT {b k:Nat} {x:Int} (hk:k<32) (hx:x=(b:Int)):ah .u32 (Int.ofNat (Nat.div x.toNat (Nat.pow 2 (Nat.min ((k:Int)).toNat (fu .u64)))))=((b/2 ^ k % 4294967296:Nat):Int):=by
 rw [hx,show Nat.min ((k:Int)).toNat (fu .u64)=k from Nat.min_eq_left (show k<=64 by omega),wrap_u32];exact(Int.natCast_emod (b/2 ^ k) 4294967296).symm
def Yg (m:Nat):AV:= .cons (aM.v m) .nil
def ac3:List (Cn prog):=[eV]
def afU (m:Nat):dY ->AV ->Heap ->CR:=jL 182 (Yg m) ⟨.leaf,pathOf 64⟩ (.gs (pathOf 65) (nd m) 1) ⟨bW [(pathOf 65,.gl (mZ.cs (dg m)|>λ_=>(aq .u32).l (dg m)) false)],pathOf 66⟩ (aE ac3)
theorem Mg (m:Nat) (hm:nd m<=134217729) (h0:m≠0) (B0:Nat):aW prog B0 (afU m):=
 jM ae 0 (ay ae ac3 B0) (fn:=f182) rfl rfl rfl rfl (by decide) (BZ (dg m) (by rw [br];exact hm) (λe=>h0 (acO.1 e)) (λr h hr hn hg=>by
  refine GF (congrArg (λx=>some (AV.cons x .nil)) (hr.trans (by rw [br]))) (by rw [hn];rfl) ⟨hg,aA⟩))
theorem PM (m k:Nat) (hm:nd m<=134217729) (hk:k<32):dA 134 (.cons (aM.v m) (.cons ((aq .i64).v k) .nil)) (aM.v (m/2 ^ k)):=by
 by_cases h0:m=0
 .subst h0;refine PF.of_wp (c:=_) af (by decide) (fn:=f134) rfl rfl rfl (.cons (aM.ak _) (.cons .int .nil)) (call:=aE [mc,eV]) (λB0=>ay ae [mc,eV] B0) ?_;intro B0;have hc:=ay (P:=prog) ae [mc,eV] B0;conv=>whnf
  refine ct (l:=[mc,eV]) (by decide) 0 (c:=mc) rfl ([]:List Int) (Nat.zero_le _) (hk:=?_);conv=>whnf
  refine Cw.bL af rfl rfl hc 1 (aB ?_);refine ct (l:=[mc,eV]) (by decide) 1 (c:=eV) rfl ([]:List Int) ⟨.nil,by decide⟩ (hk:=?_);conv=>whnf
  refine aj.same ?_ (aM.ak _);rw [Nat.zero_div];rfl
 .have lm:=br m;refine PF.of_wp (c:=_) af (by decide) (fn:=f134) rfl rfl rfl (.cons (aM.ak _) (.cons .int .nil)) (call:=afU m) (λB0=>Mg m hm h0 B0) ?_;intro B0;have hc:=Mg m hm h0 B0;conv=>whnf
  refine pG (hk:=?_);conv=>whnf
  refine Cw.loop (ι:=Nat) (λi=>bm [(0,aM.v m),(1,.int .i64 k),(5,.gs (pathOf 65) (nd m) 1),(10,.int .i64 (nd m:Int)),(11,.int .i64 (i:Int))]) (λ_=>[])
   (λi=>⟨bW [(pathOf 65,.gl ((aq .u32).l (nc m k i)) false)],pathOf 66⟩) (λi=>i<=nd m) (λi=>nd m - i) ?_ 0 (Nat.zero_le _) ?_
  .intro i hi;refine aD af rfl rfl hc _ (aB ?_);refine an (λh=>?_) (λh=>?_)
   .have h:i<nd m:=Int.ofNat_lt.1 (aQ.1 h);have bM:ah .i64 (Int.add (i:Int) 1)=((i+1:Nat):Int):=by
     show ah .i64 ((i:Int)+1)=_;rw [az (by omega) (by omega)];omega
    have hlen:=zA (m:=m) (k:=k) hi;have hg:=SX (m:=m) (k:=k) h;conv=>whnf
    refine aG.go i rfl h (aB ?_);refine⟨_,(aq .u32).rd rfl (by omega:i<(nc m k i).length),aB ?_⟩;have ek:Nat.min ((k:Int)).toNat (fu .u32)=k:=Nat.min_eq_left (show k<=32 by omega);have ek6:Nat.min ((k:Int)).toNat (fu .u64)=k:=Nat.min_eq_left (show k<=64 by omega);have hd:m/4294967296 ^ i % 4294967296<4294967296:=Nat.mod_lt _ (by decide);have PN:m/4294967296 ^ i % 4294967296/2 ^ k<=m/4294967296 ^ i % 4294967296:=Nat.div_le_self _ _;have x1:Int.ofNat (Nat.div ((nc m k i)[i]'(by omega)).toNat (Nat.pow 2 (Nat.min ((k:Int)).toNat (fu .u32))))=((m/4294967296 ^ i % 4294967296/2 ^ k:Nat):Int):=(by rw [hg,ek];rfl);have hls:=SY (m:=m) (i:=i) hk;refine⟨⟨by rw [hg];exact Int.natCast_nonneg _,Int.natCast_nonneg _⟩,aB ?_⟩;refine aG.go i rfl h (aB ?_);refine(aq .u32).st (xs:=nc m k i) (i:=i) _ (by omega) ?_;conv=>whnf
    refine an (λh2=>?_) (λh2=>?_)
    .have h2:i+1<(dg m).length:=(by have:=aQ.1 h2;rw [bM]at this;exact Int.ofNat_lt.1 this);conv=>whnf
     refine aG.go i rfl h (aB ?_);refine⟨_,(aq .u32).rd rfl (by rw [List.length_set];omega),aB ?_⟩;refine aG.go (i+1) bM h2 (aB ?_);refine⟨_,(aq .u32).rd rfl h2,aB ?_⟩;have y1:ah .u64 (dg m)[i+1]=((m/4294967296 ^ (i+1) % 4294967296:Nat):Int):=(by rw [bz h2];exact aJ (by omega) (by omega));have y2:=afS y1;have y3:=afT (k:=k) hk y2;refine⟨by decide,aB ?_⟩;refine⟨⟨by rw [y2];exact Int.natCast_nonneg _,Int.natCast_nonneg _⟩,aB ?_⟩;have x2:((nc m k i).set i (Int.ofNat (Nat.div ((nc m k i)[i]'(by omega)).toNat (Nat.pow 2 (Nat.min ((k:Int)).toNat (fu .u32))))))[i]'(by rw [List.length_set];omega)=((m/4294967296 ^ i % 4294967296/2 ^ k:Nat):Int):=(by rw [List.getElem_set_self];exact x1);have hm3:m/4294967296 ^ (i+1) % 4294967296*4294967296 % 18446744073709551616/2 ^ k % 4294967296<4294967296:=Nat.mod_lt _ (by decide);refine⟨⟨by rw [x2];exact Int.natCast_nonneg _,by rw [x2];exact GJ (Int.natCast_nonneg _) (by omega),by rw [y3];exact Int.natCast_nonneg _,by rw [y3];exact GJ (Int.natCast_nonneg _) (by omega)⟩,aB ?_⟩;refine aG.go i rfl h (aB ?_);refine(aq .u32).st (xs:=_) (i:=i) _ (by rw [List.length_set];omega) ?_;conv=>whnf
     refine⟨i+1,h,by omega,?_⟩;refine Sub.of (fI [65]) [] rfl rfl rfl ?_ ?_
     .repeat' first|exact aA|exact rfl|refine And.intro ?_ ?_
      all_goals exact bM
     .repeat' first|exact aA|exact rfl|refine And.intro ?_ ?_
      all_goals first|exact(aq .u32).bh _|skip
      refine congrArg (aq .u32).l ((List.set_set _).trans (GI h ?_));rw [x2,y3,<-hls,Int.toNat_natCast,Int.toNat_natCast];exact Int.ofNat_eq_natCast _
    .have h2:(dg m).length<=i+1:=(by have:=bf.1 h2;rw [bM]at this;exact Int.ofNat_le.1 this);conv=>whnf
     refine⟨i+1,h,by omega,?_⟩;refine Sub.of (fI [65]) [] rfl rfl rfl ?_ ?_
     .repeat' first|exact aA|exact rfl|refine And.intro ?_ ?_
      all_goals exact bM
     .repeat' first|exact aA|exact rfl|refine And.intro ?_ ?_
      all_goals first|exact(aq .u32).bh _|skip
      refine congrArg (aq .u32).l (GI h ?_);rw [x1,<-hls,show m/4294967296 ^ (i+1)=0 from Nat.div_eq_of_lt (Nat.lt_of_lt_of_le (dG m) (Nat.pow_le_pow_right (by decide) (by omega)))];simp
   .have h:i=nd m:=(by have:=bf.1 h;have this:((nd m:Nat):Int)<=(i:Int):=this;omega);have hv:val (nc m k i)=m/2 ^ k:=by
     have hle:m/2 ^ k<=m:=Nat.div_le_self _ _;unfold nc;rw [h,List.drop_of_length_le (Nat.le_of_eq lm),List.append_nil,List.take_of_length_le (by rw [bu];exact Nat.le_refl _),gI,Nat.mod_eq_of_lt (Nat.lt_of_le_of_lt hle (dG m))]
    have hdg:DG (nc m k i):=by
     unfold nc;exact DG.append.2 ⟨(gC _ _).take i,λx hx=>abb m x (List.mem_of_mem_drop hx)⟩
    have hlen:=zA (m:=m) (k:=k) hi;conv=>whnf
    refine gJ (by decide) (ct (l:=ac3) (by decide) 0 (c:=eV) rfl (nc m k i) ⟨hdg,by show(nc m k i).length<_;omega⟩ (hbor:=?_) (has:=?_) (hk:=?_))
    .exact⟨by show nd m*1=((aq .u32).l (nc m k i)).len;rw [bX.ep];show nd m*1=(nc m k i).length*1;omega,aA⟩
    .show AV.cons (.ro (nc m k i).length _) .nil=AV.cons (.ro (nd m) _) .nil;rw [hlen]
    conv=>whnf
    refine aj.same ?_ (aM.ak _);exact congrArg aM.v hv
  .refine Sub.of (fI [65]) [] rfl rfl rfl ?_ ?_
   .exact pc
   .repeat' first|exact aA|exact rfl|refine And.intro ?_ ?_
    all_goals first|exact(aq .u32).bh _|skip
def Ca:Cn prog:= .kz aM (aq .i64) aM 134 false (λm k=>nd m<=134217729/\0<=k/\k<32) (λm k=>m/2 ^ k.toNat) (λe=>by cases e) (λm k h=>by
 obtain⟨j,rfl⟩:=Int.eq_ofNat_of_zero_le h.2.1;exact PM m j h.1 (by omega)) (au rfl rfl)
end
end
end Go.Sy
namespace Go.Sy
open Go.RowKit
theorem nB {l:List Int} (h:DG l) {i:Nat} (hi:i<l.length):l[i]=((val l/4294967296 ^ i % 4294967296:Nat):Int):=by
 have e:=lN h;have:(fG l.length (val l))[i]'(by rw [bu];exact hi)=((val l/4294967296 ^ i % 4294967296:Nat):Int):=ig _;rw [<-this];congr 1;exact e.symm
theorem Ta {l:List Int} (h:DG l) {i:Nat} (hi:i<=l.length):val (l.take i)=val l % 4294967296 ^ i:=by
 have:=vu l.length (val l) i hi;rwa [lN h]at this
theorem Mh {p W q:List Int} {off i:Nat} (hp:p.length=off) (hi:i<W.length):(p++W++q)[off+i]'(by simp;omega)=W[i]:=by
 rw [List.getElem_append_left (by simp;omega),List.getElem_append_right (by omega)];congr 1;omega
theorem Mi {p W q:List Int} {off i:Nat} {x:Int} (hp:p.length=off) (hi:i<W.length):(p++W++q).set (off+i) x=p++W.set i x++q:=by
 rw [List.set_append_left _ _ (by simp;omega),List.set_append_right _ _ (by omega)];congr 3;omega
section
variable [aY] {P:Program}
theorem rdW {t:TypeId} (ht:qt P t=some none) {p W q:List Int} {off i:Nat} (hp:p.length=off) (hi:i<W.length):fR P t (cX (Nat.add (Nat.mul off 1) (Nat.mul i 1)) ((aq .u32).l (p++W++q)))=some ((aq .u32).v W[i]):=by
 rw [show Nat.add (Nat.mul off 1) (Nat.mul i 1)=Nat.mul (off+i) 1 by show off*1+i*1=(off+i)*1;omega];have:=(aq .u32).rd (P:=P) (t:=t) ht (xs:=p++W++q) (i:=off+i) (by simp;omega);rw [Mh hp hi]at this;exact this
theorem JX {t:TypeId} (ht:qt P t=some none) {p W q:List Int} {i:Nat} (hp:p.length=0) (hi:i<W.length):fR P t (cX (Nat.mul i 1) ((aq .u32).l (p++W++q)))=some ((aq .u32).v W[i]):=by
 have:=(aq .u32).rd (P:=P) (t:=t) ht (xs:=p++W++q) (i:=0+i) (by simp;omega);rw [Mh hp hi,Nat.zero_add]at this;exact this
theorem stW {p W q:List Int} {off i:Nat} (hp:p.length=off) (x:Int) (hi:i<W.length) {K:AV ->Prop} (hk:K ((aq .u32).l (p++W.set i x++q))):StP (Nat.add (Nat.mul off 1) (Nat.mul i 1)) 1 ((aq .u32).l (p++W++q)) ((aq .u32).c x .nil) K:=by
 rw [show Nat.add (Nat.mul off 1) (Nat.mul i 1)=Nat.mul (off+i) 1 by show off*1+i*1=(off+i)*1;omega];exact(aq .u32).st (xs:=p++W++q) (i:=off+i) x (by simp;omega) (by rw [Mi hp hi];exact hk)
theorem Yh {p W q:List Int} {i:Nat} (hp:p.length=0) (x:Int) (hi:i<W.length) {K:AV ->Prop} (hk:K ((aq .u32).l (p++W.set i x++q))):StP (Nat.mul i 1) 1 ((aq .u32).l (p++W++q)) ((aq .u32).c x .nil) K:=by
 have:=(aq .u32).st (xs:=p++W++q) (i:=0+i) x (by simp;omega) (K:=K) (by rw [Mi hp hi];exact hk);rwa [Nat.zero_add]at this
end
structure KW (n U V hi h l u2 M U' V':Nat):Prop where
 hM:M=4294967296 ^ (n - 2)
 hV:V=(h*4294967296+l)*M+V'
 hU:U=(hi*4294967296+u2)*M+U'
 v':V'<M
 u':U'<M
 h0:0<h
 hb:h<4294967296
 lb:l<4294967296
 ub:u2<4294967296
 lt:U<V*4294967296
theorem KW.hiB {n U V hi h l u2 M U' V':Nat} (k:KW n U V hi h l u2 M U' V'):hi<=h*4294967296+l:=by
 have hM:0<M:=by rw [k.hM];exact Nat.pow_pos (by decide)
 apply Nat.le_of_lt_succ;apply Nat.lt_of_not_le;intro hle;have h1:(h*4294967296+l+1)*(4294967296*M)<=hi*(4294967296*M):=Nat.mul_le_mul_right _ hle;have h2:hi*(4294967296*M)<=U:=by
  rw [k.hU,Nat.add_mul,<-Nat.mul_assoc];generalize hi*4294967296*M=A;generalize u2*M=C;exact Nat.le_trans (Nat.le_add_right A C) (Nat.le_add_right _ _)
 have h3:V*4294967296<(h*4294967296+l+1)*(4294967296*M):=by
  rw [Nat.mul_comm 4294967296 M,<-Nat.mul_assoc];apply Nat.mul_lt_mul_of_pos_right _ (by decide);have:=k.v';rw [k.hV,Nat.add_mul _ 1,Nat.one_mul];omega
 have:=k.lt;omega
theorem KW.mk' {n:Nat} {V U:Nat} (hn:2<=n) (hV:V<4294967296 ^ n) (hV2:4294967296 ^ (n - 1)<=V) (cJ:U<V*4294967296):
  KW n U V (U/4294967296 ^ (n - 1)) (V/4294967296 ^ (n - 1)) (V/4294967296 ^ (n - 2) % 4294967296) (U/4294967296 ^ (n - 2) % 4294967296) (4294967296 ^ (n - 2)) (U % 4294967296 ^ (n - 2)) (V % 4294967296 ^ (n - 2)):=by
 have e:(4294967296:Nat) ^ (n - 1)=4294967296 ^ (n - 2)*4294967296:=by rw [<-Nat.pow_succ];congr 1;omega
 have e2:(4294967296:Nat) ^ n=4294967296 ^ (n - 1)*4294967296:=by rw [<-Nat.pow_succ];congr 1;omega
 have hM:0<(4294967296:Nat) ^ (n - 2):=Nat.pow_pos (by decide);have hM1:0<(4294967296:Nat) ^ (n - 1):=Nat.pow_pos (by decide);have key:∀X:Nat,X=(X/4294967296 ^ (n - 1)*4294967296+X/4294967296 ^ (n - 2) % 4294967296)*4294967296 ^ (n - 2)+X % 4294967296 ^ (n - 2):=by
  intro X;rw [e,<-Nat.div_div_eq_div_mul];have h1:=Nat.div_add_mod (X/4294967296 ^ (n - 2)) 4294967296;rw [Nat.mul_comm 4294967296]at h1;rw [h1,Nat.mul_comm];exact(Nat.div_add_mod _ _).symm
 refine⟨rfl,key V,key U,Nat.mod_lt _ hM,Nat.mod_lt _ hM,Nat.div_pos hV2 hM1,?_,Nat.mod_lt _ (by decide),Nat.mod_lt _ (by decide),cJ⟩;rw [Nat.div_lt_iff_lt_mul hM1,Nat.mul_comm,<-e2];exact hV
theorem GK {c b q d u:Nat} (hc:c<4294967296) (hb:b<=1) (hq:q<4294967296) (hd:d<4294967296) (hu:u<4294967296):
  ∃w b':Nat,w<4294967296/\b'<=1/\((u:Int) - (b:Int) - (((c+q*d) % 4294967296:Nat):Int)) % 4294967296=(w:Int)/\(((u:Int) - (b:Int) - (((c+q*d) % 4294967296:Nat):Int)<0/\b'=1)\/(0<=(u:Int) - (b:Int) - (((c+q*d) % 4294967296:Nat):Int)/\b'=0))/\
   (c+q*d)/4294967296<4294967296/\c+b+w+q*d=u+((c+q*d)/4294967296+b')*4294967296/\c+q*d<18446744073709551616:=by
 have hqd:q*d<=4294967295*4294967295:=Nat.mul_le_mul (by omega) (by omega);generalize q*d=x at*;have h1:=Nat.div_add_mod (c+x) 4294967296;have h2:=Nat.mod_lt (c+x) (show 0<4294967296 by decide);have h3:(c+x)/4294967296<4294967296:=by rw [Nat.div_lt_iff_lt_mul (by decide)];omega
 generalize (c+x)/4294967296=y at*;generalize (c+x) % 4294967296=z at*;by_cases ht:(u:Int) - (b:Int) - (z:Int)<0
 .exact⟨u+4294967296 - b - z,1,by omega,by omega,by omega,.inl ⟨ht,rfl⟩,h3,by omega,by omega⟩
 .exact⟨u - b - z,0,by omega,by omega,by omega,.inr ⟨by omega,rfl⟩,h3,by omega,by omega⟩
namespace KW
variable {n U V hi h l u2 M U' V':Nat}
theorem afV (k:KW n U V hi h l u2 M U' V'):0<M:=by rw [k.hM];exact Nat.pow_pos (by decide)
theorem ai1 (k:KW n U V hi h l u2 M U' V'):0<V:=by
 have:=k.lt;rcases Nat.eq_zero_or_pos V with e|e
 .rw [e,Nat.zero_mul]at this;omega
 .exact e
theorem qle (k:KW n U V hi h l u2 M U' V'):U/V*((h*4294967296+l)*M+V')<=(hi*4294967296+u2)*M+U':=by
 rw [<-k.hV,<-k.hU];exact Nat.div_mul_le_self _ _
theorem qlt (k:KW n U V hi h l u2 M U' V'):U/V<4294967296:=by
 rw [Nat.div_lt_iff_lt_mul k.ai1,Nat.mul_comm];exact k.lt
theorem start (k:KW n U V hi h l u2 M U' V'):U/V<=hi/h/\hi/h*h+hi % h=hi:=⟨SA k.h0 k.afV k.ub k.u' k.qle,by rw [Nat.mul_comm];exact Nat.div_add_mod _ _⟩
theorem step (k:KW n U V hi h l u2 M U' V') {q r:Nat} (e:q*h+r=hi) (hq:U/V<=q) (ht:4294967296<=q\/r*4294967296+u2<q*l):U/V<=q - 1/\(q - 1)*h+(r+h)=hi/\1<=q:=by
 have cJ:U/V<q:=by
  rcases ht with ht|ht
  .exact Nat.lt_of_lt_of_le k.qlt ht
  .exact XK k.u' e k.qle ht
 obtain⟨j,rfl⟩:∃j,q=j+1:=Nat.exists_eq_add_one.2 (Nat.lt_of_le_of_lt (Nat.zero_le _) cJ);refine⟨Nat.le_of_lt_succ cJ,?_,Nat.succ_le_succ (Nat.zero_le _)⟩;rw [<-e,Nat.add_mul,Nat.one_mul,Nat.add_sub_cancel];omega
theorem exit (k:KW n U V hi h l u2 M U' V') {q r:Nat} (e:q*h+r=hi) (hq:U/V<=q) (ht:4294967296<=r\/(q<4294967296/\q*l<=r*4294967296+u2)):q<4294967296/\q*V<U+V:=by
 have XJ:q<4294967296:=by
  rcases ht with ht|ht
  .apply Nat.lt_of_not_le;intro hle;have h1:4294967296*h<=q*h:=Nat.mul_le_mul_right _ hle;have h2:=k.hiB;have h3:=k.lb;rw [Nat.mul_comm h]at h2;omega
  .exact ht.1
 refine⟨XJ,?_⟩;have:=Pt (M:=M) (U':=U') (V':=V') (l:=l) (u2:=u2) k.afV k.v' k.h0 k.hb k.lb k.ub k.u' XJ e (ht.imp id (λh=>h.2));rwa [<-k.hV,<-k.hU]at this
end KW
theorem Mj {U V q a t B:Nat} (hq:U/V<=q) (hV:0<V) (e:a+q*V+B*t=U):q=U/V/\U % V=a+B*t:=by
 have h1:q<=U/V:=(Nat.le_div_iff_mul_le hV).2 (by omega);have h2:q=U/V:=Nat.le_antisymm h1 hq;refine⟨h2,?_⟩;have:=Nat.div_add_mod U V;rw [h2,Nat.mul_comm (U/V)]at e;omega
theorem Cb {U V q a B:Nat} (hq:U/V<=q) (cJ:q*V<U+V) (hV:0<V) (e:a+q*V=U+B) (ha:a<B):q=U/V+1/\U % V+B=a+V:=by
 have h1:U<q*V:=by omega
 have h2:U/V<q:=(Nat.div_lt_iff_lt_mul hV).2 h1;have h3:q<U/V+1+1:=by
  apply Nat.lt_of_not_le;intro hle;have h4:(U/V+1+1)*V<=q*V:=Nat.mul_le_mul_right _ hle;have h5:=Nat.div_add_mod U V;have h6:=Nat.mod_lt U hV;rw [Nat.add_mul,Nat.add_mul,Nat.one_mul,Nat.mul_comm (U/V)]at h4;omega
 have h4:q=U/V+1:=by omega
 refine⟨h4,?_⟩;have h5:=Nat.div_add_mod U V;rw [h4,Nat.add_mul,Nat.one_mul,Nat.mul_comm (U/V)]at e;omega
end Go.Sy
namespace Go.Sy
noncomputable section
open Go.RowKit Go.Proofs Go.Proofs.Tryz
section
attribute [local irreducible] Cw aj bE PF Sub
abbrev tbD:aY:=qi fe 2
attribute [local instance] tbD
theorem Mk {x:Int} (h1:0<=x) (h2:x<18446744073709551616):fits .u64 x=true:=cK.2 ⟨by show -(0:Int)<=_;omega,h2⟩
theorem JY {x y:Int} {a b:Nat} (hx:x=(a:Int)) (hy:y=(b:Int)) (ha:a<4294967296) (hb:b<4294967296):
  (0<=ah .u64 (Int.mul (ah .u64 x) (.ofNat (Nat.pow 2 (Nat.min (Int.toNat 32) (fu .u64)))))/\fits .u64 (ah .u64 (Int.mul (ah .u64 x) (.ofNat (Nat.pow 2 (Nat.min (Int.toNat 32) (fu .u64))))))=true/\0<=ah .u64 y/\fits .u64 (ah .u64 y)=true)/\
   Int.ofNat (Nat.lor (ah .u64 (Int.mul (ah .u64 x) (.ofNat (Nat.pow 2 (Nat.min (Int.toNat 32) (fu .u64)))))).toNat (ah .u64 y).toNat)=((a*4294967296+b:Nat):Int):=by
 have e1:ah .u64 x=(a:Int):=by rw [hx];exact aJ (by omega) (by omega)
 have e2:=afS e1;rw [Nat.mod_eq_of_lt (by omega:a*4294967296<18446744073709551616)]at e2;have e3:ah .u64 y=(b:Int):=by rw [hy];exact aJ (by omega) (by omega)
 rw [e2,e3];refine⟨⟨Int.natCast_nonneg _,Mk (Int.natCast_nonneg _) (by omega),Int.natCast_nonneg _,Mk (Int.natCast_nonneg _) (by omega)⟩,?_⟩;rw [Int.toNat_natCast,Int.toNat_natCast];exact congrArg Int.ofNat (Mc hb)
theorem Ml {r:Nat} {y:Int} {b:Nat} (hr:r<4294967296) (hy:y=(b:Int)) (hb:b<4294967296):
  (0<=ah .u64 (Int.mul (r:Int) (.ofNat (Nat.pow 2 (Nat.min (Int.toNat 32) (fu .u64)))))/\fits .u64 (ah .u64 (Int.mul (r:Int) (.ofNat (Nat.pow 2 (Nat.min (Int.toNat 32) (fu .u64))))))=true/\0<=ah .u64 y/\fits .u64 (ah .u64 y)=true)/\
   Int.ofNat (Nat.lor (ah .u64 (Int.mul (r:Int) (.ofNat (Nat.pow 2 (Nat.min (Int.toNat 32) (fu .u64)))))).toNat (ah .u64 y).toNat)=((r*4294967296+b:Nat):Int):=by
 have:=JY (x:=(r:Int)) rfl hy hr hb;rwa [aJ (n:=(r:Int)) (by omega) (by omega)]at this
structure DI where
 off:Nat
 p:List Int
 W:List Int
 q:List Int
 Q:List Int
 V:Nat
 cap:Nat
structure DI.OK (d:DI):Prop where
 hp:d.p.length=d.off
 hn:2<=nd d.V
 hW:d.W.length=nd d.V+1
 hD:DG d.W
 cJ:val d.W<d.V*4294967296
 hs:nd d.V<134217729
def PO (d:DI) (W:List Int):Heap:=⟨bW [(pathOf 64,.gl ((aq .u32).l (d.p++W++d.q)) false),(pathOf 65,.gl ((aq .u32).l d.Q) false)],pathOf 66⟩
def afW (d:DI):AV:= .cons (.slice (pathOf 64) (Nat.mul d.off 1) (nd d.V+1) d.cap 1) (.cons (aM.v d.V) .nil)
def abg (d:DI):AV:= .cons (.gs (pathOf 64) (nd d.V+1) 1) (.cons (aM.v d.V) .nil)
def xi (d:DI):List Int:=fG (nd d.V+1) (val d.W % d.V)
def WU (d:DI):List (Pos×AO):=[(pathOf 64,.gl ((aq .u32).l (d.p++xi d++d.q)) false),(pathOf 65,.gl ((aq .u32).l d.Q) false)]
def InD (xs:AV) (d:DI) (B0:Nat):Prop:=
 Cw prog B0 ⟨prog,133,f133.ntmps,none,aE (P:=prog) [],0⟩ (oJ f133) (fnR f133 xs) [] (PO d d.W)
  (QK (fa prog f133 (.int .u32 (val d.W/d.V:Nat)) (WU d) (pathOf 66)) (fa prog f133 (.int .u32 (val d.W/d.V:Nat)) (WU d) (pathOf 66)) (λ_ _ _ _=>False))
theorem GL (d:DI) (hd:d.OK) (x:Nat) (hx:x<4294967296) (hxV:x*d.V<val d.W+d.V) (hxQ:val d.W/d.V<=x) {B0:Nat}:
  Cw prog B0 ⟨prog,133,f133.ntmps,none,aE (P:=prog) [],0⟩ (DN 5 (oJ f133)) (bm [(0,.slice (pathOf 64) (Nat.mul d.off 1) (nd d.V+1) d.cap 1),(1,aM.v d.V),(5,.int .i64 (nd d.V:Nat)),(7,.int .u64 (x:Nat))]) [] (PO d d.W)
   (QK (fa prog f133 (.int .u32 (val d.W/d.V:Nat)) (WU d) (pathOf 66)) (fa prog f133 (.int .u32 (val d.W/d.V:Nat)) (WU d) (pathOf 66)) (λ_ _ _ _=>False)):=by
 have hc:=ay (P:=prog) ae [] B0;obtain⟨off,p,W,q,Q,V,cap⟩:=d;obtain⟨hp,hn,hW,hD,cJ,hs⟩:=hd;simp only at hp hn hW hD cJ hs hxV hxQ;have lV:=br V;have Yi:0<V:=Nat.pos_of_ne_zero (λe=>by rw [e]at hn;exact absurd hn (by decide));have DW:=dG V;refine aD af rfl rfl hc _ (aB ?_);refine Cw.loop (ι:=Nat×Nat×Nat×List Int) (λz=>bm [(0,.slice (pathOf 64) (Nat.mul off 1) (nd V+1) cap 1),(1,aM.v V),(5,.int .i64 (nd V:Nat)),(7,.int .u64 (x:Nat)),(9,.int .u64 (z.2.1:Nat)),(10,.int .i64 (z.2.2.1:Nat)),(84,aM.v V),(85,.int .i64 (nd V:Nat)),(86,.int .i64 (z.1:Nat))]) (λ_=>[]) (λz=>PO ⟨off,p,W,q,Q,V,cap⟩ z.2.2.2)
  (λz=>z.1<=nd V/\z.2.2.2.length=nd V+1/\DG z.2.2.2/\z.2.1<4294967296/\z.2.2.1<=1/\z.2.2.2.drop z.1=W.drop z.1/\val (z.2.2.2.take z.1)+x*(V % 4294967296 ^ z.1)=val W % 4294967296 ^ z.1+(z.2.1+z.2.2.1)*4294967296 ^ z.1) (λz=>nd V - z.1) ?_ (0,0,0,W) ⟨Nat.zero_le _,hW,hD,show 0<4294967296 by decide,Nat.zero_le 1,rfl,by simp [Nat.mod_one,val]⟩ ?_
 .rintro ⟨i,c,b,Y⟩ ⟨k1,k2,k3,k4,k5,k6,k7⟩;have k1:i<=nd V:=k1;have k2:Y.length=nd V+1:=k2;have k3:DG Y:=k3;have k4:c<4294967296:=k4;have k5:b<=1:=k5;have k6:Y.drop i=W.drop i:=k6;have k7:val (Y.take i)+x*(V % 4294967296 ^ i)=val W % 4294967296 ^ i+(c+b)*4294967296 ^ i:=k7;have hYi:Y[i]'(by omega)=((val W/4294967296 ^ i % 4294967296:Nat):Int):=by
   rw [<-nB hD (by omega)];have e1:=List.drop_eq_getElem_cons (l:=Y) (i:=i) (by omega);have e2:=List.drop_eq_getElem_cons (l:=W) (i:=i) (by omega);rw [k6,e2]at e1;injection e1 with e1 _;exact e1.symm
  refine aD af rfl rfl hc _ (aB ?_);refine an (λh=>?_) (λh=>?_)
  .have h:i<nd V:=Int.ofNat_lt.1 (aQ.1 h);have bM:ah .i64 (Int.add (i:Int) 1)=((i+1:Nat):Int):=by
    show ah .i64 ((i:Int)+1)=_;rw [az (by omega) (by omega)];omega
   have fw:i<(dg V).length:=(by omega);have hVi:=bz (v:=V) (i:=i) fw;have hu:val W/4294967296 ^ i % 4294967296<4294967296:=Nat.mod_lt _ (by decide);have hdd:V/4294967296 ^ i % 4294967296<4294967296:=Nat.mod_lt _ (by decide);obtain⟨w,b',s1,s2,s3,s4,s5,s6,s7⟩:=GK k4 k5 hx hdd hu;have hxd:x*(V/4294967296 ^ i % 4294967296)<18446744073709551616:=(by omega);have eC:ah .u64 (Int.add (c:Int) (ah .u64 (Int.mul (x:Int) (ah .u64 ((dg V)[i]'fw)))))=((c+x*(V/4294967296 ^ i % 4294967296):Nat):Int):=by
    rw [hVi,aJ (n:=((V/4294967296 ^ i % 4294967296:Nat):Int)) (by omega) (by omega)];rw [show Int.mul (x:Int) ((V/4294967296 ^ i % 4294967296:Nat):Int)=((x*(V/4294967296 ^ i % 4294967296):Nat):Int)from rfl,aJ (n:=((x*(V/4294967296 ^ i % 4294967296):Nat):Int)) (by omega) (by omega)];exact aJ (n:=((c+x*(V/4294967296 ^ i % 4294967296):Nat):Int)) (by omega) (by omega)
   have hz:(c+x*(V/4294967296 ^ i % 4294967296)) % 4294967296<4294967296:=Nat.mod_lt _ (by decide);generalize xx:c+x*(V/4294967296 ^ i % 4294967296)=cd at*;have eT:ah .i64 (Int.sub (ah .i64 (Int.sub (ah .i64 (Y[i]'(by omega))) (b:Int))) (ah .i64 (ah .u32 (ah .u64 (Int.add (c:Int) (ah .u64 (Int.mul (x:Int) (ah .u64 ((dg V)[i]'fw)))))))))=((val W/4294967296 ^ i % 4294967296:Nat):Int) - (b:Int) - ((cd % 4294967296:Nat):Int):=by
    rw [eC,hYi,wrap_u32,show((cd:Nat):Int) % 4294967296=((cd % 4294967296:Nat):Int)from rfl];rw [az (n:=((val W/4294967296 ^ i % 4294967296:Nat):Int)) (by omega) (by omega),az (n:=((cd % 4294967296:Nat):Int)) (by omega) (by omega)];show ah .i64 (ah .i64 (((val W/4294967296 ^ i % 4294967296:Nat):Int) - (b:Int)) - ((cd % 4294967296:Nat):Int))=_;rw [az (n:=((val W/4294967296 ^ i % 4294967296:Nat):Int) - (b:Int)) (by omega) (by omega)];exact az (by omega) (by omega)
   conv=>whnf
   refine aG.go i rfl fw (aB ?_);refine⟨_,(aq .u32).rd rfl fw,aB ?_⟩;refine aG.go i rfl (show i<nd V+1 by omega) (aB ?_);refine⟨_,rdW rfl hp (W:=Y) (i:=i) (by omega),aB ?_⟩;have eC':((cd:Nat):Int).toNat=cd:=rfl;have Yj:Int.ofNat (Nat.div (ah .u64 (Int.add (c:Int) (ah .u64 (Int.mul (x:Int) (ah .u64 ((dg V)[i]'fw)))))).toNat (Nat.pow 2 (Nat.min (Int.toNat 32) (fu .u64))))=((cd/4294967296:Nat):Int):=(by rw [eC];rfl);refine⟨⟨by rw [eC];exact Int.natCast_nonneg _,by decide⟩,aB ?_⟩;refine aG.go i rfl (show i<nd V+1 by omega) (aB ?_);refine stW hp (W:=Y) (i:=i) _ (by omega) ?_;have eS:ah .u32 (ah .i64 (Int.sub (ah .i64 (Int.sub (ah .i64 (Y[i]'(by omega))) (b:Int))) (ah .i64 (ah .u32 (ah .u64 (Int.add (c:Int) (ah .u64 (Int.mul (x:Int) (ah .u64 ((dg V)[i]'fw))))))))))=(w:Int):=(by rw [eT,wrap_u32];exact s3);have hm1:val W % 4294967296 ^ (i+1)=val W % 4294967296 ^ i+4294967296 ^ i*(val W/4294967296 ^ i % 4294967296):=(by rw [Nat.pow_succ,Nat.mod_mul]);have hm2:V % 4294967296 ^ (i+1)=V % 4294967296 ^ i+4294967296 ^ i*(V/4294967296 ^ i % 4294967296):=(by rw [Nat.pow_succ,Nat.mod_mul]);have kx:∀y:Int,y=(w:Int) ->((i+1<=nd V/\(Y.set i y).length=nd V+1/\DG (Y.set i y)/\cd/4294967296<4294967296/\b'<=1/\(Y.set i y).drop (i+1)=W.drop (i+1)/\val ((Y.set i y).take (i+1))+x*(V % 4294967296 ^ (i+1))=val W % 4294967296 ^ (i+1)+(cd/4294967296+b')*4294967296 ^ (i+1))):=by
    rintro y rfl;refine⟨h,by rw [List.length_set,k2],k3.set i (Int.natCast_nonneg _) (by omega),s5,s2,?_,?_⟩
    .rw [List.drop_set_of_lt (by omega)];have e1:=congrArg (List.drop 1) k6;rwa [List.drop_drop,List.drop_drop]at e1
    .have e1:(Y.set i (w:Int)).take (i+1)=Y.take i++[(w:Int)]:=by
      rw [List.take_succ_eq_append_getElem (by rw [List.length_set];omega),List.getElem_set_self,List.take_set_of_le (Nat.le_refl _)]
     rw [e1,jP,List.length_take_of_le (by omega),Int.toNat_natCast,hm1,hm2,Nat.pow_succ];generalize 4294967296 ^ i=Z at*;generalize val (Y.take i)=A at*;generalize V % Z=VZ at*;generalize val W % Z=UZ at*;rw [Nat.mul_add,<-Nat.mul_assoc,Nat.mul_comm x Z,Nat.mul_assoc];generalize x*(V/Z % 4294967296)=xd at*;generalize x*VZ=xV at*;have e2:(cd/4294967296+b')*(Z*4294967296)=Z*((cd/4294967296+b')*4294967296):=(by rw [Nat.mul_comm,Nat.mul_assoc,Nat.mul_comm 4294967296]);rw [e2,Nat.mul_comm (c+b)]at*;have e3:=congrArg (Z*·) s6;simp only [Nat.mul_add]at e3 k7 ⊢;omega
   conv=>whnf
   refine an (λh2=>?_) (λh2=>?_)
   .have h2:ah .i64 (Int.sub (ah .i64 (Int.sub (ah .i64 (Y[i]'(by omega))) (b:Int))) (ah .i64 (ah .u32 (ah .u64 (Int.add (c:Int) (ah .u64 (Int.mul (x:Int) (ah .u64 ((dg V)[i]'fw)))))))))<0:=aQ.1 h2;rw [eT]at h2;obtain rfl:b'=1:=by rcases s4 with ⟨_,e⟩|⟨e,_⟩<;>omega
    conv=>whnf
    refine⟨(i+1,cd/4294967296,1,Y.set i (w:Int)),kx _ rfl,(by show nd V - (i+1)<nd V - i;omega),?_⟩;refine Sub.of (fI [64,65]) [] rfl rfl rfl ?_ ?_
    .repeat' first|exact aA|exact rfl|refine And.intro ?_ ?_
     all_goals first|exact bM|exact Yj
    .repeat' first|exact aA|exact rfl|refine And.intro ?_ ?_
     all_goals first|exact(aq .u32).bh _|exact congrArg (λy=>(aq .u32).l (p++Y.set i y++q)) eS
   .have h2:0<=ah .i64 (Int.sub (ah .i64 (Int.sub (ah .i64 (Y[i]'(by omega))) (b:Int))) (ah .i64 (ah .u32 (ah .u64 (Int.add (c:Int) (ah .u64 (Int.mul (x:Int) (ah .u64 ((dg V)[i]'fw))))))))):=bf.1 h2;rw [eT]at h2;obtain rfl:b'=0:=by rcases s4 with ⟨e,_⟩|⟨_,e⟩<;>omega
    conv=>whnf
    refine⟨(i+1,cd/4294967296,0,Y.set i (w:Int)),kx _ rfl,(by show nd V - (i+1)<nd V - i;omega),?_⟩;refine Sub.of (fI [64,65]) [] rfl rfl rfl ?_ ?_
    .repeat' first|exact aA|exact rfl|refine And.intro ?_ ?_
     all_goals first|exact bM|exact Yj
    .repeat' first|exact aA|exact rfl|refine And.intro ?_ ?_
     all_goals first|exact(aq .u32).bh _|exact congrArg (λy=>(aq .u32).l (p++Y.set i y++q)) eS
  .have h:i=nd V:=(by have:=bf.1 h;have this:((nd V:Nat):Int)<=(i:Int):=this;omega);subst h;rw [Nat.mod_eq_of_lt DW]at k7;have zB:=ky hD;rw [hW]at zB;have hB0:0<4294967296 ^ nd V:=Nat.pow_pos (by decide);have ac4:val W/4294967296 ^ nd V<4294967296:=by
    rw [Nat.div_lt_iff_lt_mul hB0,Nat.mul_comm,<-Nat.pow_succ];exact zB
   rw [Nat.mod_eq_of_lt ac4]at hYi;have hdm:=Nat.div_add_mod (val W) (4294967296 ^ nd V);have hta:val (Y.take (nd V))<4294967296 ^ nd V:=by
    have:=ky (k3.take (nd V));rwa [List.length_take_of_le (by omega)]at this
   generalize ai2:val W/4294967296 ^ nd V=top at*;generalize hUr:val W % 4294967296 ^ nd V=Ur at*;have eT:ah .i64 (Int.sub (ah .i64 (Int.sub (ah .i64 (Y[nd V]'(by omega))) (b:Int))) (ah .i64 (c:Int)))=(top:Int) - (b:Int) - (c:Int):=by
    rw [hYi,az (n:=(top:Int)) (by omega) (by omega),az (n:=(c:Int)) (by omega) (by omega)];show ah .i64 (ah .i64 ((top:Int) - (b:Int)) - (c:Int))=_;rw [az (n:=(top:Int) - (b:Int)) (by omega) (by omega)];exact az (by omega) (by omega)
   have pw:∀(Z:List Int) (y:Nat),Z.length=nd V+1 ->DG Z ->y<4294967296 ->val (Z.take (nd V))+4294967296 ^ nd V*y=val W % V ->Z.set (nd V) (y:Int)=xi ⟨off,p,W,q,Q,V,cap⟩:=by
    intro Z y hZ hZD hy he;have e1:DG (Z.set (nd V) (y:Int)):=hZD.set _ (Int.natCast_nonneg _) (by omega);have e2:Z.set (nd V) (y:Int)=Z.take (nd V)++[(y:Int)]:=by
     rw [List.set_eq_take_append_cons_drop,if_pos (by omega),List.drop_of_length_le (by omega)]
    show _=fG (nd V+1) (val W % V);rw [<-he,<-lN e1,List.length_set,hZ];congr 1;rw [e2,jP,List.length_take_of_le (by omega),Int.toNat_natCast]
   conv=>whnf
   refine aG.go (nd V) rfl (Nat.lt_succ_self _) (aB ?_);refine⟨_,rdW rfl hp (W:=Y) (i:=nd V) (by omega),aB ?_⟩;refine aG.go (nd V) rfl (Nat.lt_succ_self _) (aB ?_);refine stW hp (W:=Y) (i:=nd V) _ (by omega) (aB ?_);refine an (λh2=>?_) (λh2=>?_)
   .have h2:0<=ah .i64 (Int.sub (ah .i64 (Int.sub (ah .i64 (Y[nd V]'(by omega))) (b:Int))) (ah .i64 (c:Int))):=cA.1 h2;rw [eT]at h2;have e1:val (Y.take (nd V))+x*V+4294967296 ^ nd V*(top - b - c)=val W:=by
     have:4294967296 ^ nd V*(top - b - c)+(c+b)*4294967296 ^ nd V=4294967296 ^ nd V*top:=by
      rw [Nat.mul_comm (c+b),<-Nat.mul_add];congr 1;omega
     omega
    obtain⟨e2,e3⟩:=Mj hxQ Yi e1;conv=>whnf
    refine⟨?_,rfl,?_,rfl,aA⟩
    .exact congrArg (AV.int .u32) ((eL (n:=(x:Int)) (by omega) (by omega)).trans (congrArg Int.ofNat e2))
    .have e4:=pw Y (top - b - c) k2 k3 (by omega) e3.symm;have e5:ah .u32 (ah .i64 (Int.sub (ah .i64 (Int.sub (ah .i64 (Y[nd V]'(by omega))) (b:Int))) (ah .i64 (c:Int))))=((top - b - c:Nat):Int):=by
      rw [eT,show(top:Int) - (b:Int) - (c:Int)=((top - b - c:Nat):Int) by omega];exact eL (by omega) (by omega)
     rw [<-e5]at e4;exact congrArg (λl=>some (AO.gl ((aq .u32).l (p++l++q)) false)) e4
   .have h2:ah .i64 (Int.sub (ah .i64 (Int.sub (ah .i64 (Y[nd V]'(by omega))) (b:Int))) (ah .i64 (c:Int)))<0:=jk.1 h2;rw [eT]at h2;have e5:ah .u32 (ah .i64 (Int.sub (ah .i64 (Int.sub (ah .i64 (Y[nd V]'(by omega))) (b:Int))) (ah .i64 (c:Int))))=((4294967295:Nat):Int)/\x=val W/V+1/\val W % V+4294967296 ^ nd V=val (Y.take (nd V))+V:=by
     have hs:c+b - top=1:=by
      have e1:4294967296 ^ nd V*(c+b - top)+4294967296 ^ nd V*top=(c+b)*4294967296 ^ nd V:=by
       rw [<-Nat.mul_add,Nat.mul_comm (c+b)];congr 1;omega
      apply Nat.le_antisymm
      .apply Nat.le_of_lt_succ;apply Nat.lt_of_not_le;intro hle;have:=Nat.mul_le_mul_left (4294967296 ^ nd V) hle;omega
      .omega
     have e2:val (Y.take (nd V))+x*V=val W+4294967296 ^ nd V:=by
      have e1:(c+b)*4294967296 ^ nd V=4294967296 ^ nd V*top+4294967296 ^ nd V:=by
       rw [show c+b=top+1 by omega,Nat.add_mul,Nat.one_mul,Nat.mul_comm top]
      omega
     refine⟨?_,Cb hxQ hxV Yi e2 hta⟩;rw [eT,wrap_u32];omega
    obtain⟨e5,e6,e7⟩:=e5;have hYD:DG (Y.set (nd V) ((4294967295:Nat):Int)):=k3.set _ (by decide) (by decide);have hlY:(Y.set (nd V) ((4294967295:Nat):Int)).length=nd V+1:=(by rw [List.length_set,k2]);have htk:∀i,i<=nd V ->(Y.set (nd V) ((4294967295:Nat):Int)).take i=Y.take i:=λi hi=>List.take_set_of_le hi;conv=>whnf
    refine Cw.loop (ι:=Nat×Nat×List Int) (λz=>bm [(0,.slice (pathOf 64) (Nat.mul off 1) (nd V+1) cap 1),(5,.int .i64 (nd V:Nat)),(7,.int .u64 (x:Nat)),(9,.int .u64 (z.2.1:Nat)),(137,aM.v V),(138,.int .i64 (nd V:Nat)),(139,.int .i64 (z.1:Nat))]) (λ_=>[]) (λz=>PO ⟨off,p,W,q,Q,V,cap⟩ z.2.2)
     (λz=>z.1<=nd V/\z.2.2.length=nd V+1/\DG z.2.2/\z.2.1<=1/\z.2.2.drop z.1=(Y.set (nd V) ((4294967295:Nat):Int)).drop z.1/\val (z.2.2.take z.1)+z.2.1*4294967296 ^ z.1=val (Y.take z.1)+V % 4294967296 ^ z.1) (λz=>nd V - z.1) ?_ (0,0,Y.set (nd V) ((4294967295:Nat):Int)) ⟨Nat.zero_le _,hlY,hYD,Nat.zero_le 1,rfl,by simp [Nat.mod_one,val]⟩ ?_
    .rintro ⟨i,cy,Z⟩ ⟨m1,m2,m3,m4,m5,m6⟩;have m1:i<=nd V:=m1;have m2:Z.length=nd V+1:=m2;have m3:DG Z:=m3;have m4:cy<=1:=m4;have m5:Z.drop i=(Y.set (nd V) ((4294967295:Nat):Int)).drop i:=m5;have m6:val (Z.take i)+cy*4294967296 ^ i=val (Y.take i)+V % 4294967296 ^ i:=m6;refine aD af rfl rfl hc _ (aB ?_);refine an (λh=>?_) (λh=>?_)
     .have h:i<nd V:=Int.ofNat_lt.1 (aQ.1 h);have bM:ah .i64 (Int.add (i:Int) 1)=((i+1:Nat):Int):=by
       show ah .i64 ((i:Int)+1)=_;rw [az (by omega) (by omega)];omega
      have fw:i<(dg V).length:=(by omega);have hVi:=bz (v:=V) (i:=i) fw;have hdd:V/4294967296 ^ i % 4294967296<4294967296:=Nat.mod_lt _ (by decide);have hZi:Z[i]'(by omega)=Y[i]'(by omega):=by
       have e1:=List.drop_eq_getElem_cons (l:=Z) (i:=i) (by omega);have e2:=List.drop_eq_getElem_cons (l:=Y.set (nd V) ((4294967295:Nat):Int)) (i:=i) (by omega);rw [m5,e2]at e1;injection e1 with e1 _;rw [<-e1,List.getElem_set_ne (by omega)]
      have hyi:=k3.get (i:=i) (by omega);obtain⟨y,hy⟩:=Int.eq_ofNat_of_zero_le hyi.1;have hy:Y[i]'(by omega)=(y:Int):=hy;have hyb:y<4294967296:=(by omega);have eC:ah .u64 (Int.add (cy:Int) (ah .u64 (Int.add (ah .u64 (Z[i]'(by omega))) (ah .u64 ((dg V)[i]'fw)))))=((cy+(y+V/4294967296 ^ i % 4294967296):Nat):Int):=by
       rw [hZi,hy,hVi,aJ (n:=(y:Int)) (by omega) (by omega),aJ (n:=((V/4294967296 ^ i % 4294967296:Nat):Int)) (by omega) (by omega)];rw [show Int.add (y:Int) ((V/4294967296 ^ i % 4294967296:Nat):Int)=((y+V/4294967296 ^ i % 4294967296:Nat):Int)from rfl,aJ (n:=((y+V/4294967296 ^ i % 4294967296:Nat):Int)) (by omega) (by omega)];exact aJ (n:=((cy+(y+V/4294967296 ^ i % 4294967296):Nat):Int)) (by omega) (by omega)
      have eS:ah .u32 (ah .u64 (Int.add (cy:Int) (ah .u64 (Int.add (ah .u64 (Z[i]'(by omega))) (ah .u64 ((dg V)[i]'fw))))))=(((cy+(y+V/4294967296 ^ i % 4294967296)) % 4294967296:Nat):Int):=(by rw [eC,wrap_u32];exact(Int.natCast_emod _ _).symm);have Yj:Int.ofNat (Nat.div (ah .u64 (Int.add (cy:Int) (ah .u64 (Int.add (ah .u64 (Z[i]'(by omega))) (ah .u64 ((dg V)[i]'fw)))))).toNat (Nat.pow 2 (Nat.min (Int.toNat 32) (fu .u64))))=(((cy+(y+V/4294967296 ^ i % 4294967296))/4294967296:Nat):Int):=(by rw [eC];rfl);have hm2:V % 4294967296 ^ (i+1)=V % 4294967296 ^ i+4294967296 ^ i*(V/4294967296 ^ i % 4294967296):=(by rw [Nat.pow_succ,Nat.mod_mul]);have hvy:val (Y.take (i+1))=val (Y.take i)+4294967296 ^ i*y:=by
       rw [oc (by omega),hy,Int.toNat_natCast]
      have hdv:=Nat.div_add_mod (cy+(y+V/4294967296 ^ i % 4294967296)) 4294967296;have kx:∀w:Int,w=(((cy+(y+V/4294967296 ^ i % 4294967296)) % 4294967296:Nat):Int) ->((i+1<=nd V/\(Z.set i w).length=nd V+1/\DG (Z.set i w)/\(cy+(y+V/4294967296 ^ i % 4294967296))/4294967296<=1/\(Z.set i w).drop (i+1)=(Y.set (nd V) ((4294967295:Nat):Int)).drop (i+1)/\
        val ((Z.set i w).take (i+1))+(cy+(y+V/4294967296 ^ i % 4294967296))/4294967296*4294967296 ^ (i+1)=val (Y.take (i+1))+V % 4294967296 ^ (i+1))):=by
       rintro w rfl;refine⟨h,by rw [List.length_set,m2],m3.set i (Int.natCast_nonneg _) (by omega),by omega,?_,?_⟩
       .rw [List.drop_set_of_lt (by omega)];have e1:=congrArg (List.drop 1) m5;rwa [List.drop_drop,List.drop_drop]at e1
       .have e1:∀w:Int,(Z.set i w).take (i+1)=Z.take i++[w]:=λw=>by
         rw [List.take_succ_eq_append_getElem (by rw [List.length_set];omega),List.getElem_set_self,List.take_set_of_le (Nat.le_refl _)]
        rw [e1,jP,List.length_take_of_le (by omega),Int.toNat_natCast,hvy,hm2,Nat.pow_succ];generalize 4294967296 ^ i=B at*;generalize V/B % 4294967296=dd at*;generalize val (Z.take i)=A at*;generalize V % B=VB at*;generalize val (Y.take i)=YB at*;have e2:=congrArg (B*·) hdv;have e3:(cy+(y+dd))/4294967296*(B*4294967296)=B*(4294967296*((cy+(y+dd))/4294967296)):=(by rw [Nat.mul_comm,Nat.mul_assoc]);rw [e3];simp only [Nat.mul_add]at e2 ⊢;rw [Nat.mul_comm cy]at m6;omega
      conv=>whnf
      refine aG.go i rfl fw (aB ?_);refine⟨_,(aq .u32).rd rfl fw,aB ?_⟩;refine aG.go i rfl (show i<nd V+1 by omega) (aB ?_);refine⟨_,rdW rfl hp (W:=Z) (i:=i) (by omega),aB ?_⟩;refine aG.go i rfl (show i<nd V+1 by omega) (aB ?_);refine stW hp (W:=Z) (i:=i) _ (by omega) (aB ?_);refine⟨⟨by rw [eC];exact Int.natCast_nonneg _,by decide⟩,aB ?_⟩;refine⟨(i+1,(cy+(y+V/4294967296 ^ i % 4294967296))/4294967296,_),kx _ rfl,(by show nd V - (i+1)<nd V - i;omega),?_⟩;refine Sub.of (fI [64,65]) [] rfl rfl rfl ?_ ?_
      .repeat' first|exact aA|exact rfl|refine And.intro ?_ ?_
       all_goals first|exact bM|exact Yj
      .repeat' first|exact aA|exact rfl|refine And.intro ?_ ?_
       all_goals first|exact(aq .u32).bh _|exact congrArg (λy=>(aq .u32).l (p++Z.set i y++q)) eS
     .have h:i=nd V:=(by have:=bf.1 h;have this:((nd V:Nat):Int)<=(i:Int):=this;omega);subst h;rw [Nat.mod_eq_of_lt DW]at m6;have hZt:Z[nd V]'(by omega)=((4294967295:Nat):Int):=by
       have e1:=List.drop_eq_getElem_cons (l:=Z) (i:=nd V) (by omega);have e2:=List.drop_eq_getElem_cons (l:=Y.set (nd V) ((4294967295:Nat):Int)) (i:=nd V) (by omega);rw [m5,e2]at e1;injection e1 with e1 _;rw [<-e1,List.getElem_set_self]
      have hzt:val (Z.take (nd V))<4294967296 ^ nd V:=by
       have:=ky (m3.take (nd V));rwa [List.length_take_of_le (by omega)]at this
      have hr:=Nat.mod_lt (val W) Yi;have hcy:cy=1:=by
       rcases(by omega:cy=0\/cy=1)with e|e
       .rw [e,Nat.zero_mul]at m6;omega
       .exact e
      rw [hcy,Nat.one_mul]at m6;have e8:=pw Z 0 m2 m3 (by decide) (by omega);conv=>whnf
      refine aG.go (nd V) rfl (Nat.lt_succ_self _) (aB ?_);refine⟨_,rdW rfl hp (W:=Z) (i:=nd V) (by omega),aB ?_⟩;refine aG.go (nd V) rfl (Nat.lt_succ_self _) (aB ?_);refine stW hp (W:=Z) (i:=nd V) _ (by omega) (aB ?_);refine⟨?_,rfl,?_,rfl,aA⟩
      .refine congrArg (AV.int .u32) ?_;have XJ:val W/V<4294967296:=(by rw [Nat.div_lt_iff_lt_mul Yi,Nat.mul_comm];exact cJ);show ah .u32 (ah .u64 ((x:Int) - 1))=((val W/V:Nat):Int)
       clear pw e8;generalize val W/V=QQ at*;rw [e6,aJ (n:=((QQ+1:Nat):Int) - 1) (by omega) (by omega),eL (n:=((QQ+1:Nat):Int) - 1) (by omega) (by omega)];omega
      .have e9:ah .u32 (Int.add (Z[nd V]'(by omega)) (ah .u32 (cy:Int)))=((0:Nat):Int):=by
        rw [hZt,hcy];rfl
       rw [<-e9]at e8;exact congrArg (λl=>some (AO.gl ((aq .u32).l (p++l++q)) false)) e8
    .refine Sub.of (fI [64,65]) [] rfl rfl rfl ?_ ?_
     .repeat' first|exact aA|exact rfl|refine And.intro ?_ ?_
      all_goals exact congrArg Int.ofNat lV
     .repeat' first|exact aA|exact rfl|refine And.intro ?_ ?_
      all_goals first|exact(aq .u32).bh _|exact congrArg (λy=>(aq .u32).l (p++Y.set (nd V) y++q)) e5
 .refine Sub.of (fI [64,65]) [] rfl rfl rfl ?_ ?_
  .repeat' first|exact aA|exact rfl|refine And.intro ?_ ?_
   all_goals exact congrArg Int.ofNat lV
  .repeat' first|exact aA|exact rfl|refine And.intro ?_ ?_
   all_goals first|exact(aq .u32).bh _
theorem Cc (d:DI) (hd:d.OK) (h0:d.off=0) (x:Nat) (hx:x<4294967296) (hxV:x*d.V<val d.W+d.V) (hxQ:val d.W/d.V<=x) {B0:Nat}:
  Cw prog B0 ⟨prog,133,f133.ntmps,none,aE (P:=prog) [],0⟩ (DN 5 (oJ f133)) (bm [(0,.gs (pathOf 64) (nd d.V+1) 1),(1,aM.v d.V),(5,.int .i64 (nd d.V:Nat)),(7,.int .u64 (x:Nat))]) [] (PO d d.W)
   (QK (fa prog f133 (.int .u32 (val d.W/d.V:Nat)) (WU d) (pathOf 66)) (fa prog f133 (.int .u32 (val d.W/d.V:Nat)) (WU d) (pathOf 66)) (λ_ _ _ _=>False)):=by
 have hc:=ay (P:=prog) ae [] B0;obtain⟨off,p,W,q,Q,V,cap⟩:=d;obtain⟨hp,hn,hW,hD,cJ,hs⟩:=hd;simp only at hp hn hW hD cJ hs hxV hxQ;simp only at h0;subst h0;have lV:=br V;have Yi:0<V:=Nat.pos_of_ne_zero (λe=>by rw [e]at hn;exact absurd hn (by decide));have DW:=dG V;refine aD af rfl rfl hc _ (aB ?_);refine Cw.loop (ι:=Nat×Nat×Nat×List Int) (λz=>bm [(0,.gs (pathOf 64) (nd V+1) 1),(1,aM.v V),(5,.int .i64 (nd V:Nat)),(7,.int .u64 (x:Nat)),(9,.int .u64 (z.2.1:Nat)),(10,.int .i64 (z.2.2.1:Nat)),(84,aM.v V),(85,.int .i64 (nd V:Nat)),(86,.int .i64 (z.1:Nat))]) (λ_=>[]) (λz=>PO ⟨0,p,W,q,Q,V,cap⟩ z.2.2.2)
  (λz=>z.1<=nd V/\z.2.2.2.length=nd V+1/\DG z.2.2.2/\z.2.1<4294967296/\z.2.2.1<=1/\z.2.2.2.drop z.1=W.drop z.1/\val (z.2.2.2.take z.1)+x*(V % 4294967296 ^ z.1)=val W % 4294967296 ^ z.1+(z.2.1+z.2.2.1)*4294967296 ^ z.1) (λz=>nd V - z.1) ?_ (0,0,0,W) ⟨Nat.zero_le _,hW,hD,show 0<4294967296 by decide,Nat.zero_le 1,rfl,by simp [Nat.mod_one,val]⟩ ?_
 .rintro ⟨i,c,b,Y⟩ ⟨k1,k2,k3,k4,k5,k6,k7⟩;have k1:i<=nd V:=k1;have k2:Y.length=nd V+1:=k2;have k3:DG Y:=k3;have k4:c<4294967296:=k4;have k5:b<=1:=k5;have k6:Y.drop i=W.drop i:=k6;have k7:val (Y.take i)+x*(V % 4294967296 ^ i)=val W % 4294967296 ^ i+(c+b)*4294967296 ^ i:=k7;have hYi:Y[i]'(by omega)=((val W/4294967296 ^ i % 4294967296:Nat):Int):=by
   rw [<-nB hD (by omega)];have e1:=List.drop_eq_getElem_cons (l:=Y) (i:=i) (by omega);have e2:=List.drop_eq_getElem_cons (l:=W) (i:=i) (by omega);rw [k6,e2]at e1;injection e1 with e1 _;exact e1.symm
  refine aD af rfl rfl hc _ (aB ?_);refine an (λh=>?_) (λh=>?_)
  .have h:i<nd V:=Int.ofNat_lt.1 (aQ.1 h);have bM:ah .i64 (Int.add (i:Int) 1)=((i+1:Nat):Int):=by
    show ah .i64 ((i:Int)+1)=_;rw [az (by omega) (by omega)];omega
   have fw:i<(dg V).length:=(by omega);have hVi:=bz (v:=V) (i:=i) fw;have hu:val W/4294967296 ^ i % 4294967296<4294967296:=Nat.mod_lt _ (by decide);have hdd:V/4294967296 ^ i % 4294967296<4294967296:=Nat.mod_lt _ (by decide);obtain⟨w,b',s1,s2,s3,s4,s5,s6,s7⟩:=GK k4 k5 hx hdd hu;have hxd:x*(V/4294967296 ^ i % 4294967296)<18446744073709551616:=(by omega);have eC:ah .u64 (Int.add (c:Int) (ah .u64 (Int.mul (x:Int) (ah .u64 ((dg V)[i]'fw)))))=((c+x*(V/4294967296 ^ i % 4294967296):Nat):Int):=by
    rw [hVi,aJ (n:=((V/4294967296 ^ i % 4294967296:Nat):Int)) (by omega) (by omega)];rw [show Int.mul (x:Int) ((V/4294967296 ^ i % 4294967296:Nat):Int)=((x*(V/4294967296 ^ i % 4294967296):Nat):Int)from rfl,aJ (n:=((x*(V/4294967296 ^ i % 4294967296):Nat):Int)) (by omega) (by omega)];exact aJ (n:=((c+x*(V/4294967296 ^ i % 4294967296):Nat):Int)) (by omega) (by omega)
   have hz:(c+x*(V/4294967296 ^ i % 4294967296)) % 4294967296<4294967296:=Nat.mod_lt _ (by decide);generalize xx:c+x*(V/4294967296 ^ i % 4294967296)=cd at*;have eT:ah .i64 (Int.sub (ah .i64 (Int.sub (ah .i64 (Y[i]'(by omega))) (b:Int))) (ah .i64 (ah .u32 (ah .u64 (Int.add (c:Int) (ah .u64 (Int.mul (x:Int) (ah .u64 ((dg V)[i]'fw)))))))))=((val W/4294967296 ^ i % 4294967296:Nat):Int) - (b:Int) - ((cd % 4294967296:Nat):Int):=by
    rw [eC,hYi,wrap_u32,show((cd:Nat):Int) % 4294967296=((cd % 4294967296:Nat):Int)from rfl];rw [az (n:=((val W/4294967296 ^ i % 4294967296:Nat):Int)) (by omega) (by omega),az (n:=((cd % 4294967296:Nat):Int)) (by omega) (by omega)];show ah .i64 (ah .i64 (((val W/4294967296 ^ i % 4294967296:Nat):Int) - (b:Int)) - ((cd % 4294967296:Nat):Int))=_;rw [az (n:=((val W/4294967296 ^ i % 4294967296:Nat):Int) - (b:Int)) (by omega) (by omega)];exact az (by omega) (by omega)
   conv=>whnf
   refine aG.go i rfl fw (aB ?_);refine⟨_,(aq .u32).rd rfl fw,aB ?_⟩;refine aG.go i rfl (show i<nd V+1 by omega) (aB ?_);refine⟨_,JX rfl hp (W:=Y) (i:=i) (by omega),aB ?_⟩;have eC':((cd:Nat):Int).toNat=cd:=rfl;have Yj:Int.ofNat (Nat.div (ah .u64 (Int.add (c:Int) (ah .u64 (Int.mul (x:Int) (ah .u64 ((dg V)[i]'fw)))))).toNat (Nat.pow 2 (Nat.min (Int.toNat 32) (fu .u64))))=((cd/4294967296:Nat):Int):=(by rw [eC];rfl);refine⟨⟨by rw [eC];exact Int.natCast_nonneg _,by decide⟩,aB ?_⟩;refine aG.go i rfl (show i<nd V+1 by omega) (aB ?_);refine Yh hp (W:=Y) (i:=i) _ (by omega) ?_;have eS:ah .u32 (ah .i64 (Int.sub (ah .i64 (Int.sub (ah .i64 (Y[i]'(by omega))) (b:Int))) (ah .i64 (ah .u32 (ah .u64 (Int.add (c:Int) (ah .u64 (Int.mul (x:Int) (ah .u64 ((dg V)[i]'fw))))))))))=(w:Int):=(by rw [eT,wrap_u32];exact s3);have hm1:val W % 4294967296 ^ (i+1)=val W % 4294967296 ^ i+4294967296 ^ i*(val W/4294967296 ^ i % 4294967296):=(by rw [Nat.pow_succ,Nat.mod_mul]);have hm2:V % 4294967296 ^ (i+1)=V % 4294967296 ^ i+4294967296 ^ i*(V/4294967296 ^ i % 4294967296):=(by rw [Nat.pow_succ,Nat.mod_mul]);have kx:∀y:Int,y=(w:Int) ->((i+1<=nd V/\(Y.set i y).length=nd V+1/\DG (Y.set i y)/\cd/4294967296<4294967296/\b'<=1/\(Y.set i y).drop (i+1)=W.drop (i+1)/\val ((Y.set i y).take (i+1))+x*(V % 4294967296 ^ (i+1))=val W % 4294967296 ^ (i+1)+(cd/4294967296+b')*4294967296 ^ (i+1))):=by
    rintro y rfl;refine⟨h,by rw [List.length_set,k2],k3.set i (Int.natCast_nonneg _) (by omega),s5,s2,?_,?_⟩
    .rw [List.drop_set_of_lt (by omega)];have e1:=congrArg (List.drop 1) k6;rwa [List.drop_drop,List.drop_drop]at e1
    .have e1:(Y.set i (w:Int)).take (i+1)=Y.take i++[(w:Int)]:=by
      rw [List.take_succ_eq_append_getElem (by rw [List.length_set];omega),List.getElem_set_self,List.take_set_of_le (Nat.le_refl _)]
     rw [e1,jP,List.length_take_of_le (by omega),Int.toNat_natCast,hm1,hm2,Nat.pow_succ];generalize 4294967296 ^ i=Z at*;generalize val (Y.take i)=A at*;generalize V % Z=VZ at*;generalize val W % Z=UZ at*;rw [Nat.mul_add,<-Nat.mul_assoc,Nat.mul_comm x Z,Nat.mul_assoc];generalize x*(V/Z % 4294967296)=xd at*;generalize x*VZ=xV at*;have e2:(cd/4294967296+b')*(Z*4294967296)=Z*((cd/4294967296+b')*4294967296):=(by rw [Nat.mul_comm,Nat.mul_assoc,Nat.mul_comm 4294967296]);rw [e2,Nat.mul_comm (c+b)]at*;have e3:=congrArg (Z*·) s6;simp only [Nat.mul_add]at e3 k7 ⊢;omega
   conv=>whnf
   refine an (λh2=>?_) (λh2=>?_)
   .have h2:ah .i64 (Int.sub (ah .i64 (Int.sub (ah .i64 (Y[i]'(by omega))) (b:Int))) (ah .i64 (ah .u32 (ah .u64 (Int.add (c:Int) (ah .u64 (Int.mul (x:Int) (ah .u64 ((dg V)[i]'fw)))))))))<0:=aQ.1 h2;rw [eT]at h2;obtain rfl:b'=1:=by rcases s4 with ⟨_,e⟩|⟨e,_⟩<;>omega
    conv=>whnf
    refine⟨(i+1,cd/4294967296,1,Y.set i (w:Int)),kx _ rfl,(by show nd V - (i+1)<nd V - i;omega),?_⟩;refine Sub.of (fI [64,65]) [] rfl rfl rfl ?_ ?_
    .repeat' first|exact aA|exact rfl|refine And.intro ?_ ?_
     all_goals first|exact bM|exact Yj
    .repeat' first|exact aA|exact rfl|refine And.intro ?_ ?_
     all_goals first|exact(aq .u32).bh _|exact congrArg (λy=>(aq .u32).l (p++Y.set i y++q)) eS
   .have h2:0<=ah .i64 (Int.sub (ah .i64 (Int.sub (ah .i64 (Y[i]'(by omega))) (b:Int))) (ah .i64 (ah .u32 (ah .u64 (Int.add (c:Int) (ah .u64 (Int.mul (x:Int) (ah .u64 ((dg V)[i]'fw))))))))):=bf.1 h2;rw [eT]at h2;obtain rfl:b'=0:=by rcases s4 with ⟨e,_⟩|⟨_,e⟩<;>omega
    conv=>whnf
    refine⟨(i+1,cd/4294967296,0,Y.set i (w:Int)),kx _ rfl,(by show nd V - (i+1)<nd V - i;omega),?_⟩;refine Sub.of (fI [64,65]) [] rfl rfl rfl ?_ ?_
    .repeat' first|exact aA|exact rfl|refine And.intro ?_ ?_
     all_goals first|exact bM|exact Yj
    .repeat' first|exact aA|exact rfl|refine And.intro ?_ ?_
     all_goals first|exact(aq .u32).bh _|exact congrArg (λy=>(aq .u32).l (p++Y.set i y++q)) eS
  .have h:i=nd V:=(by have:=bf.1 h;have this:((nd V:Nat):Int)<=(i:Int):=this;omega);subst h;rw [Nat.mod_eq_of_lt DW]at k7;have zB:=ky hD;rw [hW]at zB;have hB0:0<4294967296 ^ nd V:=Nat.pow_pos (by decide);have ac4:val W/4294967296 ^ nd V<4294967296:=by
    rw [Nat.div_lt_iff_lt_mul hB0,Nat.mul_comm,<-Nat.pow_succ];exact zB
   rw [Nat.mod_eq_of_lt ac4]at hYi;have hdm:=Nat.div_add_mod (val W) (4294967296 ^ nd V);have hta:val (Y.take (nd V))<4294967296 ^ nd V:=by
    have:=ky (k3.take (nd V));rwa [List.length_take_of_le (by omega)]at this
   generalize ai2:val W/4294967296 ^ nd V=top at*;generalize hUr:val W % 4294967296 ^ nd V=Ur at*;have eT:ah .i64 (Int.sub (ah .i64 (Int.sub (ah .i64 (Y[nd V]'(by omega))) (b:Int))) (ah .i64 (c:Int)))=(top:Int) - (b:Int) - (c:Int):=by
    rw [hYi,az (n:=(top:Int)) (by omega) (by omega),az (n:=(c:Int)) (by omega) (by omega)];show ah .i64 (ah .i64 ((top:Int) - (b:Int)) - (c:Int))=_;rw [az (n:=(top:Int) - (b:Int)) (by omega) (by omega)];exact az (by omega) (by omega)
   have pw:∀(Z:List Int) (y:Nat),Z.length=nd V+1 ->DG Z ->y<4294967296 ->val (Z.take (nd V))+4294967296 ^ nd V*y=val W % V ->Z.set (nd V) (y:Int)=xi ⟨0,p,W,q,Q,V,cap⟩:=by
    intro Z y hZ hZD hy he;have e1:DG (Z.set (nd V) (y:Int)):=hZD.set _ (Int.natCast_nonneg _) (by omega);have e2:Z.set (nd V) (y:Int)=Z.take (nd V)++[(y:Int)]:=by
     rw [List.set_eq_take_append_cons_drop,if_pos (by omega),List.drop_of_length_le (by omega)]
    show _=fG (nd V+1) (val W % V);rw [<-he,<-lN e1,List.length_set,hZ];congr 1;rw [e2,jP,List.length_take_of_le (by omega),Int.toNat_natCast]
   conv=>whnf
   refine aG.go (nd V) rfl (Nat.lt_succ_self _) (aB ?_);refine⟨_,JX rfl hp (W:=Y) (i:=nd V) (by omega),aB ?_⟩;refine aG.go (nd V) rfl (Nat.lt_succ_self _) (aB ?_);refine Yh hp (W:=Y) (i:=nd V) _ (by omega) (aB ?_);refine an (λh2=>?_) (λh2=>?_)
   .have h2:0<=ah .i64 (Int.sub (ah .i64 (Int.sub (ah .i64 (Y[nd V]'(by omega))) (b:Int))) (ah .i64 (c:Int))):=cA.1 h2;rw [eT]at h2;have e1:val (Y.take (nd V))+x*V+4294967296 ^ nd V*(top - b - c)=val W:=by
     have:4294967296 ^ nd V*(top - b - c)+(c+b)*4294967296 ^ nd V=4294967296 ^ nd V*top:=by
      rw [Nat.mul_comm (c+b),<-Nat.mul_add];congr 1;omega
     omega
    obtain⟨e2,e3⟩:=Mj hxQ Yi e1;conv=>whnf
    refine⟨?_,rfl,?_,rfl,aA⟩
    .exact congrArg (AV.int .u32) ((eL (n:=(x:Int)) (by omega) (by omega)).trans (congrArg Int.ofNat e2))
    .have e4:=pw Y (top - b - c) k2 k3 (by omega) e3.symm;have e5:ah .u32 (ah .i64 (Int.sub (ah .i64 (Int.sub (ah .i64 (Y[nd V]'(by omega))) (b:Int))) (ah .i64 (c:Int))))=((top - b - c:Nat):Int):=by
      rw [eT,show(top:Int) - (b:Int) - (c:Int)=((top - b - c:Nat):Int) by omega];exact eL (by omega) (by omega)
     rw [<-e5]at e4;exact congrArg (λl=>some (AO.gl ((aq .u32).l (p++l++q)) false)) e4
   .have h2:ah .i64 (Int.sub (ah .i64 (Int.sub (ah .i64 (Y[nd V]'(by omega))) (b:Int))) (ah .i64 (c:Int)))<0:=jk.1 h2;rw [eT]at h2;have e5:ah .u32 (ah .i64 (Int.sub (ah .i64 (Int.sub (ah .i64 (Y[nd V]'(by omega))) (b:Int))) (ah .i64 (c:Int))))=((4294967295:Nat):Int)/\x=val W/V+1/\val W % V+4294967296 ^ nd V=val (Y.take (nd V))+V:=by
     have hs:c+b - top=1:=by
      have e1:4294967296 ^ nd V*(c+b - top)+4294967296 ^ nd V*top=(c+b)*4294967296 ^ nd V:=by
       rw [<-Nat.mul_add,Nat.mul_comm (c+b)];congr 1;omega
      apply Nat.le_antisymm
      .apply Nat.le_of_lt_succ;apply Nat.lt_of_not_le;intro hle;have:=Nat.mul_le_mul_left (4294967296 ^ nd V) hle;omega
      .omega
     have e2:val (Y.take (nd V))+x*V=val W+4294967296 ^ nd V:=by
      have e1:(c+b)*4294967296 ^ nd V=4294967296 ^ nd V*top+4294967296 ^ nd V:=by
       rw [show c+b=top+1 by omega,Nat.add_mul,Nat.one_mul,Nat.mul_comm top]
      omega
     refine⟨?_,Cb hxQ hxV Yi e2 hta⟩;rw [eT,wrap_u32];omega
    obtain⟨e5,e6,e7⟩:=e5;have hYD:DG (Y.set (nd V) ((4294967295:Nat):Int)):=k3.set _ (by decide) (by decide);have hlY:(Y.set (nd V) ((4294967295:Nat):Int)).length=nd V+1:=(by rw [List.length_set,k2]);have htk:∀i,i<=nd V ->(Y.set (nd V) ((4294967295:Nat):Int)).take i=Y.take i:=λi hi=>List.take_set_of_le hi;conv=>whnf
    refine Cw.loop (ι:=Nat×Nat×List Int) (λz=>bm [(0,.gs (pathOf 64) (nd V+1) 1),(5,.int .i64 (nd V:Nat)),(7,.int .u64 (x:Nat)),(9,.int .u64 (z.2.1:Nat)),(137,aM.v V),(138,.int .i64 (nd V:Nat)),(139,.int .i64 (z.1:Nat))]) (λ_=>[]) (λz=>PO ⟨0,p,W,q,Q,V,cap⟩ z.2.2)
     (λz=>z.1<=nd V/\z.2.2.length=nd V+1/\DG z.2.2/\z.2.1<=1/\z.2.2.drop z.1=(Y.set (nd V) ((4294967295:Nat):Int)).drop z.1/\val (z.2.2.take z.1)+z.2.1*4294967296 ^ z.1=val (Y.take z.1)+V % 4294967296 ^ z.1) (λz=>nd V - z.1) ?_ (0,0,Y.set (nd V) ((4294967295:Nat):Int)) ⟨Nat.zero_le _,hlY,hYD,Nat.zero_le 1,rfl,by simp [Nat.mod_one,val]⟩ ?_
    .rintro ⟨i,cy,Z⟩ ⟨m1,m2,m3,m4,m5,m6⟩;have m1:i<=nd V:=m1;have m2:Z.length=nd V+1:=m2;have m3:DG Z:=m3;have m4:cy<=1:=m4;have m5:Z.drop i=(Y.set (nd V) ((4294967295:Nat):Int)).drop i:=m5;have m6:val (Z.take i)+cy*4294967296 ^ i=val (Y.take i)+V % 4294967296 ^ i:=m6;refine aD af rfl rfl hc _ (aB ?_);refine an (λh=>?_) (λh=>?_)
     .have h:i<nd V:=Int.ofNat_lt.1 (aQ.1 h);have bM:ah .i64 (Int.add (i:Int) 1)=((i+1:Nat):Int):=by
       show ah .i64 ((i:Int)+1)=_;rw [az (by omega) (by omega)];omega
      have fw:i<(dg V).length:=(by omega);have hVi:=bz (v:=V) (i:=i) fw;have hdd:V/4294967296 ^ i % 4294967296<4294967296:=Nat.mod_lt _ (by decide);have hZi:Z[i]'(by omega)=Y[i]'(by omega):=by
       have e1:=List.drop_eq_getElem_cons (l:=Z) (i:=i) (by omega);have e2:=List.drop_eq_getElem_cons (l:=Y.set (nd V) ((4294967295:Nat):Int)) (i:=i) (by omega);rw [m5,e2]at e1;injection e1 with e1 _;rw [<-e1,List.getElem_set_ne (by omega)]
      have hyi:=k3.get (i:=i) (by omega);obtain⟨y,hy⟩:=Int.eq_ofNat_of_zero_le hyi.1;have hy:Y[i]'(by omega)=(y:Int):=hy;have hyb:y<4294967296:=(by omega);have eC:ah .u64 (Int.add (cy:Int) (ah .u64 (Int.add (ah .u64 (Z[i]'(by omega))) (ah .u64 ((dg V)[i]'fw)))))=((cy+(y+V/4294967296 ^ i % 4294967296):Nat):Int):=by
       rw [hZi,hy,hVi,aJ (n:=(y:Int)) (by omega) (by omega),aJ (n:=((V/4294967296 ^ i % 4294967296:Nat):Int)) (by omega) (by omega)];rw [show Int.add (y:Int) ((V/4294967296 ^ i % 4294967296:Nat):Int)=((y+V/4294967296 ^ i % 4294967296:Nat):Int)from rfl,aJ (n:=((y+V/4294967296 ^ i % 4294967296:Nat):Int)) (by omega) (by omega)];exact aJ (n:=((cy+(y+V/4294967296 ^ i % 4294967296):Nat):Int)) (by omega) (by omega)
      have eS:ah .u32 (ah .u64 (Int.add (cy:Int) (ah .u64 (Int.add (ah .u64 (Z[i]'(by omega))) (ah .u64 ((dg V)[i]'fw))))))=(((cy+(y+V/4294967296 ^ i % 4294967296)) % 4294967296:Nat):Int):=(by rw [eC,wrap_u32];exact(Int.natCast_emod _ _).symm);have Yj:Int.ofNat (Nat.div (ah .u64 (Int.add (cy:Int) (ah .u64 (Int.add (ah .u64 (Z[i]'(by omega))) (ah .u64 ((dg V)[i]'fw)))))).toNat (Nat.pow 2 (Nat.min (Int.toNat 32) (fu .u64))))=(((cy+(y+V/4294967296 ^ i % 4294967296))/4294967296:Nat):Int):=(by rw [eC];rfl);have hm2:V % 4294967296 ^ (i+1)=V % 4294967296 ^ i+4294967296 ^ i*(V/4294967296 ^ i % 4294967296):=(by rw [Nat.pow_succ,Nat.mod_mul]);have hvy:val (Y.take (i+1))=val (Y.take i)+4294967296 ^ i*y:=by
       rw [oc (by omega),hy,Int.toNat_natCast]
      have hdv:=Nat.div_add_mod (cy+(y+V/4294967296 ^ i % 4294967296)) 4294967296;have kx:∀w:Int,w=(((cy+(y+V/4294967296 ^ i % 4294967296)) % 4294967296:Nat):Int) ->((i+1<=nd V/\(Z.set i w).length=nd V+1/\DG (Z.set i w)/\(cy+(y+V/4294967296 ^ i % 4294967296))/4294967296<=1/\(Z.set i w).drop (i+1)=(Y.set (nd V) ((4294967295:Nat):Int)).drop (i+1)/\
        val ((Z.set i w).take (i+1))+(cy+(y+V/4294967296 ^ i % 4294967296))/4294967296*4294967296 ^ (i+1)=val (Y.take (i+1))+V % 4294967296 ^ (i+1))):=by
       rintro w rfl;refine⟨h,by rw [List.length_set,m2],m3.set i (Int.natCast_nonneg _) (by omega),by omega,?_,?_⟩
       .rw [List.drop_set_of_lt (by omega)];have e1:=congrArg (List.drop 1) m5;rwa [List.drop_drop,List.drop_drop]at e1
       .have e1:∀w:Int,(Z.set i w).take (i+1)=Z.take i++[w]:=λw=>by
         rw [List.take_succ_eq_append_getElem (by rw [List.length_set];omega),List.getElem_set_self,List.take_set_of_le (Nat.le_refl _)]
        rw [e1,jP,List.length_take_of_le (by omega),Int.toNat_natCast,hvy,hm2,Nat.pow_succ];generalize 4294967296 ^ i=B at*;generalize V/B % 4294967296=dd at*;generalize val (Z.take i)=A at*;generalize V % B=VB at*;generalize val (Y.take i)=YB at*;have e2:=congrArg (B*·) hdv;have e3:(cy+(y+dd))/4294967296*(B*4294967296)=B*(4294967296*((cy+(y+dd))/4294967296)):=(by rw [Nat.mul_comm,Nat.mul_assoc]);rw [e3];simp only [Nat.mul_add]at e2 ⊢;rw [Nat.mul_comm cy]at m6;omega
      conv=>whnf
      refine aG.go i rfl fw (aB ?_);refine⟨_,(aq .u32).rd rfl fw,aB ?_⟩;refine aG.go i rfl (show i<nd V+1 by omega) (aB ?_);refine⟨_,JX rfl hp (W:=Z) (i:=i) (by omega),aB ?_⟩;refine aG.go i rfl (show i<nd V+1 by omega) (aB ?_);refine Yh hp (W:=Z) (i:=i) _ (by omega) (aB ?_);refine⟨⟨by rw [eC];exact Int.natCast_nonneg _,by decide⟩,aB ?_⟩;refine⟨(i+1,(cy+(y+V/4294967296 ^ i % 4294967296))/4294967296,_),kx _ rfl,(by show nd V - (i+1)<nd V - i;omega),?_⟩;refine Sub.of (fI [64,65]) [] rfl rfl rfl ?_ ?_
      .repeat' first|exact aA|exact rfl|refine And.intro ?_ ?_
       all_goals first|exact bM|exact Yj
      .repeat' first|exact aA|exact rfl|refine And.intro ?_ ?_
       all_goals first|exact(aq .u32).bh _|exact congrArg (λy=>(aq .u32).l (p++Z.set i y++q)) eS
     .have h:i=nd V:=(by have:=bf.1 h;have this:((nd V:Nat):Int)<=(i:Int):=this;omega);subst h;rw [Nat.mod_eq_of_lt DW]at m6;have hZt:Z[nd V]'(by omega)=((4294967295:Nat):Int):=by
       have e1:=List.drop_eq_getElem_cons (l:=Z) (i:=nd V) (by omega);have e2:=List.drop_eq_getElem_cons (l:=Y.set (nd V) ((4294967295:Nat):Int)) (i:=nd V) (by omega);rw [m5,e2]at e1;injection e1 with e1 _;rw [<-e1,List.getElem_set_self]
      have hzt:val (Z.take (nd V))<4294967296 ^ nd V:=by
       have:=ky (m3.take (nd V));rwa [List.length_take_of_le (by omega)]at this
      have hr:=Nat.mod_lt (val W) Yi;have hcy:cy=1:=by
       rcases(by omega:cy=0\/cy=1)with e|e
       .rw [e,Nat.zero_mul]at m6;omega
       .exact e
      rw [hcy,Nat.one_mul]at m6;have e8:=pw Z 0 m2 m3 (by decide) (by omega);conv=>whnf
      refine aG.go (nd V) rfl (Nat.lt_succ_self _) (aB ?_);refine⟨_,JX rfl hp (W:=Z) (i:=nd V) (by omega),aB ?_⟩;refine aG.go (nd V) rfl (Nat.lt_succ_self _) (aB ?_);refine Yh hp (W:=Z) (i:=nd V) _ (by omega) (aB ?_);refine⟨?_,rfl,?_,rfl,aA⟩
      .refine congrArg (AV.int .u32) ?_;have XJ:val W/V<4294967296:=(by rw [Nat.div_lt_iff_lt_mul Yi,Nat.mul_comm];exact cJ);show ah .u32 (ah .u64 ((x:Int) - 1))=((val W/V:Nat):Int)
       clear pw e8;generalize val W/V=QQ at*;rw [e6,aJ (n:=((QQ+1:Nat):Int) - 1) (by omega) (by omega),eL (n:=((QQ+1:Nat):Int) - 1) (by omega) (by omega)];omega
      .have e9:ah .u32 (Int.add (Z[nd V]'(by omega)) (ah .u32 (cy:Int)))=((0:Nat):Int):=by
        rw [hZt,hcy];rfl
       rw [<-e9]at e8;exact congrArg (λl=>some (AO.gl ((aq .u32).l (p++l++q)) false)) e8
    .refine Sub.of (fI [64,65]) [] rfl rfl rfl ?_ ?_
     .repeat' first|exact aA|exact rfl|refine And.intro ?_ ?_
      all_goals exact congrArg Int.ofNat lV
     .repeat' first|exact aA|exact rfl|refine And.intro ?_ ?_
      all_goals first|exact(aq .u32).bh _|exact congrArg (λy=>(aq .u32).l (p++Y.set (nd V) y++q)) e5
 .refine Sub.of (fI [64,65]) [] rfl rfl rfl ?_ ?_
  .repeat' first|exact aA|exact rfl|refine And.intro ?_ ?_
   all_goals exact congrArg Int.ofNat lV
  .repeat' first|exact aA|exact rfl|refine And.intro ?_ ?_
   all_goals first|exact(aq .u32).bh _
end
section
attribute [local irreducible] Cw aj bE PF Sub
attribute [local instance] tbD
theorem Yk (d:DI) (hd:d.OK) {B0:Nat}:InD (afW d) d B0:=by
 have hc:=ay (P:=prog) ae [] B0;obtain⟨off,p,W,q,Q,V,cap⟩:=d;obtain⟨hp,hn,hW,hD,cJ,hs⟩:=hd;simp only at hp hn hW hD cJ hs;have lV:=br V;have DW:=dG V;have ac5:4294967296 ^ (nd V - 1)<=V:=oI (by omega);have kw:=KW.mk' hn DW ac5 cJ;have zB:=ky hD;rw [hW]at zB;have g1:=nB hD (i:=nd V) (by omega);have g2:=nB hD (i:=nd V - 1) (by omega);have g3:=nB hD (i:=nd V - 2) (by omega);have v1:=bz (v:=V) (i:=nd V - 1) (by omega);have v2:=bz (v:=V) (i:=nd V - 2) (by omega);have Yl:ah .i64 (Int.sub (Int.ofNat (dg V).length) 1)=((nd V - 1:Nat):Int):=by
  rw [lV];show ah .i64 (((nd V:Nat):Int) - 1)=_;rw [az (by omega) (by omega)];omega
 have ei2:ah .i64 (Int.sub (Int.ofNat (dg V).length) 2)=((nd V - 2:Nat):Int):=by
  rw [lV];show ah .i64 (((nd V:Nat):Int) - 2)=_;rw [az (by omega) (by omega)];omega
 have ej1:=Yl;have ej2:=ei2;rw [lV]at ej1 ej2;have PN:val W/4294967296 ^ nd V % 4294967296<4294967296:=Nat.mod_lt _ (by decide);have QO:val W/4294967296 ^ (nd V - 1) % 4294967296<4294967296:=Nat.mod_lt _ (by decide);obtain⟨pk1,pk2⟩:=JY g1 g2 PN QO;have hhi:val W/4294967296 ^ nd V % 4294967296*4294967296+val W/4294967296 ^ (nd V - 1) % 4294967296=val W/4294967296 ^ (nd V - 1):=by
  have e1:(4294967296:Nat) ^ nd V=4294967296 ^ (nd V - 1)*4294967296:=by rw [<-Nat.pow_succ];congr 1;omega
  have e2:val W/4294967296 ^ nd V<4294967296:=by
   rw [Nat.div_lt_iff_lt_mul (Nat.pow_pos (by decide)),Nat.mul_comm,<-Nat.pow_succ];exact zB
  rw [Nat.mod_eq_of_lt e2,e1,<-Nat.div_div_eq_div_mul,Nat.mul_comm];exact Nat.div_add_mod _ _
 rw [hhi]at pk2;have ai3:=kw.hiB;have hh0:=kw.h0;have hhb:=kw.hb;have hlb:=kw.lb;have hub:=kw.ub;have Ym:ah .u64 ((dg V)[nd V - 1]'(by omega))=((V/4294967296 ^ (nd V - 1):Nat):Int):=by
  rw [v1,Nat.mod_eq_of_lt hhb];exact aJ (by omega) (by omega)
 have ev2:ah .u64 ((dg V)[nd V - 2]'(by omega))=((V/4294967296 ^ (nd V - 2) % 4294967296:Nat):Int):=by
  rw [v2];exact aJ (by omega) (by omega)
 generalize hHI:val W/4294967296 ^ (nd V - 1)=HI at*;generalize hh:V/4294967296 ^ (nd V - 1)=h at*;generalize hl:V/4294967296 ^ (nd V - 2) % 4294967296=l at*;generalize hu2:val W/4294967296 ^ (nd V - 2) % 4294967296=u2 at*;generalize 4294967296 ^ (nd V - 2)=M at*;generalize val W % M=U' at*;generalize V % M=V' at*;obtain⟨dt,kL⟩:=kw.start;refine BS af rfl rfl hc 5 _ (aB ?_);refine aG.go (nd V) (congrArg Int.ofNat lV) (Nat.lt_succ_self _) (aB ?_);refine⟨_,rdW rfl hp (W:=W) (i:=nd V) (by omega),aB ?_⟩;refine⟨by decide,aB ?_⟩;refine aG.go (nd V - 1) Yl (show nd V - 1<nd V+1 by omega) (aB ?_);refine⟨_,rdW rfl hp (W:=W) (i:=nd V - 1) (by omega),?_⟩;refine⟨pk1,aB ?_⟩;refine aG.go (nd V - 1) Yl (show nd V - 1<(dg V).length by omega) (aB ?_);refine⟨_,(aq .u32).rd rfl (by omega:nd V - 1<(dg V).length),?_⟩;have Tb:ah .u64 ((dg V)[nd V - 1]'(by omega))≠0:=by rw [Ym];omega
 conv=>whnf
 refine⟨Tb,aB ?_⟩;refine aG.go (nd V - 1) Yl (show nd V - 1<(dg V).length by omega) (aB ?_);refine⟨_,(aq .u32).rd rfl (by omega:nd V - 1<(dg V).length),aB ?_⟩;refine⟨Tb,aB ?_⟩;have XJ:HI/h<=HI:=Nat.div_le_self _ _;have hHb:HI<18446744073709551616:=by
  have:h*4294967296<=4294967295*4294967296:=Nat.mul_le_mul_right _ (by omega);omega
 refine Cw.loop (ι:=Nat×Nat) (λx=>bm [(0,.slice (pathOf 64) (Nat.mul off 1) (nd V+1) cap 1),(1,aM.v V),(5,.int .i64 (nd V:Nat)),(7,.int .u64 (x.1:Nat)),(8,.int .u64 (x.2:Nat))]) (λ_=>[]) (λ_=>PO ⟨off,p,W,q,Q,V,cap⟩ W)
  (λx=>x.1*h+x.2=HI/\val W/V<=x.1) (λx=>x.1) ?_ (HI/h,HI % h) ⟨kL,dt⟩ ?_
 .rintro ⟨x,r⟩ ⟨k1,k2⟩;have k1:x*h+r=HI:=k1;have k2:val W/V<=x:=k2;have hxb:x<=HI:=by
   have:x*1<=x*h:=Nat.mul_le_mul_left _ hh0;omega
  have hrb:r<=HI:=by omega
  refine aD af rfl rfl hc _ (aB ?_);refine an (λt1=>?_) (λt1=>?_)
  .have t1:r<4294967296:=(by have:=aQ.1 t1;omega);have GM:(4294967296<=x\/r*4294967296+u2<x*l) ->((x - 1)*h+(r+h)=HI/\val W/V<=x - 1)/\x - 1<x/\ah .u64 (Int.sub (x:Int) 1)=((x - 1:Nat):Int)/\ah .u64 (Int.add (r:Int) (ah .u64 ((dg V)[nd V - 1]'(by omega))))=((r+h:Nat):Int):=by
    clear hc;intro ht;have zz:=kw.step k1 k2 ht;refine⟨⟨zz.2.1,zz.1⟩,by have:=zz.2.2;omega,?_,?_⟩
    .show ah .u64 ((x:Int) - 1)=((x - 1:Nat):Int)
     have:=zz.2.2;rw [aJ (by omega) (by omega)];omega
    .rw [Ym];exact aJ (n:=((r+h:Nat):Int)) (by omega) (by omega)
   conv=>whnf
   refine an (λt2=>?_) (λt2=>?_)
   .have t2:4294967296<=x:=(by have:=cA.1 t2;omega);have zz:=GM (.inl t2);conv=>whnf
    refine aG.go (nd V - 1) ej1 (show nd V - 1<(dg V).length by omega) (aB ?_);refine⟨_,(aq .u32).rd rfl (by omega:nd V - 1<(dg V).length),aB ?_⟩;refine⟨(x - 1,r+h),zz.1,zz.2.1,?_⟩;refine Sub.of (fI [64,65]) [] rfl rfl rfl ?_ ?_
    .repeat' first|exact aA|exact rfl|refine And.intro ?_ ?_
     all_goals first|exact zz.2.2.1|exact zz.2.2.2
    .repeat' first|exact aA|exact rfl|refine And.intro ?_ ?_
     all_goals first|exact(aq .u32).bh _
   .have t2:x<4294967296:=(by have:=jk.1 t2;omega);have pk:=Ml (r:=r) t1 g3 hub;have eP:ah .u64 (Int.mul (x:Int) (ah .u64 ((dg V)[nd V - 2]'(by omega))))=((x*l:Nat):Int):=by
     rw [ev2];have hm:x*l<=4294967295*4294967295:=Nat.mul_le_mul (by omega) (by omega);exact aJ (n:=((x*l:Nat):Int)) (by omega) (by omega)
    conv=>whnf
    refine aG.go (nd V - 2) ej2 (show nd V - 2<(dg V).length by omega) (aB ?_);refine⟨_,(aq .u32).rd rfl (by omega:nd V - 2<(dg V).length),aB ?_⟩;refine⟨by decide,aB ?_⟩;refine aG.go (nd V - 2) ej2 (show nd V - 2<nd V+1 by omega) (aB ?_);refine⟨_,rdW rfl hp (W:=W) (i:=nd V - 2) (by omega),aB ?_⟩;refine⟨pk.1,aB ?_⟩;refine an (λt3=>?_) (λt3=>?_)
    .have t3:r*4294967296+u2<x*l:=by
      have:=aQ.1 t3;rw [eP,pk.2]at this;exact Int.ofNat_lt.1 this
     have zz:=GM (.inr t3);conv=>whnf
     refine aG.go (nd V - 1) ej1 (show nd V - 1<(dg V).length by omega) (aB ?_);refine⟨_,(aq .u32).rd rfl (by omega:nd V - 1<(dg V).length),aB ?_⟩;refine⟨(x - 1,r+h),zz.1,zz.2.1,?_⟩;refine Sub.of (fI [64,65]) [] rfl rfl rfl ?_ ?_
     .repeat' first|exact aA|exact rfl|refine And.intro ?_ ?_
      all_goals first|exact zz.2.2.1|exact zz.2.2.2
     .repeat' first|exact aA|exact rfl|refine And.intro ?_ ?_
      all_goals first|exact(aq .u32).bh _
    .have t3:x*l<=r*4294967296+u2:=by
      have:=bf.1 t3;rw [eP,pk.2]at this;exact Int.ofNat_le.1 this
     have zz:x<4294967296/\x*V<val W+V:=KW.exit (q:=x) (r:=r) kw k1 k2 (Or.inr ⟨t2,t3⟩);conv=>whnf
     refine Cw.weaken ?_ (GL ⟨off,p,W,q,Q,V,cap⟩ ⟨hp,hn,hW,hD,cJ,hs⟩ x zz.1 zz.2 k2);refine Sub.of (fI [64,65]) [] rfl rfl rfl ?_ ?_
     .exact pc
     .repeat' first|exact aA|exact rfl|refine And.intro ?_ ?_
      all_goals first|exact(aq .u32).bh _
  .have t1:4294967296<=r:=(by have:=bf.1 t1;omega);have zz:x<4294967296/\x*V<val W+V:=KW.exit (q:=x) (r:=r) kw k1 k2 (Or.inl t1);conv=>whnf
   refine Cw.weaken ?_ (GL ⟨off,p,W,q,Q,V,cap⟩ ⟨hp,hn,hW,hD,cJ,hs⟩ x zz.1 zz.2 k2);refine Sub.of (fI [64,65]) [] rfl rfl rfl ?_ ?_
   .exact pc
   .repeat' first|exact aA|exact rfl|refine And.intro ?_ ?_
    all_goals first|exact(aq .u32).bh _
 .refine Sub.of (fI [64,65]) [] rfl rfl rfl ?_ ?_
  .repeat' first|exact aA|exact rfl|refine And.intro ?_ ?_
   all_goals first|exact congrArg Int.ofNat lV|skip
   .rw [pk2,Ym];exact aJ (n:=((HI/h:Nat):Int)) (Int.natCast_nonneg _) (by omega)
   .rw [pk2,Ym];exact Int.ofNat_tmod _ _|>.symm
  .repeat' first|exact aA|exact rfl|refine And.intro ?_ ?_
   all_goals first|exact(aq .u32).bh _
theorem Tc (d:DI) (hd:d.OK) (h0:d.off=0) {B0:Nat}:InD (abg d) d B0:=by
 have hc:=ay (P:=prog) ae [] B0;obtain⟨off,p,W,q,Q,V,cap⟩:=d;obtain⟨hp,hn,hW,hD,cJ,hs⟩:=hd;simp only at hp hn hW hD cJ hs;simp only at h0;subst h0;have lV:=br V;have DW:=dG V;have ac5:4294967296 ^ (nd V - 1)<=V:=oI (by omega);have kw:=KW.mk' hn DW ac5 cJ;have zB:=ky hD;rw [hW]at zB;have g1:=nB hD (i:=nd V) (by omega);have g2:=nB hD (i:=nd V - 1) (by omega);have g3:=nB hD (i:=nd V - 2) (by omega);have v1:=bz (v:=V) (i:=nd V - 1) (by omega);have v2:=bz (v:=V) (i:=nd V - 2) (by omega);have Yl:ah .i64 (Int.sub (Int.ofNat (dg V).length) 1)=((nd V - 1:Nat):Int):=by
  rw [lV];show ah .i64 (((nd V:Nat):Int) - 1)=_;rw [az (by omega) (by omega)];omega
 have ei2:ah .i64 (Int.sub (Int.ofNat (dg V).length) 2)=((nd V - 2:Nat):Int):=by
  rw [lV];show ah .i64 (((nd V:Nat):Int) - 2)=_;rw [az (by omega) (by omega)];omega
 have ej1:=Yl;have ej2:=ei2;rw [lV]at ej1 ej2;have PN:val W/4294967296 ^ nd V % 4294967296<4294967296:=Nat.mod_lt _ (by decide);have QO:val W/4294967296 ^ (nd V - 1) % 4294967296<4294967296:=Nat.mod_lt _ (by decide);obtain⟨pk1,pk2⟩:=JY g1 g2 PN QO;have hhi:val W/4294967296 ^ nd V % 4294967296*4294967296+val W/4294967296 ^ (nd V - 1) % 4294967296=val W/4294967296 ^ (nd V - 1):=by
  have e1:(4294967296:Nat) ^ nd V=4294967296 ^ (nd V - 1)*4294967296:=by rw [<-Nat.pow_succ];congr 1;omega
  have e2:val W/4294967296 ^ nd V<4294967296:=by
   rw [Nat.div_lt_iff_lt_mul (Nat.pow_pos (by decide)),Nat.mul_comm,<-Nat.pow_succ];exact zB
  rw [Nat.mod_eq_of_lt e2,e1,<-Nat.div_div_eq_div_mul,Nat.mul_comm];exact Nat.div_add_mod _ _
 rw [hhi]at pk2;have ai3:=kw.hiB;have hh0:=kw.h0;have hhb:=kw.hb;have hlb:=kw.lb;have hub:=kw.ub;have Ym:ah .u64 ((dg V)[nd V - 1]'(by omega))=((V/4294967296 ^ (nd V - 1):Nat):Int):=by
  rw [v1,Nat.mod_eq_of_lt hhb];exact aJ (by omega) (by omega)
 have ev2:ah .u64 ((dg V)[nd V - 2]'(by omega))=((V/4294967296 ^ (nd V - 2) % 4294967296:Nat):Int):=by
  rw [v2];exact aJ (by omega) (by omega)
 generalize hHI:val W/4294967296 ^ (nd V - 1)=HI at*;generalize hh:V/4294967296 ^ (nd V - 1)=h at*;generalize hl:V/4294967296 ^ (nd V - 2) % 4294967296=l at*;generalize hu2:val W/4294967296 ^ (nd V - 2) % 4294967296=u2 at*;generalize 4294967296 ^ (nd V - 2)=M at*;generalize val W % M=U' at*;generalize V % M=V' at*;obtain⟨dt,kL⟩:=kw.start;refine BS af rfl rfl hc 5 _ (aB ?_);refine aG.go (nd V) (congrArg Int.ofNat lV) (Nat.lt_succ_self _) (aB ?_);refine⟨_,JX rfl hp (W:=W) (i:=nd V) (by omega),aB ?_⟩;refine⟨by decide,aB ?_⟩;refine aG.go (nd V - 1) Yl (show nd V - 1<nd V+1 by omega) (aB ?_);refine⟨_,JX rfl hp (W:=W) (i:=nd V - 1) (by omega),?_⟩;refine⟨pk1,aB ?_⟩;refine aG.go (nd V - 1) Yl (show nd V - 1<(dg V).length by omega) (aB ?_);refine⟨_,(aq .u32).rd rfl (by omega:nd V - 1<(dg V).length),?_⟩;have Tb:ah .u64 ((dg V)[nd V - 1]'(by omega))≠0:=by rw [Ym];omega
 conv=>whnf
 refine⟨Tb,aB ?_⟩;refine aG.go (nd V - 1) Yl (show nd V - 1<(dg V).length by omega) (aB ?_);refine⟨_,(aq .u32).rd rfl (by omega:nd V - 1<(dg V).length),aB ?_⟩;refine⟨Tb,aB ?_⟩;have XJ:HI/h<=HI:=Nat.div_le_self _ _;have hHb:HI<18446744073709551616:=by
  have:h*4294967296<=4294967295*4294967296:=Nat.mul_le_mul_right _ (by omega);omega
 refine Cw.loop (ι:=Nat×Nat) (λx=>bm [(0,.gs (pathOf 64) (nd V+1) 1),(1,aM.v V),(5,.int .i64 (nd V:Nat)),(7,.int .u64 (x.1:Nat)),(8,.int .u64 (x.2:Nat))]) (λ_=>[]) (λ_=>PO ⟨0,p,W,q,Q,V,cap⟩ W)
  (λx=>x.1*h+x.2=HI/\val W/V<=x.1) (λx=>x.1) ?_ (HI/h,HI % h) ⟨kL,dt⟩ ?_
 .rintro ⟨x,r⟩ ⟨k1,k2⟩;have k1:x*h+r=HI:=k1;have k2:val W/V<=x:=k2;have hxb:x<=HI:=by
   have:x*1<=x*h:=Nat.mul_le_mul_left _ hh0;omega
  have hrb:r<=HI:=by omega
  refine aD af rfl rfl hc _ (aB ?_);refine an (λt1=>?_) (λt1=>?_)
  .have t1:r<4294967296:=(by have:=aQ.1 t1;omega);have GM:(4294967296<=x\/r*4294967296+u2<x*l) ->((x - 1)*h+(r+h)=HI/\val W/V<=x - 1)/\x - 1<x/\ah .u64 (Int.sub (x:Int) 1)=((x - 1:Nat):Int)/\ah .u64 (Int.add (r:Int) (ah .u64 ((dg V)[nd V - 1]'(by omega))))=((r+h:Nat):Int):=by
    clear hc;intro ht;have zz:=kw.step k1 k2 ht;refine⟨⟨zz.2.1,zz.1⟩,by have:=zz.2.2;omega,?_,?_⟩
    .show ah .u64 ((x:Int) - 1)=((x - 1:Nat):Int)
     have:=zz.2.2;rw [aJ (by omega) (by omega)];omega
    .rw [Ym];exact aJ (n:=((r+h:Nat):Int)) (by omega) (by omega)
   conv=>whnf
   refine an (λt2=>?_) (λt2=>?_)
   .have t2:4294967296<=x:=(by have:=cA.1 t2;omega);have zz:=GM (.inl t2);conv=>whnf
    refine aG.go (nd V - 1) ej1 (show nd V - 1<(dg V).length by omega) (aB ?_);refine⟨_,(aq .u32).rd rfl (by omega:nd V - 1<(dg V).length),aB ?_⟩;refine⟨(x - 1,r+h),zz.1,zz.2.1,?_⟩;refine Sub.of (fI [64,65]) [] rfl rfl rfl ?_ ?_
    .repeat' first|exact aA|exact rfl|refine And.intro ?_ ?_
     all_goals first|exact zz.2.2.1|exact zz.2.2.2
    .repeat' first|exact aA|exact rfl|refine And.intro ?_ ?_
     all_goals first|exact(aq .u32).bh _
   .have t2:x<4294967296:=(by have:=jk.1 t2;omega);have pk:=Ml (r:=r) t1 g3 hub;have eP:ah .u64 (Int.mul (x:Int) (ah .u64 ((dg V)[nd V - 2]'(by omega))))=((x*l:Nat):Int):=by
     rw [ev2];have hm:x*l<=4294967295*4294967295:=Nat.mul_le_mul (by omega) (by omega);exact aJ (n:=((x*l:Nat):Int)) (by omega) (by omega)
    conv=>whnf
    refine aG.go (nd V - 2) ej2 (show nd V - 2<(dg V).length by omega) (aB ?_);refine⟨_,(aq .u32).rd rfl (by omega:nd V - 2<(dg V).length),aB ?_⟩;refine⟨by decide,aB ?_⟩;refine aG.go (nd V - 2) ej2 (show nd V - 2<nd V+1 by omega) (aB ?_);refine⟨_,JX rfl hp (W:=W) (i:=nd V - 2) (by omega),aB ?_⟩;refine⟨pk.1,aB ?_⟩;refine an (λt3=>?_) (λt3=>?_)
    .have t3:r*4294967296+u2<x*l:=by
      have:=aQ.1 t3;rw [eP,pk.2]at this;exact Int.ofNat_lt.1 this
     have zz:=GM (.inr t3);conv=>whnf
     refine aG.go (nd V - 1) ej1 (show nd V - 1<(dg V).length by omega) (aB ?_);refine⟨_,(aq .u32).rd rfl (by omega:nd V - 1<(dg V).length),aB ?_⟩;refine⟨(x - 1,r+h),zz.1,zz.2.1,?_⟩;refine Sub.of (fI [64,65]) [] rfl rfl rfl ?_ ?_
     .repeat' first|exact aA|exact rfl|refine And.intro ?_ ?_
      all_goals first|exact zz.2.2.1|exact zz.2.2.2
     .repeat' first|exact aA|exact rfl|refine And.intro ?_ ?_
      all_goals first|exact(aq .u32).bh _
    .have t3:x*l<=r*4294967296+u2:=by
      have:=bf.1 t3;rw [eP,pk.2]at this;exact Int.ofNat_le.1 this
     have zz:x<4294967296/\x*V<val W+V:=KW.exit (q:=x) (r:=r) kw k1 k2 (Or.inr ⟨t2,t3⟩);conv=>whnf
     refine Cw.weaken ?_ (Cc ⟨0,p,W,q,Q,V,cap⟩ ⟨hp,hn,hW,hD,cJ,hs⟩ rfl x zz.1 zz.2 k2);refine Sub.of (fI [64,65]) [] rfl rfl rfl ?_ ?_
     .exact pc
     .repeat' first|exact aA|exact rfl|refine And.intro ?_ ?_
      all_goals first|exact(aq .u32).bh _
  .have t1:4294967296<=r:=(by have:=bf.1 t1;omega);have zz:x<4294967296/\x*V<val W+V:=KW.exit (q:=x) (r:=r) kw k1 k2 (Or.inl t1);conv=>whnf
   refine Cw.weaken ?_ (Cc ⟨0,p,W,q,Q,V,cap⟩ ⟨hp,hn,hW,hD,cJ,hs⟩ rfl x zz.1 zz.2 k2);refine Sub.of (fI [64,65]) [] rfl rfl rfl ?_ ?_
   .exact pc
   .repeat' first|exact aA|exact rfl|refine And.intro ?_ ?_
    all_goals first|exact(aq .u32).bh _
 .refine Sub.of (fI [64,65]) [] rfl rfl rfl ?_ ?_
  .repeat' first|exact aA|exact rfl|refine And.intro ?_ ?_
   all_goals first|exact congrArg Int.ofNat lV|skip
   .rw [pk2,Ym];exact aJ (n:=((HI/h:Nat):Int)) (Int.natCast_nonneg _) (by omega)
   .rw [pk2,Ym];exact Int.ofNat_tmod _ _|>.symm
  .repeat' first|exact aA|exact rfl|refine And.intro ?_ ?_
   all_goals first|exact(aq .u32).bh _
end
end
end Go.Sy
