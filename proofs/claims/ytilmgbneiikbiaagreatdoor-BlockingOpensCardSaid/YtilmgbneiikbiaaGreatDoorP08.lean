/- A piece of the proof, made small by a program of ours. -/
import Derived.Test.YtilmgbneiikbiaaGreatDoorP07
set_option linter.all false
set_option maxRecDepth 1000000
set_option maxHeartbeats 0
namespace Go.Sy
noncomputable section
open Go.RowKit Go.Proofs Go.Proofs.Tryz
section
attribute [local irreducible] Cw ak bq PF Sub
attribute [local instance] fp
def TA:List (Cn prog):=[iD,vn,eW]
def aiI (a b:Nat):Prop:=nd a<134217728/\nd b<134217728/\0<b/\(a<b\/b<4294967296)
theorem ac6 {b:Nat} (h:0<b) (h2:b<4294967296):nd b=1:=by
 apply Nat.le_antisymm
 .exact xa (by omega)
 .rw [nQ (by omega)];omega
theorem Qi (a b:Nat) (h:aiI a b):dQ 144 (.cons (aM.v a) (.cons (aM.v b) .nil)) (.aS (.cons (aM.v (a/b)) (.cons (aM.v (a % b)) .nil))):=by
 obtain⟨ha,hb,h0,hc⟩:=h;refine PF.of_wp (c:=_) af (by decide) (fn:=f144) rfl rfl rfl ?_ (call:=aH TA) (λB0=>az ae TA B0) ?_
 .exact .cons (aM.an _) (.cons (aM.an _) .nil)
 .intro B0;have lb:=bj b;conv=>whnf
  refine df TA 0 iD (a,b) ⟨by show nd a<_;omega,by show nd b<_;omega⟩ (aC ?_);refine ay (λh=>?_) (λh=>?_)
  .have h:km a b<0:=aO.1 h;have cR:a<b:=by
    unfold km at h;split at h
    .assumption
    .split at h<;>omega
   rw [Nat.div_eq_of_lt cR,Nat.mod_eq_of_lt cR];conv=>whnf
   exact ak.aS (.cons ak.bt (.cons (ak.pure (aM.an _)) .nil))
  .have h:0<=km a b:=aX.1 h;have hle:b<=a:=by
    unfold km at h;split at h
    .omega
    .omega
   have hw:b<4294967296:=(by omega);have hn:=ac6 h0 hw;conv=>whnf
   refine ay (λh1=>?_) (λh1=>?_)
   .have hi:0<(dg b).length:=(by omega);have hx:=bI hi;rw [Nat.pow_zero,Nat.div_one,Nat.mod_eq_of_lt hw]at hx;conv=>whnf
    refine aL.go 0 rfl hi (aC ?_);refine⟨_,(au .u32).rd rfl hi,aC ?_⟩;rw [hx];refine df TA 1 vn (a,(b:Int)) ⟨ha,by show(0:Int)<(b:Int);omega,by show(b:Int)<_;omega⟩ (kj ?_);have hm:a % b<b:=Nat.mod_lt _ h0;refine bA (l:=TA) (by decide) 2 (c:=eW) rfl [((a % b:Nat):Int)] ⟨DG.cons.2 ⟨by omega,.nil⟩,by show(1:Nat)<_;omega⟩ ?_ ?_ ?_
    .exact⟨rfl,aB⟩
    .rfl
    refine kj ?_;refine ak.same ?_ (.aS (.cons (aM.an _) (.cons (aM.an _) .nil)));show AV.aS (.cons (aM.v (a/b)) (.cons (aM.v (a % b+4294967296*0)) .nil))=_;rfl
   .exfalso;have h1:=jo.1 h1;apply h1;rw [lb,hn];rfl
def abp (a b:Nat):Prop:=nd a<134217728/\nd b<134217728/\0<b
theorem TB (a b:Nat) (h:abp a b):dQ 144 (.cons (aM.v a) (.cons (aM.v b) .nil)) (.aS (.cons (aM.v (a/b)) (.cons (aM.v (a % b)) .nil))):=by
 obtain⟨ha,hb,h0⟩:=h;by_cases h1:a<b\/b<4294967296
 .exact Qi a b ⟨by omega,by omega,h0,h1⟩
 .refine Qh a b ha ?_ (by omega);have h2:4294967296<=b:=by omega
  have h3:=dV b;apply Nat.le_of_not_lt;intro h4;have h5:(4294967296:Nat) ^ nd b<=4294967296 ^ 1:=Nat.pow_le_pow_right (by decide) (by omega);omega
def iY:Cn prog:= .Gy aM aM aM aM 144 abp (λa b=>a/b) (λa b=>a % b) TB (aw rfl rfl)
def xf (a b:Int):Prop:=SZ a/\SZ b
theorem afT (a b:Int) (h:xf a b):dQ 83 (.cons (aR.v a) (.cons (aR.v b) .nil)) (aR.v (Nat.gcd a.natAbs b.natAbs)):=by
 obtain⟨ha,hb⟩:=h;unfold SZ at ha hb;refine PF.of_wp (c:=_) af (by decide) (fn:=f83) rfl rfl rfl ?_ (call:=aH [iY]) (λB0=>az ae [iY] B0) ?_
 .exact .cons (aR.an _) (.cons (aR.an _) .nil)
 .intro B0;rw [ej a,ej b];generalize a.natAbs=A at*;generalize b.natAbs=B at*;conv=>whnf
  refine Cw.loop (ι:=Nat×Nat)
   (λq=>bl [(4,.ptr (pathOf 66) 0),(5,aM.v q.1),(6,aM.v q.2)]) (λ_=>[])
   (λq=>⟨bV [(pathOf 66,.cells (bl [(0,.bool false),(1,.bt)]) 2 false)],pathOf 67⟩)
   (λq=>nd q.1<134217728/\nd q.2<134217728/\Nat.gcd q.1 q.2=Nat.gcd A B)
   (λq=>q.2) ?_ (A,B) ⟨ha,hb,rfl⟩ ?_
  .rintro ⟨x,y⟩ ⟨hx,hy,hg⟩;simp only at hx hy hg;refine aD af rfl rfl (az ae [iY] B0) _ (aC ?_);refine ay (λh=>?_) (λh=>?_)
   .rw [show cQ 0 (Int.ofNat (dg (x,y).snd).length)=decide (0<y)from tO]at h;have h0:=of_decide_eq_true h;have hm:=Nat.mod_lt x h0;conv=>whnf
    refine df [iY] 0 iY (x,y) ⟨hx,hy,h0⟩ (kj ?_);refine⟨(y,x % y),⟨hy,Nat.lt_of_le_of_lt (px (Nat.le_of_lt hm)) hy,?_⟩,hm,?_⟩
    .show Nat.gcd y (x % y)=_;rw [<-hg,Nat.gcd_comm x y,Nat.gcd_rec y x,Nat.gcd_comm]
    .refine Sub.of (gU [66]) [] rfl rfl rfl ⟨rfl,⟨rfl,rfl⟩,⟨rfl,rfl⟩,aB⟩ ⟨⟨rfl,rfl,aB,rfl,aB,aB,aB⟩,aB⟩
   .rw [show cQ 0 (Int.ofNat (dg (x,y).snd).length)=decide (0<y)from tO]at h;have h0:y=0:=(by have:=of_decide_eq_false h;omega);subst h0;rw [Nat.gcd_zero_right]at hg;rw [<-hg];conv=>whnf
    refine ak.same ?_ (aR.an _);rfl
  .refine Sub.of (gU [66]) [] rfl rfl rfl ⟨rfl,⟨rfl,rfl⟩,⟨rfl,rfl⟩,aB⟩ ⟨⟨rfl,rfl,aB,rfl,aB,aB,aB⟩,aB⟩
def qN:Cn prog:= .kP aR aR aR 83 false xf (λa b=>(Nat.gcd a.natAbs b.natAbs:Nat)) (λe=>by cases e) afT (aw rfl rfl)
theorem Qj (neg:Bool) (m:Nat) (h:nd m<4294967296):dQ 143 (.cons (bG.v neg) (.cons (aM.v m) .nil)) (aR.v (eV neg m)):=by
 have:=GJ neg (dg m) (abj m) (by rw [bj];exact h);rw [DU]at this;exact this
def iE:Cn prog:= .kP bG aM aR 143 false (λ_ m=>nd m<4294967296) eV (λe=>by cases e) Qj (aw rfl rfl)
def cO:List (Cn prog):=[fa,iY,iE,iP,My,sP]
def zu (a b:Int):Prop:=SZ a/\SZ b
def lA (a b:Int):Int:=if b=0 then 0 else Int.fdiv a b
def dmR (a b:Int):Int:=if b=0 then 0 else Int.fmod a b
def dmE (a b:Int):Int:=if b=0 then 19 else 0
theorem Eb {a b q r:Int} (h:0<b) (h1:r+b*q=a) (h2:0<=r) (h3:r<b):lA a b=q/\dmR a b=r/\dmE a b=0:=by
 have:=(Int.fdiv_fmod_unique h).2 ⟨h1,h2,h3⟩;unfold lA dmR dmE;rw [if_neg (by omega),if_neg (by omega),if_neg (by omega)];exact⟨this.1,this.2,rfl⟩
theorem Ec {a b q r:Int} (h:b<0) (h1:r+b*q=a) (h2:b<r) (h3:r<=0):lA a b=q/\dmR a b=r/\dmE a b=0:=by
 have:=(Int.fdiv_fmod_unique' h).2 ⟨h1,h2,h3⟩;unfold lA dmR dmE;rw [if_neg (by omega),if_neg (by omega),if_neg (by omega)];exact⟨this.1,this.2,rfl⟩
theorem oA {s:Bool} {m:Nat}:bD (Int.sign (eV s m)) 0=true↔m=0:=by
 rw [bh,Int.sign_eq_zero_iff_zero];cases s<;>simp [eV]
theorem TC {s:Bool} {m:Nat} (h:m≠0):decide (eV s m<0)=s:=by
 cases s
 .exact decide_eq_false (by simp only [eV];omega)
 .exact decide_eq_true (by simp only [eV];omega)
theorem xQ {b:Int} {s:Bool} (hb:decide (b<0)=s) (x:Bool) (q:Nat):b*eV x q=eV (x !=s) (b.natAbs*q):=by
 subst hb;rcases Int.lt_or_le b 0 with h|h
 .obtain⟨n,hn⟩:∃n:Nat,b= -(n:Int):=⟨b.natAbs,by omega⟩
  subst hn;rw [decide_eq_true h];cases x<;>simp [eV,Int.neg_mul,Int.mul_neg]
 .obtain⟨n,rfl⟩:=Int.eq_ofNat_of_zero_le h;rw [decide_eq_false (by omega)];cases x<;>simp [eV,Int.neg_mul,Int.mul_neg]
theorem Ed {s:Bool} {m:Nat} (h:nd m<134217728):SZ (eV s m):=by unfold SZ;rw [Mw];exact h
theorem zw:SZ 1:=by unfold SZ;decide
theorem TD (a b:Int) (h:zu a b):dQ 82 (.cons (aR.v a) (.cons (aR.v b) .nil)) (.aS (.cons (aR.v (lA a b)) (.cons (aR.v (dmR a b)) (.cons ((au .i64).v (dmE a b)) .nil)))):=by
 obtain⟨ha,hb⟩:=h;unfold SZ at ha hb;refine PF.of_wp (c:=_) af (by decide) (fn:=f82) rfl rfl rfl ?_ (call:=aH cO) (λB0=>az ae cO B0) ?_
 .exact .cons (aR.an _) (.cons (aR.an _) .nil)
 .intro B0;by_cases h0:b=0
  .subst h0;conv=>whnf
   refine df cO 0 fa (0:Int) aB (kj ?_);refine ak.aS (.cons ?_ (.cons ?_ (.cons (ak.pure .int) .nil)))
   .exact ak.agg (.cons (ak.pure .bool) (.cons ak.bt .nil))
   .exact ak.agg (.cons (ak.pure .bool) (.cons ak.bt .nil))
  have hB:0<b.natAbs:=by omega
  have hQ:nd (a.natAbs/b.natAbs)<=nd a.natAbs:=px (Nat.div_le_self _ _);have hRl:nd (a.natAbs % b.natAbs)<=nd a.natAbs:=px (Nat.mod_le _ _);have hRb:=Nat.mod_lt a.natAbs hB;have hdm:=Nat.div_add_mod a.natAbs b.natAbs;rcases Int.lt_or_le a 0 with hna|hna<;>rcases Int.lt_or_le b 0 with hnb|hnb
  .rw [ej a,ej b,decide_eq_true (show a<0 by omega),decide_eq_true (show b<0 by omega)];have hmul:b*eV false (a.natAbs/b.natAbs)= -((b.natAbs*(a.natAbs/b.natAbs):Nat):Int):=xQ (s:=true) (decide_eq_true (show b<0 by omega)) false _;conv=>whnf
   refine bA (l:=cO) (by decide) 0 (c:=fa) rfl b aB ?_ ?_ ?_
   .exact oR
   .show AV.cons (aR.v b) .nil=_;rw [ej b,decide_eq_true (show b<0 by omega)];rfl
   refine kj ?_;refine ay (λh=>?_) (λh=>?_)
   .exact absurd (Int.sign_eq_zero_iff_zero.1 (bh.1 h)) h0
   conv=>whnf
   refine df cO 1 iY (a.natAbs,b.natAbs) ⟨ha,hb,hB⟩ (kj ?_);refine df cO 2 iE (false,a.natAbs/b.natAbs) (by show nd (a.natAbs/b.natAbs)<_;omega) (kj ?_);refine df cO 2 iE (true,a.natAbs % b.natAbs) (by show nd (a.natAbs % b.natAbs)<_;omega) (kj ?_);refine df cO 0 fa (eV true (a.natAbs % b.natAbs)) aB (kj ?_);refine ay (λh1=>?_) (λh1=>?_)
   .have hR:a.natAbs % b.natAbs≠0:=λe=>by rw [kV]at h1;rw [oA.2 e]at h1;cases h1
    conv=>whnf
    refine ay (λh2=>?_) (λh2=>?_)
    .exfalso;have h3:aY (Bool.casesOn (motive:=λ_=>Bool) (decide (eV true (a.natAbs % b.natAbs)<0)) (aY true) true)=true:=h2;rw [TC hR]at h3;cases h3
    .refine kj ?_;obtain⟨e1,e2,e3⟩:=Ec (a:=a) (b:=b) (q:=eV false (a.natAbs/b.natAbs)) (r:=eV true (a.natAbs % b.natAbs)) (by omega) (by rw [hmul];simp only [eV];omega) (by simp only [eV];omega) (by simp only [eV];omega);rw [e1,e2,e3];exact ak.same rfl (.aS (.cons (aR.an _) (.cons (aR.an _) (.cons .int .nil))))
   .refine kj ?_;obtain⟨e1,e2,e3⟩:=Ec (a:=a) (b:=b) (q:=eV false (a.natAbs/b.natAbs)) (r:=eV true (a.natAbs % b.natAbs)) (by omega) (by rw [hmul];simp only [eV];omega) (by simp only [eV];omega) (by simp only [eV];omega);rw [e1,e2,e3];exact ak.same rfl (.aS (.cons (aR.an _) (.cons (aR.an _) (.cons .int .nil))))
  .rw [ej a,ej b,decide_eq_true (show a<0 by omega),decide_eq_false (show ¬b<0 by omega)];have hmul:b*eV true (a.natAbs/b.natAbs)= -((b.natAbs*(a.natAbs/b.natAbs):Nat):Int):=xQ (s:=false) (decide_eq_false (show ¬b<0 by omega)) true _;conv=>whnf
   refine bA (l:=cO) (by decide) 0 (c:=fa) rfl b aB ?_ ?_ ?_
   .exact oR
   .show AV.cons (aR.v b) .nil=_;rw [ej b,decide_eq_false (show ¬b<0 by omega)];rfl
   refine kj ?_;refine ay (λh=>?_) (λh=>?_)
   .exact absurd (Int.sign_eq_zero_iff_zero.1 (bh.1 h)) h0
   conv=>whnf
   refine df cO 1 iY (a.natAbs,b.natAbs) ⟨ha,hb,hB⟩ (kj ?_);refine df cO 2 iE (true,a.natAbs/b.natAbs) (by show nd (a.natAbs/b.natAbs)<_;omega) (kj ?_);refine df cO 2 iE (true,a.natAbs % b.natAbs) (by show nd (a.natAbs % b.natAbs)<_;omega) (kj ?_);refine df cO 0 fa (eV true (a.natAbs % b.natAbs)) aB (kj ?_);refine ay (λh1=>?_) (λh1=>?_)
   .have hR:a.natAbs % b.natAbs≠0:=λe=>by rw [kV]at h1;rw [oA.2 e]at h1;cases h1
    conv=>whnf
    refine ay (λh2=>?_) (λh2=>?_)
    .conv=>whnf
     refine df cO 3 iP (1:Int) ⟨by show(-9223372036854775808:Int)<=1;omega,by show(1:Int)<9223372036854775808;omega⟩ (kj ?_);refine df cO 4 My (eV true (a.natAbs/b.natAbs),(1:Int)) ⟨Ed (s:=true) (m:=a.natAbs/b.natAbs) (by omega),zw⟩ (kj ?_);refine bA (l:=cO) (by decide) 5 (c:=sP) rfl (eV true (a.natAbs % b.natAbs),b) ⟨Ed (s:=true) (m:=a.natAbs % b.natAbs) (by omega),hb⟩ ?_ ?_ ?_
     .exact oR
     .show AV.cons (aR.v _) (.cons (aR.v b) .nil)=_;rw [ej b,decide_eq_false (show ¬b<0 by omega)];rfl
     refine kj ?_;repeat refine⟨⟨_,rfl,rfl⟩,?_⟩
     conv=>whnf
     obtain⟨e1,e2,e3⟩:=Eb (a:=a) (b:=b) (q:=eV true (a.natAbs/b.natAbs) - 1) (r:=eV true (a.natAbs % b.natAbs)+b) (by omega) (by rw [Int.mul_sub,hmul];simp only [eV];omega) (by simp only [eV];omega) (by simp only [eV];omega);rw [e1,e2,e3];exact ak.same rfl (.aS (.cons (aR.an _) (.cons (aR.an _) (.cons .int .nil))))
    .exfalso;have h3:aY (Bool.casesOn (motive:=λ_=>Bool) (decide (eV true (a.natAbs % b.natAbs)<0)) (aY false) false)=false:=h2;rw [TC hR]at h3;cases h3
   .have hR:a.natAbs % b.natAbs=0:=(by rw [rM]at h1;exact oA.1 h1);refine kj ?_;obtain⟨e1,e2,e3⟩:=Eb (a:=a) (b:=b) (q:=eV true (a.natAbs/b.natAbs)) (r:=eV true (a.natAbs % b.natAbs)) (by omega) (by rw [hmul];simp only [eV];omega) (by simp only [eV];omega) (by simp only [eV];omega);rw [e1,e2,e3];exact ak.same rfl (.aS (.cons (aR.an _) (.cons (aR.an _) (.cons .int .nil))))
  .rw [ej a,ej b,decide_eq_false (show ¬a<0 by omega),decide_eq_true (show b<0 by omega)];have hmul:b*eV true (a.natAbs/b.natAbs)=((b.natAbs*(a.natAbs/b.natAbs):Nat):Int):=xQ (s:=true) (decide_eq_true (show b<0 by omega)) true _;conv=>whnf
   refine bA (l:=cO) (by decide) 0 (c:=fa) rfl b aB ?_ ?_ ?_
   .exact oR
   .show AV.cons (aR.v b) .nil=_;rw [ej b,decide_eq_true (show b<0 by omega)];rfl
   refine kj ?_;refine ay (λh=>?_) (λh=>?_)
   .exact absurd (Int.sign_eq_zero_iff_zero.1 (bh.1 h)) h0
   conv=>whnf
   refine df cO 1 iY (a.natAbs,b.natAbs) ⟨ha,hb,hB⟩ (kj ?_);refine df cO 2 iE (true,a.natAbs/b.natAbs) (by show nd (a.natAbs/b.natAbs)<_;omega) (kj ?_);refine df cO 2 iE (false,a.natAbs % b.natAbs) (by show nd (a.natAbs % b.natAbs)<_;omega) (kj ?_);refine df cO 0 fa (eV false (a.natAbs % b.natAbs)) aB (kj ?_);refine ay (λh1=>?_) (λh1=>?_)
   .have hR:a.natAbs % b.natAbs≠0:=λe=>by rw [kV]at h1;rw [oA.2 e]at h1;cases h1
    conv=>whnf
    refine df cO 3 iP (1:Int) ⟨by show(-9223372036854775808:Int)<=1;omega,by show(1:Int)<9223372036854775808;omega⟩ (kj ?_);refine df cO 4 My (eV true (a.natAbs/b.natAbs),(1:Int)) ⟨Ed (s:=true) (m:=a.natAbs/b.natAbs) (by omega),zw⟩ (kj ?_);refine bA (l:=cO) (by decide) 5 (c:=sP) rfl (eV false (a.natAbs % b.natAbs),b) ⟨Ed (s:=false) (m:=a.natAbs % b.natAbs) (by omega),hb⟩ ?_ ?_ ?_
    .exact oR
    .show AV.cons (aR.v _) (.cons (aR.v b) .nil)=_;rw [ej b,decide_eq_true (show b<0 by omega)];rfl
    refine kj ?_;repeat refine⟨⟨_,rfl,rfl⟩,?_⟩
    conv=>whnf
    obtain⟨e1,e2,e3⟩:=Ec (a:=a) (b:=b) (q:=eV true (a.natAbs/b.natAbs) - 1) (r:=eV false (a.natAbs % b.natAbs)+b) (by omega) (by rw [Int.mul_sub,hmul];simp only [eV];omega) (by simp only [eV];omega) (by simp only [eV];omega);rw [e1,e2,e3];exact ak.same rfl (.aS (.cons (aR.an _) (.cons (aR.an _) (.cons .int .nil))))
   .have hR:a.natAbs % b.natAbs=0:=(by rw [rM]at h1;exact oA.1 h1);refine kj ?_;obtain⟨e1,e2,e3⟩:=Ec (a:=a) (b:=b) (q:=eV true (a.natAbs/b.natAbs)) (r:=eV false (a.natAbs % b.natAbs)) (by omega) (by rw [hmul];simp only [eV];omega) (by simp only [eV];omega) (by simp only [eV];omega);rw [e1,e2,e3];exact ak.same rfl (.aS (.cons (aR.an _) (.cons (aR.an _) (.cons .int .nil))))
  .rw [ej a,ej b,decide_eq_false (show ¬a<0 by omega),decide_eq_false (show ¬b<0 by omega)];have hmul:b*eV false (a.natAbs/b.natAbs)=((b.natAbs*(a.natAbs/b.natAbs):Nat):Int):=xQ (s:=false) (decide_eq_false (show ¬b<0 by omega)) false _;conv=>whnf
   refine bA (l:=cO) (by decide) 0 (c:=fa) rfl b aB ?_ ?_ ?_
   .exact oR
   .show AV.cons (aR.v b) .nil=_;rw [ej b,decide_eq_false (show ¬b<0 by omega)];rfl
   refine kj ?_;refine ay (λh=>?_) (λh=>?_)
   .exact absurd (Int.sign_eq_zero_iff_zero.1 (bh.1 h)) h0
   conv=>whnf
   refine df cO 1 iY (a.natAbs,b.natAbs) ⟨ha,hb,hB⟩ (kj ?_);refine df cO 2 iE (false,a.natAbs/b.natAbs) (by show nd (a.natAbs/b.natAbs)<_;omega) (kj ?_);refine df cO 2 iE (false,a.natAbs % b.natAbs) (by show nd (a.natAbs % b.natAbs)<_;omega) (kj ?_);refine df cO 0 fa (eV false (a.natAbs % b.natAbs)) aB (kj ?_);refine ay (λh1=>?_) (λh1=>?_)
   .have hR:a.natAbs % b.natAbs≠0:=λe=>by rw [kV]at h1;rw [oA.2 e]at h1;cases h1
    conv=>whnf
    .refine kj ?_;obtain⟨e1,e2,e3⟩:=Eb (a:=a) (b:=b) (q:=eV false (a.natAbs/b.natAbs)) (r:=eV false (a.natAbs % b.natAbs)) (by omega) (by rw [hmul];simp only [eV];omega) (by simp only [eV];omega) (by simp only [eV];omega);rw [e1,e2,e3];exact ak.same rfl (.aS (.cons (aR.an _) (.cons (aR.an _) (.cons .int .nil))))
   .refine kj ?_;obtain⟨e1,e2,e3⟩:=Eb (a:=a) (b:=b) (q:=eV false (a.natAbs/b.natAbs)) (r:=eV false (a.natAbs % b.natAbs)) (by omega) (by rw [hmul];simp only [eV];omega) (by simp only [eV];omega) (by simp only [eV];omega);rw [e1,e2,e3];exact ak.same rfl (.aS (.cons (aR.an _) (.cons (aR.an _) (.cons .int .nil))))
def iZ:Cn prog:= .afv aR aR aR aR (au .i64) 82 zu lA dmR dmE TD (aw rfl rfl)
abbrev V3:=Int×Int×Int
def bL:bW V3:=((au .i64).pair ((au .i64).pair (au .i64)))
def Cb (n:Int):Int:=aj .i64 n
def bQ (a b:V3):V3:=(Cb (Int.sub a.1 b.1),Cb (Int.sub a.2.1 b.2.1),Cb (Int.sub a.2.2 b.2.2))
def ja (a b:V3):Int:=Cb (Int.add (Cb (Int.add (Cb (Int.mul a.1 b.1)) (Cb (Int.mul a.2.1 b.2.1)))) (Cb (Int.mul a.2.2 b.2.2)))
def eF (a b:V3):V3:=(Cb (Int.sub (Cb (Int.mul a.2.1 b.2.2)) (Cb (Int.mul a.2.2 b.2.1))),Cb (Int.sub (Cb (Int.mul a.2.2 b.1)) (Cb (Int.mul a.1 b.2.2))),Cb (Int.sub (Cb (Int.mul a.1 b.2.1)) (Cb (Int.mul a.2.1 b.1))))
theorem afU (a b:V3):dQ 310 (.cons (bL.v a) (.cons (bL.v b) .nil)) (bL.v (bQ a b)):=by
 obtain⟨a0,a1,a2⟩:=a;obtain⟨b0,b1,b2⟩:=b;refine PF.of_wp (c:=_) af (by decide) (fn:=f310) rfl rfl rfl (.cons (bL.an _) (.cons (bL.an _) .nil)) (call:=aH []) (λB0=>az ae [] B0) ?_;intro B0;conv=>whnf
 exact ak.same rfl (bL.an _)
theorem afV (a b:V3):dQ 313 (.cons (bL.v a) (.cons (bL.v b) .nil)) ((au .i64).v (ja a b)):=by
 obtain⟨a0,a1,a2⟩:=a;obtain⟨b0,b1,b2⟩:=b;refine PF.of_wp (c:=_) af (by decide) (fn:=f313) rfl rfl rfl (.cons (bL.an _) (.cons (bL.an _) .nil)) (call:=aH []) (λB0=>az ae [] B0) ?_;intro B0;conv=>whnf
 exact ak.same rfl cN.int
theorem YH (a b:V3):dQ 309 (.cons (bL.v a) (.cons (bL.v b) .nil)) (bL.v (eF a b)):=by
 obtain⟨a0,a1,a2⟩:=a;obtain⟨b0,b1,b2⟩:=b;refine PF.of_wp (c:=_) af (by decide) (fn:=f309) rfl rfl rfl (.cons (bL.an _) (.cons (bL.an _) .nil)) (call:=aH []) (λB0=>az ae [] B0) ?_;intro B0;conv=>whnf
 exact ak.same rfl (bL.an _)
theorem MJ:true=true ->∀y,∀a∈bL.cs y,pL a=true:=λ_ y x hx=>by
 obtain⟨y0,y1,y2⟩:=y;have hx:x∈[AV.int .i64 y0,AV.int .i64 y1,AV.int .i64 y2]:=hx;simp only [List.mem_cons,List.mem_nil_iff,or_false]at hx;rcases hx with rfl|rfl|rfl<;>rfl
def nu:Cn prog:= .kP bL bL bL 310 true (λ_ _=>True) bQ MJ (λa b _=>afU a b) (aw rfl rfl)
def vo:Cn prog:= .kP bL bL (au .i64) 313 true (λ_ _=>True) ja (de _) (λa b _=>afV a b) (aw rfl rfl)
def py:Cn prog:= .kP bL bL bL 309 true (λ_ _=>True) eF MJ (λa b _=>YH a b) (aw rfl rfl)
theorem oC {n:Int} (h1:0<=n) (h2:n<18446744073709551616):fits .u64 n=true:=cM.2 ⟨by simpa [Ft]using h1,h2⟩
def vp:List (Cn prog):=[nu,vo,py]
def isZ (n:V3):Bool:=aF (bD n.1 0) (aF (bD n.2.1 0) (aF (bD n.2.2 0) true))
def TE (m:Nat):Int:=aj .u64 (Int.mul 1 (Int.ofNat (Nat.pow 2 (Nat.min m 64))))
def orN (on m:Nat):Nat:=Nat.lor on (TE m).toNat
def dR (n o:V3) (m:Nat) (p:V3) (s:Nat×Bool×Bool):Nat×Bool×Bool:=
 match cQ (ja n (bQ p o)) 0 with
 |true=>(s.1,true,s.2.2)
 |false=>(match cQ 0 (ja n (bQ p o))with|true=>(s.1,s.2.1,true)|false=>(orN s.1 m,s.2.1,s.2.2))
def iQ (n o:V3):Nat ->List V3 ->Nat×Bool×Bool ->Nat×Bool×Bool
 |_,[],s=>s|m,p::l,s=>iQ n o (m+1) l (dR n o m p s)
theorem xg {n o p:V3}:∀{l:List V3} {a:Nat} {s:Nat×Bool×Bool},iQ n o a (l++[p]) s=dR n o (a+l.length) p (iQ n o a l s)
 |[],a,s=>rfl|q::l,a,s=>by
  show iQ n o (a+1) (l++[p]) (dR n o a q s)=_;rw [xg,List.length_cons,show a+1+l.length=a+(l.length+1) by omega];rfl
theorem pz (m:Nat):0<=TE m/\TE m<18446744073709551616:=by
 unfold TE;rw [wrap_u64];omega
theorem TF {on m:Nat} (h:on<18446744073709551616):orN on m<18446744073709551616:=by
 have h1:=pz m;have:(TE m).toNat<2 ^ 64:=by omega
 exact Nat.or_lt_two_pow (n:=64) h this
theorem GV {n o p:V3} {m:Nat} {s:Nat×Bool×Bool} (h:s.1<18446744073709551616):(dR n o m p s).1<18446744073709551616:=by
 unfold dR;split
 .exact h
 .split
  .exact h
  .exact TF h
theorem Cc {n o:V3}:∀{l:List V3} {a:Nat} {s:Nat×Bool×Bool},s.1<18446744073709551616 ->(iQ n o a l s).1<18446744073709551616
 |[],_,_,h=>h|p::l,_,_,h=>Cc (l:=l) (GV h)
def bY:bW (V3×Int):=bL.pair (au .u64)
def TG (l:List V3) (n o:V3):(V3×Int)×Bool:=
 ((match (iQ n o 0 l (0,false,false)).2.2 with|true=>bQ (0,0,0) n|false=>n,(((iQ n o 0 l (0,false,false)).1:Nat):Int)),aY (Bool.casesOn (motive:=λ_=>Bool) (iQ n o 0 l (0,false,false)).2.1 (aY (iQ n o 0 l (0,false,false)).2.2) (iQ n o 0 l (0,false,false)).2.2))
def gq (l:List V3) (a b c:V3):(V3×Int)×Bool:=
 match isZ (eF (bQ b a) (bQ c a))with
 |true=>(((0,0,0),0),false)
 |false=>TG l (eF (bQ b a) (bQ c a)) a
theorem ac7 (l:List V3) (i j k:Nat) (hl:l.length<=4294967296) (hi:i<l.length) (hj:j<l.length) (hk:k<l.length):dQ 314 (.cons (bL.list.v l) (.cons ((au .i64).v i) (.cons ((au .i64).v j) (.cons ((au .i64).v k) .nil)))) (.aS (.cons (bY.v (gq l l[i] l[j] l[k]).1) (.cons (bG.v (gq l l[i] l[j] l[k]).2) .nil))):=by
 refine PF.of_wp (c:=_) af (by decide) (fn:=f314) rfl rfl rfl (.cons (bL.list.an _) (.cons .int (.cons .int (.cons .int .nil)))) (call:=aH vp) (λB0=>az ae vp B0) ?_;intro B0;conv=>whnf
 refine aL.go j rfl hj (aC ?_);refine⟨_,bL.rd rfl hj,aC ?_⟩;refine aL.go i rfl hi (aC ?_);refine⟨_,bL.rd rfl hi,aC ?_⟩;refine aL.go k rfl hk (aC ?_);refine⟨_,bL.rd rfl hk,aC ?_⟩;refine aL.go i rfl hi (aC ?_);refine⟨_,bL.rd rfl hi,aC ?_⟩;refine bA (l:=vp) (by decide) 0 (c:=nu) rfl (l[j],l[i]) aB ?_ ?_ ?_
 .repeat' first|exact aB|refine⟨?_,?_⟩
 .rfl
 conv=>whnf
 repeat(first|(refine⟨⟨_,rfl,rfl⟩,?_⟩;conv=>whnf)|(refine⟨aB,?_⟩;conv=>whnf)|(refine⟨?_,?_⟩;(· first|exact⟨_,bL.rd (P:=prog) (t:=127) rfl hj,bL.rd (P:=prog) (t:=127) rfl hj⟩|exact⟨_,bL.rd (P:=prog) (t:=127) rfl hi,bL.rd (P:=prog) (t:=127) rfl hi⟩|exact⟨_,bL.rd (P:=prog) (t:=127) rfl hk,bL.rd (P:=prog) (t:=127) rfl hk⟩|exact rfl);conv=>whnf))
 conv=>whnf
 refine bA (l:=vp) (by decide) 0 (c:=nu) rfl (l[k],l[i]) aB ?_ ?_ ?_
 .repeat' first|exact aB|refine⟨?_,?_⟩
 .rfl
 conv=>whnf
 repeat(first|(refine⟨⟨_,rfl,rfl⟩,?_⟩;conv=>whnf)|(refine⟨aB,?_⟩;conv=>whnf)|(refine⟨?_,?_⟩;(· first|exact⟨_,bL.rd (P:=prog) (t:=127) rfl hj,bL.rd (P:=prog) (t:=127) rfl hj⟩|exact⟨_,bL.rd (P:=prog) (t:=127) rfl hi,bL.rd (P:=prog) (t:=127) rfl hi⟩|exact⟨_,bL.rd (P:=prog) (t:=127) rfl hk,bL.rd (P:=prog) (t:=127) rfl hk⟩|exact rfl);conv=>whnf))
 conv=>whnf
 refine bA (l:=vp) (by decide) 2 (c:=py) rfl (bQ l[j] l[i],bQ l[k] l[i]) aB ?_ ?_ ?_
 .repeat' first|exact aB|refine⟨?_,?_⟩
 .rfl
 conv=>whnf
 repeat(first|(refine⟨⟨_,rfl,rfl⟩,?_⟩;conv=>whnf)|(refine⟨aB,?_⟩;conv=>whnf)|(refine⟨?_,?_⟩;(· first|exact⟨_,bL.rd (P:=prog) (t:=127) rfl hj,bL.rd (P:=prog) (t:=127) rfl hj⟩|exact⟨_,bL.rd (P:=prog) (t:=127) rfl hi,bL.rd (P:=prog) (t:=127) rfl hi⟩|exact⟨_,bL.rd (P:=prog) (t:=127) rfl hk,bL.rd (P:=prog) (t:=127) rfl hk⟩|exact rfl);conv=>whnf))
 conv=>whnf
 unfold gq;refine ay (λh=>?_) (λh=>?_)
 .have hz:isZ (eF (bQ l[j] l[i]) (bQ l[k] l[i]))=true:=h;rw [hz];conv=>whnf
  exact ak.same rfl (.aS (.cons (bY.an _) (.cons (bG.an _) .nil)))
 .have hz:isZ (eF (bQ l[j] l[i]) (bQ l[k] l[i]))=false:=h;rw [hz];generalize eF (bQ l[j] l[i]) (bQ l[k] l[i])=n;conv=>whnf
  obtain⟨st,hS⟩:∃st:Nat ->Nat×Bool×Bool,∀q,st q=iQ n l[i] 0 (l.take q) (0,false,false):=⟨_,λ_=>rfl⟩
  have mw:∀q,(st q).1<18446744073709551616:=λq=>by rw [hS];exact Cc (by show(0:Nat)<_;omega)
  have Xx:st 0=(0,false,false):=by rw [hS];rfl
  have fe:∀q (hq:q<l.length),st (q+1)=dR n l[i] q l[q] (st q):=λq hq=>by
   rw [hS,hS,List.take_succ_eq_append_getElem hq,xg,List.length_take_of_le (by omega),Nat.zero_add]
  have AQ:iQ n l[i] 0 l (0,false,false)=st l.length:=by rw [hS,List.take_length]
  refine Cw.loop (ι:=Nat) (λq=>bl [(0,bL.list.v l),(1,.int .i64 (i:Int)),(8,.ptr (pathOf 64) 0),(10,.ptr (pathOf 65) 0),(11,.ptr (pathOf 66) 0),(12,.bool (st q).2.1),(13,.bool (st q).2.2),(42,bL.list.v l),(43,.int .i64 (l.length:Int)),(44,.int .i64 (q:Int))]) (λ_=>[]) (λq=>⟨bV [(pathOf 64,.cells (bl [(0,.int .i64 0),(1,.int .i64 0),(2,.int .i64 0),(3,.int .u64 0)]) 4 false),(pathOf 65,.cells (bl [(0,.int .i64 n.1),(1,.int .i64 n.2.1),(2,.int .i64 n.2.2)]) 3 false),(pathOf 66,.cells (bl [(0,.int .i64 n.1),(1,.int .i64 n.2.1),(2,.int .i64 n.2.2),(3,.int .u64 ((st q).1:Nat))]) 4 false)],pathOf 67⟩) (λq=>q<=l.length) (λq=>l.length - q) ?_ 0 (Nat.zero_le _) ?_
  .intro q hq;refine aD af rfl rfl (az ae vp B0) _ (aC ?_);refine ay (λh1=>?_) (λh1=>?_)
   .have iB:q<l.length:=Int.ofNat_lt.1 (aO.1 h1);have cE:aj .i64 (Int.add (q:Int) 1)=((q+1:Nat):Int):=by
     show aj .i64 ((q:Int)+1)=_;rw [aA (by omega) (by omega)];omega
    conv=>whnf
    refine aL.go q rfl iB (aC ?_);refine⟨_,bL.rd rfl iB,aC ?_⟩;refine aL.go i rfl hi (aC ?_);refine⟨_,bL.rd rfl hi,aC ?_⟩;refine bA (l:=vp) (by decide) 0 (c:=nu) rfl (l[q],l[i]) aB ?_ ?_ ?_
    .repeat' first|exact aB|refine⟨?_,?_⟩
    .rfl
    conv=>whnf
    repeat(first|(refine⟨⟨_,rfl,rfl⟩,?_⟩;conv=>whnf)|(refine⟨aB,?_⟩;conv=>whnf)|(refine⟨?_,?_⟩;(· first|exact⟨_,bL.rd (P:=prog) (t:=127) rfl hj,bL.rd (P:=prog) (t:=127) rfl hj⟩|exact⟨_,bL.rd (P:=prog) (t:=127) rfl hi,bL.rd (P:=prog) (t:=127) rfl hi⟩|exact⟨_,bL.rd (P:=prog) (t:=127) rfl hk,bL.rd (P:=prog) (t:=127) rfl hk⟩|exact⟨_,bL.rd (P:=prog) (t:=127) rfl iB,bL.rd (P:=prog) (t:=127) rfl iB⟩|exact rfl);conv=>whnf))
    conv=>whnf
    refine bA (l:=vp) (by decide) 1 (c:=vo) rfl (n,bQ l[q] l[i]) aB ?_ ?_ ?_
    .repeat' first|exact aB|refine⟨?_,?_⟩
    .rfl
    conv=>whnf
    repeat(first|(refine⟨⟨_,rfl,rfl⟩,?_⟩;conv=>whnf)|(refine⟨aB,?_⟩;conv=>whnf)|(refine⟨?_,?_⟩;(· first|exact⟨_,bL.rd (P:=prog) (t:=127) rfl hj,bL.rd (P:=prog) (t:=127) rfl hj⟩|exact⟨_,bL.rd (P:=prog) (t:=127) rfl hi,bL.rd (P:=prog) (t:=127) rfl hi⟩|exact⟨_,bL.rd (P:=prog) (t:=127) rfl hk,bL.rd (P:=prog) (t:=127) rfl hk⟩|exact rfl);conv=>whnf))
    conv=>whnf
    refine ay (λh2=>?_) (λh2=>?_)
    .have cA:dR n l[i] q l[q] (st q)=((st q).1,true,(st q).2.2):=by
      unfold dR;rw [show cQ (ja n (bQ l[q] l[i])) 0=true from h2]
     conv=>whnf
     refine⟨q+1,iB,by omega,?_⟩;refine Sub.of (gU [64,65,66]) [] rfl rfl rfl ?_ ?_
     .repeat' first|exact aB|exact rfl|refine And.intro ?_ ?_
      all_goals first|exact cE|(rw [fe q iB,cA];exact rfl)
     .repeat' first|exact aB|exact rfl|refine And.intro ?_ ?_
      all_goals first|exact cE|(rw [fe q iB,cA];exact rfl)
    .refine ay (λh3=>?_) (λh3=>?_)
     .have cA:dR n l[i] q l[q] (st q)=((st q).1,(st q).2.1,true):=by
       unfold dR;rw [show cQ (ja n (bQ l[q] l[i])) 0=false from h2,show cQ 0 (ja n (bQ l[q] l[i]))=true from h3]
      conv=>whnf
      refine⟨q+1,iB,by omega,?_⟩;refine Sub.of (gU [64,65,66]) [] rfl rfl rfl ?_ ?_
      .repeat' first|exact aB|exact rfl|refine And.intro ?_ ?_
       all_goals first|exact cE|(rw [fe q iB,cA];exact rfl)
      .repeat' first|exact aB|exact rfl|refine And.intro ?_ ?_
       all_goals first|exact cE|(rw [fe q iB,cA];exact rfl)
     .have cA:dR n l[i] q l[q] (st q)=(orN (st q).1 q,(st q).2.1,(st q).2.2):=by
       unfold dR;rw [show cQ (ja n (bQ l[q] l[i])) 0=false from h2,show cQ 0 (ja n (bQ l[q] l[i]))=false from h3]
      conv=>whnf
      refine⟨Int.natCast_nonneg q,aC ?_⟩;refine⟨⟨Int.natCast_nonneg _,oC (Int.natCast_nonneg _) (by have:=mw q;omega),(pz q).1,oC (pz q).1 (pz q).2⟩,aC ?_⟩;repeat(first|(refine⟨⟨_,rfl,rfl⟩,?_⟩;conv=>whnf)|(refine⟨aB,?_⟩;conv=>whnf))
      refine⟨q+1,iB,by omega,?_⟩;refine Sub.of (gU [64,65,66]) [] rfl rfl rfl ?_ ?_
      .repeat' first|exact aB|exact rfl|refine And.intro ?_ ?_
       all_goals first|exact cE|(rw [fe q iB,cA];exact rfl)
      .repeat' first|exact aB|exact rfl|refine And.intro ?_ ?_
       all_goals first|exact cE|(rw [fe q iB,cA];exact rfl)
   .have LU:q=l.length:=(by have:=aX.1 h1;omega);subst LU;have hb:=mw l.length;generalize st l.length=s0 at hb AQ ⊢;obtain⟨on,less,more⟩:=s0;unfold TG;rw [AQ];cases more with
    |true=>
     conv=>whnf
     refine bA (l:=vp) (by decide) 0 (c:=nu) rfl (((0,0,0):V3),n) aB ?_ ?_ ?_
     .repeat' first|exact aB|refine⟨?_,?_⟩
     .rfl
     conv=>whnf
     repeat(first|(refine⟨⟨_,rfl,rfl⟩,?_⟩;conv=>whnf)|(refine⟨aB,?_⟩;conv=>whnf)|(refine⟨?_,?_⟩;(· first|exact⟨_,bL.rd (P:=prog) (t:=127) rfl hj,bL.rd (P:=prog) (t:=127) rfl hj⟩|exact⟨_,bL.rd (P:=prog) (t:=127) rfl hi,bL.rd (P:=prog) (t:=127) rfl hi⟩|exact⟨_,bL.rd (P:=prog) (t:=127) rfl hk,bL.rd (P:=prog) (t:=127) rfl hk⟩|exact rfl);conv=>whnf))
     conv=>whnf
     exact ak.same rfl (.aS (.cons (bY.an _) (.cons (bG.an _) .nil)))
    |false=>
     conv=>whnf
     exact ak.same rfl (.aS (.cons (bY.an _) (.cons (bG.an _) .nil)))
  .refine Sub.of (gU [64,65,66]) [] rfl rfl rfl ?_ ?_
   .repeat' first|exact aB|exact rfl|refine And.intro ?_ ?_
    all_goals (rw [Xx];exact rfl)
   .repeat' first|exact aB|exact rfl|refine And.intro ?_ ?_
    all_goals (rw [Xx];exact rfl)
def Ko:Cn prog where
 f:=314
 flat:=true
 α:=List V3×Nat×Nat×Nat
 aZs:=λa=> .cons (bL.list.v a.1) (.cons ((au .i64).v a.2.1) (.cons ((au .i64).v a.2.2.1) (.cons ((au .i64).v a.2.2.2) .nil)))
 v:=λa=> .aS (.cons (bY.v (gq a.1 (a.1.getD a.2.1 (0,0,0)) (a.1.getD a.2.2.1 (0,0,0)) (a.1.getD a.2.2.2 (0,0,0))).1) (.cons (bG.v (gq a.1 (a.1.getD a.2.1 (0,0,0)) (a.1.getD a.2.2.1 (0,0,0)) (a.1.getD a.2.2.2 (0,0,0))).2) .nil))
 ok:=λa=>a.1.length<=4294967296/\a.2.1<a.1.length/\a.2.2.1<a.1.length/\a.2.2.2<a.1.length
 inj:=λa b _ _ h=>by
  obtain⟨l,i,j,k⟩:=a;obtain⟨l',i',j',k'⟩:=b;injection h with h1 h;injection h with h2 h;injection h with h3 h;injection h with h4 _;have e1:l=l':=bL.list.bO h1;have e2:(i:Int)=i':=(au .i64).bO h2;have e3:(j:Int)=j':=(au .i64).bO h3;have e4:(k:Int)=k':=(au .i64).bO h4;have e2:=Int.ofNat.inj e2;have e3:=Int.ofNat.inj e3;have e4:=Int.ofNat.inj e4;subst e1 e2 e3 e4;rfl
 dp:=λa=>⟨bL.list.jm _,aB,aB,aB,aB⟩
 pv:=λa=> .aS (.cons (bY.an _) (.cons (bG.an _) .nil))
 fl:=λ_ a=>by
  intro μ μ' cv hv;obtain⟨c,e,v1,r1,h1,h2,v2,r2,h3,h4,h5⟩:=hv;refine⟨c,e,v1,r1,h1,?_,v2,r2,h3,?_,h5⟩
  .exact bY.zd _ (λx hx=>by
    have hx:x∈[AV.int .i64 _,AV.int .i64 _,AV.int .i64 _,AV.int .u64 _]:=hx;simp only [List.mem_cons,List.mem_nil_iff,or_false]at hx;rcases hx with rfl|rfl|rfl|rfl<;>rfl) μ μ' v1 h2
  .exact bG.zd _ (fF rfl _) μ μ' v2 h4
 pf:=λa h=>by
  obtain⟨l,i,j,k⟩:=a;obtain⟨h1,h2,h3,h4⟩:=h;have:=ac7 l i j k h1 h2 h3 h4;have e:∀{q:Nat} (hq:q<l.length),l.getD q (0,0,0)=l[q]:=λhq=>by rw [List.getD_eq_getElem?_getD,List.getElem?_eq_getElem hq];rfl
  show PF _ _ _ (.aS (.cons (bY.v (gq l (l.getD i (0,0,0)) (l.getD j (0,0,0)) (l.getD k (0,0,0))).1) (.cons (bG.v (gq l (l.getD i (0,0,0)) (l.getD j (0,0,0)) (l.getD k (0,0,0))).2) .nil)));rw [e h2,e h3,e h4];exact this
 bd:=aw rfl rfl
abbrev Q:=Int×Int
def aK:bW Q:=aR.pair aR
def Q.dn (q:Q):Int:=if q.2=0 then 1 else q.2
def Q.whole (q:Q):Bool:=decide (q.2=0\/q.2=1)
theorem afW:dQ 146 .nil (aR.v 1):=by
 refine PF.of_wp (c:=_) af (by decide) (fn:=f146) rfl rfl rfl .nil (call:=aH [iP]) (λB0=>az ae [iP] B0) ?_;intro B0;conv=>whnf
 refine df [iP] 0 iP (1:Int) ⟨by show(-9223372036854775808:Int)<=1;omega,by show(1:Int)<9223372036854775808;omega⟩ (eD ?_);exact ak.same rfl (aR.an _)
def zx:Cn prog:= .of0 aR 146 1 afW (aw rfl rfl)
def zy:List (Cn prog):=[fa,zx,gB]
theorem YI (n d:Int) (hd:SZ d):dQ 96 (.cons (aK.v (n,d)) .nil) (bG.v (Q.whole (n,d))):=by
 refine PF.of_wp (c:=_) af (by decide) (fn:=f96) rfl rfl rfl (.cons (aK.an _) .nil) (call:=aH zy) (λB0=>az ae zy B0) ?_;intro B0;conv=>whnf
 refine df zy 0 fa d aB (eD ?_);refine ay (λh=>?_) (λh=>?_)
 .have h0:d=0:=Int.sign_eq_zero_iff_zero.1 (bh.1 h);have hw:Q.whole (n,d)=true:=decide_eq_true (.inl h0);rw [hw];refine eD ?_;exact ak.pure .bool
 .have h0:d≠0:=λe=>jo.1 h (by rw [e];rfl);have hw:Q.whole (n,d)=bD (eM d 1) 0:=by
   unfold Q.whole;rw [ga];congr 1;simp only [eq_iff_iff];show(d=0\/d=1)↔_;unfold eM;constructor
   .rintro (h|h)
    .exact absurd h h0
    .rw [if_neg (by omega),if_neg (by omega)]
   .intro h;split at h
    .omega
    .split at h<;>omega
  rw [hw];conv=>whnf
  refine df zy 1 zx () aB (eD ?_);refine df zy 2 gB (d,(1:Int)) ⟨hd,zw⟩ (eD ?_);exact ak.pure .bool
def ji:Cn prog:= .mU aK bG 96 true (λq=>SZ q.2) Q.whole fF (λq h=>YI q.1 q.2 h) (aw rfl rfl)
def YJ:List (Cn prog):=[fa,zx]
theorem afX (n d:Int):dQ 84 (.cons (aK.v (n,d)) .nil) (aR.v (Q.dn (n,d))):=by
 refine PF.of_wp (c:=_) af (by decide) (fn:=f84) rfl rfl rfl (.cons (aK.an _) .nil) (call:=aH YJ) (λB0=>az ae YJ B0) ?_;intro B0;conv=>whnf
 refine df YJ 0 fa d aB (aC ?_);refine ay (λh=>?_) (λh=>?_)
 .have h0:d=0:=Int.sign_eq_zero_iff_zero.1 (bh.1 h);rw [show Q.dn (n,d)=1 from if_pos h0];conv=>whnf
  refine df YJ 1 zx () aB (eD ?_);exact ak.same rfl (aR.an _)
 .have h0:d≠0:=λe=>jo.1 h (by rw [e];rfl);rw [show Q.dn (n,d)=d from if_neg h0];refine eD ?_;exact ak.same rfl (aR.an _)
def fg:Cn prog:= .mU aK aR 84 false (λ_=>True) Q.dn (λe=>by cases e) (λq _=>afX q.1 q.2) (aw rfl rfl)
theorem YK (n d:Int):dQ 54 (.cons (aK.v (n,d)) .nil) ((au .i64).v n.sign):=by
 refine PF.of_wp (c:=_) af (by decide) (fn:=f54) rfl rfl rfl (.cons (aK.an _) .nil) (call:=aH [fa]) (λB0=>az ae [fa] B0) ?_;intro B0;conv=>whnf
 refine df [fa] 0 fa n aB (aC ?_);exact ak.pure .int
def lR:Cn prog:= .mU aK (au .i64) 54 true (λ_=>True) (λq=>q.1.sign) (de _) (λq _=>YK q.1 q.2) (aw rfl rfl)
theorem YL (n:Int) (h1:-9223372036854775808<=n) (h2:n<9223372036854775808):dQ 49 (.cons ((au .i64).v n) .nil) (aK.v (n,0)):=by
 refine PF.of_wp (c:=_) af (by decide) (fn:=f49) rfl rfl rfl (.cons .int .nil) (call:=aH [iP]) (λB0=>az ae [iP] B0) ?_;intro B0;conv=>whnf
 refine df [iP] 0 iP n ⟨h1,h2⟩ (eD ?_);exact ak.agg (.cons (ak.pure .bool) (.cons (ak.pure (aM.an _)) (.cons (ak.pure .bool) (.cons ak.bt .nil))))
def jZ:Cn prog:= .mU (au .i64) aK 49 false (λn=> -9223372036854775808<=n/\n<9223372036854775808) (λn=>(n,0)) (λe=>by cases e) (λn h=>YL n h.1 h.2) (aw rfl rfl)
def tP:List (Cn prog):=[fa,sO,qN,zx,gB,iZ]
def dv (n d:Int):Q:=if d<0 then(lA (-n) (Nat.gcd n.natAbs d.natAbs:Nat),lA (-d) (Nat.gcd n.natAbs d.natAbs:Nat))else(lA n (Nat.gcd n.natAbs d.natAbs:Nat),lA d (Nat.gcd n.natAbs d.natAbs:Nat))
def pM (n d:Int):Prop:=SZ n/\SZ d/\d≠0
theorem xR (n:Int):lA n 1=n:=by
 unfold lA;rw [if_neg (by decide)];exact Int.fdiv_one n
theorem Ee {n:Int} (h:SZ n):SZ (-n):=by unfold SZ at h ⊢;rw [Int.natAbs_neg];exact h
theorem Qk (n d:Int) (h:pM n d):dQ 95 (.cons (aR.v n) (.cons (aR.v d) .nil)) (aK.v (dv n d)):=by
 obtain⟨hn,hd,h0⟩:=h;refine PF.of_wp (c:=_) af (by decide) (fn:=f95) rfl rfl rfl (.cons (aR.an _) (.cons (aR.an _) .nil)) (call:=aH tP) (λB0=>az ae tP B0) ?_;intro B0;have hgl:Nat.gcd n.natAbs d.natAbs<=d.natAbs:=Nat.gcd_le_right _ (by omega);have hg0:0<Nat.gcd n.natAbs d.natAbs:=Nat.gcd_pos_of_pos_right _ (by omega);unfold dv;generalize hgg:Nat.gcd n.natAbs d.natAbs=g at*;have hgs:SZ (g:Int):=by
  unfold SZ at hd ⊢;rw [show(g:Int).natAbs=g from rfl];exact Nat.lt_of_le_of_lt (px hgl) hd
 conv=>whnf
 refine df tP 0 fa d aB (eD ?_);refine ay (λh=>?_) (λh=>?_)
 .have cR:d<0:=by
   have h:=aO.1 h;exact Int.sign_neg_iff.1 h
  have hg:xf (-n) (-d):=⟨Ee hn,Ee hd⟩
  have Yv:zu (-n) (g:Int):=⟨Ee hn,hgs⟩
  have hd2:zu (-d) (g:Int):=⟨Ee hd,hgs⟩
  have Ef:Nat.gcd (-n).natAbs (-d).natAbs=g:=by rw [Int.natAbs_neg,Int.natAbs_neg];exact hgg
  rw [if_pos cR,<-Ef];conv=>whnf
  refine df tP 1 sO n aB (eD ?_);refine df tP 1 sO d aB (eD ?_);refine df tP 2 qN (-n,-d) hg (eD ?_);refine df tP 3 zx () aB (eD ?_);refine df tP 4 gB (((Nat.gcd (-n).natAbs (-d).natAbs:Nat):Int),(1:Int)) (by show SZ ((Nat.gcd (-n).natAbs (-d).natAbs:Nat):Int)/\SZ 1;rw [Ef];exact⟨hgs,zw⟩) (eD ?_);refine ay (λh1=>?_) (λh1=>?_)
  .conv=>whnf
   refine df tP 5 iZ (-n,((Nat.gcd (-n).natAbs (-d).natAbs:Nat):Int)) (by show zu (-n) ((Nat.gcd (-n).natAbs (-d).natAbs:Nat):Int);rw [Ef];exact Yv) (eD ?_);refine df tP 5 iZ (-d,((Nat.gcd (-n).natAbs (-d).natAbs:Nat):Int)) (by show zu (-d) ((Nat.gcd (-n).natAbs (-d).natAbs:Nat):Int);rw [Ef];exact hd2) (eD ?_);exact ak.same rfl (aK.an _)
  .have hg1:((Nat.gcd (-n).natAbs (-d).natAbs:Nat):Int)=1:=by
    have h1:eM ((Nat.gcd (-n).natAbs (-d).natAbs:Nat):Int) 1=0:=zc.1 h1;unfold eM at h1;split at h1
    .omega
    .split at h1<;>omega
   rw [hg1,xR,xR];refine eD ?_;exact ak.same rfl (aK.an _)
 .have RT:¬d<0:=λcR=>by
   have h:=aX.1 h;have:=Int.sign_neg_iff.2 cR;omega
  have Ef:Nat.gcd n.natAbs d.natAbs=g:=hgg;have hg:xf n d:=⟨hn,hd⟩
  have Yv:zu n (g:Int):=⟨hn,hgs⟩
  have hd2:zu d (g:Int):=⟨hd,hgs⟩
  rw [if_neg RT,<-Ef];conv=>whnf
  refine df tP 2 qN (n,d) hg (eD ?_);refine df tP 3 zx () aB (eD ?_);refine df tP 4 gB (((Nat.gcd n.natAbs d.natAbs:Nat):Int),(1:Int)) (by show SZ ((Nat.gcd n.natAbs d.natAbs:Nat):Int)/\SZ 1;rw [Ef];exact⟨hgs,zw⟩) (eD ?_);refine ay (λh1=>?_) (λh1=>?_)
  .conv=>whnf
   refine df tP 5 iZ (n,((Nat.gcd n.natAbs d.natAbs:Nat):Int)) (by show zu (n) ((Nat.gcd n.natAbs d.natAbs:Nat):Int);rw [Ef];exact Yv) (eD ?_);refine df tP 5 iZ (d,((Nat.gcd n.natAbs d.natAbs:Nat):Int)) (by show zu (d) ((Nat.gcd n.natAbs d.natAbs:Nat):Int);rw [Ef];exact hd2) (eD ?_);exact ak.same rfl (aK.an _)
  .have hg1:((Nat.gcd n.natAbs d.natAbs:Nat):Int)=1:=by
    have h1:eM ((Nat.gcd n.natAbs d.natAbs:Nat):Int) 1=0:=zc.1 h1;unfold eM at h1;split at h1
    .omega
    .split at h1<;>omega
   rw [hg1,xR,xR];refine eD ?_;exact ak.same rfl (aK.an _)
def fG:Cn prog:= .kP aR aR aK 95 false pM dv (λe=>by cases e) Qk (aw rfl rfl)
theorem SH.sz {z:Int} (h:SH z):SZ z:=by unfold SH at h;unfold SZ;omega
theorem Cd {n d:Int} (h:SH d):SH (Q.dn (n,d)):=by
 unfold Q.dn;split
 .unfold SH;decide
 .exact h
theorem ac8 (a b:Nat):nd (a*b)<=nd a+nd b:=by
 apply xa;rw [Nat.pow_add];exact Nat.mul_lt_mul'' (dV a) (dV b)
theorem qO {a b:Int} (ha:SH a) (hb:SH b):SZ (a*b):=by
 unfold SH at ha hb;unfold SZ;rw [Int.natAbs_mul];have:=ac8 a.natAbs b.natAbs;omega
def Q.neg (p:Q):Q:=(-p.1,p.2)
theorem ac9 (n d:Int):dQ 235 (.cons (aK.v (n,d)) .nil) (aK.v (Q.neg (n,d))):=by
 refine PF.of_wp (c:=_) af (by decide) (fn:=f235) rfl rfl rfl (.cons (aK.an _) .nil) (call:=aH [sO]) (λB0=>az ae [sO] B0) ?_;intro B0;conv=>whnf
 refine df [sO] 0 sO n aB (eD ?_);exact ak.same rfl (aK.an _)
def Kp:Cn prog:= .mU aK aK 235 false (λ_=>True) Q.neg (λe=>by cases e) (λq _=>ac9 q.1 q.2) (aw rfl rfl)
def OK2 (R:Q ->Q ->Prop) (p q:Q):Prop:=SH p.1/\SH p.2/\SH q.1/\SH q.2/\R p q
def tQ:List (Cn prog):=[ji,gB,fg,fR]
def Q.cmp (p q:Q):Int:=if (Q.whole p &&Q.whole q)=true then eM p.1 q.1 else eM (p.1*Q.dn q) (q.1*Q.dn p)
def dt:Q ->Q ->Prop:=OK2 λ_ _=>True
theorem Kq (p q:Q) (h:dt p q):dQ 55 (.cons (aK.v p) (.cons (aK.v q) .nil)) ((au .i64).v (Q.cmp p q)):=by
 obtain⟨n,d⟩:=p;obtain⟨m,e⟩:=q;obtain⟨hn,hd,hm,he,hr⟩:=h;have Ix:SH (Q.dn (n,d)):=Cd hd;have BV:SH (Q.dn (m,e)):=Cd he;refine PF.of_wp (c:=_) af (by decide) (fn:=f55) rfl rfl rfl (.cons (aK.an _) (.cons (aK.an _) .nil)) (call:=aH tQ) (λB0=>az ae tQ B0) ?_;intro B0;conv=>whnf
 refine df tQ 0 ji (n,d) (SH.sz hd) (eD ?_);refine ay (λh1=>?_) (λh1=>?_)
 .have h1:Q.whole (n,d)=true:=h1;conv=>whnf
  refine df tQ 0 ji (m,e) (SH.sz he) (eD ?_);refine ay (λh2=>?_) (λh2=>?_)
  .have h2:Q.whole (m,e)=true:=h2;rw [show Q.cmp (n,d) (m,e)=_ from if_pos (by rw [h1,h2];rfl)];refine eD ?_;refine df tQ 1 gB (n,m) ⟨SH.sz hn,SH.sz hm⟩ (eD ?_);exact ak.pure .int
  .have h2:Q.whole (m,e)=false:=h2;have hw:(Q.whole (n,d) &&Q.whole (m,e))=false:=(by rw [h2,Bool.and_false]);rw [show Q.cmp (n,d) (m,e)=_ from if_neg (by rw [hw];decide)];refine eD ?_;refine df tQ 2 fg (m,e) aB (eD ?_);refine df tQ 3 fR (n,Q.dn (m,e)) ⟨hn,BV⟩ (eD ?_);refine df tQ 2 fg (n,d) aB (eD ?_);refine df tQ 3 fR (m,Q.dn (n,d)) ⟨hm,Ix⟩ (eD ?_);refine df tQ 1 gB (n*Q.dn (m,e),m*Q.dn (n,d)) ⟨qO hn BV,qO hm Ix⟩ (eD ?_);exact ak.pure .int
 .have h1:Q.whole (n,d)=false:=h1;have hw:(Q.whole (n,d) &&Q.whole (m,e))=false:=by rw [h1,Bool.false_and]
  rw [show Q.cmp (n,d) (m,e)=_ from if_neg (by rw [hw];decide)];refine eD ?_;refine df tQ 2 fg (m,e) aB (eD ?_);refine df tQ 3 fR (n,Q.dn (m,e)) ⟨hn,BV⟩ (eD ?_);refine df tQ 2 fg (n,d) aB (eD ?_);refine df tQ 3 fR (m,Q.dn (n,d)) ⟨hm,Ix⟩ (eD ?_);refine df tQ 1 gB (n*Q.dn (m,e),m*Q.dn (n,d)) ⟨qO hn BV,qO hm Ix⟩ (eD ?_);exact ak.pure .int
def ch:Cn prog:= .kP aK aK (au .i64) 55 true dt Q.cmp (de _) Kq (aw rfl rfl)
def im:List (Cn prog):=[ji,sP,fg,fR,fG]
def Q.add (p q:Q):Q:=if (Q.whole p &&Q.whole q)=true then(p.1+q.1,0)else dv (p.1*Q.dn q+q.1*Q.dn p) (Q.dn p*Q.dn q)
def oD:Q ->Q ->Prop:=OK2 λp q=>(Q.whole p &&Q.whole q)=false ->pM (p.1*Q.dn q+q.1*Q.dn p) (Q.dn p*Q.dn q)
theorem TH (p q:Q) (h:oD p q):dQ 50 (.cons (aK.v p) (.cons (aK.v q) .nil)) (aK.v (Q.add p q)):=by
 obtain⟨n,d⟩:=p;obtain⟨m,e⟩:=q;obtain⟨hn,hd,hm,he,hr⟩:=h;have Ix:SH (Q.dn (n,d)):=Cd hd;have BV:SH (Q.dn (m,e)):=Cd he;refine PF.of_wp (c:=_) af (by decide) (fn:=f50) rfl rfl rfl (.cons (aK.an _) (.cons (aK.an _) .nil)) (call:=aH im) (λB0=>az ae im B0) ?_;intro B0;conv=>whnf
 refine df im 0 ji (n,d) (SH.sz hd) (eD ?_);refine ay (λh1=>?_) (λh1=>?_)
 .have h1:Q.whole (n,d)=true:=h1;conv=>whnf
  refine df im 0 ji (m,e) (SH.sz he) (eD ?_);refine ay (λh2=>?_) (λh2=>?_)
  .have h2:Q.whole (m,e)=true:=h2;rw [show Q.add (n,d) (m,e)=_ from if_pos (by rw [h1,h2];rfl)];refine eD ?_;refine df im 1 sP (n,m) ⟨SH.sz hn,SH.sz hm⟩ (eD ?_);exact ak.agg (.cons (ak.pure .bool) (.cons (ak.pure (aM.an _)) (.cons (ak.pure .bool) (.cons ak.bt .nil))))
  .have h2:Q.whole (m,e)=false:=h2;have hw:(Q.whole (n,d) &&Q.whole (m,e))=false:=(by rw [h2,Bool.and_false]);rw [show Q.add (n,d) (m,e)=_ from if_neg (by rw [hw];decide)];refine eD ?_;refine df im 2 fg (m,e) aB (eD ?_);refine df im 3 fR (n,Q.dn (m,e)) ⟨hn,BV⟩ (eD ?_);refine df im 2 fg (n,d) aB (eD ?_);refine df im 3 fR (m,Q.dn (n,d)) ⟨hm,Ix⟩ (eD ?_);refine df im 1 sP (n*Q.dn (m,e),m*Q.dn (n,d)) ⟨qO hn BV,qO hm Ix⟩ (eD ?_);refine df im 2 fg (n,d) aB (eD ?_);refine df im 2 fg (m,e) aB (eD ?_);refine df im 3 fR (Q.dn (n,d),Q.dn (m,e)) ⟨Ix,BV⟩ (eD ?_);refine df im 4 fG (n*Q.dn (m,e)+m*Q.dn (n,d),Q.dn (n,d)*Q.dn (m,e)) (hr hw) (eD ?_);exact ak.same rfl (aK.an _)
 .have h1:Q.whole (n,d)=false:=h1;have hw:(Q.whole (n,d) &&Q.whole (m,e))=false:=by rw [h1,Bool.false_and]
  rw [show Q.add (n,d) (m,e)=_ from if_neg (by rw [hw];decide)];refine eD ?_;refine df im 2 fg (m,e) aB (eD ?_);refine df im 3 fR (n,Q.dn (m,e)) ⟨hn,BV⟩ (eD ?_);refine df im 2 fg (n,d) aB (eD ?_);refine df im 3 fR (m,Q.dn (n,d)) ⟨hm,Ix⟩ (eD ?_);refine df im 1 sP (n*Q.dn (m,e),m*Q.dn (n,d)) ⟨qO hn BV,qO hm Ix⟩ (eD ?_);refine df im 2 fg (n,d) aB (eD ?_);refine df im 2 fg (m,e) aB (eD ?_);refine df im 3 fR (Q.dn (n,d),Q.dn (m,e)) ⟨Ix,BV⟩ (eD ?_);refine df im 4 fG (n*Q.dn (m,e)+m*Q.dn (n,d),Q.dn (n,d)*Q.dn (m,e)) (hr hw) (eD ?_);exact ak.same rfl (aK.an _)
def tR:Cn prog:= .kP aK aK aK 50 false oD Q.add (λe=>by cases e) TH (aw rfl rfl)
def mG:List (Cn prog):=[ji,fg,fR,fG]
def Q.mul (p q:Q):Q:=if (Q.whole p &&Q.whole q)=true then(p.1*q.1,0)else dv (p.1*q.1) (Q.dn p*Q.dn q)
def oE:Q ->Q ->Prop:=OK2 λp q=>(Q.whole p &&Q.whole q)=false ->pM (p.1*q.1) (Q.dn p*Q.dn q)
theorem TI (p q:Q) (h:oE p q):dQ 149 (.cons (aK.v p) (.cons (aK.v q) .nil)) (aK.v (Q.mul p q)):=by
 obtain⟨n,d⟩:=p;obtain⟨m,e⟩:=q;obtain⟨hn,hd,hm,he,hr⟩:=h;have Ix:SH (Q.dn (n,d)):=Cd hd;have BV:SH (Q.dn (m,e)):=Cd he;refine PF.of_wp (c:=_) af (by decide) (fn:=f149) rfl rfl rfl (.cons (aK.an _) (.cons (aK.an _) .nil)) (call:=aH mG) (λB0=>az ae mG B0) ?_;intro B0;conv=>whnf
 refine df mG 0 ji (n,d) (SH.sz hd) (eD ?_);refine ay (λh1=>?_) (λh1=>?_)
 .have h1:Q.whole (n,d)=true:=h1;conv=>whnf
  refine df mG 0 ji (m,e) (SH.sz he) (eD ?_);refine ay (λh2=>?_) (λh2=>?_)
  .have h2:Q.whole (m,e)=true:=h2;rw [show Q.mul (n,d) (m,e)=_ from if_pos (by rw [h1,h2];rfl)];refine eD ?_;refine df mG 2 fR (n,m) ⟨hn,hm⟩ (eD ?_);exact ak.agg (.cons (ak.pure .bool) (.cons (ak.pure (aM.an _)) (.cons (ak.pure .bool) (.cons ak.bt .nil))))
  .have h2:Q.whole (m,e)=false:=h2;have hw:(Q.whole (n,d) &&Q.whole (m,e))=false:=(by rw [h2,Bool.and_false]);rw [show Q.mul (n,d) (m,e)=_ from if_neg (by rw [hw];decide)];refine eD ?_;refine df mG 2 fR (n,m) ⟨hn,hm⟩ (eD ?_);refine df mG 1 fg (n,d) aB (eD ?_);refine df mG 1 fg (m,e) aB (eD ?_);refine df mG 2 fR (Q.dn (n,d),Q.dn (m,e)) ⟨Ix,BV⟩ (eD ?_);refine df mG 3 fG (n*m,Q.dn (n,d)*Q.dn (m,e)) (hr hw) (eD ?_);exact ak.same rfl (aK.an _)
 .have h1:Q.whole (n,d)=false:=h1;have hw:(Q.whole (n,d) &&Q.whole (m,e))=false:=by rw [h1,Bool.false_and]
  rw [show Q.mul (n,d) (m,e)=_ from if_neg (by rw [hw];decide)];refine eD ?_;refine df mG 2 fR (n,m) ⟨hn,hm⟩ (eD ?_);refine df mG 1 fg (n,d) aB (eD ?_);refine df mG 1 fg (m,e) aB (eD ?_);refine df mG 2 fR (Q.dn (n,d),Q.dn (m,e)) ⟨Ix,BV⟩ (eD ?_);refine df mG 3 fG (n*m,Q.dn (n,d)*Q.dn (m,e)) (hr hw) (eD ?_);exact ak.same rfl (aK.an _)
def nR:Cn prog:= .kP aK aK aK 149 false oE Q.mul (λe=>by cases e) TI (aw rfl rfl)
abbrev Q3:=Q×Q×Q
def aQ:bW Q3:=aK.pair (aK.pair aK)
theorem ada (g:FuncId) (op:Q ->Q ->Q) (ok:Q ->Q ->Prop) (pf:∀p q,ok p q ->dQ g (.cons (aK.v p) (.cons (aK.v q) .nil)) (aK.v (op p q))) (bd:∃fn,prog.funcs[g]?=some fn/\fn.body.isSome=true)
  (a b:Q3) (h0:ok a.1 b.1) (h1:ok a.2.1 b.2.1) (h2:ok a.2.2 b.2.2):
  dQ 147 (.cons (aQ.v a) (.cons (aQ.v b) (.cons (.func (.func g) .nil .nil) .nil))) (aQ.v (op a.1 b.1,op a.2.1 b.2.1,op a.2.2 b.2.2)):=by
 obtain⟨⟨x0,y0⟩,⟨x1,y1⟩,⟨x2,y2⟩⟩:=a;obtain⟨⟨u0,v0⟩,⟨u1,v1⟩,⟨u2,v2⟩⟩:=b;refine PF.of_wp (c:=_) af (by decide) (fn:=f147) rfl rfl rfl (.cons (aQ.an _) (.cons (aQ.an _) (.cons .fn .nil))) (call:=aH [Cn.kP aK aK aK g false ok op (λe=>by cases e) pf bd]) (λB0=>az ae _ B0) ?_;intro B0;conv=>whnf
 refine Cw.bH af rfl rfl (az ae _ B0) 4 (aC ?_);refine bA (l:=[Cn.kP aK aK aK g false ok op (λe=>by cases e) pf bd]) (List.nodup_cons.2 ⟨List.not_mem_nil,List.nodup_nil⟩) 0 (c:=Cn.kP aK aK aK g false ok op (λe=>by cases e) pf bd) rfl ((x0,y0),(u0,v0)) h0 ?_ ?_ ?_
 .exact oR
 .rfl
 refine eD ?_;refine bA (l:=[Cn.kP aK aK aK g false ok op (λe=>by cases e) pf bd]) (List.nodup_cons.2 ⟨List.not_mem_nil,List.nodup_nil⟩) 0 (c:=Cn.kP aK aK aK g false ok op (λe=>by cases e) pf bd) rfl ((x1,y1),(u1,v1)) h1 ?_ ?_ ?_
 .exact oR
 .rfl
 refine eD ?_;refine bA (l:=[Cn.kP aK aK aK g false ok op (λe=>by cases e) pf bd]) (List.nodup_cons.2 ⟨List.not_mem_nil,List.nodup_nil⟩) 0 (c:=Cn.kP aK aK aK g false ok op (λe=>by cases e) pf bd) rfl ((x2,y2),(u2,v2)) h2 ?_ ?_ ?_
 .exact oR
 .rfl
 refine eD ?_;exact ak.same rfl (aQ.an (op (x0,y0) (u0,v0),op (x1,y1) (u1,v1),op (x2,y2) (u2,v2)))
def Kr (g:FuncId) (op:Q ->Q ->Q) (ok:Q ->Q ->Prop) (pf:∀p q,ok p q ->dQ g (.cons (aK.v p) (.cons (aK.v q) .nil)) (aK.v (op p q))) (bd:∃fn,prog.funcs[g]?=some fn/\fn.body.isSome=true):Cn prog:=
 Cn.mk 147 false (Q3×Q3) (λp=> .cons (aQ.v p.1) (.cons (aQ.v p.2) (.cons (.func (.func g) .nil .nil) .nil))) (λp=>aQ.v (op p.1.1 p.2.1,op p.1.2.1 p.2.2.1,op p.1.2.2 p.2.2.2))
  (λp=>ok p.1.1 p.2.1/\ok p.1.2.1 p.2.2.1/\ok p.1.2.2 p.2.2.2)
  (λa b _ _ h=>by
   injection h with h1 h2;injection h2 with h2 _;rw [aQ.bO h1,aQ.bO h2])
  (λa=>⟨aQ.jm _,aQ.jm _,⟨aB,aB⟩,aB⟩) (λa=>aQ.an _) (λh=>by cases h) (λp h=>ada g op ok pf bd p.1 p.2 h.1 h.2.1 h.2.2) (aw rfl rfl)
def jC (op:Q ->Q ->Q) (a b:Q3):Q3:=(op a.1 b.1,op a.2.1 b.2.1,op a.2.2 b.2.2)
def rP (ok:Q ->Q ->Prop) (a b:Q3):Prop:=ok a.1 b.1/\ok a.2.1 b.2.1/\ok a.2.2 b.2.2
def tVC:List (Cn prog):=[ch]
def dH (a b:Q3):Int:=match bD (Q.cmp a.1 b.1) 0 with|false=>Q.cmp a.1 b.1|true=>(match bD (Q.cmp a.2.1 b.2.1) 0 with|false=>Q.cmp a.2.1 b.2.1|true=>Q.cmp a.2.2 b.2.2)
theorem Ks {b:Bool} (h:aY b=true):b=false:=by cases b<;>first|rfl|cases h
theorem Kt {b:Bool} (h:aY b=false):b=true:=by cases b<;>first|rfl|cases h
theorem Ku (a b:Q3) (h:rP dt a b):dQ 142 (.cons (aQ.v a) (.cons (aQ.v b) .nil)) ((au .i64).v (dH a b)):=by
 obtain⟨⟨x0,y0⟩,⟨x1,y1⟩,⟨x2,y2⟩⟩:=a;obtain⟨⟨u0,v0⟩,⟨u1,v1⟩,⟨u2,v2⟩⟩:=b;obtain⟨h0,h1,h2⟩:=h;refine PF.of_wp (c:=_) af (by decide) (fn:=f142) rfl rfl rfl (.cons (aQ.an _) (.cons (aQ.an _) .nil)) (call:=aH tVC) (λB0=>az ae _ B0) ?_;intro B0;conv=>whnf
 refine Cw.bH af rfl rfl (az ae _ B0) 4 (aC ?_);refine df tVC 0 ch ((x0,y0),(u0,v0)) h0 (eD ?_);refine ay (λhq=>?_) (λhq=>?_)
 .have e0:bD (Q.cmp (x0,y0) (u0,v0)) 0=false:=Ks hq;have ev:dH ((x0,y0),(x1,y1),(x2,y2)) ((u0,v0),(u1,v1),(u2,v2))=Q.cmp (x0,y0) (u0,v0):=by simp only [dH,e0]
  rw [ev];conv=>whnf
  exact ak.same rfl cN.int
 have e0:bD (Q.cmp (x0,y0) (u0,v0)) 0=true:=Kt hq;conv=>whnf
 refine df tVC 0 ch ((x1,y1),(u1,v1)) h1 (eD ?_);refine ay (λhq=>?_) (λhq=>?_)
 .have e1:bD (Q.cmp (x1,y1) (u1,v1)) 0=false:=Ks hq;have ev:dH ((x0,y0),(x1,y1),(x2,y2)) ((u0,v0),(u1,v1),(u2,v2))=Q.cmp (x1,y1) (u1,v1):=by simp only [dH,e0,e1]
  rw [ev];conv=>whnf
  exact ak.same rfl cN.int
 have e1:bD (Q.cmp (x1,y1) (u1,v1)) 0=true:=Kt hq;conv=>whnf
 refine df tVC 0 ch ((x2,y2),(u2,v2)) h2 (eD ?_);refine ay (λhq=>?_) (λhq=>?_)
 .have e2:bD (Q.cmp (x2,y2) (u2,v2)) 0=false:=Ks hq;have ev:dH ((x0,y0),(x1,y1),(x2,y2)) ((u0,v0),(u1,v1),(u2,v2))=Q.cmp (x2,y2) (u2,v2):=by simp only [dH,e0,e1]
  rw [ev];conv=>whnf
  exact ak.same rfl cN.int
 have e2:bD (Q.cmp (x2,y2) (u2,v2)) 0=true:=Kt hq;conv=>whnf
 have ev:dH ((x0,y0),(x1,y1),(x2,y2)) ((u0,v0),(u1,v1),(u2,v2))=0:=by simp only [dH,e0,e1];exact bh.1 e2
 rw [ev];exact ak.same rfl cN.int
def TJ:List (Cn prog):=[Kp,tR]
def Q.sub (p q:Q):Q:=Q.add p (Q.neg q)
def kq (p q:Q):Prop:=oD p (Q.neg q)
theorem TK (p q:Q) (h:kq p q):dQ 176 (.cons (aK.v p) (.cons (aK.v q) .nil)) (aK.v (Q.sub p q)):=by
 obtain⟨n,d⟩:=p;obtain⟨m,e⟩:=q;refine PF.of_wp (c:=_) af (by decide) (fn:=f176) rfl rfl rfl (.cons (aK.an _) (.cons (aK.an _) .nil)) (call:=aH TJ) (λB0=>az ae _ B0) ?_;intro B0;conv=>whnf
 refine df TJ 0 Kp (m,e) aB (eD ?_);refine df TJ 1 tR ((n,d),Q.neg (m,e)) h (aC ?_);exact ak.same rfl (aK.an (Q.add (n,d) (Q.neg (m,e))))
def tS:Cn prog:= .kP aK aK aK 176 false kq Q.sub (λe=>by cases e) TK (aw rfl rfl)
def wk:Cn prog:=Kr 50 Q.add oD TH (aw rfl rfl)
def me:Cn prog:=Kr 176 Q.sub kq TK (aw rfl rfl)
def Ce:Cn prog:=Kr 149 Q.mul oE TI (aw rfl rfl)
theorem TL {h:Heap} {a b:Q3} {g:FuncId}:ij h (.cons (aQ.v a) (.cons (aQ.v b) (.cons (.func (.func g) .nil .nil) .nil))):=by
 obtain⟨⟨x0,y0⟩,⟨x1,y1⟩,⟨x2,y2⟩⟩:=a;obtain⟨⟨u0,v0⟩,⟨u1,v1⟩,⟨u2,v2⟩⟩:=b;exact⟨⟨aB,aB,aB,aB,aB,aB,aB,aB,aB,aB,aB,aB,aB⟩,⟨aB,aB,aB,aB,aB,aB,aB,aB,aB,aB,aB,aB,aB⟩,⟨aB,aB⟩,aB⟩
theorem adb (a b:Q3) (h:rP oD a b):dQ 253 (.cons (aQ.v a) (.cons (aQ.v b) .nil)) (aQ.v (jC Q.add a b)):=by
 obtain⟨⟨x0,y0⟩,⟨x1,y1⟩,⟨x2,y2⟩⟩:=a;obtain⟨⟨u0,v0⟩,⟨u1,v1⟩,⟨u2,v2⟩⟩:=b;refine PF.of_wp (c:=_) af (by decide) (fn:=f253) rfl rfl rfl (.cons (aQ.an _) (.cons (aQ.an _) .nil)) (call:=aH [wk]) (λB0=>az ae _ B0) ?_;intro B0;conv=>whnf
 refine bA (l:=[wk]) (List.nodup_cons.2 ⟨List.not_mem_nil,List.nodup_nil⟩) 0 (c:=wk) rfl (((x0,y0),(x1,y1),(x2,y2)),((u0,v0),(u1,v1),(u2,v2))) h TL rfl (aC ?_);exact ak.same rfl (aQ.an (jC Q.add ((x0,y0),(x1,y1),(x2,y2)) ((u0,v0),(u1,v1),(u2,v2))))
theorem ade (a b:Q3) (h:rP kq a b):dQ 231 (.cons (aQ.v a) (.cons (aQ.v b) .nil)) (aQ.v (jC Q.sub a b)):=by
 obtain⟨⟨x0,y0⟩,⟨x1,y1⟩,⟨x2,y2⟩⟩:=a;obtain⟨⟨u0,v0⟩,⟨u1,v1⟩,⟨u2,v2⟩⟩:=b;refine PF.of_wp (c:=_) af (by decide) (fn:=f231) rfl rfl rfl (.cons (aQ.an _) (.cons (aQ.an _) .nil)) (call:=aH [me]) (λB0=>az ae _ B0) ?_;intro B0;conv=>whnf
 refine bA (l:=[me]) (List.nodup_cons.2 ⟨List.not_mem_nil,List.nodup_nil⟩) 0 (c:=me) rfl (((x0,y0),(x1,y1),(x2,y2)),((u0,v0),(u1,v1),(u2,v2))) h TL rfl (aC ?_);exact ak.same rfl (aQ.an (jC Q.sub ((x0,y0),(x1,y1),(x2,y2)) ((u0,v0),(u1,v1),(u2,v2))))
def z3:Q3:=((0,0),(0,0),(0,0))
theorem adf (a:Q3) (h:rP kq z3 a):dQ 169 (.cons (aQ.v a) .nil) (aQ.v (jC Q.sub z3 a)):=by
 obtain⟨⟨x0,y0⟩,⟨x1,y1⟩,⟨x2,y2⟩⟩:=a;refine PF.of_wp (c:=_) af (by decide) (fn:=f169) rfl rfl rfl (.cons (aQ.an _) .nil) (call:=aH [me]) (λB0=>az ae _ B0) ?_;intro B0;conv=>whnf
 refine bA (l:=[me]) (List.nodup_cons.2 ⟨List.not_mem_nil,List.nodup_nil⟩) 0 (c:=me) rfl (z3,((x0,y0),(x1,y1),(x2,y2))) h ?_ ?_ ?_
 .repeat' first|exact aB|exact rfl|refine⟨?_,?_⟩
 .rfl
 conv=>whnf
 exact ak.same rfl (aQ.an (jC Q.sub z3 ((x0,y0),(x1,y1),(x2,y2))))
def Kv:Cn prog:= .kP aQ aQ aQ 253 false (rP oD) (jC Q.add) (λe=>by cases e) adb (aw rfl rfl)
def Kw:Cn prog:= .kP aQ aQ aQ 231 false (rP kq) (jC Q.sub) (λe=>by cases e) ade (aw rfl rfl)
def tT:Cn prog:= .mU aQ aQ 169 false (λa=>rP kq z3 a) (λa=>jC Q.sub z3 a) (λe=>by cases e) adf (aw rfl rfl)
def fb:Cn prog:= .kP aQ aQ (au .i64) 142 true (rP dt) dH (de _) Ku (aw rfl rfl)
def nS:List (Cn prog):=[nR,tS]
def Eg (p q r s:Q):Q:=Q.sub (Q.mul p q) (Q.mul r s)
def TM (p q r s:Q):Prop:=oE p q/\oE r s/\kq (Q.mul p q) (Q.mul r s)
def aG (a b:Q3):Q3:=(Eg a.2.1 b.2.2 a.2.2 b.2.1,Eg a.2.2 b.1 a.1 b.2.2,Eg a.1 b.2.1 a.2.1 b.1)
def pA (a b:Q3):Prop:=TM a.2.1 b.2.2 a.2.2 b.2.1/\TM a.2.2 b.1 a.1 b.2.2/\TM a.1 b.2.1 a.2.1 b.1
set_option maxHeartbeats 0 in
theorem TN (a b:Q3) (h:pA a b):dQ 172 (.cons (aQ.v a) (.cons (aQ.v b) .nil)) (aQ.v (aG a b)):=by
 obtain⟨⟨x0,y0⟩,⟨x1,y1⟩,⟨x2,y2⟩⟩:=a;obtain⟨⟨u0,v0⟩,⟨u1,v1⟩,⟨u2,v2⟩⟩:=b;obtain⟨h0,h1,h2⟩:=h;refine PF.of_wp (c:=_) af (by decide) (fn:=f172) rfl rfl rfl (.cons (aQ.an _) (.cons (aQ.an _) .nil)) (call:=aH nS) (λB0=>az ae _ B0) ?_;intro B0;conv=>whnf
 refine Cw.bH af rfl rfl (az ae _ B0) 4 (aC ?_);refine⟨by decide,aC ?_⟩;refine⟨by decide,aC ?_⟩;refine df nS 0 nR ((x1,y1),(u2,v2)) h0.1 (eD ?_);refine df nS 0 nR ((x2,y2),(u1,v1)) h0.2.1 (eD ?_);refine df nS 1 tS (Q.mul (x1,y1) (u2,v2),Q.mul (x2,y2) (u1,v1)) h0.2.2 (eD ?_);refine⟨by decide,aC ?_⟩;refine⟨by decide,aC ?_⟩;refine df nS 0 nR ((x2,y2),(u0,v0)) h1.1 (eD ?_);refine df nS 0 nR ((x0,y0),(u2,v2)) h1.2.1 (eD ?_);refine df nS 1 tS (Q.mul (x2,y2) (u0,v0),Q.mul (x0,y0) (u2,v2)) h1.2.2 (eD ?_);refine⟨by decide,aC ?_⟩;refine⟨by decide,aC ?_⟩;refine df nS 0 nR ((x0,y0),(u1,v1)) h2.1 (eD ?_);refine df nS 0 nR ((x1,y1),(u0,v0)) h2.2.1 (eD ?_);refine df nS 1 tS (Q.mul (x0,y0) (u1,v1),Q.mul (x1,y1) (u0,v0)) h2.2.2 (eD ?_);exact ak.same rfl (aQ.an (aG ((x0,y0),(x1,y1),(x2,y2)) ((u0,v0),(u1,v1),(u2,v2))))
def qP:Cn prog:= .kP aQ aQ aQ 172 false pA aG (λe=>by cases e) TN (aw rfl rfl)
end
section
attribute [local instance] fp
section
def adg:List Int ->List Int ->Bool:=List.rec (λm=>match m with|[]=>true|_=>false) (λx _ ih m=>match m with|y::t=>aF (bD x y) (ih t)|[]=>false)
theorem ML:∀{l m:List Int},adg l m=true ->l=m
 |[],[],_=>rfl|[],_::_,h=>by cases h
 |_::_,[],h=>by cases h
 |x::l,y::m,h=>by
  obtain⟨h1,h2⟩:=aq.1 (h:aF (bD x y) (adg l m)=true);rw [bh.1 h1,ML h2]
def aiJ:aM.Rd:=(Kf .u32).list.by (λl=>bB (adg (dg (val l)) l) (some (val l))) (λa b h=>by
 obtain⟨h1,h2⟩:=ns h;cases h2;exact ML h1)
def pV:aR.Rd:=(afx.pair aiJ).by (λp=>bB (Bool.rec (motive:=λ_=>Bool) true (aY (Nat.beq p.2 0)) p.1) (some (eV p.1 p.2))) (λa b h=>by
 obtain⟨s,m⟩:=a;obtain⟨h1,h2⟩:=ns h;cases h2;cases s with
 |false=>show(decide (((m:Nat):Int)<0),(((m:Nat):Int)).natAbs)=_;rw [decide_eq_false (by omega)];rfl|true=>
  have h1:aY (Nat.beq m 0)=true:=h1;have:m≠0:=λe=>by rw [e]at h1;cases h1
  show(decide (-((m:Nat):Int)<0),(-((m:Nat):Int)).natAbs)=_;rw [decide_eq_true (by omega),Int.natAbs_neg];rfl)
def tU:aK.Rd:=pV.pair pV
def MM (z:Int):Bool:=Nat.ble (Nat.succ (nd z.natAbs)) 134217728
def shB (z:Int):Bool:=Nat.ble (Nat.succ (nd z.natAbs)) 67108864
theorem kI {z:Int} (h:MM z=true):SZ z:=Nat.le_of_ble_eq_true h
theorem wm {z:Int} (h:shB z=true):SH z:=Nat.le_of_ble_eq_true h
def Ql (a b:Bool):Bool:=Bool.rec (motive:=λ_=>Bool) b true a
theorem TO {a b:Bool}:Ql a b=true↔a=true\/b=true:=by cases a<;>cases b<;>simp [Ql]
def adh:Dc prog:=⟨fa,zf pV,λ_=>true,λ_ _ h=>lP h,λ_ _=>trivial⟩
def afY:Dc prog:=⟨sO,zf pV,λ_=>true,λ_ _ h=>lP h,λ_ _=>trivial⟩
def Qm:Dc prog:=⟨gB,mV pV pV,λa=>aF (MM a.1) (MM a.2),λ_ _ h=>dW h,λ_ h=>⟨kI (aq.1 h).1,kI (aq.1 h).2⟩⟩
def afZ:Dc prog:=⟨sP,mV pV pV,λa=>aF (MM a.1) (MM a.2),λ_ _ h=>dW h,λ_ h=>⟨kI (aq.1 h).1,kI (aq.1 h).2⟩⟩
def af0:Dc prog:=⟨My,mV pV pV,λa=>aF (MM a.1) (MM a.2),λ_ _ h=>dW h,λ_ h=>⟨kI (aq.1 h).1,kI (aq.1 h).2⟩⟩
def af1:Dc prog:=⟨fR,mV pV pV,λa=>aF (shB a.1) (shB a.2),λ_ _ h=>dW h,λ_ h=>⟨wm (aq.1 h).1,wm (aq.1 h).2⟩⟩
def adi:Dc prog:=⟨iP,zf (Kf .i64),λn=>aF (gD (-9223372036854775808) n) (cQ n 9223372036854775808),λ_ _ h=>lP h,λ_ h=>⟨cG.1 (aq.1 h).1,aO.1 (aq.1 h).2⟩⟩
def af2:Dc prog:=⟨qN,mV pV pV,λa=>aF (MM a.1) (MM a.2),λ_ _ h=>dW h,λ_ h=>⟨kI (aq.1 h).1,kI (aq.1 h).2⟩⟩
def TP:Dc prog:=⟨iZ,mV pV pV,λa=>aF (MM a.1) (MM a.2),λ_ _ h=>dW h,λ_ h=>⟨kI (aq.1 h).1,kI (aq.1 h).2⟩⟩
def YM (n d:Int):Bool:=aF (aF (MM n) (MM d)) (aY (bD d 0))
theorem Eh {n d:Int} (h:YM n d=true):pM n d:=by
 obtain⟨h1,h2⟩:=aq.1 h;obtain⟨h3,h4⟩:=aq.1 h1;exact⟨kI h3,kI h4,xM.1 h2⟩
def Qn:Dc prog:=⟨fG,mV pV pV,λa=>YM a.1 a.2,λ_ _ h=>dW h,λ_ h=>Eh h⟩
def sh4 (p q:Q):Bool:=aF (aF (shB p.1) (shB p.2)) (aF (shB q.1) (shB q.2))
def whB (q:Q):Bool:=Ql (bD q.2 0) (bD q.2 1)
theorem adj {q:Q}:whB q=Q.whole q:=by
 unfold whB Q.whole;rw [ga,ga];by_cases h1:q.2=0
 .rw [decide_eq_true h1,decide_eq_true (Or.inl h1)];rfl
 .by_cases h2:q.2=1
  .rw [decide_eq_false h1,decide_eq_true h2,decide_eq_true (Or.inr h2)];rfl
  .rw [decide_eq_false h1,decide_eq_false h2,decide_eq_false (λh=>h.elim h1 h2)];rfl
theorem Kx {p q:Q} {R:Q ->Q ->Prop} (h:sh4 p q=true) (hr:R p q):OK2 R p q:=by
 obtain⟨h1,h2⟩:=aq.1 h;exact⟨wm (aq.1 h1).1,wm (aq.1 h1).2,wm (aq.1 h2).1,wm (aq.1 h2).2,hr⟩
theorem TQ {p q:Q} (h:sh4 p q=true):dt p q:=Kx (R:=λ_ _=>True) h trivial
def Ky:Dc prog:=⟨ch,mV tU tU,λa=>sh4 a.1 a.2,λ_ _ h=>dW h,λ_ h=>TQ h⟩
def adk:Dc prog:=⟨Kp,zf tU,λ_=>true,λ_ _ h=>lP h,λ_ _=>trivial⟩
theorem abq {p q:Q} {b:Bool} {X:Prop} (h:Ql (aF (whB p) (whB q)) b=true) (hb:b=true ->X):(Q.whole p &&Q.whole q)=false ->X:=by
 intro hw;rcases TO.1 h with h|h
 .obtain⟨h1,h2⟩:=aq.1 h;rw [adj]at h1 h2;rw [h1,h2]at hw;cases hw
 .exact hb h
def Kz (p q:Q):Bool:=aF (sh4 p q) (Ql (aF (whB p) (whB q)) (YM (p.1*Q.dn q+q.1*Q.dn p) (Q.dn p*Q.dn q)))
theorem rQ {p q:Q} (h:Kz p q=true):oD p q:=Kx (R:=λp q=>(Q.whole p &&Q.whole q)=false ->pM (p.1*Q.dn q+q.1*Q.dn p) (Q.dn p*Q.dn q)) (aq.1 h).1 (abq (aq.1 h).2 Eh)
def qQ (p q:Q):Bool:=aF (sh4 p q) (Ql (aF (whB p) (whB q)) (YM (p.1*q.1) (Q.dn p*Q.dn q)))
theorem pB {p q:Q} (h:qQ p q=true):oE p q:=Kx (R:=λp q=>(Q.whole p &&Q.whole q)=false ->pM (p.1*q.1) (Q.dn p*Q.dn q)) (aq.1 h).1 (abq (aq.1 h).2 Eh)
def adl:Dc prog:=⟨tR,mV tU tU,λa=>Kz a.1 a.2,λ_ _ h=>dW h,λ_ h=>rQ h⟩
def adm:Dc prog:=⟨nR,mV tU tU,λa=>qQ a.1 a.2,λ_ _ h=>dW h,λ_ h=>pB h⟩
def YN:Dc prog:=⟨lR,zf tU,λ_=>true,λ_ _ h=>lP h,λ_ _=>trivial⟩
def YO:Dc prog:=⟨jZ,zf (Kf .i64),λn=>aF (gD (-9223372036854775808) n) (cQ n 9223372036854775808),λ_ _ h=>lP h,λ_ h=>⟨cG.1 (aq.1 h).1,aO.1 (aq.1 h).2⟩⟩
def YP:Dc prog:=⟨ji,zf tU,λa=>MM a.2,λ_ _ h=>lP h,λ_ h=>kI h⟩
def af3:Dc prog:=⟨fg,zf tU,λ_=>true,λ_ _ h=>lP h,λ_ _=>trivial⟩
def af4:List (Dc prog):=[adh,afY,Qm,afZ,af0,af1,adi,af2,TP,Qn,Ky,adk,adl,adm,YN,YO,YP,af3]
end
section
def rV3:bL.Rd:=(Kf .i64).pair ((Kf .i64).pair (Kf .i64))
def af5:Dc prog:=⟨nu,mV rV3 rV3,λ_=>true,λ_ _ h=>dW h,λ_ _=>trivial⟩
def af6:Dc prog:=⟨vo,mV rV3 rV3,λ_=>true,λ_ _ h=>dW h,λ_ _=>trivial⟩
def YQ:Dc prog:=⟨py,mV rV3 rV3,λ_=>true,λ_ _ h=>dW h,λ_ _=>trivial⟩
def TR (a:AV):Option Nat:=match a with| .int .i64 (.ofNat n)=>some n|_=>none
theorem Ei {a:AV} {n:Nat} (h:TR a=some n):(au .i64).v (n:Int)=a:=by
 unfold TR at h;split at h
 .cases h;rfl
 .cases h
def Ej (l:AV):Option (List V3×Nat×Nat×Nat):=match l with
 | .cons a (.cons b (.cons c (.cons d .nil)))=>oB (rV3.list.v a) λx=>oB (TR b) λi=>oB (TR c) λj=>oB (TR d) λk=>some (x,i,j,k)
 |_=>none
theorem KA {l:AV} {a:List V3×Nat×Nat×Nat} (h:Ej l=some a):AV.cons (bL.list.v a.1) (.cons ((au .i64).v a.2.1) (.cons ((au .i64).v a.2.2.1) (.cons ((au .i64).v a.2.2.2) .nil)))=l:=by
 unfold Ej at h;split at h
 .obtain⟨x,h1,h⟩:=dB h;obtain⟨i,h2,h⟩:=dB h;obtain⟨j,h3,h⟩:=dB h;obtain⟨k,h4,h⟩:=dB h;cases h;rw [rV3.list.Yd h1,Ei h2,Ei h3,Ei h4]
 .cases h
def ltN (a b:Nat):Bool:=Nat.ble (Nat.succ a) b
def adn:Dc prog:=⟨Ko,Ej,λa=>aF (Nat.ble a.1.length 4294967296) (aF (ltN a.2.1 a.1.length) (aF (ltN a.2.2.1 a.1.length) (ltN a.2.2.2 a.1.length))),λ_ _ h=>KA h,λ_ h=>by
 obtain⟨h1,h⟩:=aq.1 h;obtain⟨h2,h⟩:=aq.1 h;obtain⟨h3,h4⟩:=aq.1 h;exact⟨Nat.le_of_ble_eq_true h1,Nat.le_of_ble_eq_true h2,Nat.le_of_ble_eq_true h3,Nat.le_of_ble_eq_true h4⟩⟩
def ado:List (Dc prog):=[af5,af6,YQ,adn]
end
end
end
end Go.Sy
namespace Go.Sy
noncomputable section
open Go.RowKit Go.Proofs Go.Proofs.Tryz
section
variable [aT]
variable {P:Program} {B0:Nat}
theorem HR.af7 {μ:Mu} {h:Heap} {w:World} (hr:HR μ B0 h w) (t:Tr AO) (n':Pos) (hn:h.n.toNat<=n'.toNat)
  (key:∀q p,t.get q=some p ->∃o,h.t.get q=some o/\(∀B,AB μ w.heap B o ->AB μ w.heap B p)/\o.uC=p.uC/\∀B,o.cU B ->p.cU B):HR μ B0 ⟨t,n'⟩ w:=by
 refine⟨λid B e=>Nat.lt_of_lt_of_le (hr.fresh id B e) hn,λid o e=>?_,λid B p e1 e2=>?_,λi j A B o p pQ e1 e2 e3 e4=>?_,λid B p e1 e2 e3=>?_,hr.dO,hr.size,hr.Ar,λid B p e1 e2 e3=>?_,hr.tab⟩
 .obtain⟨o',h1,_⟩:=key id o e;exact Nat.lt_of_lt_of_le (hr.live id o' h1) hn
 .obtain⟨o',h1,h2,_⟩:=key id p e2;exact h2 B (hr.obj id B o' e1 h1)
 .obtain⟨o',h1,_,_,h4⟩:=key i o e3;obtain⟨p',g1,_,_,g4⟩:=key j p e4;rcases hr.sep i j A B o' p' pQ e1 e2 h1 g1 with h|h|h
  .exact .inl h
  .exact .inr (.inl (h4 A h))
  .exact .inr (.inr (g4 B h))
 .obtain⟨o',h1,_,h3,h4⟩:=key id p e2;exact(hr.own id B o' e1 h1 (h3.trans e3)).imp (h4 B) (λx=>x)
 .obtain⟨o',h1,_,h3,h4⟩:=key id p e2;exact(hr.apart id B o' e1 h1 (h3.trans e3)).imp (h4 B) (λx=>x)
section
end
end
section
variable [aT] {P:Program} {B0:Nat}
section
def GX (id:Pos) (h:Heap):Heap:=match h.t.get id with
 |some (.cells t n false)=>(match Ay t n 0 with|some l=>⟨h.t.set (.gl l false) id,h.n⟩|none=>h)
 |_=>h
def KB:AV ->Heap ->Heap
 | .cons (.ptr id _) t,h=>KB t (GX id h)| .cons _ t,h=>KB t h|_,h=>h
def Qo:AV ->Heap ->Heap
 | .cons (.slice id _ _ _ _) t,h=>Qo t (GX id h)| .cons (.func _ _ c) t,h=>Qo t (KB c h)| .cons _ t,h=>Qo t h|_,h=>h
def zA (call:eL ->AV ->Heap ->CR):eL ->AV ->Heap ->CR:=λt uZ h=>match t with| .fn f=>call (.fn f) uZ (Qo uZ h)| .rd id=>call (.rd id) uZ h
end
theorem TS (id:Pos) (h:Heap):(GX id h).n=h.n:=by
 unfold GX;split
 .split<;>rfl
 .rfl
theorem adp:∀(a:AV) (h:Heap),(KB a h).n=h.n:=by
 intro a;induction a with
 |cons x t IM oQ=>
  intro h;cases x<;>first|exact oQ h|(show(KB t (GX _ h)).n=h.n;rw [oQ,TS])
 |_=>intro h;rfl
theorem af8:∀(a:AV) (h:Heap),(Qo a h).n=h.n:=by
 intro a;induction a with
 |cons x t IM oQ=>
  intro h;cases x<;>first|exact oQ h|(show(Qo t (GX _ h)).n=h.n;rw [oQ,TS])|(show(Qo t (KB _ h)).n=h.n;rw [oQ,adp])
 |_=>intro h;rfl
theorem MN {μ:Mu} {h:Heap} {w:World} (hr:HR μ B0 h w) (id:Pos):HR μ B0 (GX id h) w:=by
 unfold GX;split
 .rename_i t n hg;split
  .rename_i l hc;refine HR.af7 hr _ h.n (Nat.le_refl _) (λq p e=>?_);rw [Tr.bE]at e;by_cases hq:q=id
   .rw [if_pos hq]at e;cases e;subst hq;refine⟨_,hg,λB hB=>?_,rfl,λB hB=>absurd hB fo⟩;obtain⟨h0,c,el,fz,h1,h2,h3,h4⟩:=hB;obtain⟨xs,h5,h6,h7⟩:=lX (f:=λk=>c[B.base+k]?) (λk v e=>(h4 k v e).2) _ hc;refine .inr ⟨xs,h5,?_,c,el,fz,h1,h2,?_,(λe=>by cases e),λj v hj=>by simpa using h7 j v hj⟩
    .omega
    .exact h3.1 rfl
   .rw [if_neg hq]at e;exact⟨p,e,λB h=>h,rfl,λB h=>h⟩
  .exact hr
 .exact hr
theorem YR {μ:Mu} {w:World}:∀(a:AV) {h:Heap},HR μ B0 h w ->HR μ B0 (KB a h) w:=by
 intro a;induction a with
 |cons x t IM oQ=>
  intro h hr;cases x<;>first|exact oQ hr|exact oQ (MN hr _)
 |_=>intro h hr;exact hr
theorem adq {μ:Mu} {w:World}:∀(a:AV) {h:Heap},HR μ B0 h w ->HR μ B0 (Qo a h) w:=by
 intro a;induction a with
 |cons x t IM oQ=>
  intro h hr;cases x<;>first|exact oQ hr|exact oQ (MN hr _)|exact oQ (YR _ hr)
 |_=>intro h hr;exact hr
theorem qR {call:eL ->AV ->Heap ->CR} (hc:aU P B0 call):aU P B0 (zA call):=by
 intro t a h v h' e μ w hr;cases t with
 |rd id=>exact hc (.rd id) a h v h' e μ w hr|fn f=>
  obtain⟨h1,h2⟩:=hc (.fn f) a (Qo a h) v h' e μ w (adq a hr);refine⟨h1,λcargs eR=>(h2 cargs eR).mono λe' w' ⟨cv,μ',g1,g2,g3⟩=>⟨cv,μ',g1,g2,?_⟩⟩;have hn:=af8 a h;exact⟨λid hid=>g3.ext id (by rw [hn];exact hid),by rw [<-hn];exact g3.le,g3.rel,g3.below,g3.dK⟩
theorem oF {l:List (Cn P)} (hl:(l.map Cn.f).Nodup) (i:Nat) {c:Cn P} (hc:l[i]?=some c) (a:c.α) (gy:c.ok a) {uZ:AV} {h:Heap} (hbor:ij (Qo uZ h) uZ) (has:c.aZs a=jk c.flat (Qo uZ h) uZ) {K:AV ->Heap ->Prop}
  (hk:K (c.v a) (match c.flat with|true=>Qo uZ h|false=>Fk (Qo uZ h) (jl uZ))):∃v h',zA (aH l) (.fn c.f) uZ h= .ret v h'/\K v h':=
 bA hl i hc a gy hbor has hk
end
end
end Go.Sy
