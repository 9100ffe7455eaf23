/- A piece of the proof, made small by a program of ours. -/
import Derived.Test.YtilmgbneiikbiaaGreatDoorP03
set_option linter.all false
set_option maxRecDepth 1000000
set_option maxHeartbeats 0
namespace Go.Sy
noncomputable section
open Go.RowKit Go.Proofs Go.Proofs.Tryz
section
variable [aT]
def Res (o:Op) (cx:Cx) (r:Tr AV) (h:Heap) (v:AV) (h':Heap):Prop:=
 pY o cx.P r h= .val v h'\/(∃f aZs h1,pY o cx.P r h= .enter f aZs h1/\cx.call (.fn f) aZs h1= .ret v h')\/(∃id aZs h1,pY o cx.P r h= .round id aZs h1/\cx.call (.rd id) aZs h1= .ret v h')
def um (o:Op) (cx:Cx) (r:Tr AV) (h:Heap) (k:VK):Prop:=∃v h',Res o cx r h v h'/\k v h'
variable {cx:Cx} {r:Tr AV} {h:Heap} {k:VK}
theorem um.pure {o:Op} {f:Program ->Tr AV ->Option AV} {v:AV} (hc:cls o= .pure f) (hf:f cx.P r=some v) (hk:k v h):um o cx r h k:=
 ⟨v,h,.inl (by unfold pY;rw [hc];simp only [hf]),hk⟩
theorem um.load {o:Op} {f:Program ->Tr AV ->Heap ->Option AV} {v:AV} (hc:cls o= .load f) (hf:f cx.P r h=some v) (hk:k v h):um o cx r h k:=
 ⟨v,h,.inl (by unfold pY;rw [hc];simp only [hf]),hk⟩
theorem um.lE {o:Op} {f:Program ->Tr AV ->Heap ->OR} {v:AV} {h':Heap} (hc:cls o= .lE f) (hf:f cx.P r h= .val v h') (hk:k v h'):um o cx r h k:=
 ⟨v,h',.inl (by unfold pY;rw [hc];exact hf),hk⟩
theorem jy {x:Option AV} (hk:uX x h k):∃v,x=some v/\k v h:=by
 unfold uX at hk;split at hk
 .exact⟨_,rfl,hk⟩
 .exact hk.elim
theorem rG {x:OR} (hk:Mj x k):∃v h',x= .val v h'/\k v h':=by
 unfold Mj at hk;split at hk
 .exact⟨_,_,rfl,hk⟩
 .exact hk.elim
theorem um.opt {o:Op} {f:Program ->Tr AV ->Option AV} (hc:cls o= .pure f) (hk:uX (f cx.P r) h k):um o cx r h k:=
 let ⟨_,hf,hv⟩:=jy hk;.pure hc hf hv
theorem um.ain {o:Op} {f:Program ->Tr AV ->Heap ->Option AV} (hc:cls o= .load f) (hk:uX (f cx.P r h) h k):um o cx r h k:=
 let ⟨_,hf,hv⟩:=jy hk;.load hc hf hv
theorem um.or {o:Op} (hk:Mj (pY o cx.P r h) k):um o cx r h k:=
 let ⟨_,_,hf,hv⟩:=rG hk;⟨_,_,.inl hf,hv⟩
theorem qH {a b:Nat} (h:a<=b):Nat.ble a b=true:=by rw [Nat.ble_eq];exact h
theorem nk {b:Bool} {p:Prop} (h:Bool.casesOn (motive:=λ_=>Prop) b False p):b=true/\p:=by
 cases b with
 |false=>exact h.elim|true=>exact⟨rfl,h⟩
theorem rH {v:AV} {len:Nat} {k:Nat ->Prop} (hk:Pq v len k):∃kd i,v= .int kd (.ofNat i)/\i<len/\k i:=by
 unfold Pq at hk;split at hk
 .rename_i kd z;obtain⟨h1,h2,h3⟩:=hk;obtain⟨i,rfl⟩:=Int.eq_ofNat_of_zero_le h1;exact⟨kd,i,rfl,by omega,h3⟩
 .exact hk.elim
theorem JW {kd:IntKind} {i len:Nat} (hi:i<len) (f:Nat ->Option AV):idx (.int kd (.ofNat i)) len f=f i:=by
 unfold idx;simp only [bz.2 hi]
theorem AW {t:TypeId} {x ix:Operand} (hk:tF t x ix cx.P r h k):um (.indexAddr t x ix) cx r h k:=by
 have hc:cls (.indexAddr t x ix)= .pure (fX t x ix):=rfl;unfold tF at hk;split at hk
 .rename_i e id off len cap sz hu he;split at hk
  .rename_i z hz;obtain⟨h1,h2⟩:=nk hk;obtain⟨kd,i,hi,cR,hv⟩:=rH h2;have ma:=Nat.eq_of_beq_eq_true h1;subst ma;refine .pure (v:= .ptr id (Nat.add off (Nat.mul i z))) hc ?_ hv;unfold fX;simp only [hu,he,hz,h1,hi,JW cR]
  .exact hk.elim
 .rename_i e n l hu he;split at hk
  .rename_i z hz;obtain⟨kd,i,hi,cR,hv⟩:=rH hk;refine .pure (v:= .dq l (Nat.mul i z)) hc ?_ hv;unfold fX;simp only [hu,he,hz,hi,JW cR]
  .exact hk.elim
 .rename_i e id n sz hu he;split at hk
  .rename_i z hz;obtain⟨h1,h2⟩:=nk hk;obtain⟨kd,i,hi,cR,hv⟩:=rH h2;have ma:=Nat.eq_of_beq_eq_true h1;subst ma;refine .pure (v:= .ptr id (Nat.mul i z)) hc ?_ hv;unfold fX;simp only [hu,he,hz,h1,hi,JW cR]
  .exact hk.elim
 .exact .opt hc hk
theorem Gj:∀(s:List Nat) (i:Nat),i<s.length ->Rq s i=some (s.getD i 0)
 |a::s,0,_=>rfl|a::s,i+1,h=>by
  show Rq s i=_;rw [Gj s i (by simpa using h)];simp
 |[],i,h=>absurd h (by simp)
theorem Pr {t:TypeId} {x ix:Operand} (hk:JS t x ix cx.P r h k):um (.index t x ix) cx r h k:=by
 have hc:cls (.index t x ix)= .pure (sZ t x ix):=rfl;unfold JS at hk;split at hk
 .rename_i s hu he;obtain⟨kd,i,hi,cR,hv⟩:=rH hk;refine .pure (v:= .int .u8 (.ofNat (s.getD i 0))) hc ?_ hv;unfold sZ;simp only [hu,he,hi,Gj s i cR]
 .exact .opt hc hk
theorem SB {t:TypeId} {a:Operand} (hk:Sx t a cx.P r h k):um (.load t a) cx r h k:=by
 have hc:cls (.load t a)= .load (su t a):=rfl;unfold Sx at hk;split at hk
 .rename_i l j he;obtain⟨v,h1,h2⟩:=hk;exact .load hc (by unfold su wL;rw [he];exact h1) h2
 .rename_i id off he;split at hk
  .rename_i c n ro hg;obtain⟨v,h1,h2⟩:=jy hk;exact .load hc (by unfold su wL;rw [he];simp only [hg];exact h1) h2
  .rename_i l ro hg;obtain⟨v,h1,h2⟩:=hk;exact .load hc (by unfold su wL;rw [he];simp only [hg];exact h1) h2
  .exact hk.elim
 .exact hk.elim
theorem Ps {t:TypeId} {a x:Operand} (hk:JT t a x cx.P r h k):um (.store t a x) cx r h k:=by
 have hc:cls (.store t a x)= .lE (sY t a x):=rfl;unfold JT at hk;split at hk
 .rename_i id off he;split at hk
  .rename_i g n hg hn;obtain⟨h1,h3⟩:=nk hk;rw [DK]at h3;obtain⟨h2,h3⟩:=h3;obtain⟨h4,h5⟩:=aq.1 h1;have h6:Nat.ble (Nat.add off n) g.len=true:=qH h2;refine .lE hc ?_ h3;unfold sY putAt;simp only [he,hn,hg,h6,h1];rfl
  .obtain⟨v,h',h1,h2⟩:=rG hk;exact .lE hc h1 h2
 .exact hk.elim
theorem jz {v:Option AV} {d m:Nat} {p:Nat ->Prop} (hk:qG v d m p):∃i,(∀f:Nat ->Option AV,bound v d m f=f i)/\p i/\(v=none ->i=d)/\(v≠none ->i<=m):=by
 unfold qG at hk;split at hk
 .exact⟨d,λf=>rfl,hk,λ_=>rfl,λe=>absurd rfl e⟩
 .rename_i kd z;obtain⟨h1,h2,h3⟩:=hk;obtain⟨i,rfl⟩:=Int.eq_ofNat_of_zero_le h1;have:i<=m:=by omega
  exact⟨i,(λf=>by unfold bound;simp only [show Nat.ble i m=true from qH this]),h3,(λe=>by cases e),(λ_=>this)⟩
 .exact hk.elim
theorem Pt {t:TypeId} {x:Operand} {lo hi mx:Option Operand} (hk:JU t x lo hi mx cx.P r h k):um (.slice t x lo hi mx) cx r h k:=by
 have hc:cls (.slice t x lo hi mx)= .load (fq t x lo hi mx):=rfl;unfold JU at hk;cases mx with
 |some _=>exact hk.elim|none=>
  simp only at hk;split at hk
  .rename_i s hu he;obtain⟨hh,e1,hk,_⟩:=jz hk;obtain⟨ll,e2,hk,_⟩:=jz hk;refine .load hc ?_ hk;unfold fq ky;simp only [hu,he,e1,e2]
  .rename_i e n l hu he;split at hk
   .rename_i z hz;obtain⟨hh,e1,hk,_⟩:=jz hk;obtain⟨ll,e2,⟨l',h1,hk⟩,_⟩:=jz hk;refine .load hc ?_ hk;unfold fq ky;simp only [hu,he,hz,e1,e2,h1];rfl
   .exact hk.elim
  .rename_i e id n sz hu he;split at hk
   .rename_i z hz;obtain⟨h1,hk⟩:=nk hk;obtain⟨hh,e1,hk,_⟩:=jz hk;cases lo with
    |none=>
     simp only at hk;refine .load hc ?_ hk;unfold fq ky;simp only [hu,he,hz,h1,e1,Option.map_none];rfl
    |some y=>
     simp only at hk;obtain⟨ll,e2,vJ,_⟩:=jz hk;clear hk;have e2':∀f,bound (Option.map (λx=>ev x r) (some y)) 0 hh f=f ll:=e2;rcases vJ with ⟨rfl,hk⟩|⟨⟨g1,g2⟩,hk⟩|⟨⟨g1,rfl⟩,hk⟩
     .refine .load hc ?_ hk;unfold fq ky;simp only [hu,he,hz,h1,e1,e2'];rfl
     .refine .load hc ?_ hk;unfold fq ky;have:Nat.beq ll 0=false:=(by rw [gZ,decide_eq_false (by omega)]);simp only [hu,he,hz,h1,e1,e2',this,bz.2 g2]
     .refine .load hc ?_ hk;unfold fq ky;have:Nat.beq ll 0=false:=(by rw [gZ,decide_eq_false (by omega)]);have h2:bJ ll ll=false:=(by rw [kC,decide_eq_false (by omega)]);simp only [hu,he,hz,h1,e1,e2',this,h2]
   .exact hk.elim
  .exact .ain hc hk
theorem AX {t:TypeId} {l c:Operand} (hk:tG t l c cx.P r h k):um (.makeSlice t l c) cx r h k:=by
 unfold tG at hk;split at hk
 .exact hk.elim
 .rename_i e he;split at hk
  .rename_i z sz by_ k1 ln k2 cp hz hs hb hl hcp;obtain⟨h1,h2,h3,h4,vJ⟩:=nk hk;clear hk;obtain⟨a,rfl⟩:=Int.eq_ofNat_of_zero_le h2;obtain⟨b,rfl⟩:=Int.eq_ofNat_of_zero_le (show(0:Int)<=cp by omega);have h3:a<=b:=(by omega);have h4:b*(by_+1)<=1099511627776:=(by rw [<-Int.natCast_mul]at h4;omega);refine⟨_,_,.inl ?_,vJ⟩;have:jj t l c cx.P r=some ⟨fW a z,Nat.mul b sz,.slice a b sz⟩:=by
    unfold jj;have e1:Nat.ble a b=true:=qH h3;have e2:Nat.ble (Nat.mul b (Nat.succ by_)) Rp=true:=qH h4;have e3:aF (Nat.beq z.len sz) (aF (Nat.ble a b) (Nat.ble (Nat.mul b (Nat.succ by_)) Rp))=true:=aq.2 ⟨h1,aq.2 ⟨e1,e2⟩⟩;have yw:ev l r= .int k1 (Int.ofNat a):=hl;have Au:ev c r= .int k2 (Int.ofNat b):=hcp;simp only [he,hz,hs,hb,yw,Au,e3]
   unfold pY;show Option.casesOn (motive:=λ_=>Heap ->OR) (jj t l c cx.P r) (λ_=> .fail) (λa h=>iU a.l a.n h a.k) h=_;rw [this];rfl
  .exact hk.elim
theorem SC {c a b:Operand} (hk:Sz c a b r h k):um (.pick c a b) cx r h k:=by
 have hc:cls (.pick c a b)= .pure (yh c a b):=rfl;unfold Sz at hk;split at hk
 .rename_i t ht;cases t with
  |true=>exact .pure hc (by unfold yh;rw [ht]) hk|false=>exact .pure hc (by unfold yh;rw [ht]) hk
 .exact hk.elim
theorem XM {op:BinOp} {t u:TypeId} {x y:Operand} (hk:acH op t x y cx.P r h k):um (.binOp op t x y u) cx r h k:=by
 have hc:cls (.binOp op t x y u)= .pure (Rt op t x y u):=rfl;have key:∀v,IF op cx.P t (ev x r) (ev y r)=some v ->k v h ->um (.binOp op t x y u) cx r h k:=λv h1 h2=> .pure hc h1 h2;unfold acH at hk;split at hk
 .rename_i kd a ld b ex ey;rw [ex,ey]at key;have SD:∀(f:Nat ->Nat ->Nat) (g:Nat ->Nat ->Nat),Mk f kd a b h k ->(∀i j:Nat,a= .ofNat i ->b= .ofNat j ->fits kd a=true ->fits kd b=true ->IF op cx.P t (.int kd a) (.int ld b)=some (.int kd (.ofNat (f i j)))) ->um (.binOp op t x y u) cx r h k:=by
   intro f _ ⟨⟨h1,h2,h3,h4⟩,hv⟩ hh;obtain⟨i,rfl⟩:=Int.eq_ofNat_of_zero_le h1;obtain⟨j,rfl⟩:=Int.eq_ofNat_of_zero_le h3;exact key _ (hh i j rfl rfl h2 h4) hv
  cases op<;>simp only at hk
  case quo=>
   obtain⟨h1,h2,hk⟩:=nk hk;refine key _ ?_ hk;show Bool.casesOn (motive:=λ_=>Option AV) (fY .quo) (Bool.casesOn (motive:=λ_=>Option AV) (qb kd ld) none (oe .quo kd a b)) (qe .quo kd a b)=_;simp only [fY,h1,oe,ga,decide_eq_false h2]
  case rem=>
   obtain⟨h1,h2,hk⟩:=nk hk;refine key _ ?_ hk;show Bool.casesOn (motive:=λ_=>Option AV) (fY .rem) (Bool.casesOn (motive:=λ_=>Option AV) (qb kd ld) none (oe .rem kd a b)) (qe .rem kd a b)=_;simp only [fY,h1,oe,ga,decide_eq_false h2]
  case and=>
   obtain⟨h1,hk⟩:=nk hk;refine SD _ (λ_ _=>0) hk (λi j e1 e2 e3 e4=>?_);subst e1;subst e2;show Bool.casesOn (motive:=λ_=>Option AV) (fY .and) (Bool.casesOn (motive:=λ_=>Option AV) (qb kd ld) none (oe .and kd (.ofNat i) (.ofNat j))) (qe .and kd (.ofNat i) (.ofNat j))=_;simp only [fY,h1,oe,e3,e4,aq.2 ⟨rfl,rfl⟩]
  case or=>
   obtain⟨h1,hk⟩:=nk hk;refine SD _ (λ_ _=>0) hk (λi j e1 e2 e3 e4=>?_);subst e1;subst e2;show Bool.casesOn (motive:=λ_=>Option AV) (fY .or) (Bool.casesOn (motive:=λ_=>Option AV) (qb kd ld) none (oe .or kd (.ofNat i) (.ofNat j))) (qe .or kd (.ofNat i) (.ofNat j))=_;simp only [fY,h1,oe,e3,e4,aq.2 ⟨rfl,rfl⟩]
  case xor=>
   obtain⟨h1,hk⟩:=nk hk;refine SD _ (λ_ _=>0) hk (λi j e1 e2 e3 e4=>?_);subst e1;subst e2;show Bool.casesOn (motive:=λ_=>Option AV) (fY .xor) (Bool.casesOn (motive:=λ_=>Option AV) (qb kd ld) none (oe .xor kd (.ofNat i) (.ofNat j))) (qe .xor kd (.ofNat i) (.ofNat j))=_;simp only [fY,h1,oe,e3,e4,aq.2 ⟨rfl,rfl⟩]
  case shl=>
   obtain⟨h1,hk⟩:=hk;obtain⟨j,rfl⟩:=Int.eq_ofNat_of_zero_le h1;exact key _ rfl hk
  case shr=>
   obtain⟨⟨h0,h1⟩,hk⟩:=hk;obtain⟨i,rfl⟩:=Int.eq_ofNat_of_zero_le h0;obtain⟨j,rfl⟩:=Int.eq_ofNat_of_zero_le h1;exact key _ rfl hk
  all_goals (obtain⟨v,h1,h2⟩:=jy hk;exact key v h1 h2)
 .rename_i a b ex ey;rw [ex,ey]at key;cases op<;>simp only at hk
  case add=>
   obtain⟨h1,hk⟩:=hk;refine key _ ?_ hk;show Fw .add a b=_;unfold Fw;have:Nat.ble (Nat.add a.length b.length) 9223372036854775807=true:=qH h1;simp only [this]
  all_goals (obtain⟨v,h1,h2⟩:=jy hk;exact key v h1 h2)
 .obtain⟨v,h1,h2⟩:=jy hk;exact key v h1 h2
theorem Gk {a b:TypeId} {x:Operand} (hk:yS a b x cx.P r h k):um (.convert a b x) cx r h k:=by
 have hc:cls (.convert a b x)= .load (gp a b x):=rfl;unfold yS at hk;split at hk
 .rename_i kd n he;obtain⟨v,h1,h2⟩:=jy hk;exact .load hc (by unfold gp;rw [he];exact h1) h2
 .rename_i s he;obtain⟨v,h1,h2⟩:=jy hk;exact .load hc (by unfold gp;rw [he];exact h1) h2
 .obtain⟨v,h1,h2⟩:=hk;exact .load hc h1 h2
theorem JX {f aZs ts} (hc:cls (.call ⟨f,aZs,ts⟩)= .lE λP r h=>kN ts.toList (qc aZs.toList r) P h) (hk:DO ts.toList (qc aZs.toList r) cx.P h k):um (.call ⟨f,aZs,ts⟩) cx r h k:=by
 have key:∀v h',kN ts.toList (qc aZs.toList r) cx.P h= .val v h' ->k v h' ->um (.call ⟨f,aZs,ts⟩) cx r h k:=λv h' h1 h2=> .lE hc h1 h2;revert hk key;generalize ts.toList=tl;generalize qc aZs.toList r=al;intro hk key;unfold DO at hk;split at hk
 .rename_i t u tl0 s x al0;split at hk
  .exact hk.elim
  .rename_i e he;split at hk
   .rename_i sz by_ z n hs hb hz hn;by_cases h1:aF (Nat.beq z.len sz) (aY (nH cx.P u))=true;rotate_left
    .have h1:aF (Nat.beq z.len sz) (aY (nH cx.P u))=false:=(by simpa using h1);rw [h1]at hk;obtain⟨v,h',h3,h4⟩:=rG hk;exact key _ _ h3 h4
    rw [h1]at hk;obtain⟨new,h2,vJ⟩:=hk;have hk:=vJ;clear vJ;have hA:∀v h',iw sz by_ s x n new h= .val v h' ->kN (t::u::tl0) (.cons s (.cons x al0)) cx.P h= .val v h':=λv h' e=>by
     unfold kN;simp only [he,hs,hb,hz,h1,hn,h2];exact e
    split at hk
    .obtain⟨⟨h3,h4⟩,hk⟩:=hk;refine key _ _ (hA _ _ ?_) hk;have e1:gN sz sz by_ n new=true:=aq.2 ⟨Nat.beq_refl _,aq.2 ⟨qH h3,h4⟩⟩;unfold iw;simp only [e1];rfl
    .rename_i id len nY;obtain⟨h5,vJ⟩:=nk hk;clear hk;have hk:=vJ;clear vJ;split at hk
     .rename_i l hg;obtain⟨⟨h3,h4,h6⟩,hk⟩:=hk;refine key _ _ (hA _ _ ?_) hk;have e1:gN sz nY by_ (Nat.add len n) new=true:=aq.2 ⟨h5,aq.2 ⟨qH h3,h4⟩⟩;have e2:Nat.beq (Nat.mul len sz) l.len=true:=by
       have:Nat.mul len sz=l.len:=h6;rw [this];exact Nat.beq_refl _
      unfold iw;simp only [e1,hg,e2];rfl
     .exact hk.elim
    .obtain⟨v,h',h3,h4⟩:=rG hk;exact key _ _ (hA _ _ h3) h4
   .obtain⟨v,h',h3,h4⟩:=rG hk;exact key _ _ h3 h4
 .exact hk.elim
theorem Pv {f aZs ts} (hc:cls (.call ⟨f,aZs,ts⟩)= .lE λP r h=>oT ts.toList (qc aZs.toList r) P h) (hk:JV ts.toList (qc aZs.toList r) cx.P h k):um (.call ⟨f,aZs,ts⟩) cx r h k:=by
 have key:∀v h',oT ts.toList (qc aZs.toList r) cx.P h= .val v h' ->k v h' ->um (.call ⟨f,aZs,ts⟩) cx r h k:=λv h' h1 h2=> .lE hc h1 h2;have XN:Mj (oT ts.toList (qc aZs.toList r) cx.P h) k ->um (.call ⟨f,aZs,ts⟩) cx r h k:=λhk=>let ⟨v,h',a,b⟩:=rG hk;key v h' a b;revert hk key XN;generalize ts.toList=tl;generalize qc aZs.toList r=al;intro hk key XN;unfold JV at hk;split at hk
 .rename_i t tl0 id off n c nY y;split at hk
  .exact hk.elim
  .rename_i e he;split at hk
   .rename_i sz z g hs hz hg;obtain⟨h1,vJ⟩:=nk hk;obtain⟨b1,b2⟩:=aq.1 h1;refine key _ _ ?_ vJ.k;have e1:=aq.2 ⟨b1,aq.2 ⟨b2,bz.2 vJ.pos⟩⟩;have e2:aF (Nat.ble (Nat.add off (Nat.mul n sz)) g.len) (aF (Nat.beq (fW n z).len (Nat.mul n sz)) (dN (fW n z)))=true:=aq.2 ⟨qH vJ.fit,aq.2 ⟨(by rw [vJ.len];exact Nat.beq_refl _),vJ.cell⟩⟩;unfold oT putAt;simp only [he,hs,hz,e1,hg,e2]
   .exact XN hk
 .exact XN hk
theorem SE {o:Op} (hk:SA cx (pY o cx.P r h) k):um o cx r h k:=by
 unfold SA at hk;split at hk
 .rename_i g aZs h1 hx;rw [DM]at hk;obtain⟨v,h',hc,hk⟩:=hk;exact⟨v,h',.inr (.inl ⟨g,aZs,h1,hx,hc⟩),hk⟩
 .rename_i id aZs h1 hx;rw [DM]at hk;obtain⟨v,h',hc,hk⟩:=hk;exact⟨v,h',.inr (.inr ⟨id,aZs,h1,hx,hc⟩),hk⟩
 .exact hk.elim
theorem XO {o:Op} (hk:wOp o cx r h k):um o cx r h k:=by
 unfold wOp at hk;split at hk
 .exact AW hk
 .exact Pr hk
 .exact SB hk
 .exact Ps hk
 .exact Pt hk
 .exact AX hk
 .exact SC hk
 .exact XM hk
 .exact Gk hk
 .rename_i c;obtain⟨cl,aZs,ts⟩:=c;split at hk
  .rename_i f hf;simp only at hf;subst hf;exact SE hk
  .rename_i hf;simp only at hf;subst hf;exact JX rfl hk
  .rename_i hf;simp only at hf;subst hf;exact Pv rfl hk
  .exact .or hk
 .exact .or hk
end
section
variable [aT]
abbrev KC:=Tr AV ->List Pos ->Heap ->Prop
def Pw (d:Option Tmp) (nt:Nat) (v:AV) (r:Tr AV) (k:Tr AV ->Prop):Prop:=
 match d with
 |none=>k r|some d=>Bool.casesOn (motive:=λ_=>Prop) (bJ d nt) False (fV v λv'=>Gi v' r (pathOf d) k)
theorem BL {d:Option Tmp} {nt:Nat} {v:AV} {r:Tr AV} {k:Tr AV ->Prop} (h:Pw d nt v r k):∃r',oV d nt v r=some r'/\k r':=by
 unfold Pw at h;cases d with
 |none=>exact⟨r,rfl,h⟩|some d=>
  obtain⟨h1,h2⟩:=nk h;rw [Sw,uW]at h2;exact⟨_,by unfold oV;simp only [h1],h2⟩
def Ml (o:Op):Bool:=match cls o with| .pure _=>true| .load _=>true|_=>false
def XP (o:Oper) (cx:Cx) (r:Tr AV) (m:List Pos) (h:Heap) (k:KC):Prop:=
 wOp o.op cx r h λv h'=>Bool.casesOn (motive:=λ_=>Prop) (Ml o.op) (fH h' λh2=>Pw o.dst cx.nt v r λr'=>k r' m h2) (Pw o.dst cx.nt v r λr'=>k r' m h')
def Mm (o:Oper) (cx:Cx) (r:Tr AV) (m:List Pos) (h:Heap) (k:KC):Prop:=Pw o.dst cx.nt (.aS .nil) r λr'=>k r' m h
def wAt (ops:Array Oper) (o:Oper) (cx:Cx) (r:Tr AV) (m:List Pos) (h:Heap) (k:KC):Prop:=
 match o.guard with
 |none=>XP o cx r m h k|some g=>(match uy ops g.1 with
  |none=>False|some s=>(match gv (r.get (pathOf s))with
   | .bool b=>Bool.casesOn (motive:=λ_=>Prop) b
    (Gi (.bool false) r (pathOf s) λr'=>Bool.casesOn (motive:=λ_=>Prop) g.2 (XP o cx r' m h k) (Mm o cx r' m h k))
    (Gi (.bool true) r (pathOf s) λr'=>Bool.casesOn (motive:=λ_=>Prop) g.2 (Mm o cx r' m h k) (XP o cx r' m h k))
   | .aS _=>Mm o cx r m h k|_=>False))
def XQ (ops:Array Oper):List Oper ->Cx ->KC ->KC
 |[],_,k,r,m,h=>k r m h|o::l,cx,k,r,m,h=>wAt ops o cx r m h (XQ ops l cx k)
def Mn (h h':Heap) (id:Pos):Prop:=match h.t.get id with|some (.cells t n ro)=>h'.t.get id=some (.cells t n ro)|some (.gl l ro)=>h'.t.get id=some (.gl l ro)|_=>False
def wRe (ops:Array Oper) (P:Program) (o:Oper) (r:Tr AV) (h h':Heap):Prop:=
 match cX ops o r with
 | .no=>True| .unknown=>False| .yes=>
  match cls o.op with
  | .load f=>∃v,f P r h=some v/\f P r h'=some v| .alloc _=>(match o.dst with
   |some d=>(match gv (r.get (pathOf d))with
    | .ptr id _=>Mn h h' id| .gs id _ _=>Mn h h' id|_=>False)
   |none=>False)
  |_=>True
theorem acI {ops:Array Oper} {P:Program} {o:Oper} {r:Tr AV} {h h':Heap} (hk:wRe ops P o r h h'):qg ops P o r h h'=true:=by
 have same:∀{id:Pos},Mn h h' id ->sameAt h h' id=true:=by
  intro id hs;unfold Mn at hs;unfold sameAt;split at hs
  .rename_i t n ro e;rw [e,hs];simp
  .rename_i l ro e;rw [e,hs];simp
  .exact hs.elim
 unfold wRe at hk;unfold qg;split at hk
 .rename_i e;rw [e]
 .exact hk.elim
 .rename_i e;rw [e];simp only;split at hk
  .rename_i f hf;obtain⟨v,h1,h2⟩:=hk;rw [hf];simp only [h1,h2,decide_true]
  .rename_i f hf;rw [hf];simp only;split at hk
   .rename_i d hd;simp only [hd];split at hk
    .rename_i id off hg;rw [hg];exact same hk
    .rename_i id a b hg;rw [hg];exact same hk
    .exact hk.elim
   .exact hk.elim
  .rename_i h1 h2;split
   .rename_i f hf;exact absurd hf (h1 f)
   .rename_i f hf;exact absurd hf (h2 f)
   .rfl
def Mo (ops:Array Oper) (P:Program) (l:List (Nat×Oper)) (r:Tr AV) (h h':Heap) (k:Prop):Prop:=
 match l with
 |[]=>k|p::l=>wRe ops P p.2 r h h'/\Mo ops P l r h h' k
theorem Gl {ops:Array Oper} {P:Program} {r:Tr AV} {h h':Heap} {k:Prop}:∀{l:List (Nat×Oper)},Mo ops P l r h h' k ->recheck ops P l r h h'=true/\k
 |[],hk=>⟨rfl,hk⟩
 |p::l,hk=>by
  obtain⟨h1,h2⟩:=hk;obtain⟨h3,h4⟩:=Gl h2;refine⟨?_,h4⟩;unfold recheck at h3 ⊢;rw [List.all_cons,acI h1,h3];rfl
def Gm (ops:Array Oper):List PI ->Cx ->KC ->KC
 |[],_,k,r,m,h=>k r m h|y::l,cx,k,r,m,h=>wAt ops y.o cx r m h λr' m' h'=>Mo ops cx.P y.gC r h h' (Gm ops l cx k r' m' h')
theorem yT {x:AV}:∀{r:Tr AV} {p:Pos},r.get p=some x ->Tr.set x r p=r
 | .leaf,p,h=>by cases h
 | .node l v r,.e,h=>by cases (show v=some x from h);rfl
 | .node l v r,.o p,h=>by show Tr.node (Tr.set x l p) v r=_;rw [yT (r:=l) h]
 | .node l v r,.i p,h=>by show Tr.node l v (Tr.set x r p)=_;rw [yT (r:=r) h]
theorem XR {o:Option AV} {b:Bool} (h:gv o= .bool b):o=some (.bool b):=by
 cases o with
 |none=>cases h|some v=>cases (show v= .bool b from h);rfl
theorem Gn {ops:Array Oper} {o:Oper} {cx:Cx} {r:Tr AV} {m:List Pos} {h:Heap} {k:KC} (hk:wAt ops o cx r m h k):
  ∃r' h',k r' m h'/\∀kk,tc ops o cx r m h kk=kk r' m h':=by
 have yes:cX ops o r= .yes ->XP o cx r m h k ->∃r' h',k r' m h'/\∀kk,tc ops o cx r m h kk=kk r' m h':=by
  intro hw hk;obtain⟨v,h',oi,hk⟩:=XO hk;have hk:Pw o.dst cx.nt v r λr'=>k r' m h':=by
   cases hq:Ml o.op with
   |true=>rw [hq]at hk;exact hk|false=>rw [hq]at hk;simp only at hk;rw [aft]at hk;exact hk
  obtain⟨r',hp,hk⟩:=BL hk;refine⟨r',h',hk,λkk=>?_⟩;unfold tc;rw [hw];simp only;unfold Xq;rcases oi with hx|⟨f,aZs,h1,hx,hc⟩|⟨id,aZs,h1,hx,hc⟩
  .rw [hx];simp only [hp]
  .rw [hx];simp only;unfold crK;rw [hc];simp only [hp]
  .rw [hx];simp only;unfold crK;rw [hc];simp only [hp]
 have no:cX ops o r= .no ->Mm o cx r m h k ->∃r' h',k r' m h'/\∀kk,tc ops o cx r m h kk=kk r' m h':=by
  intro hw hk;obtain⟨r',hp,hk⟩:=BL hk;refine⟨r',h,hk,λkk=>?_⟩;unfold tc;rw [hw];simp only [hp]
 unfold wAt at hk;split at hk
 .rename_i hg;exact yes (by unfold cX;rw [hg]) hk
 .rename_i g hg;split at hk
  .exact hk.elim
  .rename_i s hs;split at hk
   .rename_i b hb;have hw:cX ops o r=yj (.bool b) g.2:=(by unfold cX;rw [hg];simp only [hs,hb]);obtain⟨w1,w2⟩:=g;have sF:=yT (XR hb);cases b with
    |true=>
     simp only at hk;rw [uW,sF]at hk;cases w2 with
     |true=>exact yes hw hk|false=>exact no hw hk
    |false=>
     simp only at hk;rw [uW,sF]at hk;cases w2 with
     |true=>exact no hw hk|false=>exact yes hw hk
   .rename_i l hb;exact no (by unfold cX;rw [hg];simp only [hs,hb];rfl) hk
   .exact hk.elim
theorem BM {ops:Array Oper}:∀(l:List Oper) {cx:Cx} {k:KC} {r:Tr AV} {m:List Pos} {h:Heap},XQ ops l cx k r m h ->∃r' h',wM ops l cx r m h= .ok r' m h'/\k r' m h'
 |[],cx,k,r,m,h,hk=>⟨r,h,rfl,hk⟩
 |o::l,cx,k,r,m,h,hk=>by
  obtain⟨r1,h1,hk,he⟩:=Gn (hk:wAt ops o cx r m h (XQ ops l cx k));obtain⟨r',h',e,hk⟩:=BM l hk;refine⟨r',h',?_,hk⟩;show tc ops o cx r m h (λr m h=>wM ops l cx r m h)=_;rw [he,e]
theorem yU {ops:Array Oper}:∀(l:List PI) {cx:Cx} {k:KC} {r:Tr AV} {m:List Pos} {h:Heap},Gm ops l cx k r m h ->∃r' h',lu ops l cx r m h= .ok r' m h'/\k r' m h'
 |[],cx,k,r,m,h,hk=>⟨r,h,rfl,hk⟩
 |y::l,cx,k,r,m,h,hk=>by
  obtain⟨r1,h1,hk,he⟩:=Gn (hk:wAt ops y.o cx r m h λr' m' h'=>Mo ops cx.P y.gC r h h' (Gm ops l cx k r' m' h'));have hk:recheck ops cx.P y.gC r h h1=true/\Gm ops l cx k r1 m h1:=Gl hk;obtain⟨r',h',e,vJ⟩:=yU l hk.2;refine⟨r',h',?_,vJ⟩;show tc ops y.o cx r m h (λr' m h'=>Bool.casesOn (motive:=λ_=>R) (recheck ops cx.P y.gC r h h') .fail (lu ops l cx r' m h'))=_;rw [he,hk.1];exact e
def acJ (ops:Array Oper) (draw:Bool) (cx:Cx) (k:KC):KC:=λr m h=>
 Bool.casesOn (motive:=λ_=>Prop) draw (XQ ops ops.toList cx k r m h) (match td ops with|none=>False|some pl=>Gm ops pl cx k r m h)
theorem Px {ops:Array Oper} {draw:Bool} {cx:Cx} {k:KC} {r:Tr AV} {m:List Pos} {h:Heap} (hk:acJ ops draw cx k r m h):∃r' h',xE ops draw cx r m h= .ok r' m h'/\k r' m h':=by
 cases draw with
 |false=>exact BM _ hk|true=>
  unfold acJ at hk;unfold xE;simp only at hk ⊢;split at hk
  .exact hk.elim
  .rename_i pl nK;obtain⟨r',h',e,hk⟩:=yU _ hk;exact⟨r',h',by rw [nK];exact e,hk⟩
def kept (q:Pos):Bool:=bJ q.toNat (Nat.add 64 aT.k)
structure lG (B0:Nat) (μ:Mu) (n:Pos) (μ':Mu) (n':Pos):Prop where
 g:Grow B0 μ.s μ'.s
 xx:64+aT.k<=n.toNat ->(∀q,kept q=true ->μ' q=μ q)/\64+aT.k<=n'.toNat
theorem XS {q:Pos} (h:kept q=true):q.toNat<64+aT.k:=Nat.le_of_ble_eq_true h
theorem lG.refl (B0:Nat) (μ:Mu) (n:Pos):lG B0 μ n μ n:=⟨Grow.refl _ _,λe=>⟨λ_ _=>rfl,e⟩⟩
theorem lG.trans {B0:Nat} {a b c:Mu} {x y z:Pos} (h:lG B0 a x b y) (k:lG B0 b y c z):lG B0 a x c z:=
 ⟨h.g.trans k.g,λe=>⟨λq hq=>((k.xx (h.xx e).2).1 q hq).trans ((h.xx e).1 q hq),(k.xx (h.xx e).2).2⟩⟩
theorem lG.post {μ:Mu} {B0:Nat} {h:Heap} {w:World} {μ':Mu} {h':Heap} {w':World} (p:bP μ B0 h w μ' h' w'):lG B0 μ h.n μ' h'.n:=
 ⟨p.dK,λe=>⟨λq hq=>p.ext q (Nat.lt_of_lt_of_le (XS hq) e),Nat.le_trans e p.le⟩⟩
structure Rb (μ:Mu) (n:Pos) (cx:Cx) (b:Frame):Prop where
 fr:FR μ cx b
 kp:∀id,cx.rd=some id ->kept id=true/\64+aT.k<=n.toNat
theorem Rb.grow {B0:Nat} {μ μ':Mu} {n n':Pos} {cx:Cx} {b:Frame} (h:Rb μ n cx b) (g:lG B0 μ n μ' n'):Rb μ' n' cx b:=by
 obtain⟨⟨h1,h2,h3⟩,h4⟩:=h;refine⟨⟨h1,h2,?_⟩,λid e=>⟨(h4 id e).1,(g.xx (h4 id e).2).2⟩⟩;cases hr:cx.rd with
 |none=>rw [hr]at h3;exact h3|some id=>
  rw [hr]at h3;obtain⟨B,e1,e2⟩:=h3;obtain⟨k1,k2⟩:=h4 id hr;exact⟨B,((g.xx k2).1 id k1).trans e1,e2⟩
theorem Rb.none {μ:Mu} {n:Pos} {cx:Cx} {b:Frame} (AU:cx.rd= .none) (h1:b.fn=cx.fn) (h2:b.kind= .normal) (h3:b.roundOf= .none):Rb μ n cx b:=
 ⟨⟨h1,h2,by rw [AU];exact h3⟩,λid e=>by rw [AU]at e;cases e⟩
structure XT (μ:Mu) (n:Pos) (B0:Nat) (w:World) (μ':Mu) (h':Heap) (w':World):Prop where
 dK:lG B0 μ n μ' h'.n
 below:Below B0 w w'
 rel:HR μ' B0 h' w'
theorem XT.pd {μ:Mu} {B0:Nat} {h:Heap} {w:World} {μ':Mu} {h':Heap} {w':World} (p:bP μ B0 h w μ' h' w'):XT μ h.n B0 w μ' h' w':=⟨.post p,p.below,p.rel⟩
def RW (P:Program) (B0:Nat) (μ:Mu) (n:Pos) (w:World) (nt:Nat) (b:Frame) (k:List Item) (cs:List Frame) (M:Machine):R ->Prop
 | .fail=>False| .ok r m h'=>∃μ' a' w',XT μ n B0 w μ' h' w'/\AR μ' nt r m a'/\Steps P M (lone (b.atR a' k) cs w')| .exit i r m h'=>∃μ' a' w',XT μ n B0 w μ' h' w'/\AR μ' nt r m a'/\∃k',exitTo i k'=exitTo i k/\Steps P M (lone (b.atR a' (.code (.exit i)::k')) cs w')| .ret r m h'=>∃μ' a' w',XT μ n B0 w μ' h' w'/\AR μ' nt r m a'/\∃k',Steps P M (lone (b.atR a' (.code .ret::k')) cs w')
theorem RW.ahead {P:Program} {B0:Nat} {μ μ1:Mu} {n n1:Pos} {w w1:World} {nt:Nat} {b:Frame} {k:List Item} {cs:List Frame} {M M1:Machine} {x:R} (hs:Steps P M M1) (hb:Below B0 w w1) (wP:lG B0 μ n μ1 n1)
  (hx:RW P B0 μ1 n1 w1 nt b k cs M1 x):RW P B0 μ n w nt b k cs M x:=by
 cases x with
 |fail=>exact hx|ok r m h'=>obtain⟨μ',a',w',ha,h1,h2⟩:=hx;exact⟨μ',a',w',⟨wP.trans ha.dK,hb.trans ha.below,ha.rel⟩,h1,hs.trans h2⟩
 |exit i r m h'=>obtain⟨μ',a',w',ha,h1,k',he,h2⟩:=hx;exact⟨μ',a',w',⟨wP.trans ha.dK,hb.trans ha.below,ha.rel⟩,h1,k',he,hs.trans h2⟩
 |ret r m h'=>obtain⟨μ',a',w',ha,h1,k',h2⟩:=hx;exact⟨μ',a',w',⟨wP.trans ha.dK,hb.trans ha.below,ha.rel⟩,h1,k',hs.trans h2⟩
def Cw (P:Program) (B0:Nat) (cx:Cx) (c:Code) (r:Tr AV) (m:List Pos) (h:Heap) (Q:R ->Prop):Prop:=
 ∀(μ:Mu) (w:World) (b:Frame) (a:Act) (k:List Item) (cs:List Frame),HR μ B0 h w ->AR μ cx.nt r m a ->Rb μ h.n cx b ->
  ∃x,Q x/\RW P B0 μ h.n w cx.nt b k cs (lone (b.atR a (.code c::k)) cs w) x
def QK (jF dG:KC) (kEx:Nat ->KC):R ->Prop
 | .fail=>False| .ok r m h=>jF r m h| .ret r m h=>dG r m h| .exit i r m h=>kEx i r m h
section
variable {P:Program} {B0:Nat} {cx:Cx}
theorem Cw.of_run {c:Code} (hc:ie P B0 cx (sA c) c) {r:Tr AV} {m:List Pos} {h:Heap} {Q:R ->Prop} {x:R} (hx:sA c cx r m h=x) (hf:x≠.fail) (hQ:Q x):Cw P B0 cx c r m h Q:=by
 intro μ w b a k cs hr ha hb;have:=hc r m h μ w b a hr ha hb.fr;rw [hx]at this;refine⟨x,hQ,?_⟩;cases x with
 |fail=>exact hf rfl|ok r m h'=>obtain⟨μ',a',w',hp,h1,h2⟩:=this k cs;exact⟨μ',a',w',.pd hp,h1,h2⟩
 |exit i r m h'=>obtain⟨μ',a',w',hp,h1,h2⟩:=this k cs;exact⟨μ',a',w',.pd hp,h1,h2⟩
 |ret r m h'=>obtain⟨μ',a',w',hp,h1,h2⟩:=this k cs;exact⟨μ',a',w',.pd hp,h1,h2⟩
theorem Cw.mono {c:Code} {r:Tr AV} {m:List Pos} {h:Heap} {Q Q':R ->Prop} (hq:∀x,Q x ->Q' x) (hc:Cw P B0 cx c r m h Q):Cw P B0 cx c r m h Q':=
 λμ w b a k cs hr ha hb=>let ⟨x,h1,h2⟩:=hc μ w b a k cs hr ha hb;⟨x,hq x h1,h2⟩
theorem Cw.seq {x y:Code} {r:Tr AV} {m:List Pos} {h:Heap} {jF dG:KC} {kEx:Nat ->KC} (hx:Cw P B0 cx x r m h (QK (λr m h=>Cw P B0 cx y r m h (QK jF dG kEx)) dG kEx)):Cw P B0 cx (.seq x y) r m h (QK jF dG kEx):=by
 intro μ w b a k cs hr ha hb;obtain⟨z,h1,h2⟩:=hx μ w b a (.code y::k) cs hr ha hb;have hs:Steps P (lone (b.atR a (.code (.seq x y)::k)) cs w) (lone (b.atR a (.code x::.code y::k)) cs w):= .one stepR_seq;cases z with
 |fail=>exact h2.elim|ok r1 m1 ma=>
  obtain⟨μ1,a1,w1,hp,rF,dA⟩:=h2;obtain⟨z2,g1,g2⟩:=h1 μ1 w1 b a1 k cs hp.rel rF (hb.grow hp.dK);exact⟨z2,g1,g2.ahead (hs.trans dA) hp.below hp.dK⟩
 |exit i r1 m1 ma=>
  obtain⟨μ1,a1,w1,hp,rF,k',he,dA⟩:=h2;exact⟨.exit i r1 m1 ma,h1,μ1,a1,w1,hp,rF,k',he,hs.trans dA⟩
 |ret r1 m1 ma=>
  obtain⟨μ1,a1,w1,hp,rF,k',dA⟩:=h2;exact⟨.ret r1 m1 ma,h1,μ1,a1,w1,hp,rF,k',hs.trans dA⟩
theorem Cw.cond {c:Operand} {x y:Code} {r:Tr AV} {m:List Pos} {h:Heap} {Q:R ->Prop} {t:Bool} (ht:ev c r= .bool t) (hx:t=true ->Cw P B0 cx x r m h Q) (hy:t=false ->Cw P B0 cx y r m h Q):Cw P B0 cx (.cond c x y) r m h Q:=by
 intro μ w b a k cs hr ha hb;have hc:=aP hr.dO ha.rr c;rw [ht]at hc;have hc:a.eval c= .bool t:=by simpa [VR]using hc
 cases t with
 |true=>obtain⟨z,h1,h2⟩:=hx rfl μ w b a k cs hr ha hb;exact⟨z,h1,h2.ahead (.one (stepR_cond hc)) (Below.refl _ _) (lG.refl _ _ _)⟩
 |false=>obtain⟨z,h1,h2⟩:=hy rfl μ w b a k cs hr ha hb;exact⟨z,h1,h2.ahead (.one (stepR_cond hc)) (Below.refl _ _) (lG.refl _ _ _)⟩
theorem Cw.block {id:Nat} {x:Code} {r:Tr AV} {m:List Pos} {h:Heap} {jF dG:KC} {kEx:Nat ->KC} (hx:Cw P B0 cx x r m h (QK jF dG (λi r m h=>Bool.casesOn (motive:=λ_=>Prop) (Nat.beq i id) (kEx i r m h) (jF r m h)))):
  Cw P B0 cx (.block id x) r m h (QK jF dG kEx):=by
 intro μ w b a k cs hr ha hb;obtain⟨z,h1,h2⟩:=hx μ w b a (.inBlock id::k) cs hr ha hb;have hs:Steps P (lone (b.atR a (.code (.block id x)::k)) cs w) (lone (b.atR a (.code x::.inBlock id::k)) cs w):= .one stepR_block;cases z with
 |fail=>exact h2.elim|ok r1 m1 ma=>
  obtain⟨μ1,a1,w1,hp,rF,dA⟩:=h2;exact⟨.ok r1 m1 ma,h1,μ1,a1,w1,hp,rF,(hs.trans dA).trans (.one stepR_inBlock)⟩
 |exit i r1 m1 ma=>
  obtain⟨μ1,a1,w1,hp,rF,k',he,dA⟩:=h2;change Bool.casesOn (motive:=λ_=>Prop) (Nat.beq i id) (kEx i r1 m1 ma) (jF r1 m1 ma)at h1;cases hi:Nat.beq i id with
  |true=>
   rw [hi]at h1;have hi:=Nat.eq_of_beq_eq_true hi;subst hi;have:exitTo i (.inBlock i::k)=some k:=(by simp [exitTo]);exact⟨.ok r1 m1 ma,h1,μ1,a1,w1,hp,rF,(hs.trans dA).trans (.one (stepR_exit (he.trans this)))⟩
  |false=>
   rw [hi]at h1;have dD:(id==i)=false:=by
    cases e:id==i with
    |false=>rfl|true=>rw [beq_iff_eq.1 e,Nat.beq_refl]at hi;cases hi
   have:exitTo i (.inBlock id::k)=exitTo i k:=(by simp [exitTo,dD]);exact⟨.exit i r1 m1 ma,h1,μ1,a1,w1,hp,rF,k',he.trans this,hs.trans dA⟩
 |ret r1 m1 ma=>
  obtain⟨μ1,a1,w1,hp,rF,k',dA⟩:=h2;exact⟨.ret r1 m1 ma,h1,μ1,a1,w1,hp,rF,k',hs.trans dA⟩
theorem Cw.scope {x:Code} {r:Tr AV} {m:List Pos} {h:Heap} {jF dG:KC} {kEx:Nat ->KC} (hx:Cw P B0 cx x r m h (QK jF dG kEx)):Cw P B0 cx (.scope x) r m h (QK jF dG kEx):=by
 intro μ w b a k cs hr ha hb;obtain⟨z,h1,h2⟩:=hx μ w b a (.inScope x::k) cs hr ha hb;have hs:Steps P (lone (b.atR a (.code (.scope x)::k)) cs w) (lone (b.atR a (.code x::.inScope x::k)) cs w):= .one wY;cases z with
 |fail=>exact h2.elim|ok r1 m1 ma=>
  obtain⟨μ1,a1,w1,hp,rF,dA⟩:=h2;exact⟨_,h1,μ1,a1,w1,hp,rF,(hs.trans dA).trans (.one sI)⟩
 |exit i r1 m1 ma=>
  obtain⟨μ1,a1,w1,hp,rF,k',he,dA⟩:=h2;exact⟨_,h1,μ1,a1,w1,hp,rF,k',he,hs.trans dA⟩
 |ret r1 m1 ma=>
  obtain⟨μ1,a1,w1,hp,rF,k',dA⟩:=h2;exact⟨_,h1,μ1,a1,w1,hp,rF,k',hs.trans dA⟩
def Sub (B0 nt:Nat) (r:Tr AV) (m:List Pos) (h:Heap) (r':Tr AV) (m':List Pos) (h':Heap):Prop:=
 ∀(μ:Mu) (w:World) (a:Act),HR μ B0 h w ->AR μ nt r m a ->∃μ':Mu,lG B0 μ h.n μ' h'.n/\HR μ' B0 h' w/\AR μ' nt r' m' a
theorem Cw.weaken {c:Code} {r r':Tr AV} {m m':List Pos} {h h':Heap} {Q:R ->Prop} (hs:Sub B0 cx.nt r m h r' m' h') (hc:Cw P B0 cx c r' m' h' Q):Cw P B0 cx c r m h Q:=by
 intro μ w b a k cs hr ha hb;obtain⟨μ',h1,h2,h3⟩:=hs μ w a hr ha;obtain⟨x,g1,g2⟩:=hc μ' w b a k cs h2 h3 (hb.grow h1);exact⟨x,g1,g2.ahead (Steps.refl P _) (Below.refl _ _) h1⟩
theorem Cw.loop {ι:Type} (Sr:ι ->Tr AV) (Sm:ι ->List Pos) (Sh:ι ->Heap) (ok:ι ->Prop) (acK:ι ->Nat) {body:Code} {Q:R ->Prop}
  (hb:∀i,ok i ->Cw P B0 cx body (Sr i) (Sm i) (Sh i) (QK (λr m h=>∃j,ok j/\acK j<acK i/\Sub B0 cx.nt r m h (Sr j) (Sm j) (Sh j)) (λr m h=>Q (.ret r m h)) (λi r m h=>Q (.exit i r m h))))
  {r:Tr AV} {m:List Pos} {h:Heap} (i0:ι) (h0:ok i0) (hs:Sub B0 cx.nt r m h (Sr i0) (Sm i0) (Sh i0)):Cw P B0 cx (.loop body) r m h Q:=by
 refine Cw.weaken hs ?_;have key:∀(n:Nat) (i:ι),ok i ->acK i<n ->∀(μ:Mu) (w:World) (b:Frame) (a:Act) (k:List Item) (cs:List Frame),HR μ B0 (Sh i) w ->AR μ cx.nt (Sr i) (Sm i) a ->Rb μ (Sh i).n cx b ->
   ∃x,Q x/\RW P B0 μ (Sh i).n w cx.nt b k cs (lone (b.atR a (.code body::.inLoop body::k)) cs w) x:=by
  intro n;induction n with
  |zero=>intro i _ hi;omega|succ n ih=>
   intro i hi cR μ w b a k cs hr ha hf;obtain⟨z,h1,h2⟩:=hb i hi μ w b a (.inLoop body::k) cs hr ha hf;cases z with
   |fail=>exact h2.elim|ok r1 m1 ma=>
    obtain⟨μ1,a1,w1,hp,rF,dA⟩:=h2;obtain⟨j,hj,hm,DQ⟩:=h1;obtain⟨μ2,g1,g2,g3⟩:=DQ μ1 w1 a1 hp.rel rF;obtain⟨x,e1,e2⟩:=ih j hj (by omega) μ2 w1 b a1 k cs g2 g3 ((hf.grow hp.dK).grow g1);exact⟨x,e1,e2.ahead (dA.trans (.one stepR_inLoop)) hp.below (hp.dK.trans g1)⟩
   |exit e r1 m1 ma=>
    obtain⟨μ1,a1,w1,hp,rF,k',he,dA⟩:=h2;exact⟨_,h1,μ1,a1,w1,hp,rF,k',he,dA⟩
   |ret r1 m1 ma=>
    obtain⟨μ1,a1,w1,hp,rF,k',dA⟩:=h2;exact⟨_,h1,μ1,a1,w1,hp,rF,k',dA⟩
 intro μ w b a k cs hr ha hf;obtain⟨x,g1,g2⟩:=key _ i0 h0 (Nat.lt_succ_self _) μ w b a k cs hr ha hf;exact⟨x,g1,g2.ahead (.one stepR_loop) (Below.refl _ _) (lG.refl _ _ _)⟩
theorem ay {b:Bool} {kt kf:Prop} (h1:b=true ->kt) (h2:b=false ->kf):Bool.casesOn (motive:=λ_=>Prop) b kf kt:=by
 cases b with
 |true=>exact h1 rfl|false=>exact h2 rfl
def wp (P:Program) (B0:Nat) (cx:Cx):Code ->KC ->KC ->(Nat ->KC) ->KC
 | .skip,jF,_,_,r,m,h=>jF r m h| .region _ ops draw,jF,_,_,r,m,h=>acJ ops draw cx jF r m h| .seq a b,jF,dG,kEx,r,m,h=>wp P B0 cx a (wp P B0 cx b jF dG kEx) dG kEx r m h| .cond c a b,jF,dG,kEx,r,m,h=>(match ev c r with
  | .bool t=>Bool.casesOn (motive:=λ_=>Prop) t (wp P B0 cx b jF dG kEx r m h) (wp P B0 cx a jF dG kEx r m h)|_=>False)
 | .block id x,jF,dG,kEx,r,m,h=>wp P B0 cx x jF dG (λi r m h=>Bool.casesOn (motive:=λ_=>Prop) (Nat.beq i id) (kEx i r m h) (jF r m h)) r m h| .loop x,jF,dG,kEx,r,m,h=>Cw P B0 cx (.loop x) r m h (QK jF dG kEx)| .rangeFunc f ps x y,jF,dG,kEx,r,m,h=>Cw P B0 cx (.rangeFunc f ps x y) r m h (QK jF dG kEx)| .exit i,_,_,kEx,r,m,h=>kEx i r m h| .scope x,jF,dG,kEx,r,m,h=>wp P B0 cx x jF dG kEx r m h| .label _,jF,_,_,r,m,h=>jF r m h| .ret,_,dG,_,r,m,h=>dG r m h| .goto _,_,_,_,_,_,_=>False| .refuse _,_,_,_,_,_,_=>False
theorem kE (hm:P.follows .mixedOrders=true) (hP:cx.P=P) (aZ:aU P B0 cx.call):∀(c:Code) {jF dG:KC} {kEx:Nat ->KC} {r:Tr AV} {m:List Pos} {h:Heap},wp P B0 cx c jF dG kEx r m h ->Cw P B0 cx c r m h (QK jF dG kEx):=by
 intro c;induction c with
 |skip=>intro jF dG kEx r m h hk;exact Cw.of_run (gb hm hP aZ _) (x:= .ok r m h) rfl (by simp) hk|region id ops draw=>
  intro jF dG kEx r m h hk;obtain⟨r',h',e,hk⟩:=Px hk;exact Cw.of_run (gb hm hP aZ _) (x:= .ok r' m h') e (by simp) hk
 |seq a b LV ihb=>
  intro jF dG kEx r m h hk;refine Cw.seq ((LV hk).mono ?_);intro x hx;cases x with
  |ok r m h=>exact ihb hx|_=>exact hx
 |cond c a b LV ihb=>
  intro jF dG kEx r m h hk;unfold wp at hk;split at hk
  .rename_i t ht;exact Cw.cond ht (λe=>LV (by rw [e]at hk;exact hk)) (λe=>ihb (by rw [e]at hk;exact hk))
  .exact hk.elim
 |block id x ih=>intro jF dG kEx r m h hk;exact Cw.block (ih hk)|loop x _=>intro jF dG kEx r m h hk;exact hk|rangeFunc f ps x y _ _=>intro jF dG kEx r m h hk;exact hk|exit i=>intro jF dG kEx r m h hk;exact Cw.of_run (gb hm hP aZ _) (x:= .exit i r m h) rfl (by simp) hk|scope x ih=>intro jF dG kEx r m h hk;exact Cw.scope (ih hk)|label l=>intro jF dG kEx r m h hk;exact Cw.of_run (gb hm hP aZ _) (x:= .ok r m h) rfl (by simp) hk|ret=>intro jF dG kEx r m h hk;exact Cw.of_run (gb hm hP aZ _) (x:= .ret r m h) rfl (by simp) hk|goto l=>intro jF dG kEx r m h hk;exact hk.elim|refuse s=>intro jF dG kEx r m h hk;exact hk.elim
theorem aD (hm:P.follows .mixedOrders=true) (hP:cx.P=P) (AU:cx.rd=none) (aZ:aU P B0 cx.call) (c:Code) {jF dG:KC} {kEx:Nat ->KC} {r:Tr AV} {m:List Pos} {h:Heap} (hk:wp P B0 cx c jF dG kEx r m h):Cw P B0 cx c r m h (QK jF dG kEx):=kE hm hP aZ c hk
end
end
section
variable [aT] {P:Program}
abbrev om:=Nat ->Option (Array Value)
def tH (s:om):Mu:=⟨λ_=>none,s⟩
def PF (P:Program) (f:FuncId) (aZs v:AV):Prop:=
 ∀(s:om) (w:World),mC s w ->AA s aT.l ->∀cargs:Array Value,cJ (tH s) aZs cargs.toList ->
  Calls P f cargs w λe w'=>∃(cv:Value) (s':om),e= .returned cv/\Grow w.heap.size s s'/\mC s' w'/\dC (tH s') v cv/\Below w.heap.size w w'
def gd (s:om) (B0:Nat) (w:World):om:=λb=>if b<B0 then s b else match w.heap[b]? with|some (.cells c _ _)=>some c|_=>none
theorem nn {μ:Mu} {B0:Nat} {h:Heap} {w:World} (hr:HR μ B0 h w) {b:Nat} {c:Array Value} {el:TypeId} {fz:Nat×Nat} (hb:B0<=b) (hg:w.heap[b]?=some (.cells c el fz)):gd μ.s B0 w b=some c:=by
 unfold gd;rw [if_neg (by omega),hg]
theorem iC {μ:Mu} {B0:Nat} {h:Heap} {w:World} (hr:HR μ B0 h w):Grow B0 μ.s (gd μ.s B0 w):=by
 refine⟨λb c e=>?_,λb c e=>?_⟩
 .unfold gd;by_cases hb:b<B0
  .rw [if_pos hb];exact e
  .obtain⟨el,fz,h1⟩:=hr.Ar b c e;rw [if_neg hb,h1]
 .unfold gd at e;by_cases hb:b<B0
  .rw [if_pos hb]at e;exact .inl e
  .exact .inr (by omega)
theorem yV {μ:Mu} {B0:Nat} {h:Heap} {w:World} (hr:HR μ B0 h w):mC (gd μ.s B0 w) w:=by
 intro b c e;unfold gd at e;split at e
 .exact hr.Ar b c e
 .split at e
  .rename_i c' el fz h1;cases e;exact⟨el,fz,h1⟩
  .cases e
def ak (h:Heap) (a v:AV):Prop:=∀(μ:Mu) (B0:Nat) (w:World) (cv:Value),HR μ B0 h w ->dC μ a cv ->dC (tH (gd μ.s B0 w)) v cv
def bq (h:Heap) (l l':AV):Prop:=∀(μ:Mu) (B0:Nat) (w:World) (xs:List Value),HR μ B0 h w ->cJ μ l xs ->cJ (tH (gd μ.s B0 w)) l' xs
def dj (l:AV):Prop:=∀(μ μ':Mu) (xs:List Value),(∀b c,μ.s b=some c ->μ'.s b=some c) ->cJ μ l xs ->cJ μ' l xs
def cN (a:AV):Prop:=∀(μ μ':Mu) (cv:Value),(∀b c,μ.s b=some c ->μ'.s b=some c) ->dC μ a cv ->dC μ' a cv
theorem dj.nil:dj .nil:=λμ μ' xs _ h=>h
theorem dj.cons {a t:AV} (ha:cN a) (ht:dj t):dj (.cons a t):=λμ μ' xs hs h=>let ⟨v,r,e,h1,h2⟩:=h;⟨v,r,e,ha μ μ' v hs h1,ht μ μ' r hs h2⟩
theorem cN.agg {l:AV} (h:dj l):cN (.agg l):=λμ μ' cv hs hv=>let ⟨c,e,h1⟩:=hv;⟨c,e,h μ μ' _ hs h1⟩
theorem cN.aS {l:AV} (h:dj l):cN (.aS l):=λμ μ' cv hs hv=>let ⟨c,e,h1⟩:=hv;⟨c,e,h μ μ' _ hs h1⟩
theorem cN.ro {n:Nat} {l:AV}:cN (.ro n l):=λμ μ' cv hs hv=>by
 obtain⟨xs,h1,h2⟩:=hv;refine⟨xs,h1.mono (μ:=μ.pure) (μ':=μ'.pure) ⟨(λ_ _ e=>by cases e),hs⟩,?_⟩;rcases h2 with ⟨b,o,c,e,hn,h3⟩|h2
 .exact .inl ⟨b,o,c,e,hn,h3.mono hs⟩
 .exact .inr h2
theorem cN.dq {l:AV} {k:Nat}:cN (.dq l k):=λμ μ' cv hs hv=>by
 obtain⟨b,o,xs,e,h1,h2⟩:=hv;exact⟨b,o,xs,e,h1.mono (μ:=μ.pure) (μ':=μ'.pure) ⟨(λ_ _ e=>by cases e),hs⟩,h2.mono hs⟩
theorem cN.int {k:IntKind} {n:Int}:cN (.int k n):=λ_ _ _ _ h=>h
theorem cN.bool {b:Bool}:cN (.bool b):=λ_ _ _ _ h=>h
theorem cN.str {b:List Nat}:cN (.str b):=λ_ _ _ _ h=>h
theorem cN.fy:cN .fy:=λ_ _ _ _ h=>h
theorem cN.fn {g:FuncId}:cN (.func (.func g) .nil .nil):=λ_ _ _ _ h=>h
theorem bq.pure {h:Heap} {l:AV} (hl:dj l):bq h l l:=λμ B0 w xs hr hv=>by
 have h1:=iC hr;exact hl μ (tH (gd μ.s B0 w)) xs h1.le hv
theorem ak.pure {h:Heap} {a:AV} (ha:cN a):ak h a a:=λμ B0 w cv hr hv=>ha μ (tH (gd μ.s B0 w)) cv (iC hr).le hv
theorem bq.nil {h:Heap}:bq h .nil .nil:=bq.pure .nil
theorem bq.cons {h:Heap} {a b t u:AV} (ha:ak h a b) (ht:bq h t u):bq h (.cons a t) (.cons b u):=λμ B0 w xs hr hv=>
 let ⟨v,r,e,h1,h2⟩:=hv;⟨v,r,e,ha μ B0 w v hr h1,ht μ B0 w r hr h2⟩
theorem ak.agg {h:Heap} {l u:AV} (hl:bq h l u):ak h (.agg l) (.agg u):=λμ B0 w cv hr hv=>let ⟨c,e,h1⟩:=hv;⟨c,e,hl μ B0 w _ hr h1⟩
theorem ak.aS {h:Heap} {l u:AV} (hl:bq h l u):ak h (.aS l) (.aS u):=λμ B0 w cv hr hv=>let ⟨c,e,h1⟩:=hv;⟨c,e,hl μ B0 w _ hr h1⟩
theorem ak.bt {h:Heap}:ak h .bt (.ro 0 .nil):=λμ B0 w cv hr hv=>⟨[],rfl,.inr ⟨rfl,rfl,none,hv⟩⟩
theorem ak.gs {h:Heap} {id:Pos} {n sz:Nat} {l l':AV} {ro:Bool} (hg:h.t.get id=some (.gl l ro)) (hn:l.len=n*sz) (hl:bq h l l'):ak h (.gs id n sz) (.ro n l'):=by
 intro μ B0 w cv hr hv;obtain⟨B,hB,hx⟩:=hv;have AD:=hr.obj id B _ hB hg;rcases AD with ⟨h1,rfl⟩|⟨xs,h1,h2,c,el,fz,h3,h4,h5,h6,h7⟩
 .have h2:=hl μ B0 w [] hr rfl;refine⟨[],h2,?_⟩;rcases hx with ⟨c,hx,uO,_⟩|⟨e0,hx⟩
  .exact .inl ⟨_,_,c,hx,uO,.inl rfl⟩
  .exact .inr ⟨e0,rfl,none,hx⟩
 .have hp:=hl μ B0 w xs hr h1;refine⟨xs,hp,?_⟩;rcases hx with ⟨c',hx,uO,_⟩|⟨e0,hx⟩
  .refine .inl ⟨_,_,c',hx,uO,?_⟩;by_cases dF:(AO.gl l ro).cU B
   .obtain⟨e1,_,e2⟩:=dF;refine .inl ?_;cases xs with
    |nil=>rfl|cons _ _=>simp at h2;omega
   .refine .inr ⟨c,?_,h7⟩;show gd μ.s B0 w B.b=some c;cases ro with
    |true=>exact(iC hr).le _ _ (h6 rfl)|false=>exact nn hr ((hr.own id B _ hB hg rfl).resolve_left dF) h3
  .refine .inr ⟨e0,?_,none,hx⟩;have:=h1.len;rw [hn,e0,Nat.zero_mul]at this;cases xs with
   |nil=>rfl|cons _ _=>simp at this
theorem ak.slice {h:Heap} {id:Pos} {off n cap sz:Nat} {l l0 l':AV} (hg:h.t.get id=some (.gl l0 false)) (hc:dS (n*sz) (cZ off l0)=some l) (hl:bq h l l'):ak h (.slice id off n cap sz) (.ro n l'):=by
 intro μ B0 w cv hr hv;obtain⟨B,c',hB,hx,AJ,Fi,tm⟩:=hv;have AD:=hr.obj id B _ hB hg;rcases AD with ⟨h1,rfl⟩|⟨xs,h1,h2,c,el,fz,h3,h4,h5,h6,h7⟩
 .obtain⟨g1,g2⟩:=cJ.take_drop (μ:=μ) (n*sz) off (vs:=[]) (show cJ μ .nil []from rfl) hc;have:cJ μ l []:=by simpa using g1
  exact⟨[],hl μ B0 w [] hr this,.inl ⟨_,_,c',hx,by omega,.inl rfl⟩⟩
 .obtain⟨g1,g2⟩:=cJ.take_drop (n*sz) off h1 hc;refine⟨_,hl μ B0 w _ hr g1,.inl ⟨_,_,c',hx,by omega,?_⟩⟩;by_cases dF:(AO.gl l0 false).cU B
  .obtain⟨e1,_,e2⟩:=dF;refine .inl ?_;have:xs=[]:=by
    cases xs with
    |nil=>rfl|cons _ _=>simp at h2;omega
   rw [this];simp
  .refine .inr ⟨c,nn hr ((hr.own id B _ hB hg rfl).resolve_left dF) h3,λj v hj=>?_⟩;rw [List.getElem?_take]at hj;split at hj
   .rw [List.getElem?_drop]at hj;have:=h7 _ v hj;rwa [show B.base+(off+j)=B.base+off+j by omega]at this
   .cases hj
theorem ak.ptr {h:Heap} {id:Pos} {n off:Nat} {t:Tr AV} {l l':AV} (hg:h.t.get id=some (.cells t n false)) (hc:Ay t n 0=some l) (hl:bq h l l'):ak h (.ptr id off) (.dq l' off):=by
 intro μ B0 w cv hr hv;obtain⟨B,hB,hx⟩:=hv;obtain⟨h0,c,el,fz,h1,h2,h3,h4⟩:=hr.obj id B _ hB hg;obtain⟨vs,h5,h6,h7⟩:=lX (f:=λk=>c[B.base+k]?) (λk v e=>(h4 k v e).2) _ hc;refine⟨B.b,B.base,vs,hx,hl μ B0 w vs hr h5,.inr ⟨c,nn hr ((hr.own id B _ hB hg rfl).resolve_left fo) h1,λj v hj=>by simpa using h7 j v hj⟩⟩
def fM (o:Option Heap) (k:Heap ->Prop):Prop:=Option.casesOn (motive:=λ_=>Prop) o False k
def fLo (o:Option AV) (k:AV ->Prop):Prop:=Option.casesOn (motive:=λ_=>Prop) o False k
def Fin (P:Program) (fn:Func) (v:AV):KC:=λr m h=>fM (gu m h) λh2=>fLo (pP P fn.results.toList r h2) λl=>fV (yl l) λu=>ak h2 u v
theorem XU {P:Program} {fn:Func} {v:AV} {r:Tr AV} {m:List Pos} {h:Heap} (hf:Fin P fn v r m h):∃h2 l,gu m h=some h2/\pP P fn.results.toList r h2=some l/\ak h2 (yl l) v:=by
 unfold Fin at hf;cases h1:gu m h with
 |none=>rw [h1]at hf;exact hf.elim|some h2=>
  rw [h1]at hf;change fLo (pP P fn.results.toList r h2) (λl=>fV (yl l) λu=>ak h2 u v)at hf;cases h3:pP P fn.results.toList r h2 with
  |none=>rw [h3]at hf;exact hf.elim|some l=>
   rw [h3]at hf;change fV (yl l) (λu=>ak h2 u v)at hf;rw [Sw]at hf;exact⟨h2,l,rfl,h3,hf⟩
theorem PF.yW (hlen:aT.l.length<=64) {f:FuncId} {fn:Func} {c:Code} (hf:P.funcs[f]?=some fn) (hb:fn.body=some c) {aZs v:AV} {r:Tr AV} (gm:iH aZs 0 fn.ntmps .leaf=some r) (hpure:dj aZs) {call:eL ->AV ->Heap ->CR} {h0:Heap}
  (aio:∀q p,h0.t.get q=some p ->(lW aT.l 64).t.get q=some p) (h0n:h0.n=pathOf 64)
  (hw:∀B0,Cw P B0 ⟨P,f,fn.ntmps,none,call,0⟩ c r [] h0 (QK (Fin P fn v) (Fin P fn v) (λ_ _ _ _=>False))):PF P f aZs v:=by
 intro s w hs ht cargs eR;have Dh:HR (Ra w s) w.heap.size h0 w:=by
  have:=(Gf hlen hs ht).less h0.t aio;obtain⟨t,n⟩:=h0;cases h0n;exact this
 have acL:cJ (Ra w s) aZs cargs.toList:=hpure (tH s) (Ra w s) _ (λ_ _ e=>e) eR;obtain⟨SF,mo⟩:=tE gm acL;have hsz:cargs.size<=fn.ntmps:=by
  rcases SF with e|e
  .have:cargs.size=0:=(by rw [<-Array.length_toList,e];rfl);omega
  .rw [Array.length_toList]at e;omega
 have hRR:RR (Ra w s) r (cargs++Array.replicate (fn.ntmps - cargs.size) undef):=by
  intro k u hk;rcases mo k u hk with ⟨_,cv,h1,h2⟩|h1
  .refine⟨cv,?_,h2⟩;have h1:cargs[k]?=some cv:=(by simpa using h1);obtain⟨cR,_⟩:=Array.getElem?_eq_some_iff.1 h1;rw [Array.getElem?_append_left cR];exact h1
  .cases h1
 have Po:AR (Ra w s) fn.ntmps r [] ⟨cargs++Array.replicate (fn.ntmps - cargs.size) undef,[]⟩:=⟨hRR,by simp;omega,aB⟩
 have fin:∀(r1:Tr AV) (m1:List Pos) (h1:Heap) (μ1:Mu) (a1:Act) (w1:World) (k1:List Item) (cs:List Frame),Fin P fn v r1 m1 h1 ->XT (Ra w s) h0.n w.heap.size w μ1 h1 w1 ->AR μ1 fn.ntmps r1 m1 a1 ->
   Steps P (lone (Frame.enter P f cargs .normal) cs w) (lone {(Frame.enter P f cargs .normal).atR a1 k1 with mode:= .returning} cs w1) ->
   ∃e w' fr,(∃(cv:Value) (s':om),e=Ending.returned cv/\Grow w.heap.size s s'/\mC s' w'/\dC (tH s') v cv/\Below w.heap.size w w')/\Comes P (lone (Frame.enter P f cargs .normal) cs w) (lone fr cs w') e/\fr.fn=f/\fr.leaving P w' e:=by
  intro r1 m1 h1 μ1 a1 w1 k1 cs mT hp ha dA;obtain⟨h2,l,htm,oi,SG⟩:=XU mT;obtain⟨w2,lq,lr⟩:=nj (P:=P) m1 {(Frame.enter P f cargs .normal).atR a1 k1 with mode:= .returning} cs hp.rel ha.dr htm rfl;obtain⟨cv,bu,hv⟩:=nO (fn:=fn) lq.rel ha.rr oi;exact⟨.returned cv,w2,_,⟨cv,gd μ1.s w.heap.size w2,rfl,hp.dK.g.trans (iC lq.rel),yV lq.rel,SG μ1 w.heap.size w2 cv lq.rel hv,hp.below.trans lq.below⟩,dA.trans lr,rfl,rfl,rfl,rfl,fn,hf,bu⟩
 intro cs;have heq:=yP (P:=P) (cargs:=cargs) hf hb;have Su:∀μ n,Rb μ n ⟨P,f,fn.ntmps,none,call,0⟩ (Frame.enter P f cargs .normal):=λ_ _=> .none rfl rfl rfl rfl;obtain⟨x,hq,hx⟩:=hw w.heap.size (Ra w s) w (Frame.enter P f cargs .normal) _ [] cs Dh Po (Su _ _);cases x with
 |fail=>exact hx.elim|exit i r1 m1 h1=>exact hq.elim|ok r1 m1 h1=>
  obtain⟨μ1,a1,w1,hp,ha,dA⟩:=hx;have dA:=jw heq dA;exact fin r1 m1 h1 μ1 a1 w1 [] cs hq hp ha (dA.trans (.one (stepR_end rfl)))
 |ret r1 m1 h1=>
  obtain⟨μ1,a1,w1,hp,ha,k',dA⟩:=hx;have dA:=jw heq dA;exact fin r1 m1 h1 μ1 a1 w1 _ cs hq hp ha (dA.trans (.one (stepR_ret rfl)))
theorem PF.of_wp (hm:P.follows .mixedOrders=true) (hlen:aT.l.length<=64) {f:FuncId} {fn:Func} {c:Code} (hf:P.funcs[f]?=some fn) (hb:fn.body=some c) {aZs v:AV} {r:Tr AV} (gm:iH aZs 0 fn.ntmps .leaf=some r) (hpure:dj aZs) {call:eL ->AV ->Heap ->CR}
  (aZ:∀B0,aU P B0 call) (hw:∀B0,wp P B0 ⟨P,f,fn.ntmps,none,call,0⟩ c (Fin P fn v) (Fin P fn v) (λ_ _ _ _=>False) r [] ⟨.leaf,pathOf 64⟩):PF P f aZs v:=
 .yW hlen hf hb gm hpure (h0:=⟨.leaf,pathOf 64⟩) (λ_ _ e=>by cases e) rfl (λB0=>aD hm rfl rfl (aZ B0) c (hw B0))
end
section
variable [aT] {P:Program}
section
def jk (flat:Bool) (h:Heap):AV ->AV
 | .gs id n sz=>(match h.t.get id with|some (.gl l _)=> .ro n l|_=> .gs id n sz)
 | .slice id off n cap sz=>(match h.t.get id with|some (.gl l _)=>(match dS (Nat.mul n sz) (cZ off l)with|some l'=> .ro n l'|none=> .slice id off n cap sz)|_=> .slice id off n cap sz)
 | .ptr id off=>(match h.t.get id with
  |some (.gl l _)=> .dq l off|some (.cells t n _)=>Bool.casesOn (motive:=λ_=>AV) flat (.ptr id off) (match Ay t n 0 with|some l=> .dq l off|none=> .ptr id off)|_=> .ptr id off)
 | .bt=> .ro 0 .nil| .func fn f c=> .func fn (jk flat h f) (jk flat h c)| .agg l=> .agg (jk flat h l)| .aS l=> .aS (jk flat h l)| .cons a t=> .cons (jk flat h a) (jk flat h t)|v=>v
def ij (h:Heap):AV ->Prop
 | .gs id n sz=>(match h.t.get id with|some (.gl l _)=>n*sz=l.len|_=>True)
 | .func _ f c=>ij h f/\ij h c| .agg l=>ij h l| .aS l=>ij h l| .cons a t=>ij h a/\ij h t|_=>True
def jl:AV ->List Pos
 | .gs id _ _=>[id]
 | .slice id _ _ _ _=>[id]
 | .ptr id _=>[id]
 | .func _ f c=>jl f++jl c| .agg l=>jl l| .aS l=>jl l| .cons a t=>jl a++jl t|_=>[]
def Fk (h:Heap):List Pos ->Heap
 |[]=>h|id::l=>(match h.t.get id with|some (.gl g _)=>Fk ⟨h.t.set (.gl g true) id,h.n⟩ l|_=>Fk h l)
end
def DP:AV ->Prop
 | .undef=>True| .bool _=>True| .int _ _=>True| .xp _ _ _=>True| .str _=>True| .pZ _=>True| .ro _ l=>dj l| .dq l _=>dj l| .fy=>True| .bt=>True| .qa=>True| .kR=>True| .lM=>True| .func _ f c=>DP f/\DP c| .agg l=>DP l| .aS l=>DP l| .nil=>True| .cons a t=>DP a/\DP t|_=>False
theorem DP.pure {μ μ':Mu} (hs:∀b c,μ.s b=some c ->μ'.s b=some c) {a:AV}:∀{b:Bool} {vs:List Value},DP a ->VR μ a b vs ->VR μ' a b vs:=by
 have hp:μ.pure.le μ'.pure:=⟨(λ_ _ e=>by cases e),hs⟩
 induction a with
 |cons x t IM oQ=>
  intro b vs hd h;cases b with
  |false=>exact h|true=>obtain⟨v,r,e,h1,h2⟩:=h;exact⟨v,r,e,IM hd.1 h1,oQ hd.2 h2⟩
 |func fn f c ihf ihc=>
  intro b vs hd h;cases b with
  |true=>exact h|false=>obtain⟨F,C,e,h0,h1,h2⟩:=h;exact⟨F,C,e,h0,ihf hd.1 h1,ihc hd.2 h2⟩
 |agg l ih=>
  intro b vs hd h;cases b with
  |true=>exact h|false=>obtain⟨c,e,h1⟩:=h;exact⟨c,e,ih hd h1⟩
 |aS l ih=>
  intro b vs hd h;cases b with
  |true=>exact h|false=>obtain⟨c,e,h1⟩:=h;exact⟨c,e,ih hd h1⟩
 |ro n l ih=>
  intro b vs hd h;cases b with
  |true=>exact h|false=>
   obtain⟨xs,h1,h2⟩:=h;refine⟨xs,h1.mono hp,?_⟩;rcases h2 with ⟨b,o,c,e,hn,h3⟩|h2
   .exact .inl ⟨b,o,c,e,hn,h3.mono hs⟩
   .exact .inr h2
 |dq l k ih=>
  intro b vs hd h;cases b with
  |true=>exact h|false=>obtain⟨bb,o,xs,e,h1,h2⟩:=h;exact⟨bb,o,xs,e,h1.mono hp,h2.mono hs⟩
 |ptr _ _=>intro b vs hd h;exact hd.elim|slice _ _ _ _ _=>intro b vs hd h;exact hd.elim|gs _ _ _=>intro b vs hd h;exact hd.elim|sle _ _=>intro b vs hd h;exact hd.elim|map _=>intro b vs hd h;exact hd.elim|yield _=>intro b vs hd h;exact hd.elim|iface _ _ _=>intro b vs hd h;exact hd.elim|_=>intro b vs hd h;cases b<;>exact h
def snap (w:World) (b:Nat):Option (Array Value):=match w.heap[b]? with|some (.cells c _ _)=>some c|_=>none
theorem nq {w:World} {b:Nat} {c:Array Value} {el:TypeId} {fz:Nat×Nat} (h:w.heap[b]?=some (.cells c el fz)):snap w b=some c:=by unfold snap;rw [h]
theorem BN {flat:Bool} {μ:Mu} {B0:Nat} {h:Heap} {w:World} (hr:HR μ B0 h w) {s:om} (hs:∀b c,μ.s b=some c ->s b=some c) {a:AV}:
  ∀{b:Bool} {vs:List Value},(∀id∈jl a,∀B l ro,μ id=some B ->h.t.get id=some (.gl l ro) ->¬(AO.gl l ro).cU B ->s B.b=snap w B.b) ->(flat=true ->∀b,s b=snap w b) ->ij h a ->DP (jk flat h a) ->VR μ a b vs ->VR (tH s) (jk flat h a) b vs:=by
 have hp:μ.pure.le (tH s).pure:=⟨(λ_ _ e=>by cases e),hs⟩
 have same:∀{a:AV} {b:Bool} {vs:List Value},DP a ->VR μ a b vs ->VR (tH s) a b vs:=λhd hv=>DP.pure (μ':=tH s) hs hd hv;induction a with
 |cons x t IM oQ=>
  intro b vs hl hf hb hd hv;cases b with
  |false=>exact hv|true=>
   obtain⟨v,r,e,h1,h2⟩:=hv;exact⟨v,r,e,IM (λid hi=>hl id (List.mem_append.2 (.inl hi))) hf hb.1 hd.1 h1,oQ (λid hi=>hl id (List.mem_append.2 (.inr hi))) hf hb.2 hd.2 h2⟩
 |agg l ih=>
  intro b vs hl hf hb hd hv;cases b with
  |true=>exact hv|false=>obtain⟨c,e,h1⟩:=hv;exact⟨c,e,ih hl hf hb hd h1⟩
 |aS l ih=>
  intro b vs hl hf hb hd hv;cases b with
  |true=>exact hv|false=>obtain⟨c,e,h1⟩:=hv;exact⟨c,e,ih hl hf hb hd h1⟩
 |func fn f c ihf ihc=>
  intro b vs hl hf hb hd hv;cases b with
  |true=>exact hv|false=>
   obtain⟨F,C,e,h0,h1,h2⟩:=hv;exact⟨F,C,e,h0,ihf (λid hi=>hl id (List.mem_append.2 (.inl hi))) hf hb.1 hd.1 h1,ihc (λid hi=>hl id (List.mem_append.2 (.inr hi))) hf hb.2 hd.2 h2⟩
 |bt=>
  intro b vs hl hf hb hd hv;cases b with
  |true=>exact hv|false=>exact⟨[],rfl,.inr ⟨rfl,rfl,none,hv⟩⟩
 |gs id n sz=>
  intro b vs hl hf hb hd hv;cases b with
  |true=>
   exfalso;exact hv
  |false=>
   obtain⟨B,hB,hx⟩:=hv;unfold jk at hd ⊢;split
   .rename_i l ro hg;simp only [hg]at hd;have hn:n*sz=l.len:=by unfold ij at hb;simpa only [hg]using hb
    .have nK:dj l:=hd;rcases hr.obj id B _ hB hg with ⟨h1,rfl⟩|⟨xs,h1,h2,c,el,fz,h3,h4,h5,h6,h7⟩
     .refine⟨[],rfl,?_⟩;rcases hx with ⟨c,hx,uO,_⟩|⟨e0,hx⟩
      .exact .inl ⟨_,_,c,hx,uO,.inl rfl⟩
      .exact .inr ⟨e0,rfl,none,hx⟩
     .refine⟨xs,nK μ (tH s).pure xs hs h1,?_⟩;rcases hx with ⟨c',hx,uO,_⟩|⟨e0,hx⟩
      .refine .inl ⟨_,_,c',hx,uO,?_⟩;by_cases dF:(AO.gl l ro).cU B
       .obtain⟨e1,_,e2⟩:=dF;refine .inl ?_;cases xs with
        |nil=>rfl|cons _ _=>simp at h2;omega
       .exact .inr ⟨c,by rw [show(tH s).s B.b=s B.b from rfl,hl id (by simp [jl]) B l ro hB hg dF];exact nq h3,h7⟩
      .refine .inr ⟨e0,?_,none,hx⟩;have:=h1.len;rw [<-hn,e0,Nat.zero_mul]at this;cases xs with
       |nil=>rfl|cons _ _=>simp at this
   .rename_i dD;exfalso;split at hd
    .rename_i l ro hg;exact dD l ro hg
    .exact hd
 |slice id off n cap sz=>
  intro b vs hl hf hb hd hv;cases b with
  |true=>exfalso;exact hv|false=>
   obtain⟨B,c',hB,hx,AJ,Fi,tm⟩:=hv;unfold jk at hd ⊢;split
   .rename_i l0 ro hg;simp only [hg]at hd;split
    .rename_i l' ht;simp only [ht]at hd;have nK:dj l':=hd;rcases hr.obj id B _ hB hg with ⟨h1,rfl⟩|⟨xs,h1,h2,c,el,fz,h3,h4,h5,h6,h7⟩
     .obtain⟨g1,g2⟩:=cJ.take_drop (μ:=μ) _ off (vs:=[]) (show cJ μ .nil []from rfl) ht;have g1:cJ μ l' []:=(by simpa using g1);exact⟨[],nK μ (tH s).pure [] hs g1,.inl ⟨_,_,c',hx,by omega,.inl rfl⟩⟩
     .obtain⟨g1,g2⟩:=cJ.take_drop _ off h1 ht;refine⟨_,nK μ (tH s).pure _ hs g1,.inl ⟨_,_,c',hx,by omega,?_⟩⟩;by_cases dF:(AO.gl l0 ro).cU B
      .obtain⟨e1,_,e2⟩:=dF;refine .inl ?_;have:xs=[]:=by
        cases xs with
        |nil=>rfl|cons _ _=>simp at h2;omega
       rw [this];simp
      .refine .inr ⟨c,by rw [show(tH s).s B.b=s B.b from rfl,hl id (by simp [jl]) B l0 ro hB hg dF];exact nq h3,λj v hj=>?_⟩;rw [List.getElem?_take]at hj;split at hj
       .rw [List.getElem?_drop]at hj;have:=h7 _ v hj;rwa [show B.base+(off+j)=B.base+off+j by omega]at this
       .cases hj
    .rename_i ht;simp only [ht]at hd;exact hd.elim
   .rename_i dD;exfalso;split at hd
    .rename_i l ro hg;exact dD l ro hg
    .exact hd
 |ptr id off=>
  intro b vs hl hf hb hd hv;cases b with
  |true=>exfalso;exact hv|false=>
   obtain⟨B,hB,hx⟩:=hv;unfold jk at hd ⊢;split
   .rename_i l ro hg;simp only [hg]at hd;have nK:dj l:=hd;rcases hr.obj id B _ hB hg with ⟨h1,rfl⟩|⟨xs,h1,h2,c,el,fz,h3,h4,h5,h6,h7⟩
    .exact⟨B.b,B.base,[],hx,rfl,.inl rfl⟩
    .refine⟨B.b,B.base,xs,hx,nK μ (tH s).pure xs hs h1,?_⟩;by_cases dF:(AO.gl l ro).cU B
     .obtain⟨e1,_,e2⟩:=dF;refine .inl ?_;cases xs with
      |nil=>rfl|cons _ _=>simp at h2;omega
     .exact .inr ⟨c,by rw [show(tH s).s B.b=s B.b from rfl,hl id (by simp [jl]) B l ro hB hg dF];exact nq h3,h7⟩
   .rename_i t n ro hg;simp only [hg]at hd;cases flat with
    |false=>exact hd.elim|true=>
     simp only at hd ⊢;split
     .rename_i l hc;simp only [hc]at hd;have nK:dj l:=hd;obtain⟨h0,c,el,fz,h1,h2,h3,h4⟩:=hr.obj id B _ hB hg;obtain⟨xs,h5,h6,h7⟩:=lX (f:=λk=>c[B.base+k]?) (λk v e=>(h4 k v e).2) _ hc;exact⟨B.b,B.base,xs,hx,nK μ (tH s).pure xs hs h5,.inr ⟨c,by rw [show(tH s).s B.b=s B.b from rfl,hf rfl];exact nq h1,λj v hj=>by simpa using h7 j v hj⟩⟩
     .rename_i hc;simp only [hc]at hd;exact hd.elim
   .rename_i aip aiq;exfalso;split at hd
    .rename_i l ro hg;exact aip l ro hg
    .rename_i t n ro hg;exact aiq t n ro hg
    .exact hd
 |_=>intro b vs hl hf hb hd hv;exact same hd hv
end
section
variable [aT] {P:Program}
def SI (v:AV):Prop:=∀(μ μ':Mu) (cv:Value),dC μ v cv ->dC μ' v cv
structure Cn (P:Program):Type 1 where
 f:FuncId
 flat:Bool
 α:Type
 aZs:α ->AV
 v:α ->AV
 ok:α ->Prop
 inj:∀a b,ok a ->ok b ->aZs a=aZs b ->v a=v b
 dp:∀a,DP (aZs a)
 pv:∀a,cN (v a)
 fl:flat=true ->∀a,SI (v a)
 pf:∀a,ok a ->PF P f (aZs a) (v a)
 bd:∃fn,P.funcs[f]?=some fn/\fn.body.isSome=true
def Cn.meets (c:Cn P) (f:FuncId) (aZs:AV) (h:Heap) (v:AV) (h':Heap):Prop:=
 c.f=f/\ij h aZs/\(∃a,c.ok a/\c.aZs a=jk c.flat h aZs/\c.v a=v)/\h'=(if c.flat then h else Fk h (jl aZs))
theorem Cn.Py {c:Cn P} {f:FuncId} {aZs:AV} {h:Heap} {v v':AV} {h1 h2:Heap} (m1:c.meets f aZs h v h1) (m2:c.meets f aZs h v' h2):v=v'/\h1=h2:=by
 obtain⟨_,_,⟨a,a1,a2,a3⟩,a4⟩:=m1;obtain⟨_,_,⟨b,b1,b2,b3⟩,b4⟩:=m2;exact⟨by rw [<-a3,<-b3];exact c.inj a b a1 b1 (a2.trans b2.symm),a4.trans b4.symm⟩
open Classical in
def aH (l:List (Cn P)):eL ->AV ->Heap ->CR:=λt aZs h=>
 match t with
 | .rd _=> .fail| .fn f=>match l with
  |[]=> .fail|c::l=>if hx:∃p:AV×Heap,c.meets f aZs h p.1 p.2 then .ret hx.choose.1 hx.choose.2 else aH l (.fn f) aZs h
theorem Pz {l:List (Cn P)} {f:FuncId} {aZs:AV} {h:Heap} {v:AV} {h':Heap} (e:aH l (.fn f) aZs h= .ret v h'):∃c∈l,c.meets f aZs h v h':=by
 induction l with
 |nil=>unfold aH at e;cases e|cons c l ih=>
  unfold aH at e;simp only at e;split at e
  .rename_i hx;have:=hx.choose_spec;cases e;exact⟨c,by simp,this⟩
  .obtain⟨d,h1,h2⟩:=ih e;exact⟨d,by simp [h1],h2⟩
theorem BO {l:List (Cn P)} (hl:l.Pairwise (λc d=>c.f≠d.f)) {c:Cn P} (hc:c∈l) {f:FuncId} {aZs:AV} {h:Heap} {v:AV} {h':Heap} (hm:c.meets f aZs h v h'):aH l (.fn f) aZs h= .ret v h':=by
 induction l with
 |nil=>cases hc|cons d l ih=>
  unfold aH;simp only;rcases List.mem_cons.1 hc with e|e
  .subst e;have hx:∃p:AV×Heap,c.meets f aZs h p.1 p.2:=⟨(v,h'),hm⟩
   rw [dif_pos hx];obtain⟨e1,e2⟩:=Cn.Py hx.choose_spec hm;rw [e1,e2]
  .rw [dif_neg]
   .exact ih (List.pairwise_cons.1 hl).2 e
   .rintro ⟨p,hp⟩;have:=(List.pairwise_cons.1 hl).1 c e;exact this (hp.1.trans hm.1.symm)
def afu (μ:Mu) (h:Heap) (w:World) (L:List Pos) (b:Nat):Prop:=∃id∈L,∃B l ro,μ id=some B/\h.t.get id=some (.gl l ro)/\¬(AO.gl l ro).cU B/\B.b=b
open Classical in
def ko (μ:Mu) (h:Heap) (w:World) (L:List Pos):om:=λb=>if afu μ h w L b then snap w b else μ.s b
theorem Gp {μ:Mu} {B0:Nat} {h:Heap} {w:World} (hr:HR μ B0 h w) {id:Pos} {B:nJ} {l:AV} {ro:Bool} (hB:μ id=some B) (hg:h.t.get id=some (.gl l ro)) (dF:¬(AO.gl l ro).cU B):
  ∃c el fz,w.heap[B.b]?=some (.cells c el fz)/\snap w B.b=some c/\(ro=true ->μ.s B.b=some c):=by
 rcases hr.obj id B _ hB hg with ⟨h1,rfl⟩|⟨xs,h1,h2,c,el,fz,h3,h4,h5,h6,h7⟩
 .exact absurd ⟨h1,_,rfl⟩ dF
 .exact⟨c,el,fz,h3,nq h3,h6⟩
theorem eU {μ:Mu} {B0:Nat} {h:Heap} {w:World} (hr:HR μ B0 h w) (L:List Pos):Grow B0 μ.s (ko μ h w L):=by
 constructor
 .intro b c e;unfold ko;split
  .rename_i hx;obtain⟨el,fz,h1⟩:=hr.Ar b c e;exact nq h1
  .exact e
 .intro b c e;unfold ko at e;split at e
  .rename_i hx;obtain⟨id,hid,B,l,ro,h1,h2,h3,rfl⟩:=hx;obtain⟨c',el,fz,g1,g2,g3⟩:=Gp hr h1 h2 h3;cases ro with
   |true=>rw [g2]at e;cases e;exact .inl (g3 rfl)|false=>exact .inr ((hr.own id B _ h1 h2 rfl).resolve_left h3)
  .exact .inl e
theorem Gq {μ:Mu} {B0:Nat} {h:Heap} {w:World} (hr:HR μ B0 h w) (L:List Pos):mC (ko μ h w L) w:=by
 intro b c e;unfold ko at e;split at e
 .unfold snap at e;split at e
  .rename_i c' el fz h1;cases e;exact⟨el,fz,h1⟩
  .cases e
 .exact hr.Ar b c e
theorem SJ (L:List Pos):∀(h:Heap),(Fk h L).n=h.n:=by
 induction L with
 |nil=>intro h;rfl|cons id L ih=>
  intro h;unfold Fk;split
  .rw [ih]
  .rw [ih]
theorem xJ (L:List Pos):∀(h:Heap) (q:Pos) (o:AO),(Fk h L).t.get q=some o ->(h.t.get q=some o/\∀l ro,q∈L ->o= .gl l ro ->ro=true)\/(q∈L/\∃l ro,o= .gl l true/\h.t.get q=some (.gl l ro)):=by
 induction L with
 |nil=>intro h q o e;exact .inl ⟨e,λ_ _ hq=>by cases hq⟩|cons id L ih=>
  intro h q o e;unfold Fk at e;split at e
  .rename_i g ro hg;rcases ih _ q o e with ⟨h1,h2⟩|⟨h1,l,Xt,h2,h3⟩
   .have h1:(Tr.set (AO.gl g true) h.t id).get q=some o:=h1;rw [Tr.bE]at h1;by_cases hq:q=id
    .rw [if_pos hq]at h1;cases h1;exact .inr ⟨by simp [hq],g,ro,rfl,by rw [hq];exact hg⟩
    .rw [if_neg hq]at h1;refine .inl ⟨h1,λl ro hm e=>?_⟩;rcases List.mem_cons.1 hm with e2|e2
     .exact absurd e2 hq
     .exact h2 l ro e2 e
   .have h3:(Tr.set (AO.gl g true) h.t id).get q=some (.gl l Xt):=h3;rw [Tr.bE]at h3;by_cases hq:q=id
    .rw [if_pos hq]at h3;cases h3;exact .inr ⟨by simp [hq],g,ro,h2,by rw [hq];exact hg⟩
    .rw [if_neg hq]at h3;exact .inr ⟨by simp [h1],l,Xt,h2,h3⟩
  .rename_i dD;rcases ih h q o e with ⟨h1,h2⟩|⟨h1,l,Xt,h2,h3⟩
   .refine .inl ⟨h1,λl ro hm e2=>?_⟩;rcases List.mem_cons.1 hm with e3|e3
    .subst e3;subst e2;exact absurd h1 (dD l ro)
    .exact h2 l ro e3 e2
   .exact .inr ⟨by simp [h1],l,Xt,h2,h3⟩
theorem HR.air {μ:Mu} {B0:Nat} {h:Heap} {w:World} (hr:HR μ B0 h w) (L:List Pos) {s':om} {w':World} (hg:Grow w.heap.size (ko μ h w L) s') (hs:mC s' w') (hb:Below w.heap.size w w'):HR ⟨μ.m,s'⟩ B0 (Fk h L) w':=by
 have hle:μ.le ⟨μ.m,s'⟩:=⟨λ_ _ e=>e,λb c e=>hg.le b c ((eU hr L).le b c e)⟩
 have key:∀q o,(Fk h L).t.get q=some o ->∃o',h.t.get q=some o'/\(o=o'\/∃l ro,o= .gl l true/\o'= .gl l ro):=by
  intro q o e;rcases xJ L h q o e with ⟨h1,_⟩|⟨_,l,ro,h2,h3⟩
  .exact⟨o,h1,.inl rfl⟩
  .exact⟨_,h3,.inr ⟨l,ro,h2,rfl⟩⟩
 have dF:∀{o o':AO} {B:nJ},(o=o'\/∃l ro,o= .gl l true/\o'= .gl l ro) ->o'.cU B ->o.cU B:=by
  rintro o o' B (rfl|⟨l,ro,rfl,rfl⟩) hi
  .exact hi
  .obtain⟨h1,r,h2⟩:=hi;cases h2;exact⟨h1,_,rfl⟩
 refine⟨?_,?_,?_,?_,?_,hr.dO.mono hle,Nat.le_trans hr.size hb.size,hs,?_,hr.tab.mono hle.s⟩
 .intro id B e;rw [SJ];exact hr.fresh id B e
 .intro id o e;obtain⟨o',h1,_⟩:=key id o e;rw [SJ];exact hr.live id o' h1
 .intro id B o e1 e2;have sF:∀{o:AO},AB μ w.heap B o ->AB ⟨μ.m,s'⟩ w'.heap B o:=λho=>(ho.heap (ho.lt.imp (λh=>h) (hb.block _))).mono hle;rcases xJ L h id o e2 with ⟨h1,_⟩|⟨hm,l,ro,rfl,h3⟩
  .exact sF (hr.obj id B o e1 h1)
  .by_cases hi:(AO.gl l ro).cU B
   .obtain⟨g1,r,g2⟩:=hi;cases g2;exact .inl ⟨g1,rfl⟩
   .have:=sF (hr.obj id B _ e1 h3);rcases this with h4|⟨xs,g1,g2,c,el,fz,g3,g4,g5,g6,g7⟩
    .exact absurd ⟨h4.1,ro,by rw [h4.2]⟩ hi
    .obtain⟨c',el',fz',k1,k2,k3⟩:=Gp hr e1 h3 hi;have cR:=(Array.getElem?_eq_some_iff.1 k1).1;have:w'.heap[B.b]?=w.heap[B.b]?:=hb.block _ cR;rw [this,k1]at g3;cases g3;refine .inr ⟨xs,g1,g2,_,_,_,by rw [this];exact k1,g4,g5,λ_=>?_,g7⟩;apply hg.le;unfold ko;rw [if_pos ⟨id,hm,B,l,ro,e1,h3,hi,rfl⟩];exact k2
 .intro i j A B o p pQ e1 e2 e3 e4;obtain⟨o',h1,h2⟩:=key i o e3;obtain⟨p',h3,h4⟩:=key j p e4;rcases hr.sep i j A B o' p' pQ e1 e2 h1 h3 with h5|h5|h5
  .exact .inl h5
  .exact .inr (.inl (dF h2 h5))
  .exact .inr (.inr (dF h4 h5))
 .intro id B o e1 e2 e3;rcases xJ L h id o e2 with ⟨h1,_⟩|⟨_,l,ro,rfl,_⟩
  .exact hr.own id B o e1 h1 e3
  .cases e3
 .intro id B o e1 e2 e3;rcases xJ L h id o e2 with ⟨h1,h2⟩|⟨_,l,ro,rfl,_⟩
  .by_cases hi:o.cU B
   .exact .inl hi
   .refine .inr ?_;have hn:=(hr.apart id B o e1 h1 e3).resolve_left hi;show s' B.b=none;cases Xz:s' B.b with
    |none=>rfl|some c=>
     exfalso;have cR:=(hr.obj id B o e1 h1).lt.resolve_left hi;rcases hg.new _ _ Xz with h5|h5
     .unfold ko at h5;split at h5
      .rename_i hx;obtain⟨id2,ais,B2,l2,ro2,k1,k2,k3,k4⟩:=hx;by_cases hq:id=id2
       .subst hq;rw [e1]at k1;cases k1;rw [h1]at k2;cases k2;have:=h2 l2 ro2 ais rfl;subst this;cases e3
       .rcases hr.sep id id2 B B2 o _ hq e1 k1 h1 k2 with h6|h6|h6
        .exact h6 k4.symm
        .exact hi h6
        .exact k3 h6
      .rw [hn]at h5;cases h5
     .omega
  .cases e3
theorem az (eH:eO P) (l:List (Cn P)) (B0:Nat):aU P B0 (aH l):=by
 intro t aZs h v h' hc μ w hr;cases t with
 |rd id=>unfold aH at hc;cases hc|fn f=>
  obtain⟨c,_,hcf,hbor,⟨a,gy,has,rfl⟩,rfl⟩:=Pz hc;subst hcf;obtain⟨fn,Gb,hb⟩:=c.bd;refine⟨λcargs=>eH _ fn cargs w Gb hb,λcargs eR=>?_⟩;cases hfl:c.flat with
  |true=>
   have Xh:∀b x,μ.s b=some x ->snap w b=some x:=λb x e=>let ⟨el,fz,h1⟩:=hr.Ar b x e;nq h1;have hS:mC (snap w) w:=by
    intro b x e;unfold snap at e;split at e
    .rename_i c' el fz h1;cases e;exact⟨el,fz,h1⟩
    .cases e
   have hv:cJ (tH (snap w)) (c.aZs a) cargs.toList:=by
    rw [has];exact BN hr Xh (λ_ _ _ _ _ _ _ _=>rfl) (λ_ _=>rfl) hbor (by rw [<-has];exact c.dp a) eR
   refine(c.pf a gy (snap w) w hS (hr.tab.mono Xh) cargs hv).mono λe w' ⟨cv,s',he,hg,DD,hvv,rB⟩=>?_;refine⟨cv,μ,he,c.fl hfl a _ _ _ hvv,?_⟩;simp only [if_true];exact bP.same hr rB
  |false=>
   have hv:cJ (tH (ko μ h w (jl aZs))) (c.aZs a) cargs.toList:=by
    rw [has];refine BN hr (eU hr _).le (λid hid B l ro h1 h2 h3=>?_) (λe=>by rw [hfl]at e;cases e) hbor (by rw [<-has];exact c.dp a) eR;unfold ko;rw [if_pos ⟨id,hid,B,l,ro,h1,h2,h3,rfl⟩]
   refine(c.pf a gy _ w (Gq hr _) (hr.tab.mono (eU hr _).le) cargs hv).mono λe w' ⟨cv,s',he,hg,DD,hvv,rB⟩=>?_;simp only [Bool.false_eq_true,if_false];refine⟨cv,⟨μ.m,s'⟩,he,c.pv a (tH s') _ _ (λ_ _ e=>e) hvv,λ_ _=>rfl,by rw [SJ];exact Nat.le_refl _,hr.air (jl aZs) hg DD rB,rB.mono hr.size,?_⟩;exact(eU hr _).trans ⟨hg.le,λb x e=>(hg.new b x e).imp (λh=>h) (λh=>Nat.le_trans hr.size h)⟩
end
section
variable [aT]
abbrev RL:=List (Pos×Option Pos)
section
def look (q:Pos):RL ->Option (Option Pos)
 |[]=>none|(p,o)::l=>Bool.casesOn (motive:=λ_=>Option (Option Pos)) (Pos.beq q p) (look q l) (some o)
def PA (q:Pos):List Pos ->Bool
 |[]=>false|p::l=>Bool.casesOn (motive:=λ_=>Bool) (Pos.beq q p) (PA q l) true
def glb (q:Pos):Bool:=bJ q.toNat 64
def wa (q:Pos) (o:Option Pos):Bool:=Bool.casesOn (motive:=λ_=>Bool) (kept q) true (match o with|some p=>Pos.beq q p|none=>false)
def DS (L:RL) (q old:Pos):Bool:=
 Bool.casesOn (motive:=λ_=>Bool) (kept q) (match look q L with|some (some p)=>Pos.beq p old|_=>false) (Pos.beq q old)
def acM (L:RL) (q:Pos):Bool:=Bool.casesOn (motive:=λ_=>Bool) (kept q) (match look q L with|some none=>true|_=>false) false
abbrev bF (b:Bool) (p:Prop):Prop:=Bool.casesOn (motive:=λ_=>Prop) b False p
def xy (h:Heap) (L:RL) (F:List Pos):AV ->Bool ->AV ->Prop
 | .nil,true,v=>(match v with| .nil=>True|_=>False)
 | .cons a t,true,v=>(match v with| .cons b u=>xy h L F a false b/\xy h L F t true u|_=>False)
 |_,true,_=>False| .nil,false,_=>False| .cons _ _,false,_=>False| .undef,false,_=>True| .bool b,false,v=>(match v with| .bool c=>c=b|_=>False)
 | .int k n,false,v=>(match v with| .int j m=>bF (qb j k) (m=n)|_=>False)
 | .xp k a b,false,v=>(match v with| .xp j c d=>bF (qb j k) (c=a/\d=b)|_=>False)
 | .str s,false,v=>(match v with| .str t=>t=s|_=>False)
 | .pZ s,false,v=>(match v with| .pZ t=>t=s|_=>False)
 | .ptr q o,false,v=>(match v with| .ptr p o'=>bF (DS L q p) (o'=o)|_=>False)
 | .dq l k,false,v=>(match v with| .dq m j=>m=l/\j=k|_=>False)
 | .fy,false,v=>(match v with| .fy=>True|_=>False)
 | .slice q a b c d,false,v=>(match v with| .slice p a' b' c' d'=>bF (DS L q p) (a'=a/\b'=b/\c'=c/\d'=d)|_=>False)
 | .ro n l,false,v=>(match v with
  | .ro m u=>m=n/\u=l| .bt=>n=0/\l= .nil| .gs p m sz=>bF (PA p F) (match h.t.get p with|some (.gl u _)=>m=n/\u=l/\m*sz=u.len/\dj u|_=>False)|_=>False)
 | .gs q n sz,false,v=>(match v with
  | .gs p m nY=>bF (DS L q p) (m=n/\nY=sz)| .bt=>bF (acM L q) (n=0)|_=>False)
 | .sle q s,false,v=>(match v with| .sle p s'=>bF (DS L q p) (s'=s)|_=>False)
 | .bt,false,v=>(match v with| .bt=>True|_=>False)
 | .map q,false,v=>(match v with| .map p=>bF (DS L q p) True|_=>False)
 | .qa,false,v=>(match v with| .qa=>True|_=>False)
 | .func fn f c,false,v=>(match v with| .func gn g d=>gn=fn/\xy h L F f true g/\xy h L F c true d|_=>False)
 | .yield q,false,v=>(match v with| .yield p=>bF (DS L q p) True|_=>False)
 | .kR,false,v=>(match v with| .kR=>True|_=>False)
 | .iface t a,false,v=>(match v with| .iface u b=>u=t/\xy h L F a false b|_=>False)
 | .lM,false,v=>(match v with| .lM=>True|_=>False)
 | .agg l,false,v=>(match v with| .agg m=>xy h L F l true m|_=>False)
 | .aS l,false,v=>(match v with| .aS m=>xy h L F l true m|_=>False)
def SK (h:Heap) (L:RL) (F:List Pos):Tr AV ->Tr AV ->Prop
 | .leaf,_=>True| .node l v r,t=>(match t with
  | .leaf=>False| .node l0 v0 r0=>SK h L F l l0/\(match v,v0 with|none,_=>True|some a,some b=>xy h L F a false b|some _,none=>False)/\SK h L F r r0)
def Mq (l:List (AV×AV)):Prop:=∀x∈l,cN x.1/\cN x.2
theorem Mr {μ μ':Mu} (hs:∀b c,μ.s b=some c ->μ'.s b=some c):∀{i:Nat} {l:List (AV×AV)} {es:List MapEntry},Mq l ->MR μ i l es ->MR μ' i l es
 |_,[],[],_,_=>trivial|_,x::l,e::es,hp,hm=>⟨(hp x (.head _)).1 μ μ' _ hs hm.1,(hp x (.head _)).2 μ μ' _ hs hm.2.1,hm.2.2.1,Mr hs (λy hy=>hp y (.tail _ hy)) hm.2.2.2⟩
 |_,[],_::_,_,hm=>hm.elim|_,_::_,[],_,hm=>hm.elim
def SL (h:Heap) (L:RL) (F:List Pos):AO ->AO ->Prop
 | .cells t n ro,o=>(match o with| .cells t0 n0 ro0=>n0=n/\ro0=ro/\SK h L F t t0|_=>False)
 | .gl l ro,o=>(match o with| .gl l0 ro0=>l0=l/\ro0=ro/\dj l|_=>False)
 | .mp l,o=>(match o with| .mp l0=>l0=l/\Mq l|_=>False)
 | .mi m n s,o=>(match o with| .mi m0 n0 s0=>DS L m m0=true/\n0=n/\s0=s|_=>False)
 | .marks,o=>(match o with| .marks=>True|_=>False)
 | .loop a b c R d e f g q,o=>(match o with| .loop a0 b0 c0 R0 d0 e0 f0 g0 q0=>(a0=a/\b0=b/\c0=c/\d0=d/\e0=e/\f0=f/\g0=g/\q0=q/\kept q=true)/\SK h L F R R0|_=>False)
 |_,_=>False
def SM (h:Heap) (L:RL) (F:List Pos) (r:Tr AV):List (Nat×AV) ->Prop
 |[]=>True|(k,a)::R=>(match r.get (pathOf k)with|some b=>xy h L F a false b|none=>(match a with| .undef=>False|_=>False))/\SM h L F r R
def SN (h:Heap) (L:RL) (F:List Pos):List (Pos×AO) ->Prop
 |[]=>True|(q,o)::H=>(match look q L with
  |some (some p)=>(match h.t.get p with|some o0=>SL h L F o o0|none=>False)
  |some none=>(match o with| .gl .nil false=>True|_=>False)
  |none=>False)/\SN h L F H
def wb (n:Pos):RL ->Bool
 |[]=>true|(p,o)::l=>aF (aY (glb p)) (aF (bJ p.toNat n.toNat) (aF (match look p l with|none=>true|some _=>false) (aF (wa p o) (wb n l))))
def qI (F:List Pos):RL ->Bool
 |[]=>true|(_,none)::l=>qI F l|(_,some p)::l=>aF (aY (glb p)) (aF (aY (PA p F)) (aF (l.all λx=>match x.2 with|some q=>aY (Pos.beq p q)|none=>true) (qI F l)))
def bl (R:List (Nat×AV)):Tr AV:=R.foldr (λx t=>Tr.set x.2 t (pathOf x.1)) .leaf
def bV (H:List (Pos×AO)):Tr AO:=H.foldr (λx t=>Tr.set x.2 t x.1) .leaf
end
theorem beq_refl:∀(p:Pos),p.beq p=true
 | .e=>rfl| .o p=>beq_refl p| .i p=>beq_refl p
theorem oq {q:Pos} {o:Option Pos}:∀{L:RL},look q L=some o ->(q,o)∈L
 |[],h=>by cases h
 |(p,o')::l,h=>by
  unfold look at h;cases hb:Pos.beq q p with
  |true=>rw [hb]at h;cases h;rw [Pos.beq_eq _ _ hb];simp|false=>rw [hb]at h;simp [oq h]
theorem yX {q:Pos}:∀{F:List Pos},PA q F=true↔q∈F
 |[]=>by simp [PA]
 |p::l=>by
  unfold PA;cases hb:Pos.beq q p with
  |true=>simp [Pos.beq_eq _ _ hb]|false=>
   have dD:q≠p:=λe=>by rw [e,beq_refl]at hb;cases hb
   simp only [List.mem_cons,dD,false_or];exact yX
def muL (μ:Mu) (L:RL) (s:om):Mu:=⟨λq=>if kept q=true then μ q else match look q L with|some (some p)=>μ p|some none=>some ⟨0,0,0⟩|none=>none,s⟩
theorem rI {μ:Mu} {L:RL} {s:om} {q p:Pos} (h:DS L q p=true):(muL μ L s) q=μ p:=by
 unfold DS at h;show(if kept q=true then μ q else match look q L with|some (some p)=>μ p|some none=>some ⟨0,0,0⟩|none=>none)=μ p;cases hg:kept q with
 |true=>rw [hg]at h;rw [if_pos rfl,Pos.beq_eq _ _ h]|false=>
  rw [hg]at h;rw [if_neg (by simp)];simp only at h;split at h
  .rename_i p' hp;rw [hp,Pos.beq_eq _ _ h]
  .cases h
theorem XV {μ:Mu} {L:RL} {s:om} {q:Pos} (h:acM L q=true):(muL μ L s) q=some ⟨0,0,0⟩:=by
 unfold acM at h;show(if kept q=true then μ q else match look q L with|some (some p)=>μ p|some none=>some ⟨0,0,0⟩|none=>none)=_;cases hg:kept q with
 |true=>rw [hg]at h;cases h|false=>
  rw [hg]at h;rw [if_neg (by simp)];simp only at h;split at h
  .rename_i hp;rw [hp]
  .cases h
theorem nP {b:Bool} {p:Prop} (h:bF b p):b=true/\p:=nk h
theorem tJ {μ:Mu} {B0:Nat} {h:Heap} {w:World} (hr:HR μ B0 h w) (L:RL) (F:List Pos) {a:AV}:∀{v:AV} {b:Bool} {vs:List Value},xy h L F a b v ->VR μ v b vs ->VR (muL μ L (ko μ h w F)) a b vs:=by
 have hp:μ.pure.le (muL μ L (ko μ h w F)).pure:=⟨(λ_ _ e=>by cases e),(eU hr F).le⟩
 have hs:=(eU hr F).le;induction a with
 |undef=>
  intro v b vs bp hv;cases b with
  |true=>exact bp.elim|false=>
   cases v with
   |undef=>exact hv|nil=>exact hv.elim|cons _ _=>exact hv.elim|bool _=>exact⟨_,hv⟩|int _ _=>exact⟨_,hv⟩|xp _ _ _=>obtain⟨n,e,_⟩:=hv;exact⟨_,e⟩
   |str _=>obtain⟨n,e,_⟩:=hv;exact⟨_,e⟩
   |pZ _=>obtain⟨n,e,_⟩:=hv;exact⟨_,e⟩
   |ptr _ _=>obtain⟨B,_,e⟩:=hv;exact⟨_,e⟩
   |dq _ _=>obtain⟨_,_,_,e,_⟩:=hv;exact⟨_,e⟩
   |fy=>exact⟨_,hv⟩|slice _ _ _ _ _=>obtain⟨_,_,_,e,_⟩:=hv;exact⟨_,e⟩
   |ro _ _=>obtain⟨_,_,⟨_,_,_,e,_⟩|⟨_,_,_,e⟩⟩:=hv<;>exact⟨_,e⟩
   |gs _ _ _=>obtain⟨_,_,⟨_,e,_⟩|⟨_,e⟩⟩:=hv<;>exact⟨_,e⟩
   |sle _ _=>obtain⟨_,_,e⟩:=hv;exact⟨_,e⟩
   |bt=>exact⟨_,hv⟩|map _=>obtain⟨_,_,e⟩:=hv;exact⟨_,e⟩
   |qa=>exact⟨_,hv⟩|func _ _ _=>obtain⟨_,_,e,_⟩:=hv;exact⟨_,e⟩
   |yield _=>obtain⟨_,_,e⟩:=hv;exact⟨_,e⟩
   |kR=>exact⟨_,hv⟩|iface _ _=>obtain⟨_,e,_⟩:=hv;exact⟨_,e⟩
   |lM=>exact⟨_,hv⟩|agg _=>obtain⟨_,e,_⟩:=hv;exact⟨_,e⟩
   |aS _=>obtain⟨_,e,_⟩:=hv;exact⟨_,e⟩
 |cons x t IM oQ=>
  intro v b vs bp hv;cases b with
  |false=>exact bp.elim|true=>
   cases v with
   |cons y u=>obtain⟨cv,r,e,h1,h2⟩:=hv;exact⟨cv,r,e,IM bp.1 h1,oQ bp.2 h2⟩
   |_=>exact bp.elim
 |nil=>
  intro v b vs bp hv;cases b with
  |false=>exact bp.elim|true=>cases v<;>first|exact hv|exact bp.elim
 |bool x=>
  intro v b vs bp hv;cases b with
  |true=>exact bp.elim|false=>cases v<;>first|exact bp.elim|(cases bp;exact hv)
 |int k n=>
  intro v b vs bp hv;cases b with
  |true=>exact bp.elim|false=>
   cases v<;>first|exact bp.elim|skip
   obtain⟨h1,h2⟩:=nP bp;rw [<-iA.1 h1,<-h2];exact hv
 |xp k n m=>
  intro v b vs bp hv;cases b with
  |true=>exact bp.elim|false=>
   cases v<;>first|exact bp.elim|skip
   obtain⟨h1,h2,h3⟩:=nP bp;rw [<-iA.1 h1,<-h2,<-h3];exact hv
 |str x=>
  intro v b vs bp hv;cases b with
  |true=>exact bp.elim|false=>cases v<;>first|exact bp.elim|(cases bp;exact hv)
 |pZ x=>
  intro v b vs bp hv;cases b with
  |true=>exact bp.elim|false=>cases v<;>first|exact bp.elim|(cases bp;exact hv)
 |ptr q o=>
  intro v b vs bp hv;cases b with
  |true=>exact bp.elim|false=>
   cases v<;>first|exact bp.elim|skip
   obtain⟨h1,h2⟩:=nP bp;obtain⟨B,hB,e⟩:=hv;exact⟨B,(rI h1).trans hB,by rw [<-h2];exact e⟩
 |dq l k ih=>
  intro v b vs bp hv;cases b with
  |true=>exact bp.elim|false=>
   cases v<;>first|exact bp.elim|skip
   obtain⟨rfl,rfl⟩:=bp;obtain⟨bb,o,xs,e,h1,h2⟩:=hv;exact⟨bb,o,xs,e,h1.mono hp,h2.mono hs⟩
 |fy=>intro v b vs bp hv;cases b<;>cases v<;>first|exact bp.elim|exact hv
 |slice q a1 a2 a3 a4=>
  intro v b vs bp hv;cases b with
  |true=>exact bp.elim|false=>
   cases v<;>first|exact bp.elim|skip
   obtain⟨h1,rfl,rfl,rfl,rfl⟩:=nP bp;obtain⟨B,c,hB,e⟩:=hv;exact⟨B,c,(rI h1).trans hB,e⟩
 |ro n l ih=>
  intro v b vs bp hv;cases b with
  |true=>exact bp.elim|false=>
   cases v<;>first|exact bp.elim|skip
   .obtain⟨rfl,rfl⟩:=bp;obtain⟨xs,h1,h2⟩:=hv;refine⟨xs,h1.mono hp,?_⟩;rcases h2 with ⟨b,o,c,e,hn,h3⟩|h2
    .exact .inl ⟨b,o,c,e,hn,h3.mono hs⟩
    .exact .inr h2
   .rename_i p m sz;obtain⟨h1,h2⟩:=nP bp;split at h2
    .rename_i u ro hg;obtain⟨rfl,rfl,h3,h4⟩:=h2;obtain⟨B,hB,hx⟩:=hv;rcases hr.obj p B _ hB hg with ⟨g1,rfl⟩|⟨xs,g1,g2,c,el,fz,g3,g4,g5,g6,g7⟩
     .refine⟨[],rfl,?_⟩;rcases hx with ⟨c,hx,uO,_⟩|⟨e0,hx⟩
      .exact .inl ⟨_,_,c,hx,uO,.inl rfl⟩
      .exact .inr ⟨e0,rfl,none,hx⟩
     .refine⟨xs,h4 μ _ xs hs g1,?_⟩;rcases hx with ⟨c',hx,uO,_⟩|⟨e0,hx⟩
      .refine .inl ⟨_,_,c',hx,uO,?_⟩;by_cases dF:(AO.gl u ro).cU B
       .obtain⟨e1,_,e2⟩:=dF;refine .inl ?_;cases xs with
        |nil=>rfl|cons _ _=>simp at g2;omega
       .refine .inr ⟨c,?_,g7⟩;show ko μ h w F B.b=some c;unfold ko;rw [if_pos ⟨p,yX.1 h1,B,u,ro,hB,hg,dF,rfl⟩];exact nq g3
      .refine .inr ⟨e0,?_,none,hx⟩;have:=g1.len;rw [<-h3,e0,Nat.zero_mul]at this;cases xs with
       |nil=>rfl|cons _ _=>simp at this
    .exact h2.elim
   .obtain⟨rfl,rfl⟩:=bp;exact⟨[],rfl,.inr ⟨rfl,rfl,none,hv⟩⟩
 |gs q n sz=>
  intro v b vs bp hv;cases b with
  |true=>exact bp.elim|false=>
   cases v<;>first|exact bp.elim|skip
   .obtain⟨h1,rfl,rfl⟩:=nP bp;obtain⟨B,hB,e⟩:=hv;exact⟨B,(rI h1).trans hB,e⟩
   .obtain⟨h1,rfl⟩:=nP bp;exact⟨_,XV h1,.inr ⟨rfl,hv⟩⟩
 |sle q sz=>
  intro v b vs bp hv;cases b with
  |true=>exact bp.elim|false=>
   cases v<;>first|exact bp.elim|skip
   obtain⟨h1,rfl⟩:=nP bp;exact hv
 |bt=>intro v b vs bp hv;cases b<;>cases v<;>first|exact bp.elim|exact hv
 |map q=>
  intro v b vs bp hv;cases b with
  |true=>exact bp.elim|false=>
   cases v<;>first|exact bp.elim|skip
   obtain⟨h1,_⟩:=nP bp;obtain⟨B,hB,e⟩:=hv;exact⟨B,(rI h1).trans hB,e⟩
 |qa=>intro v b vs bp hv;cases b<;>cases v<;>first|exact bp.elim|exact hv
 |func fn f c ihf ihc=>
  intro v b vs bp hv;cases b with
  |true=>exact bp.elim|false=>
   cases v<;>first|exact bp.elim|skip
   obtain⟨rfl,h1,h2⟩:=bp;obtain⟨F',C',e,h0,h3,h4⟩:=hv;exact⟨F',C',e,h0,ihf h1 h3,ihc h2 h4⟩
 |yield q=>
  intro v b vs bp hv;cases b with
  |true=>exact bp.elim|false=>
   cases v<;>first|exact bp.elim|skip
   obtain⟨h1,_⟩:=nP bp;obtain⟨B,hB,e⟩:=hv;exact⟨B,(rI h1).trans hB,e⟩
 |kR=>intro v b vs bp hv;cases b<;>cases v<;>first|exact bp.elim|exact hv
 |iface t x ih=>
  intro v b vs bp hv;cases b with
  |true=>exact bp.elim|false=>
   cases v<;>first|exact bp.elim|skip
   obtain⟨rfl,h1⟩:=bp;obtain⟨u,e,h2⟩:=hv;exact⟨u,e,ih h1 h2⟩
 |lM=>intro v b vs bp hv;cases b<;>cases v<;>first|exact bp.elim|exact hv
 |agg l ih=>
  intro v b vs bp hv;cases b with
  |true=>exact bp.elim|false=>
   cases v<;>first|exact bp.elim|skip
   obtain⟨u,e,h2⟩:=hv;exact⟨u,e,ih bp h2⟩
 |aS l ih=>
  intro v b vs bp hv;cases b with
  |true=>exact bp.elim|false=>
   cases v<;>first|exact bp.elim|skip
   obtain⟨u,e,h2⟩:=hv;exact⟨u,e,ih bp h2⟩
theorem BP {k:Nat} {a:AV}:∀{R:List (Nat×AV)},(bl R).get (pathOf k)=some a ->(k,a)∈R
 |[],h=>by cases h
 |(j,b)::R,h=>by
  change (Tr.set b (bl R) (pathOf j)).get (pathOf k)=some a at h;rw [Tr.bE]at h;by_cases e:pathOf k=pathOf j
  .rw [if_pos e]at h;cases h;rw [dJ e];simp
  .rw [if_neg e]at h;simp [BP h]
theorem rJ {q:Pos} {o:AO}:∀{H:List (Pos×AO)},(bV H).get q=some o ->(q,o)∈H
 |[],h=>by cases h
 |(p,b)::H,h=>by
  change (Tr.set b (bV H) p).get q=some o at h;rw [Tr.bE]at h;by_cases e:q=p
  .rw [if_pos e]at h;cases h;rw [e];simp
  .rw [if_neg e]at h;simp [rJ h]
theorem Gr {h:Heap} {L:RL} {F:List Pos} {r:Tr AV} {k:Nat} {a:AV}:∀{R:List (Nat×AV)},SM h L F r R ->(k,a)∈R ->∃b,r.get (pathOf k)=some b/\xy h L F a false b
 |[],_,hm=>by cases hm
 |(j,c)::R,hr,hm=>by
  rcases List.mem_cons.1 hm with e|e
  .cases e;have h1:=hr.1;split at h1
   .rename_i b hb;exact⟨b,hb,h1⟩
   .exfalso;split at h1<;>exact h1
  .exact Gr hr.2 e
theorem Gs {h:Heap} {L:RL} {F:List Pos} {q:Pos} {o:AO}:∀{H:List (Pos×AO)},SN h L F H ->(q,o)∈H ->(∃p o0,look q L=some (some p)/\h.t.get p=some o0/\SL h L F o o0)\/(look q L=some none/\o= .gl .nil false)
 |[],_,hm=>by cases hm
 |(j,c)::H,hr,hm=>by
  rcases List.mem_cons.1 hm with e|e
  .cases e;have h1:=hr.1;split at h1
   .rename_i p hp;split at h1
    .rename_i o0 ho;exact .inl ⟨p,o0,hp,ho,h1⟩
    .exact h1.elim
   .rename_i hp;refine .inr ⟨hp,?_⟩;split at h1
    .rfl
    .exact h1.elim
   .exact h1.elim
  .exact Gs hr.2 e
theorem pe {n:Pos} {q:Pos} {o:Option Pos}:∀{L:RL},wb n L=true ->(q,o)∈L ->glb q=false/\q.toNat<n.toNat/\wa q o=true
 |[],_,hm=>by cases hm
 |(p,o')::l,h,hm=>by
  obtain⟨a1,b1⟩:=aq.1 h;obtain⟨a2,b2⟩:=aq.1 b1;obtain⟨a3,b3⟩:=aq.1 b2;obtain⟨a4,b4⟩:=aq.1 b3;clear h b1 b2 b3;rcases List.mem_cons.1 hm with e|e
  .cases e;rw [jL]at a1;exact⟨by simpa using a1,bz.1 a2,a4⟩
  .exact pe b4 e
theorem PB {q:Pos} {o:Option Pos} (h:wa q o=true) (hk:kept q=true):o=some q:=by
 unfold wa at h;rw [hk]at h;simp only at h;split at h
 .rw [Pos.beq_eq _ _ h]
 .cases h
theorem tK {F:List Pos} {q p:Pos}:∀{L:RL},qI F L=true ->(q,some p)∈L ->glb p=false/\p ∉ F
 |[],_,hm=>by cases hm
 |(j,none)::l,h,hm=>by
  rcases List.mem_cons.1 hm with e|e
  .cases e
  .exact tK (L:=l) h e
 |(j,some p')::l,h,hm=>by
  obtain⟨h1,h2⟩:=aq.1 h;obtain⟨h2,h3⟩:=aq.1 h2;obtain⟨h3,h4⟩:=aq.1 h3;rcases List.mem_cons.1 hm with e|e
  .cases e;rw [jL]at h1 h2;refine⟨by simpa using h1,λhf=>?_⟩;rw [yX.2 hf]at h2;cases h2
  .exact tK h4 e
theorem Gt {F:List Pos} {n:Pos} {i j p:Pos}:∀{L:RL},wb n L=true ->qI F L=true ->look i L=some (some p) ->look j L=some (some p) ->i=j
 |[],_,_,h,_=>by cases h
 |(k,o)::l,hk,ho,h1,h2=>by
  obtain⟨_,g2⟩:=aq.1 hk;obtain⟨_,g3⟩:=aq.1 g2;obtain⟨_,g4⟩:=aq.1 g3;obtain⟨_,g4⟩:=aq.1 g4;have ho':qI F l=true:=by
   cases o with
   |none=>exact ho|some p'=>exact(aq.1 (aq.1 (aq.1 ho).2).2).2
  unfold look at h1 h2;have abf:∀{x:Pos},o=some p ->look x l=some (some p) ->False:=by
   intro x e hx;subst e;have h3:=(aq.1 (aq.1 (aq.1 ho).2).2).1;have:=List.all_eq_true.1 h3 _ (oq hx);simp only [beq_refl]at this;cases this
  cases hi:Pos.beq i k with
  |true=>
   rw [hi]at h1;cases hj:Pos.beq j k with
   |true=>rw [Pos.beq_eq _ _ hi,Pos.beq_eq _ _ hj]|false=>rw [hj]at h2;exact(abf (Option.some.inj h1) h2).elim
  |false=>
   rw [hi]at h1;cases hj:Pos.beq j k with
   |true=>rw [hj]at h2;exact(abf (Option.some.inj h2) h1).elim|false=>rw [hj]at h2;exact Gt g4 ho' h1 h2
def muO (μ:Mu):Option Pos ->Option nJ
 |some p=>μ p|none=>some ⟨0,0,0⟩
theorem Gu {μ:Mu} {L:RL} {s:om} {q:Pos} {o:Option Pos} (hg:wa q o=true) (hl:look q L=some o):(muL μ L s) q=muO μ o:=by
 show(if kept q=true then μ q else match look q L with|some (some p)=>μ p|some none=>some ⟨0,0,0⟩|none=>none)=_;cases hq:kept q with
 |true=>rw [if_pos rfl,PB hg hq];rfl|false=>
  rw [if_neg (by simp),hl];cases o<;>rfl
theorem acN {μ μ':Mu} {ds:List Deferred} (h:DR μ [] ds):DR μ' [] ds:=by
 cases ds with
 |nil=>trivial|cons _ _=>exact h.elim
theorem uY {h:Heap} {L:RL} {F:List Pos}:∀{t t0:Tr AV} {q:Pos} {a:AV},SK h L F t t0 ->t.get q=some a ->∃b,t0.get q=some b/\xy h L F a false b
 | .leaf,t0,q,a,_,hg=>by cases hg
 | .node l v r,t0,q,a,hr,hg=>by
  cases t0 with
  |leaf=>exact hr.elim|node l0 v0 r0=>
   obtain⟨h1,h2,h3⟩:=hr;cases q with
   |e=>
    change v=some a at hg;subst hg;cases v0 with
    |none=>exact h2.elim|some b=>exact⟨b,rfl,h2⟩
   |o q=>exact uY (q:=q) h1 hg|i q=>exact uY (q:=q) h3 hg
theorem pg {h:Heap} {L:RL} {F:List Pos} {o o0:AO} (hr:SL h L F o o0):o.uC=o0.uC/\∀B,o0.cU B ->o.cU B:=by
 cases o with
 |cells t n ro=>
  cases o0<;>first|exact hr.elim|skip
  obtain⟨rfl,rfl,_⟩:=hr;exact⟨rfl,λB hi=>absurd hi fo⟩
 |gl l ro=>
  cases o0<;>first|exact hr.elim|skip
  obtain⟨rfl,rfl,_⟩:=hr;exact⟨rfl,λB hi=>hi⟩
 |mp l=>
  cases o0<;>first|exact hr.elim|skip
  obtain⟨rfl,_⟩:=hr;exact⟨rfl,λB hi=>hi⟩
 |mi m n s=>
  cases o0<;>first|exact hr.elim|skip
  exact⟨rfl,λB ⟨_,_,e⟩=>by cases e⟩
 |marks=>
  cases o0<;>first|exact hr.elim|skip
  exact⟨rfl,λB hi=>hi⟩
 |loop a b c R d e f g q=>
  cases o0<;>first|exact hr.elim|skip
  exact⟨rfl,λB hi=>absurd hi ig⟩
 |_=>exact hr.elim
theorem Sub.of {B0 nt:Nat} {r:Tr AV} {h:Heap} (L:RL) (F:List Pos) {R:List (Nat×AV)} {H:List (Pos×AO)} {n':Pos} (hk:wb n' L=true) (ho:qI F L=true) (hn:bJ (Nat.add 63 aT.k) n'.toNat=true) (hR:SM h L F r R) (hH:SN h L F H):
  Sub B0 nt r [] h (bl R) [] ⟨bV H,n'⟩:=by
 intro μ w a hr gm;have hn:=bz.1 hn;change 63+aT.k<n'.toNat at hn;have acO:∀{q:Pos},kept q=true ->q.toNat<64+aT.k:=λhg=>bz.1 hg;have key:∀q o,(bV H).get q=some o ->(∀x,look q L=some x ->wa q x=true)/\q.toNat<n'.toNat/\((∃p o0,look q L=some (some p)/\h.t.get p=some o0/\SL h L F o o0/\p ∉ F)\/(look q L=some none/\o= .gl .nil false)):=by
  intro q o e;rcases Gs hH (rJ e)with ⟨p,o0,h1,h2,h3⟩|⟨h1,h2⟩
  .obtain⟨_,g2,g1⟩:=pe hk (oq h1);exact⟨λx hx=>by rw [h1]at hx;cases hx;exact g1,g2,.inl ⟨p,o0,h1,h2,h3,(tK ho (oq h1)).2⟩⟩
  .obtain⟨_,g2,g1⟩:=pe hk (oq h1);exact⟨λx hx=>by rw [h1]at hx;cases hx;exact g1,g2,.inr ⟨h1,h2⟩⟩
 have old:∀q o B,(muL μ L (ko μ h w F)) q=some B ->(bV H).get q=some o ->(∃p o0,look q L=some (some p)/\μ p=some B/\h.t.get p=some o0/\SL h L F o o0/\p ∉ F)\/o.cU B:=by
  intro q o B e1 e2;obtain⟨g1,g2,⟨p,o0,h1,h2,h3,h4⟩|⟨h1,rfl⟩⟩:=key q o e2
  .rw [Gu (g1 _ h1) h1]at e1;exact .inl ⟨p,o0,h1,e1,h2,h3,h4⟩
  .rw [Gu (g1 _ h1) h1]at e1;have e1:some (⟨0,0,0⟩:nJ)=some B:=e1;cases e1;exact .inr ⟨rfl,_,rfl⟩
 refine⟨muL μ L (ko μ h w F),⟨eU hr F,λ_=>⟨λq hq=>if_pos hq,by show 64+aT.k<=n'.toNat;omega⟩⟩,⟨?_,?_,?_,?_,?_,?_,hr.size,Gq hr F,?_,hr.tab.mono (eU hr F).le⟩,⟨?_,gm.size,acN gm.dr⟩⟩
 .intro q B e;cases hg:kept q with
  |true=>have:=acO hg;show q.toNat<n'.toNat;omega
  |false=>
   change (if kept q=true then μ q else match look q L with|some (some p)=>μ p|some none=>some ⟨0,0,0⟩|none=>none)=some B at e;rw [hg,if_neg (by simp)]at e;cases hl:look q L with
   |none=>rw [hl]at e;cases e|some o=>exact(pe hk (oq hl)).2.1
 .intro q o e;exact(key q o e).2.1
 .intro q B o e1 e2;rcases old q o B e1 e2 with ⟨p,o0,h1,h2,h3,h4,h5⟩|hi
  .have AD:=hr.obj p B o0 h2 h3;cases o with
   |cells t n ro=>
    cases o0<;>first|exact h4.elim|skip
    obtain⟨rfl,rfl,hT⟩:=h4;obtain⟨k0,c,el,fz,k1,k2,k3,k4⟩:=AD;refine⟨k0,c,el,fz,k1,k2,k3,λk v hv=>?_⟩;obtain⟨b,hb,bp⟩:=uY hT hv;obtain⟨m1,cv,m2,m3⟩:=k4 k b hb;exact⟨m1,cv,m2,tJ hr L F bp m3⟩
   |gl l ro=>
    cases o0<;>first|exact h4.elim|skip
    obtain⟨rfl,rfl,nK⟩:=h4;rcases AD with AD|⟨xs,g1,g2,c,el,fz,g3,g4,g5,g6,g7⟩
    .exact .inl AD
    .exact .inr ⟨xs,nK μ _ xs (eU hr F).le g1,g2,c,el,fz,g3,g4,g5,λe=>(eU hr F).le _ _ (g6 e),g7⟩
   |mp l=>
    cases o0<;>first|exact h4.elim|skip
    obtain⟨rfl,hpm⟩:=h4;obtain⟨es,g1,g2⟩:=AD;exact⟨es,g1,Mr (eU hr F).le hpm g2⟩
   |mi m n s=>
    cases o0<;>first|exact h4.elim|skip
    obtain⟨hid,rfl,rfl⟩:=h4;obtain⟨k0,M,sn,k1,k2,k3⟩:=AD;exact⟨k0,M,sn,(rI hid).trans k1,k2,k3⟩
   |marks=>
    cases o0<;>first|exact h4.elim|skip
    exact AD
   |loop a b c R d e f g q=>
    cases o0<;>first|exact h4.elim|skip
    obtain⟨⟨rfl,rfl,rfl,rfl,rfl,rfl,rfl,rfl,hq⟩,hT⟩:=h4;obtain⟨l,k1,k2,k3,k4,k5,k6,k7,k8,k9,k10,D,k11,k12⟩:=AD;refine⟨l,k1,k2,k3,k4,k5,λk v hv=>?_,k7,k8,k9,k10,D,?_,k12⟩
    .obtain⟨b,hb,bp⟩:=uY hT hv;obtain⟨cv,m2,m3⟩:=k6 k b hb;exact⟨cv,m2,tJ hr L F bp m3⟩
    .exact(if_pos hq).trans k11
   |_=>exact h4.elim
  .obtain⟨g1,ro,rfl⟩:=hi;exact .inl ⟨g1,rfl⟩
 .intro i j A B o p pQ e1 e2 e3 e4;rcases old i o A e1 e3 with ⟨p1,o1,h1,h2,h3,h4,h5⟩|hi
  .rcases old j p B e2 e4 with ⟨p2,o2,k1,k2,k3,k4,k5⟩|hi
   .have dD:p1≠p2:=λe=>by subst e;exact pQ (Gt hk ho h1 k1)
    rcases hr.sep p1 p2 A B o1 o2 dD h2 k2 h3 k3 with g|g|g
    .exact .inl g
    .exact .inr (.inl ((pg h4).2 _ g))
    .exact .inr (.inr ((pg k4).2 _ g))
   .exact .inr (.inr hi)
  .exact .inr (.inl hi)
 .intro q B o e1 e2 e3;rcases old q o B e1 e2 with ⟨p,o0,h1,h2,h3,h4,h5⟩|hi
  .rcases hr.own p B o0 h2 h3 ((pg h4).1.symm.trans e3)with g|g
   .exact .inl ((pg h4).2 _ g)
   .exact .inr g
  .exact .inl hi
 .intro g hg;obtain⟨n,e⟩:=hr.dO g hg;refine⟨n,?_⟩;show(if kept (pathOf g)=true then μ (pathOf g)else _)=_;rw [if_pos (by unfold kept;rw [eE];exact bz.2 (show g<64+aT.k by omega))];exact e
 .intro q B o e1 e2 e3;rcases old q o B e1 e2 with ⟨p,o0,h1,h2,h3,h4,h5⟩|hi
  .rcases hr.apart p B o0 h2 h3 ((pg h4).1.symm.trans e3)with g|g
   .exact .inl ((pg h4).2 _ g)
   .by_cases dF:o0.cU B
    .exact .inl ((pg h4).2 _ dF)
    .refine .inr ?_;show ko μ h w F B.b=none;unfold ko;rw [if_neg]
     .exact g
     .rintro ⟨id,hid,B2,l2,ro2,m1,m2,m3,m4⟩;have dD:p≠id:=λe=>by subst e;exact h5 hid
      rcases hr.sep p id B B2 o0 _ dD h2 m1 h3 m2 with k|k|k
      .exact k m4.symm
      .exact dF k
      .exact m3 k
  .exact .inl hi
 .intro k v hv;obtain⟨b,hb,bp⟩:=Gr hR (BP hv);obtain⟨cv,h1,h2⟩:=gm.rr k b hb;exact⟨cv,h1,tJ hr L F bp h2⟩
end
end
end Go.Sy
