/- A piece of the proof, made small by a program of ours. -/
import Derived.Test.YtihglcfnelokaaaGreatDoorP01
import Derived.MapKept
import Derived.Laws.RangeString
import Derived.Maps.RangeRun
import Derived.Orders
set_option linter.all false
set_option maxRecDepth 1000000
set_option maxHeartbeats 0
namespace Go.Sy
noncomputable section
open Go.RowKit Go.Proofs Go.Proofs.Tryz
section
variable [aY]
theorem gX {P:Program} {μ:Mu} (em:Bool):∀(d:Nat) {t:TypeId} {x:AV} {a:Value} (D:Nat),d<=D ->su P d t x=true ->dw μ x a ->∀w,(Instr.checkKey em D t a).run P w= .ok () w
 |0,t,x,a,D,hD,h,ha=>by cases h
 |d+1,t,x,a,D,hD,h,ha=>by
  obtain⟨D,rfl⟩:∃D',D=D'+1:=⟨D - 1,by omega⟩
  have hD:d<=D:=by omega
  intro w;change uD P (su P d) t x=true at h;unfold uD at h;split at h
  .rename_i fs xs hu;obtain⟨ca,ha,Fv⟩:=ha;have ha:a= .agg ca:=(by simpa using ha);subst ha;rw [Instr.checkKey];simp only [Sem.run_bind,ai hu,Result.andThen_ok];rw [<-Array.forIn_toList];generalize fs.toList=L at h;induction L with
   |nil=>simp|cons f L ih=>
    simp only at h;split at h
    .cases h
    .rename_i hn;split at h
     .rename_i p hp;obtain⟨h1,h2⟩:=aw.1 h;obtain⟨cp,oC,lh⟩:=gS Fv hp;have:=gX em d D hD h1 lh w;simp only [List.forIn_cons,Sem.run_bind,hn,ne_eq,not_false_eq_true,if_true,Result.andThen_ok,oC,this,Sem.run_pure];exact ih h2
     .cases h
  .rename_i len e xs hu;obtain⟨ca,ha,Fv⟩:=ha;have ha:a= .agg ca:=(by simpa using ha);subst ha;split at h
   .cases h
   .rename_i n hn;rw [Instr.checkKey];simp only [Sem.run_bind,ai hu,Result.andThen_ok];simp only [Std.Legacy.Range.forIn_eq_forIn_range',Std.Legacy.Range.size,Nat.sub_zero,Nat.add_one_sub_one,Nat.div_one];rw [List.range_eq_range']at h;generalize List.range' 0 len=L at h;induction L with
    |nil=>simp|cons j L ih=>
     simp only at h;split at h
     .rename_i p hp;obtain⟨h1,h2⟩:=aw.1 h;obtain⟨cp,oC,lh⟩:=gS Fv hp;have:=gX em d D hD h1 lh w;have oC:(part e ca (j*n)).run P w= .ok cp w:=oC w;simp only [List.forIn_cons,Sem.run_bind,aH hn,Result.andThen_ok,oC,this,Sem.run_pure];exact ih h2
     .cases h
  .rename_i b hu;have ha:a= .bool b:=(by simpa [VR]using ha);subst ha;rw [Instr.checkKey];simp [ai hu]
  .rename_i k k' n hu;have ha:a= .int k' n:=(by simpa [VR]using ha);subst ha;rw [Instr.checkKey];simp [ai hu]
  .rename_i s hu;obtain⟨bs,ha,_⟩:=ha;have ha:a= .string bs:=(by simpa using ha);subst ha;rw [Instr.checkKey];simp [ai hu]
  .cases h
theorem BA {a b:ByteArray} (h:a.data.toList.map UInt8.toNat=b.data.toList.map UInt8.toNat):a=b:=by
 have:a.data.toList=b.data.toList:=(List.map_inj_right (f:=UInt8.toNat) (λx y e=>UInt8.toNat_inj.1 e)).1 h;obtain⟨⟨x⟩⟩:=a;obtain⟨⟨y⟩⟩:=b;simp at this;rw [this]
theorem RA:∀{a b:List Nat},kq a b=true ->a=b:=by
 intro a b h;rw [eM]at h;exact of_decide_eq_true h
theorem yF {μ:Mu} {x y:AV} {a b:Value} (h:Rh x y=true) (ha:dw μ x a) (hb:dw μ y b):a=b/\∀n,Instr.sameBits n a b=true:=by
 unfold Rh at h;split at h
 .rename_i k n l m;obtain⟨h1,h2⟩:=aw.1 h;have ha:a= .int k n:=by simpa [VR]using ha
  have hb:b= .int l m:=by simpa [VR]using hb
  rw [fX]at h2;have:=iu.1 h1;have:=of_decide_eq_true h2;subst_vars;exact⟨rfl,λn=>by cases n<;>simp [Instr.sameBits]⟩
 .obtain⟨sa,ha,h1⟩:=ha;obtain⟨sb,hb,h2⟩:=hb;have ha:a= .string sa:=by simpa using ha
  have hb:b= .string sb:=by simpa using hb
  have:=RA h;have:sa=sb:=BA (by rw [h1,h2,this]);subst_vars;exact⟨rfl,λn=>by cases n<;>simp [Instr.sameBits,MapKept.bytes_beq]⟩
 .rename_i p q;have ha:a= .bool p:=by simpa [VR]using ha
  have hb:b= .bool q:=by simpa [VR]using hb
  have:p=q:=by cases p<;>cases q<;>simp_all [aU]
  subst_vars;exact⟨rfl,λn=>by cases n<;>simp [Instr.sameBits]⟩
 .cases h
theorem IY {μ:Mu}:∀{x y:AV} {xs ys:List Value},acp x y=true ->cG μ x xs ->cG μ y ys ->xs=ys/\∀n,((xs.zip ys).all λq=>Instr.sameBits n q.1 q.2)=true:=by
 intro x;induction x with
 |nil=>
  intro y xs ys h hx hy;cases (show xs=[]from hx);cases y with
  |nil=>cases (show ys=[]from hy);exact⟨rfl,λ_=>rfl⟩|_=>cases h
 |cons a t Lx pb=>
  intro y xs ys h hx hy;cases y with
  |cons b t'=>
   obtain⟨h1,h2⟩:=aw.1 (show aF (Rh a b) (acp t t')=true from h);obtain⟨v,r,rfl,g1,g2⟩:=hx;obtain⟨u,s,rfl,g3,g4⟩:=hy;obtain⟨rfl,e1⟩:=yF h1 g1 g3;obtain⟨rfl,e2⟩:=pb h2 g2 g4;refine⟨rfl,λn=>?_⟩;simp only [List.zip_cons_cons,List.all_cons,e1 n,Bool.true_and];exact e2 n
  |_=>cases h
 |_=>intro y xs ys h hx hy;exact hx.elim
theorem FC {μ:Mu} {x y:AV} {a b:Value} (h:qv x y=true) (ha:dw μ x a) (hb:dw μ y b):a=b/\Instr.sameBits 10000 a b=true:=by
 unfold qv at h;split at h
 .obtain⟨ca,ha,h1⟩:=ha;obtain⟨cb,hb,h2⟩:=hb;have ha:a= .agg ca:=by simpa using ha
  have hb:b= .agg cb:=by simpa using hb
  obtain⟨e1,e2⟩:=IY h h1 h2;have:ca=cb:=Array.toList_inj.1 e1;subst_vars;refine⟨rfl,?_⟩;show(cb.size==cb.size &&(cb.toList.zip cb.toList).all λ(x,y)=>Instr.sameBits 9999 x y)=true;rw [Bool.and_eq_true];exact⟨by simp,e2 9999⟩
 .exact(yF h ha hb).imp id λh=>h _
theorem vT (a b:ByteArray):(a==b)=(a.toList==b.toList):=by
 rw [Bool.eq_iff_iff,MapKept.bytes_beq];constructor
 .intro h;rw [h];simp
 .intro h;have h:=eq_of_beq h;rw [ByteArray.toList_eq,ByteArray.toList_eq]at h;exact BA (by rw [h])
theorem uX {P:Program} {μ:Mu} {kt:TypeId} {k:AV} {kv:Value} (hk:dw μ k kv):∀{l:List (AV×AV)} {es:List MapEntry} {b i:Nat} {f:Option (Nat×AV)},MR μ b l es ->dW P kt k l i=some f ->
  match f with
  |none=>(∀w,(Instr.findAsking kt kv es i).run P w= .ok none w)/\(∀kd,P.underlying kt=some kd ->∀r,Instr.findNow kd kv es i=some r ->r=none)
  |some q=>∃(j:Nat) (e:MapEntry),q.1=i+j/\es[j]?=some e/\dw μ q.2 e.val/\e.key=kv/\Instr.sameBits 10000 e.key kv=true/\(∀w,(Instr.findAsking kt kv es i).run P w= .ok (some (i+j,e.val)) w)/\
   (∀kd,P.underlying kt=some kd ->∀r,Instr.findNow kd kv es i=some r ->r=some (i+j,e.val))
 |[],[],b,i,f,hm,h=>by
  cases (show some none=some f from h);exact⟨λw=>by simp [Instr.findAsking],λkd _ r hr=>by simpa [Instr.findNow]using hr.symm⟩
 |[],_::_,b,i,f,hm,h=>hm.elim|_::_,[],b,i,f,hm,h=>hm.elim|x::l,e::es,b,i,f,hm,h=>by
  obtain⟨m1,m2,m3,m4⟩:=hm;change (match Ox P 40 kt k x.1 with
   |some true=>Bool.casesOn (motive:=λ_=>Option (Option (Nat×AV))) (qv x.1 k) none (some (some (i,x.2)))|some false=>dW P kt k l (Nat.succ i)|none=>none)=some f at h
  have now:∀kd,P.underlying kt=some kd ->∀(c c':Bool),(∀w,(Op.equal kt kv e.key).run P w= .ok c w) ->Instr.sameNow kd kv e.key=some c' ->c'=c:=by
   intro kd hu c c' h1 h2;have D1:Op.maxDepth=9999+1:=rfl;have h1:=h1 default;unfold Instr.sameNow at h2;split at h2
   .rename_i q k1 a1 k2 a2 e1 e9;split at h2
    .rename_i QE;subst QE;unfold Op.equal at h1;rw [D1,e1]at h1;have:=run_equalIn_int (P:=P) default 9999 kt k1 q a1 a2 hu;rw [this]at h1;cases h2;have:=(Result.ok.inj h1).1;exact this
    .cases h2
   .rename_i a1 a2 e1 e9;unfold Op.equal at h1;rw [D1,e1]at h1;have:=run_equalIn_string (P:=P) default 9999 kt a1 a2 hu;rw [this]at h1;cases h2;rw [<-(Result.ok.inj h1).1];exact vT a1 a2
   .rename_i a1 a2 e1 e9;unfold Op.equal at h1;rw [D1,e1]at h1;have:=run_equalIn_bool (P:=P) default 9999 kt a1 a2 hu;rw [this]at h1;cases h2;exact(Result.ok.inj h1).1
   .cases h2
  split at h
  .rename_i he;have heq:=oA 40 Op.maxDepth (by show 40<=10000;omega) he hk m1;have heq:∀w,(Op.equal kt kv e.key).run P w= .ok true w:=heq;cases hq:qv x.1 k with
   |false=>rw [hq]at h;cases h|true=>
    rw [hq]at h;cases h;obtain⟨e1,e2⟩:=FC hq m1 hk;refine⟨0,e,rfl,rfl,m2,e1,e2,λw=>by simp [Instr.findAsking,heq],λkd hu r hr=>?_⟩;unfold Instr.findNow at hr;split at hr
    .cases hr;rfl
    .rename_i h2;have:=now kd hu true false heq h2;cases this
    .cases hr
  .rename_i he;have heq:=oA 40 Op.maxDepth (by show 40<=10000;omega) he hk m1;have heq:∀w,(Op.equal kt kv e.key).run P w= .ok false w:=heq;have ih:=uX hk m4 h;have fn:∀kd,P.underlying kt=some kd ->∀r,Instr.findNow kd kv (e::es) i=some r ->Instr.findNow kd kv es (i+1)=some r:=by
    intro kd hu r hr;unfold Instr.findNow at hr;split at hr
    .rename_i h2;have:=now kd hu false true heq h2;cases this
    .exact hr
    .cases hr
   cases f with
   |none=>exact⟨λw=>by simp [Instr.findAsking,heq,ih.1 w],λkd hu r hr=>ih.2 kd hu r (fn kd hu r hr)⟩|some q=>
    obtain⟨j,e',h1,h2,h3,h4,h5,h6,h7⟩:=ih;refine⟨j+1,e',by omega,by simpa using h2,h3,h4,h5,λw=>?_,λkd hu r hr=>?_⟩
    .rw [show i+(j+1)=i+1+j by omega];simp [Instr.findAsking,heq,h6 w]
    .rw [show i+(j+1)=i+1+j by omega];exact h7 kd hu r (fn kd hu r hr)
  .cases h
theorem IZ {μ:Mu} {B0:Nat} {h:Heap} {w:World} (hr:HR μ B0 h w) {m:AV} {mv:Value} {l:List (AV×AV)} (hm:dw μ m mv) (e:vK h m=some l):
  (mv= .map none/\l=[])\/∃(id:Pos) (B:nS) (es:Array MapEntry),m= .map id/\h.t.get id=some (.mp l)/\μ id=some B/\mv= .map (some B.b)/\w.heap[B.b]?=some (.map es es.size)/\MR μ 0 l es.toList:=by
 unfold vK at e;split at e
 .cases e;exact .inl ⟨by simpa [VR]using hm,rfl⟩
 .rename_i id;split at e
  .rename_i l' hg;cases e;obtain⟨B,hB,hm⟩:=hm;have hm:mv= .map (some B.b):=(by simpa using hm);obtain⟨es,h1,h2⟩:=hr.obj id B _ hB hg;exact .inr ⟨id,B,es,rfl,hg,hB,hm,h1,h2⟩
  .cases e
 .cases e
theorem kR {P:Program} {μ:Mu} {kt:TypeId} {kd:TypeDesc} {k:AV} {kv:Value} (hu:P.underlying kt=some kd) (hk:dw μ k kv) {l:List (AV×AV)} {es:List MapEntry} {f:Option (Nat×AV)} (hm:MR μ 0 l es) (h:dW P kt k l 0=some f) (w:World):
  match f with
  |none=>(Instr.findKey kt kv es).run P w= .ok none w|some q=>∃(e:MapEntry),es[q.1]?=some e/\dw μ q.2 e.val/\e.key=kv/\Instr.sameBits 10000 e.key kv=true/\(Instr.findKey kt kv es).run P w= .ok (some (q.1,e.val)) w:=by
 have hf:=uX hk hm h;have run:∀r,(∀w,(Instr.findAsking kt kv es 0).run P w= .ok r w) ->(∀r',Instr.findNow kd kv es 0=some r' ->r'=r) ->(Instr.findKey kt kv es).run P w= .ok r w:=by
  intro r h1 h2;unfold Instr.findKey;simp only [Sem.run_bind,ai hu,Result.andThen_ok];cases hn:Instr.findNow kd kv es 0 with
  |none=>exact h1 w|some r'=>rw [h2 r' hn];rfl
 cases f with
 |none=>exact run _ hf.1 (hf.2 kd hu)|some q=>
  obtain⟨j,e,h1,h2,h3,h4,h5,h6,h7⟩:=hf;simp only [Nat.zero_add]at h1 h6 h7;subst h1;exact⟨e,h2,h3,h4,h5,run _ h6 (h7 kd hu)⟩
theorem vU {P:Program} {d:Nat} {t:TypeId} {x:AV} (h:su P (d+1) t x=true):∃kd,P.underlying t=some kd:=by
 change uD P (su P d) t x=true at h;unfold uD at h;split at h<;>first|exact⟨_,by assumption⟩|cases h
theorem FD {o:Oper} {t:TypeId} {m k:Operand} {ok:Bool} (ho:o.op= .lookup t m k ok):vP (fW t m k ok) o:=by
 intro P r μ B0 h w a v hh hr hv;have hm:=aT hh.dM hr m;have hk:=aT hh.dM hr k;unfold fW at hv;split at hv
 .rename_i kt et hu;cases Ly:su P 40 kt (ev k r)with
  |false=>rw [Ly]at hv;cases hv|true=>
   rw [Ly]at hv;simp only at hv;obtain⟨kd,hkd⟩:=vU (d:=39) Ly;cases hl:vK h (ev m r)with
   |none=>rw [hl]at hv;cases hv|some l=>
    rw [hl]at hv;simp only at hv;have chk:∀em w,(Instr.checkKey em 10000 kt (a.eval k)).run P w= .ok () w:=λem w=>gX em 40 10000 (by omega) Ly hk w;have fin:∀{es:List MapEntry} {q:Option (Nat×AV)},dW P kt (ev k r) l 0=some q ->MR μ 0 l es ->∃(v':Value) (b:Bool) (u:AV),v=pX ok u b/\dw μ u v'/\
      ∀w,(do
       let (v,ok')<-match<-Instr.findKey kt (a.eval k) es with
        |some (_,v)=>pure (v,true)|none=>pure (<-zeroValue et,false)
       pure (if ok then .tuple #[v,.bool ok']else v):Sem Value).run P w= .ok (if ok then .tuple #[v',.bool b]else v') w:=by
     intro es q hf hM;rw [hf]at hv;cases q with
     |some q=>
      simp only at hv;cases hv;obtain⟨e,g1,g2,g3,g4,g5⟩:=kR (w:=w) hkd hk hM hf;refine⟨e.val,true,q.2,rfl,g2,λw=>?_⟩;obtain⟨e',k1,k2,k3,k4,k5⟩:=kR (w:=w) hkd hk hM hf;have:e'=e:=(by rw [g1]at k1;cases k1;rfl);subst this;simp only [Sem.run_bind,k5,Result.andThen_ok,Sem.run_pure]
     |none=>
      simp only at hv;cases hz:lA P et with
      |none=>rw [hz]at hv;cases hv|some z=>
       rw [hz]at hv;cases hv;refine⟨z,false,eY z,rfl,iR μ z,λw=>?_⟩;have k5:=kR (w:=w) hkd hk hM hf;simp only at k5;have:=gx (P:=P) (w:=w) hz;simp only [Sem.run_bind,k5,Result.andThen_ok,Sem.run_pure,this]
    have got:∀{v':Value} {b:Bool} {u:AV},v=pX ok u b ->dw μ u v' ->dw μ v (if ok then .tuple #[v',.bool b]else v'):=by
     rintro v' b u rfl h1;cases ok with
     |false=>exact h1|true=>exact⟨#[v',.bool b],rfl,v',[.bool b],rfl,h1,.bool b,[],rfl,rfl,rfl⟩
    rcases IZ hh hm hl with ⟨e1,rfl⟩|⟨id,B,es,e1,e2,e3,e4,e5,e6⟩
    .obtain⟨q,hq⟩:∃q,dW P kt (ev k r) [] 0=some q:=⟨none,rfl⟩
     obtain⟨v',b,u,h1,h2,h3⟩:=fin (es:=[]) hq trivial;refine⟨_,?_,got h1 h2⟩;simp only [execOp,ho,e1,Instr.lookup,Sem.run_bind,ai hu,Result.andThen_ok,Sem.run_pure,chk];have:=h3 w;simp only [Sem.run_bind]at this;exact congrArg (λz=>Result.andThen z λa w'=>Result.ok (Next.value a) w') this
    .cases hq:dW P kt (ev k r) l 0 with
     |none=>rw [hq]at hv;cases hv|some q=>
      obtain⟨v',b,u,h1,h2,h3⟩:=fin hq e6;refine⟨_,?_,got h1 h2⟩;have hg:=MapKept.run_getObj_map (P:=P) e5;simp only [execOp,ho,e4,Instr.lookup,Sem.run_bind,ai hu,Result.andThen_ok,Sem.run_pure,chk,hg];have:=h3 w;simp only [Sem.run_bind]at this;exact congrArg (λz=>Result.andThen z λa w'=>Result.ok (Next.value a) w') this
 .cases hv
theorem BB {μ:Mu} {x:AV×AV} {k v:Value} (hk:dw μ x.1 k) (hv:dw μ x.2 v):∀{l:List (AV×AV)} {es:List MapEntry} {i:Nat} (j:Nat),MR μ i l es ->MR μ i (l.set j x) (es.modify j λe=>{e with key:=k,val:=v})
 |[],[],i,j,h=>by cases j<;>trivial
 |[],_::_,i,j,h=>h.elim|_::_,[],i,j,h=>h.elim|y::l,e::es,i,0,h=>⟨hk,hv,h.2.2.1,h.2.2.2⟩
 |y::l,e::es,i,j+1,h=>⟨h.1,h.2.1,h.2.2.1,BB hk hv j h.2.2.2⟩
theorem Dp {μ:Mu} {x:AV×AV} {k v:Value} (hk:dw μ x.1 k) (hv:dw μ x.2 v):∀{l:List (AV×AV)} {es:List MapEntry} {i:Nat},MR μ i l es ->MR μ i (l++[x]) (es++[⟨k,v,i+es.length⟩])
 |[],[],i,h=>⟨hk,hv,rfl,aA⟩
 |[],_::_,i,h=>h.elim|_::_,[],i,h=>h.elim|y::l,e::es,i,h=>by
  have:=Dp hk hv h.2.2.2;refine⟨h.1,h.2.1,h.2.2.1,?_⟩;rwa [show i+(e::es).length=i+1+es.length by simp;omega]
theorem uY {l:List (AV×AV)} {B:nS}:¬(AO.mp l).cT B:=λ⟨_,_,e⟩=>by cases e
theorem uZ {μ:Mu} {B0:Nat} {h:Heap} {w:World} (hr:HR μ B0 h w) (id:Pos) (B:nS) (hid:μ id=some B) (l l':List (AV×AV)) (h0:h.t.get id=some (.mp l)) (es es':Array MapEntry) (c:Nat) (hw:w.heap[B.b]?=some (.map es c)) (hm:MR μ 0 l' es'.toList):
  bS μ B0 h w μ ⟨h.t.set (.mp l') id,h.n⟩ {w with heap:=w.heap.setIfInBounds B.b (.map es' es'.size)}:=by
 have cJ:=(Array.getElem?_eq_some_iff.1 hw).1;have jK:∀k,k≠B.b ->({w with heap:=w.heap.setIfInBounds B.b (.map es' es'.size)}:World).heap[k]?=w.heap[k]?:=λk hk=>(MapKept.heap_set hw).2 k hk;refine⟨λ_ _=>rfl,Nat.le_refl _,hr.chg id B hid (.mp l') rfl (.mp l) h0 rfl uY jK (by simp) ⟨es',(MapKept.heap_set hw).1,hm⟩ _ (λq p e=>?_),⟨⟨rfl,rfl,rfl,by simp,λk hk=>jK k (λe=>?_)⟩,λ_=>Nat.le_refl _⟩,Grow.refl _ _⟩
 .rw [Tr.bO]at e;by_cases hq:q=id
  .rw [if_pos hq]at e;cases e;exact .inl ⟨hq,rfl⟩
  .rw [if_neg hq]at e;exact .inr ⟨hq,e⟩
 .have:=(hr.own id B _ hid h0 rfl).resolve_left uY;omega
theorem sM {o:Oper} {t:TypeId} {m k x:Operand} (ho:o.op= .mapUpdate t m k x\/o.op= .insert t m k x):pY (fq t m k x) o:=by
 intro P r μ B0 h w a hh hr;have hm:=aT hh.dM hr m;have hk:=aT hh.dM hr k;have hx:=aT hh.dM hr x;have hex:(execOp a.eval o).run P w=(do Instr.mapUpdate t (a.eval m) (a.eval k) (a.eval x);pure Next.skip:Sem Next).run P w:=by
  rcases ho with ho|ho<;>(simp only [execOp,ho])
 unfold fq;split
 .rename_i kt et hu;cases Ly:su P 40 kt (ev k r)with
  |false=>trivial|true=>
   simp only;obtain⟨kd,hkd⟩:=vU (d:=39) Ly;split
   .rename_i id em;rw [em]at hm;split
    .rename_i l hg;cases hf:dW P kt (ev k r) l 0 with
     |none=>trivial|some f=>
      simp only;obtain⟨B,hB,hm⟩:=hm;have hm:a.eval m= .map (some B.b):=(by simpa using hm);obtain⟨es,h1,h2⟩:=hh.obj id B _ hB hg;have chk:∀em w,(Instr.checkKey em 10000 kt (a.eval k)).run P w= .ok () w:=λem w=>gX em 40 10000 (by omega) Ly hk w;have HZ:=MapKept.run_getObj_map (P:=P) h1;have yG:=kR (w:=w) hkd hk h2 hf;cases f with
      |none=>
       simp only at yG;refine⟨undef,μ,_,.inr ⟨?_,rfl⟩,⟨#[],rfl,rfl⟩,uZ hh id B hB l _ hg es (es.push ⟨a.eval k,a.eval x,es.size⟩) _ h1 ?_⟩
       .rw [hex];simp only [hm,Instr.mapUpdate,Sem.run_bind,ai hu,Result.andThen_ok,HZ,chk,yG,MapKept.run_setObj_map _ h1,Sem.run_pure,Array.size_push]
       .show MR μ 0 (l++[(ev k r,ev x r)]) _;have:=Dp (x:=(ev k r,ev x r)) hk hx h2;simpa using this
      |some q=>
       obtain⟨e,g1,g2,g3,g4,g5⟩:=yG;have acu:((es[q.1]?).map (·.key)).getD (a.eval k)=a.eval k:=by
        have:es[q.1]?=some e:=(by simpa using g1);rw [this];exact g3
       have mw:∀w,(Instr.keyThatStays (a.eval k) (a.eval k)).run P w= .ok (a.eval k) w:=λw=>by
        rw [g3]at g4;simp [Instr.keyThatStays,g4]
       refine⟨undef,μ,_,.inr ⟨?_,rfl⟩,⟨#[],rfl,rfl⟩,uZ hh id B hB l _ hg es (es.modify q.1 λe=>{e with key:=a.eval k,val:=a.eval x}) _ h1 ?_⟩
       .rw [hex];simp only [hm,Instr.mapUpdate,Sem.run_bind,ai hu,Result.andThen_ok,HZ,chk,g5,acu,mw,MapKept.run_setObj_map _ h1,Sem.run_pure,Array.size_modify]
       .show MR μ 0 (l.set q.1 (ev k r,ev x r)) _;have:=BB (x:=(ev k r,ev x r)) hk hx q.1 h2;simpa using this
    .trivial
   .trivial
 .trivial
theorem LA {μ:Mu}:∀{l:List (AV×AV)} {es:List MapEntry} {i:Nat},MR μ i l es ->∀{j:Nat} {e:MapEntry},es[j]?=some e ->e.born=i+j
 |[],[],_,_,j,e,he=>by cases he
 |[],_::_,_,h,_,_,_=>h.elim|_::_,[],_,h,_,_,_=>h.elim|x::l,e::es,i,h,0,e',he=>by cases he;exact h.2.2.1
 |x::l,e::es,i,h,j+1,e',he=>by
  have:=LA h.2.2.2 (j:=j) (e:=e') (by simpa using he);omega
theorem LB {μ:Mu} {x:AV×AV} {k:Value} (hk:dw μ x.1 k):∀{l:List (AV×AV)} {es:List MapEntry} {i:Nat} (j:Nat) {e:MapEntry},es[j]?=some e ->dw μ x.2 e.val ->MR μ i l es ->MR μ i (l.set j x) (es.modify j λe=>{e with key:=k})
 |[],[],i,j,e,he,hv,h=>by cases he
 |[],_::_,i,j,_,_,_,h=>h.elim|_::_,[],i,j,_,_,_,h=>h.elim|y::l,e::es,i,0,e',he,hv,h=>by cases he;exact⟨hk,hv,h.2.2.1,h.2.2.2⟩
 |y::l,e::es,i,j+1,e',he,hv,h=>⟨h.1,h.2.1,h.2.2.1,LB hk j (by simpa using he) hv h.2.2.2⟩
theorem LC {μ:Mu} {a v:AV} {c:Value} (hv:dw μ v c):∀{l:List (AV×AV)} {es:List MapEntry} {i:Nat} (j:Nat) {x:AV×AV},l[j]?=some x ->x.1=a ->MR μ i l es ->MR μ i (l.set j (a,v)) (es.modify j λe=>{e with val:=c})
 |[],[],i,j,x,hx,ha,h=>by cases hx
 |[],_::_,i,j,_,_,_,h=>h.elim|_::_,[],i,j,_,_,_,h=>h.elim|y::l,e::es,i,0,x,hx,ha,h=>by cases hx;subst ha;exact⟨h.1,hv,h.2.2.1,h.2.2.2⟩
 |y::l,e::es,i,j+1,x,hx,ha,h=>⟨h.1,h.2.1,h.2.2.1,LC hv j (by simpa using hx) ha h.2.2.2⟩
theorem LD {μ:Mu}:∀{l:List (AV×AV)} {es:List MapEntry} {b:Nat},MR μ b l es ->∀(j:Nat) {x:AV×AV},l[j]?=some x ->es.findIdx? (λe=>(e.born:Int)==((b+j:Nat):Int))=some j
 |[],[],_,_,_,x,hx=>by cases hx
 |[],_::_,_,h,_,_,_=>h.elim|_::_,[],_,h,_,_,_=>h.elim|y::l,e::es,b,h,0,x,hx=>by
  rw [List.findIdx?_cons];have:((e.born:Int)==((b+0:Nat):Int))=true:=by rw [h.2.2.1];simp
  rw [this];rfl
 |y::l,e::es,b,h,j+1,x,hx=>by
  rw [List.findIdx?_cons];have hb:=h.2.2.1;have:((e.born:Int)==((b+(j+1):Nat):Int))=false:=by rw [hb];simp;omega
  rw [this];have ih:=LD h.2.2.2 j (x:=x) (by simpa using hx);rw [show b+(j+1)=b+1+j by omega];simp only [Bool.false_eq_true,if_false];rw [ih];rfl
theorem Dq {o:Oper} {t:TypeId} {m k:Operand} (ho:o.op= .mapEntry t m k):pY (rK t m k) o:=by
 intro P r μ B0 h w a hh hr;have hm:=aT hh.dM hr m;have hk:=aT hh.dM hr k;have hex:(execOp a.eval o).run P w=(do let v<-Instr.mapEntry t (a.eval m) (a.eval k);pure (Next.value v):Sem Next).run P w:=by
  simp only [execOp,ho]
 unfold rK;split
 .rename_i kt et hu;cases Ly:su P 40 kt (ev k r)with
  |false=>trivial|true=>
   simp only;obtain⟨kd,hkd⟩:=vU (d:=39) Ly;split
   .rename_i id em;rw [em]at hm;split
    .rename_i l hg;cases hf:dW P kt (ev k r) l 0 with
     |none=>trivial|some f=>
      simp only;obtain⟨B,hB,hm⟩:=hm;have hm:a.eval m= .map (some B.b):=(by simpa using hm);obtain⟨es,h1,h2⟩:=hh.obj id B _ hB hg;have chk:∀em w,(Instr.checkKey em 10000 kt (a.eval k)).run P w= .ok () w:=λem w=>gX em 40 10000 (by omega) Ly hk w;have HZ:=MapKept.run_getObj_map (P:=P) h1;have yG:=kR (w:=w) hkd hk h2 hf;have pair:∀{u:AV} {c:Value} {n:Nat},dw μ u c ->dw μ (.aO (.cons u (.cons (.int .i64 (.ofNat n)) .nil))) (.tuple #[c,.int .i64 (.ofNat n)]):=λ{u c n} h=>⟨#[c,.int .i64 (.ofNat n)],rfl,c,[.int .i64 (.ofNat n)],rfl,h,.int .i64 (.ofNat n),[],rfl,rfl,rfl⟩
      cases f with
      |none=>
       simp only at yG;unfold CN;simp only;cases hz:lA P et with
       |none=>trivial|some z=>
        simp only;have hlen:l.length=es.size:=by
         have:∀{l:List (AV×AV)} {es:List MapEntry} {i:Nat},MR μ i l es ->l.length=es.length:=by
          intro l;induction l with
          |nil=>intro es i h;cases es with|nil=>rfl|cons=>exact h.elim
          |cons y l ih=>intro es i h;cases es with|nil=>exact h.elim|cons e es=>simp [ih h.2.2.2]
         simpa using this h2
        refine⟨.tuple #[z,.int .i64 (.ofNat l.length)],μ,_,.inl ?_,pair (iR μ z),uZ hh id B hB l _ hg es (es.push ⟨a.eval k,z,es.size⟩) _ h1 ?_⟩
        .rw [hex];have hz':=λw=>gx (P:=P) (w:=w) hz;simp only [hm,Instr.mapEntry,Sem.run_bind,ai hu,Result.andThen_ok,HZ,chk,yG,hz',MapKept.run_setObj_map _ h1,Sem.run_pure,Array.size_push,hlen];rfl
        .show MR μ 0 (l++[(ev k r,eY z)]) _;have:=Dp (x:=(ev k r,eY z)) hk (iR μ z) h2;simpa using this
      |some q=>
       obtain⟨e,g1,g2,g3,g4,g5⟩:=yG;unfold CN;simp only;have WQ:es[q.1]?=some e:=(by simpa using g1);have acu:((es[q.1]?).map (·.key)).getD (a.eval k)=a.eval k:=by
        rw [WQ];exact g3
       have mw:∀w,(Instr.keyThatStays (a.eval k) (a.eval k)).run P w= .ok (a.eval k) w:=λw=>by
        rw [g3]at g4;simp [Instr.keyThatStays,g4]
       have LF:((es[q.1]?).map (λx=>(x.born:Int))).getD 0=Int.ofNat q.1:=by
        rw [WQ];have:=LA h2 g1;show(e.born:Int)=Int.ofNat q.1;rw [this,Nat.zero_add];rfl
       refine⟨.tuple #[e.val,.int .i64 (.ofNat q.1)],μ,_,.inl ?_,pair g2,uZ hh id B hB l _ hg es (es.modify q.1 λe=>{e with key:=a.eval k}) _ h1 ?_⟩
       .rw [hex];simp only [hm,Instr.mapEntry,Sem.run_bind,ai hu,Result.andThen_ok,HZ,chk,g5,acu,mw,LF,MapKept.run_setObj_map _ h1,Sem.run_pure,Array.size_modify];rfl
       .show MR μ 0 (l.set q.1 (ev k r,q.2)) _;have:=LB (x:=(ev k r,q.2)) hk q.1 g1 g2 h2;simpa using this
    .trivial
   .trivial
 .trivial
theorem yH {o:Oper} {t:TypeId} {m s x:Operand} (ho:o.op= .entryStore t m s x):pY (nk m s x) o:=by
 intro P r μ B0 h w a hh hr;have hm:=aT hh.dM hr m;have hs:=aT hh.dM hr s;have hx:=aT hh.dM hr x;have hex:(execOp a.eval o).run P w=(do Instr.entryStore t (a.eval m) (a.eval s) (a.eval x);pure Next.skip:Sem Next).run P w:=by
  simp only [execOp,ho]
 unfold nk;split
 .rename_i id kd i em es';rw [em]at hm;rw [es']at hs;split
  .rename_i l hg;split
   .rename_i e he;obtain⟨B,hB,hm⟩:=hm;have hm:a.eval m= .map (some B.b):=(by simpa using hm);have hs:a.eval s= .int kd (.ofNat i):=(by simpa [VR]using hs);obtain⟨es,h1,h2⟩:=hh.obj id B _ hB hg;have HZ:=MapKept.run_getObj_map (P:=P) h1;have hfi:es.findIdx? (λe=>(e.born:Int)==(Int.ofNat i))=some i:=by
     have:=LD h2 i he;rw [Nat.zero_add]at this;have e0:es=es.toList.toArray:=(by simp);rw [e0,List.findIdx?_toArray];exact this
    refine⟨undef,μ,_,.inr ⟨?_,rfl⟩,⟨#[],rfl,rfl⟩,uZ hh id B hB l _ hg es (es.modify i λe=>{e with val:=a.eval x}) _ h1 ?_⟩
    .rw [hex];simp only [hm,hs,Instr.entryStore,asInt,asIntOf,Sem.run_bind,Result.andThen_ok,HZ,Sem.run_pure,hfi,MapKept.run_setObj_map _ h1,Array.size_modify]
    .show MR μ 0 (l.set i (e.1,ev x r)) _;have:=LC (a:=e.1) hx i he rfl h2;simpa using this
   .trivial
  .trivial
 .trivial
theorem FE {o:Oper} {t:TypeId} {n:Option Operand} (ho:o.op= .makeMap t n):pY (uE t n) o:=by
 intro P r μ B0 h w a hh hr;have key:(execOp a.eval o).run P w= .ok (.value (.map (some w.heap.size))) (w.alloc (.map #[] 0)) ->uU P μ B0 h w a o (.val (.map h.n) ⟨h.t.set (.mp []) h.n,h.n.succ⟩):=by
  intro bH;have jJ:=hh.nT;have hsz:h.n.succ.toNat=h.n.toNat+1:=Pos.cU _;refine⟨_,μ.put h.n ⟨w.heap.size,0,0⟩,_,.inl bH,⟨_,Mu.cz _ _ _,rfl⟩,⟨λid hid=>Mu.bq _ _ _ (λe=>by rw [e]at hid;exact Nat.lt_irrefl _ hid),by show h.n.toNat<=h.n.succ.toNat;omega,
   hh.new h.n jJ (.mp []) ⟨w.heap.size,0,0⟩ _ _ (by omega) (by omega) rfl _ ?_ ⟨#[],by simp,aA⟩,?_,Grow.refl _ _⟩⟩
  .intro q p e;rw [Tr.bO]at e;by_cases hq:q=h.n
   .rw [if_pos hq]at e;cases e;exact .inl ⟨hq,rfl⟩
   .rw [if_neg hq]at e;exact .inr ⟨hq,e⟩
  .exact(Below.refl _ _).alloc hh.size _
 unfold uE;split
 .refine key ?_;simp only [execOp,ho,Option.map_none,Instr.makeMap,Sem.run_bind];rfl
 .rename_i x;have hx:=aT hh.dM hr x;split
  .rename_i kt et k c hu ex;rw [ex]at hx;have hx:a.eval x= .int k c:=(by simpa [VR]using hx);refine key ?_;simp only [execOp,ho,Option.map_some,Instr.makeMap,Sem.run_bind,ai hu,Result.andThen_ok,hx,asInt,Sem.run_pure];rfl
  .trivial
theorem Dr {μ:Mu}:∀{l:List (AV×AV)} {es:List MapEntry} {i:Nat},MR μ i l es ->l.length=es.length
 |[],[],_,_=>rfl|[],_::_,_,h=>h.elim|_::_,[],_,h=>h.elim|_::l,_::es,_,h=>by simp [Dr h.2.2.2]
theorem yI {μ:Mu}:∀{l:List (AV×AV)} {es:List MapEntry} {i:Nat},MR μ i l es ->∀(j:Nat) {x:AV×AV},l[j]?=some x ->∃e,es[j]?=some e/\dw μ x.1 e.key/\dw μ x.2 e.val/\e.born=i+j
 |[],[],_,_,j,x,hj=>by simp at hj
 |[],_::_,_,h,_,_,_=>h.elim|_::_,[],_,h,_,_,_=>h.elim|y::l,e::es,i,h,0,x,hj=>by
  obtain rfl:y=x:=by simpa using hj
  exact⟨e,rfl,h.1,h.2.1,h.2.2.1⟩
 |y::l,e::es,i,h,j+1,x,hj=>by
  obtain⟨e',h1,h2,h3,h4⟩:=yI h.2.2.2 j (x:=x) (by simpa using hj);exact⟨e',by simpa using h1,h2,h3,by omega⟩
theorem aa2 {μ:Mu}:∀{l:List (AV×AV)} {es:List MapEntry} {i:Nat},MR μ i l es ->∀e∈es,i<=e.born/\e.born<i+es.length
 |[],[],_,_,e,he=>by simp at he
 |[],_::_,_,h,_,_=>h.elim|_::_,[],_,h,_,_=>h.elim|y::l,e::es,i,h,e',he=>by
  have hb:e.born=i:=h.2.2.1;rcases List.mem_cons.1 he with rfl|he
  .simp [hb]
  .obtain⟨h1,h2⟩:=aa2 h.2.2.2 e' he;simp only [List.length_cons];omega
theorem FF {μ:Mu}:∀{l:List (AV×AV)} {es:List MapEntry} {i:Nat},MR μ i l es ->(es.map (·.born)).Nodup
 |[],[],_,_=>by simp
 |[],_::_,_,h=>h.elim|_::_,[],_,h=>h.elim|y::l,e::es,i,h=>by
  rw [List.map_cons,List.nodup_cons];refine⟨λhm=>?_,FF h.2.2.2⟩;obtain⟨e',he,hb⟩:=List.mem_map.1 hm;have:=aa2 h.2.2.2 e' he;have:e.born=i:=h.2.2.1;omega
theorem vd {l:List Nat} {n:Nat} {B:nS}:¬(AO.si l n).cT B:=λ⟨_,_,e⟩=>by cases e
theorem OL {o:Oper} {t:TypeId} {x:Operand} (ho:o.op= .range t x):pY (CO t x) o:=by
 intro P r μ B0 h w a hh hr;have hx:=aT hh.dM hr x;unfold CO;split
 .rename_i s hu ex;rw [ex]at hx;obtain⟨bs,hx,hs⟩:=hx;have hx:a.eval x= .string bs:=by simpa using hx
  have jJ:=hh.nT;have hsz:h.n.succ.toNat=h.n.toNat+1:=Pos.cU _;refine⟨_,μ.put h.n ⟨w.heap.size,0,0⟩,w.alloc (.stringIter bs 0),.inl ?_,⟨_,Mu.cz _ _ _,rfl⟩,⟨λid hid=>Mu.bq _ _ _ (λe=>by rw [e]at hid;exact Nat.lt_irrefl _ hid),by show h.n.toNat<=h.n.succ.toNat;omega,
   hh.new h.n jJ (.si s 0) ⟨w.heap.size,0,0⟩ _ _ (by omega) (by omega) rfl _ ?_ ⟨rfl,bs,by simp,hs⟩,?_,Grow.refl _ _⟩⟩
  .simp [execOp,ho,hx,Instr.range,ai hu]
  .intro q p e;rw [Tr.bO]at e;by_cases hq:q=h.n
   .rw [if_pos hq]at e;cases e;exact .inl ⟨hq,rfl⟩
   .rw [if_neg hq]at e;exact .inr ⟨hq,e⟩
  .exact(Below.refl _ _).alloc hh.size _
 .rename_i id hu ex;rw [ex]at hx;split
  .rename_i l hg;obtain⟨B,hB,hx⟩:=hx;have hx:a.eval x= .map (some B.b):=(by simpa using hx);obtain⟨es,h1,h2⟩:=hh.obj id B _ hB hg;have jJ:=hh.nT;have hsz:h.n.succ.toNat=h.n.toNat+1:=Pos.cU _;have hlen:=Dr h2;have hid:=hh.fresh id B hB;refine⟨_,μ.put h.n ⟨w.heap.size,0,0⟩,w.alloc (.mapIter (some B.b) es.size #[] es.size),.inl ?_,⟨_,Mu.cz _ _ _,rfl⟩,⟨λid hid=>Mu.bq _ _ _ (λe=>by rw [e]at hid;exact Nat.lt_irrefl _ hid),by show h.n.toNat<=h.n.succ.toNat;omega,
    hh.new h.n jJ (.mi id l.length []) ⟨w.heap.size,0,0⟩ _ _ (by omega) (by omega) rfl _ ?_ ⟨rfl,B,#[],by rw [Mu.bq _ _ _ (λe=>by rw [e]at hid;omega)];exact hB,by simp [hlen],rfl⟩,?_,Grow.refl _ _⟩⟩
   .simp only [execOp,ho,hx,Sem.run_bind,run_range_map (P:=P) w t _ _ B.b es es.size hu h1,Result.andThen_ok,Sem.run_pure]
   .intro q p e;rw [Tr.bO]at e;by_cases hq:q=h.n
    .rw [if_pos hq]at e;cases e;exact .inl ⟨hq,rfl⟩
    .rw [if_neg hq]at e;exact .inr ⟨hq,e⟩
   .exact(Below.refl _ _).alloc hh.size _
  .trivial
 .trivial
theorem Ja {o:Oper} {x:Operand} (ho:o.op= .entry x):vP (pg x) o:=by
 intro P r μ B0 h w a v hh hr hv;have hx:=aT hh.dM hr x;unfold pg at hv;split at hv
 .rename_i id ex;rw [ex]at hx;obtain⟨B,hB,hx⟩:=hx;split at hv
  .rename_i m n j seen hg;obtain⟨AJ,M,sn,hM,hw,hsn⟩:=hh.obj id B _ hB hg;have hx:a.eval x= .pointer (some ⟨B.b,0,none⟩):=(by rw [AJ]at hx;simpa using hx);split at hv
   .rename_i l hgm;obtain⟨es,h1,h2⟩:=hh.obj m M _ hM hgm;have hlen:=Dr h2;cases hn:Nat.beq l.length n with
    |false=>rw [hn]at hv;cases hv|true=>
     rw [hn]at hv;have hn:=Nat.eq_of_beq_eq_true hn;simp only at hv;split at hv
     .rename_i e he;cases hv;obtain⟨en,g1,g2,g3,g4⟩:=yI h2 j he;have aiB:sn=(seen.reverse.toArray).push en.born:=by
       apply Array.toList_inj.1;rw [hsn,g4];simp
      rw [aiB,<-hn,hlen]at hw;have Jb:=run_entry_at (P:=P) w B.b M.b es.size _ es es.size en hw h1 (List.mem_of_getElem? g1) (FF h2);refine⟨.tuple #[en.key,en.val],?_,⟨#[en.key,en.val],rfl,_,_,rfl,g2,_,_,rfl,g3,rfl⟩⟩;simp only [execOp,ho,hx,Sem.run_bind,Jb,Result.andThen_ok,Sem.run_pure]
     .cases hv
   .cases hv
  .cases hv
 .cases hv
theorem RB {o:Oper} {x:Operand} {b:Bool} (ho:o.op= .next x b):pY (Lp x b) o:=by
 intro P r μ B0 h w a hh hr;have hx:=aT hh.dM hr x;unfold Lp;split
 .rename_i id ex;rw [ex]at hx;split
  .rename_i s pos hg;obtain⟨B,hB,hx⟩:=hx;obtain⟨AJ,bs,hw,hs⟩:=hh.obj id B _ hB hg;have hx:a.eval x= .pointer (some ⟨B.b,0,none⟩):=(by rw [AJ]at hx;simpa using hx);have cJ:=(Array.getElem?_eq_some_iff.1 hw).1;have HZ:(getObj B.b).run P w= .ok (.stringIter bs pos) w:=(by simp [getObj,Sem.run,hw]);have hlen:s.length=bs.size:=(by rw [<-hs];simp);unfold aaX;cases hp:s[pos]? with
   |none=>
    simp only;have Dn:¬pos<bs.size:=by
     have:=List.getElem?_eq_none_iff.1 hp;omega
    exact⟨.tuple #[.bool false],μ,w,.inl (by simp [execOp,ho,hx,Instr.next,HZ,Dn]),⟨#[.bool false],rfl,.bool false,[],rfl,rfl,rfl⟩,bS.refl hh⟩
   |some c=>
    simp only;cases hc:bQ c 128 with
    |false=>trivial|true=>
     simp only;have hc:=bC.1 hc;have oz:pos<bs.size:=by
      have:=(List.getElem?_eq_some_iff.1 hp).1;omega
     have hbv:(bs[pos]'oz).toNat=c:=by
      rw [<-hs]at hp;have e:bs.data.toList[pos]?=some (bs[pos]'oz):=by
       rw [Array.getElem?_toList];exact Array.getElem?_eq_getElem oz
      rw [List.getElem?_map,e]at hp;simpa using hp
     have hd:=decode_ascii bs pos oz (by omega);have pw:∀o',(setObj B.b o').run P w= .ok () {w with heap:=w.heap.setIfInBounds B.b o'}:=λo'=>by simp [setObj,Sem.run,hw]
     have sN:=MapKept.heap_set (o':= .stringIter bs (pos+1)) hw;have jK:∀k,k≠B.b ->({w with heap:=w.heap.setIfInBounds B.b (.stringIter bs (pos+1))}:World).heap[k]?=w.heap[k]?:=λk hk=>sN.2 k hk;refine⟨.tuple #[.bool true,.int .i64 pos,.int .i32 c],μ,{w with heap:=w.heap.setIfInBounds B.b (.stringIter bs (pos+1))},.inl ?_,⟨#[.bool true,.int .i64 pos,.int .i32 c],rfl,_,_,rfl,rfl,_,_,rfl,rfl,_,_,rfl,rfl,rfl⟩,
      λ_ _=>rfl,Nat.le_refl _,hh.chg id B hB (.si s (Nat.succ pos)) rfl (.si s pos) hg rfl vd jK (by simp) ⟨AJ,bs,sN.1,hs⟩ _ (λq p e=>?_),⟨⟨rfl,rfl,rfl,by simp,λk hk=>jK k (λe=>?_)⟩,λ_=>Nat.le_refl _⟩,Grow.refl _ _⟩
     .simp only [execOp,ho,hx,Instr.next,Sem.run_bind,HZ,Result.andThen_ok,oz,if_true,hd,pw,hbv,Sem.run_pure,goInt]
     .rw [Tr.bO]at e;by_cases hq:q=id
      .rw [if_pos hq]at e;cases e;exact .inl ⟨hq,rfl⟩
      .rw [if_neg hq]at e;exact .inr ⟨hq,e⟩
     .have:=(hh.own id B _ hB hg rfl).resolve_left vd;omega
  .trivial
 .trivial
end
section
variable [aY]
theorem wY {P:Program} {w:World} {μ:Mu} {x:AV} {cx:Value} (hx:dw μ x cx) {n:Nat} (hn:sq x=some n) (sz:Nat):(Builtin.firstCells sz 0 cx).run P w= .ok #[] w:=by
 unfold sq at hn;split at hn
 .obtain⟨B,c,hB,hx,_⟩:=hx;have hx:=(List.cons.inj hx).1;rw [hx];simp [Builtin.firstCells,loadCells,loadCellsFrom]
 .obtain⟨xs,hl,hx⟩:=hx;rcases hx with ⟨b,o,c,hx,_⟩|⟨e0,_,q,hx⟩
  .have hx:=(List.cons.inj hx).1;rw [hx];simp [Builtin.firstCells,loadCells,loadCellsFrom]
  .have hx:=(List.cons.inj hx).1;rw [hx];cases q<;>simp [Builtin.firstCells,loadCells,loadCellsFrom]
 .obtain⟨B,hB,hx⟩:=hx;rcases hx with ⟨c,hx,_⟩|⟨e0,hx⟩
  .have hx:=(List.cons.inj hx).1;rw [hx];simp [Builtin.firstCells,loadCells,loadCellsFrom]
  .have hx:=(List.cons.inj hx).1;rw [hx];simp [Builtin.firstCells]
 .obtain⟨o,c,hx⟩:=hx;have hx:=(List.cons.inj hx).1;rw [hx];simp [Builtin.firstCells,loadCells,loadCellsFrom]
 .have hx:cx= .slice none 0 0:=by simpa [VR]using hx
  rw [hx];simp [Builtin.firstCells]
 .obtain⟨bs,hx,WO⟩:=hx;have hx:=(List.cons.inj hx).1;rw [hx];simp [Builtin.firstCells]
 .cases hn
theorem RC {o:Oper} {ts:Array TypeId} {aZs:Array Operand} (ho:o.op= .call ⟨.builtin .copy,aZs,ts⟩):pY (λP r h=>Rf ts.toList (qq aZs.toList r) P h) o:=by
 intro P r μ B0 h w a hh hr;have hx:=fy hh.dM hr aZs.toList;simp only;unfold Rf;split
 .rename_i t ts' d x rest WM yC;rw [yC]at hx;obtain⟨cd,r1,hl,hd,cx,r2,e1,hx,_⟩:=hx;subst e1;have t0:ts[0]?=some t:=by rw [<-Array.getElem?_toList,WM];rfl
  have a0:(aZs.map a.eval)[0]?=some cd:=by rw [<-Array.getElem?_toList,Array.toList_map,hl];rfl
  have a1:(aZs.map a.eval)[1]?=some cx:=by rw [<-Array.getElem?_toList,Array.toList_map,hl];rfl
  have jr:∀(cv:Value) (w':World),(Builtin.copy_ ts o.type (aZs.map a.eval)).run P w= .ok cv w' ->(execOp a.eval o).run P w= .ok (.value cv) w':=by
   intro cv w' CT;rw [execOp_builtin ho];simp [builtin,CT]
  cases he:iH P t with
  |none=>trivial|some e=>
   simp only;have hu:P.underlying t=some (.slice e):=by
    unfold iH at he;split at he
    .rename_i e' hu;cases he;exact hu
    .cases he
   cases hsz:fL P e with
   |none=>trivial|some sz=>
    simp only;split
    .rename_i id dl oq;obtain⟨B,hB,xx⟩:=hd;cases WN:Nat.beq sz oq with
     |false=>trivial|true=>
      simp only;have WN:=Nat.eq_of_beq_eq_true WN;subst WN;cases hn:sq x with
      |none=>trivial|some sn=>
       simp only;cases hs:CM x (Nat.min sn dl) sz h with
       |none=>trivial|some new=>
        simp only;cases hp:putAt id 0 (Nat.mul (Nat.min sn dl) sz) new h with
        |none=>trivial|some h'=>
         simp only;obtain⟨vs,hv,_,gB⟩:=tE (P:=P) hh hx hs ⟨sn,hn,Nat.min_le_left _ _⟩;obtain⟨p1,p2,p3⟩:=kQ (P:=P) hh hp hv hB;have hf:=gB w rfl;have hlen:=mz (P:=P) (w:=w) hx hn;rcases xx with ⟨c,xx,_⟩|⟨e0,xx⟩
         .have xx:=(List.cons.inj xx).1;subst xx;refine⟨.int .i64 (Nat.min sn dl:Nat),μ,_,.inl (jr _ _ ?_),rfl,p3⟩;unfold Builtin.copy_;simp only [t0,a0,a1,Sem.run_bind,ai hu,Result.andThen_ok,hlen,aH hsz,hf];rw [Nat.add_zero]at p2;simp only [Sem.run_bind,p2,Result.andThen_ok,Sem.run_pure];rfl
         .have xx:=(List.cons.inj xx).1;subst xx;subst e0;have hm0:Nat.min sn 0=0:=Nat.min_zero sn;have xM:vs=[]:=by
           cases vs with
           |nil=>rfl|cons _ _=>rw [hm0]at p1;simp at p1
          subst xM;rw [hm0]at hf ⊢;refine⟨.int .i64 (0:Nat),μ,w,.inl (jr _ _ ?_),rfl,by simpa [World.setCells]using p3⟩;unfold Builtin.copy_;simp only [t0,a0,a1,Sem.run_bind,ai hu,Result.andThen_ok,hlen,aH hsz,hm0,hf];rfl
    .rename_i id off dl cap oq;obtain⟨B,c,hB,xx,AM,Fa,vR⟩:=hd;have xx:=(List.cons.inj xx).1;subst xx;cases WN:Nat.beq sz oq with
     |false=>trivial|true=>
      simp only;have WN:=Nat.eq_of_beq_eq_true WN;subst WN;cases hn:sq x with
      |none=>trivial|some sn=>
       simp only;cases hs:CM x (Nat.min sn dl) sz h with
       |none=>trivial|some new=>
        simp only;cases hp:putAt id off (Nat.mul (Nat.min sn dl) sz) new h with
        |none=>trivial|some h'=>
         simp only;obtain⟨vs,hv,_,gB⟩:=tE (P:=P) hh hx hs ⟨sn,hn,Nat.min_le_left _ _⟩;obtain⟨p1,p2,p3⟩:=kQ (P:=P) hh hp hv hB;have hf:=gB w rfl;have hlen:=mz (P:=P) (w:=w) hx hn;refine⟨.int .i64 (Nat.min sn dl:Nat),μ,_,.inl (jr _ _ ?_),rfl,p3⟩;unfold Builtin.copy_;simp only [t0,a0,a1,Sem.run_bind,ai hu,Result.andThen_ok,hlen,aH hsz,hf];simp only [Sem.run_bind,p2,Result.andThen_ok,Sem.run_pure];rfl
    .have xx:cd= .slice none 0 0:=(by simpa [VR]using hd);subst xx;cases hn:sq x with
     |none=>trivial|some sn=>
      have hlen:=mz (P:=P) (w:=w) hx hn;have hf:=wY (P:=P) (w:=w) hx hn sz;refine⟨.int .i64 0,μ,w,.inl (jr _ _ ?_),rfl,bS.refl hh⟩;unfold Builtin.copy_;have:Nat.min sn 0=0:=Nat.min_zero sn;simp only [t0,a0,a1,Sem.run_bind,ai hu,Result.andThen_ok,hlen,aH hsz,this,hf];rfl
    .obtain⟨o,c,xx⟩:=hd;have xx:=(List.cons.inj xx).1;subst xx;cases hn:sq x with
     |none=>trivial|some sn=>
      have hlen:=mz (P:=P) (w:=w) hx hn;have hf:=wY (P:=P) (w:=w) hx hn sz;refine⟨.int .i64 0,μ,w,.inl (jr _ _ ?_),rfl,bS.refl hh⟩;unfold Builtin.copy_;have:Nat.min sn 0=0:=Nat.min_zero sn;simp only [t0,a0,a1,Sem.run_bind,ai hu,Result.andThen_ok,hlen,aH hsz,this,hf];rfl
    .trivial
 .trivial
theorem OM {o:Oper} {ts:Array TypeId} {aZs:Array Operand} (ho:o.op= .call ⟨.builtin .clear,aZs,ts⟩):pY (λP r h=>pe ts.toList (qq aZs.toList r) P h) o:=by
 intro P r μ B0 h w a hh hr;have hx:=fy hh.dM hr aZs.toList;simp only;unfold pe;split
 .rename_i t ts' d rest WM yC;rw [yC]at hx;obtain⟨cd,r1,hl,hd,aa3⟩:=hx;have t0:ts[0]?=some t:=by rw [<-Array.getElem?_toList,WM];rfl
  have a0:(aZs.map a.eval)[0]?=some cd:=by rw [<-Array.getElem?_toList,Array.toList_map,hl];rfl
  have jr:∀(cv:Value) (w':World),(Builtin.clear_ ts o.type (aZs.map a.eval)).run P w= .ok cv w' ->(execOp a.eval o).run P w= .ok (.value cv) w':=by
   intro cv w' CT;rw [execOp_builtin ho];simp [builtin,CT]
  cases he:iH P t with
  |none=>trivial|some e=>
   simp only;have hu:P.underlying t=some (.slice e):=by
    unfold iH at he;split at he
    .rename_i e' hu;cases he;exact hu
    .cases he
   cases hsz:fL P e with
   |none=>trivial|some sz=>
    simp only;cases hz:dI P e with
    |none=>trivial|some z=>
     simp only;split
     .rename_i id off n cap oq;obtain⟨B,c,hB,xx,AM,Fa,vR⟩:=hd;have xx:=(List.cons.inj xx).1;subst xx;cases hb:aF (Nat.beq sz oq) (aF (Nat.beq z.len sz) (bQ 0 n))with
      |false=>trivial|true=>
       simp only;obtain⟨b1,b2⟩:=aw.1 hb;obtain⟨b2,b3⟩:=aw.1 b2;have HW:=Nat.eq_of_beq_eq_true b2;have hn:0<n:=(by rw [kr]at b3;exact of_decide_eq_true b3);cases hp:putAt id off (Nat.mul n sz) (fQ n z) h with
       |none=>trivial|some h'=>
        simp only;obtain⟨zv,IB,Br⟩:=mq μ hz;have iJ:zv.cells.size=sz:=(by rw [<-HW,Br.len];simp);have Db:=cG.fQ Br n;rw [<-pn zv.cells n sz iJ]at Db;obtain⟨p1,p2,p3⟩:=kQ (P:=P) hh hp Db hB;have Xq:Builtin.zeroCells zv.cells n=(Array.range (n*sz)).map λi=>zv.cells[i % zv.cells.size]!:=(by simp [Builtin.zeroCells,iJ]);have Xr:=gx (P:=P) (w:=w) IB;refine⟨.tuple #[],μ,_,.inl (jr _ _ ?_),⟨#[],rfl,rfl⟩,p3⟩;unfold Builtin.clear_;simp only [t0,a0,Sem.run_bind,ai hu,Result.andThen_ok];cases n with
        |zero=>omega|succ n=>
         simp only [Sem.run_bind,Xr,Result.andThen_ok,Xq,p2,Sem.run_pure]
     .trivial
 .trivial
theorem RD {o:Oper} {f:Operand} {aZs:Array Operand} {ts:Array TypeId} (ho:o.op= .call ⟨.value f,aZs,ts⟩):pY (λ_ r h=>Lq (ev f r) (qq aZs.toList r) h) o:=by
 intro P r μ B0 h w a hh hr;have hf:=aT hh.dM hr f;have hx:=fy hh.dM hr aZs.toList;simp only;unfold Lq;split
 .rename_i g p q ef;rw [ef]at hf;obtain⟨F,C,hf,_,h1,h2⟩:=hf;have hf:a.eval f= .func (.func g) F C:=by simpa using hf
  refine⟨rfl,F++aZs.map a.eval++C,?_,?_⟩
  .simp [execOp,ho,resolve,hf,Deferred.ofValue,invoke]
  .rw [Array.toList_append,Array.toList_append,List.append_assoc];refine cG.app (cG.app h2 ?_) h1;simpa using hx
 .rename_i id ef;rw [ef]at hf;obtain⟨B,hB,hf⟩:=hf;have hf:a.eval f= .func (.yield B.b) #[] #[]:=by simpa using hf
  refine⟨rfl,B,aZs.map a.eval,hB,?_,by simpa using hx⟩;simp [execOp,ho,resolve,hf,Deferred.ofValue,invoke]
 .trivial
def afk (o:Oper):OC ->Prop
 | .bad=>True| .pure f=>fA f o| .load f=>vP f o| .alloc f=>uN f o| .lB f=>pY f o
theorem BC (o:Oper):afk o (cls o.op):=by
 unfold cls;split
 .rename_i x ho;exact Bo (.inl ho)
 .rename_i x ho;exact Bo (.inr ho)
 .rename_i ho;exact OE ho
 .rename_i ho;exact Fy ho
 .rename_i ho;exact OH ho
 .rename_i ho;exact IA ho
 .rename_i ho;exact vQ ho
 .rename_i ho;exact OG ho
 .rename_i ho;exact OI ho
 .rename_i ho;exact AG ho
 .rename_i ho;exact Rs ho
 .rename_i ho;exact Xn ho
 .rename_i ho;exact Dg ho
 .rename_i ho;exact tC ho
 .rename_i ho;exact AH ho
 .rename_i ho;exact xw ho
 .rename_i ho;exact IK ho
 .rename_i ho;exact yy ho
 .rename_i ho;exact ID ho
 .rename_i ho;exact CV ho
 .rename_i ho;exact yz ho
 .rename_i ho;exact IE ho
 .rename_i ho;exact CU ho
 .rename_i c ho;obtain⟨cl,aZs,ts⟩:=c;unfold Lr;cases cl with
  |value f=>exact RD ho|invoke _ _=>trivial|builtin b=>
   simp only;unfold uF;cases b<;>first
    |trivial
    |exact IX ho
    |exact Ru ho
    |exact Rv ho
    |exact RC ho
    |exact OM ho
    |exact Rw ho
    |exact Rx ho
 .rename_i ho;exact FD ho
 .rename_i ho;exact sM (.inl ho)
 .rename_i ho;exact sM (.inr ho)
 .rename_i ho;exact Dq ho
 .rename_i ho;exact yH ho
 .rename_i ho;exact FE ho
 .rename_i ho;exact OL ho
 .rename_i ho;exact RB ho
 .rename_i ho;exact Ja ho
 .trivial
end
section
variable [aY]
theorem FG {μ:Mu} {k:MK} {n:Nat} (hk:k.ok n) {id:Pos} {b m:Nat} (hm:n<=m) (hid:μ id=some ⟨b,0,m⟩):dw μ (k.av id) (k.val b):=by
 cases k with
 |ptr=>exact⟨_,hid,rfl⟩|slice l c z=>exact⟨_,hid,.inl ⟨c,rfl,hk.1,by have:=hk.2;show c*z<=m;omega⟩⟩
theorem ON {P:Program} {r:Tr AV} {μ:Mu} {B0:Nat} {h:Heap} {w:World} {a:Act} (o:Oper) (hh:HR μ B0 h w) (hr:RR μ r a.tmps):uU P μ B0 h w a o (qm o.op P r h):=by
 have hc:=BC o;unfold qm;cases eG:cls o.op with
 |bad=>trivial|pure f=>
  rw [eG]at hc;simp only;cases hf:f P r with
  |none=>trivial|some v=>
   obtain⟨cv,h1,h2⟩:=hc P r μ a v hh.dM hr hf;exact⟨cv,μ,w,.inl (h1 w),h2,bS.refl hh⟩
 |load f=>
  rw [eG]at hc;simp only;cases hf:f P r h with
  |none=>trivial|some v=>
   obtain⟨cv,h1,h2⟩:=hc P r μ B0 h w a v hh hr hf;exact⟨cv,μ,w,.inl h1,h2,bS.refl hh⟩
 |alloc f=>
  rw [eG]at hc;simp only;cases hf:f P r with
  |none=>trivial|some A=>
   simp only;cases hn:iQ A.l A.n h A.k with
   |fail=>trivial|enter f a h'=>exact absurd hn (jH.1 f a h')|round f a h'=>exact absurd hn (jH.2 f a h')|val v h'=>
    obtain⟨ao,hm,rfl,rfl⟩:=mA hn;obtain⟨hk,arr,el,xs,hv,hlen,RE,bH⟩:=hc P r μ a A ao hh.dM hr hf hm;have HY:=Dj hh hv hm arr el RE (by omega);have fb:h.n.succ.toNat=h.n.toNat+1:=Pos.cU _;refine⟨_,_,_,.inl (bH w),FG hk (m:=arr.size) (by omega) (b:=w.heap.size) ?_,?_,?_,HY,?_,?_⟩
    .exact Mu.cz _ _ _
    .intro q hq;exact Mu.bq _ _ _ (λe'=>by subst e';omega)
    .show h.n.toNat<=h.n.succ.toNat;omega
    .exact(Below.refl _ _).alloc hh.size _
    .exact Grow.refl _ _
 |lB f=>
  rw [eG]at hc;exact hc P r μ B0 h w a hh hr
def eN (P:Program):Prop:=∀(f:FuncId) (fn:Func) (args:Array Value) (w:World),P.funcs[f]?=some fn ->fn.body.isSome=true ->(callFunc f args).run P w= .ok (.enter f args) w
def aW (P:Program) (B0:Nat) (call:dY ->AV ->Heap ->CR):Prop:=
 ∀(t:dY) (aZs:AV) (h:Heap) (v:AV) (h':Heap),call t aZs h= .ret v h' ->∀(μ:Mu) (w:World),HR μ B0 h w ->
  match t with
  | .fn f=>(∀cargs:Array Value,(callFunc f cargs).run P w= .ok (.enter f cargs) w)/\∀cargs:Array Value,cG μ aZs cargs.toList ->
   Calls P f cargs w λe w'=>∃cv μ',e= .returned cv/\dw μ' v cv/\bS μ B0 h w μ' h' w'
  | .rd id=>∀B,μ id=some B ->∀cargs:Array Value,cG μ aZs cargs.toList ->∃fn tmps assign body,(Instr.yield B.b cargs).run P w= .ok (.round B.b fn tmps assign body) w/\
   ∀(c:Frame) (cs:List Frame),∃cv μ' w',dw μ' v cv/\bS μ B0 h w μ' h' w'/\Steps P (lone (Frame.round B.b fn tmps assign body .normal) (c::cs) w) (lone (c.finish cv) cs w')
theorem px {o:Oper} {P:Program} {r:Tr AV} {h:Heap} (hx:qm o.op P r h≠.fail):∀c,o.op≠.defer c:=by
 intro c e;apply hx;unfold qm;rw [e];rfl
variable {P:Program} {B0:Nat}
def RF (P:Program) (B0:Nat) (μ:Mu) (h:Heap) (w:World) (b:Frame) (a:Act) (o:Oper) (v:AV) (h':Heap):Prop:=
 ∀(ops:Array Oper) (i:Nat) (rest:List Nat) (k:List Item) (cs:List Frame),ops[i]?=some o ->Region.wanted o (yielded ops a.tmps)=true ->
  ∃cv μ' w',dw μ' v cv/\bS μ B0 h w μ' h' w'/\Steps P (lone (b.atR a (.inRegion ops (i::rest)::k)) cs w) (lone (b.atR (a.put o.dst cv) (.inRegion ops rest::k)) cs w')
def FH (o:Oper) (cx:Cx) (r:Tr AV) (h:Heap) (v:AV) (h':Heap):Prop:=
 qm o.op cx.P r h= .val v h'\/(∃f aZs h1,qm o.op cx.P r h= .enter f aZs h1/\cx.call (.fn f) aZs h1= .ret v h')\/(∃id aZs h1,qm o.op cx.P r h= .round id aZs h1/\cx.call (.rd id) aZs h1= .ret v h')
theorem LG {cx:Cx} (hP:cx.P=P) (bl:aW P B0 cx.call) {o:Oper} {r:Tr AV} {h h':Heap} {v:AV} (oD:FH o cx r h v h') {μ:Mu} {w:World} {b:Frame} {a:Act} (hh:HR μ B0 h w) (hr:RR μ r a.tmps):
  RF P B0 μ h w b a o v h':=by
 intro ops i rest k cs ho hw;have hs:=ON (P:=P) o hh hr;have kx:∀u,(b.atR a (.inRegion ops (i::rest)::k)).finish u=b.atR (a.put o.dst u) (.inRegion ops rest::k):=by
  intro u;rw [Frame.finish_atR,ho];rfl
 rcases oD with hx|⟨f,aZs,h1,hx,hc⟩|⟨id,aZs,h1,hx,hc⟩
 .rw [hP]at hx;have iP:=px (P:=P) (r:=r) (h:=h) (o:=o) (by rw [hx];intro e;cases e);have hg:=stepGR_op (P:=P) (b:=b) (k:=k) (cs:=cs) (w:=w) (rest:=rest) ho hw;rw [Oper.semAt_eq _ _ _ iP]at hg;rw [hx]at hs;obtain⟨cv,μ',w',bH,hv,hp⟩:=hs;refine⟨cv,μ',w',hv,hp,.one (step_lone_go ?_)⟩;rcases bH with bH|⟨bH,rfl⟩
  .rw [hg,<-kx];simp [stepG.apply,bH]
  .rw [hg,<-kx];simp [stepG.apply,bH]
 .rw [hP]at hx;have iP:=px (P:=P) (r:=r) (h:=h) (o:=o) (by rw [hx];intro e;cases e);have hg:=stepGR_op (P:=P) (b:=b) (k:=k) (cs:=cs) (w:=w) (rest:=rest) ho hw;rw [Oper.semAt_eq _ _ _ iP]at hg;rw [hx]at hs;obtain⟨rfl,cargs,bH,hv⟩:=hs;obtain⟨Jb,Jc⟩:=bl _ _ _ _ _ hc μ w hh;rw [Jb]at bH;obtain⟨e,w',fr,⟨cv,μ',rfl,hv',hp⟩,tF,_,Jd⟩:=Jc cargs hv (b.atR a (.inRegion ops (i::rest)::k)::cs);have yJ:step P (lone (b.atR a (.inRegion ops (i::rest)::k)) cs w)= .next (lone (Frame.enter P f cargs .normal) (b.atR a (.inRegion ops (i::rest)::k)::cs) w):=
   step_lone_go (by rw [hg];simp [stepG.apply,bH,Frame.atR])
  refine⟨cv,μ',w',hv',hp,.head yJ (Steps.trans tF (.one ?_))⟩;rw [<-kx];exact step_leave_returned Jd
 .rw [hP]at hx;have iP:=px (P:=P) (r:=r) (h:=h) (o:=o) (by rw [hx];intro e;cases e);have hg:=stepGR_op (P:=P) (b:=b) (k:=k) (cs:=cs) (w:=w) (rest:=rest) ho hw;rw [Oper.semAt_eq _ _ _ iP]at hg;rw [hx]at hs;obtain⟨rfl,B,cargs,hB,bH,hv⟩:=hs;obtain⟨fn,tmps,assign,body,hy,acv⟩:=bl _ _ _ _ _ hc μ w hh B hB cargs hv;rw [hy]at bH;obtain⟨cv,μ',w',hv',hp,tF⟩:=acv (b.atR a (.inRegion ops (i::rest)::k)) cs;have yJ:step P (lone (b.atR a (.inRegion ops (i::rest)::k)) cs w)= .next (lone (Frame.round B.b fn tmps assign body .normal) (b.atR a (.inRegion ops (i::rest)::k)::cs) w):=
   step_lone_go (by rw [hg];simp [stepG.apply,bH,Frame.atR])
  refine⟨cv,μ',w',hv',hp,.head yJ ?_⟩;rw [<-kx];exact tF
theorem RG {o:Oper} {cx:Cx} {r:Tr AV} {m:List Pos} {h:Heap} {k:Tr AV ->List Pos ->Heap ->R} {x:R} (e:Xd o cx r m h k=x) (hx:x≠.fail):
  ∃v h' r',FH o cx r h v h'/\ph o.dst cx.nt v r=some r'/\k r' m h'=x:=by
 unfold Xd at e;cases ho:qm o.op cx.P r h with
 |fail=>rw [ho]at e;exact absurd e.symm hx|val v h'=>
  rw [ho]at e;simp only at e;cases hp:ph o.dst cx.nt v r with
  |none=>rw [hp]at e;exact absurd e.symm hx|some r'=>rw [hp]at e;exact⟨v,h',r',.inl ho,hp,e⟩
 |enter f aZs h1=>
  rw [ho]at e;simp only at e;unfold crK at e;cases hc:cx.call (.fn f) aZs h1 with
  |fail=>rw [hc]at e;exact absurd e.symm hx|ret v h'=>
   rw [hc]at e;simp only at e;cases hp:ph o.dst cx.nt v r with
   |none=>rw [hp]at e;exact absurd e.symm hx|some r'=>rw [hp]at e;exact⟨v,h',r',.inr (.inl ⟨f,aZs,h1,ho,hc⟩),hp,e⟩
 |round f aZs h1=>
  rw [ho]at e;simp only at e;unfold crK at e;cases hc:cx.call (.rd f) aZs h1 with
  |fail=>rw [hc]at e;exact absurd e.symm hx|ret v h'=>
   rw [hc]at e;simp only at e;cases hp:ph o.dst cx.nt v r with
   |none=>rw [hp]at e;exact absurd e.symm hx|some r'=>rw [hp]at e;exact⟨v,h',r',.inr (.inr ⟨f,aZs,h1,ho,hc⟩),hp,e⟩
theorem yK {ops:Array Oper} {o:Oper} {cx:Cx} {r:Tr AV} {m:List Pos} {h:Heap} {k:Tr AV ->List Pos ->Heap ->R} {x:R} (e:tn ops o cx r m h k=x) (hx:x≠.fail):
  ∃v h' r',((cY ops o r= .yes/\FH o cx r h v h')\/(cY ops o r= .no/\v= .aO .nil/\h'=h))/\ph o.dst cx.nt v r=some r'/\k r' m h'=x:=by
 unfold tn at e;cases hw:cY ops o r with
 |yes=>
  rw [hw]at e;obtain⟨v,h',r',h1,h2,h3⟩:=RG e hx;exact⟨v,h',r',.inl ⟨rfl,h1⟩,h2,h3⟩
 |no=>
  rw [hw]at e;simp only at e;cases hp:ph o.dst cx.nt (.aO .nil) r with
  |none=>rw [hp]at e;exact absurd e.symm hx|some r'=>rw [hp]at e;exact⟨_,h,r',.inr ⟨rfl,rfl,rfl⟩,hp,e⟩
 |unknown=>rw [hw]at e;exact absurd e.symm hx
theorem tG {μ:Mu} {d:Option Tmp} {nt:Nat} {v:AV} {r r':Tr AV} (hp:ph d nt v r=some r') {a:Act} (hr:RR μ r a.tmps) (hs:a.tmps.size=nt) {cv:Value} (hv:dw μ v cv):
  RR μ r' (a.put d cv).tmps/\(a.put d cv).tmps.size=nt/\(a.put d cv).defers=a.defers:=by
 unfold ph at hp;cases d with
 |none=>cases hp;exact⟨hr,hs,rfl⟩|some d=>
  simp only at hp;cases hl:bQ d nt with
  |false=>rw [hl]at hp;cases hp|true=>
   rw [hl]at hp;cases hp;have hl:=bC.1 hl;refine⟨?_,by simp [Act.put,hs],rfl⟩;intro k u hk;rw [Tr.bO]at hk;by_cases he:k=d
   .subst he;rw [if_pos rfl]at hk;cases hk;exact⟨cv,by simp [Act.put,Array.getElem?_setIfInBounds_self_of_lt (show k<a.tmps.size by omega)],hv⟩
   .rw [if_neg (λe=>he (dV e))]at hk;obtain⟨cu,h1,h2⟩:=hr k u hk;exact⟨cu,by simp only [Act.put];rw [Array.getElem?_setIfInBounds_ne (λe=>he e.symm)];exact h1,h2⟩
def asB (v:Value):Option Bool:=match v with| .bool b=>some b|_=>none
theorem sO {μ:Mu} {ops:Array Oper} {o:Oper} {r:Tr AV} {tmps:Array Value} (hr:∀g s v,o.guard=some g ->uG ops g.1=some s ->r.get (pathOf s)=some v ->∃cv,tmps[s]?=some cv/\dw μ v cv):
  (cY ops o r= .yes ->Region.wanted o (yielded ops tmps)=true)/\(cY ops o r= .no ->Region.wanted o (yielded ops tmps)=false):=by
 unfold cY Region.wanted;cases hg:o.guard with
 |none=>exact⟨λ_=>rfl,λe=>by cases e⟩|some g=>
  obtain⟨j,want⟩:=g;simp only;cases hs:uG ops j with
  |none=>exact⟨(λe=>by cases e),(λe=>by cases e)⟩|some s=>
   simp only;cases hv:r.get (pathOf s)with
   |none=>exact⟨(λe=>by cases e),(λe=>by cases e)⟩|some v=>
    obtain⟨cv,h1,h2⟩:=hr (j,want) s v hg hs hv;have hy:yielded ops tmps j=asB cv:=by
     unfold yielded;unfold uG at hs;rw [hs];simp only [Option.bind_some,h1];cases cv<;>rfl
    simp only [gv];unfold yr;split
    .rename_i b;have:cv= .bool b:=(by simpa [VR]using h2);rw [hy,this];cases b<;>cases want<;>simp [asB]
    .rename_i l;obtain⟨c,h3,_⟩:=h2;have:cv= .tuple c:=(by simpa using h3);rw [hy,this];simp [asB]
    .exact⟨(λe=>by cases e),(λe=>by cases e)⟩
end
section
variable [aY]
theorem oE {r r':Tr AV}:∀(l:List Operand),(∀x∈l,ev x r=ev x r') ->qq l r=qq l r'
 |[],_=>rfl|x::l,h=>by
  show AV.cons (ev x r) (qq l r)=AV.cons (ev x r') (qq l r');rw [h x (by simp),oE l (λy hy=>h y (by simp [hy]))]
theorem qL {r r':Tr AV} (place:Nat ->Option (Nat×Nat)) (xv:Nat):∀(ps:List (Nat×Operand)) (l:AV),(∀p∈ps,ev p.2 r=ev p.2 r') ->sF place xv ps r l=sF place xv ps r' l
 |[],l,_=>rfl|p::ps,l,h=>by
  have h1:=h p (by simp);have h2:=λl=>qL place xv ps l (λq hq=>h q (by simp [hq]));show Option.casesOn (motive:=λ_=>Option AV) (place p.1) none (λq=>
   Bool.casesOn (motive:=λ_=>Option AV) (aF (aF (okV (ev p.2 r)) (Nat.beq (ev p.2 r).cells.len q.2)) (Nat.ble (Nat.add q.1 q.2) xv)) none (sF place xv ps r (gO q.1 l (ev p.2 r).cells)))=
   Option.casesOn (motive:=λ_=>Option AV) (place p.1) none (λq=>
   Bool.casesOn (motive:=λ_=>Option AV) (aF (aF (okV (ev p.2 r')) (Nat.beq (ev p.2 r').cells.len q.2)) (Nat.ble (Nat.add q.1 q.2) xv)) none (sF place xv ps r' (gO q.1 l (ev p.2 r').cells)))
  rw [h1];cases place p.1 with
  |none=>rfl|some q=>simp only [h2]
def afl (r r':Tr AV):OC ->Prop
 | .bad=>True| .pure f=>∀P,f P r=f P r'| .load f=>∀P h,f P r h=f P r' h| .alloc f=>∀P,f P r=f P r'| .lB f=>∀P h,f P r h=f P r' h
theorem BD {r r':Tr AV} (o:Option Operand) (h:∀x,o=some x ->ev x r=ev x r'):o.map (ev · r)=o.map (ev · r'):=by
 cases o with
 |none=>rfl|some x=>simp [h x rfl]
theorem vV {r r':Tr AV} (o:Op) (h:∀x∈o.operands.toList,ev x r=ev x r'):afl r r' (cls o):=by
 unfold cls;split
 .rename_i x;intro P;simp only [Lm,h x (by simp [Op.operands])]
 .rename_i x;intro P;simp only [Lm,h x (by simp [Op.operands])]
 .rename_i c x y;intro P;simp only [yp,h c (by simp [Op.operands]),h x (by simp [Op.operands]),h y (by simp [Op.operands])]
 .intro P;rfl
 .rename_i t x;intro P;simp only [acj,h x (by simp [Op.operands])]
 .rename_i t ps;intro P;simp only [CI,qL (r:=r) (r':=r') _ _ ps.toList _ (λp hp=>h p.2 (by simp only [Op.operands,List.mem_map];exact⟨p,hp,rfl⟩))]
 .rename_i t n ps;intro P;simp only [nj,qL (r:=r) (r':=r') _ _ ps.toList _ (λp hp=>h p.2 (by simp only [Op.operands,List.mem_map];exact⟨p,hp,rfl⟩))]
 .rename_i t x;intro P hp;simp only [sE,h x (by simp [Op.operands])]
 .rename_i t x y;intro P hp;simp only [tj,h x (by simp [Op.operands]),h y (by simp [Op.operands])]
 .rename_i x;intro P;simp only [rI,h x (by simp [Op.operands])]
 .rename_i op t x y u;intro P;simp only [Re,h x (by simp [Op.operands]),h y (by simp [Op.operands])]
 .rename_i op t x;intro P;simp only [xUn,h x (by simp [Op.operands])]
 .rename_i a b x;intro P hp;simp only [gh,h x (by simp [Op.operands])]
 .rename_i t x;intro P;simp only [jC,h x (by simp [Op.operands])]
 .rename_i f a c;intro P;simp only [rJ,oE (r:=r) (r':=r') a.toList (λx hx=>h x (by simp [Op.operands]at hx ⊢;exact .inl hx)),oE (r:=r) (r':=r') c.toList (λx hx=>h x (by simp [Op.operands]at hx ⊢;exact .inr hx))]
 .rename_i t x y;intro P;simp only [jh,h x (by simp [Op.operands]),h y (by simp [Op.operands])]
 .rename_i t x lo hi mx;intro P hp;have e1:=h x (by simp [Op.operands]);have e2:=BD (r:=r) (r':=r') lo (λy hy=>h y (by subst hy;simp [Op.operands]));have e3:=BD (r:=r) (r':=r') hi (λy hy=>h y (by subst hy;simp [Op.operands]));cases mx with
  |none=>simp only [fk,ko,e1,e2,e3]|some y=>
   have e4:=h y (by simp [Op.operands]);simp only [fk,ko,e1,e2,e3,e4]
 .rename_i t x f;intro P;simp only [pd,h x (by simp [Op.operands])]
 .rename_i t x f;intro P;simp only [CJ,h x (by simp [Op.operands])]
 .rename_i t x;intro P;simp only [uC,h x (by simp [Op.operands])]
 .rename_i t x y;intro P;simp only [fS,h x (by simp [Op.operands]),h y (by simp [Op.operands])]
 .rename_i t x y;intro P;simp only [tm,h x (by simp [Op.operands]),h y (by simp [Op.operands])]
 .rename_i x i;intro P;simp only [uB,h x (by simp [Op.operands])]
 .rename_i c;obtain⟨cl,aZs,ts⟩:=c;unfold Lr;cases cl with
  |value f=>
   intro P hp;simp only [h f (by simp [Op.operands,Call.operands]),oE (r:=r) (r':=r') aZs.toList (λx hx=>h x (by simp [Op.operands,Call.operands]at hx ⊢;exact .inr hx))]
  |invoke _ _=>trivial|builtin b=>
   have e:=oE (r:=r) (r':=r') aZs.toList (λx hx=>h x (by simp [Op.operands,Call.operands]at hx ⊢;exact hx));simp only;unfold uF;cases b<;>first
    |trivial
    |(intro P hp;simp only [e];done)
    |(intro P;simp only [e];done)
 .rename_i t m k ok;intro P hp;simp only [fW,h m (by simp [Op.operands]),h k (by simp [Op.operands])]
 .rename_i t m k x;intro P hp;simp only [fq,h m (by simp [Op.operands]),h k (by simp [Op.operands]),h x (by simp [Op.operands])]
 .rename_i t m k x;intro P hp;simp only [fq,h m (by simp [Op.operands]),h k (by simp [Op.operands]),h x (by simp [Op.operands])]
 .rename_i t m k;intro P hp;simp only [rK,h m (by simp [Op.operands]),h k (by simp [Op.operands])]
 .rename_i t m k x;intro P hp;simp only [nk,h m (by simp [Op.operands]),h k (by simp [Op.operands]),h x (by simp [Op.operands])]
 .rename_i t n;intro P hp;cases n with
  |none=>rfl|some x=>simp only [uE,h x (by simp [Op.operands])]
 .rename_i t x;intro P hp;simp only [CO,h x (by simp [Op.operands])]
 .rename_i x b;intro P hp;simp only [Lp,h x (by simp [Op.operands])]
 .rename_i x;intro P hp;simp only [pg,h x (by simp [Op.operands])]
 .trivial
theorem OO {r r':Tr AV} (o:Op) (h:∀x∈o.operands.toList,ev x r=ev x r') (P:Program) (hp:Heap):qm o P r hp=qm o P r' hp:=by
 have hl:=vV o h;unfold qm;cases hc:cls o with
 |bad=>rfl|pure f=>rw [hc]at hl;simp only [show f P r=f P r' from hl P]|load f=>rw [hc]at hl;simp only [show f P r hp=f P r' hp from hl P hp]|alloc f=>rw [hc]at hl;simp only [show f P r=f P r' from hl P]|lB f=>rw [hc]at hl;exact hl P hp
theorem LH {r r':Tr AV} (x:Operand) (h:∀t,x= .tmp t ->r.get (pathOf t)=r'.get (pathOf t)):ev x r=ev x r':=by
 cases x with
 |tmp t=>show gv _=gv _;rw [h t rfl]|_=>rfl
theorem py (m t:Nat):Ip m t=true↔m.testBit t=true:=by
 unfold Ip;rw [Nat.testBit_eq_decide_div_mod_eq];rw [show Nat.land (Nat.shiftRight m t) 1=(m>>>t) &&&1 from rfl,Nat.and_one_is_mod,Nat.shiftRight_eq_div_pow];rw [Nat.beq_eq];simp
theorem ve (t s:Nat):(bit t).testBit s=decide (t=s):=by
 show(1<<<t).testBit s=_;rw [Nat.one_shiftLeft,Nat.testBit_two_pow]
theorem yL (a b s:Nat):(Nat.lor a b).testBit s=(a.testBit s||b.testBit s):=Nat.testBit_or a b s
theorem pz {a b:Nat} (h:Nat.beq (Nat.land a b) 0=true) (s:Nat):¬(a.testBit s=true/\b.testBit s=true):=by
 rintro ⟨h1,h2⟩;have h0:a &&&b=0:=Nat.eq_of_beq_eq_true h;have:=Nat.testBit_and a b s;rw [h0,h1,h2]at this;simp at this
end
section
variable [aY]
def EC (ops:Array Oper) (D:Nat ->Prop):Prop:=∀i o,D i ->ops[i]?=some o ->∀e∈o.after.toList,Region.binds .any e=true ->D e.on
theorem qM (ms:Tr Nat) (j:Nat):∀(es:List Edge),(vM ms es).testBit j=true ->∃e∈es,Region.binds .any e=true/\(j=e.on\/pre ms j e.on=true)
 |[],h=>by simp [vM]at h
 |e::es,h=>by
  change (Bool.casesOn (motive:=λ_=>Nat) (Region.binds .any e) (vM ms es) (Nat.lor (Nat.lor (bit e.on) ((ms.get (pathOf e.on)).getD 0)) (vM ms es))).testBit j=true at h;cases hb:Region.binds .any e with
  |false=>
   rw [hb]at h;obtain⟨e',h1,h2⟩:=qM ms j es h;exact⟨e',by simp [h1],h2⟩
  |true=>
   rw [hb]at h;simp only [yL,Bool.or_eq_true]at h;rcases h with (h|h)|h
   .rw [ve]at h;exact⟨e,by simp,hb,.inl (of_decide_eq_true h).symm⟩
   .exact⟨e,by simp,hb,.inr ((py _ _).2 h)⟩
   .obtain⟨e',h1,h2⟩:=qM ms j es h;exact⟨e',by simp [h1],h2⟩
def MS (ops:Array Oper) (D:Nat ->Prop) (ms:Tr Nat):Prop:=∀k o,ops[k]?=some o ->(∀e∈o.after.toList,Region.binds .any e=true ->D e.on) ->∀j,pre ms j k=true ->D j
theorem yM {ops:Array Oper} {D:Nat ->Prop} (hD:EC ops D):∀(l:List Oper) (i:Nat) (ms:Tr Nat),(∀(n:Nat) o,l[n]?=some o ->ops[i+n]?=some o) ->MS ops D ms ->(∀k,ms.get (pathOf k)≠none ->k<i/\k<ops.size) ->MS ops D (Iq l i ms)
 |[],i,ms,_,h,_=>h|o::l,i,ms,hl,h,hk=>by
  have ho:ops[i]?=some o:=by simpa using hl 0 o rfl
  have hi:i<ops.size:=(Array.getElem?_eq_some_iff.1 ho).1;show MS ops D (Iq l (Nat.succ i) (ms.set (vM ms o.after.toList) (pathOf i)));refine yM hD l (i+1) _ (λn o' hn=>by have:=hl (n+1) o' (by simpa using hn);rwa [show i+(n+1)=i+1+n by omega]at this) ?_ ?_
  .intro k o' ho' he j hj;unfold pre at hj;rw [Tr.bO]at hj;by_cases hki:k=i
   .subst hki;rw [if_pos rfl]at hj;rw [ho]at ho';cases ho';have hj:=(py _ _).1 hj;obtain⟨e,h1,h2,h3⟩:=qM ms j _ hj;have hDe:=he e h1 h2;rcases h3 with rfl|h3
    .exact hDe
    .have dE:ms.get (pathOf e.on)≠none:=by
      intro hn;unfold pre at h3;rw [hn]at h3;have:=(py _ _).1 h3;simp at this
     obtain⟨_,cJ⟩:=hk _ dE;exact h e.on (ops[e.on]) (Array.getElem?_eq_getElem cJ) (hD e.on _ hDe (Array.getElem?_eq_getElem cJ)) j h3
   .rw [if_neg (λe=>hki (dV e))]at hj;exact h k o' ho' he j hj
  .intro k vI;rw [Tr.bO]at vI;by_cases hki:k=i
   .subst hki;exact⟨by omega,hi⟩
   .rw [if_neg (λe=>hki (dV e))]at vI;have:=hk k vI;exact⟨by omega,this.2⟩
theorem FI {ops:Array Oper} {D:Nat ->Prop} (hD:EC ops D):MS ops D (Iq ops.toList 0 .leaf):=
 yM hD ops.toList 0 .leaf (λn o h=>by simpa using h) (λk o _ _ j hj=>by
  unfold pre at hj;have:=(py _ _).1 hj;simp [Tr.QV]at this) (λk h=>absurd rfl h)
structure Good (ops:Array Oper) (ms:Tr Nat) (pl:List PI):Prop where
 at_:∀x∈pl,ops[x.i]?=some x.o/\x.lB=uH x.o
 acw:∀x∈pl,∀p∈x.gA,ops[p.1]?=some p.2
 none_:∀x∈pl,x.lB=false ->x.gA=[]
 pair:∀pr y suf,pl=pr++y::suf ->(∀x∈pr,fc ops ms x y=true)/\∀p∈y.gA,Ir ops ms pr p=true
 all:∀i,i<ops.size ->∃x∈pl,x.i=i
 self:∀x∈pl,pre ms x.i x.i=false
 aiC:∀i o,ops[i]?=some o ->∀e∈o.after.toList,Region.binds .any e=true ->pre ms e.on i=true/\e.on<ops.size
theorem yN {ops:Array Oper} {ms:Tr Nat}:∀(l acc:List PI),OB ops ms acc l=true ->∀pr y suf,l=pr++y::suf ->(∀x,x∈acc\/x∈pr ->fc ops ms x y=true)/\∀p∈y.gA,∀x,x∈acc\/x∈pr ->(Nat.beq (Nat.land (wQ x.o) (Bl ops p.2)) 0||pre ms x.i p.1)=true
 |[],acc,h,pr,y,suf,e=>absurd e (by simp)|z::l,acc,h,pr,y,suf,e=>by
  unfold OB at h;simp only [Bool.and_eq_true]at h;obtain⟨⟨⟨h1,h2⟩,_⟩,h3⟩:=h;cases pr with
  |nil=>
   simp only [List.nil_append,List.cons.injEq]at e;obtain⟨rfl,rfl⟩:=e;refine⟨λx hx=>?_,λp hp x hx=>?_⟩
   .rcases hx with hx|hx
    .exact List.all_eq_true.1 h1 x hx
    .exact absurd hx (by simp)
   .rcases hx with hx|hx
    .exact List.all_eq_true.1 (List.all_eq_true.1 h2 p hp) x hx
    .exact absurd hx (by simp)
  |cons u pr=>
   simp only [List.cons_append,List.cons.injEq]at e;obtain⟨rfl,rfl⟩:=e;obtain⟨g1,g2⟩:=yN _ (z::acc) h3 pr y suf rfl;have key:∀x,x∈acc\/x∈z::pr ->x∈z::acc\/x∈pr:=by
    intro x hx;rcases hx with hx|hx
    .exact .inl (by simp [hx])
    .rcases List.mem_cons.1 hx with e|e
     .subst e;exact .inl (by simp)
     .exact .inr e
   exact⟨λx hx=>g1 x (key x hx),λp hp x hx=>g2 p hp x (key x hx)⟩
theorem BE {ops:Array Oper} {ms:Tr Nat}:∀(l acc:List PI),OB ops ms acc l=true ->∀x∈l,pre ms x.i x.i=false
 |[],acc,h,x,hx=>absurd hx (by simp)|z::l,acc,h,x,hx=>by
  unfold OB at h;simp only [Bool.and_eq_true,Bool.not_eq_true']at h;obtain⟨⟨⟨h1,h2⟩,h4⟩,h3⟩:=h;rcases List.mem_cons.1 hx with e|e
  .subst e;exact h4
  .exact BE l _ h3 x e
theorem vW {ms:Tr Nat} {done:Nat} {b:Bool}:∀{l:List (Nat×Oper)} {q:(Nat×Oper)×List (Nat×Oper)},wR ms done b l=some q ->q.1∈l/\∀x∈q.2,x∈l
 |[],q,h=>by cases h
 |x::t,q,h=>by
  unfold wR at h;split at h
  .cases h;exact⟨by simp,λy hy=>by simp [hy]⟩
  .cases hp:wR ms done b t with
   |none=>rw [hp]at h;cases h|some q'=>
    rw [hp]at h;cases h;obtain⟨h1,h2⟩:=vW hp;refine⟨by simp [h1],λy hy=>?_⟩;rcases List.mem_cons.1 hy with e|e
    .simp [e]
    .simp [h2 y e]
theorem yO {ms:Tr Nat} {ops:Array Oper}:∀(n done:Nat) (rem:List (Nat×Oper)) (acc:List PI),
  (∀p∈rem,ops[p.1]?=some p.2) ->(∀x∈acc,ops[x.i]?=some x.o/\x.lB=uH x.o/\(∀p∈x.gA,ops[p.1]?=some p.2)/\(x.lB=false ->x.gA=[])) ->
  ∀x∈yt ms n done rem acc,ops[x.i]?=some x.o/\x.lB=uH x.o/\(∀p∈x.gA,ops[p.1]?=some p.2)/\(x.lB=false ->x.gA=[])
 |0,done,rem,acc,hr,ha,x,hx=>ha x (by unfold yt at hx;simpa using hx)|n+1,done,rem,acc,hr,ha,x,hx=>by
  unfold yt at hx;have pk:∀q,(match wR ms done false rem with|some q=>some q|none=>wR ms done true rem)=some q ->q.1∈rem/\∀x∈q.2,x∈rem:=by
   intro q hq;split at hq
   .rename_i q' iw;cases hq;exact vW iw
   .exact vW hq
  split at hx
  .exact ha x (by simpa using hx)
  .rename_i y rest hq;obtain⟨h1,h2⟩:=pk _ hq;refine yO n _ rest _ (λp hp=>hr p (h2 p hp)) ?_ x hx;intro z hz;rcases List.mem_cons.1 hz with e|e
   .subst e;refine⟨hr _ h1,rfl,?_,?_⟩
    .intro p hp;simp only at hp;split at hp
     .unfold Rj at hp;rw [List.mem_map]at hp;obtain⟨u,hu,rfl⟩:=hp;exact(ha u (List.mem_filter.1 hu).1).1
     .exact absurd hp (by simp)
    .intro he;simp only at he ⊢;rw [he];rfl
   .exact ha z e
theorem FJ {ops:Array Oper} {pl:List PI} (h:tp ops=some pl):Good ops (Iq ops.toList 0 .leaf) pl:=by
 unfold tp at h;simp only at h;split at h
 .rename_i hc;cases h;simp only [Bool.and_eq_true]at hc;obtain⟨⟨h1,h2⟩,h3⟩:=hc;have hm:=yO (ms:=Iq ops.toList 0 .leaf) (ops:=ops) ops.size 0 (ops.toList.zipIdx.map λx=>(x.2,x.1)) [] (by
   intro p hp;rw [List.mem_map]at hp;obtain⟨q,hq,rfl⟩:=hp;have:=List.mem_zipIdx hq;obtain⟨g1,g2,g3⟩:=this;simp at g2 g3;simp [g3,Array.getElem?_eq_getElem g2]) (by simp)
  refine⟨λx hx=>⟨(hm x hx).1,(hm x hx).2.1⟩,λx hx=>(hm x hx).2.2.1,λx hx=>(hm x hx).2.2.2,?_,?_,BE _ [] h1,?_⟩
  .intro pr y suf e;obtain⟨g1,g2⟩:=yN _ [] h1 pr y suf e;exact⟨λx hx=>g1 x (.inr hx),λp hp=>List.all_eq_true.2 (λx hx=>g2 p hp x (.inr hx))⟩
  .intro i hi;have:=List.all_eq_true.1 h2 i (List.mem_range.2 hi);rw [List.any_eq_true]at this;obtain⟨x,hx,e⟩:=this;exact⟨x,hx,Nat.eq_of_beq_eq_true e⟩
  .intro i o ho e he hb;unfold Rk at h3;have hi:i<ops.size:=(Array.getElem?_eq_some_iff.1 ho).1;have:=List.all_eq_true.1 h3 i (List.mem_range.2 hi);rw [ho]at this;have:=List.all_eq_true.1 this e he;rw [hb]at this;simp only [Bool.not_true,Bool.false_or,Bool.and_eq_true]at this;exact⟨this.1,bC.1 this.2⟩
 .cases h
end
section
variable [aY]
def RH (x:Operand):Option Nat:=match x with| .tmp t=>some t|_=>none
def Ds (ops:Array Oper) (o:Oper):List Nat:=match o.guard with|some g=>(uG ops g.1).toList|none=>[]
def lC (ops:Array Oper) (o:Oper):List Nat:=o.op.operands.toList.filterMap RH++Ds ops o
theorem tH {ops:Array Oper} {o:Oper} {s:Nat} (h:s∈lC ops o):(Bl ops o).testBit s=true:=by
 unfold Bl;rw [yL,Bool.or_eq_true];rcases List.mem_append.1 h with h|h
 .left;generalize o.op.operands.toList=l at h ⊢;induction l with
  |nil=>simp at h|cons x l ih=>
   rw [List.foldr_cons,yL,Bool.or_eq_true];rw [List.filterMap_cons]at h;cases hx:RH x with
   |none=>rw [hx]at h;exact .inr (ih h)|some t=>
    rw [hx]at h;rcases List.mem_cons.1 h with e|e
    .left;subst e;cases x<;>simp only [RH]at hx<;>cases hx;show(bit s).testBit s=true;rw [ve];simp
    .exact .inr (ih e)
 .right;unfold Ds at h;split at h
  .rename_i g hg;cases hs:uG ops g.1 with
   |none=>rw [hs]at h;simp at h|some t=>
    rw [hs]at h;simp at h;subst h;rw [hg];simp only;rw [hs];show(bit s).testBit s=true;rw [ve];simp
  .simp at h
theorem qN {o:Oper} {s:Nat} (h:o.dst=some s):(wQ o).testBit s=true:=by
 unfold wQ;rw [h];show(bit s).testBit s=true;rw [ve];simp
theorem aa4 (r:Tr AV):∀(S:List Nat),∃q:Tr AV,(∀s∈S,q.get (pathOf s)=r.get (pathOf s))/\∀s,s ∉ S ->q.get (pathOf s)=none
 |[]=>⟨.leaf,by simp,λ_ _=>rfl⟩
 |t::S=>by
  obtain⟨q,h1,h2⟩:=aa4 r S;cases hr:r.get (pathOf t)with
  |none=>
   refine⟨q.del (pathOf t),λs hs=>?_,λs hs=>?_⟩
   .rw [Tr.rH];by_cases e:s=t
    .subst e;rw [if_pos rfl,hr]
    .rw [if_neg (λe'=>e (dV e'))];exact h1 s ((List.mem_cons.1 hs).resolve_left e)
   .rw [Tr.rH];split
    .rfl
    .exact h2 s (λe=>hs (by simp [e]))
  |some v=>
   refine⟨q.set v (pathOf t),λs hs=>?_,λs hs=>?_⟩
   .rw [Tr.bO];by_cases e:s=t
    .subst e;rw [if_pos rfl,hr]
    .rw [if_neg (λe'=>e (dV e'))];exact h1 s ((List.mem_cons.1 hs).resolve_left e)
   .rw [Tr.bO,if_neg (λe'=>hs (by rw [dV e'];simp))];exact h2 s (λe=>hs (by simp [e]))
theorem RI {ops:Array Oper} {μ:Mu} {o:Oper} {rp:Tr AV} {tmps:Array Value} (h:∀s∈lC ops o,∀v,rp.get (pathOf s)=some v ->∃cv,tmps[s]?=some cv/\dw μ v cv):
  ∃q,RR μ q tmps/\∀x∈o.op.operands.toList,ev x q=ev x rp:=by
 obtain⟨q,h1,h2⟩:=aa4 rp (lC ops o);refine⟨q,λs v hv=>?_,λx hx=>LH x (λt ht=>h1 t ?_)⟩
 .by_cases hs:s∈lC ops o
  .rw [h1 s hs]at hv;exact h s hs v hv
  .rw [h2 s hs]at hv;cases hv
 .exact List.mem_append.2 (.inl (List.mem_filterMap.2 ⟨x,hx,by rw [ht];rfl⟩))
theorem yP {ops:Array Oper} {μ:Mu} {o:Oper} {rp:Tr AV} {tmps:Array Value} (h:∀s∈lC ops o,∀v,rp.get (pathOf s)=some v ->∃cv,tmps[s]?=some cv/\dw μ v cv):
  (cY ops o rp= .yes ->Region.wanted o (yielded ops tmps)=true)/\(cY ops o rp= .no ->Region.wanted o (yielded ops tmps)=false):=by
 refine sO (μ:=μ) (λg s v hg hs hv=>h s ?_ v hv);refine List.mem_append.2 (.inr ?_);unfold Ds;rw [hg];simp only;rw [hs];simp
theorem Dt {ops:Array Oper} {o:Oper} {r r':Tr AV} (h:∀s∈lC ops o,r.get (pathOf s)=r'.get (pathOf s)):cY ops o r=cY ops o r':=by
 unfold cY;cases hg:o.guard with
 |none=>rfl|some g=>
  simp only;cases hs:uG ops g.1 with
  |none=>rfl|some s=>
   simp only;rw [h s (by
    refine List.mem_append.2 (.inr ?_);unfold Ds;rw [hg];simp only;rw [hs];simp)]
theorem FK {ops:Array Oper} {o:Oper} {r r':Tr AV} (h:∀s∈lC ops o,r.get (pathOf s)=r'.get (pathOf s)):∀x∈o.op.operands.toList,ev x r=ev x r':=
 λx hx=>LH x (λt ht=>h t (List.mem_append.2 (.inl (List.mem_filterMap.2 ⟨x,hx,by rw [ht];rfl⟩))))
theorem Du {h:Heap} {id n:Pos} {o:AO} {n':Pos} {x:Tr AV×Nat×Bool} (hx:jb h id=some x) (dE:id≠n):jb ⟨h.t.set o n,n'⟩ id=some x:=by
 unfold jb at hx ⊢;rw [show(Heap.mk (Tr.set o h.t n) n').t.get id=h.t.get id by show(Tr.set o h.t n).get id=_;rw [Tr.bO,if_neg dE]];exact hx
theorem mB {h:Heap} {id n:Pos} {o x:AO} (hx:h.t.get id=some x) (hf:∀id o,h.t.get id=some o ->id≠n):(Tr.set o h.t n).get id=some x:=by
 rw [Tr.bO,if_neg (hf id x hx)];exact hx
theorem wZ {h:Heap} {id n n':Pos} {o:AO} {off k:Nat} {l:AV} (hc:gP h id off k=some l) (hf:∀id o,h.t.get id=some o ->id≠n):gP ⟨h.t.set o n,n'⟩ id off k=some l:=by
 unfold gP at hc ⊢;split at hc
 .rename_i t m ro hg;simp only [mB hg hf];exact hc
 .rename_i g ro hg;simp only [mB hg hf];exact hc
 .cases hc
def mC (f:Program ->Tr AV ->Heap ->Option AV):Prop:=
 ∀(P:Program) (r:Tr AV) (h:Heap) (v:AV) (n n':Pos) (o:AO),(∀id o,h.t.get id=some o ->id≠n) ->f P r h=some v ->f P r ⟨h.t.set o n,n'⟩=some v
theorem Je {h:Heap} {id n:Pos} {x:Tr AV×Nat×Bool} (hx:jb h id=some x) (hf:∀id o,h.t.get id=some o ->id≠n):id≠n:=
 hf id _ (HR.jb (μ:=⟨λ_=>none,λ_=>none⟩) (B0:=0) (w:=default) hx)
theorem OQ (t:TypeId) (x:Operand):mC (sE t x):=by
 intro P r h v n n' o hf hv;unfold sE wO at hv ⊢;split at hv
 .exact hv
 .rename_i id off e;split at hv
  .rename_i c m ro hg;simp only [mB hg hf];exact hv
  .rename_i g ro hg;simp only [mB hg hf];exact hv
  .cases hv
 .cases hv
theorem Dv (a b:TypeId) (x:Operand):mC (gh a b x):=by
 intro P r h v n n' o hf hv;unfold gh at hv ⊢;split at hv
 .rename_i id off len cap sz e;split at hv
  .split at hv
   .cases hc:gP h id off len with
    |none=>simp only [hc]at hv;cases hv|some y=>
     simp only [hc]at hv;simp only [*,wZ hc hf]
   .cases hv
  .cases hv
 .rename_i id len sz e;split at hv
  .split at hv
   .cases hc:gP h id 0 len with
    |none=>simp only [hc]at hv;cases hv|some y=>
     simp only [hc]at hv;simp only [*,wZ hc hf]
   .cases hv
  .cases hv
 .exact hv
 .rename_i dE;exact hv
theorem Jf (t:TypeId) (x:Operand) (lo hi mx:Option Operand):mC (fk t x lo hi mx):=by
 intro P r h v n n' o hf hv;unfold fk at hv ⊢;split at hv
 .rename_i m e id off hu ex;cases mx with
  |some _=>cases hv|none=>
   simp only at hv ⊢;cases hz:fL P e with
   |none=>simp only [hz]at hv;cases hv|some z=>
    simp only [hz]at hv;cases hc:jb h id with
    |none=>simp only [hc]at hv;cases hv|some q=>
     simp only [hc]at hv;simp only [hu,ex,hz,Du hc (Je hc hf)];exact hv
 .rename_i dE;exact hv
theorem OT {h:Heap} {n n':Pos} {o:AO} {m:AV} {l:List (AV×AV)} (hc:vK h m=some l) (hf:∀id o,h.t.get id=some o ->id≠n):vK ⟨h.t.set o n,n'⟩ m=some l:=by
 unfold vK at hc ⊢;split at hc
 .exact hc
 .split at hc
  .rename_i g hg;simp only [mB hg hf];exact hc
  .cases hc
 .cases hc
theorem FL (t:TypeId) (m k:Operand) (ok:Bool):mC (fW t m k ok):=by
 intro P r h v n n' o hf hv;unfold fW at hv ⊢;split at hv
 .rename_i kt et hu;simp only [hu];cases hk:su P 40 kt (ev k r)with
  |false=>rw [hk]at hv;cases hv|true=>
   rw [hk]at hv;simp only at hv ⊢;cases hl:vK h (ev m r)with
   |none=>rw [hl]at hv;cases hv|some l=>
    rw [hl]at hv;rw [OT hl hf];exact hv
 .cases hv
theorem Jg (x:Operand):mC (pg x):=by
 intro P r h v n n' o hf hv;unfold pg at hv ⊢;split at hv
 .rename_i id e;split at hv
  .rename_i m k j seen hg;split at hv
   .rename_i l hgm;simp only [mB hg hf,mB hgm hf];exact hv
   .cases hv
  .cases hv
 .cases hv
theorem RJ (o:Op):∀f,cls o= .load f ->mC f:=by
 intro f h;unfold cls at h;split at h<;>first
  |(cases h;done)
  |(cases h;exact OQ _ _)
  |(cases h;exact Dv _ _ _)
  |(cases h;exact Jf _ _ _ _ _)
  |(cases h;exact FL _ _ _ _)
  |(cases h;exact Jg _)
  |skip
 rename_i c;obtain⟨cl,aZs,ts⟩:=c;unfold Lr at h;cases cl with
 |value f=>cases h|invoke _ _=>cases h|builtin b=>
  simp only at h;unfold uF at h;cases b<;>cases h
theorem HR.free {μ:Mu} {B0:Nat} {h:Heap} {w:World} (hr:HR μ B0 h w) (o:AO):HR μ B0 ⟨h.t.set o h.n,h.n.succ⟩ w:=by
 have hn:μ h.n=none:=by
  cases e:μ h.n with
  |none=>rfl|some C=>exact absurd (hr.fresh _ _ e) (by omega)
 have hs:h.n.succ.toNat=h.n.toNat+1:=Pos.cU _;have key:∀id B p,μ id=some B ->(Tr.set o h.t h.n).get id=some p ->h.t.get id=some p:=by
  intro id B p e1 e2;rw [Tr.bO]at e2;rwa [if_neg (λe=>by subst e;rw [hn]at e1;cases e1)]at e2
 refine⟨λid B e=>?_,λid p e=>?_,λid B p e1 e2=>hr.obj id B p e1 (key id B p e1 e2),λi j A C p q pj e1 e2 e3 e4=>hr.sep i j A C p q pj e1 e2 (key _ _ _ e1 e3) (key _ _ _ e2 e4),
  λid B p e1 e2 e3=>hr.own id B p e1 (key _ _ _ e1 e2) e3,hr.dM,hr.size,hr.Aw,λid B p e1 e2 e3=>hr.apart id B p e1 (key _ _ _ e1 e2) e3,hr.tab⟩
 .have:=hr.fresh id B e;show id.toNat<h.n.succ.toNat;omega
 .have e:(Tr.set o h.t h.n).get id=some p:=e;rw [Tr.bO]at e;show id.toNat<h.n.succ.toNat;by_cases hi:id=h.n
  .rw [hi];omega
  .rw [if_neg hi]at e;have:=hr.live id p e;omega
theorem HR.bind {μ:Mu} {B0:Nat} {h:Heap} {w:World} (hr:HR μ B0 h w) {id:Pos} (hid:μ id=none) (cJ:id.toNat<h.n.toNat) {l:AV} {n:Nat} {k:MK} {o:AO} {arr:Array Value} {xs:List Value} (hl:cG μ l xs) (hm:uA l n k=some o) (hn:arr.size=n)
  (RE:∀(k:Nat) (v:Value),xs[k]?=some v ->arr[k]?=some v) (el:TypeId) (hg:h.t.get id=some o):HR (μ.put id ⟨w.heap.size,0,n⟩) B0 h (w.alloc (.cells arr el)):=by
 refine hr.new id hid o ⟨w.heap.size,0,n⟩ _ h.n (Nat.le_refl _) cJ rfl h.t (λq p e=>?_) ?_
 .by_cases hq:q=id
  .subst hq;rw [hg]at e;cases e;exact .inl ⟨rfl,rfl⟩
  .exact .inr ⟨hq,e⟩
 .have:=Fz (heap:=w.heap.push (.cells arr el)) (b:=w.heap.size) hm (hl.mono (Mu.po hid ⟨w.heap.size,0,n⟩)) arr el RE (by omega) (by simp);rw [hn]at this;exact this
theorem yQ {P:Program} {b:Frame} {a:Act} {o:Oper} {ops:Array Oper} {i:Nat} {rest:List Nat} {k:List Item} {cs:List Frame} {w w':World} {cv:Value} (ho:ops[i]?=some o) (hw:Region.wanted o (yielded ops a.tmps)=true) (iP:∀c,o.op≠.defer c)
  (bH:(execOp a.eval o).run P w= .ok (.value cv) w'):Steps P (lone (b.atR a (.inRegion ops (i::rest)::k)) cs w) (lone (b.atR (a.put o.dst cv) (.inRegion ops rest::k)) cs w'):=by
 have hg:=stepGR_op (P:=P) (b:=b) (k:=k) (cs:=cs) (w:=w) (rest:=rest) ho hw;rw [Oper.semAt_eq _ _ _ iP]at hg;have kx:(b.atR a (.inRegion ops (i::rest)::k)).finish cv=b.atR (a.put o.dst cv) (.inRegion ops rest::k):=by
  rw [Frame.finish_atR,ho];rfl
 refine .one (step_lone_go ?_);rw [hg,<-kx];simp [stepG.apply,bH]
theorem vX {P:Program} {b:Frame} {a:Act} {o:Oper} {ops:Array Oper} {i:Nat} {rest:List Nat} {k:List Item} {cs:List Frame} {w:World} (ho:ops[i]?=some o) (hw:Region.wanted o (yielded ops a.tmps)=false):
  Steps P (lone (b.atR a (.inRegion ops (i::rest)::k)) cs w) (lone (b.atR (a.put o.dst undef) (.inRegion ops rest::k)) cs w):=by
 have:=stepR_op_skip (P:=P) (b:=b) (a:=a) (k:=k) (cs:=cs) (w:=w) (ops:=ops) (i:=i) (rest:=rest) (by simp [ho,hw]);rw [ho]at this;exact .one this
end
section
variable [aY]
section aiD
variable {ops:Array Oper} {ms:Tr Nat} {pl:List PI} (G:Good ops ms pl)
include G
theorem Good.before {pr suf:List PI} {y x:PI} (e:pl=pr++y::suf) (hx:x∈pr):fc ops ms x y=true:=(G.pair pr y suf e).1 x hx
theorem Good.any {u z:PI} (hu:u∈pl) (hz:z∈pl) (dE:u≠z):fc ops ms u z=true\/fc ops ms z u=true:=by
 obtain⟨p1,p2,e⟩:=List.append_of_mem hz;rw [e]at hu;rcases List.mem_append.1 hu with h|h
 .exact .inl (G.before e h)
 .rcases List.mem_cons.1 h with h|h
  .exact absurd h dE
  .obtain⟨q1,q2,e2⟩:=List.append_of_mem h;right;refine G.before (pr:=p1++z::q1) (suf:=q2) (by rw [e,e2];simp) (by simp)
omit G in
theorem ma {x y:PI} (h:fc ops ms x y=true):x.i≠y.i:=by
 unfold fc at h;simp only [Bool.and_eq_true,Bool.not_eq_true']at h;intro e;rw [e,Nat.beq_refl]at h;exact absurd h.1.1.1 (by simp)
omit G in
theorem tJ {x y:PI} (h:fc ops ms x y=true):pre ms y.i x.i=false:=by
 unfold fc at h;simp only [Bool.and_eq_true,Bool.not_eq_true']at h;exact h.1.1.2
omit G in
theorem rQ {x y:PI} (h:fc ops ms x y=true) {s:Nat} (h1:x.o.dst=some s) (h2:y.o.dst=some s):False:=by
 unfold fc at h;simp only [Bool.and_eq_true]at h;exact pz h.1.2 s ⟨qN h1,qN h2⟩
omit G in
theorem vY {x y:PI} (h:fc ops ms x y=true) {s:Nat} (h1:x.o.dst=some s) (h2:s∈lC ops y.o):pre ms x.i y.i=true:=by
 unfold fc at h;simp only [Bool.and_eq_true,Bool.or_eq_true]at h;rcases h.2 with h|h
 .exact h
 .exact absurd ⟨qN h1,tH h2⟩ (pz h.1.1.1 s)
omit G in
theorem OU {x y:PI} (h:fc ops ms x y=true) {s:Nat} (h1:s∈lC ops x.o) (h2:y.o.dst=some s):pre ms x.i y.i=true:=by
 unfold fc at h;simp only [Bool.and_eq_true,Bool.or_eq_true]at h;rcases h.2 with h|h
 .exact h
 .exact absurd ⟨tH h1,qN h2⟩ (pz h.1.1.2 s)
omit G in
theorem Jh {x y:PI} (h:fc ops ms x y=true) (h1:x.lB=true):pre ms x.i y.i=true:=by
 unfold fc at h;simp only [Bool.and_eq_true,Bool.or_eq_true]at h;rcases h.2 with h|h
 .exact h
 .rw [h1]at h;exact absurd h.1.2 (by simp)
omit G in
theorem Ji {x y:PI} (h:fc ops ms x y=true) (h1:pre ms x.i y.i=false) (h2:y.lB=true) (h3:Bm x.o=true):∃p∈y.gA,p.1=x.i:=by
 unfold fc at h;simp only [Bool.and_eq_true,Bool.or_eq_true]at h;rcases h.2 with h|h
 .rw [h1]at h;cases h
 .rcases h.2 with (h|h)|h
  .rw [h2]at h;cases h
  .rw [h3]at h;cases h
  .obtain⟨p,hp,e⟩:=List.any_eq_true.1 h;exact⟨p,hp,Nat.eq_of_beq_eq_true e⟩
theorem Good.inj {u z:PI} (hu:u∈pl) (hz:z∈pl) (e:u.i=z.i):u=z:=by
 by_cases h:u=z
 .exact h
 .rcases G.any hu hz h with h|h
  .exact absurd e (ma h)
  .exact absurd e.symm (ma h)
theorem Good.ww {u z:PI} (hu:u∈pl) (hz:z∈pl) {s:Nat} (h1:u.o.dst=some s) (h2:z.o.dst=some s):u=z:=by
 by_cases h:u=z
 .exact h
 .rcases G.any hu hz h with h|h
  .exact(rQ h h1 h2).elim
  .exact(rQ h h2 h1).elim
theorem Good.wr {u z:PI} (hu:u∈pl) (hz:z∈pl) (dE:u≠z) {s:Nat} (h1:u.o.dst=some s) (h2:s∈lC ops z.o):pre ms u.i z.i=true\/pre ms z.i u.i=true:=by
 rcases G.any hu hz dE with h|h
 .exact .inl (vY h h1 h2)
 .exact .inr (OU h h2 h1)
end aiD
def dR (P:Program) (o:Oper) (rp:Tr AV) (hc:Heap) (μ:Mu) (v:AV) (j:Option Pos):Prop:=
 match cls o.op with
 | .pure f=>f P rp=some v| .load f=>f P rp hc=some v| .alloc f=>∃A t id,j=some id/\f P rp=some A/\uA A.l A.n A.k=some t/\v=A.k.av id/\hc.t.get id=some t/\μ id=none/\id.toNat<hc.n.toNat|_=>False
def Fact (P:Program) (nt:Nat) (ops:Array Oper) (ms:Tr Nat) (r0:Tr AV) (pr:List PI) (rc:Tr AV) (hc:Heap) (μ:Mu) (y:PI) (j:Option Pos):Prop:=
 ∃rp v,(∀d,y.o.dst=some d ->rc.get (pathOf d)=some v/\d<nt)/\
  (∀s∈lC ops y.o,((∃z∈pr,z.i≠y.i/\z.o.dst=some s/\pre ms z.i y.i=true) ->rp.get (pathOf s)=rc.get (pathOf s))/\((∀z∈pr,z.i≠y.i ->z.o.dst=some s ->pre ms z.i y.i=false) ->rp.get (pathOf s)=r0.get (pathOf s)))/\
  ((cY ops y.o rp= .no/\v= .aO .nil)\/(cY ops y.o rp= .yes/\dR P y.o rp hc μ v j))
structure Mid (P:Program) (B0:Nat) (cx:Cx) (ops:Array Oper) (ms:Tr Nat) (pl:List PI) (r0:Tr AV) (m:List Pos) (μ0:Mu) (h0:Heap) (w0:World) (a0:Act) (x:R)
  (D:Nat ->Prop) (a:Act) (w:World) (pr suf:List PI) (rc:Tr AV) (hc:Heap) (μ:Mu) (J:Nat ->Option Pos):Prop where
 split:pl=pr++suf
 run:lk ops suf cx rc m hc=x
 done:∀i,D i ->∃y∈pr,y.i=i
 acx:∀y∈pr,y.lB=true ->D y.i
 post:bS μ0 B0 h0 w0 μ hc w
 size:a.tmps.size=cx.nt
 wN:a.defers=a0.defers
 xa:∀s v,rc.get (pathOf s)=some v ->(∀y∈pr,¬D y.i ->y.o.dst≠some s) ->∃cv,a.tmps[s]?=some cv/\dw μ v cv
 Xs:∀y∈pr,¬D y.i ->∀s,y.o.dst=some s ->∀v,r0.get (pathOf s)=some v ->∃cv,a.tmps[s]?=some cv/\dw μ v cv
 Jj:∀s,(∀y∈pr,y.o.dst≠some s) ->rc.get (pathOf s)=r0.get (pathOf s)
 fact:∀y∈pr,¬D y.i ->Fact P cx.nt ops ms r0 pr rc hc μ y (J y.i)
 jlt:∀y∈pr,∀q,J y.i=some q ->q.toNat<hc.n.toNat
 jge:∀y∈pr,∀q,J y.i=some q ->h0.n.toNat<=q.toNat
 apart:∀y∈pr,∀z∈pr,y.i≠z.i ->∀p q,J y.i=some p ->J z.i=some q ->p≠q
variable {P:Program} {B0:Nat} {cx:Cx} {ops:Array Oper} {ms:Tr Nat} {pl:List PI} {r0:Tr AV} {m:List Pos} {μ0:Mu} {h0:Heap} {w0:World} {a0:Act} {x:R}
theorem RM (G:Good ops ms pl) {D:Nat ->Prop} {a:Act} {w:World} {pr suf:List PI} {rc:Tr AV} {hc:Heap} {μ:Mu} {J:Nat ->Option Pos} (M:Mid P B0 cx ops ms pl r0 m μ0 h0 w0 a0 x D a w pr suf rc hc μ J)
  {y:PI} (hy:y∈pr) (Xt:¬D y.i) (nU:∀j,pre ms j y.i=true ->D j) (vf:∀i j,D i ->pre ms j i=true ->D j) {rp:Tr AV}
  (hrp:∀s∈lC ops y.o,((∃z∈pr,z.i≠y.i/\z.o.dst=some s/\pre ms z.i y.i=true) ->rp.get (pathOf s)=rc.get (pathOf s))/\((∀z∈pr,z.i≠y.i ->z.o.dst=some s ->pre ms z.i y.i=false) ->rp.get (pathOf s)=r0.get (pathOf s))):
  ∀s∈lC ops y.o,∀v,rp.get (pathOf s)=some v ->∃cv,a.tmps[s]?=some cv/\dw μ v cv:=by
 have dC:∀z∈pr,z∈pl:=λz hz=>by rw [M.split];exact List.mem_append.2 (.inl hz)
 intro s hs v hv;obtain⟨c1,c2⟩:=hrp s hs;by_cases h1:∃z∈pr,z.i≠y.i/\z.o.dst=some s/\pre ms z.i y.i=true
 .rw [c1 h1]at hv;obtain⟨z,hz,_,iJ,hzp⟩:=h1;refine M.xa s v hv (λu hu hud e=>?_);have:=G.ww (dC u hu) (dC z hz) e iJ;subst this;exact hud (nU _ hzp)
 .have h2:∀z∈pr,z.i≠y.i ->z.o.dst=some s ->pre ms z.i y.i=false:=by
   intro z hz dE e;cases hp:pre ms z.i y.i with
   |false=>rfl|true=>exact absurd ⟨z,hz,dE,e,hp⟩ h1
  rw [c2 h2]at hv;by_cases h3:∃z∈pr,z.o.dst=some s
  .obtain⟨z,hz,iJ⟩:=h3;have tK:¬D z.i:=by
    intro tK;by_cases QF:z=y
    .subst QF;exact Xt tK
    .rcases G.wr (dC z hz) (dC y hy) QF iJ hs with e|e
     .rw [h2 z hz (λe=>QF (G.inj (dC z hz) (dC y hy) e)) iJ]at e;cases e
     .exact Xt (vf _ _ tK e)
   exact M.Xs z hz tK s iJ v hv
  .have h4:∀z∈pr,z.o.dst≠some s:=λz hz e=>h3 ⟨z,hz,e⟩;rw [<-M.Jj s h4]at hv;exact M.xa s v hv (λu hu _=>h4 u hu)
theorem FM (o:Oper):(uH o=false/\((∃f,cls o.op= .pure f)\/(∃f,cls o.op= .load f)\/∃f,cls o.op= .alloc f))\/uH o=true:=by
 unfold uH;cases cls o.op with
 |bad=>exact .inr rfl|lB f=>exact .inr rfl|pure f=>exact .inl ⟨rfl,.inl ⟨f,rfl⟩⟩|load f=>exact .inl ⟨rfl,.inr (.inl ⟨f,rfl⟩)⟩|alloc f=>exact .inl ⟨rfl,.inr (.inr ⟨f,rfl⟩)⟩
theorem nV {o:Op} (h:cls o≠.bad):∀c,o≠.defer c:=by
 intro c e;subst e;exact h rfl
theorem Jk (hP:cx.P=P) (G:Good ops ms pl) {D:Nat ->Prop} {a:Act} {w:World} {pr suf:List PI} {rc:Tr AV} {hc:Heap} {μ:Mu} {J:Nat ->Option Pos} (M:Mid P B0 cx ops ms pl r0 m μ0 h0 w0 a0 x D a w pr suf rc hc μ J) (hH0:HR μ0 B0 h0 w0)
  {y:PI} (hy:y∈pr) (Xt:¬D y.i) (nU:∀j,pre ms j y.i=true ->D j) (vf:∀i j,D i ->pre ms j i=true ->D j) {b:Frame} (rest:List Nat) (k:List Item) (cs:List Frame):
  ∃a' w' μ',Steps P (lone (b.atR a (.inRegion ops (y.i::rest)::k)) cs w) (lone (b.atR a' (.inRegion ops rest::k)) cs w')/\Mid P B0 cx ops ms pl r0 m μ0 h0 w0 a0 x (λi=>D i\/i=y.i) a' w' pr suf rc hc μ' J:=by
 have dC:∀z∈pr,z∈pl:=λz hz=>by rw [M.split];exact List.mem_append.2 (.inl hz)
 obtain⟨rp,v,f1,f2,f3⟩:=M.fact y hy Xt;have RN:=RM G M hy Xt nU vf f2;obtain⟨w1,w2⟩:=yP RN;obtain⟨Bu,afm⟩:=G.at_ y (dC y hy);have bD:=M.post.rel;have fin:∀(cv:Value) (w':World) (μ':Mu),Steps P (lone (b.atR a (.inRegion ops (y.i::rest)::k)) cs w) (lone (b.atR (a.put y.o.dst cv) (.inRegion ops rest::k)) cs w') ->dw μ' v cv ->μ.le μ' ->bS μ0 B0 h0 w0 μ' hc w' ->
   (∀z∈pr,¬D z.i ->z.i≠y.i ->∀q,J z.i=some q ->μ q=none ->μ' q=none) ->
   ∃a' w' μ',Steps P (lone (b.atR a (.inRegion ops (y.i::rest)::k)) cs w) (lone (b.atR a' (.inRegion ops rest::k)) cs w')/\Mid P B0 cx ops ms pl r0 m μ0 h0 w0 a0 x (λi=>D i\/i=y.i) a' w' pr suf rc hc μ' J:=by
  intro cv w' μ' mw hv hle hp aiE;have RO:(a.put y.o.dst cv).tmps.size=cx.nt:=by
   cases hd:y.o.dst with
   |none=>exact M.size|some d=>simp [Act.put,M.size]
  have RP:∀s,y.o.dst=some s ->(a.put y.o.dst cv).tmps[s]?=some cv:=by
   intro s hs;obtain⟨_,cJ⟩:=f1 s hs;rw [hs];simp only [Act.put];exact Array.getElem?_setIfInBounds_self_of_lt (by rw [M.size];exact cJ)
  have jK:∀s,y.o.dst≠some s ->(a.put y.o.dst cv).tmps[s]?=a.tmps[s]?:=by
   intro s hs;cases hd:y.o.dst with
   |none=>rfl|some d=>
    simp only [Act.put];rw [Array.getElem?_setIfInBounds_ne (λe=>hs (by rw [hd,e]))]
  refine⟨_,w',μ',mw,⟨M.split,M.run,?_,?_,hp,RO,?_,?_,?_,M.Jj,?_,M.jlt,M.jge,M.apart⟩⟩
  .intro i hi;rcases hi with hi|rfl
   .exact M.done i hi
   .exact⟨y,hy,rfl⟩
  .exact λz hz he=> .inl (M.acx z hz he)
  .rw [show(a.put y.o.dst cv).defers=a.defers by cases y.o.dst<;>rfl];exact M.wN
  .intro s u hu hno;by_cases hs:y.o.dst=some s
   .obtain⟨h1,_⟩:=f1 s hs;rw [h1]at hu;cases hu;exact⟨cv,RP s hs,hv⟩
   .obtain⟨cu,h1,h2⟩:=M.xa s u hu (λz hz tK=>by
     by_cases QF:z.i=y.i
     .have:=G.inj (dC z hz) (dC y hy) QF;subst this;exact hs
     .exact hno z hz (λe=>e.elim tK QF))
    exact⟨cu,by rw [jK s hs];exact h1,h2.mono hle⟩
  .intro z hz tK s iJ u hu;have Dw:¬D z.i:=λe=>tK (.inl e);have QF:z≠y:=λe=>tK (.inr (by rw [e]));obtain⟨cu,h1,h2⟩:=M.Xs z hz Dw s iJ u hu;have hs:y.o.dst≠some s:=λe=>QF (G.ww (dC z hz) (dC y hy) iJ e);exact⟨cu,by rw [jK s hs];exact h1,h2.mono hle⟩
  .intro z hz tK;have Dw:¬D z.i:=λe=>tK (.inl e);have QF:z.i≠y.i:=λe=>tK (.inr e);obtain⟨rq,u,g1,g2,g3⟩:=M.fact z hz Dw;refine⟨rq,u,g1,g2,g3.imp id (λg=>⟨g.1,?_⟩)⟩;have g:=g.2;unfold dR at g ⊢;cases eG:cls z.o.op with
   |pure f=>rw [eG]at g;exact g|load f=>rw [eG]at g;exact g|alloc f=>
    rw [eG]at g;obtain⟨A,t,id,e1,e2,e3,e4,e5,e6,e7⟩:=g;exact⟨A,t,id,e1,e2,e3,e4,e5,aiE z hz Dw QF id e1 e6,e7⟩
   |bad=>rw [eG]at g;exact g|lB f=>rw [eG]at g;exact g
 rcases f3 with ⟨hw,rfl⟩|⟨hw,hf⟩
 .exact fin undef w μ (vX Bu (w2 hw)) ⟨#[],rfl,rfl⟩ (Mu.le_refl μ) M.post (λ_ _ _ _ _ _ e=>e)
 .obtain⟨q,hq,Ia⟩:=RI RN;have mU:=BC y.o;have AW:=vV (r:=q) (r':=rp) y.o.op Ia;unfold dR at hf;cases eG:cls y.o.op with
  |bad=>rw [eG]at hf;exact hf.elim|lB f=>rw [eG]at hf;exact hf.elim|pure f=>
   rw [eG]at hf mU AW;have iP:=nV (o:=y.o.op) (by rw [eG];intro e;cases e);obtain⟨cv,h1,h2⟩:=mU P q μ a v bD.dM hq (by rw [AW P];exact hf);exact fin cv w μ (yQ Bu (w1 hw) iP (h1 w)) h2 (Mu.le_refl μ) M.post (λ_ _ _ _ _ _ e=>e)
  |load f=>
   rw [eG]at hf mU AW;have iP:=nV (o:=y.o.op) (by rw [eG];intro e;cases e);obtain⟨cv,h1,h2⟩:=mU P q μ B0 hc w a v bD hq (by rw [AW P hc];exact hf);exact fin cv w μ (yQ Bu (w1 hw) iP h1) h2 (Mu.le_refl μ) M.post (λ_ _ _ _ _ _ e=>e)
  |alloc f=>
   rw [eG]at hf mU AW;have iP:=nV (o:=y.o.op) (by rw [eG];intro e;cases e);obtain⟨A,t,id,e1,e2,e3,rfl,e5,e6,e7⟩:=hf;obtain⟨hk,arr,el,xs,hv,hlen,RE,bH⟩:=mU P q μ a A t bD.dM hq (by rw [AW P];exact e2) e3;have HY:=bD.bind e6 e7 hv e3 hlen RE el e5;have hle:μ.le (μ.put id ⟨w.heap.size,0,A.n⟩):=Mu.po e6 _;refine fin _ _ _ (yQ Bu (w1 hw) iP (bH w)) (FG hk (Nat.le_refl _) (b:=w.heap.size) (Mu.cz _ _ _)) hle ⟨?_,M.post.le,HY,M.post.below.alloc bD.size _,M.post.dF⟩ ?_
   .intro q hq;have WQ:=M.jge y hy id e1;rw [Mu.bq _ _ _ (λe'=>by subst e';omega)];exact M.post.ext q hq
   .intro z hz tK QF q hJ hq;show(μ.put id _) q=none;rw [Mu.bq _ _ _ (M.apart z hz y hy QF q id hJ e1)];exact hq
end
end
end Go.Sy
