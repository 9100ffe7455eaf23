/- A piece of the proof, made small by a program of ours. -/
import Derived.Test.YtilmgbneiikbiaaGreatDoorP01
import Derived.MapKept
import Derived.Laws.RangeString
import Derived.Maps.RangeRun
import Derived.Orders
set_option linter.all false
set_option maxRecDepth 1000000
set_option maxHeartbeats 0
namespace Go.Sy
noncomputable section
open Go.RowKit Go.Proofs Go.Proofs.Tryz
section
variable [aT]
theorem ic {P:Program} {μ:Mu} (em:Bool):∀(d:Nat) {t:TypeId} {x:AV} {a:Value} (D:Nat),d<=D ->sf P d t x=true ->dC μ x a ->∀w,(Instr.checkKey em D t a).run P w= .ok () w
 |0,t,x,a,D,hD,h,ha=>by cases h
 |d+1,t,x,a,D,hD,h,ha=>by
  obtain⟨D,rfl⟩:∃D',D=D'+1:=⟨D - 1,by omega⟩
  have hD:d<=D:=by omega
  intro w;change uv P (sf P d) t x=true at h;unfold uv at h;split at h
  .rename_i fs xs hu;obtain⟨ca,ha,FD⟩:=ha;have ha:a= .agg ca:=(by simpa using ha);subst ha;rw [Instr.checkKey];simp only [Sem.run_bind,ah hu,Result.andThen_ok];rw [<-Array.forIn_toList];generalize fs.toList=L at h;induction L with
   |nil=>simp|cons f L ih=>
    simp only at h;split at h
    .cases h
    .rename_i hn;split at h
     .rename_i p hp;obtain⟨h1,h2⟩:=aq.1 h;obtain⟨cp,oh,lq⟩:=gY FD hp;have:=ic em d D hD h1 lq w;simp only [List.forIn_cons,Sem.run_bind,hn,ne_eq,not_false_eq_true,if_true,Result.andThen_ok,oh,this,Sem.run_pure];exact ih h2
     .cases h
  .rename_i len e xs hu;obtain⟨ca,ha,FD⟩:=ha;have ha:a= .agg ca:=(by simpa using ha);subst ha;split at h
   .cases h
   .rename_i n hn;rw [Instr.checkKey];simp only [Sem.run_bind,ah hu,Result.andThen_ok];simp only [Std.Legacy.Range.forIn_eq_forIn_range',Std.Legacy.Range.size,Nat.sub_zero,Nat.add_one_sub_one,Nat.div_one];rw [List.range_eq_range']at h;generalize List.range' 0 len=L at h;induction L with
    |nil=>simp|cons j L ih=>
     simp only at h;split at h
     .rename_i p hp;obtain⟨h1,h2⟩:=aq.1 h;obtain⟨cp,oh,lq⟩:=gY FD hp;have:=ic em d D hD h1 lq w;have oh:(part e ca (j*n)).run P w= .ok cp w:=oh w;simp only [List.forIn_cons,Sem.run_bind,aJ hn,Result.andThen_ok,oh,this,Sem.run_pure];exact ih h2
     .cases h
  .rename_i b hu;have ha:a= .bool b:=(by simpa [VR]using ha);subst ha;rw [Instr.checkKey];simp [ah hu]
  .rename_i k k' n hu;have ha:a= .int k' n:=(by simpa [VR]using ha);subst ha;rw [Instr.checkKey];simp [ah hu]
  .rename_i s hu;obtain⟨bs,ha,_⟩:=ha;have ha:a= .string bs:=(by simpa using ha);subst ha;rw [Instr.checkKey];simp [ah hu]
  .cases h
theorem BB {a b:ByteArray} (h:a.data.toList.map UInt8.toNat=b.data.toList.map UInt8.toNat):a=b:=by
 have:a.data.toList=b.data.toList:=(List.map_inj_right (f:=UInt8.toNat) (λx y e=>UInt8.toNat_inj.1 e)).1 h;obtain⟨⟨x⟩⟩:=a;obtain⟨⟨y⟩⟩:=b;simp at this;rw [this]
theorem RS:∀{a b:List Nat},kz a b=true ->a=b:=by
 intro a b h;rw [eN]at h;exact of_decide_eq_true h
theorem yx {μ:Mu} {x y:AV} {a b:Value} (h:Rv x y=true) (ha:dC μ x a) (hb:dC μ y b):a=b/\∀n,Instr.sameBits n a b=true:=by
 unfold Rv at h;split at h
 .rename_i k n l m;obtain⟨h1,h2⟩:=aq.1 h;have ha:a= .int k n:=by simpa [VR]using ha
  have hb:b= .int l m:=by simpa [VR]using hb
  rw [ga]at h2;have:=iA.1 h1;have:=of_decide_eq_true h2;subst_vars;exact⟨rfl,λn=>by cases n<;>simp [Instr.sameBits]⟩
 .obtain⟨sa,ha,h1⟩:=ha;obtain⟨sb,hb,h2⟩:=hb;have ha:a= .string sa:=by simpa using ha
  have hb:b= .string sb:=by simpa using hb
  have:=RS h;have:sa=sb:=BB (by rw [h1,h2,this]);subst_vars;exact⟨rfl,λn=>by cases n<;>simp [Instr.sameBits,MapKept.bytes_beq]⟩
 .rename_i p q;have ha:a= .bool p:=by simpa [VR]using ha
  have hb:b= .bool q:=by simpa [VR]using hb
  have:p=q:=by cases p<;>cases q<;>simp_all [aY]
  subst_vars;exact⟨rfl,λn=>by cases n<;>simp [Instr.sameBits]⟩
 .cases h
theorem Jp {μ:Mu}:∀{x y:AV} {xs ys:List Value},acr x y=true ->cJ μ x xs ->cJ μ y ys ->xs=ys/\∀n,((xs.zip ys).all λq=>Instr.sameBits n q.1 q.2)=true:=by
 intro x;induction x with
 |nil=>
  intro y xs ys h hx hy;cases (show xs=[]from hx);cases y with
  |nil=>cases (show ys=[]from hy);exact⟨rfl,λ_=>rfl⟩|_=>cases h
 |cons a t LV oQ=>
  intro y xs ys h hx hy;cases y with
  |cons b t'=>
   obtain⟨h1,h2⟩:=aq.1 (show aF (Rv a b) (acr t t')=true from h);obtain⟨v,r,rfl,g1,g2⟩:=hx;obtain⟨u,s,rfl,g3,g4⟩:=hy;obtain⟨rfl,e1⟩:=yx h1 g1 g3;obtain⟨rfl,e2⟩:=oQ h2 g2 g4;refine⟨rfl,λn=>?_⟩;simp only [List.zip_cons_cons,List.all_cons,e1 n,Bool.true_and];exact e2 n
  |_=>cases h
 |_=>intro y xs ys h hx hy;exact hx.elim
theorem FJ {μ:Mu} {x y:AV} {a b:Value} (h:qf x y=true) (ha:dC μ x a) (hb:dC μ y b):a=b/\Instr.sameBits 10000 a b=true:=by
 unfold qf at h;split at h
 .obtain⟨ca,ha,h1⟩:=ha;obtain⟨cb,hb,h2⟩:=hb;have ha:a= .agg ca:=by simpa using ha
  have hb:b= .agg cb:=by simpa using hb
  obtain⟨e1,e2⟩:=Jp h h1 h2;have:ca=cb:=Array.toList_inj.1 e1;subst_vars;refine⟨rfl,?_⟩;show(cb.size==cb.size &&(cb.toList.zip cb.toList).all λ(x,y)=>Instr.sameBits 9999 x y)=true;rw [Bool.and_eq_true];exact⟨by simp,e2 9999⟩
 .exact(yx h ha hb).imp id λh=>h _
theorem vT (a b:ByteArray):(a==b)=(a.toList==b.toList):=by
 rw [Bool.eq_iff_iff,MapKept.bytes_beq];constructor
 .intro h;rw [h];simp
 .intro h;have h:=eq_of_beq h;rw [ByteArray.toList_eq,ByteArray.toList_eq]at h;exact BB (by rw [h])
theorem uP {P:Program} {μ:Mu} {kt:TypeId} {k:AV} {kv:Value} (hk:dC μ k kv):∀{l:List (AV×AV)} {es:List MapEntry} {b i:Nat} {f:Option (Nat×AV)},MR μ b l es ->dZ P kt k l i=some f ->
  match f with
  |none=>(∀w,(Instr.findAsking kt kv es i).run P w= .ok none w)/\(∀kd,P.underlying kt=some kd ->∀r,Instr.findNow kd kv es i=some r ->r=none)
  |some q=>∃(j:Nat) (e:MapEntry),q.1=i+j/\es[j]?=some e/\dC μ q.2 e.val/\e.key=kv/\Instr.sameBits 10000 e.key kv=true/\(∀w,(Instr.findAsking kt kv es i).run P w= .ok (some (i+j,e.val)) w)/\
   (∀kd,P.underlying kt=some kd ->∀r,Instr.findNow kd kv es i=some r ->r=some (i+j,e.val))
 |[],[],b,i,f,hm,h=>by
  cases (show some none=some f from h);exact⟨λw=>by simp [Instr.findAsking],λkd _ r hr=>by simpa [Instr.findNow]using hr.symm⟩
 |[],_::_,b,i,f,hm,h=>hm.elim|_::_,[],b,i,f,hm,h=>hm.elim|x::l,e::es,b,i,f,hm,h=>by
  obtain⟨m1,m2,m3,m4⟩:=hm;change (match OQ P 40 kt k x.1 with
   |some true=>Bool.casesOn (motive:=λ_=>Option (Option (Nat×AV))) (qf x.1 k) none (some (some (i,x.2)))|some false=>dZ P kt k l (Nat.succ i)|none=>none)=some f at h
  have now:∀kd,P.underlying kt=some kd ->∀(c c':Bool),(∀w,(Op.equal kt kv e.key).run P w= .ok c w) ->Instr.sameNow kd kv e.key=some c' ->c'=c:=by
   intro kd hu c c' h1 h2;have D1:Op.maxDepth=9999+1:=rfl;have h1:=h1 default;unfold Instr.sameNow at h2;split at h2
   .rename_i q k1 a1 k2 a2 e1 e9;split at h2
    .rename_i QX;subst QX;unfold Op.equal at h1;rw [D1,e1]at h1;have:=run_equalIn_int (P:=P) default 9999 kt k1 q a1 a2 hu;rw [this]at h1;cases h2;have:=(Result.ok.inj h1).1;exact this
    .cases h2
   .rename_i a1 a2 e1 e9;unfold Op.equal at h1;rw [D1,e1]at h1;have:=run_equalIn_string (P:=P) default 9999 kt a1 a2 hu;rw [this]at h1;cases h2;rw [<-(Result.ok.inj h1).1];exact vT a1 a2
   .rename_i a1 a2 e1 e9;unfold Op.equal at h1;rw [D1,e1]at h1;have:=run_equalIn_bool (P:=P) default 9999 kt a1 a2 hu;rw [this]at h1;cases h2;exact(Result.ok.inj h1).1
   .cases h2
  split at h
  .rename_i he;have heq:=og 40 Op.maxDepth (by show 40<=10000;omega) he hk m1;have heq:∀w,(Op.equal kt kv e.key).run P w= .ok true w:=heq;cases hq:qf x.1 k with
   |false=>rw [hq]at h;cases h|true=>
    rw [hq]at h;cases h;obtain⟨e1,e2⟩:=FJ hq m1 hk;refine⟨0,e,rfl,rfl,m2,e1,e2,λw=>by simp [Instr.findAsking,heq],λkd hu r hr=>?_⟩;unfold Instr.findNow at hr;split at hr
    .cases hr;rfl
    .rename_i h2;have:=now kd hu true false heq h2;cases this
    .cases hr
  .rename_i he;have heq:=og 40 Op.maxDepth (by show 40<=10000;omega) he hk m1;have heq:∀w,(Op.equal kt kv e.key).run P w= .ok false w:=heq;have ih:=uP hk m4 h;have fn:∀kd,P.underlying kt=some kd ->∀r,Instr.findNow kd kv (e::es) i=some r ->Instr.findNow kd kv es (i+1)=some r:=by
    intro kd hu r hr;unfold Instr.findNow at hr;split at hr
    .rename_i h2;have:=now kd hu false true heq h2;cases this
    .exact hr
    .cases hr
   cases f with
   |none=>exact⟨λw=>by simp [Instr.findAsking,heq,ih.1 w],λkd hu r hr=>ih.2 kd hu r (fn kd hu r hr)⟩|some q=>
    obtain⟨j,e',h1,h2,h3,h4,h5,h6,h7⟩:=ih;refine⟨j+1,e',by omega,by simpa using h2,h3,h4,h5,λw=>?_,λkd hu r hr=>?_⟩
    .rw [show i+(j+1)=i+1+j by omega];simp [Instr.findAsking,heq,h6 w]
    .rw [show i+(j+1)=i+1+j by omega];exact h7 kd hu r (fn kd hu r hr)
  .cases h
theorem Jq {μ:Mu} {B0:Nat} {h:Heap} {w:World} (hr:HR μ B0 h w) {m:AV} {mv:Value} {l:List (AV×AV)} (hm:dC μ m mv) (e:vM h m=some l):
  (mv= .map none/\l=[])\/∃(id:Pos) (B:nJ) (es:Array MapEntry),m= .map id/\h.t.get id=some (.mp l)/\μ id=some B/\mv= .map (some B.b)/\w.heap[B.b]?=some (.map es es.size)/\MR μ 0 l es.toList:=by
 unfold vM at e;split at e
 .cases e;exact .inl ⟨by simpa [VR]using hm,rfl⟩
 .rename_i id;split at e
  .rename_i l' hg;cases e;obtain⟨B,hB,hm⟩:=hm;have hm:mv= .map (some B.b):=(by simpa using hm);obtain⟨es,h1,h2⟩:=hr.obj id B _ hB hg;exact .inr ⟨id,B,es,rfl,hg,hB,hm,h1,h2⟩
  .cases e
 .cases e
theorem kU {P:Program} {μ:Mu} {kt:TypeId} {kd:TypeDesc} {k:AV} {kv:Value} (hu:P.underlying kt=some kd) (hk:dC μ k kv) {l:List (AV×AV)} {es:List MapEntry} {f:Option (Nat×AV)} (hm:MR μ 0 l es) (h:dZ P kt k l 0=some f) (w:World):
  match f with
  |none=>(Instr.findKey kt kv es).run P w= .ok none w|some q=>∃(e:MapEntry),es[q.1]?=some e/\dC μ q.2 e.val/\e.key=kv/\Instr.sameBits 10000 e.key kv=true/\(Instr.findKey kt kv es).run P w= .ok (some (q.1,e.val)) w:=by
 have hf:=uP hk hm h;have run:∀r,(∀w,(Instr.findAsking kt kv es 0).run P w= .ok r w) ->(∀r',Instr.findNow kd kv es 0=some r' ->r'=r) ->(Instr.findKey kt kv es).run P w= .ok r w:=by
  intro r h1 h2;unfold Instr.findKey;simp only [Sem.run_bind,ah hu,Result.andThen_ok];cases hn:Instr.findNow kd kv es 0 with
  |none=>exact h1 w|some r'=>rw [h2 r' hn];rfl
 cases f with
 |none=>exact run _ hf.1 (hf.2 kd hu)|some q=>
  obtain⟨j,e,h1,h2,h3,h4,h5,h6,h7⟩:=hf;simp only [Nat.zero_add]at h1 h6 h7;subst h1;exact⟨e,h2,h3,h4,h5,run _ h6 (h7 kd hu)⟩
theorem vU {P:Program} {d:Nat} {t:TypeId} {x:AV} (h:sf P (d+1) t x=true):∃kd,P.underlying t=some kd:=by
 change uv P (sf P d) t x=true at h;unfold uv at h;split at h<;>first|exact⟨_,by assumption⟩|cases h
theorem FK {o:Oper} {t:TypeId} {m k:Operand} {ok:Bool} (ho:o.op= .lookup t m k ok):vQ (fZ t m k ok) o:=by
 intro P r μ B0 h w a v hh hr hv;have hm:=aP hh.dO hr m;have hk:=aP hh.dO hr k;unfold fZ at hv;split at hv
 .rename_i kt et hu;cases LX:sf P 40 kt (ev k r)with
  |false=>rw [LX]at hv;cases hv|true=>
   rw [LX]at hv;simp only at hv;obtain⟨kd,hkd⟩:=vU (d:=39) LX;cases hl:vM h (ev m r)with
   |none=>rw [hl]at hv;cases hv|some l=>
    rw [hl]at hv;simp only at hv;have chk:∀em w,(Instr.checkKey em 10000 kt (a.eval k)).run P w= .ok () w:=λem w=>ic em 40 10000 (by omega) LX hk w;have fin:∀{es:List MapEntry} {q:Option (Nat×AV)},dZ P kt (ev k r) l 0=some q ->MR μ 0 l es ->∃(v':Value) (b:Bool) (u:AV),v=pI ok u b/\dC μ u v'/\
      ∀w,(do
       let (v,ok')<-match<-Instr.findKey kt (a.eval k) es with
        |some (_,v)=>pure (v,true)|none=>pure (<-zeroValue et,false)
       pure (if ok then .tuple #[v,.bool ok']else v):Sem Value).run P w= .ok (if ok then .tuple #[v',.bool b]else v') w:=by
     intro es q hf hM;rw [hf]at hv;cases q with
     |some q=>
      simp only at hv;cases hv;obtain⟨e,g1,g2,g3,g4,g5⟩:=kU (w:=w) hkd hk hM hf;refine⟨e.val,true,q.2,rfl,g2,λw=>?_⟩;obtain⟨e',k1,k2,k3,k4,k5⟩:=kU (w:=w) hkd hk hM hf;have:e'=e:=(by rw [g1]at k1;cases k1;rfl);subst this;simp only [Sem.run_bind,k5,Result.andThen_ok,Sem.run_pure]
     |none=>
      simp only at hv;cases hz:lD P et with
      |none=>rw [hz]at hv;cases hv|some z=>
       rw [hz]at hv;cases hv;refine⟨z,false,fc z,rfl,iV μ z,λw=>?_⟩;have k5:=kU (w:=w) hkd hk hM hf;simp only at k5;have:=gx (P:=P) (w:=w) hz;simp only [Sem.run_bind,k5,Result.andThen_ok,Sem.run_pure,this]
    have got:∀{v':Value} {b:Bool} {u:AV},v=pI ok u b ->dC μ u v' ->dC μ v (if ok then .tuple #[v',.bool b]else v'):=by
     rintro v' b u rfl h1;cases ok with
     |false=>exact h1|true=>exact⟨#[v',.bool b],rfl,v',[.bool b],rfl,h1,.bool b,[],rfl,rfl,rfl⟩
    rcases Jq hh hm hl with ⟨e1,rfl⟩|⟨id,B,es,e1,e2,e3,e4,e5,e6⟩
    .obtain⟨q,hq⟩:∃q,dZ P kt (ev k r) [] 0=some q:=⟨none,rfl⟩
     obtain⟨v',b,u,h1,h2,h3⟩:=fin (es:=[]) hq trivial;refine⟨_,?_,got h1 h2⟩;simp only [execOp,ho,e1,Instr.lookup,Sem.run_bind,ah hu,Result.andThen_ok,Sem.run_pure,chk];have:=h3 w;simp only [Sem.run_bind]at this;exact congrArg (λz=>Result.andThen z λa w'=>Result.ok (Next.value a) w') this
    .cases hq:dZ P kt (ev k r) l 0 with
     |none=>rw [hq]at hv;cases hv|some q=>
      obtain⟨v',b,u,h1,h2,h3⟩:=fin hq e6;refine⟨_,?_,got h1 h2⟩;have hg:=MapKept.run_getObj_map (P:=P) e5;simp only [execOp,ho,e4,Instr.lookup,Sem.run_bind,ah hu,Result.andThen_ok,Sem.run_pure,chk,hg];have:=h3 w;simp only [Sem.run_bind]at this;exact congrArg (λz=>Result.andThen z λa w'=>Result.ok (Next.value a) w') this
 .cases hv
theorem BC {μ:Mu} {x:AV×AV} {k v:Value} (hk:dC μ x.1 k) (hv:dC μ x.2 v):∀{l:List (AV×AV)} {es:List MapEntry} {i:Nat} (j:Nat),MR μ i l es ->MR μ i (l.set j x) (es.modify j λe=>{e with key:=k,val:=v})
 |[],[],i,j,h=>by cases j<;>trivial
 |[],_::_,i,j,h=>h.elim|_::_,[],i,j,h=>h.elim|y::l,e::es,i,0,h=>⟨hk,hv,h.2.2.1,h.2.2.2⟩
 |y::l,e::es,i,j+1,h=>⟨h.1,h.2.1,h.2.2.1,BC hk hv j h.2.2.2⟩
theorem Du {μ:Mu} {x:AV×AV} {k v:Value} (hk:dC μ x.1 k) (hv:dC μ x.2 v):∀{l:List (AV×AV)} {es:List MapEntry} {i:Nat},MR μ i l es ->MR μ i (l++[x]) (es++[⟨k,v,i+es.length⟩])
 |[],[],i,h=>⟨hk,hv,rfl,aB⟩
 |[],_::_,i,h=>h.elim|_::_,[],i,h=>h.elim|y::l,e::es,i,h=>by
  have:=Du hk hv h.2.2.2;refine⟨h.1,h.2.1,h.2.2.1,?_⟩;rwa [show i+(e::es).length=i+1+es.length by simp;omega]
theorem uQ {l:List (AV×AV)} {B:nJ}:¬(AO.mp l).cU B:=λ⟨_,_,e⟩=>by cases e
theorem uR {μ:Mu} {B0:Nat} {h:Heap} {w:World} (hr:HR μ B0 h w) (id:Pos) (B:nJ) (hid:μ id=some B) (l l':List (AV×AV)) (h0:h.t.get id=some (.mp l)) (es es':Array MapEntry) (c:Nat) (hw:w.heap[B.b]?=some (.map es c)) (hm:MR μ 0 l' es'.toList):
  bP μ B0 h w μ ⟨h.t.set (.mp l') id,h.n⟩ {w with heap:=w.heap.setIfInBounds B.b (.map es' es'.size)}:=by
 have cR:=(Array.getElem?_eq_some_iff.1 hw).1;have jQ:∀k,k≠B.b ->({w with heap:=w.heap.setIfInBounds B.b (.map es' es'.size)}:World).heap[k]?=w.heap[k]?:=λk hk=>(MapKept.heap_set hw).2 k hk;refine⟨λ_ _=>rfl,Nat.le_refl _,hr.chg id B hid (.mp l') rfl (.mp l) h0 rfl uQ jQ (by simp) ⟨es',(MapKept.heap_set hw).1,hm⟩ _ (λq p e=>?_),⟨⟨rfl,rfl,rfl,by simp,λk hk=>jQ k (λe=>?_)⟩,λ_=>Nat.le_refl _⟩,Grow.refl _ _⟩
 .rw [Tr.bE]at e;by_cases hq:q=id
  .rw [if_pos hq]at e;cases e;exact .inl ⟨hq,rfl⟩
  .rw [if_neg hq]at e;exact .inr ⟨hq,e⟩
 .have:=(hr.own id B _ hid h0 rfl).resolve_left uQ;omega
theorem sE {o:Oper} {t:TypeId} {m k x:Operand} (ho:o.op= .mapUpdate t m k x\/o.op= .insert t m k x):pJ (fu t m k x) o:=by
 intro P r μ B0 h w a hh hr;have hm:=aP hh.dO hr m;have hk:=aP hh.dO hr k;have hx:=aP hh.dO hr x;have hex:(execOp a.eval o).run P w=(do Instr.mapUpdate t (a.eval m) (a.eval k) (a.eval x);pure Next.skip:Sem Next).run P w:=by
  rcases ho with ho|ho<;>(simp only [execOp,ho])
 unfold fu;split
 .rename_i kt et hu;cases LX:sf P 40 kt (ev k r)with
  |false=>trivial|true=>
   simp only;obtain⟨kd,hkd⟩:=vU (d:=39) LX;split
   .rename_i id em;rw [em]at hm;split
    .rename_i l hg;cases hf:dZ P kt (ev k r) l 0 with
     |none=>trivial|some f=>
      simp only;obtain⟨B,hB,hm⟩:=hm;have hm:a.eval m= .map (some B.b):=(by simpa using hm);obtain⟨es,h1,h2⟩:=hh.obj id B _ hB hg;have chk:∀em w,(Instr.checkKey em 10000 kt (a.eval k)).run P w= .ok () w:=λem w=>ic em 40 10000 (by omega) LX hk w;have Ir:=MapKept.run_getObj_map (P:=P) h1;have yy:=kU (w:=w) hkd hk h2 hf;cases f with
      |none=>
       simp only at yy;refine⟨undef,μ,_,.inr ⟨?_,rfl⟩,⟨#[],rfl,rfl⟩,uR hh id B hB l _ hg es (es.push ⟨a.eval k,a.eval x,es.size⟩) _ h1 ?_⟩
       .rw [hex];simp only [hm,Instr.mapUpdate,Sem.run_bind,ah hu,Result.andThen_ok,Ir,chk,yy,MapKept.run_setObj_map _ h1,Sem.run_pure,Array.size_push]
       .show MR μ 0 (l++[(ev k r,ev x r)]) _;have:=Du (x:=(ev k r,ev x r)) hk hx h2;simpa using this
      |some q=>
       obtain⟨e,g1,g2,g3,g4,g5⟩:=yy;have acw:((es[q.1]?).map (·.key)).getD (a.eval k)=a.eval k:=by
        have:es[q.1]?=some e:=(by simpa using g1);rw [this];exact g3
       have mw:∀w,(Instr.keyThatStays (a.eval k) (a.eval k)).run P w= .ok (a.eval k) w:=λw=>by
        rw [g3]at g4;simp [Instr.keyThatStays,g4]
       refine⟨undef,μ,_,.inr ⟨?_,rfl⟩,⟨#[],rfl,rfl⟩,uR hh id B hB l _ hg es (es.modify q.1 λe=>{e with key:=a.eval k,val:=a.eval x}) _ h1 ?_⟩
       .rw [hex];simp only [hm,Instr.mapUpdate,Sem.run_bind,ah hu,Result.andThen_ok,Ir,chk,g5,acw,mw,MapKept.run_setObj_map _ h1,Sem.run_pure,Array.size_modify]
       .show MR μ 0 (l.set q.1 (ev k r,ev x r)) _;have:=BC (x:=(ev k r,ev x r)) hk hx q.1 h2;simpa using this
    .trivial
   .trivial
 .trivial
theorem LY {μ:Mu}:∀{l:List (AV×AV)} {es:List MapEntry} {i:Nat},MR μ i l es ->∀{j:Nat} {e:MapEntry},es[j]?=some e ->e.born=i+j
 |[],[],_,_,j,e,he=>by cases he
 |[],_::_,_,h,_,_,_=>h.elim|_::_,[],_,h,_,_,_=>h.elim|x::l,e::es,i,h,0,e',he=>by cases he;exact h.2.2.1
 |x::l,e::es,i,h,j+1,e',he=>by
  have:=LY h.2.2.2 (j:=j) (e:=e') (by simpa using he);omega
theorem LZ {μ:Mu} {x:AV×AV} {k:Value} (hk:dC μ x.1 k):∀{l:List (AV×AV)} {es:List MapEntry} {i:Nat} (j:Nat) {e:MapEntry},es[j]?=some e ->dC μ x.2 e.val ->MR μ i l es ->MR μ i (l.set j x) (es.modify j λe=>{e with key:=k})
 |[],[],i,j,e,he,hv,h=>by cases he
 |[],_::_,i,j,_,_,_,h=>h.elim|_::_,[],i,j,_,_,_,h=>h.elim|y::l,e::es,i,0,e',he,hv,h=>by cases he;exact⟨hk,hv,h.2.2.1,h.2.2.2⟩
 |y::l,e::es,i,j+1,e',he,hv,h=>⟨h.1,h.2.1,h.2.2.1,LZ hk j (by simpa using he) hv h.2.2.2⟩
theorem Ma {μ:Mu} {a v:AV} {c:Value} (hv:dC μ v c):∀{l:List (AV×AV)} {es:List MapEntry} {i:Nat} (j:Nat) {x:AV×AV},l[j]?=some x ->x.1=a ->MR μ i l es ->MR μ i (l.set j (a,v)) (es.modify j λe=>{e with val:=c})
 |[],[],i,j,x,hx,ha,h=>by cases hx
 |[],_::_,i,j,_,_,_,h=>h.elim|_::_,[],i,j,_,_,_,h=>h.elim|y::l,e::es,i,0,x,hx,ha,h=>by cases hx;subst ha;exact⟨h.1,hv,h.2.2.1,h.2.2.2⟩
 |y::l,e::es,i,j+1,x,hx,ha,h=>⟨h.1,h.2.1,h.2.2.1,Ma hv j (by simpa using hx) ha h.2.2.2⟩
theorem Mb {μ:Mu}:∀{l:List (AV×AV)} {es:List MapEntry} {b:Nat},MR μ b l es ->∀(j:Nat) {x:AV×AV},l[j]?=some x ->es.findIdx? (λe=>(e.born:Int)==((b+j:Nat):Int))=some j
 |[],[],_,_,_,x,hx=>by cases hx
 |[],_::_,_,h,_,_,_=>h.elim|_::_,[],_,h,_,_,_=>h.elim|y::l,e::es,b,h,0,x,hx=>by
  rw [List.findIdx?_cons];have:((e.born:Int)==((b+0:Nat):Int))=true:=by rw [h.2.2.1];simp
  rw [this];rfl
 |y::l,e::es,b,h,j+1,x,hx=>by
  rw [List.findIdx?_cons];have hb:=h.2.2.1;have:((e.born:Int)==((b+(j+1):Nat):Int))=false:=by rw [hb];simp;omega
  rw [this];have ih:=Mb h.2.2.2 j (x:=x) (by simpa using hx);rw [show b+(j+1)=b+1+j by omega];simp only [Bool.false_eq_true,if_false];rw [ih];rfl
theorem Dv {o:Oper} {t:TypeId} {m k:Operand} (ho:o.op= .mapEntry t m k):pJ (ry t m k) o:=by
 intro P r μ B0 h w a hh hr;have hm:=aP hh.dO hr m;have hk:=aP hh.dO hr k;have hex:(execOp a.eval o).run P w=(do let v<-Instr.mapEntry t (a.eval m) (a.eval k);pure (Next.value v):Sem Next).run P w:=by
  simp only [execOp,ho]
 unfold ry;split
 .rename_i kt et hu;cases LX:sf P 40 kt (ev k r)with
  |false=>trivial|true=>
   simp only;obtain⟨kd,hkd⟩:=vU (d:=39) LX;split
   .rename_i id em;rw [em]at hm;split
    .rename_i l hg;cases hf:dZ P kt (ev k r) l 0 with
     |none=>trivial|some f=>
      simp only;obtain⟨B,hB,hm⟩:=hm;have hm:a.eval m= .map (some B.b):=(by simpa using hm);obtain⟨es,h1,h2⟩:=hh.obj id B _ hB hg;have chk:∀em w,(Instr.checkKey em 10000 kt (a.eval k)).run P w= .ok () w:=λem w=>ic em 40 10000 (by omega) LX hk w;have Ir:=MapKept.run_getObj_map (P:=P) h1;have yy:=kU (w:=w) hkd hk h2 hf;have pair:∀{u:AV} {c:Value} {n:Nat},dC μ u c ->dC μ (.aS (.cons u (.cons (.int .i64 (.ofNat n)) .nil))) (.tuple #[c,.int .i64 (.ofNat n)]):=λ{u c n} h=>⟨#[c,.int .i64 (.ofNat n)],rfl,c,[.int .i64 (.ofNat n)],rfl,h,.int .i64 (.ofNat n),[],rfl,rfl,rfl⟩
      cases f with
      |none=>
       simp only at yy;unfold CT;simp only;cases hz:lD P et with
       |none=>trivial|some z=>
        simp only;have hlen:l.length=es.size:=by
         have:∀{l:List (AV×AV)} {es:List MapEntry} {i:Nat},MR μ i l es ->l.length=es.length:=by
          intro l;induction l with
          |nil=>intro es i h;cases es with|nil=>rfl|cons=>exact h.elim
          |cons y l ih=>intro es i h;cases es with|nil=>exact h.elim|cons e es=>simp [ih h.2.2.2]
         simpa using this h2
        refine⟨.tuple #[z,.int .i64 (.ofNat l.length)],μ,_,.inl ?_,pair (iV μ z),uR hh id B hB l _ hg es (es.push ⟨a.eval k,z,es.size⟩) _ h1 ?_⟩
        .rw [hex];have hz':=λw=>gx (P:=P) (w:=w) hz;simp only [hm,Instr.mapEntry,Sem.run_bind,ah hu,Result.andThen_ok,Ir,chk,yy,hz',MapKept.run_setObj_map _ h1,Sem.run_pure,Array.size_push,hlen];rfl
        .show MR μ 0 (l++[(ev k r,fc z)]) _;have:=Du (x:=(ev k r,fc z)) hk (iV μ z) h2;simpa using this
      |some q=>
       obtain⟨e,g1,g2,g3,g4,g5⟩:=yy;unfold CT;simp only;have RT:es[q.1]?=some e:=(by simpa using g1);have acw:((es[q.1]?).map (·.key)).getD (a.eval k)=a.eval k:=by
        rw [RT];exact g3
       have mw:∀w,(Instr.keyThatStays (a.eval k) (a.eval k)).run P w= .ok (a.eval k) w:=λw=>by
        rw [g3]at g4;simp [Instr.keyThatStays,g4]
       have Mc:((es[q.1]?).map (λx=>(x.born:Int))).getD 0=Int.ofNat q.1:=by
        rw [RT];have:=LY h2 g1;show(e.born:Int)=Int.ofNat q.1;rw [this,Nat.zero_add];rfl
       refine⟨.tuple #[e.val,.int .i64 (.ofNat q.1)],μ,_,.inl ?_,pair g2,uR hh id B hB l _ hg es (es.modify q.1 λe=>{e with key:=a.eval k}) _ h1 ?_⟩
       .rw [hex];simp only [hm,Instr.mapEntry,Sem.run_bind,ah hu,Result.andThen_ok,Ir,chk,g5,acw,mw,Mc,MapKept.run_setObj_map _ h1,Sem.run_pure,Array.size_modify];rfl
       .show MR μ 0 (l.set q.1 (ev k r,q.2)) _;have:=LZ (x:=(ev k r,q.2)) hk q.1 g1 g2 h2;simpa using this
    .trivial
   .trivial
 .trivial
theorem yz {o:Oper} {t:TypeId} {m s x:Operand} (ho:o.op= .entryStore t m s x):pJ (mZ m s x) o:=by
 intro P r μ B0 h w a hh hr;have hm:=aP hh.dO hr m;have hs:=aP hh.dO hr s;have hx:=aP hh.dO hr x;have hex:(execOp a.eval o).run P w=(do Instr.entryStore t (a.eval m) (a.eval s) (a.eval x);pure Next.skip:Sem Next).run P w:=by
  simp only [execOp,ho]
 unfold mZ;split
 .rename_i id kd i em es';rw [em]at hm;rw [es']at hs;split
  .rename_i l hg;split
   .rename_i e he;obtain⟨B,hB,hm⟩:=hm;have hm:a.eval m= .map (some B.b):=(by simpa using hm);have hs:a.eval s= .int kd (.ofNat i):=(by simpa [VR]using hs);obtain⟨es,h1,h2⟩:=hh.obj id B _ hB hg;have Ir:=MapKept.run_getObj_map (P:=P) h1;have hfi:es.findIdx? (λe=>(e.born:Int)==(Int.ofNat i))=some i:=by
     have:=Mb h2 i he;rw [Nat.zero_add]at this;have e0:es=es.toList.toArray:=(by simp);rw [e0,List.findIdx?_toArray];exact this
    refine⟨undef,μ,_,.inr ⟨?_,rfl⟩,⟨#[],rfl,rfl⟩,uR hh id B hB l _ hg es (es.modify i λe=>{e with val:=a.eval x}) _ h1 ?_⟩
    .rw [hex];simp only [hm,hs,Instr.entryStore,asInt,asIntOf,Sem.run_bind,Result.andThen_ok,Ir,Sem.run_pure,hfi,MapKept.run_setObj_map _ h1,Array.size_modify]
    .show MR μ 0 (l.set i (e.1,ev x r)) _;have:=Ma (a:=e.1) hx i he rfl h2;simpa using this
   .trivial
  .trivial
 .trivial
theorem FL {o:Oper} {t:TypeId} {n:Option Operand} (ho:o.op= .makeMap t n):pJ (uw t n) o:=by
 intro P r μ B0 h w a hh hr;have key:(execOp a.eval o).run P w= .ok (.value (.map (some w.heap.size))) (w.alloc (.map #[] 0)) ->uM P μ B0 h w a o (.val (.map h.n) ⟨h.t.set (.mp []) h.n,h.n.succ⟩):=by
  intro bu;have jP:=hh.nL;have hsz:h.n.succ.toNat=h.n.toNat+1:=Pos.cV _;refine⟨_,μ.put h.n ⟨w.heap.size,0,0⟩,_,.inl bu,⟨_,Mu.ct _ _ _,rfl⟩,⟨λid hid=>Mu.bc _ _ _ (λe=>by rw [e]at hid;exact Nat.lt_irrefl _ hid),by show h.n.toNat<=h.n.succ.toNat;omega,
   hh.new h.n jP (.mp []) ⟨w.heap.size,0,0⟩ _ _ (by omega) (by omega) rfl _ ?_ ⟨#[],by simp,aB⟩,?_,Grow.refl _ _⟩⟩
  .intro q p e;rw [Tr.bE]at e;by_cases hq:q=h.n
   .rw [if_pos hq]at e;cases e;exact .inl ⟨hq,rfl⟩
   .rw [if_neg hq]at e;exact .inr ⟨hq,e⟩
  .exact(Below.refl _ _).alloc hh.size _
 unfold uw;split
 .refine key ?_;simp only [execOp,ho,Option.map_none,Instr.makeMap,Sem.run_bind];rfl
 .rename_i x;have hx:=aP hh.dO hr x;split
  .rename_i kt et k c hu ex;rw [ex]at hx;have hx:a.eval x= .int k c:=(by simpa [VR]using hx);refine key ?_;simp only [execOp,ho,Option.map_some,Instr.makeMap,Sem.run_bind,ah hu,Result.andThen_ok,hx,asInt,Sem.run_pure];rfl
  .trivial
theorem Dw {μ:Mu}:∀{l:List (AV×AV)} {es:List MapEntry} {i:Nat},MR μ i l es ->l.length=es.length
 |[],[],_,_=>rfl|[],_::_,_,h=>h.elim|_::_,[],_,h=>h.elim|_::l,_::es,_,h=>by simp [Dw h.2.2.2]
theorem yA {μ:Mu}:∀{l:List (AV×AV)} {es:List MapEntry} {i:Nat},MR μ i l es ->∀(j:Nat) {x:AV×AV},l[j]?=some x ->∃e,es[j]?=some e/\dC μ x.1 e.key/\dC μ x.2 e.val/\e.born=i+j
 |[],[],_,_,j,x,hj=>by simp at hj
 |[],_::_,_,h,_,_,_=>h.elim|_::_,[],_,h,_,_,_=>h.elim|y::l,e::es,i,h,0,x,hj=>by
  obtain rfl:y=x:=by simpa using hj
  exact⟨e,rfl,h.1,h.2.1,h.2.2.1⟩
 |y::l,e::es,i,h,j+1,x,hj=>by
  obtain⟨e',h1,h2,h3,h4⟩:=yA h.2.2.2 j (x:=x) (by simpa using hj);exact⟨e',by simpa using h1,h2,h3,by omega⟩
theorem aa8 {μ:Mu}:∀{l:List (AV×AV)} {es:List MapEntry} {i:Nat},MR μ i l es ->∀e∈es,i<=e.born/\e.born<i+es.length
 |[],[],_,_,e,he=>by simp at he
 |[],_::_,_,h,_,_=>h.elim|_::_,[],_,h,_,_=>h.elim|y::l,e::es,i,h,e',he=>by
  have hb:e.born=i:=h.2.2.1;rcases List.mem_cons.1 he with rfl|he
  .simp [hb]
  .obtain⟨h1,h2⟩:=aa8 h.2.2.2 e' he;simp only [List.length_cons];omega
theorem FM {μ:Mu}:∀{l:List (AV×AV)} {es:List MapEntry} {i:Nat},MR μ i l es ->(es.map (·.born)).Nodup
 |[],[],_,_=>by simp
 |[],_::_,_,h=>h.elim|_::_,[],_,h=>h.elim|y::l,e::es,i,h=>by
  rw [List.map_cons,List.nodup_cons];refine⟨λhm=>?_,FM h.2.2.2⟩;obtain⟨e',he,hb⟩:=List.mem_map.1 hm;have:=aa8 h.2.2.2 e' he;have:e.born=i:=h.2.2.1;omega
theorem uS {l:List Nat} {n:Nat} {B:nJ}:¬(AO.si l n).cU B:=λ⟨_,_,e⟩=>by cases e
theorem Pc {o:Oper} {t:TypeId} {x:Operand} (ho:o.op= .range t x):pJ (CU t x) o:=by
 intro P r μ B0 h w a hh hr;have hx:=aP hh.dO hr x;unfold CU;split
 .rename_i s hu ex;rw [ex]at hx;obtain⟨bs,hx,hs⟩:=hx;have hx:a.eval x= .string bs:=by simpa using hx
  have jP:=hh.nL;have hsz:h.n.succ.toNat=h.n.toNat+1:=Pos.cV _;refine⟨_,μ.put h.n ⟨w.heap.size,0,0⟩,w.alloc (.stringIter bs 0),.inl ?_,⟨_,Mu.ct _ _ _,rfl⟩,⟨λid hid=>Mu.bc _ _ _ (λe=>by rw [e]at hid;exact Nat.lt_irrefl _ hid),by show h.n.toNat<=h.n.succ.toNat;omega,
   hh.new h.n jP (.si s 0) ⟨w.heap.size,0,0⟩ _ _ (by omega) (by omega) rfl _ ?_ ⟨rfl,bs,by simp,hs⟩,?_,Grow.refl _ _⟩⟩
  .simp [execOp,ho,hx,Instr.range,ah hu]
  .intro q p e;rw [Tr.bE]at e;by_cases hq:q=h.n
   .rw [if_pos hq]at e;cases e;exact .inl ⟨hq,rfl⟩
   .rw [if_neg hq]at e;exact .inr ⟨hq,e⟩
  .exact(Below.refl _ _).alloc hh.size _
 .rename_i id hu ex;rw [ex]at hx;split
  .rename_i l hg;obtain⟨B,hB,hx⟩:=hx;have hx:a.eval x= .map (some B.b):=(by simpa using hx);obtain⟨es,h1,h2⟩:=hh.obj id B _ hB hg;have jP:=hh.nL;have hsz:h.n.succ.toNat=h.n.toNat+1:=Pos.cV _;have hlen:=Dw h2;have hid:=hh.fresh id B hB;refine⟨_,μ.put h.n ⟨w.heap.size,0,0⟩,w.alloc (.mapIter (some B.b) es.size #[] es.size),.inl ?_,⟨_,Mu.ct _ _ _,rfl⟩,⟨λid hid=>Mu.bc _ _ _ (λe=>by rw [e]at hid;exact Nat.lt_irrefl _ hid),by show h.n.toNat<=h.n.succ.toNat;omega,
    hh.new h.n jP (.mi id l.length []) ⟨w.heap.size,0,0⟩ _ _ (by omega) (by omega) rfl _ ?_ ⟨rfl,B,#[],by rw [Mu.bc _ _ _ (λe=>by rw [e]at hid;omega)];exact hB,by simp [hlen],rfl⟩,?_,Grow.refl _ _⟩⟩
   .simp only [execOp,ho,hx,Sem.run_bind,run_range_map (P:=P) w t _ _ B.b es es.size hu h1,Result.andThen_ok,Sem.run_pure]
   .intro q p e;rw [Tr.bE]at e;by_cases hq:q=h.n
    .rw [if_pos hq]at e;cases e;exact .inl ⟨hq,rfl⟩
    .rw [if_neg hq]at e;exact .inr ⟨hq,e⟩
   .exact(Below.refl _ _).alloc hh.size _
  .trivial
 .trivial
theorem Jr {o:Oper} {x:Operand} (ho:o.op= .entry x):vQ (oU x) o:=by
 intro P r μ B0 h w a v hh hr hv;have hx:=aP hh.dO hr x;unfold oU at hv;split at hv
 .rename_i id ex;rw [ex]at hx;obtain⟨B,hB,hx⟩:=hx;split at hv
  .rename_i m n j seen hg;obtain⟨AG,M,sn,hM,hw,hsn⟩:=hh.obj id B _ hB hg;have hx:a.eval x= .pointer (some ⟨B.b,0,none⟩):=(by rw [AG]at hx;simpa using hx);split at hv
   .rename_i l hgm;obtain⟨es,h1,h2⟩:=hh.obj m M _ hM hgm;have hlen:=Dw h2;cases hn:Nat.beq l.length n with
    |false=>rw [hn]at hv;cases hv|true=>
     rw [hn]at hv;have hn:=Nat.eq_of_beq_eq_true hn;simp only at hv;split at hv
     .rename_i e he;cases hv;obtain⟨en,g1,g2,g3,g4⟩:=yA h2 j he;have aie:sn=(seen.reverse.toArray).push en.born:=by
       apply Array.toList_inj.1;rw [hsn,g4];simp
      rw [aie,<-hn,hlen]at hw;have Js:=run_entry_at (P:=P) w B.b M.b es.size _ es es.size en hw h1 (List.mem_of_getElem? g1) (FM h2);refine⟨.tuple #[en.key,en.val],?_,⟨#[en.key,en.val],rfl,_,_,rfl,g2,_,_,rfl,g3,rfl⟩⟩;simp only [execOp,ho,hx,Sem.run_bind,Js,Result.andThen_ok,Sem.run_pure]
     .cases hv
   .cases hv
  .cases hv
 .cases hv
theorem RU {o:Oper} {x:Operand} {b:Bool} (ho:o.op= .next x b):pJ (LM x b) o:=by
 intro P r μ B0 h w a hh hr;have hx:=aP hh.dO hr x;unfold LM;split
 .rename_i id ex;rw [ex]at hx;split
  .rename_i s pos hg;obtain⟨B,hB,hx⟩:=hx;obtain⟨AG,bs,hw,hs⟩:=hh.obj id B _ hB hg;have hx:a.eval x= .pointer (some ⟨B.b,0,none⟩):=(by rw [AG]at hx;simpa using hx);have cR:=(Array.getElem?_eq_some_iff.1 hw).1;have Ir:(getObj B.b).run P w= .ok (.stringIter bs pos) w:=(by simp [getObj,Sem.run,hw]);have hlen:s.length=bs.size:=(by rw [<-hs];simp);unfold aa3;cases hp:s[pos]? with
   |none=>
    simp only;have Dt:¬pos<bs.size:=by
     have:=List.getElem?_eq_none_iff.1 hp;omega
    exact⟨.tuple #[.bool false],μ,w,.inl (by simp [execOp,ho,hx,Instr.next,Ir,Dt]),⟨#[.bool false],rfl,.bool false,[],rfl,rfl,rfl⟩,bP.refl hh⟩
   |some c=>
    simp only;cases hc:bJ c 128 with
    |false=>trivial|true=>
     simp only;have hc:=bz.1 hc;have nK:pos<bs.size:=by
      have:=(List.getElem?_eq_some_iff.1 hp).1;omega
     have hbv:(bs[pos]'nK).toNat=c:=by
      rw [<-hs]at hp;have e:bs.data.toList[pos]?=some (bs[pos]'nK):=by
       rw [Array.getElem?_toList];exact Array.getElem?_eq_getElem nK
      rw [List.getElem?_map,e]at hp;simpa using hp
     have hd:=decode_ascii bs pos nK (by omega);have tq:∀o',(setObj B.b o').run P w= .ok () {w with heap:=w.heap.setIfInBounds B.b o'}:=λo'=>by simp [setObj,Sem.run,hw]
     have sF:=MapKept.heap_set (o':= .stringIter bs (pos+1)) hw;have jQ:∀k,k≠B.b ->({w with heap:=w.heap.setIfInBounds B.b (.stringIter bs (pos+1))}:World).heap[k]?=w.heap[k]?:=λk hk=>sF.2 k hk;refine⟨.tuple #[.bool true,.int .i64 pos,.int .i32 c],μ,{w with heap:=w.heap.setIfInBounds B.b (.stringIter bs (pos+1))},.inl ?_,⟨#[.bool true,.int .i64 pos,.int .i32 c],rfl,_,_,rfl,rfl,_,_,rfl,rfl,_,_,rfl,rfl,rfl⟩,
      λ_ _=>rfl,Nat.le_refl _,hh.chg id B hB (.si s (Nat.succ pos)) rfl (.si s pos) hg rfl uS jQ (by simp) ⟨AG,bs,sF.1,hs⟩ _ (λq p e=>?_),⟨⟨rfl,rfl,rfl,by simp,λk hk=>jQ k (λe=>?_)⟩,λ_=>Nat.le_refl _⟩,Grow.refl _ _⟩
     .simp only [execOp,ho,hx,Instr.next,Sem.run_bind,Ir,Result.andThen_ok,nK,if_true,hd,tq,hbv,Sem.run_pure,goInt]
     .rw [Tr.bE]at e;by_cases hq:q=id
      .rw [if_pos hq]at e;cases e;exact .inl ⟨hq,rfl⟩
      .rw [if_neg hq]at e;exact .inr ⟨hq,e⟩
     .have:=(hh.own id B _ hB hg rfl).resolve_left uS;omega
  .trivial
 .trivial
end
section
variable [aT]
theorem wV {P:Program} {w:World} {μ:Mu} {x:AV} {cx:Value} (hx:dC μ x cx) {n:Nat} (hn:se x=some n) (sz:Nat):(Builtin.firstCells sz 0 cx).run P w= .ok #[] w:=by
 unfold se at hn;split at hn
 .obtain⟨B,c,hB,hx,_⟩:=hx;have hx:=(List.cons.inj hx).1;rw [hx];simp [Builtin.firstCells,loadCells,loadCellsFrom]
 .obtain⟨xs,hl,hx⟩:=hx;rcases hx with ⟨b,o,c,hx,_⟩|⟨e0,_,q,hx⟩
  .have hx:=(List.cons.inj hx).1;rw [hx];simp [Builtin.firstCells,loadCells,loadCellsFrom]
  .have hx:=(List.cons.inj hx).1;rw [hx];cases q<;>simp [Builtin.firstCells,loadCells,loadCellsFrom]
 .obtain⟨B,hB,hx⟩:=hx;rcases hx with ⟨c,hx,_⟩|⟨e0,hx⟩
  .have hx:=(List.cons.inj hx).1;rw [hx];simp [Builtin.firstCells,loadCells,loadCellsFrom]
  .have hx:=(List.cons.inj hx).1;rw [hx];simp [Builtin.firstCells]
 .obtain⟨o,c,hx⟩:=hx;have hx:=(List.cons.inj hx).1;rw [hx];simp [Builtin.firstCells,loadCells,loadCellsFrom]
 .have hx:cx= .slice none 0 0:=by simpa [VR]using hx
  rw [hx];simp [Builtin.firstCells]
 .obtain⟨bs,hx,Xe⟩:=hx;have hx:=(List.cons.inj hx).1;rw [hx];simp [Builtin.firstCells]
 .cases hn
theorem RV {o:Oper} {ts:Array TypeId} {aZs:Array Operand} (ho:o.op= .call ⟨.builtin .copy,aZs,ts⟩):pJ (λP r h=>Ru ts.toList (qc aZs.toList r) P h) o:=by
 intro P r μ B0 h w a hh hr;have hx:=fB hh.dO hr aZs.toList;simp only;unfold Ru;split
 .rename_i t ts' d x rest Xb yu;rw [yu]at hx;obtain⟨cd,r1,hl,hd,cx,r2,e1,hx,_⟩:=hx;subst e1;have t0:ts[0]?=some t:=by rw [<-Array.getElem?_toList,Xb];rfl
  have a0:(aZs.map a.eval)[0]?=some cd:=by rw [<-Array.getElem?_toList,Array.toList_map,hl];rfl
  have a1:(aZs.map a.eval)[1]?=some cx:=by rw [<-Array.getElem?_toList,Array.toList_map,hl];rfl
  have jv:∀(cv:Value) (w':World),(Builtin.copy_ ts o.type (aZs.map a.eval)).run P w= .ok cv w' ->(execOp a.eval o).run P w= .ok (.value cv) w':=by
   intro cv w' Az;rw [execOp_builtin ho];simp [builtin,Az]
  cases he:iG P t with
  |none=>trivial|some e=>
   simp only;have hu:P.underlying t=some (.slice e):=by
    unfold iG at he;split at he
    .rename_i e' hu;cases he;exact hu
    .cases he
   cases hsz:fN P e with
   |none=>trivial|some sz=>
    simp only;split
    .rename_i id dl nY;obtain⟨B,hB,xI⟩:=hd;cases Xd:Nat.beq sz nY with
     |false=>trivial|true=>
      simp only;have Xd:=Nat.eq_of_beq_eq_true Xd;subst Xd;cases hn:se x with
      |none=>trivial|some sn=>
       simp only;cases hs:CS x (Nat.min sn dl) sz h with
       |none=>trivial|some new=>
        simp only;cases hp:putAt id 0 (Nat.mul (Nat.min sn dl) sz) new h with
        |none=>trivial|some h'=>
         simp only;obtain⟨vs,hv,_,gE⟩:=tp (P:=P) hh hx hs ⟨sn,hn,Nat.min_le_left _ _⟩;obtain⟨p1,p2,p3⟩:=kT (P:=P) hh hp hv hB;have hf:=gE w rfl;have hlen:=my (P:=P) (w:=w) hx hn;rcases xI with ⟨c,xI,_⟩|⟨e0,xI⟩
         .have xI:=(List.cons.inj xI).1;subst xI;refine⟨.int .i64 (Nat.min sn dl:Nat),μ,_,.inl (jv _ _ ?_),rfl,p3⟩;unfold Builtin.copy_;simp only [t0,a0,a1,Sem.run_bind,ah hu,Result.andThen_ok,hlen,aJ hsz,hf];rw [Nat.add_zero]at p2;simp only [Sem.run_bind,p2,Result.andThen_ok,Sem.run_pure];rfl
         .have xI:=(List.cons.inj xI).1;subst xI;subst e0;have hm0:Nat.min sn 0=0:=Nat.min_zero sn;have xG:vs=[]:=by
           cases vs with
           |nil=>rfl|cons _ _=>rw [hm0]at p1;simp at p1
          subst xG;rw [hm0]at hf ⊢;refine⟨.int .i64 (0:Nat),μ,w,.inl (jv _ _ ?_),rfl,by simpa [World.setCells]using p3⟩;unfold Builtin.copy_;simp only [t0,a0,a1,Sem.run_bind,ah hu,Result.andThen_ok,hlen,aJ hsz,hm0,hf];rfl
    .rename_i id off dl cap nY;obtain⟨B,c,hB,xI,AJ,Fi,tm⟩:=hd;have xI:=(List.cons.inj xI).1;subst xI;cases Xd:Nat.beq sz nY with
     |false=>trivial|true=>
      simp only;have Xd:=Nat.eq_of_beq_eq_true Xd;subst Xd;cases hn:se x with
      |none=>trivial|some sn=>
       simp only;cases hs:CS x (Nat.min sn dl) sz h with
       |none=>trivial|some new=>
        simp only;cases hp:putAt id off (Nat.mul (Nat.min sn dl) sz) new h with
        |none=>trivial|some h'=>
         simp only;obtain⟨vs,hv,_,gE⟩:=tp (P:=P) hh hx hs ⟨sn,hn,Nat.min_le_left _ _⟩;obtain⟨p1,p2,p3⟩:=kT (P:=P) hh hp hv hB;have hf:=gE w rfl;have hlen:=my (P:=P) (w:=w) hx hn;refine⟨.int .i64 (Nat.min sn dl:Nat),μ,_,.inl (jv _ _ ?_),rfl,p3⟩;unfold Builtin.copy_;simp only [t0,a0,a1,Sem.run_bind,ah hu,Result.andThen_ok,hlen,aJ hsz,hf];simp only [Sem.run_bind,p2,Result.andThen_ok,Sem.run_pure];rfl
    .have xI:cd= .slice none 0 0:=(by simpa [VR]using hd);subst xI;cases hn:se x with
     |none=>trivial|some sn=>
      have hlen:=my (P:=P) (w:=w) hx hn;have hf:=wV (P:=P) (w:=w) hx hn sz;refine⟨.int .i64 0,μ,w,.inl (jv _ _ ?_),rfl,bP.refl hh⟩;unfold Builtin.copy_;have:Nat.min sn 0=0:=Nat.min_zero sn;simp only [t0,a0,a1,Sem.run_bind,ah hu,Result.andThen_ok,hlen,aJ hsz,this,hf];rfl
    .obtain⟨o,c,xI⟩:=hd;have xI:=(List.cons.inj xI).1;subst xI;cases hn:se x with
     |none=>trivial|some sn=>
      have hlen:=my (P:=P) (w:=w) hx hn;have hf:=wV (P:=P) (w:=w) hx hn sz;refine⟨.int .i64 0,μ,w,.inl (jv _ _ ?_),rfl,bP.refl hh⟩;unfold Builtin.copy_;have:Nat.min sn 0=0:=Nat.min_zero sn;simp only [t0,a0,a1,Sem.run_bind,ah hu,Result.andThen_ok,hlen,aJ hsz,this,hf];rfl
    .trivial
 .trivial
theorem Pd {o:Oper} {ts:Array TypeId} {aZs:Array Operand} (ho:o.op= .call ⟨.builtin .clear,aZs,ts⟩):pJ (λP r h=>oT ts.toList (qc aZs.toList r) P h) o:=by
 intro P r μ B0 h w a hh hr;have hx:=fB hh.dO hr aZs.toList;simp only;unfold oT;split
 .rename_i t ts' d rest Xb yu;rw [yu]at hx;obtain⟨cd,r1,hl,hd,aa9⟩:=hx;have t0:ts[0]?=some t:=by rw [<-Array.getElem?_toList,Xb];rfl
  have a0:(aZs.map a.eval)[0]?=some cd:=by rw [<-Array.getElem?_toList,Array.toList_map,hl];rfl
  have jv:∀(cv:Value) (w':World),(Builtin.clear_ ts o.type (aZs.map a.eval)).run P w= .ok cv w' ->(execOp a.eval o).run P w= .ok (.value cv) w':=by
   intro cv w' Az;rw [execOp_builtin ho];simp [builtin,Az]
  cases he:iG P t with
  |none=>trivial|some e=>
   simp only;have hu:P.underlying t=some (.slice e):=by
    unfold iG at he;split at he
    .rename_i e' hu;cases he;exact hu
    .cases he
   cases hsz:fN P e with
   |none=>trivial|some sz=>
    simp only;cases hz:dM P e with
    |none=>trivial|some z=>
     simp only;split
     .rename_i id off n cap nY;obtain⟨B,c,hB,xI,AJ,Fi,tm⟩:=hd;have xI:=(List.cons.inj xI).1;subst xI;cases hb:aF (Nat.beq sz nY) (aF (Nat.beq z.len sz) (bJ 0 n))with
      |false=>trivial|true=>
       simp only;obtain⟨b1,b2⟩:=aq.1 hb;obtain⟨b2,b3⟩:=aq.1 b2;have Io:=Nat.eq_of_beq_eq_true b2;have hn:0<n:=(by rw [kC]at b3;exact of_decide_eq_true b3);cases hp:putAt id off (Nat.mul n sz) (fW n z) h with
       |none=>trivial|some h'=>
        simp only;obtain⟨zv,IX,Bs⟩:=mq μ hz;have iO:zv.cells.size=sz:=(by rw [<-Io,Bs.len];simp);have Dh:=cJ.fW Bs n;rw [<-oX zv.cells n sz iO]at Dh;obtain⟨p1,p2,p3⟩:=kT (P:=P) hh hp Dh hB;have XD:Builtin.zeroCells zv.cells n=(Array.range (n*sz)).map λi=>zv.cells[i % zv.cells.size]!:=(by simp [Builtin.zeroCells,iO]);have XE:=gx (P:=P) (w:=w) IX;refine⟨.tuple #[],μ,_,.inl (jv _ _ ?_),⟨#[],rfl,rfl⟩,p3⟩;unfold Builtin.clear_;simp only [t0,a0,Sem.run_bind,ah hu,Result.andThen_ok];cases n with
        |zero=>omega|succ n=>
         simp only [Sem.run_bind,XE,Result.andThen_ok,XD,p2,Sem.run_pure]
     .trivial
 .trivial
theorem RX {o:Oper} {f:Operand} {aZs:Array Operand} {ts:Array TypeId} (ho:o.op= .call ⟨.value f,aZs,ts⟩):pJ (λ_ r h=>LN (ev f r) (qc aZs.toList r) h) o:=by
 intro P r μ B0 h w a hh hr;have hf:=aP hh.dO hr f;have hx:=fB hh.dO hr aZs.toList;simp only;unfold LN;split
 .rename_i g p q ef;rw [ef]at hf;obtain⟨F,C,hf,_,h1,h2⟩:=hf;have hf:a.eval f= .func (.func g) F C:=by simpa using hf
  refine⟨rfl,F++aZs.map a.eval++C,?_,?_⟩
  .simp [execOp,ho,resolve,hf,Deferred.ofValue,invoke]
  .rw [Array.toList_append,Array.toList_append,List.append_assoc];refine cJ.app (cJ.app h2 ?_) h1;simpa using hx
 .rename_i id ef;rw [ef]at hf;obtain⟨B,hB,hf⟩:=hf;have hf:a.eval f= .func (.yield B.b) #[] #[]:=by simpa using hf
  refine⟨rfl,B,aZs.map a.eval,hB,?_,by simpa using hx⟩;simp [execOp,ho,resolve,hf,Deferred.ofValue,invoke]
 .trivial
def aff (o:Oper):OC ->Prop
 | .bad=>True| .pure f=>fC f o| .load f=>vQ f o| .alloc f=>uF f o| .lE f=>pJ f o
theorem BD (o:Oper):aff o (cls o.op):=by
 unfold cls;split
 .rename_i x ho;exact Bp (.inl ho)
 .rename_i x ho;exact Bp (.inr ho)
 .rename_i ho;exact OW ho
 .rename_i ho;exact FG ho
 .rename_i ho;exact OY ho
 .rename_i ho;exact IW ho
 .rename_i ho;exact vR ho
 .rename_i ho;exact OX ho
 .rename_i ho;exact OZ ho
 .rename_i ho;exact AE ho
 .rename_i ho;exact RH ho
 .rename_i ho;exact XA ho
 .rename_i ho;exact Dl ho
 .rename_i ho;exact tj ho
 .rename_i ho;exact AF ho
 .rename_i ho;exact xr ho
 .rename_i ho;exact Jg ho
 .rename_i ho;exact yp ho
 .rename_i ho;exact IZ ho
 .rename_i ho;exact CZ ho
 .rename_i ho;exact yq ho
 .rename_i ho;exact Ja ho
 .rename_i ho;exact CY ho
 .rename_i c ho;obtain⟨cl,aZs,ts⟩:=c;unfold LO;cases cl with
  |value f=>exact RX ho|invoke _ _=>trivial|builtin b=>
   simp only;unfold ux;cases b<;>first
    |trivial
    |exact Jo ho
    |exact RJ ho
    |exact RM ho
    |exact RV ho
    |exact Pd ho
    |exact RN ho
    |exact RO ho
 .rename_i ho;exact FK ho
 .rename_i ho;exact sE (.inl ho)
 .rename_i ho;exact sE (.inr ho)
 .rename_i ho;exact Dv ho
 .rename_i ho;exact yz ho
 .rename_i ho;exact FL ho
 .rename_i ho;exact Pc ho
 .rename_i ho;exact RU ho
 .rename_i ho;exact Jr ho
 .trivial
end
section
variable [aT]
theorem FN {μ:Mu} {k:MK} {n:Nat} (hk:k.ok n) {id:Pos} {b m:Nat} (hm:n<=m) (hid:μ id=some ⟨b,0,m⟩):dC μ (k.av id) (k.val b):=by
 cases k with
 |ptr=>exact⟨_,hid,rfl⟩|slice l c z=>exact⟨_,hid,.inl ⟨c,rfl,hk.1,by have:=hk.2;show c*z<=m;omega⟩⟩
theorem Pe {P:Program} {r:Tr AV} {μ:Mu} {B0:Nat} {h:Heap} {w:World} {a:Act} (o:Oper) (hh:HR μ B0 h w) (hr:RR μ r a.tmps):uM P μ B0 h w a o (pY o.op P r h):=by
 have hc:=BD o;unfold pY;cases eH:cls o.op with
 |bad=>trivial|pure f=>
  rw [eH]at hc;simp only;cases hf:f P r with
  |none=>trivial|some v=>
   obtain⟨cv,h1,h2⟩:=hc P r μ a v hh.dO hr hf;exact⟨cv,μ,w,.inl (h1 w),h2,bP.refl hh⟩
 |load f=>
  rw [eH]at hc;simp only;cases hf:f P r h with
  |none=>trivial|some v=>
   obtain⟨cv,h1,h2⟩:=hc P r μ B0 h w a v hh hr hf;exact⟨cv,μ,w,.inl h1,h2,bP.refl hh⟩
 |alloc f=>
  rw [eH]at hc;simp only;cases hf:f P r with
  |none=>trivial|some A=>
   simp only;cases hn:iU A.l A.n h A.k with
   |fail=>trivial|enter f a h'=>exact absurd hn (jO.1 f a h')|round f a h'=>exact absurd hn (jO.2 f a h')|val v h'=>
    obtain⟨ao,hm,rfl,rfl⟩:=mz hn;obtain⟨hk,arr,el,xs,hv,hlen,RY,bu⟩:=hc P r μ a A ao hh.dO hr hf hm;have Iq:=Dp hh hv hm arr el RY (by omega);have fe:h.n.succ.toNat=h.n.toNat+1:=Pos.cV _;refine⟨_,_,_,.inl (bu w),FN hk (m:=arr.size) (by omega) (b:=w.heap.size) ?_,?_,?_,Iq,?_,?_⟩
    .exact Mu.ct _ _ _
    .intro q hq;exact Mu.bc _ _ _ (λe'=>by subst e';omega)
    .show h.n.toNat<=h.n.succ.toNat;omega
    .exact(Below.refl _ _).alloc hh.size _
    .exact Grow.refl _ _
 |lE f=>
  rw [eH]at hc;exact hc P r μ B0 h w a hh hr
def eO (P:Program):Prop:=∀(f:FuncId) (fn:Func) (args:Array Value) (w:World),P.funcs[f]?=some fn ->fn.body.isSome=true ->(callFunc f args).run P w= .ok (.enter f args) w
def aU (P:Program) (B0:Nat) (call:eL ->AV ->Heap ->CR):Prop:=
 ∀(t:eL) (aZs:AV) (h:Heap) (v:AV) (h':Heap),call t aZs h= .ret v h' ->∀(μ:Mu) (w:World),HR μ B0 h w ->
  match t with
  | .fn f=>(∀cargs:Array Value,(callFunc f cargs).run P w= .ok (.enter f cargs) w)/\∀cargs:Array Value,cJ μ aZs cargs.toList ->
   Calls P f cargs w λe w'=>∃cv μ',e= .returned cv/\dC μ' v cv/\bP μ B0 h w μ' h' w'
  | .rd id=>∀B,μ id=some B ->∀cargs:Array Value,cJ μ aZs cargs.toList ->∃fn tmps assign body,(Instr.yield B.b cargs).run P w= .ok (.round B.b fn tmps assign body) w/\
   ∀(c:Frame) (cs:List Frame),∃cv μ' w',dC μ' v cv/\bP μ B0 h w μ' h' w'/\Steps P (lone (Frame.round B.b fn tmps assign body .normal) (c::cs) w) (lone (c.finish cv) cs w')
theorem pa {o:Oper} {P:Program} {r:Tr AV} {h:Heap} (hx:pY o.op P r h≠.fail):∀c,o.op≠.defer c:=by
 intro c e;apply hx;unfold pY;rw [e];rfl
variable {P:Program} {B0:Nat}
def RZ (P:Program) (B0:Nat) (μ:Mu) (h:Heap) (w:World) (b:Frame) (a:Act) (o:Oper) (v:AV) (h':Heap):Prop:=
 ∀(ops:Array Oper) (i:Nat) (rest:List Nat) (k:List Item) (cs:List Frame),ops[i]?=some o ->Region.wanted o (yielded ops a.tmps)=true ->
  ∃cv μ' w',dC μ' v cv/\bP μ B0 h w μ' h' w'/\Steps P (lone (b.atR a (.inRegion ops (i::rest)::k)) cs w) (lone (b.atR (a.put o.dst cv) (.inRegion ops rest::k)) cs w')
def FO (o:Oper) (cx:Cx) (r:Tr AV) (h:Heap) (v:AV) (h':Heap):Prop:=
 pY o.op cx.P r h= .val v h'\/(∃f aZs h1,pY o.op cx.P r h= .enter f aZs h1/\cx.call (.fn f) aZs h1= .ret v h')\/(∃id aZs h1,pY o.op cx.P r h= .round id aZs h1/\cx.call (.rd id) aZs h1= .ret v h')
theorem Md {cx:Cx} (hP:cx.P=P) (aZ:aU P B0 cx.call) {o:Oper} {r:Tr AV} {h h':Heap} {v:AV} (oi:FO o cx r h v h') {μ:Mu} {w:World} {b:Frame} {a:Act} (hh:HR μ B0 h w) (hr:RR μ r a.tmps):
  RZ P B0 μ h w b a o v h':=by
 intro ops i rest k cs ho hw;have hs:=Pe (P:=P) o hh hr;have mT:∀u,(b.atR a (.inRegion ops (i::rest)::k)).finish u=b.atR (a.put o.dst u) (.inRegion ops rest::k):=by
  intro u;rw [Frame.finish_atR,ho];rfl
 rcases oi with hx|⟨f,aZs,h1,hx,hc⟩|⟨id,aZs,h1,hx,hc⟩
 .rw [hP]at hx;have kO:=pa (P:=P) (r:=r) (h:=h) (o:=o) (by rw [hx];intro e;cases e);have hg:=stepGR_op (P:=P) (b:=b) (k:=k) (cs:=cs) (w:=w) (rest:=rest) ho hw;rw [Oper.semAt_eq _ _ _ kO]at hg;rw [hx]at hs;obtain⟨cv,μ',w',bu,hv,hp⟩:=hs;refine⟨cv,μ',w',hv,hp,.one (step_lone_go ?_)⟩;rcases bu with bu|⟨bu,rfl⟩
  .rw [hg,<-mT];simp [stepG.apply,bu]
  .rw [hg,<-mT];simp [stepG.apply,bu]
 .rw [hP]at hx;have kO:=pa (P:=P) (r:=r) (h:=h) (o:=o) (by rw [hx];intro e;cases e);have hg:=stepGR_op (P:=P) (b:=b) (k:=k) (cs:=cs) (w:=w) (rest:=rest) ho hw;rw [Oper.semAt_eq _ _ _ kO]at hg;rw [hx]at hs;obtain⟨rfl,cargs,bu,hv⟩:=hs;obtain⟨Js,Jt⟩:=aZ _ _ _ _ _ hc μ w hh;rw [Js]at bu;obtain⟨e,w',fr,⟨cv,μ',rfl,hv',hp⟩,tu,_,Ju⟩:=Jt cargs hv (b.atR a (.inRegion ops (i::rest)::k)::cs);have yB:step P (lone (b.atR a (.inRegion ops (i::rest)::k)) cs w)= .next (lone (Frame.enter P f cargs .normal) (b.atR a (.inRegion ops (i::rest)::k)::cs) w):=
   step_lone_go (by rw [hg];simp [stepG.apply,bu,Frame.atR])
  refine⟨cv,μ',w',hv',hp,.head yB (Steps.trans tu (.one ?_))⟩;rw [<-mT];exact step_leave_returned Ju
 .rw [hP]at hx;have kO:=pa (P:=P) (r:=r) (h:=h) (o:=o) (by rw [hx];intro e;cases e);have hg:=stepGR_op (P:=P) (b:=b) (k:=k) (cs:=cs) (w:=w) (rest:=rest) ho hw;rw [Oper.semAt_eq _ _ _ kO]at hg;rw [hx]at hs;obtain⟨rfl,B,cargs,hB,bu,hv⟩:=hs;obtain⟨fn,tmps,assign,body,hy,acx⟩:=aZ _ _ _ _ _ hc μ w hh B hB cargs hv;rw [hy]at bu;obtain⟨cv,μ',w',hv',hp,tu⟩:=acx (b.atR a (.inRegion ops (i::rest)::k)) cs;have yB:step P (lone (b.atR a (.inRegion ops (i::rest)::k)) cs w)= .next (lone (Frame.round B.b fn tmps assign body .normal) (b.atR a (.inRegion ops (i::rest)::k)::cs) w):=
   step_lone_go (by rw [hg];simp [stepG.apply,bu,Frame.atR])
  refine⟨cv,μ',w',hv',hp,.head yB ?_⟩;rw [<-mT];exact tu
theorem Sa {o:Oper} {cx:Cx} {r:Tr AV} {m:List Pos} {h:Heap} {k:Tr AV ->List Pos ->Heap ->R} {x:R} (e:Xq o cx r m h k=x) (hx:x≠.fail):
  ∃v h' r',FO o cx r h v h'/\oV o.dst cx.nt v r=some r'/\k r' m h'=x:=by
 unfold Xq at e;cases ho:pY o.op cx.P r h with
 |fail=>rw [ho]at e;exact absurd e.symm hx|val v h'=>
  rw [ho]at e;simp only at e;cases hp:oV o.dst cx.nt v r with
  |none=>rw [hp]at e;exact absurd e.symm hx|some r'=>rw [hp]at e;exact⟨v,h',r',.inl ho,hp,e⟩
 |enter f aZs h1=>
  rw [ho]at e;simp only at e;unfold crK at e;cases hc:cx.call (.fn f) aZs h1 with
  |fail=>rw [hc]at e;exact absurd e.symm hx|ret v h'=>
   rw [hc]at e;simp only at e;cases hp:oV o.dst cx.nt v r with
   |none=>rw [hp]at e;exact absurd e.symm hx|some r'=>rw [hp]at e;exact⟨v,h',r',.inr (.inl ⟨f,aZs,h1,ho,hc⟩),hp,e⟩
 |round f aZs h1=>
  rw [ho]at e;simp only at e;unfold crK at e;cases hc:cx.call (.rd f) aZs h1 with
  |fail=>rw [hc]at e;exact absurd e.symm hx|ret v h'=>
   rw [hc]at e;simp only at e;cases hp:oV o.dst cx.nt v r with
   |none=>rw [hp]at e;exact absurd e.symm hx|some r'=>rw [hp]at e;exact⟨v,h',r',.inr (.inr ⟨f,aZs,h1,ho,hc⟩),hp,e⟩
theorem yC {ops:Array Oper} {o:Oper} {cx:Cx} {r:Tr AV} {m:List Pos} {h:Heap} {k:Tr AV ->List Pos ->Heap ->R} {x:R} (e:tc ops o cx r m h k=x) (hx:x≠.fail):
  ∃v h' r',((cX ops o r= .yes/\FO o cx r h v h')\/(cX ops o r= .no/\v= .aS .nil/\h'=h))/\oV o.dst cx.nt v r=some r'/\k r' m h'=x:=by
 unfold tc at e;cases hw:cX ops o r with
 |yes=>
  rw [hw]at e;obtain⟨v,h',r',h1,h2,h3⟩:=Sa e hx;exact⟨v,h',r',.inl ⟨rfl,h1⟩,h2,h3⟩
 |no=>
  rw [hw]at e;simp only at e;cases hp:oV o.dst cx.nt (.aS .nil) r with
  |none=>rw [hp]at e;exact absurd e.symm hx|some r'=>rw [hp]at e;exact⟨_,h,r',.inr ⟨rfl,rfl,rfl⟩,hp,e⟩
 |unknown=>rw [hw]at e;exact absurd e.symm hx
theorem tx {μ:Mu} {d:Option Tmp} {nt:Nat} {v:AV} {r r':Tr AV} (hp:oV d nt v r=some r') {a:Act} (hr:RR μ r a.tmps) (hs:a.tmps.size=nt) {cv:Value} (hv:dC μ v cv):
  RR μ r' (a.put d cv).tmps/\(a.put d cv).tmps.size=nt/\(a.put d cv).defers=a.defers:=by
 unfold oV at hp;cases d with
 |none=>cases hp;exact⟨hr,hs,rfl⟩|some d=>
  simp only at hp;cases hl:bJ d nt with
  |false=>rw [hl]at hp;cases hp|true=>
   rw [hl]at hp;cases hp;have hl:=bz.1 hl;refine⟨?_,by simp [Act.put,hs],rfl⟩;intro k u hk;rw [Tr.bE]at hk;by_cases he:k=d
   .subst he;rw [if_pos rfl]at hk;cases hk;exact⟨cv,by simp [Act.put,Array.getElem?_setIfInBounds_self_of_lt (show k<a.tmps.size by omega)],hv⟩
   .rw [if_neg (λe=>he (dJ e))]at hk;obtain⟨cu,h1,h2⟩:=hr k u hk;exact⟨cu,by simp only [Act.put];rw [Array.getElem?_setIfInBounds_ne (λe=>he e.symm)];exact h1,h2⟩
def asB (v:Value):Option Bool:=match v with| .bool b=>some b|_=>none
theorem sG {μ:Mu} {ops:Array Oper} {o:Oper} {r:Tr AV} {tmps:Array Value} (hr:∀g s v,o.guard=some g ->uy ops g.1=some s ->r.get (pathOf s)=some v ->∃cv,tmps[s]?=some cv/\dC μ v cv):
  (cX ops o r= .yes ->Region.wanted o (yielded ops tmps)=true)/\(cX ops o r= .no ->Region.wanted o (yielded ops tmps)=false):=by
 unfold cX Region.wanted;cases hg:o.guard with
 |none=>exact⟨λ_=>rfl,λe=>by cases e⟩|some g=>
  obtain⟨j,want⟩:=g;simp only;cases hs:uy ops j with
  |none=>exact⟨(λe=>by cases e),(λe=>by cases e)⟩|some s=>
   simp only;cases hv:r.get (pathOf s)with
   |none=>exact⟨(λe=>by cases e),(λe=>by cases e)⟩|some v=>
    obtain⟨cv,h1,h2⟩:=hr (j,want) s v hg hs hv;have hy:yielded ops tmps j=asB cv:=by
     unfold yielded;unfold uy at hs;rw [hs];simp only [Option.bind_some,h1];cases cv<;>rfl
    simp only [gv];unfold yj;split
    .rename_i b;have:cv= .bool b:=(by simpa [VR]using h2);rw [hy,this];cases b<;>cases want<;>simp [asB]
    .rename_i l;obtain⟨c,h3,_⟩:=h2;have:cv= .tuple c:=(by simpa using h3);rw [hy,this];simp [asB]
    .exact⟨(λe=>by cases e),(λe=>by cases e)⟩
end
section
variable [aT]
theorem oj {r r':Tr AV}:∀(l:List Operand),(∀x∈l,ev x r=ev x r') ->qc l r=qc l r'
 |[],_=>rfl|x::l,h=>by
  show AV.cons (ev x r) (qc l r)=AV.cons (ev x r') (qc l r');rw [h x (by simp),oj l (λy hy=>h y (by simp [hy]))]
theorem qw {r r':Tr AV} (place:Nat ->Option (Nat×Nat)) (xq:Nat):∀(ps:List (Nat×Operand)) (l:AV),(∀p∈ps,ev p.2 r=ev p.2 r') ->sv place xq ps r l=sv place xq ps r' l
 |[],l,_=>rfl|p::ps,l,h=>by
  have h1:=h p (by simp);have h2:=λl=>qw place xq ps l (λq hq=>h q (by simp [hq]));show Option.casesOn (motive:=λ_=>Option AV) (place p.1) none (λq=>
   Bool.casesOn (motive:=λ_=>Option AV) (aF (aF (okV (ev p.2 r)) (Nat.beq (ev p.2 r).cells.len q.2)) (Nat.ble (Nat.add q.1 q.2) xq)) none (sv place xq ps r (gV q.1 l (ev p.2 r).cells)))=
   Option.casesOn (motive:=λ_=>Option AV) (place p.1) none (λq=>
   Bool.casesOn (motive:=λ_=>Option AV) (aF (aF (okV (ev p.2 r')) (Nat.beq (ev p.2 r').cells.len q.2)) (Nat.ble (Nat.add q.1 q.2) xq)) none (sv place xq ps r' (gV q.1 l (ev p.2 r').cells)))
  rw [h1];cases place p.1 with
  |none=>rfl|some q=>simp only [h2]
def afg (r r':Tr AV):OC ->Prop
 | .bad=>True| .pure f=>∀P,f P r=f P r'| .load f=>∀P h,f P r h=f P r' h| .alloc f=>∀P,f P r=f P r'| .lE f=>∀P h,f P r h=f P r' h
theorem BE {r r':Tr AV} (o:Option Operand) (h:∀x,o=some x ->ev x r=ev x r'):o.map (ev · r)=o.map (ev · r'):=by
 cases o with
 |none=>rfl|some x=>simp [h x rfl]
theorem vV {r r':Tr AV} (o:Op) (h:∀x∈o.operands.toList,ev x r=ev x r'):afg r r' (cls o):=by
 unfold cls;split
 .rename_i x;intro P;simp only [LJ,h x (by simp [Op.operands])]
 .rename_i x;intro P;simp only [LJ,h x (by simp [Op.operands])]
 .rename_i c x y;intro P;simp only [yh,h c (by simp [Op.operands]),h x (by simp [Op.operands]),h y (by simp [Op.operands])]
 .intro P;rfl
 .rename_i t x;intro P;simp only [acm,h x (by simp [Op.operands])]
 .rename_i t ps;intro P;simp only [CN,qw (r:=r) (r':=r') _ _ ps.toList _ (λp hp=>h p.2 (by simp only [Op.operands,List.mem_map];exact⟨p,hp,rfl⟩))]
 .rename_i t n ps;intro P;simp only [mY,qw (r:=r) (r':=r') _ _ ps.toList _ (λp hp=>h p.2 (by simp only [Op.operands,List.mem_map];exact⟨p,hp,rfl⟩))]
 .rename_i t x;intro P hp;simp only [su,h x (by simp [Op.operands])]
 .rename_i t x y;intro P hp;simp only [sY,h x (by simp [Op.operands]),h y (by simp [Op.operands])]
 .rename_i x;intro P;simp only [ru,h x (by simp [Op.operands])]
 .rename_i op t x y u;intro P;simp only [Rt,h x (by simp [Op.operands]),h y (by simp [Op.operands])]
 .rename_i op t x;intro P;simp only [xUn,h x (by simp [Op.operands])]
 .rename_i a b x;intro P hp;simp only [gp,h x (by simp [Op.operands])]
 .rename_i t x;intro P;simp only [jH,h x (by simp [Op.operands])]
 .rename_i f a c;intro P;simp only [rv,oj (r:=r) (r':=r') a.toList (λx hx=>h x (by simp [Op.operands]at hx ⊢;exact .inl hx)),oj (r:=r) (r':=r') c.toList (λx hx=>h x (by simp [Op.operands]at hx ⊢;exact .inr hx))]
 .rename_i t x y;intro P;simp only [jj,h x (by simp [Op.operands]),h y (by simp [Op.operands])]
 .rename_i t x lo hi mx;intro P hp;have e1:=h x (by simp [Op.operands]);have e2:=BE (r:=r) (r':=r') lo (λy hy=>h y (by subst hy;simp [Op.operands]));have e3:=BE (r:=r) (r':=r') hi (λy hy=>h y (by subst hy;simp [Op.operands]));cases mx with
  |none=>simp only [fq,ky,e1,e2,e3]|some y=>
   have e4:=h y (by simp [Op.operands]);simp only [fq,ky,e1,e2,e3,e4]
 .rename_i t x f;intro P;simp only [oS,h x (by simp [Op.operands])]
 .rename_i t x f;intro P;simp only [CO,h x (by simp [Op.operands])]
 .rename_i t x;intro P;simp only [uu,h x (by simp [Op.operands])]
 .rename_i t x y;intro P;simp only [fX,h x (by simp [Op.operands]),h y (by simp [Op.operands])]
 .rename_i t x y;intro P;simp only [sZ,h x (by simp [Op.operands]),h y (by simp [Op.operands])]
 .rename_i x i;intro P;simp only [ur,h x (by simp [Op.operands])]
 .rename_i c;obtain⟨cl,aZs,ts⟩:=c;unfold LO;cases cl with
  |value f=>
   intro P hp;simp only [h f (by simp [Op.operands,Call.operands]),oj (r:=r) (r':=r') aZs.toList (λx hx=>h x (by simp [Op.operands,Call.operands]at hx ⊢;exact .inr hx))]
  |invoke _ _=>trivial|builtin b=>
   have e:=oj (r:=r) (r':=r') aZs.toList (λx hx=>h x (by simp [Op.operands,Call.operands]at hx ⊢;exact hx));simp only;unfold ux;cases b<;>first
    |trivial
    |(intro P hp;simp only [e];done)
    |(intro P;simp only [e];done)
 .rename_i t m k ok;intro P hp;simp only [fZ,h m (by simp [Op.operands]),h k (by simp [Op.operands])]
 .rename_i t m k x;intro P hp;simp only [fu,h m (by simp [Op.operands]),h k (by simp [Op.operands]),h x (by simp [Op.operands])]
 .rename_i t m k x;intro P hp;simp only [fu,h m (by simp [Op.operands]),h k (by simp [Op.operands]),h x (by simp [Op.operands])]
 .rename_i t m k;intro P hp;simp only [ry,h m (by simp [Op.operands]),h k (by simp [Op.operands])]
 .rename_i t m k x;intro P hp;simp only [mZ,h m (by simp [Op.operands]),h k (by simp [Op.operands]),h x (by simp [Op.operands])]
 .rename_i t n;intro P hp;cases n with
  |none=>rfl|some x=>simp only [uw,h x (by simp [Op.operands])]
 .rename_i t x;intro P hp;simp only [CU,h x (by simp [Op.operands])]
 .rename_i x b;intro P hp;simp only [LM,h x (by simp [Op.operands])]
 .rename_i x;intro P hp;simp only [oU,h x (by simp [Op.operands])]
 .trivial
theorem Pf {r r':Tr AV} (o:Op) (h:∀x∈o.operands.toList,ev x r=ev x r') (P:Program) (hp:Heap):pY o P r hp=pY o P r' hp:=by
 have hl:=vV o h;unfold pY;cases hc:cls o with
 |bad=>rfl|pure f=>rw [hc]at hl;simp only [show f P r=f P r' from hl P]|load f=>rw [hc]at hl;simp only [show f P r hp=f P r' hp from hl P hp]|alloc f=>rw [hc]at hl;simp only [show f P r=f P r' from hl P]|lE f=>rw [hc]at hl;exact hl P hp
theorem Me {r r':Tr AV} (x:Operand) (h:∀t,x= .tmp t ->r.get (pathOf t)=r'.get (pathOf t)):ev x r=ev x r':=by
 cases x with
 |tmp t=>show gv _=gv _;rw [h t rfl]|_=>rfl
theorem pb (m t:Nat):IH m t=true↔m.testBit t=true:=by
 unfold IH;rw [Nat.testBit_eq_decide_div_mod_eq];rw [show Nat.land (Nat.shiftRight m t) 1=(m>>>t) &&&1 from rfl,Nat.and_one_is_mod,Nat.shiftRight_eq_div_pow];rw [Nat.beq_eq];simp
theorem uT (t s:Nat):(bit t).testBit s=decide (t=s):=by
 show(1<<<t).testBit s=_;rw [Nat.one_shiftLeft,Nat.testBit_two_pow]
theorem yD (a b s:Nat):(Nat.lor a b).testBit s=(a.testBit s||b.testBit s):=Nat.testBit_or a b s
theorem pc {a b:Nat} (h:Nat.beq (Nat.land a b) 0=true) (s:Nat):¬(a.testBit s=true/\b.testBit s=true):=by
 rintro ⟨h1,h2⟩;have h0:a &&&b=0:=Nat.eq_of_beq_eq_true h;have:=Nat.testBit_and a b s;rw [h0,h1,h2]at this;simp at this
end
section
variable [aT]
def EC (ops:Array Oper) (D:Nat ->Prop):Prop:=∀i o,D i ->ops[i]?=some o ->∀e∈o.after.toList,Region.binds .any e=true ->D e.on
theorem qx (ms:Tr Nat) (j:Nat):∀(es:List Edge),(vN ms es).testBit j=true ->∃e∈es,Region.binds .any e=true/\(j=e.on\/pre ms j e.on=true)
 |[],h=>by simp [vN]at h
 |e::es,h=>by
  change (Bool.casesOn (motive:=λ_=>Nat) (Region.binds .any e) (vN ms es) (Nat.lor (Nat.lor (bit e.on) ((ms.get (pathOf e.on)).getD 0)) (vN ms es))).testBit j=true at h;cases hb:Region.binds .any e with
  |false=>
   rw [hb]at h;obtain⟨e',h1,h2⟩:=qx ms j es h;exact⟨e',by simp [h1],h2⟩
  |true=>
   rw [hb]at h;simp only [yD,Bool.or_eq_true]at h;rcases h with (h|h)|h
   .rw [uT]at h;exact⟨e,by simp,hb,.inl (of_decide_eq_true h).symm⟩
   .exact⟨e,by simp,hb,.inr ((pb _ _).2 h)⟩
   .obtain⟨e',h1,h2⟩:=qx ms j es h;exact⟨e',by simp [h1],h2⟩
def MS (ops:Array Oper) (D:Nat ->Prop) (ms:Tr Nat):Prop:=∀k o,ops[k]?=some o ->(∀e∈o.after.toList,Region.binds .any e=true ->D e.on) ->∀j,pre ms j k=true ->D j
theorem yE {ops:Array Oper} {D:Nat ->Prop} (hD:EC ops D):∀(l:List Oper) (i:Nat) (ms:Tr Nat),(∀(n:Nat) o,l[n]?=some o ->ops[i+n]?=some o) ->MS ops D ms ->(∀k,ms.get (pathOf k)≠none ->k<i/\k<ops.size) ->MS ops D (II l i ms)
 |[],i,ms,_,h,_=>h|o::l,i,ms,hl,h,hk=>by
  have ho:ops[i]?=some o:=by simpa using hl 0 o rfl
  have hi:i<ops.size:=(Array.getElem?_eq_some_iff.1 ho).1;show MS ops D (II l (Nat.succ i) (ms.set (vN ms o.after.toList) (pathOf i)));refine yE hD l (i+1) _ (λn o' hn=>by have:=hl (n+1) o' (by simpa using hn);rwa [show i+(n+1)=i+1+n by omega]at this) ?_ ?_
  .intro k o' ho' he j hj;unfold pre at hj;rw [Tr.bE]at hj;by_cases hki:k=i
   .subst hki;rw [if_pos rfl]at hj;rw [ho]at ho';cases ho';have hj:=(pb _ _).1 hj;obtain⟨e,h1,h2,h3⟩:=qx ms j _ hj;have hDe:=he e h1 h2;rcases h3 with rfl|h3
    .exact hDe
    .have dD:ms.get (pathOf e.on)≠none:=by
      intro hn;unfold pre at h3;rw [hn]at h3;have:=(pb _ _).1 h3;simp at this
     obtain⟨_,cR⟩:=hk _ dD;exact h e.on (ops[e.on]) (Array.getElem?_eq_getElem cR) (hD e.on _ hDe (Array.getElem?_eq_getElem cR)) j h3
   .rw [if_neg (λe=>hki (dJ e))]at hj;exact h k o' ho' he j hj
  .intro k vJ;rw [Tr.bE]at vJ;by_cases hki:k=i
   .subst hki;exact⟨by omega,hi⟩
   .rw [if_neg (λe=>hki (dJ e))]at vJ;have:=hk k vJ;exact⟨by omega,this.2⟩
theorem FP {ops:Array Oper} {D:Nat ->Prop} (hD:EC ops D):MS ops D (II ops.toList 0 .leaf):=
 yE hD ops.toList 0 .leaf (λn o h=>by simpa using h) (λk o _ _ j hj=>by
  unfold pre at hj;have:=(pb _ _).1 hj;simp [Tr.Rl]at this) (λk h=>absurd rfl h)
structure Good (ops:Array Oper) (ms:Tr Nat) (pl:List PI):Prop where
 at_:∀x∈pl,ops[x.i]?=some x.o/\x.lE=uz x.o
 acy:∀x∈pl,∀p∈x.gC,ops[p.1]?=some p.2
 none_:∀x∈pl,x.lE=false ->x.gC=[]
 pair:∀pr y suf,pl=pr++y::suf ->(∀x∈pr,fi ops ms x y=true)/\∀p∈y.gC,IJ ops ms pr p=true
 all:∀i,i<ops.size ->∃x∈pl,x.i=i
 self:∀x∈pl,pre ms x.i x.i=false
 aif:∀i o,ops[i]?=some o ->∀e∈o.after.toList,Region.binds .any e=true ->pre ms e.on i=true/\e.on<ops.size
theorem yF {ops:Array Oper} {ms:Tr Nat}:∀(l acc:List PI),OV ops ms acc l=true ->∀pr y suf,l=pr++y::suf ->(∀x,x∈acc\/x∈pr ->fi ops ms x y=true)/\∀p∈y.gC,∀x,x∈acc\/x∈pr ->(Nat.beq (Nat.land (wN x.o) (Bm ops p.2)) 0||pre ms x.i p.1)=true
 |[],acc,h,pr,y,suf,e=>absurd e (by simp)|z::l,acc,h,pr,y,suf,e=>by
  unfold OV at h;simp only [Bool.and_eq_true]at h;obtain⟨⟨⟨h1,h2⟩,_⟩,h3⟩:=h;cases pr with
  |nil=>
   simp only [List.nil_append,List.cons.injEq]at e;obtain⟨rfl,rfl⟩:=e;refine⟨λx hx=>?_,λp hp x hx=>?_⟩
   .rcases hx with hx|hx
    .exact List.all_eq_true.1 h1 x hx
    .exact absurd hx (by simp)
   .rcases hx with hx|hx
    .exact List.all_eq_true.1 (List.all_eq_true.1 h2 p hp) x hx
    .exact absurd hx (by simp)
  |cons u pr=>
   simp only [List.cons_append,List.cons.injEq]at e;obtain⟨rfl,rfl⟩:=e;obtain⟨g1,g2⟩:=yF _ (z::acc) h3 pr y suf rfl;have key:∀x,x∈acc\/x∈z::pr ->x∈z::acc\/x∈pr:=by
    intro x hx;rcases hx with hx|hx
    .exact .inl (by simp [hx])
    .rcases List.mem_cons.1 hx with e|e
     .subst e;exact .inl (by simp)
     .exact .inr e
   exact⟨λx hx=>g1 x (key x hx),λp hp x hx=>g2 p hp x (key x hx)⟩
theorem BF {ops:Array Oper} {ms:Tr Nat}:∀(l acc:List PI),OV ops ms acc l=true ->∀x∈l,pre ms x.i x.i=false
 |[],acc,h,x,hx=>absurd hx (by simp)|z::l,acc,h,x,hx=>by
  unfold OV at h;simp only [Bool.and_eq_true,Bool.not_eq_true']at h;obtain⟨⟨⟨h1,h2⟩,h4⟩,h3⟩:=h;rcases List.mem_cons.1 hx with e|e
  .subst e;exact h4
  .exact BF l _ h3 x e
theorem vW {ms:Tr Nat} {done:Nat} {b:Bool}:∀{l:List (Nat×Oper)} {q:(Nat×Oper)×List (Nat×Oper)},wO ms done b l=some q ->q.1∈l/\∀x∈q.2,x∈l
 |[],q,h=>by cases h
 |x::t,q,h=>by
  unfold wO at h;split at h
  .cases h;exact⟨by simp,λy hy=>by simp [hy]⟩
  .cases hp:wO ms done b t with
   |none=>rw [hp]at h;cases h|some q'=>
    rw [hp]at h;cases h;obtain⟨h1,h2⟩:=vW hp;refine⟨by simp [h1],λy hy=>?_⟩;rcases List.mem_cons.1 hy with e|e
    .simp [e]
    .simp [h2 y e]
theorem yG {ms:Tr Nat} {ops:Array Oper}:∀(n done:Nat) (rem:List (Nat×Oper)) (acc:List PI),
  (∀p∈rem,ops[p.1]?=some p.2) ->(∀x∈acc,ops[x.i]?=some x.o/\x.lE=uz x.o/\(∀p∈x.gC,ops[p.1]?=some p.2)/\(x.lE=false ->x.gC=[])) ->
  ∀x∈yk ms n done rem acc,ops[x.i]?=some x.o/\x.lE=uz x.o/\(∀p∈x.gC,ops[p.1]?=some p.2)/\(x.lE=false ->x.gC=[])
 |0,done,rem,acc,hr,ha,x,hx=>ha x (by unfold yk at hx;simpa using hx)|n+1,done,rem,acc,hr,ha,x,hx=>by
  unfold yk at hx;have pk:∀q,(match wO ms done false rem with|some q=>some q|none=>wO ms done true rem)=some q ->q.1∈rem/\∀x∈q.2,x∈rem:=by
   intro q hq;split at hq
   .rename_i q' iB;cases hq;exact vW iB
   .exact vW hq
  split at hx
  .exact ha x (by simpa using hx)
  .rename_i y rest hq;obtain⟨h1,h2⟩:=pk _ hq;refine yG n _ rest _ (λp hp=>hr p (h2 p hp)) ?_ x hx;intro z hz;rcases List.mem_cons.1 hz with e|e
   .subst e;refine⟨hr _ h1,rfl,?_,?_⟩
    .intro p hp;simp only at hp;split at hp
     .unfold Rx at hp;rw [List.mem_map]at hp;obtain⟨u,hu,rfl⟩:=hp;exact(ha u (List.mem_filter.1 hu).1).1
     .exact absurd hp (by simp)
    .intro he;simp only at he ⊢;rw [he];rfl
   .exact ha z e
theorem FQ {ops:Array Oper} {pl:List PI} (h:td ops=some pl):Good ops (II ops.toList 0 .leaf) pl:=by
 unfold td at h;simp only at h;split at h
 .rename_i hc;cases h;simp only [Bool.and_eq_true]at hc;obtain⟨⟨h1,h2⟩,h3⟩:=hc;have hm:=yG (ms:=II ops.toList 0 .leaf) (ops:=ops) ops.size 0 (ops.toList.zipIdx.map λx=>(x.2,x.1)) [] (by
   intro p hp;rw [List.mem_map]at hp;obtain⟨q,hq,rfl⟩:=hp;have:=List.mem_zipIdx hq;obtain⟨g1,g2,g3⟩:=this;simp at g2 g3;simp [g3,Array.getElem?_eq_getElem g2]) (by simp)
  refine⟨λx hx=>⟨(hm x hx).1,(hm x hx).2.1⟩,λx hx=>(hm x hx).2.2.1,λx hx=>(hm x hx).2.2.2,?_,?_,BF _ [] h1,?_⟩
  .intro pr y suf e;obtain⟨g1,g2⟩:=yF _ [] h1 pr y suf e;exact⟨λx hx=>g1 x (.inr hx),λp hp=>List.all_eq_true.2 (λx hx=>g2 p hp x (.inr hx))⟩
  .intro i hi;have:=List.all_eq_true.1 h2 i (List.mem_range.2 hi);rw [List.any_eq_true]at this;obtain⟨x,hx,e⟩:=this;exact⟨x,hx,Nat.eq_of_beq_eq_true e⟩
  .intro i o ho e he hb;unfold Ry at h3;have hi:i<ops.size:=(Array.getElem?_eq_some_iff.1 ho).1;have:=List.all_eq_true.1 h3 i (List.mem_range.2 hi);rw [ho]at this;have:=List.all_eq_true.1 this e he;rw [hb]at this;simp only [Bool.not_true,Bool.false_or,Bool.and_eq_true]at this;exact⟨this.1,bz.1 this.2⟩
 .cases h
end
section
variable [aT]
def Sb (x:Operand):Option Nat:=match x with| .tmp t=>some t|_=>none
def Dx (ops:Array Oper) (o:Oper):List Nat:=match o.guard with|some g=>(uy ops g.1).toList|none=>[]
def lF (ops:Array Oper) (o:Oper):List Nat:=o.op.operands.toList.filterMap Sb++Dx ops o
theorem tz {ops:Array Oper} {o:Oper} {s:Nat} (h:s∈lF ops o):(Bm ops o).testBit s=true:=by
 unfold Bm;rw [yD,Bool.or_eq_true];rcases List.mem_append.1 h with h|h
 .left;generalize o.op.operands.toList=l at h ⊢;induction l with
  |nil=>simp at h|cons x l ih=>
   rw [List.foldr_cons,yD,Bool.or_eq_true];rw [List.filterMap_cons]at h;cases hx:Sb x with
   |none=>rw [hx]at h;exact .inr (ih h)|some t=>
    rw [hx]at h;rcases List.mem_cons.1 h with e|e
    .left;subst e;cases x<;>simp only [Sb]at hx<;>cases hx;show(bit s).testBit s=true;rw [uT];simp
    .exact .inr (ih e)
 .right;unfold Dx at h;split at h
  .rename_i g hg;cases hs:uy ops g.1 with
   |none=>rw [hs]at h;simp at h|some t=>
    rw [hs]at h;simp at h;subst h;rw [hg];simp only;rw [hs];show(bit s).testBit s=true;rw [uT];simp
  .simp at h
theorem qy {o:Oper} {s:Nat} (h:o.dst=some s):(wN o).testBit s=true:=by
 unfold wN;rw [h];show(bit s).testBit s=true;rw [uT];simp
theorem abb (r:Tr AV):∀(S:List Nat),∃q:Tr AV,(∀s∈S,q.get (pathOf s)=r.get (pathOf s))/\∀s,s ∉ S ->q.get (pathOf s)=none
 |[]=>⟨.leaf,by simp,λ_ _=>rfl⟩
 |t::S=>by
  obtain⟨q,h1,h2⟩:=abb r S;cases hr:r.get (pathOf t)with
  |none=>
   refine⟨q.del (pathOf t),λs hs=>?_,λs hs=>?_⟩
   .rw [Tr.rn];by_cases e:s=t
    .subst e;rw [if_pos rfl,hr]
    .rw [if_neg (λe'=>e (dJ e'))];exact h1 s ((List.mem_cons.1 hs).resolve_left e)
   .rw [Tr.rn];split
    .rfl
    .exact h2 s (λe=>hs (by simp [e]))
  |some v=>
   refine⟨q.set v (pathOf t),λs hs=>?_,λs hs=>?_⟩
   .rw [Tr.bE];by_cases e:s=t
    .subst e;rw [if_pos rfl,hr]
    .rw [if_neg (λe'=>e (dJ e'))];exact h1 s ((List.mem_cons.1 hs).resolve_left e)
   .rw [Tr.bE,if_neg (λe'=>hs (by rw [dJ e'];simp))];exact h2 s (λe=>hs (by simp [e]))
theorem Sc {ops:Array Oper} {μ:Mu} {o:Oper} {rp:Tr AV} {tmps:Array Value} (h:∀s∈lF ops o,∀v,rp.get (pathOf s)=some v ->∃cv,tmps[s]?=some cv/\dC μ v cv):
  ∃q,RR μ q tmps/\∀x∈o.op.operands.toList,ev x q=ev x rp:=by
 obtain⟨q,h1,h2⟩:=abb rp (lF ops o);refine⟨q,λs v hv=>?_,λx hx=>Me x (λt ht=>h1 t ?_)⟩
 .by_cases hs:s∈lF ops o
  .rw [h1 s hs]at hv;exact h s hs v hv
  .rw [h2 s hs]at hv;cases hv
 .exact List.mem_append.2 (.inl (List.mem_filterMap.2 ⟨x,hx,by rw [ht];rfl⟩))
theorem yH {ops:Array Oper} {μ:Mu} {o:Oper} {rp:Tr AV} {tmps:Array Value} (h:∀s∈lF ops o,∀v,rp.get (pathOf s)=some v ->∃cv,tmps[s]?=some cv/\dC μ v cv):
  (cX ops o rp= .yes ->Region.wanted o (yielded ops tmps)=true)/\(cX ops o rp= .no ->Region.wanted o (yielded ops tmps)=false):=by
 refine sG (μ:=μ) (λg s v hg hs hv=>h s ?_ v hv);refine List.mem_append.2 (.inr ?_);unfold Dx;rw [hg];simp only;rw [hs];simp
theorem Dy {ops:Array Oper} {o:Oper} {r r':Tr AV} (h:∀s∈lF ops o,r.get (pathOf s)=r'.get (pathOf s)):cX ops o r=cX ops o r':=by
 unfold cX;cases hg:o.guard with
 |none=>rfl|some g=>
  simp only;cases hs:uy ops g.1 with
  |none=>rfl|some s=>
   simp only;rw [h s (by
    refine List.mem_append.2 (.inr ?_);unfold Dx;rw [hg];simp only;rw [hs];simp)]
theorem FT {ops:Array Oper} {o:Oper} {r r':Tr AV} (h:∀s∈lF ops o,r.get (pathOf s)=r'.get (pathOf s)):∀x∈o.op.operands.toList,ev x r=ev x r':=
 λx hx=>Me x (λt ht=>h t (List.mem_append.2 (.inl (List.mem_filterMap.2 ⟨x,hx,by rw [ht];rfl⟩))))
theorem Dz {h:Heap} {id n:Pos} {o:AO} {n':Pos} {x:Tr AV×Nat×Bool} (hx:je h id=some x) (dD:id≠n):je ⟨h.t.set o n,n'⟩ id=some x:=by
 unfold je at hx ⊢;rw [show(Heap.mk (Tr.set o h.t n) n').t.get id=h.t.get id by show(Tr.set o h.t n).get id=_;rw [Tr.bE,if_neg dD]];exact hx
theorem mA {h:Heap} {id n:Pos} {o x:AO} (hx:h.t.get id=some x) (hf:∀id o,h.t.get id=some o ->id≠n):(Tr.set o h.t n).get id=some x:=by
 rw [Tr.bE,if_neg (hf id x hx)];exact hx
theorem wW {h:Heap} {id n n':Pos} {o:AO} {off k:Nat} {l:AV} (hc:gW h id off k=some l) (hf:∀id o,h.t.get id=some o ->id≠n):gW ⟨h.t.set o n,n'⟩ id off k=some l:=by
 unfold gW at hc ⊢;split at hc
 .rename_i t m ro hg;simp only [mA hg hf];exact hc
 .rename_i g ro hg;simp only [mA hg hf];exact hc
 .cases hc
def mB (f:Program ->Tr AV ->Heap ->Option AV):Prop:=
 ∀(P:Program) (r:Tr AV) (h:Heap) (v:AV) (n n':Pos) (o:AO),(∀id o,h.t.get id=some o ->id≠n) ->f P r h=some v ->f P r ⟨h.t.set o n,n'⟩=some v
theorem Jv {h:Heap} {id n:Pos} {x:Tr AV×Nat×Bool} (hx:je h id=some x) (hf:∀id o,h.t.get id=some o ->id≠n):id≠n:=
 hf id _ (HR.je (μ:=⟨λ_=>none,λ_=>none⟩) (B0:=0) (w:=default) hx)
theorem Pg (t:TypeId) (x:Operand):mB (su t x):=by
 intro P r h v n n' o hf hv;unfold su wL at hv ⊢;split at hv
 .exact hv
 .rename_i id off e;split at hv
  .rename_i c m ro hg;simp only [mA hg hf];exact hv
  .rename_i g ro hg;simp only [mA hg hf];exact hv
  .cases hv
 .cases hv
theorem DA (a b:TypeId) (x:Operand):mB (gp a b x):=by
 intro P r h v n n' o hf hv;unfold gp at hv ⊢;split at hv
 .rename_i id off len cap sz e;split at hv
  .split at hv
   .cases hc:gW h id off len with
    |none=>simp only [hc]at hv;cases hv|some y=>
     simp only [hc]at hv;simp only [*,wW hc hf]
   .cases hv
  .cases hv
 .rename_i id len sz e;split at hv
  .split at hv
   .cases hc:gW h id 0 len with
    |none=>simp only [hc]at hv;cases hv|some y=>
     simp only [hc]at hv;simp only [*,wW hc hf]
   .cases hv
  .cases hv
 .exact hv
 .rename_i dD;exact hv
theorem Jw (t:TypeId) (x:Operand) (lo hi mx:Option Operand):mB (fq t x lo hi mx):=by
 intro P r h v n n' o hf hv;unfold fq at hv ⊢;split at hv
 .rename_i m e id off hu ex;cases mx with
  |some _=>cases hv|none=>
   simp only at hv ⊢;cases hz:fN P e with
   |none=>simp only [hz]at hv;cases hv|some z=>
    simp only [hz]at hv;cases hc:je h id with
    |none=>simp only [hc]at hv;cases hv|some q=>
     simp only [hc]at hv;simp only [hu,ex,hz,Dz hc (Jv hc hf)];exact hv
 .rename_i dD;exact hv
theorem Ph {h:Heap} {n n':Pos} {o:AO} {m:AV} {l:List (AV×AV)} (hc:vM h m=some l) (hf:∀id o,h.t.get id=some o ->id≠n):vM ⟨h.t.set o n,n'⟩ m=some l:=by
 unfold vM at hc ⊢;split at hc
 .exact hc
 .split at hc
  .rename_i g hg;simp only [mA hg hf];exact hc
  .cases hc
 .cases hc
theorem FU (t:TypeId) (m k:Operand) (ok:Bool):mB (fZ t m k ok):=by
 intro P r h v n n' o hf hv;unfold fZ at hv ⊢;split at hv
 .rename_i kt et hu;simp only [hu];cases hk:sf P 40 kt (ev k r)with
  |false=>rw [hk]at hv;cases hv|true=>
   rw [hk]at hv;simp only at hv ⊢;cases hl:vM h (ev m r)with
   |none=>rw [hl]at hv;cases hv|some l=>
    rw [hl]at hv;rw [Ph hl hf];exact hv
 .cases hv
theorem Jx (x:Operand):mB (oU x):=by
 intro P r h v n n' o hf hv;unfold oU at hv ⊢;split at hv
 .rename_i id e;split at hv
  .rename_i m k j seen hg;split at hv
   .rename_i l hgm;simp only [mA hg hf,mA hgm hf];exact hv
   .cases hv
  .cases hv
 .cases hv
theorem Sd (o:Op):∀f,cls o= .load f ->mB f:=by
 intro f h;unfold cls at h;split at h<;>first
  |(cases h;done)
  |(cases h;exact Pg _ _)
  |(cases h;exact DA _ _ _)
  |(cases h;exact Jw _ _ _ _ _)
  |(cases h;exact FU _ _ _ _)
  |(cases h;exact Jx _)
  |skip
 rename_i c;obtain⟨cl,aZs,ts⟩:=c;unfold LO at h;cases cl with
 |value f=>cases h|invoke _ _=>cases h|builtin b=>
  simp only at h;unfold ux at h;cases b<;>cases h
theorem HR.free {μ:Mu} {B0:Nat} {h:Heap} {w:World} (hr:HR μ B0 h w) (o:AO):HR μ B0 ⟨h.t.set o h.n,h.n.succ⟩ w:=by
 have hn:μ h.n=none:=by
  cases e:μ h.n with
  |none=>rfl|some C=>exact absurd (hr.fresh _ _ e) (by omega)
 have hs:h.n.succ.toNat=h.n.toNat+1:=Pos.cV _;have key:∀id B p,μ id=some B ->(Tr.set o h.t h.n).get id=some p ->h.t.get id=some p:=by
  intro id B p e1 e2;rw [Tr.bE]at e2;rwa [if_neg (λe=>by subst e;rw [hn]at e1;cases e1)]at e2
 refine⟨λid B e=>?_,λid p e=>?_,λid B p e1 e2=>hr.obj id B p e1 (key id B p e1 e2),λi j A C p q pQ e1 e2 e3 e4=>hr.sep i j A C p q pQ e1 e2 (key _ _ _ e1 e3) (key _ _ _ e2 e4),
  λid B p e1 e2 e3=>hr.own id B p e1 (key _ _ _ e1 e2) e3,hr.dO,hr.size,hr.Ar,λid B p e1 e2 e3=>hr.apart id B p e1 (key _ _ _ e1 e2) e3,hr.tab⟩
 .have:=hr.fresh id B e;show id.toNat<h.n.succ.toNat;omega
 .have e:(Tr.set o h.t h.n).get id=some p:=e;rw [Tr.bE]at e;show id.toNat<h.n.succ.toNat;by_cases hi:id=h.n
  .rw [hi];omega
  .rw [if_neg hi]at e;have:=hr.live id p e;omega
theorem HR.bind {μ:Mu} {B0:Nat} {h:Heap} {w:World} (hr:HR μ B0 h w) {id:Pos} (hid:μ id=none) (cR:id.toNat<h.n.toNat) {l:AV} {n:Nat} {k:MK} {o:AO} {arr:Array Value} {xs:List Value} (hl:cJ μ l xs) (hm:uq l n k=some o) (hn:arr.size=n)
  (RY:∀(k:Nat) (v:Value),xs[k]?=some v ->arr[k]?=some v) (el:TypeId) (hg:h.t.get id=some o):HR (μ.put id ⟨w.heap.size,0,n⟩) B0 h (w.alloc (.cells arr el)):=by
 refine hr.new id hid o ⟨w.heap.size,0,n⟩ _ h.n (Nat.le_refl _) cR rfl h.t (λq p e=>?_) ?_
 .by_cases hq:q=id
  .subst hq;rw [hg]at e;cases e;exact .inl ⟨rfl,rfl⟩
  .exact .inr ⟨hq,e⟩
 .have:=FH (heap:=w.heap.push (.cells arr el)) (b:=w.heap.size) hm (hl.mono (Mu.oY hid ⟨w.heap.size,0,n⟩)) arr el RY (by omega) (by simp);rw [hn]at this;exact this
theorem yI {P:Program} {b:Frame} {a:Act} {o:Oper} {ops:Array Oper} {i:Nat} {rest:List Nat} {k:List Item} {cs:List Frame} {w w':World} {cv:Value} (ho:ops[i]?=some o) (hw:Region.wanted o (yielded ops a.tmps)=true) (kO:∀c,o.op≠.defer c)
  (bu:(execOp a.eval o).run P w= .ok (.value cv) w'):Steps P (lone (b.atR a (.inRegion ops (i::rest)::k)) cs w) (lone (b.atR (a.put o.dst cv) (.inRegion ops rest::k)) cs w'):=by
 have hg:=stepGR_op (P:=P) (b:=b) (k:=k) (cs:=cs) (w:=w) (rest:=rest) ho hw;rw [Oper.semAt_eq _ _ _ kO]at hg;have mT:(b.atR a (.inRegion ops (i::rest)::k)).finish cv=b.atR (a.put o.dst cv) (.inRegion ops rest::k):=by
  rw [Frame.finish_atR,ho];rfl
 refine .one (step_lone_go ?_);rw [hg,<-mT];simp [stepG.apply,bu]
theorem vX {P:Program} {b:Frame} {a:Act} {o:Oper} {ops:Array Oper} {i:Nat} {rest:List Nat} {k:List Item} {cs:List Frame} {w:World} (ho:ops[i]?=some o) (hw:Region.wanted o (yielded ops a.tmps)=false):
  Steps P (lone (b.atR a (.inRegion ops (i::rest)::k)) cs w) (lone (b.atR (a.put o.dst undef) (.inRegion ops rest::k)) cs w):=by
 have:=stepR_op_skip (P:=P) (b:=b) (a:=a) (k:=k) (cs:=cs) (w:=w) (ops:=ops) (i:=i) (rest:=rest) (by simp [ho,hw]);rw [ho]at this;exact .one this
end
section
variable [aT]
section aih
variable {ops:Array Oper} {ms:Tr Nat} {pl:List PI} (G:Good ops ms pl)
include G
theorem Good.before {pr suf:List PI} {y x:PI} (e:pl=pr++y::suf) (hx:x∈pr):fi ops ms x y=true:=(G.pair pr y suf e).1 x hx
theorem Good.any {u z:PI} (hu:u∈pl) (hz:z∈pl) (dD:u≠z):fi ops ms u z=true\/fi ops ms z u=true:=by
 obtain⟨p1,p2,e⟩:=List.append_of_mem hz;rw [e]at hu;rcases List.mem_append.1 hu with h|h
 .exact .inl (G.before e h)
 .rcases List.mem_cons.1 h with h|h
  .exact absurd h dD
  .obtain⟨q1,q2,e2⟩:=List.append_of_mem h;right;refine G.before (pr:=p1++z::q1) (suf:=q2) (by rw [e,e2];simp) (by simp)
omit G in
theorem lZ {x y:PI} (h:fi ops ms x y=true):x.i≠y.i:=by
 unfold fi at h;simp only [Bool.and_eq_true,Bool.not_eq_true']at h;intro e;rw [e,Nat.beq_refl]at h;exact absurd h.1.1.1 (by simp)
omit G in
theorem tC {x y:PI} (h:fi ops ms x y=true):pre ms y.i x.i=false:=by
 unfold fi at h;simp only [Bool.and_eq_true,Bool.not_eq_true']at h;exact h.1.1.2
omit G in
theorem rD {x y:PI} (h:fi ops ms x y=true) {s:Nat} (h1:x.o.dst=some s) (h2:y.o.dst=some s):False:=by
 unfold fi at h;simp only [Bool.and_eq_true]at h;exact pc h.1.2 s ⟨qy h1,qy h2⟩
omit G in
theorem vY {x y:PI} (h:fi ops ms x y=true) {s:Nat} (h1:x.o.dst=some s) (h2:s∈lF ops y.o):pre ms x.i y.i=true:=by
 unfold fi at h;simp only [Bool.and_eq_true,Bool.or_eq_true]at h;rcases h.2 with h|h
 .exact h
 .exact absurd ⟨qy h1,tz h2⟩ (pc h.1.1.1 s)
omit G in
theorem Pj {x y:PI} (h:fi ops ms x y=true) {s:Nat} (h1:s∈lF ops x.o) (h2:y.o.dst=some s):pre ms x.i y.i=true:=by
 unfold fi at h;simp only [Bool.and_eq_true,Bool.or_eq_true]at h;rcases h.2 with h|h
 .exact h
 .exact absurd ⟨tz h1,qy h2⟩ (pc h.1.1.2 s)
omit G in
theorem Jy {x y:PI} (h:fi ops ms x y=true) (h1:x.lE=true):pre ms x.i y.i=true:=by
 unfold fi at h;simp only [Bool.and_eq_true,Bool.or_eq_true]at h;rcases h.2 with h|h
 .exact h
 .rw [h1]at h;exact absurd h.1.2 (by simp)
omit G in
theorem Jz {x y:PI} (h:fi ops ms x y=true) (h1:pre ms x.i y.i=false) (h2:y.lE=true) (h3:Bn x.o=true):∃p∈y.gC,p.1=x.i:=by
 unfold fi at h;simp only [Bool.and_eq_true,Bool.or_eq_true]at h;rcases h.2 with h|h
 .rw [h1]at h;cases h
 .rcases h.2 with (h|h)|h
  .rw [h2]at h;cases h
  .rw [h3]at h;cases h
  .obtain⟨p,hp,e⟩:=List.any_eq_true.1 h;exact⟨p,hp,Nat.eq_of_beq_eq_true e⟩
theorem Good.inj {u z:PI} (hu:u∈pl) (hz:z∈pl) (e:u.i=z.i):u=z:=by
 by_cases h:u=z
 .exact h
 .rcases G.any hu hz h with h|h
  .exact absurd e (lZ h)
  .exact absurd e.symm (lZ h)
theorem Good.ww {u z:PI} (hu:u∈pl) (hz:z∈pl) {s:Nat} (h1:u.o.dst=some s) (h2:z.o.dst=some s):u=z:=by
 by_cases h:u=z
 .exact h
 .rcases G.any hu hz h with h|h
  .exact(rD h h1 h2).elim
  .exact(rD h h2 h1).elim
theorem Good.wr {u z:PI} (hu:u∈pl) (hz:z∈pl) (dD:u≠z) {s:Nat} (h1:u.o.dst=some s) (h2:s∈lF ops z.o):pre ms u.i z.i=true\/pre ms z.i u.i=true:=by
 rcases G.any hu hz dD with h|h
 .exact .inl (vY h h1 h2)
 .exact .inr (Pj h h2 h1)
end aih
def dU (P:Program) (o:Oper) (rp:Tr AV) (hc:Heap) (μ:Mu) (v:AV) (j:Option Pos):Prop:=
 match cls o.op with
 | .pure f=>f P rp=some v| .load f=>f P rp hc=some v| .alloc f=>∃A t id,j=some id/\f P rp=some A/\uq A.l A.n A.k=some t/\v=A.k.av id/\hc.t.get id=some t/\μ id=none/\id.toNat<hc.n.toNat|_=>False
def Fact (P:Program) (nt:Nat) (ops:Array Oper) (ms:Tr Nat) (r0:Tr AV) (pr:List PI) (rc:Tr AV) (hc:Heap) (μ:Mu) (y:PI) (j:Option Pos):Prop:=
 ∃rp v,(∀d,y.o.dst=some d ->rc.get (pathOf d)=some v/\d<nt)/\
  (∀s∈lF ops y.o,((∃z∈pr,z.i≠y.i/\z.o.dst=some s/\pre ms z.i y.i=true) ->rp.get (pathOf s)=rc.get (pathOf s))/\((∀z∈pr,z.i≠y.i ->z.o.dst=some s ->pre ms z.i y.i=false) ->rp.get (pathOf s)=r0.get (pathOf s)))/\
  ((cX ops y.o rp= .no/\v= .aS .nil)\/(cX ops y.o rp= .yes/\dU P y.o rp hc μ v j))
structure Mid (P:Program) (B0:Nat) (cx:Cx) (ops:Array Oper) (ms:Tr Nat) (pl:List PI) (r0:Tr AV) (m:List Pos) (μ0:Mu) (h0:Heap) (w0:World) (a0:Act) (x:R)
  (D:Nat ->Prop) (a:Act) (w:World) (pr suf:List PI) (rc:Tr AV) (hc:Heap) (μ:Mu) (J:Nat ->Option Pos):Prop where
 split:pl=pr++suf
 run:lu ops suf cx rc m hc=x
 done:∀i,D i ->∃y∈pr,y.i=i
 acz:∀y∈pr,y.lE=true ->D y.i
 post:bP μ0 B0 h0 w0 μ hc w
 size:a.tmps.size=cx.nt
 Aq:a.defers=a0.defers
 wX:∀s v,rc.get (pathOf s)=some v ->(∀y∈pr,¬D y.i ->y.o.dst≠some s) ->∃cv,a.tmps[s]?=some cv/\dC μ v cv
 XF:∀y∈pr,¬D y.i ->∀s,y.o.dst=some s ->∀v,r0.get (pathOf s)=some v ->∃cv,a.tmps[s]?=some cv/\dC μ v cv
 JA:∀s,(∀y∈pr,y.o.dst≠some s) ->rc.get (pathOf s)=r0.get (pathOf s)
 fact:∀y∈pr,¬D y.i ->Fact P cx.nt ops ms r0 pr rc hc μ y (J y.i)
 jlt:∀y∈pr,∀q,J y.i=some q ->q.toNat<hc.n.toNat
 jge:∀y∈pr,∀q,J y.i=some q ->h0.n.toNat<=q.toNat
 apart:∀y∈pr,∀z∈pr,y.i≠z.i ->∀p q,J y.i=some p ->J z.i=some q ->p≠q
variable {P:Program} {B0:Nat} {cx:Cx} {ops:Array Oper} {ms:Tr Nat} {pl:List PI} {r0:Tr AV} {m:List Pos} {μ0:Mu} {h0:Heap} {w0:World} {a0:Act} {x:R}
theorem Se (G:Good ops ms pl) {D:Nat ->Prop} {a:Act} {w:World} {pr suf:List PI} {rc:Tr AV} {hc:Heap} {μ:Mu} {J:Nat ->Option Pos} (M:Mid P B0 cx ops ms pl r0 m μ0 h0 w0 a0 x D a w pr suf rc hc μ J)
  {y:PI} (hy:y∈pr) (XG:¬D y.i) (nM:∀j,pre ms j y.i=true ->D j) (uU:∀i j,D i ->pre ms j i=true ->D j) {rp:Tr AV}
  (hrp:∀s∈lF ops y.o,((∃z∈pr,z.i≠y.i/\z.o.dst=some s/\pre ms z.i y.i=true) ->rp.get (pathOf s)=rc.get (pathOf s))/\((∀z∈pr,z.i≠y.i ->z.o.dst=some s ->pre ms z.i y.i=false) ->rp.get (pathOf s)=r0.get (pathOf s))):
  ∀s∈lF ops y.o,∀v,rp.get (pathOf s)=some v ->∃cv,a.tmps[s]?=some cv/\dC μ v cv:=by
 have dF:∀z∈pr,z∈pl:=λz hz=>by rw [M.split];exact List.mem_append.2 (.inl hz)
 intro s hs v hv;obtain⟨c1,c2⟩:=hrp s hs;by_cases h1:∃z∈pr,z.i≠y.i/\z.o.dst=some s/\pre ms z.i y.i=true
 .rw [c1 h1]at hv;obtain⟨z,hz,_,iO,hzp⟩:=h1;refine M.wX s v hv (λu hu hud e=>?_);have:=G.ww (dF u hu) (dF z hz) e iO;subst this;exact hud (nM _ hzp)
 .have h2:∀z∈pr,z.i≠y.i ->z.o.dst=some s ->pre ms z.i y.i=false:=by
   intro z hz dD e;cases hp:pre ms z.i y.i with
   |false=>rfl|true=>exact absurd ⟨z,hz,dD,e,hp⟩ h1
  rw [c2 h2]at hv;by_cases h3:∃z∈pr,z.o.dst=some s
  .obtain⟨z,hz,iO⟩:=h3;have tD:¬D z.i:=by
    intro tD;by_cases QY:z=y
    .subst QY;exact XG tD
    .rcases G.wr (dF z hz) (dF y hy) QY iO hs with e|e
     .rw [h2 z hz (λe=>QY (G.inj (dF z hz) (dF y hy) e)) iO]at e;cases e
     .exact XG (uU _ _ tD e)
   exact M.XF z hz tD s iO v hv
  .have h4:∀z∈pr,z.o.dst≠some s:=λz hz e=>h3 ⟨z,hz,e⟩;rw [<-M.JA s h4]at hv;exact M.wX s v hv (λu hu _=>h4 u hu)
theorem FV (o:Oper):(uz o=false/\((∃f,cls o.op= .pure f)\/(∃f,cls o.op= .load f)\/∃f,cls o.op= .alloc f))\/uz o=true:=by
 unfold uz;cases cls o.op with
 |bad=>exact .inr rfl|lE f=>exact .inr rfl|pure f=>exact .inl ⟨rfl,.inl ⟨f,rfl⟩⟩|load f=>exact .inl ⟨rfl,.inr (.inl ⟨f,rfl⟩)⟩|alloc f=>exact .inl ⟨rfl,.inr (.inr ⟨f,rfl⟩)⟩
theorem nN {o:Op} (h:cls o≠.bad):∀c,o≠.defer c:=by
 intro c e;subst e;exact h rfl
theorem JB (hP:cx.P=P) (G:Good ops ms pl) {D:Nat ->Prop} {a:Act} {w:World} {pr suf:List PI} {rc:Tr AV} {hc:Heap} {μ:Mu} {J:Nat ->Option Pos} (M:Mid P B0 cx ops ms pl r0 m μ0 h0 w0 a0 x D a w pr suf rc hc μ J) (hH0:HR μ0 B0 h0 w0)
  {y:PI} (hy:y∈pr) (XG:¬D y.i) (nM:∀j,pre ms j y.i=true ->D j) (uU:∀i j,D i ->pre ms j i=true ->D j) {b:Frame} (rest:List Nat) (k:List Item) (cs:List Frame):
  ∃a' w' μ',Steps P (lone (b.atR a (.inRegion ops (y.i::rest)::k)) cs w) (lone (b.atR a' (.inRegion ops rest::k)) cs w')/\Mid P B0 cx ops ms pl r0 m μ0 h0 w0 a0 x (λi=>D i\/i=y.i) a' w' pr suf rc hc μ' J:=by
 have dF:∀z∈pr,z∈pl:=λz hz=>by rw [M.split];exact List.mem_append.2 (.inl hz)
 obtain⟨rp,v,f1,f2,f3⟩:=M.fact y hy XG;have Sf:=Se G M hy XG nM uU f2;obtain⟨w1,w2⟩:=yH Sf;obtain⟨Bw,afh⟩:=G.at_ y (dF y hy);have bp:=M.post.rel;have fin:∀(cv:Value) (w':World) (μ':Mu),Steps P (lone (b.atR a (.inRegion ops (y.i::rest)::k)) cs w) (lone (b.atR (a.put y.o.dst cv) (.inRegion ops rest::k)) cs w') ->dC μ' v cv ->μ.le μ' ->bP μ0 B0 h0 w0 μ' hc w' ->
   (∀z∈pr,¬D z.i ->z.i≠y.i ->∀q,J z.i=some q ->μ q=none ->μ' q=none) ->
   ∃a' w' μ',Steps P (lone (b.atR a (.inRegion ops (y.i::rest)::k)) cs w) (lone (b.atR a' (.inRegion ops rest::k)) cs w')/\Mid P B0 cx ops ms pl r0 m μ0 h0 w0 a0 x (λi=>D i\/i=y.i) a' w' pr suf rc hc μ' J:=by
  intro cv w' μ' mw hv hle hp aii;have Sg:(a.put y.o.dst cv).tmps.size=cx.nt:=by
   cases hd:y.o.dst with
   |none=>exact M.size|some d=>simp [Act.put,M.size]
  have Si:∀s,y.o.dst=some s ->(a.put y.o.dst cv).tmps[s]?=some cv:=by
   intro s hs;obtain⟨_,cR⟩:=f1 s hs;rw [hs];simp only [Act.put];exact Array.getElem?_setIfInBounds_self_of_lt (by rw [M.size];exact cR)
  have jQ:∀s,y.o.dst≠some s ->(a.put y.o.dst cv).tmps[s]?=a.tmps[s]?:=by
   intro s hs;cases hd:y.o.dst with
   |none=>rfl|some d=>
    simp only [Act.put];rw [Array.getElem?_setIfInBounds_ne (λe=>hs (by rw [hd,e]))]
  refine⟨_,w',μ',mw,⟨M.split,M.run,?_,?_,hp,Sg,?_,?_,?_,M.JA,?_,M.jlt,M.jge,M.apart⟩⟩
  .intro i hi;rcases hi with hi|rfl
   .exact M.done i hi
   .exact⟨y,hy,rfl⟩
  .exact λz hz he=> .inl (M.acz z hz he)
  .rw [show(a.put y.o.dst cv).defers=a.defers by cases y.o.dst<;>rfl];exact M.Aq
  .intro s u hu hno;by_cases hs:y.o.dst=some s
   .obtain⟨h1,_⟩:=f1 s hs;rw [h1]at hu;cases hu;exact⟨cv,Si s hs,hv⟩
   .obtain⟨cu,h1,h2⟩:=M.wX s u hu (λz hz tD=>by
     by_cases QY:z.i=y.i
     .have:=G.inj (dF z hz) (dF y hy) QY;subst this;exact hs
     .exact hno z hz (λe=>e.elim tD QY))
    exact⟨cu,by rw [jQ s hs];exact h1,h2.mono hle⟩
  .intro z hz tD s iO u hu;have DB:¬D z.i:=λe=>tD (.inl e);have QY:z≠y:=λe=>tD (.inr (by rw [e]));obtain⟨cu,h1,h2⟩:=M.XF z hz DB s iO u hu;have hs:y.o.dst≠some s:=λe=>QY (G.ww (dF z hz) (dF y hy) iO e);exact⟨cu,by rw [jQ s hs];exact h1,h2.mono hle⟩
  .intro z hz tD;have DB:¬D z.i:=λe=>tD (.inl e);have QY:z.i≠y.i:=λe=>tD (.inr e);obtain⟨rq,u,g1,g2,g3⟩:=M.fact z hz DB;refine⟨rq,u,g1,g2,g3.imp id (λg=>⟨g.1,?_⟩)⟩;have g:=g.2;unfold dU at g ⊢;cases eH:cls z.o.op with
   |pure f=>rw [eH]at g;exact g|load f=>rw [eH]at g;exact g|alloc f=>
    rw [eH]at g;obtain⟨A,t,id,e1,e2,e3,e4,e5,e6,e7⟩:=g;exact⟨A,t,id,e1,e2,e3,e4,e5,aii z hz DB QY id e1 e6,e7⟩
   |bad=>rw [eH]at g;exact g|lE f=>rw [eH]at g;exact g
 rcases f3 with ⟨hw,rfl⟩|⟨hw,hf⟩
 .exact fin undef w μ (vX Bw (w2 hw)) ⟨#[],rfl,rfl⟩ (Mu.le_refl μ) M.post (λ_ _ _ _ _ _ e=>e)
 .obtain⟨q,hq,Iu⟩:=Sc Sf;have mQ:=BD y.o;have AP:=vV (r:=q) (r':=rp) y.o.op Iu;unfold dU at hf;cases eH:cls y.o.op with
  |bad=>rw [eH]at hf;exact hf.elim|lE f=>rw [eH]at hf;exact hf.elim|pure f=>
   rw [eH]at hf mQ AP;have kO:=nN (o:=y.o.op) (by rw [eH];intro e;cases e);obtain⟨cv,h1,h2⟩:=mQ P q μ a v bp.dO hq (by rw [AP P];exact hf);exact fin cv w μ (yI Bw (w1 hw) kO (h1 w)) h2 (Mu.le_refl μ) M.post (λ_ _ _ _ _ _ e=>e)
  |load f=>
   rw [eH]at hf mQ AP;have kO:=nN (o:=y.o.op) (by rw [eH];intro e;cases e);obtain⟨cv,h1,h2⟩:=mQ P q μ B0 hc w a v bp hq (by rw [AP P hc];exact hf);exact fin cv w μ (yI Bw (w1 hw) kO h1) h2 (Mu.le_refl μ) M.post (λ_ _ _ _ _ _ e=>e)
  |alloc f=>
   rw [eH]at hf mQ AP;have kO:=nN (o:=y.o.op) (by rw [eH];intro e;cases e);obtain⟨A,t,id,e1,e2,e3,rfl,e5,e6,e7⟩:=hf;obtain⟨hk,arr,el,xs,hv,hlen,RY,bu⟩:=mQ P q μ a A t bp.dO hq (by rw [AP P];exact e2) e3;have Iq:=bp.bind e6 e7 hv e3 hlen RY el e5;have hle:μ.le (μ.put id ⟨w.heap.size,0,A.n⟩):=Mu.oY e6 _;refine fin _ _ _ (yI Bw (w1 hw) kO (bu w)) (FN hk (Nat.le_refl _) (b:=w.heap.size) (Mu.ct _ _ _)) hle ⟨?_,M.post.le,Iq,M.post.below.alloc bp.size _,M.post.dK⟩ ?_
   .intro q hq;have RT:=M.jge y hy id e1;rw [Mu.bc _ _ _ (λe'=>by subst e';omega)];exact M.post.ext q hq
   .intro z hz tD QY q hJ hq;show(μ.put id _) q=none;rw [Mu.bc _ _ _ (M.apart z hz y hy QY q id hJ e1)];exact hq
end
end
end Go.Sy
