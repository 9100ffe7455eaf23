/- A piece of the proof, made small by a program of ours. -/
import Derived.Test.YtihglcfnelokaaaGreatDoorP02
import Derived.RangeFuncNested
set_option linter.all false
set_option maxRecDepth 1000000
set_option maxHeartbeats 0
namespace Go.Sy
noncomputable section
open Go.RowKit Go.Proofs Go.Proofs.Tryz
section
variable [aY]
variable {P:Program} {B0:Nat} {cx:Cx} {ops:Array Oper} {ms:Tr Nat} {pl:List PI} {r0:Tr AV} {m:List Pos} {μ0:Mu} {h0:Heap} {w0:World} {a0:Act} {x:R}
theorem FN {d:Option Tmp} {nt:Nat} {v:AV} {r r':Tr AV} (hp:ph d nt v r=some r'):
  (∀s,d=some s ->r'.get (pathOf s)=some v/\s<nt)/\∀s,d≠some s ->r'.get (pathOf s)=r.get (pathOf s):=by
 unfold ph at hp;cases d with
 |none=>cases hp;exact⟨by simp,λ_ _=>rfl⟩|some d=>
  simp only at hp;cases hl:bQ d nt with
  |false=>rw [hl]at hp;cases hp|true=>
   rw [hl]at hp;cases hp;refine⟨λs hs=>?_,λs hs=>?_⟩
   .cases hs;rw [Tr.bO,if_pos rfl];exact⟨rfl,bC.1 hl⟩
   .rw [Tr.bO,if_neg (λe=>hs (by rw [dV e]))]
theorem dR.mono {o:Oper} {rp:Tr AV} {hc Ax:Heap} {μ μ':Mu} {v:AV} {j:Option Pos} (hf:dR P o rp hc μ v j) (hn:hc.n.toNat<=Ax.n.toNat) (RQ:∀f,cls o.op= .load f ->f P rp hc=some v ->f P rp Ax=some v)
  (mo:∀f id ob,cls o.op= .alloc f ->j=some id ->hc.t.get id=some ob ->Ax.t.get id=some ob) (hμ:∀id,id.toNat<hc.n.toNat ->μ' id=μ id):dR P o rp Ax μ' v j:=by
 unfold dR at hf ⊢;cases eG:cls o.op with
 |pure f=>rw [eG]at hf;exact hf|load f=>rw [eG]at hf;exact RQ f eG hf|alloc f=>
  rw [eG]at hf;obtain⟨A,t,id,e1,e2,e3,e4,e5,e6,e7⟩:=hf;exact⟨A,t,id,e1,e2,e3,e4,mo f id _ eG e1 e5,by rw [hμ id e7];exact e6,by omega⟩
 |bad=>rw [eG]at hf;exact hf|lB f=>rw [eG]at hf;exact hf
theorem rR (G:Good ops ms pl) {D:Nat ->Prop} {a:Act} {w:World} {pr t:List PI} {y:PI} {rc r':Tr AV} {hc Ax:Heap} {μ:Mu} {J:Nat ->Option Pos} (M:Mid P B0 cx ops ms pl r0 m μ0 h0 w0 a0 x D a w pr (y::t) rc hc μ J)
  (he:y.lB=false) {v:AV} (hp:ph y.o.dst cx.nt v rc=some r') (bH:lk ops t cx r' m Ax=x) (hn:hc.n.toNat<=Ax.n.toNat) (HY:HR μ B0 Ax w) (mo:∀id ob,hc.t.get id=some ob ->Ax.t.get id=some ob)
  (RQ:∀(f:Program ->Tr AV ->Heap ->Option AV) rp v,mC f ->f P rp hc=some v ->f P rp Ax=some v) (jn:Option Pos) (hj:∀q,jn=some q ->q=hc.n/\hc.n.toNat<Ax.n.toNat)
  (afn:(cY ops y.o rc= .no/\v= .aO .nil)\/(cY ops y.o rc= .yes/\dR P y.o rc Ax μ v jn)):
  Mid P B0 cx ops ms pl r0 m μ0 h0 w0 a0 x D a w (pr++[y]) t r' Ax μ (λi=>if i=y.i then jn else J i):=by
 have dC:∀z∈pr,z∈pl:=λz hz=>by rw [M.split];exact List.mem_append.2 (.inl hz)
 have OV:y∈pl:=by rw [M.split];simp
 have sP:∀z∈pr,fc ops ms z y=true:=λz hz=>G.before M.split hz;have dE:∀z∈pr,z.i≠y.i:=λz hz=>ma (sP z hz);have Xt:¬D y.i:=λhD=>by
  obtain⟨z,hz,e⟩:=M.done _ hD;exact dE z hz e
 obtain⟨g1,g2⟩:=FN hp;have hyw:∀z∈pr,∀s,z.o.dst=some s ->y.o.dst≠some s:=λz hz s e1 e2=>rQ (sP z hz) e1 e2;have mem:∀z,z∈pr++[y] ->z∈pr\/z=y:=λz hz=>by simpa using hz
 refine⟨by rw [M.split];simp,bH,?_,?_,⟨M.post.ext,Nat.le_trans M.post.le hn,HY,M.post.below,M.post.dF⟩,M.size,M.wN,?_,?_,?_,?_,?_,?_,?_⟩
 .intro i hi;obtain⟨z,hz,e⟩:=M.done i hi;exact⟨z,by simp [hz],e⟩
 .intro z hz hze;rcases mem z hz with h|h
  .exact M.acx z h hze
  .subst h;rw [he]at hze;cases hze
 .intro s u hu hno;have hs:=hno y (by simp) Xt;rw [g2 s hs]at hu;exact M.xa s u hu (λz hz tK=>hno z (by simp [hz]) tK)
 .intro z hz tK s iJ u hu;rcases mem z hz with h|h
  .exact M.Xs z h tK s iJ u hu
  .subst h;have hnw:∀q∈pr,q.o.dst≠some s:=λq hq e=>hyw q hq s e iJ;rw [<-M.Jj s hnw]at hu;exact M.xa s u hu (λq hq _=>hnw q hq)
 .intro s hs;rw [g2 s (hs y (by simp))];exact M.Jj s (λz hz=>hs z (by simp [hz]))
 .intro z hz tK;rcases mem z hz with h|h
  .obtain⟨rp,u,f1,f2,f3⟩:=M.fact z h tK;rw [show(if z.i=y.i then jn else J z.i)=J z.i from if_neg (dE z h)];refine⟨rp,u,λd hd=>?_,λs hs=>⟨?_,?_⟩,f3.imp id (λf=>⟨f.1,f.2.mono hn (λf hf=>RQ f rp u (RJ _ f hf)) (λf id ob _ _=>mo id ob) (λ_ _=>rfl)⟩)⟩
   .rw [g2 d (hyw z h d hd)];exact f1 d hd
   .rintro ⟨q,hq,WR,FO,hqp⟩;rcases mem q hq with h'|h'
    .rw [g2 s (hyw q h' s FO)];exact(f2 s hs).1 ⟨q,h',WR,FO,hqp⟩
    .subst h';rw [tJ (sP z h)]at hqp;cases hqp
   .intro hq;exact(f2 s hs).2 (λq iw=>hq q (by simp [iw]))
  .subst h;rw [show(if z.i=z.i then jn else J z.i)=jn from if_pos rfl];refine⟨rc,v,λd hd=>g1 d hd,λs hs=>⟨?_,?_⟩,afn⟩
   .rintro ⟨q,hq,WR,FO,hqp⟩;rcases mem q hq with h'|h'
    .exact(g2 s (hyw q h' s FO)).symm
    .subst h';exact absurd rfl WR
   .intro hq;refine M.Jj s (λq iw e=>?_);have:=hq q (by simp [iw]) (dE q iw) e;rw [vY (sP q iw) e hs]at this;cases this
 .intro z hz q hq;rcases mem z hz with h|h
  .rw [if_neg (dE z h)]at hq;have:=M.jlt z h q hq;omega
  .subst h;rw [if_pos rfl]at hq;obtain⟨rfl,cJ⟩:=hj q hq;exact cJ
 .intro z hz q hq;rcases mem z hz with h|h
  .rw [if_neg (dE z h)]at hq;exact M.jge z h q hq
  .subst h;rw [if_pos rfl]at hq;obtain⟨rfl,cJ⟩:=hj q hq;exact M.post.le
 .intro z hz u hu hzu p q my iw;rcases mem z hz with h|h
  .rw [if_neg (dE z h)]at my;rcases mem u hu with h2|h2
   .rw [if_neg (dE u h2)]at iw;exact M.apart z h u h2 hzu p q my iw
   .subst h2;rw [if_pos rfl]at iw;obtain⟨rfl,_⟩:=hj q iw;have:=M.jlt z h p my;intro e;subst e;omega
  .subst h;rw [if_pos rfl]at my;obtain⟨rfl,_⟩:=hj p my;rcases mem u hu with h2|h2
   .rw [if_neg (dE u h2)]at iw;have:=M.jlt u h2 q iw;intro e;subst e;omega
   .exact absurd h2.symm (λe=>hzu (by rw [e]))
theorem advance (hP:cx.P=P) (G:Good ops ms pl) (hx:x≠.fail) {D:Nat ->Prop} {a:Act} {w:World} {μ:Mu}:∀(suf:List PI) {pr:List PI} {rc:Tr AV} {hc:Heap} {J:Nat ->Option Pos},
  Mid P B0 cx ops ms pl r0 m μ0 h0 w0 a0 x D a w pr suf rc hc μ J ->
  ∃pr' acy rc' Ax J',Mid P B0 cx ops ms pl r0 m μ0 h0 w0 a0 x D a w pr' acy rc' Ax μ J'/\(acy=[]\/∃y t,acy=y::t/\y.lB=true)
 |[],pr,rc,hc,J,M=>⟨pr,[],rc,hc,J,M,.inl rfl⟩
 |y::t,pr,rc,hc,J,M=>by
  cases he:y.lB with
  |true=>exact⟨pr,y::t,rc,hc,J,M,.inr ⟨y,t,rfl,he⟩⟩|false=>
   have OV:y∈pl:=(by rw [M.split];simp);obtain⟨Bu,afm⟩:=G.at_ y OV;have hr:=M.run;change tn ops y.o cx rc m hc (λr' m' h'=>Bool.casesOn (motive:=λ_=>R) (recheck ops cx.P y.gA rc hc h') .fail (lk ops t cx r' m' h'))=x at hr;obtain⟨v,h',r',h1,h2,h3⟩:=yK hr hx;rw [G.none_ y OV he]at h3;have h3:lk ops t cx r' m h'=x:=h3;have bD:=M.post.rel;have hs:hc.n.succ.toNat=hc.n.toNat+1:=Pos.cU _;have hfr:∀id ob,hc.t.get id=some ob ->id≠hc.n:=λid ob e e'=>by have:=bD.live id ob e;subst e';omega
   rcases h1 with ⟨hw,oD⟩|⟨hw,rfl,rfl⟩
   .rcases FM y.o with ⟨_,eG⟩|eG
    .have hxo:∀{res:OR},qm y.o.op cx.P rc hc=res ->(∀f aZs h1,res≠.enter f aZs h1) ->(∀f aZs h1,res≠.round f aZs h1) ->res= .val v h':=by
      intro res e n1 n2;rcases oD with g|⟨f,aZs,h1,g,_⟩|⟨f,aZs,h1,g,_⟩
      .rw [<-e];exact g
      .exact absurd (e.symm.trans g) (n1 f aZs h1)
      .exact absurd (e.symm.trans g) (n2 f aZs h1)
     rcases eG with ⟨f,eG⟩|⟨f,eG⟩|⟨f,eG⟩
     .cases hf:f P rc with
      |none=>
       have:OR.fail=OR.val v h':=hxo (by unfold qm;rw [eG,hP];simp only [hf]) (by simp) (by simp);cases this
      |some u=>
       have:OR.val u hc=OR.val v h':=hxo (by unfold qm;rw [eG,hP];simp only [hf]) (by simp) (by simp);cases this;exact advance hP G hx t (rR G M he h2 h3 (Nat.le_refl _) bD (λ_ _ e=>e) (λ_ _ _ _ e=>e) none (by simp) (.inr ⟨hw,by unfold dR;rw [eG];exact hf⟩))
     .cases hf:f P rc hc with
      |none=>
       have:OR.fail=OR.val v h':=hxo (by unfold qm;rw [eG,hP];simp only [hf]) (by simp) (by simp);cases this
      |some u=>
       have:OR.val u hc=OR.val v h':=hxo (by unfold qm;rw [eG,hP];simp only [hf]) (by simp) (by simp);cases this;exact advance hP G hx t (rR G M he h2 h3 (Nat.le_refl _) bD (λ_ _ e=>e) (λ_ _ _ _ e=>e) none (by simp) (.inr ⟨hw,by unfold dR;rw [eG];exact hf⟩))
     .cases hf:f P rc with
      |none=>
       have:OR.fail=OR.val v h':=hxo (by unfold qm;rw [eG,hP];simp only [hf]) (by simp) (by simp);cases this
      |some A=>
       have uW:iQ A.l A.n hc A.k=OR.val v h':=hxo (by unfold qm;rw [eG,hP];simp only [hf]) jH.1 jH.2;obtain⟨tt,e1,rfl,rfl⟩:=mA uW;have hgg:∀id ob,hc.t.get id=some ob ->(Tr.set tt hc.t hc.n).get id=some ob:=λid ob e=>by
        rw [Tr.bO,if_neg (hfr id ob e)];exact e
       have jJ:μ hc.n=none:=by
        cases e:μ hc.n with
        |none=>rfl|some C=>exact absurd (bD.fresh _ _ e) (by omega)
       refine advance hP G hx t (rR G M he h2 h3 (by show hc.n.toNat<=hc.n.succ.toNat;omega) (bD.free _) hgg (λg rp u hg e=>hg P rp hc u hc.n hc.n.succ _ hfr e) (some hc.n) (λq e=>by
        cases e;exact⟨rfl,by show hc.n.toNat<hc.n.succ.toNat;omega⟩) (.inr ⟨hw,?_⟩))
       unfold dR;rw [eG];refine⟨A,tt,hc.n,rfl,hf,e1,rfl,?_,jJ,by show hc.n.toNat<hc.n.succ.toNat;omega⟩;show(Tr.set tt hc.t hc.n).get hc.n=_;rw [Tr.bO,if_pos rfl]
    .rw [afm,eG]at he;cases he
   .exact advance hP G hx t (rR G M he h2 h3 (Nat.le_refl _) bD (λ_ _ e=>e) (λ_ _ _ _ e=>e) none (by simp) (.inl ⟨hw,rfl⟩))
end
section
variable [aY]
variable {P:Program} {B0:Nat} {cx:Cx} {ops:Array Oper} {ms:Tr Nat} {pl:List PI} {r0:Tr AV} {m:List Pos} {μ0:Mu} {h0:Heap} {w0:World} {a0:Act} {x:R}
theorem acz (k:MK) (id:Pos):(k.av id= .ptr id 0)\/∃l z,k.av id= .gs id l z:=by
 cases k with
 |ptr=>exact .inl rfl|slice l c z=>exact .inr ⟨l,z,rfl⟩
theorem yR {o:Oper} {rc rp:Tr AV} {hc h':Heap} {μ μ':Mu} {u:AV} {j:Option Pos} (hr:qw ops P o rc hc h'=true) (heq:∀s∈lC ops o,rp.get (pathOf s)=rc.get (pathOf s)) (hw:cY ops o rp= .yes)
  (hd:∀d,o.dst=some d ->rc.get (pathOf d)=some u) (hn:hc.n.toNat<=h'.n.toNat) (hμ:∀id,id.toNat<hc.n.toNat ->μ' id=μ id) (hf:dR P o rp hc μ u j):dR P o rp h' μ' u j:=by
 have Bw:cY ops o rc= .yes:=by rw [<-Dt heq];exact hw
 have AW:=vV (r:=rp) (r':=rc) o.op (FK heq);unfold qw at hr;rw [Bw]at hr;simp only at hr;unfold dR at hf ⊢;cases eG:cls o.op with
 |pure f=>rw [eG]at hf;exact hf|bad=>rw [eG]at hf;exact hf|lB f=>rw [eG]at hf;exact hf|load f=>
  rw [eG]at hf hr AW;simp only at hr hf ⊢;rw [show f P rp hc=f P rc hc from AW P hc]at hf;rw [show f P rp h'=f P rc h' from AW P h'];rw [hf]at hr;cases he:f P rc h' with
  |none=>rw [he]at hr;cases hr|some b=>
   rw [he]at hr;have:=of_decide_eq_true hr;rw [this]
 |alloc f=>
  rw [eG]at hf hr;obtain⟨A,t,id,e1,e2,e3,rfl,e5,e6,e7⟩:=hf;refine⟨A,t,id,e1,e2,e3,rfl,?_,by rw [hμ id e7];exact e6,by omega⟩;simp only at hr;have key:sameAt hc h' id=true ->h'.t.get id=some t:=by
   intro hk;unfold sameAt at hk;rw [e5]at hk;split at hk
   .rename_i t1 n1 r1 t2 n2 r2 h1 h2;obtain⟨a1,a2,a3⟩:=of_decide_eq_true hk;rw [h2,Option.some.inj h1,a1,a2,a3]
   .rename_i l1 r1 l2 r2 h1 h2;obtain⟨a1,a2⟩:=of_decide_eq_true hk;rw [h2,Option.some.inj h1,a1,a2]
   .cases hk
  cases acA:o.dst with
  |none=>rw [acA]at hr;cases hr|some d=>
   rw [acA]at hr;have:=hd d acA;simp only [this,gv]at hr;rcases acz A.k id with e|⟨l,z,e⟩
   .rw [e]at hr;exact key hr
   .rw [e]at hr;exact key hr
theorem RS (hP:cx.P=P) (bl:aW P B0 cx.call) (G:Good ops ms pl) (hx:x≠.fail) {D:Nat ->Prop} {a:Act} {w:World} {pr t:List PI} {y:PI} {rc:Tr AV} {hc:Heap} {μ:Mu} {J:Nat ->Option Pos} (M:Mid P B0 cx ops ms pl r0 m μ0 h0 w0 a0 x D a w pr (y::t) rc hc μ J)
  (he:y.lB=true) (nU:∀j,pre ms j y.i=true ->D j) {b:Frame} (rest:List Nat) (k:List Item) (cs:List Frame):
  ∃a' w' μ' rc' Ax J',Steps P (lone (b.atR a (.inRegion ops (y.i::rest)::k)) cs w) (lone (b.atR a' (.inRegion ops rest::k)) cs w')/\Mid P B0 cx ops ms pl r0 m μ0 h0 w0 a0 x (λi=>D i\/i=y.i) a' w' (pr++[y]) t rc' Ax μ' J':=by
 have dC:∀z∈pr,z∈pl:=λz hz=>by rw [M.split];exact List.mem_append.2 (.inl hz)
 have OV:y∈pl:=by rw [M.split];simp
 have sP:∀z∈pr,fc ops ms z y=true:=λz hz=>G.before M.split hz;have dE:∀z∈pr,z.i≠y.i:=λz hz=>ma (sP z hz);have hyw:∀z∈pr,∀s,z.o.dst=some s ->y.o.dst≠some s:=λz hz s e1 e2=>rQ (sP z hz) e1 e2;have mem:∀z,z∈pr++[y] ->z∈pr\/z=y:=λz hz=>by simpa using hz
 obtain⟨Bu,_⟩:=G.at_ y OV;have bD:=M.post.rel;have hr:=M.run;change tn ops y.o cx rc m hc (λr' m' h'=>Bool.casesOn (motive:=λ_=>R) (recheck ops cx.P y.gA rc hc h') .fail (lk ops t cx r' m' h'))=x at hr;obtain⟨v,h',r',h1,h2,h3⟩:=yK hr hx;have acB:recheck ops cx.P y.gA rc hc h'=true/\lk ops t cx r' m h'=x:=by
  cases hb:recheck ops cx.P y.gA rc hc h' with
  |false=>rw [hb]at h3;exact absurd h3.symm hx|true=>rw [hb]at h3;exact⟨rfl,h3⟩
 obtain⟨acB,bH⟩:=acB;obtain⟨g1,g2⟩:=FN h2;have RN:∀s∈lC ops y.o,∀u,rc.get (pathOf s)=some u ->∃cv,a.tmps[s]?=some cv/\dw μ u cv:=by
  intro s hs u hu;refine M.xa s u hu (λz hz tK e=>tK (nU _ (vY (sP z hz) e hs)))
 obtain⟨w1,w2⟩:=yP RN;have fin:∀(cv:Value) (w':World) (μ':Mu),Steps P (lone (b.atR a (.inRegion ops (y.i::rest)::k)) cs w) (lone (b.atR (a.put y.o.dst cv) (.inRegion ops rest::k)) cs w') ->dw μ' v cv ->bS μ B0 hc w μ' h' w' ->
   ∃a' w' μ' rc' Ax J',Steps P (lone (b.atR a (.inRegion ops (y.i::rest)::k)) cs w) (lone (b.atR a' (.inRegion ops rest::k)) cs w')/\Mid P B0 cx ops ms pl r0 m μ0 h0 w0 a0 x (λi=>D i\/i=y.i) a' w' (pr++[y]) t rc' Ax μ' J':=by
  intro cv w' μ' mw hv hp;have hle:=hp.mu bD;have RO:(a.put y.o.dst cv).tmps.size=cx.nt:=by
   cases hd:y.o.dst with
   |none=>exact M.size|some d=>simp [Act.put,M.size]
  have RP:∀s,y.o.dst=some s ->(a.put y.o.dst cv).tmps[s]?=some cv:=by
   intro s hs;obtain⟨_,cJ⟩:=g1 s hs;rw [hs];simp only [Act.put];exact Array.getElem?_setIfInBounds_self_of_lt (by rw [M.size];exact cJ)
  have jK:∀s,y.o.dst≠some s ->(a.put y.o.dst cv).tmps[s]?=a.tmps[s]?:=by
   intro s hs;cases hd:y.o.dst with
   |none=>rfl|some d=>
    simp only [Act.put];rw [Array.getElem?_setIfInBounds_ne (λe=>hs (by rw [hd,e]))]
  refine⟨_,w',μ',r',h',λi=>if i=y.i then none else J i,mw,⟨by rw [M.split];simp,bH,?_,?_,M.post.trans hp,RO,?_,?_,?_,?_,?_,?_,?_,?_⟩⟩
  .intro i hi;rcases hi with hi|rfl
   .obtain⟨z,hz,e⟩:=M.done i hi;exact⟨z,by simp [hz],e⟩
   .exact⟨y,by simp,rfl⟩
  .intro z hz hze;rcases mem z hz with h|h
   .exact .inl (M.acx z h hze)
   .exact .inr (by rw [h])
  .rw [show(a.put y.o.dst cv).defers=a.defers by cases y.o.dst<;>rfl];exact M.wN
  .intro s u hu hno;by_cases hs:y.o.dst=some s
   .obtain⟨e1,_⟩:=g1 s hs;rw [e1]at hu;cases hu;exact⟨cv,RP s hs,hv⟩
   .rw [g2 s hs]at hu;obtain⟨cu,e1,e2⟩:=M.xa s u hu (λz hz tK=>hno z (by simp [hz]) (λe=>e.elim tK (dE z hz)));exact⟨cu,by rw [jK s hs];exact e1,e2.mono hle⟩
  .intro z hz tK s iJ u hu;have Dw:¬D z.i:=λe=>tK (.inl e);rcases mem z hz with h|h
   .obtain⟨cu,e1,e2⟩:=M.Xs z h Dw s iJ u hu;exact⟨cu,by rw [jK s (hyw z h s iJ)];exact e1,e2.mono hle⟩
   .exact absurd (.inr (by rw [h])) tK
  .intro s hs;rw [g2 s (hs y (by simp))];exact M.Jj s (λz hz=>hs z (by simp [hz]))
  .intro z hz tK;have Dw:¬D z.i:=λe=>tK (.inl e);rcases mem z hz with h|h
   .rw [show(if z.i=y.i then none else J z.i)=J z.i from if_neg (dE z h)];obtain⟨rp,u,f1,f2,f3⟩:=M.fact z h Dw;refine⟨rp,u,λd hd=>?_,λs hs=>⟨?_,?_⟩,f3.imp id (λf=>⟨f.1,?_⟩)⟩
    .rw [g2 d (hyw z h d hd)];exact f1 d hd
    .rintro ⟨q,hq,WR,FO,hqp⟩;rcases mem q hq with h'|h'
     .rw [g2 s (hyw q h' s FO)];exact(f2 s hs).1 ⟨q,h',WR,FO,hqp⟩
     .subst h';rw [tJ (sP z h)]at hqp;cases hqp
    .intro hq;exact(f2 s hs).2 (λq iw=>hq q (by simp [iw]))
    ·
     by_cases qO:Bm z.o=true
     .have hnp:pre ms z.i y.i=false:=by
       cases e:pre ms z.i y.i with
       |false=>rfl|true=>exact absurd (nU _ e) Dw
      obtain⟨p,my,hpi⟩:=Ji (sP z h) hnp he qO;have hpo:p.2=z.o:=by
       have e1:=G.acw y OV p my;have e2:=(G.at_ z (dC z h)).1;rw [hpi,e2]at e1;exact(Option.some.inj e1).symm
      have hrk:=List.all_eq_true.1 acB p my;rw [hpo,hP]at hrk;have aa5:=(G.pair pr y t M.split).2 p my;unfold Ir at aa5;have heq:∀s∈lC ops z.o,rp.get (pathOf s)=rc.get (pathOf s):=by
       intro s hs;have hw:∀q∈pr,q.o.dst=some s ->pre ms q.i z.i=true:=by
        intro q hq FO;have:=List.all_eq_true.1 aa5 q hq;rw [Bool.or_eq_true,hpi,hpo]at this;rcases this with e|e
        .exact absurd ⟨qN FO,tH hs⟩ (pz e s)
        .exact e
       by_cases hex:∃q∈pr,q.i≠z.i/\q.o.dst=some s
       .obtain⟨q,hq,WR,FO⟩:=hex;exact(f2 s hs).1 ⟨q,hq,WR,FO,hw q hq FO⟩
       .have jJ:∀q∈pr,q.o.dst≠some s:=by
         intro q hq FO;by_cases WR:q.i=z.i
         .have:=hw q hq FO;rw [WR,G.self z (dC z h)]at this;cases this
         .exact hex ⟨q,hq,WR,FO⟩
        rw [M.Jj s jJ];exact(f2 s hs).2 (λq hq _ FO=>absurd FO (jJ q hq))
      exact yR hrk heq f.1 (λd hd=>(f1 d hd).1) hp.le hp.ext f.2
     .refine f.2.mono hp.le (λg hg _=>?_) (λg id ob hg _ _=>?_) hp.ext
      .exact absurd (by unfold Bm;rw [hg]) qO
      .exact absurd (by unfold Bm;rw [hg]) qO
   .exact absurd (.inr (by rw [h])) tK
  .intro z hz q hq;rcases mem z hz with h|h
   .rw [if_neg (dE z h)]at hq;have:=M.jlt z h q hq;have:=hp.le;omega
   .subst h;rw [if_pos rfl]at hq;cases hq
  .intro z hz q hq;rcases mem z hz with h|h
   .rw [if_neg (dE z h)]at hq;exact M.jge z h q hq
   .subst h;rw [if_pos rfl]at hq;cases hq
  .intro z hz u hu hzu p q my iw;rcases mem z hz with h|h
   .rcases mem u hu with h2|h2
    .rw [if_neg (dE z h)]at my;rw [if_neg (dE u h2)]at iw;exact M.apart z h u h2 hzu p q my iw
    .subst h2;rw [if_pos rfl]at iw;cases iw
   .subst h;rw [if_pos rfl]at my;cases my
 rcases h1 with ⟨hw,oD⟩|⟨hw,rfl,rfl⟩
 .obtain⟨q,hq,Ia⟩:=RI RN;have IM:=OO (r:=q) (r':=rc) y.o.op Ia;have afo:FH y.o cx q hc v h':=by
   unfold FH at oD ⊢;rw [IM];exact oD
  obtain⟨cv,μ',w',e1,e2,e3⟩:=LG hP bl afo (w:=w) (b:=b) (a:=a) bD hq ops y.i rest k cs Bu (w1 hw);exact fin cv w' μ' e3 e1 e2
 .exact fin undef w μ (vX Bu (w2 hw)) ⟨#[],rfl,rfl⟩ (bS.refl bD)
end
section
variable [aY]
variable {P:Program} {B0:Nat} {cx:Cx} {ops:Array Oper} {pl:List PI} {r0:Tr AV} {m:List Pos} {μ0:Mu} {h0:Heap} {w0:World} {a0:Act} {x:R}
def cnt (ops:Array Oper) (listed:Array Bool):Nat:=((List.range ops.size).filter λi=>!listed.getD i true).length
theorem filter_lt {α:Type} (p q:α ->Bool):∀(l:List α),(∀x,q x=true ->p x=true) ->(∃x∈l,p x=true/\q x=false) ->(l.filter q).length<(l.filter p).length
 |[],_,h=>by obtain⟨x,hx,_⟩:=h;simp at hx
 |y::l,himp,h=>by
  have hle:(l.filter q).length<=(l.filter p).length:=by
   clear h;induction l with
   |nil=>simp|cons z l ih=>
    simp only [List.filter_cons];cases hq:q z with
    |true=>rw [himp z hq];simpa using ih|false=>cases p z<;>simp<;>omega
  simp only [List.filter_cons];obtain⟨x,hx,h1,h2⟩:=h;rcases List.mem_cons.1 hx with e|e
  .subst e;rw [h1,h2];simp;omega
  .have:=filter_lt p q l himp ⟨x,e,h1,h2⟩;cases hq:q y with
   |true=>rw [himp y hq];simpa using this|false=>cases p y<;>simp<;>omega
section
abbrev yS (ops:Array Oper):Tr Nat:=Iq ops.toList 0 .leaf
end
abbrev DL (listed:Array Bool) (i:Nat):Prop:=listed.getD i false=true
theorem Jl {listed:Array Bool} {i:Nat} (hi:i<listed.size):DL (listed.setIfInBounds i true)=λj=>DL listed j\/j=i:=by
 funext j;apply propext;unfold DL;by_cases e:j=i
 .subst e;simp [Array.getD,hi]
 .constructor
  .intro h;left;rw [<-h];simp only [Array.getD_eq_getD_getElem?,Array.getElem?_setIfInBounds_ne (λe'=>e e'.symm)]
  .intro h;rcases h with h|h
   .rw [<-h];simp only [Array.getD_eq_getD_getElem?,Array.getElem?_setIfInBounds_ne (λe'=>e e'.symm)]
   .exact absurd h e
theorem afp {listed:Array Bool} {i:Nat} (h:DL listed i):i<listed.size:=by
 unfold DL at h;rcases Nat.lt_or_ge i listed.size with g|g
 .exact g
 .simp [Array.getD,show ¬i<listed.size by omega]at h
theorem Dx {listed:Array Bool} {i:Nat} (hi:i<listed.size):listed.getD i true=listed.getD i false:=by simp [Array.getD,hi]
theorem yT (G:Good ops (yS ops) pl) (hx:x≠.fail) {listed:Array Bool} (hsz:listed.size=ops.size) (AK:∀i,i<ops.size ->DL listed i) {a:Act} {w:World} {pr suf:List PI} {rc:Tr AV} {hc:Heap} {μ:Mu} {J:Nat ->Option Pos}
  (M:Mid P B0 cx ops (yS ops) pl r0 m μ0 h0 w0 a0 x (DL listed) a w pr suf rc hc μ J):x= .ok rc m hc/\bS μ0 B0 h0 w0 μ hc w/\RR μ rc a.tmps/\a.tmps.size=cx.nt/\a.defers=a0.defers:=by
 have cJ:∀y∈pl,y.i<ops.size:=λy hy=>(Array.getElem?_eq_some_iff.1 (G.at_ y hy).1).1;have Xu:suf=[]:=by
  cases suf with
  |nil=>rfl|cons y t=>
   have hy:y∈pl:=(by rw [M.split];simp);obtain⟨z,hz,e⟩:=M.done y.i (AK _ (cJ y hy));exact absurd e (ma (G.before M.split hz))
 subst Xu;have hr:=M.run;change R.ok rc m hc=x at hr;refine⟨hr.symm,M.post,λs v hv=>M.xa s v hv (λy hy Xt=>?_),M.size,M.wN⟩;exact absurd (AK _ (cJ y (by rw [M.split];exact List.mem_append.2 (.inl hy)))) Xt
theorem Jm (hP:cx.P=P) (bl:aW P B0 cx.call) (G:Good ops (yS ops) pl) (hx:x≠.fail) (hH0:HR μ0 B0 h0 w0) {listed:Array Bool} (hsz:listed.size=ops.size) (hEC:EC ops (DL listed)) {a:Act} {w:World}
  (hM:∃pr suf rc hc μ J,Mid P B0 cx ops (yS ops) pl r0 m μ0 h0 w0 a0 x (DL listed) a w pr suf rc hc μ J/\(suf=[]\/∃y t,suf=y::t/\y.lB=true)) {i:Nat} (hi:i∈Region.ready .any ops listed) {b:Frame} (rest:List Nat) (k:List Item) (cs:List Frame):
  ∃a' w',Steps P (lone (b.atR a (.inRegion ops (i::rest)::k)) cs w) (lone (b.atR a' (.inRegion ops rest::k)) cs w')/\EC ops (DL (listed.setIfInBounds i true))/\
   (∃pr suf rc hc μ J,Mid P B0 cx ops (yS ops) pl r0 m μ0 h0 w0 a0 x (DL (listed.setIfInBounds i true)) a' w' pr suf rc hc μ J/\(suf=[]\/∃y t,suf=y::t/\y.lB=true)):=by
 obtain⟨pr,suf,rc,hc,μ,J,M,Xu⟩:=hM;unfold Region.ready at hi;rw [List.mem_filter]at hi;obtain⟨hi1,hi2⟩:=hi;have hi1:=List.mem_range.1 hi1;simp only [Bool.and_eq_true,Bool.not_eq_true']at hi2;obtain⟨hi2,hi3⟩:=hi2;have hiL:i<listed.size:=by omega
 have hnD:¬DL listed i:=by unfold DL;rw [<-Dx hiL,hi2];simp
 have Bu:ops[i]?=some ops[i]:=Array.getElem?_eq_getElem hi1;rw [Bu]at hi3;simp only [Option.map_some,Option.getD_some]at hi3;have RT:∀e∈(ops[i]).after.toList,Region.binds .any e=true ->DL listed e.on:=by
  intro e he hb;have:=Array.all_eq_true'.1 hi3 e (Array.mem_toList_iff.1 he);rw [hb]at this;simp only [Bool.not_true,Bool.false_or]at this;exact this
 have hms:=FI hEC;have nU:∀j,pre (yS ops) j i=true ->DL listed j:=hms i _ Bu RT;have vf:∀i j,DL listed i ->pre (yS ops) j i=true ->DL listed j:=by
  intro i' j hD hp;have cJ:i'<ops.size:=by have:=afp hD;omega
  exact hms i' _ (Array.getElem?_eq_getElem cJ) (hEC i' _ hD (Array.getElem?_eq_getElem cJ)) j hp
 have afq:EC ops (DL (listed.setIfInBounds i true)):=by
  rw [Jl hiL];intro j o hj ho e he hb;rcases hj with hj|rfl
  .exact .inl (hEC j o hj ho e he hb)
  .rw [Bu]at ho;cases ho;exact .inl (RT e he hb)
 obtain⟨y,hy,rfl⟩:=G.all i hi1;have afr:y∈pr\/y∈suf:=by rw [M.split]at hy;exact List.mem_append.1 hy
 rcases afr with hyp|hys
 .obtain⟨a',w',μ',mw,M'⟩:=Jk (b:=b) hP G M hH0 hyp hnD nU vf rest k cs;rw [<-Jl hiL]at M';exact⟨a',w',mw,afq,pr,suf,rc,hc,μ',J,M',Xu⟩
 .rcases Xu with rfl|⟨z,t,rfl,hz⟩
  .simp at hys
  .rcases List.mem_cons.1 hys with e|e
   .subst e;obtain⟨a',w',μ',rc',Ax,J',mw,M'⟩:=RS (b:=b) hP bl G hx M hz nU rest k cs;rw [<-Jl hiL]at M';obtain⟨pr2,acC,rc2,Fa,J2,M2,kL⟩:=advance hP G hx t M';exact⟨a',w',mw,afq,pr2,acC,rc2,Fa,μ',J2,M2,kL⟩
   .exfalso;obtain⟨t1,t2,et⟩:=List.append_of_mem e;have fY:=G.before (pr:=pr++z::t1) (suf:=t2) (y:=y) (by rw [M.split,et];simp) (x:=z) (by simp);have tK:=nU _ (Jh fY hz);obtain⟨u,hu,eu⟩:=M.done _ tK;exact absurd eu (ma (G.before M.split hu))
theorem Jn (G:Good ops (yS ops) pl) {listed:Array Bool} (hsz:listed.size=ops.size) (h:Region.ready .any ops listed=[]):∀i,i<ops.size ->DL listed i:=by
 have key:∀(suf pr:List PI),pl=pr++suf ->(∀y∈pr,DL listed y.i) ->∀y∈pl,DL listed y.i:=by
  intro suf;induction suf with
  |nil=>intro pr e hp y hy;rw [e]at hy;exact hp y (by simpa using hy)|cons z t ih=>
   intro pr e hp;have hz:z∈pl:=(by rw [e];simp);have Bu:=(G.at_ z hz).1;have cJ:z.i<ops.size:=(Array.getElem?_eq_some_iff.1 Bu).1;refine ih (pr++[z]) (by rw [e];simp) (λy hy=>?_);rcases List.mem_append.1 hy with hy|hy
   .exact hp y hy
   .rw [List.mem_singleton]at hy;subst hy;by_cases hD:DL listed y.i
    .exact hD
    .exfalso;have:y.i∈Region.ready .any ops listed:=by
      unfold Region.ready;rw [List.mem_filter];refine⟨List.mem_range.2 cJ,?_⟩;rw [Bu];simp only [Option.map_some,Option.getD_some,Bool.and_eq_true,Bool.not_eq_true'];constructor
      .rw [Dx (by omega)];cases hb:listed.getD y.i false with
       |false=>rfl|true=>exact absurd hb hD
      .rw [Array.all_eq_true'];intro ed hed;cases hb:Region.binds .any ed with
       |false=>rfl|true=>
        simp only [Bool.not_true,Bool.false_or];obtain⟨h1,h2⟩:=G.aiC y.i y.o Bu ed (Array.mem_toList_iff.2 hed) hb;obtain⟨u,hu,hui⟩:=G.all ed.on h2;have aiF:u∈pr:=by
         rw [e]at hu;rcases List.mem_append.1 hu with g|g
         .exact g
         .exfalso;rcases List.mem_cons.1 g with g|g
          .subst g;rw [<-hui,G.self u hz]at h1;cases h1
          .obtain⟨t1,t2,et⟩:=List.append_of_mem g;have fY:=G.before (pr:=pr++y::t1) (suf:=t2) (y:=u) (by rw [e,et];simp) (x:=y) (by simp);have:=tJ fY;rw [hui,h1]at this;cases this
        have:=hp u aiF;rw [hui]at this;exact this
     rw [h]at this;simp at this
 intro i hi;obtain⟨y,hy,e⟩:=G.all i hi;have:=key pl [] (by simp) (by simp) y hy;rwa [e]at this
theorem BF (hP:cx.P=P) (bl:aW P B0 cx.call) (G:Good ops (yS ops) pl) (hx:x≠.fail) (hH0:HR μ0 B0 h0 w0) {b:Frame} (k:List Item) (cs:List Frame):∀(fuel t:Nat) (listed:Array Bool) (a:Act) (w:World),listed.size=ops.size ->EC ops (DL listed) ->
  (∃pr suf rc hc μ J,Mid P B0 cx ops (yS ops) pl r0 m μ0 h0 w0 a0 x (DL listed) a w pr suf rc hc μ J/\(suf=[]\/∃y t,suf=y::t/\y.lB=true)) ->cnt ops listed<=fuel ->
  ∃a' w' μ' r' h',x= .ok r' m h'/\bS μ0 B0 h0 w0 μ' h' w'/\RR μ' r' a'.tmps/\a'.tmps.size=cx.nt/\a'.defers=a0.defers/\
   Steps P (lone (b.atR a (.inRegion ops (Region.linearise.go .any ops fuel t listed [])::k)) cs w) (lone (b.atR a' (.inRegion ops []::k)) cs w')
 |0,t,listed,a,w,hsz,hEC,hM,afs=>by
  have AK:∀i,i<ops.size ->DL listed i:=by
   intro i hi;cases hb:listed.getD i false with
   |true=>exact hb|false=>
    exfalso;have:i∈(List.range ops.size).filter λi=>!listed.getD i true:=by
     rw [List.mem_filter];refine⟨List.mem_range.2 hi,?_⟩;rw [Dx (by omega),hb];rfl
    have:=List.length_pos_of_mem this;unfold cnt at afs;omega
  obtain⟨pr,suf,rc,hc,μ,J,M,_⟩:=hM;obtain⟨e1,e2,e3,e4,e5⟩:=yT G hx hsz AK M;exact⟨a,w,μ,rc,hc,e1,e2,e3,e4,e5,by simp [Region.linearise.go];exact Steps.refl _ _⟩
 |fuel+1,t,listed,a,w,hsz,hEC,hM,afs=>by
  have HZ:Region.linearise.go .any ops (fuel+1) t listed []=match (Region.ready .any ops listed)[t % (Region.ready .any ops listed).length]? with
   |some i=>Region.linearise.go .any ops fuel (t/(Region.ready .any ops listed).length) (listed.setIfInBounds i true) [i]|none=>[].reverse:=rfl
  rw [HZ];cases hi:(Region.ready .any ops listed)[t % (Region.ready .any ops listed).length]? with
  |none=>
   have Jo:Region.ready .any ops listed=[]:=by
    cases hr:Region.ready .any ops listed with
    |nil=>rfl|cons y ys=>
     rw [hr]at hi;have cJ:t % (y::ys).length<(y::ys).length:=Nat.mod_lt _ (by simp);rw [List.getElem?_eq_none_iff]at hi;omega
   obtain⟨pr,suf,rc,hc,μ,J,M,_⟩:=hM;obtain⟨e1,e2,e3,e4,e5⟩:=yT G hx hsz (Jn G hsz Jo) M;exact⟨a,w,μ,rc,hc,e1,e2,e3,e4,e5,Steps.refl _ _⟩
  |some i=>
   simp only;rw [linearise_go_acc,List.reverse_singleton,List.singleton_append];have qO:=List.mem_of_getElem? hi;obtain⟨a1,w1,mw,aiG,hM1⟩:=Jm (b:=b) hP bl G hx hH0 hsz hEC hM qO (Region.linearise.go .any ops fuel (t/(Region.ready .any ops listed).length) (listed.setIfInBounds i true) []) k cs;have fw:i<ops.size/\listed.getD i true=false:=by
    unfold Region.ready at qO;rw [List.mem_filter]at qO;obtain⟨q1,q2⟩:=qO;simp only [Bool.and_eq_true,Bool.not_eq_true']at q2;exact⟨List.mem_range.1 q1,q2.1⟩
   have cJ:cnt ops (listed.setIfInBounds i true)<cnt ops listed:=by
    refine filter_lt _ _ _ (λj hj=>?_) ⟨i,List.mem_range.2 fw.1,by simp [fw.2],?_⟩
    .by_cases e:j=i
     .subst e;simp [fw.2]
     .simp only [Array.getD_eq_getD_getElem?,Array.getElem?_setIfInBounds_ne (λe'=>e e'.symm)]at hj ⊢;exact hj
    .simp [Array.getD,show i<listed.size by omega]
   obtain⟨a',w',μ',r',h',f1,f2,f3,f4,f5,f6⟩:=BF hP bl G hx hH0 k cs fuel _ (listed.setIfInBounds i true) a1 w1 (by simp [hsz]) aiG hM1 (by omega);exact⟨a',w',μ',r',h',f1,f2,f3,f4,f5,mw.trans f6⟩
theorem Jp (hm:P.follows .mixedOrders=true) (hP:cx.P=P) (bl:aW P B0 cx.call) (oz:tp ops=some pl) {r:Tr AV} {h:Heap} (bH:lk ops pl cx r m h=x) (hx:x≠.fail) {μ:Mu} {w:World} {a:Act} (hH:HR μ B0 h w) (hr:RR μ r a.tmps) (hsz:a.tmps.size=cx.nt)
  {b:Frame} (k:List Item) (cs:List Frame) (t:Nat):
  ∃a' w' μ' r' h',x= .ok r' m h'/\bS μ B0 h w μ' h' w'/\RR μ' r' a'.tmps/\a'.tmps.size=cx.nt/\a'.defers=a.defers/\
   Steps P (lone (b.atR a (.inRegion ops (Region.schedule (P.follows .mixedOrders) ops t)::k)) cs w) (lone (b.atR a' (.inRegion ops []::k)) cs w'):=by
 have G:=FJ oz;have hD0:∀i,¬DL (Array.replicate ops.size false) i:=by
  intro i hi;unfold DL at hi;by_cases e:i<ops.size<;>simp [Array.getD,e]at hi
 have M0:Mid P B0 cx ops (yS ops) pl r m μ h w a x (DL (Array.replicate ops.size false)) a w [] pl r h μ (λ_=>none):=
  ⟨by simp,bH,λi hi=>absurd hi (hD0 i),by simp,bS.refl hH,hsz,rfl,λs v hv _=>hr s v hv,by simp,λ_ _=>rfl,by simp,by simp,by simp,by simp⟩
 obtain⟨pr2,acC,rc2,Fa,J2,M2,kL⟩:=advance hP G hx pl M0;have:=BF (b:=b) hP bl G hx hH k cs ops.size t (Array.replicate ops.size false) a w (by simp) (λi o hi=>absurd hi (hD0 i)) ⟨pr2,acC,rc2,Fa,μ,J2,M2,kL⟩ (by
  unfold cnt;refine Nat.le_trans (List.length_filter_le _ _) (by simp))
 unfold Region.schedule;rw [hm];simp only [Bool.true_or,if_true];exact this
end
section
variable [aY]
def DR (μ:Mu):List Pos ->List Deferred ->Prop
 |[],[]=>True|id::m,d::ds=>(∃B,μ id=some B/\d.target= .collected B.b)/\DR μ m ds|_,_=>False
theorem DR.mono {μ μ':Mu} (h:μ.le μ'):∀{m:List Pos} {ds:List Deferred},DR μ m ds ->DR μ' m ds
 |[],[],_=>trivial|id::m,d::ds,⟨⟨B,e1,e2⟩,h2⟩=>⟨⟨B,h.m _ _ e1,e2⟩,DR.mono h h2⟩
 |[],_::_,h2=>h2.elim|_::_,[],h2=>h2.elim
structure AR (μ:Mu) (nt:Nat) (r:Tr AV) (m:List Pos) (a:Act):Prop where
 rr:RR μ r a.tmps
 size:a.tmps.size=nt
 dr:DR μ m a.defers
structure FR (μ:Mu) (cx:Cx) (b:Frame):Prop where
 fn:b.fn=cx.fn
 kind:b.kind= .normal
 rd:match cx.rd with|none=>b.roundOf=none|some id=>∃B,μ id=some B/\b.roundOf=some B.b
theorem FR.mono {μ μ':Mu} (h:μ.le μ') {cx:Cx} {b:Frame} (hf:FR μ cx b):FR μ' cx b:=by
 refine⟨hf.fn,hf.kind,?_⟩;have:=hf.rd;cases hr:cx.rd with
 |none=>rw [hr]at this;exact this|some id=>rw [hr]at this;obtain⟨B,e1,e2⟩:=this;exact⟨B,h.m _ _ e1,e2⟩
def fm (P:Program) (B0:Nat) (μ:Mu) (h:Heap) (w:World) (nt:Nat) (b:Frame) (S:List Item ->List Frame ->Machine):R ->Prop
 | .fail=>True| .ok r m h'=>∀k cs,∃μ' a' w',bS μ B0 h w μ' h' w'/\AR μ' nt r m a'/\Steps P (S k cs) (lone (b.atR a' k) cs w')| .exit i r m h'=>∀k cs,∃μ' a' w',bS μ B0 h w μ' h' w'/\AR μ' nt r m a'/\∃k',exitTo i k'=exitTo i k/\Steps P (S k cs) (lone (b.atR a' (.code (.exit i)::k')) cs w')| .ret r m h'=>∀k cs,∃μ' a' w',bS μ B0 h w μ' h' w'/\AR μ' nt r m a'/\∃k',Steps P (S k cs) (lone (b.atR a' (.code .ret::k')) cs w')
variable {P:Program} {B0:Nat}
theorem fm.step {μ:Mu} {h h1:Heap} {w:World} {nt:Nat} {b:Frame} {S:List Item ->List Frame ->Machine} {x:R}
  (H:∀k cs,∃μ1 w1 S1,bS μ B0 h w μ1 h1 w1/\Steps P (S k cs) (S1 k cs)/\fm P B0 μ1 h1 w1 nt b S1 x):fm P B0 μ h w nt b S x:=by
 cases x with
 |fail=>trivial|ok r m h'=>
  intro k cs;obtain⟨μ1,w1,S1,hp,hs,hx⟩:=H k cs;obtain⟨μ',a',w',my,ha,sv⟩:=hx k cs;exact⟨μ',a',w',hp.trans my,ha,hs.trans sv⟩
 |exit i r m h'=>
  intro k cs;obtain⟨μ1,w1,S1,hp,hs,hx⟩:=H k cs;obtain⟨μ',a',w',my,ha,k',he,sv⟩:=hx k cs;exact⟨μ',a',w',hp.trans my,ha,k',he,hs.trans sv⟩
 |ret r m h'=>
  intro k cs;obtain⟨μ1,w1,S1,hp,hs,hx⟩:=H k cs;obtain⟨μ',a',w',my,ha,k',sv⟩:=hx k cs;exact⟨μ',a',w',hp.trans my,ha,k',hs.trans sv⟩
theorem fm.ahead {μ:Mu} {h:Heap} {w:World} (hr:HR μ B0 h w) {nt:Nat} {b:Frame} {S S1:List Item ->List Frame ->Machine} {x:R} (hs:∀k cs,Steps P (S k cs) (S1 k cs)) (hx:fm P B0 μ h w nt b S1 x):fm P B0 μ h w nt b S x:=
 fm.step (λk cs=>⟨μ,w,S1,bS.refl hr,hs k cs,hx⟩)
def gY (P:Program) (B0:Nat) (cx:Cx) (run:Is) (c:Code):Prop:=
 ∀(r:Tr AV) (m:List Pos) (h:Heap) (μ:Mu) (w:World) (b:Frame) (a:Act),HR μ B0 h w ->AR μ cx.nt r m a ->FR μ cx b ->
  fm P B0 μ h w cx.nt b (λk cs=>lone (b.atR a (.code c::k)) cs w) (run cx r m h)
theorem xb {b:Frame} {a:Act} {k:List Item} {cs:List Frame} {w:World} {c:Code}:step P (lone (b.atR a (.code (.scope c)::k)) cs w)= .next (lone (b.atR a (.code c::.inScope c::k)) cs w):=
 step_lone_go (by simp [stepG,stepG.exec,Frame.atR])
theorem sQ {b:Frame} {a:Act} {k:List Item} {cs:List Frame} {w:World} {c:Code}:step P (lone (b.atR a (.inScope c::k)) cs w)= .next (lone (b.atR a k) cs w):=
 step_lone_go (by simp [stepG,stepG.exec,Frame.atR])
section code
variable {cx:Cx}
theorem OW {x y:Code} {ra rb:Is} (ha:gY P B0 cx ra x) (hb:gY P B0 cx rb y):gY P B0 cx (acq ra rb) (.seq x y):=by
 intro r m h μ w b a hr gf hf;refine fm.ahead hr (S1:=λk cs=>lone (b.atR a (.code x::.code y::k)) cs w) (λk cs=> .one stepR_seq) ?_;have h1:=ha r m h μ w b a hr gf hf;unfold acq;cases hx:ra cx r m h with
 |fail=>trivial|ok r1 m1 lj=>
  rw [hx]at h1;simp only;refine fm.step (h1:=lj) (λk cs=>?_);obtain⟨μ1,a1,w1,hp,lr,hs⟩:=h1 (.code y::k) cs;exact⟨μ1,w1,λk cs=>lone (b.atR a1 (.code y::k)) cs w1,hp,hs,hb r1 m1 lj μ1 w1 b a1 hp.rel lr (hf.mono (hp.mu hr))⟩
 |exit i r1 m1 lj=>
  rw [hx]at h1;intro k cs;obtain⟨μ1,a1,w1,hp,lr,k',he,hs⟩:=h1 (.code y::k) cs;exact⟨μ1,a1,w1,hp,lr,k',he,hs⟩
 |ret r1 m1 lj=>
  rw [hx]at h1;intro k cs;obtain⟨μ1,a1,w1,hp,lr,k',hs⟩:=h1 (.code y::k) cs;exact⟨μ1,a1,w1,hp,lr,k',hs⟩
theorem Jq {c:Operand} {x y:Code} {ra rb:Is} (ha:gY P B0 cx ra x) (hb:gY P B0 cx rb y):gY P B0 cx (Rl c ra rb) (.cond c x y):=by
 intro r m h μ w b a hr gf hf;have hc:=aT hr.dM gf.rr c;unfold Rl;split
 .rename_i t ht;rw [ht]at hc;have hc:a.eval c= .bool t:=by simpa [VR]using hc
  cases t with
  |true=>exact fm.ahead hr (S1:=λk cs=>lone (b.atR a (.code x::k)) cs w) (λk cs=> .one (stepR_cond hc)) (ha r m h μ w b a hr gf hf)|false=>exact fm.ahead hr (S1:=λk cs=>lone (b.atR a (.code y::k)) cs w) (λk cs=> .one (stepR_cond hc)) (hb r m h μ w b a hr gf hf)
 .trivial
theorem FP {id:Nat} {x:Code} {ra:Is} (ha:gY P B0 cx ra x):gY P B0 cx (Iu id ra) (.block id x):=by
 intro r m h μ w b a hr gf hf;refine fm.ahead hr (S1:=λk cs=>lone (b.atR a (.code x::.inBlock id::k)) cs w) (λk cs=> .one stepR_block) ?_;have h1:=ha r m h μ w b a hr gf hf;unfold Iu;cases hx:ra cx r m h with
 |fail=>trivial|ok r1 m1 lj=>
  rw [hx]at h1;intro k cs;obtain⟨μ1,a1,w1,hp,lr,hs⟩:=h1 (.inBlock id::k) cs;exact⟨μ1,a1,w1,hp,lr,hs.trans (.one stepR_inBlock)⟩
 |exit i r1 m1 lj=>
  rw [hx]at h1;simp only;cases hi:Nat.beq i id with
  |true=>
   intro k cs;obtain⟨μ1,a1,w1,hp,lr,k',he,hs⟩:=h1 (.inBlock id::k) cs;have hi:=Nat.eq_of_beq_eq_true hi;subst hi;have:exitTo i (.inBlock i::k)=some k:=(by simp [exitTo]);exact⟨μ1,a1,w1,hp,lr,hs.trans (.one (stepR_exit (he.trans this)))⟩
  |false=>
   intro k cs;obtain⟨μ1,a1,w1,hp,lr,k',he,hs⟩:=h1 (.inBlock id::k) cs;have dE:(id==i)=false:=by
    cases e:id==i with
    |false=>rfl|true=>rw [beq_iff_eq.1 e,Nat.beq_refl]at hi;cases hi
   have:exitTo i (.inBlock id::k)=exitTo i k:=(by simp [exitTo,dE]);exact⟨μ1,a1,w1,hp,lr,k',he.trans this,hs⟩
 |ret r1 m1 lj=>
  rw [hx]at h1;intro k cs;obtain⟨μ1,a1,w1,hp,lr,k',hs⟩:=h1 (.inBlock id::k) cs;exact⟨μ1,a1,w1,hp,lr,k',hs⟩
theorem yU {x:Code} {ra:Is} (ha:gY P B0 cx ra x):∀(n:Nat) (r:Tr AV) (m:List Pos) (h:Heap) (μ:Mu) (w:World) (b:Frame) (a:Act),HR μ B0 h w ->AR μ cx.nt r m a ->FR μ cx b ->
  fm P B0 μ h w cx.nt b (λk cs=>lone (b.atR a (.code x::.inLoop x::k)) cs w) (iter ra n cx r m h)
 |0,_,_,_,_,_,_,_,_,_,_=>trivial|n+1,r,m,h,μ,w,b,a,hr,gf,hf=>by
  have h1:=ha r m h μ w b a hr gf hf;show fm P B0 μ h w cx.nt b _ (R.casesOn (motive:=λ_=>(Cx ->Tr AV ->List Pos ->Heap ->R) ->Cx ->R) (ra cx r m h) (λ_ _=> .fail) (λr m h ih cx=>ih cx r m h)
   (λi r m h _ _=> .exit i r m h) (λr m h _ _=> .ret r m h) (iter ra n) cx)
  cases hx:ra cx r m h with
  |fail=>trivial|ok r1 m1 lj=>
   rw [hx]at h1;refine fm.step (h1:=lj) (λk cs=>?_);obtain⟨μ1,a1,w1,hp,lr,hs⟩:=h1 (.inLoop x::k) cs;exact⟨μ1,w1,λk cs=>lone (b.atR a1 (.code x::.inLoop x::k)) cs w1,hp,hs.trans (.one stepR_inLoop),yU ha n r1 m1 lj μ1 w1 b a1 hp.rel lr (hf.mono (hp.mu hr))⟩
  |exit i r1 m1 lj=>
   rw [hx]at h1;intro k cs;obtain⟨μ1,a1,w1,hp,lr,k',he,hs⟩:=h1 (.inLoop x::k) cs;exact⟨μ1,a1,w1,hp,lr,k',he,hs⟩
  |ret r1 m1 lj=>
   rw [hx]at h1;intro k cs;obtain⟨μ1,a1,w1,hp,lr,k',hs⟩:=h1 (.inLoop x::k) cs;exact⟨μ1,a1,w1,hp,lr,k',hs⟩
theorem Jr {x:Code} {ra:Is} (ha:gY P B0 cx ra x):gY P B0 cx (aaY ra) (.loop x):=by
 intro r m h μ w b a hr gf hf;exact fm.ahead hr (S1:=λk cs=>lone (b.atR a (.code x::.inLoop x::k)) cs w) (λk cs=> .one stepR_loop) (yU ha cx.fuel r m h μ w b a hr gf hf)
theorem qP (hP:cx.P=P) (bl:aW P B0 cx.call) {ops:Array Oper} {b:Frame}:∀(l:List Oper) (i:Nat) (r:Tr AV) (m:List Pos) (h:Heap) (μ:Mu) (w:World) (a:Act),(∀(n:Nat) o,l[n]?=some o ->ops[i+n]?=some o) ->
  HR μ B0 h w ->AR μ cx.nt r m a ->fm P B0 μ h w cx.nt b (λk cs=>lone (b.atR a (.inRegion ops (List.range' i l.length)::k)) cs w) (wP ops l cx r m h)
 |[],i,r,m,h,μ,w,a,hl,hr,gf=>λk cs=>⟨μ,a,w,bS.refl hr,gf,.one stepR_region_end⟩
 |o::l,i,r,m,h,μ,w,a,hl,hr,gf=>by
  have ho:ops[i]?=some o:=by simpa using hl 0 o rfl
  show fm P B0 μ h w cx.nt b _ (tn ops o cx r m h (λr m h=>wP ops l cx r m h));cases hx:tn ops o cx r m h (λr m h=>wP ops l cx r m h)with
  |fail=>trivial|_=>
   obtain⟨v,h',r',h1,h2,h3⟩:=yK hx (by simp);rw [<-h3];refine fm.step (h1:=h') (λk cs=>?_);have hw:=sO (μ:=μ) (ops:=ops) (o:=o) (r:=r) (tmps:=a.tmps) (λg s v _ _ hv=>gf.rr s v hv);have key:∃cv μ' w',dw μ' v cv/\bS μ B0 h w μ' h' w'/\Steps P (lone (b.atR a (.inRegion ops (i::List.range' (i+1) l.length)::k)) cs w) (lone (b.atR (a.put o.dst cv) (.inRegion ops (List.range' (i+1) l.length)::k)) cs w'):=by
    rcases h1 with ⟨hwa,oD⟩|⟨hwa,rfl,rfl⟩
    .exact LG hP bl oD hr gf.rr ops i _ k cs ho (hw.1 hwa)
    .exact⟨undef,μ,w,⟨#[],rfl,rfl⟩,bS.refl hr,vX ho (hw.2 hwa)⟩
   obtain⟨cv,μ',w',hv,hp,hs⟩:=key;obtain⟨g1,g2,g3⟩:=tG h2 (gf.rr.mono (hp.mu hr)) gf.size hv;exact⟨μ',w',λk cs=>lone (b.atR (a.put o.dst cv) (.inRegion ops (List.range' (i+1) l.length)::k)) cs w',hp,hs,
    qP hP bl l (i+1) r' m h' μ' w' (a.put o.dst cv) (λn o' hn=>by have:=hl (n+1) o' (by simpa using hn);rwa [show i+(n+1)=i+1+n by omega]at this) hp.rel ⟨g1,g2,by rw [g3];exact gf.dr.mono (hp.mu hr)⟩⟩
theorem Dy (hm:P.follows .mixedOrders=true) (hP:cx.P=P) (bl:aW P B0 cx.call) {id:Nat} {ops:Array Oper} {draw:Bool}:gY P B0 cx (λcx r m h=>xK ops draw cx r m h) (.region id ops draw):=by
 intro r m h μ w b a hr gf hf;cases draw with
 |false=>
  refine fm.ahead hr (S1:=λk cs=>lone (b.atR a (.inRegion ops (List.range' 0 ops.toList.length)::k)) cs w) (λk cs=>?_) (qP hP bl ops.toList 0 r m h μ w a (λn o hn=>by simpa using hn) hr gf);have:=stepR_region (P:=P) (b:=b) (a:=a) (k:=k) (cs:=cs) (w:=w) (ops:=ops) (id:=id);rw [List.range_eq_range']at this;exact .one (by simpa using this)
 |true=>
  show fm P B0 μ h w cx.nt b _ (Option.casesOn (motive:=λ_=>R) (tp ops) .fail (λpl=>lk ops pl cx r m h));cases oz:tp ops with
  |none=>trivial|some pl=>
   simp only;cases hx:lk ops pl cx r m h with
   |fail=>trivial|_=>
    have hd:=λk cs=>Jp (b:=b) hm hP bl oz hx (by simp) (HR.yx (w:=w) (w':=w.drew) rfl hr) gf.rr gf.size k cs (w.tape w.drawn (.order b.fn id));obtain⟨a1,w1,μ1,r1,h1,e1,_⟩:=hd [] [];cases e1;all_goals
     intro k cs;obtain⟨a',w',μ',r',h',e,hp,g1,g2,g3,hs⟩:=hd k cs;cases e;have my:bS μ B0 h w μ' _ w':=⟨hp.ext,hp.le,hp.rel,((Below.refl B0 w).drew).trans hp.below,hp.dF⟩
     refine⟨μ',a',w',my,⟨g1,g2,by rw [g3];exact gf.dr.mono (my.mu hr)⟩,.head (stepR_region_draw) (hs.trans (.one stepR_region_end))⟩
theorem FQ {x:Code} {ra:Is} (ha:gY P B0 cx ra x):gY P B0 cx ra (.scope x):=by
 intro r m h μ w b a hr gf hf;refine fm.ahead hr (S1:=λk cs=>lone (b.atR a (.code x::.inScope x::k)) cs w) (λk cs=> .one xb) ?_;have h1:=ha r m h μ w b a hr gf hf;cases hx:ra cx r m h with
 |fail=>trivial|ok r1 m1 lj=>
  rw [hx]at h1;intro k cs;obtain⟨μ1,a1,w1,hp,lr,hs⟩:=h1 (.inScope x::k) cs;exact⟨μ1,a1,w1,hp,lr,hs.trans (.one sQ)⟩
 |exit i r1 m1 lj=>
  rw [hx]at h1;intro k cs;obtain⟨μ1,a1,w1,hp,lr,k',he,hs⟩:=h1 (.inScope x::k) cs;exact⟨μ1,a1,w1,hp,lr,k',he,hs⟩
 |ret r1 m1 lj=>
  rw [hx]at h1;intro k cs;obtain⟨μ1,a1,w1,hp,lr,k',hs⟩:=h1 (.inScope x::k) cs;exact⟨μ1,a1,w1,hp,lr,k',hs⟩
end code
end
section
variable [aY]
variable {P:Program} {B0:Nat}
theorem Js {μ:Mu} {h:Heap} {w:World} (hr:HR μ B0 h w) (o:AO) (ob:Obj) (ho:AE (μ.put h.n ⟨w.heap.size,0,0⟩) (w.heap.push ob) ⟨w.heap.size,0,0⟩ o):
  bS μ B0 h w (μ.put h.n ⟨w.heap.size,0,0⟩) ⟨h.t.set o h.n,h.n.succ⟩ (w.alloc ob):=by
 have jJ:μ h.n=none:=by
  cases e:μ h.n with
  |none=>rfl|some C=>exact absurd (hr.fresh _ _ e) (by omega)
 have hsz:h.n.succ.toNat=h.n.toNat+1:=Pos.cU _;refine⟨?_,by show h.n.toNat<=h.n.succ.toNat;omega,?_,(Below.refl _ _).alloc hr.size _,Grow.refl _ _⟩
 .intro q hq;exact Mu.bq _ _ _ (λe'=>by subst e';omega)
 .refine hr.new h.n jJ o ⟨w.heap.size,0,0⟩ ob _ (by omega) (by omega) rfl _ ?_ ho;intro q p e;rw [Tr.bO]at e;by_cases hq:q=h.n
  .rw [if_pos hq]at e;cases e;exact .inl ⟨hq,rfl⟩
  .rw [if_neg hq]at e;exact .inr ⟨hq,e⟩
theorem Xv {μ:Mu} {h:Heap} {w w':World} (hr:HR μ B0 h w) (id:Pos) (B:nS) (hid:μ id=some B) (o0:AO) (h0:h.t.get id=some o0) (Ix:o0.uK=false) (dC:¬o0.cT B)
  (hb:∀k,k≠B.b ->w'.heap[k]?=w.heap[k]?) (hs:w.heap.size<=w'.heap.size):HR μ B0 (kill id h) w':=by
 have key:∀q p,(Tr.del h.t id).get q=some p ->q≠id/\h.t.get q=some p:=λq p e=>by
  rw [Tr.rH]at e;by_cases hq:q=id
  .rw [if_pos hq]at e;cases e
  .rw [if_neg hq]at e;exact⟨hq,e⟩
 refine⟨hr.fresh,λq o e=>hr.live q o (key q o e).2,?_,λi j A C p q pj e1 e2 e3 e4=>hr.sep i j A C p q pj e1 e2 (key _ _ e3).2 (key _ _ e4).2,λq B o e1 e2 e3=>hr.own q B o e1 (key _ _ e2).2 e3,hr.dM,Nat.le_trans hr.size hs,?_,λq B o e1 e2 e3=>hr.apart q B o e1 (key _ _ e2).2 e3,hr.tab⟩
 .intro q C p e1 e2;obtain⟨hq,e2⟩:=key q p e2;refine(hr.obj q C p e1 e2).heap ?_;rcases hr.sep q id C B p o0 hq e1 hid e2 h0 with h3|h3|h3
  .exact .inr (hb _ h3)
  .exact .inl h3
  .exact absurd h3 dC
 .intro b c e;obtain⟨el,fz,h1⟩:=hr.Aw b c e;have dE:b≠B.b:=λe'=>by
   have:=(hr.apart id B o0 hid h0 Ix).resolve_left dC;rw [e',this]at e;cases e
  exact⟨el,fz,(hb b dE).trans h1⟩
theorem gZ {a b c d e f g h i} {B:nS}:¬(AO.loop a b c d e f g h i).cT B:=λ⟨_,_,e⟩=>by cases e
theorem xy {B:nS}:¬AO.marks.cT B:=λ⟨_,_,e⟩=>by cases e
theorem Below.putObj {a w:World} (h:Below B0 a w) {r:Nat} (hr:B0<=r) (o:Obj):Below B0 a (w.putObj r o):=
 h.trans ⟨⟨rfl,rfl,rfl,by simp,λk hk=>World.putObj_heap_other (by omega)⟩,λ_=>Nat.le_refl _⟩
theorem FT {μ:Mu} {h:Heap} {w:World} (hr:HR μ B0 h w) (id:Pos) (B:nS) (hid:μ id=some B) (o0:AO) (h0:h.t.get id=some o0) (Ix:o0.uK=false) (dC:¬o0.cT B) (ob:Obj):
  bS μ B0 h w μ (kill id h) (w.putObj B.b ob):=
 ⟨λ_ _=>rfl,Nat.le_refl _,Xv hr id B hid o0 h0 Ix dC (λk hk=>World.putObj_heap_other hk) (by simp),Below.putObj (Below.refl _ _) ((hr.own id B o0 hid h0 Ix).resolve_left dC) ob,Grow.refl _ _⟩
theorem Dz {μ:Mu} {h:Heap} {w:World} (hr:HR μ B0 h w) (id:Pos) (B:nS) (hid:μ id=some B) (o0 o:AO) (h0:h.t.get id=some o0) (vO:o0.uK=false) (dC:¬o0.cT B) (Ix:o.uK=false) (ob:Obj) (ho:AE μ (w.putObj B.b ob).heap B o):
  bS μ B0 h w μ ⟨h.t.set o id,h.n⟩ (w.putObj B.b ob):=
 ⟨λ_ _=>rfl,Nat.le_refl _,hr.chg id B hid o Ix o0 h0 vO dC (λk hk=>World.putObj_heap_other hk) (by simp) ho _ (λq p e=>by
  rw [Tr.bO]at e;by_cases hq:q=id
  .rw [if_pos hq]at e;cases e;exact .inl ⟨hq,rfl⟩
  .rw [if_neg hq]at e;exact .inr ⟨hq,e⟩),Below.putObj (Below.refl _ _) ((hr.own id B o0 hid h0 vO).resolve_left dC) ob,Grow.refl _ _⟩
theorem yV {cx:Cx} {id:Pos} {r:Tr AV} {m:List Pos} {h:Heap} {μ:Mu} {w:World} {b:Frame} {a:Act} {B:nS} (hid:μ id=some B) (hr:HR μ B0 h w) (gf:AR μ cx.nt r m a):
  fm P B0 μ h w cx.nt b (λk cs=>lone (b.atR a (.endRangeFunc B.b::k)) cs w) (qx id r m h):=by
 unfold qx;split
 .rename_i ready gA fn im nt ps aZs bd wN hg;have AF:=hr.obj id B _ hid hg;obtain⟨l,h1,h2,_,h3,_⟩:=AF;cases fY:(Bool.casesOn (motive:=λ_=>Bool) ready (Option.casesOn (motive:=λ_=>Bool) gA false (λ_=>true)) true)with
  |false=>trivial|true=>
   have hnb:l.state≠.busy:=by
    rw [h2];cases ready with
    |true=>intro e;cases e|false=>
     cases gA with
     |none=>cases fY|some p=>intro e;cases e
   have AX:(Instr.endLoop B.b).run P w= .ok (tz gA) (w.putObj B.b (.loop {l with state:= .exhausted})):=(by rw [<-h3];exact run_endLoop (P:=P) h1 hnb);have RU:=FT hr id B hid _ hg rfl gZ (.loop {l with state:= .exhausted});simp only;cases gA with
   |none=>
    intro k cs;exact⟨μ,a,_,RU,gf,.one (stepR_endRangeFunc AX)⟩
   |some p=>
    cases p with
    |none=>
     intro k cs;exact⟨μ,a,_,RU,gf,k,.one (stepR_endRangeFunc AX)⟩
    |some i=>
     intro k cs;exact⟨μ,a,_,RU,gf,k,rfl,.one (stepR_endRangeFunc AX)⟩
 .trivial
theorem qQ {cx:Cx} (bl:aW P B0 cx.call) {f:Operand} {ps:Array Tmp} {assign body:Code} {id:Pos} {r:Tr AV} {m1:List Pos} {h h1:Heap} {μ μ1:Mu} {w w1:World} {b:Frame} {a:Act} {mark:List Deferred} {B:nS}
  (hr:HR μ B0 h w) (hp:bS μ B0 h w μ1 h1 w1) (hid:μ1 id=some B) (gf:AR μ1 cx.nt r m1 {a with defers:=mark++a.defers})
  (he:(Instr.enterLoop b.fn a.tmps ps assign body b.roundOf).run P w= .ok (B.b,mark) w1):
  fm P B0 μ h w cx.nt b (λk cs=>lone (b.atR a (.code (.rangeFunc f ps assign body)::k)) cs w)
   (match ev f r with
    | .func (.func g) a b=>
     CR.casesOn (motive:=λ_=>Pos ->Tr AV ->List Pos ->R) (cx.call (.fn g) (app a (.cons (.yield id) b)) h1) (λ_ _ _=> .fail) (λ_ h id r m=>qx id r m h) id r m1
    |_=> .fail):=by
 have hf:=aT hp.rel.dM gf.rr f;split
 .rename_i g p q ef;rw [ef]at hf;obtain⟨F,C,hf,_,hf1,hf2⟩:=hf;have hf:a.eval f= .func (.func g) F C:=by
   have:Act.eval {a with defers:=mark++a.defers} f=a.eval f:=(by cases f<;>rfl);rw [this]at hf;simpa using hf
  cases hc:cx.call (.fn g) (app p (.cons (.yield id) q)) h1 with
  |fail=>trivial|ret v h2=>
   simp only;obtain⟨Jb,Jc⟩:=bl _ _ _ _ _ hc μ1 w1 hp.rel;have eO:cG μ1 (app p (.cons (.yield id) q)) ((F++#[Value.func (.yield B.b) #[] #[]]++C).toList):=by
    rw [Array.toList_append,Array.toList_append,List.append_assoc];refine cG.app ?_ hf1;exact⟨_,_,rfl,⟨B,hid,rfl⟩,hf2⟩
   refine fm.step (h1:=h2) (λk cs=>?_);obtain⟨e,w2,fr,⟨cv,μ2,rfl,hv,lh⟩,tF,_,Jd⟩:=Jc _ eO (b.atR {a with defers:=mark++a.defers} (.inRangeFunc B.b::k)::cs);have oD:(resolve a.eval (rangeCall f B.b) 0).run P w1= .ok {target:= .fn (.func g) C,args:=F++#[Value.func (.yield B.b) #[] #[]]} w1:=by
    simp only [resolve,rangeCall,hf,Deferred.ofValue];simp [Sem.run_pure,Act.eval]
   have hinv:(invoke (Target.fn (.func g) C) (F++#[Value.func (.yield B.b) #[] #[]])).run P w1= .ok (.enter g (F++#[Value.func (.yield B.b) #[] #[]]++C)) w1:=Jb _;have yJ:=stepR_rangeFunc (P:=P) (b:=b) (a:=a) (k:=k) (cs:=cs) (w:=w) he oD hinv;refine⟨μ2,w2,λk cs=>lone (b.atR {a with defers:=mark++a.defers} (.endRangeFunc B.b::k)) cs w2,hp.trans lh,.head yJ (Steps.trans tF (.one ?_)),?_⟩
   .have cC:=step_leave_returned (c:=b.atR {a with defers:=mark++a.defers} (.inRangeFunc B.b::k)) (cs:=cs) Jd;rw [finish_atR_inRangeFunc]at cC;exact cC
   .have hmu:=lh.mu hp.rel;exact yV (hmu.m _ _ hid) lh.rel ⟨gf.rr.mono hmu,gf.size,gf.dr.mono hmu⟩
 .trivial
theorem LJ {μ:Mu} {heap:Array Obj} {l:Loop} {im:Tr AV} {nt:Nat} {d:Pos} {D:nS} {n:Nat} {fn:FuncId} (FU:l.fn=fn) (FV:RR μ im l.tmps) (hn:l.tmps.size=nt) (hs:l.state= .ready) (hp:l.pending=none) (hD:μ d=some D) (hd:l.defers=D.b) (hsz:heap.size=n):
  AE μ (heap.push (.loop l)) ⟨n,0,0⟩ (.loop true none fn im nt l.params l.assign l.body d):=by
 subst hsz;exact⟨l,by show(heap.push _)[heap.size]?=_;simp,hs,(λ_ _=>trivial),hp,FU,FV,hn,rfl,rfl,rfl,D,hD,hd⟩
theorem xA {cx:Cx} (bl:aW P B0 cx.call) {f:Operand} {ps:Array Tmp} {assign body:Code}:gY P B0 cx (ml f ps assign body) (.rangeFunc f ps assign body):=by
 intro r m h μ w b a hr gf hf;have AY:=hf.rd;unfold ml tu;cases hc:cx.rd with
 |none=>
  rw [hc]at AY;simp only at AY ⊢;have oC:=Js hr .marks (.deferred (some [])) (by show(w.heap.push _)[w.heap.size]?=_;simp);have RV:=oC.mu hr;have Xw:(μ.put h.n ⟨w.heap.size,0,0⟩) h.n=some ⟨w.heap.size,0,0⟩:=Mu.cz _ _ _;revert oC RV Xw;generalize (μ.put h.n ⟨w.heap.size,0,0⟩)=μ1;intro oC RV Xw;have dE:h.n≠h.n.succ:=λe=>by have:=Pos.cU h.n;rw [<-e]at this;omega
  have lh:=Js oC.rel (.loop true none cx.fn r cx.nt ps assign body h.n) (.loop {state:= .ready,pending:=none,fn:=b.fn,tmps:=a.tmps,params:=ps,assign,body,defers:=w.heap.size})
   (LJ (D:=⟨w.heap.size,0,0⟩) hf.fn ((gf.rr.mono RV).mono (Mu.po oC.rel.nT _)) gf.size rfl rfl (by
    rw [Mu.bq _ _ _ dE];exact Xw) rfl rfl)
  have OX:=lh.mu oC.rel;refine qQ bl (mark:=[{target:= .collected w.heap.size,args:=#[]}]) (B:=⟨(w.alloc (.deferred (some []))).heap.size,0,0⟩) hr (oC.trans lh) ?_ ⟨(gf.rr.mono RV).mono OX,gf.size,⟨⟨⟨w.heap.size,0,0⟩,OX.m _ _ Xw,rfl⟩,(gf.dr.mono RV).mono OX⟩⟩ ?_
  .exact Mu.cz _ _ _
  .rw [AY,run_enterLoop_outer];simp [World.size_alloc]
 |some id0=>
  rw [hc]at AY;obtain⟨B1,OY,Ix⟩:=AY;simp only;cases hd:Rm h id0 with
  |none=>trivial|some d=>
   simp only;unfold Rm at hd;split at hd
   .rename_i rdy pnd fn0 rg nt0 p0 a0 b0 d0 hg;cases hd;obtain⟨l,hl,_,_,_,_,_,_,_,_,_,D,hD,hDb⟩:=hr.obj id0 B1 _ OY hg;have lh:=Js hr (.loop true none cx.fn r cx.nt ps assign body d) (.loop {state:= .ready,pending:=none,fn:=b.fn,tmps:=a.tmps,params:=ps,assign,body,defers:=l.defers})
     (by
      have hle:μ.le (μ.put h.n ⟨w.heap.size,0,0⟩):=Mu.po hr.nT _;exact LJ (D:=D) hf.fn (gf.rr.mono hle) gf.size rfl rfl (hle.m _ _ hD) hDb rfl)
    have OX:=lh.mu hr;refine qQ bl (mark:=[]) (B:=⟨w.heap.size,0,0⟩) hr lh ?_ ⟨gf.rr.mono OX,gf.size,gf.dr.mono OX⟩ ?_
    .exact Mu.cz _ _ _
    .rw [Ix,run_enterLoop_inner hl]
   .cases hd
theorem fZ {cx:Cx} (hm:P.follows .mixedOrders=true) (hP:cx.P=P) (bl:aW P B0 cx.call):∀c,gY P B0 cx (sI c) c:=by
 intro c;induction c with
 |skip=>intro r m h μ w b a hr gf hf k cs;exact⟨μ,a,w,bS.refl hr,gf,.one stepR_skip⟩|region id ops draw=>exact Dy hm hP bl|seq x y Lx ihb=>exact OW Lx ihb|cond c x y Lx ihb=>exact Jq Lx ihb|block id x ih=>exact FP ih|loop x ih=>exact Jr ih|rangeFunc f ps x y _ _=>exact xA bl|exit i=>intro r m h μ w b a hr gf hf k cs;exact⟨μ,a,w,bS.refl hr,gf,k,rfl,Steps.refl P _⟩|scope x ih=>exact FQ ih|label l=>intro r m h μ w b a hr gf hf k cs;exact⟨μ,a,w,bS.refl hr,gf,.one stepR_label⟩|ret=>intro r m h μ w b a hr gf hf k cs;exact⟨μ,a,w,bS.refl hr,gf,k,Steps.refl P _⟩|goto l=>intro r m h μ w b a hr gf hf;trivial|refuse s=>intro r m h μ w b a hr gf hf;trivial
end
section
variable [aY]
variable {P:Program} {B0:Nat}
theorem nq {μ:Mu}:∀(m:List Pos) {h h':Heap} {w:World} (fr:Frame) (cs:List Frame),HR μ B0 h w ->DR μ m fr.defers ->gu m h=some h' ->fr.mode= .returning ->
  ∃w',bS μ B0 h w μ h' w'/\Steps P (lone fr cs w) (lone {fr with defers:=[]} cs w')
 |[],h,h',w,fr,cs,hr,hd,ht,hm=>by
  cases (show some h=some h' from ht);obtain⟨fn,tmps,todo,defers,mode,kind,ro⟩:=fr;cases defers with
  |cons _ _=>exact hd.elim|nil=>exact⟨w,bS.refl hr,Steps.refl P _⟩
 |id::m,h,h',w,fr,cs,hr,hd,ht,hm=>by
  obtain⟨fn,tmps,todo,defers,mode,kind,ro⟩:=fr;cases defers with
  |nil=>exact hd.elim|cons d ds=>
   obtain⟨⟨B,hB,aiH⟩,hd⟩:=hd;change (match h.t.get id with|some .marks=>gu m (kill id h)|_=>none)=some h' at ht;split at ht
   .rename_i hg;have AF:=hr.obj id B _ hB hg;have aft:=run_takeDeferred (P:=P) (show w.heap[B.b]?=some (.deferred (some []))from AF);have hp:=FT hr id B hB _ hg rfl xy (.deferred none);have cC:=step_collected (P:=P) (fr:=⟨fn,tmps,todo,d::ds,mode,kind,ro⟩) (cs:=cs) (by show mode≠.run;rw [show mode= .returning from hm];intro e;cases e) rfl aiH aft;obtain⟨w',my,hs⟩:=nq m ⟨fn,tmps,todo,ds,mode,kind,ro⟩ cs hp.rel hd ht hm;exact⟨w',hp.trans my,.head cC hs⟩
   .cases ht
def RX (tmps:Array Value):ResultVar ->Sem Value
 | .tmp t=>pure (tmps.getD t undef)| .cell a t=>do loadVar t (<-asAddr (tmps.getD a undef))
theorem Jt (fn:Func) (tmps:Array Value):results fn tmps=(do let vs<-fn.results.mapM (RX tmps);pure (if h:vs.size=1 then vs[0]else .tuple vs)):=rfl
theorem RY (tmps:Array Value) (t:Tmp):Act.eval ⟨tmps,[]⟩ (.tmp t)=tmps.getD t undef:=rfl
theorem Ju {x:ResultVar} {r:Tr AV} {h:Heap} {v:AV} {μ:Mu} {w:World} {tmps:Array Value} (hr:HR μ B0 h w) (FV:RR μ r tmps) (hx:Rn P x r h=some v):
  ∃cv,(RX tmps x).run P w= .ok cv w/\dw μ v cv:=by
 unfold Rn at hx;cases x with
 |tmp t=>
  simp only at hx;cases hx;have:=aT (a:=⟨tmps,[]⟩) hr.dM FV (.tmp t);exact⟨_,Sem.run_pure ..,this⟩
 |cell a t=>
  simp only at hx;have LK:=aT (a:=⟨tmps,[]⟩) hr.dM FV (.tmp a);rw [RY]at LK;unfold wO at hx;split at hx
  .rename_i l k he;have yC:ev (.tmp a) r= .cR l k:=he;rw [yC]at LK;obtain⟨b,o,xs,LK,hl,hs⟩:=LK;have LK:tmps.getD a undef= .pointer (some ⟨b,o+k,none⟩):=List.head_eq_of_cons_eq LK;obtain⟨cv,h1,h2⟩:=sJ hr hx hl hs;refine⟨cv,?_,h2⟩;show(do let x<-asAddr (tmps.getD a undef);loadVar t x:Sem Value).run P w=_;rw [LK,Sem.run_bind];simp only [asAddr,Sem.run_pure,Result.andThen_ok];exact h1
  .rename_i id off he;have yC:ev (.tmp a) r= .ptr id off:=he;rw [yC]at LK;obtain⟨B,hB,LK⟩:=LK;have LK:tmps.getD a undef= .pointer (some ⟨B.b,B.base+off,none⟩):=List.head_eq_of_cons_eq LK;have fin:∀cv,(loadVar t ⟨B.b,B.base+off,none⟩).run P w= .ok cv w ->(RX tmps (.cell a t)).run P w= .ok cv w:=by
    intro cv h1;show(do let x<-asAddr (tmps.getD a undef);loadVar t x:Sem Value).run P w=_;rw [LK,Sem.run_bind];simp only [asAddr,Sem.run_pure,Result.andThen_ok];exact h1
   split at hx
   .rename_i c n ro hg;obtain⟨cv,h1,h2⟩:=uM (x:=(c,n,ro)) hr hg hx hB;exact⟨cv,fin cv h1,h2⟩
   .rename_i l ro hg;obtain⟨xs,g1,g2,g3⟩:=qF hr hg hB;obtain⟨cv,h1,h2⟩:=qE (P:=P) hx g1 g3;exact⟨cv,fin cv h1,h2⟩
   .cases hx
  .cases hx
theorem yW {r:Tr AV} {h:Heap} {μ:Mu} {w:World} {tmps:Array Value} (hr:HR μ B0 h w) (FV:RR μ r tmps):∀(l:List ResultVar) {v:AV},qh P l r h=some v ->
  ∃vs:List Value,l.length=vs.length/\cG μ v vs/\∀(i:Nat) (x:ResultVar) (y:Value),l[i]?=some x ->vs[i]?=some y ->(RX tmps x).run P w= .ok y w
 |[],v,hv=>by cases (show some AV.nil=some v from hv);exact⟨[],rfl,rfl,by simp⟩
 |x::l,v,hv=>by
  change Option.casesOn (motive:=λ_=>Option AV) (Rn P x r h) none (λv=>Option.casesOn (motive:=λ_=>Option AV) (qh P l r h) none (λl=>some (.cons v l)))=some v at hv;cases h1:Rn P x r h with
  |none=>rw [h1]at hv;cases hv|some v1=>
   rw [h1]at hv;cases h2:qh P l r h with
   |none=>simp only [h2]at hv;cases hv|some v2=>
    simp only [h2]at hv;cases hv;obtain⟨cv,h3,h4⟩:=Ju hr FV h1;obtain⟨vs,h5,h6,h7⟩:=yW hr FV l h2;refine⟨cv::vs,by simp [h5],⟨cv,vs,rfl,h4,h6⟩,?_⟩;intro i x' y hi hj;cases i with
    |zero=>simp at hi hj;subst hi;subst hj;exact h3|succ i=>exact h7 i x' y (by simpa using hi) (by simpa using hj)
theorem nW {fn:Func} {r:Tr AV} {h:Heap} {μ:Mu} {w:World} {tmps:Array Value} (hr:HR μ B0 h w) (FV:RR μ r tmps) {l:AV} (hl:qh P fn.results.toList r h=some l):
  ∃cv,(results fn tmps).run P w= .ok cv w/\dw μ (yu l) cv:=by
 obtain⟨vs,h1,h2,h3⟩:=yW hr FV _ hl;have Xx:=sK (P:=P) (w:=w) (RX tmps) fn.results vs.toArray (by simpa using h1) (λi x y hi hj=>h3 i x y (by simpa using hi) (by simpa using hj));have bH:∀u,(if h:vs.toArray.size=1 then vs.toArray[0]else Value.tuple vs.toArray)=u ->(results fn tmps).run P w= .ok u w:=by
  intro u hu;rw [Jt,Sem.run_bind,Xx,Result.andThen_ok,Sem.run_pure,hu]
 have afu:l.len≠1 ->∃cv,(results fn tmps).run P w= .ok cv w/\dw μ (.aO l) cv:=by
  intro dE;refine⟨.tuple vs.toArray,bH _ ?_,⟨vs.toArray,rfl,by simpa using h2⟩⟩;rw [dif_neg];intro e;exact dE (h2.len.trans (by simpa using e))
 cases l with
 |nil=>exact afu (by intro e;change 0=1 at e;omega)|cons a t=>
  cases t with
  |nil=>
   obtain⟨cv,s,rfl,h4,h5⟩:=h2;cases (show s=[]from h5);exact⟨cv,bH _ (by simp),h4⟩
  |cons a2 t2=>exact afu (by intro e;change Nat.succ (Nat.succ t2.len)=1 at e;omega)|_=>obtain⟨_,_,_,_,h6⟩:=h2;exact h6.elim
 |_=>exact h2.elim
theorem tL {μ:Mu} {nt:Nat}:∀{aZs:AV} {i:Nat} {r r':Tr AV} {vs:List Value},gH aZs i nt r=some r' ->cG μ aZs vs ->
  (vs=[]\/i+vs.length<=nt)/\∀k v,r'.get (pathOf k)=some v ->(i<=k/\∃cv,vs[k - i]?=some cv/\dw μ v cv)\/r.get (pathOf k)=some v:=by
 intro aZs;induction aZs with
 |nil=>intro i r r' vs h hv;cases (show vs=[]from hv);cases (show some r=some r' from h);exact⟨.inl rfl,λk v e=> .inr e⟩|cons a t Lx pb=>
  intro i r r' vs h hv;obtain⟨cv,s,rfl,h1,h2⟩:=hv;change Bool.casesOn (motive:=λ_=>Option (Tr AV)) (bQ i nt) none (gH t (Nat.succ i) nt (r.set a (pathOf i)))=some r' at h;cases hl:bQ i nt with
  |false=>rw [hl]at h;cases h|true=>
   rw [hl]at h;have cJ:=bC.1 hl;obtain⟨h3,h4⟩:=pb h h2;refine⟨.inr ?_,?_⟩
   .rcases h3 with rfl|h3
    .simp;omega
    .simp only [List.length_cons];omega
   .intro k v e;rcases h4 k v e with ⟨h5,u,h6,h7⟩|h5
    .refine .inl ⟨by omega,u,?_,h7⟩;rw [show k - i=(k - Nat.succ i)+1 by omega];simpa using h6
    .rw [Tr.bO]at h5;by_cases hk:k=i
     .subst hk;rw [if_pos rfl]at h5;cases h5;exact .inl ⟨Nat.le_refl _,cv,by simp,h1⟩
     .rw [if_neg (λe=>hk (dV e))]at h5;exact .inr h5
 |_=>intro i r r' vs h hv;exact hv.elim
theorem yX {f:FuncId} {fn:Func} {c:Code} {cargs:Array Value} (FU:P.funcs[f]?=some fn) (hb:fn.body=some c):
  Frame.enter P f cargs .normal=(Frame.enter P f cargs .normal).atR ⟨cargs++Array.replicate (fn.ntmps - cargs.size) undef,[]⟩ [.code c]:=by
 simp [Frame.enter,Frame.atR,FU,hb]
theorem jt {fr fr2:Frame} {cs:List Frame} {w:World} {m:Machine} (e:fr=fr2) (h:Steps P (lone fr2 cs w) m):Steps P (lone fr cs w) m:=by rw [e];exact h
theorem DA (hm:P.follows .mixedOrders=true) (eG:eN P) {call:dY ->AV ->Heap ->CR} (bl:aW P B0 call) {fuel:Nat} {f:FuncId} {aZs:AV} {h h':Heap} {v:AV} (hc:xL P f aZs h call fuel= .ret v h') {μ:Mu} {w:World} (hr:HR μ B0 h w):
  (∀cargs:Array Value,(callFunc f cargs).run P w= .ok (.enter f cargs) w)/\∀cargs:Array Value,cG μ aZs cargs.toList ->
   Calls P f cargs w λe w'=>∃cv μ',e= .returned cv/\dw μ' v cv/\bS μ B0 h w μ' h' w':=by
 unfold xL at hc;cases FU:P.funcs[f]? with
 |none=>rw [FU]at hc;cases hc|some fn=>
  rw [FU]at hc;simp only at hc;cases hb:fn.body with
  |none=>rw [hb]at hc;cases hc|some c=>
   rw [hb]at hc;simp only at hc;refine⟨λcargs=>eG f fn cargs w FU (by rw [hb];rfl),?_⟩;intro cargs eO;cases gf:gH aZs 0 fn.ntmps .leaf with
   |none=>rw [gf]at hc;cases hc|some r=>
    rw [gf]at hc;simp only at hc;obtain⟨hlen,mo⟩:=tL gf eO;have hsz:cargs.size<=fn.ntmps:=by
     rcases hlen with e|e
     .have:cargs.size=0:=(by rw [<-Array.length_toList,e];rfl);omega
     .rw [Array.length_toList]at e;omega
    have hRR:RR μ r (cargs++Array.replicate (fn.ntmps - cargs.size) undef):=by
     intro k u hk;rcases mo k u hk with ⟨_,cv,h1,h2⟩|h1
     .refine⟨cv,?_,h2⟩;have h1:cargs[k]?=some cv:=(by simpa using h1);obtain⟨cJ,_⟩:=Array.getElem?_eq_some_iff.1 h1;rw [Array.getElem?_append_left cJ];exact h1
     .cases h1
    have OZ:AR μ fn.ntmps r [] ⟨cargs++Array.replicate (fn.ntmps - cargs.size) undef,[]⟩:=⟨hRR,by simp;omega,aA⟩
    have RZ:FR μ ⟨P,f,fn.ntmps,none,call,fuel⟩ (Frame.enter P f cargs .normal):=⟨rfl,rfl,rfl⟩
    have yY:=fZ (cx:=⟨P,f,fn.ntmps,none,call,fuel⟩) hm rfl bl c r [] h μ w (Frame.enter P f cargs .normal) _ hr OZ RZ;have fin:∀(r1:Tr AV) (m1:List Pos) (h1:Heap) (μ1:Mu) (a1:Act) (w1:World) (k1:List Item) (cs:List Frame),CP P fn r1 m1 h1= .ret v h' ->bS μ B0 h w μ1 h1 w1 ->AR μ1 fn.ntmps r1 m1 a1 ->
      Steps P (lone (Frame.enter P f cargs .normal) cs w) (lone {(Frame.enter P f cargs .normal).atR a1 k1 with mode:= .returning} cs w1) ->
      ∃e w' fr,(∃cv μ',e=Ending.returned cv/\dw μ' v cv/\bS μ B0 h w μ' h' w')/\Comes P (lone (Frame.enter P f cargs .normal) cs w) (lone fr cs w') e/\fr.fn=f/\fr.leaving P w' e:=by
     intro r1 m1 h1 μ1 a1 w1 k1 cs hl hp ha hs;unfold CP at hl;cases ht:gu m1 h1 with
     |none=>rw [ht]at hl;cases hl|some h2=>
      rw [ht]at hl;simp only at hl;cases oD:qh P fn.results.toList r1 h2 with
      |none=>rw [oD]at hl;cases hl|some l=>
       rw [oD]at hl;cases hl;obtain⟨w2,lh,kL⟩:=nq (P:=P) m1 {(Frame.enter P f cargs .normal).atR a1 k1 with mode:= .returning} cs hp.rel ha.dr ht rfl;obtain⟨cv,bH,hv⟩:=nW (fn:=fn) lh.rel ha.rr oD;exact⟨.returned cv,w2,_,⟨cv,μ1,rfl,hv,hp.trans lh⟩,hs.trans kL,rfl,rfl,rfl,rfl,fn,FU,bH⟩
    intro cs;have heq:=yX (P:=P) (cargs:=cargs) FU hb;cases hx:sI c ⟨P,f,fn.ntmps,none,call,fuel⟩ r [] h with
    |fail=>rw [hx]at hc;cases hc|exit i r1 m1 h1=>rw [hx]at hc;cases hc|ok r1 m1 h1=>
     rw [hx]at hc yY;obtain⟨μ1,a1,w1,hp,ha,hs⟩:=yY [] cs;have hs:=jt heq hs;exact fin r1 m1 h1 μ1 a1 w1 [] cs hc hp ha (hs.trans (.one (stepR_end rfl)))
    |ret r1 m1 h1=>
     rw [hx]at hc yY;obtain⟨μ1,a1,w1,hp,ha,k',hs⟩:=yY [] cs;have hs:=jt heq hs;exact fin r1 m1 h1 μ1 a1 w1 _ cs hc hp ha (hs.trans (.one (stepR_ret rfl)))
theorem qR {μ:Mu} {nt:Nat}:∀(ps:List Tmp) {aZs:AV} {r r':Tr AV} {vs:List Value} {tmps:Array Value},mn ps aZs nt r=some r' ->cG μ aZs vs ->RR μ r tmps ->tmps.size=nt ->
  ps.length=vs.length/\RR μ r' ((ps.zip vs).foldl (λtmps x=>tmps.setIfInBounds x.1 x.2) tmps)/\((ps.zip vs).foldl (λtmps x=>tmps.setIfInBounds x.1 x.2) tmps).size=nt
 |[],aZs,r,r',vs,tmps,h,hv,hr,hs=>by
  cases aZs with
  |nil=>cases (show some r=some r' from h);cases (show vs=[]from hv);exact⟨rfl,hr,hs⟩|_=>cases h
 |p::ps,aZs,r,r',vs,tmps,h,hv,hr,hs=>by
  cases aZs with
  |cons a t=>
   obtain⟨cv,s,rfl,h1,h2⟩:=hv;change Bool.casesOn (motive:=λ_=>Option (Tr AV)) (bQ p nt) none (mn ps t nt (r.set a (pathOf p)))=some r' at h;cases hl:bQ p nt with
   |false=>rw [hl]at h;cases h|true=>
    rw [hl]at h;have hp:ph (some p) nt a r=some (r.set a (pathOf p)):=(by unfold ph;simp only [hl]);obtain⟨g1,g2,_⟩:=tG hp (a:=⟨tmps,[]⟩) hr hs h1;obtain⟨g3,g4,g5⟩:=qR ps h h2 g1 g2;exact⟨by simp [g3],g4,g5⟩
  |_=>cases h
theorem sR (j:Option (Option Nat)):(tz j).isNone=Option.casesOn (motive:=λ_=>Bool) j true (λ_=>false):=by
 cases j with
 |none=>rfl|some x=>cases x<;>rfl
theorem jd {id:Pos} {B:nS} {jump:Option (Option Nat)} {h h':Heap} {v:AV} {μ:Mu} {w:World} (hid:μ id=some B) (hr:HR μ B0 h w) (he:jo id jump h= .ret v h'):
  ∃cv w',(Instr.endRound B.b (tz jump)).run P w= .ok cv w'/\dw μ v cv/\bS μ B0 h w μ h' w':=by
 unfold jo at he;split at he
 .rename_i ready gA fn im nt ps aZs bd wN hg;obtain⟨l,h1,h2,_,h3,h4,h5,h6,h7,h8,h9,D,Iw,OD⟩:=hr.obj id B _ hid hg;cases he;have cJ:=(Array.getElem?_eq_some_iff.1 h1).1;refine⟨_,_,run_endRound (tz jump) h1,?_,?_⟩
  .rw [sR];rfl
  .refine Dz hr id B hid _ _ hg rfl gZ rfl _ ⟨_,World.putObj_heap_same cJ,?_,(λ_ _=>trivial),rfl,h4,h5,h6,h7,h8,h9,D,Iw,OD⟩;show(if (tz jump).isNone then LoopState.ready else LoopState.done)=_;rw [sR];cases jump<;>rfl
 .cases he
theorem round_eq (l:Nat) (fn:FuncId) (tmps:Array Value) (assign body:Code):Frame.round l fn tmps assign body .normal=(Frame.round l fn tmps assign body .normal).atR ⟨tmps,[]⟩ [.code assign,.beginRound,.code body]:=rfl
theorem FW (hm:P.follows .mixedOrders=true) {call:dY ->AV ->Heap ->CR} (bl:aW P B0 call) {fuel:Nat} {id:Pos} {aZs:AV} {h h':Heap} {v:AV} (hc:CQ P id aZs h call fuel= .ret v h') {μ:Mu} {w:World} (hr:HR μ B0 h w):
  ∀B,μ id=some B ->∀cargs:Array Value,cG μ aZs cargs.toList ->∃fn tmps assign body,(Instr.yield B.b cargs).run P w= .ok (.round B.b fn tmps assign body) w/\
   ∀(c:Frame) (cs:List Frame),∃cv μ' w',dw μ' v cv/\bS μ B0 h w μ' h' w'/\Steps P (lone (Frame.round B.b fn tmps assign body .normal) (c::cs) w) (lone (c.finish cv) cs w'):=by
 intro B hB cargs eO;unfold CQ at hc;split at hc
 .rename_i ready gA fn im nt ps assign body wN hg;obtain⟨l,h1,h2,_,h3,h4,h5,h6,h7,h8,h9,D,Iw,OD⟩:=hr.obj id B _ hB hg;cases ready with
  |false=>cases hc|true=>
   simp only at hc;cases FV:mn ps.toList aZs nt im with
   |none=>rw [FV]at hc;cases hc|some r=>
    rw [FV]at hc;simp only at hc;obtain⟨g1,g2,g3⟩:=qR ps.toList FV eO h5 h6;subst h7;subst h8;subst h9;subst h4;have Jv:=run_yield (P:=P) (args:=cargs) h1 (by have:=g1;simp only [Array.length_toList]at this;omega);refine⟨_,_,_,_,Jv,?_⟩;intro c cs;have Sa:(l.params.zip cargs).foldl (λtmps (x:Tmp×Value)=>tmps.setIfInBounds x.1 x.2) l.tmps=(l.params.toList.zip cargs.toList).foldl (λtmps x=>tmps.setIfInBounds x.1 x.2) l.tmps:=by
     rw [<-Array.foldl_toList,Array.toList_zip]
    have OZ:AR μ nt r [] ⟨(l.params.zip cargs).foldl (λtmps (x:Tmp×Value)=>tmps.setIfInBounds x.1 x.2) l.tmps,[]⟩:=(by rw [Sa];exact⟨g2,g3,aA⟩);revert OZ;show AR μ nt r [] ⟨(l.params.zip cargs).foldl (λtmps (x:Tmp×Value)=>tmps.setIfInBounds x.1 x.2) l.tmps,[]⟩ ->∃cv μ' w',dw μ' v cv/\bS μ B0 h w μ' h' w'/\Steps P (lone (Frame.round B.b l.fn ((l.params.zip cargs).foldl (λtmps (x:Tmp×Value)=>tmps.setIfInBounds x.1 x.2) l.tmps) l.assign l.body .normal) (c::cs) w) (lone (c.finish cv) cs w');generalize (l.params.zip cargs).foldl (λtmps (x:Tmp×Value)=>tmps.setIfInBounds x.1 x.2) l.tmps=T;intro OZ;have RZ:FR μ ⟨P,l.fn,nt,some id,call,fuel⟩ (Frame.round B.b l.fn T l.assign l.body .normal):=⟨rfl,rfl,B,hB,rfl⟩
    have yY:=fZ (cx:=⟨P,l.fn,nt,some id,call,fuel⟩) hm rfl bl l.assign r [] h μ w _ _ hr OZ RZ;cases hx:sI l.assign ⟨P,l.fn,nt,some id,call,fuel⟩ r [] h with
    |fail=>rw [hx]at hc;cases hc|exit i r1 m1 lj=>rw [hx]at hc;cases hc|ret r1 m1 lj=>rw [hx]at hc;cases hc|ok r1 m1 hh1=>
     rw [hx]at hc yY;obtain⟨μ1,a1,w1,oC,rS,dt⟩:=yY [.beginRound,.code l.body] (c::cs);have OY:μ1 id=some B:=(oC.mu hr).m _ _ hB;change Bn (qy id hh1 (λh=>sI l.body ⟨P,l.fn,nt,some id,call,fuel⟩ r1 m1 h)) id= .ret v h' at hc;unfold qy at hc;split at hc
     .rename_i acD afv fn2 LL nt2 ps2 as2 bd2 Xy hg2;obtain⟨l2,k1,k2,_,k3,k4,k5,k6,k7,k8,k9,D2,k10,k11⟩:=oC.rel.obj id B _ OY hg2;cases acD with
      |false=>cases hc|true=>
       cases afv with
       |some _=>cases hc|none=>
        simp only at hc;have acE:=(Array.getElem?_eq_some_iff.1 k1).1;have Jw:=run_beginRound (P:=P) k1 k2;have lh:=Dz oC.rel id B OY _ (.loop false none fn2 LL nt2 ps2 as2 bd2 Xy) hg2 rfl gZ rfl (.loop {l2 with state:= .busy}) ⟨_,World.putObj_heap_same acE,rfl,(λ_ _=>trivial),k3,k4,k5,k6,k7,k8,k9,D2,k10,k11⟩;have vZ:=fZ (cx:=⟨P,l.fn,nt,some id,call,fuel⟩) hm rfl bl l.body r1 m1 _ μ1 _ (Frame.round B.b l.fn T l.assign l.body .normal) a1 lh.rel rS (RZ.mono (oC.mu hr));have kL:=(jt (round_eq B.b l.fn T l.assign l.body) dt).trans (.one (stepR_beginRound (P:=P) (b:=Frame.round B.b l.fn T l.assign l.body .normal) (a:=a1) (k:=[.code l.body]) (cs:=c::cs) rfl Jw));cases hx2:sI l.body ⟨P,l.fn,nt,some id,call,fuel⟩ r1 m1 ⟨hh1.t.set (.loop false none fn2 LL nt2 ps2 as2 bd2 Xy) id,hh1.n⟩with
        |fail=>rw [hx2]at hc;cases hc|ok r3 m3 QG=>
         rw [hx2]at hc vZ;obtain⟨μ3,a3,w3,FX,ha3,BG⟩:=vZ [] (c::cs);cases m3 with
         |cons _ _=>cases hc|nil=>
          have hB3:=(FX.mu lh.rel).m _ _ OY;obtain⟨cv,w4,bH,hv,Jx⟩:=jd (P:=P) (jump:=none) hB3 FX.rel hc;exact⟨cv,μ3,w4,hv,((oC.trans lh).trans FX).trans Jx,(kL.trans BG).trans (.one (stepR_round_end rfl rfl bH))⟩
        |exit i r3 m3 QG=>
         rw [hx2]at hc vZ;obtain⟨μ3,a3,w3,FX,ha3,k',vI,BG⟩:=vZ [] (c::cs);cases m3 with
         |cons _ _=>cases hc|nil=>
          have hB3:=(FX.mu lh.rel).m _ _ OY;obtain⟨cv,w4,bH,hv,Jx⟩:=jd (P:=P) (jump:=some (some i)) hB3 FX.rel hc;exact⟨cv,μ3,w4,hv,((oC.trans lh).trans FX).trans Jx,(kL.trans BG).trans (.one (stepR_round_exit rfl rfl vI bH))⟩
        |ret r3 m3 QG=>
         rw [hx2]at hc vZ;obtain⟨μ3,a3,w3,FX,ha3,k',BG⟩:=vZ [] (c::cs);cases m3 with
         |cons _ _=>cases hc|nil=>
          have hB3:=(FX.mu lh.rel).m _ _ OY;obtain⟨cv,w4,bH,hv,Jx⟩:=jd (P:=P) (jump:=some none) hB3 FX.rel hc;exact⟨cv,μ3,w4,hv,((oC.trans lh).trans FX).trans Jx,(kL.trans BG).trans (.one (stepR_round_ret rfl rfl bH))⟩
     .cases hc
 .cases hc
end
section
variable [aY]
def bsz (w:World) (b:Nat):Nat:=match w.heap[b]? with|some (.cells c _ _)=>c.size|_=>0
def QH (w:World) (s:Nat ->Option (Array Value)):Mu:=⟨λid=>if id.toNat<64 then some ⟨id.toNat,0,bsz w id.toNat⟩else none,s⟩
def mD (s:Nat ->Option (Array Value)) (w:World):Prop:=∀b c,s b=some c ->∃el fz,w.heap[b]?=some (.cells c el fz)
theorem qS:∀(l:List (AV×Nat)) (i:Nat) (t:Tr AO) (id:Pos) (o:AO),(vN l i t).get id=some o ->
  (∃j x c,l[j]?=some x/\id=pathOf (i+j)/\lay x.2 x.1 0 .leaf=some c/\o= .cells c x.2 true)\/t.get id=some o
 |[],i,t,id,o,h=> .inr h|x::l,i,t,id,o,h=>by
  change (vN l (Nat.succ i) (Option.casesOn (motive:=λ_=>Tr AO) (lay x.2 x.1 0 .leaf) t (λc=>t.set (.cells c x.2 true) (pathOf i)))).get id=some o at h;rcases qS l _ _ id o h with ⟨j,y,c,h1,h2,h3,h4⟩|h1
  .exact .inl ⟨j+1,y,c,by simpa using h1,by rw [h2];congr 1;omega,h3,h4⟩
  .cases hl:lay x.2 x.1 0 .leaf with
   |none=>rw [hl]at h1;exact .inr h1|some c=>
    rw [hl]at h1;change (t.set (.cells c x.2 true) (pathOf i)).get id=some o at h1;rw [Tr.bO]at h1;by_cases he:id=pathOf i
    .rw [if_pos he]at h1;cases h1;exact .inl ⟨0,x,c,rfl,he,hl,rfl⟩
    .rw [if_neg he]at h1;exact .inr h1
def LM (w:World) (l:List (AV×Nat)):Prop:=
 ∀(i:Nat) (x:AV×Nat),l[i]?=some x ->x.1≠.undef ->∃(c:Array Value) (el:TypeId) (fz:Nat×Nat) (vs:List Value),w.heap[i]?=some (.cells c el fz)/\c.size=x.2/\(∀μ,cG μ x.1 vs)/\∀(k:Nat) (v:Value),vs[k]?=some v ->c[k]?=some v
def ju (w:World) (n:Nat):Nat ->Option (Array Value):=λb=>if b<n then match w.heap[b]? with|some (.cells c _ _)=>some c|_=>none else none
theorem DB (w:World) (n:Nat):mD (ju w n) w:=by
 intro b c e;unfold ju at e;split at e
 .split at e
  .rename_i c' el fz h;cases e;exact⟨el,fz,h⟩
  .cases e
 .cases e
theorem LM.shut {w:World} {l:List (AV×Nat)} (h:LM w l) {n:Nat} (hn:l.length<=n):AD (ju w n) l:=by
 intro i x hi hu;obtain⟨c,el,fz,vs,h1,h2,h3,h4⟩:=h i x hi hu;have cJ:=(List.getElem?_eq_some_iff.1 hi).1;refine⟨c,vs,?_,h2,h3,h4⟩;unfold ju;rw [if_pos (by omega),h1]
theorem FY (hlen:aY.l.length<=64) {w:World} {s:Nat ->Option (Array Value)} (hs:mD s w) (htab:AD s aY.l):HR (QH w s) w.heap.size (lX aY.l 64) w:=by
 generalize hl:aY.l=l at*;have hmu:∀id B,QH w s id=some B ->id.toNat<64/\B=⟨id.toNat,0,bsz w id.toNat⟩:=by
  intro id B h;change (if id.toNat<64 then some (⟨id.toNat,0,bsz w id.toNat⟩:nS)else none)=some B at h;split at h
  .rename_i cJ;cases h;exact⟨cJ,rfl⟩
  .cases h
 have hn:(lX l 64).n.toNat=64:=eA 64;have BH:∀id o,(lX l 64).t.get id=some o ->∃j x c,l[j]?=some x/\id=pathOf j/\lay x.2 x.1 0 .leaf=some c/\o= .cells c x.2 true:=by
  intro id o h;rcases qS l 0 .leaf id o h with ⟨j,x,c,h1,h2,h3,h4⟩|h1
  .exact⟨j,x,c,h1,by rw [h2];congr 1;omega,h3,h4⟩
  .cases h1
 refine⟨?_,?_,?_,?_,?_,?_,Nat.le_refl _,hs,?_,by rw [hl];exact htab⟩
 .intro id B h;rw [hn];exact(hmu id B h).1
 .intro id o h;obtain⟨j,x,c,h1,h2,_⟩:=BH id o h;have:=(List.getElem?_eq_some_iff.1 h1).1;rw [hn,h2,eA];omega
 .intro id B o h1 h2;obtain⟨cJ,rfl⟩:=hmu id B h1;obtain⟨j,x,c,h3,h4,h5,h6⟩:=BH id o h2;subst h6;have hu:x.1≠.undef:=λe=>by
   rw [e]at h5;cases hx:x.2 with
   |zero=>rw [hx]at h5;cases h5|succ n=>rw [hx]at h5;cases h5
  obtain⟨cs,vs,g0,g9,g2,g3⟩:=htab j x h3 hu;obtain⟨el,fz,g1⟩:=hs j cs g0;have hid:id.toNat=j:=by rw [h4,eA]
  have hb:bsz w id.toNat=cs.size:=by rw [hid];unfold bsz;rw [g1]
  obtain⟨k1,k2,k3⟩:=uJ x.2 h5 (g2 (QH w s));have hle:x.2<=cs.size:=by
   rcases Nat.eq_zero_or_pos x.2 with e|e
   .omega
   .have cJ:x.2 - 1<vs.length:=(by omega);have:=g3 (x.2 - 1) _ (List.getElem?_eq_getElem cJ);have:=(Array.getElem?_eq_some_iff.1 this).1;omega
  refine⟨by rw [hb];exact hle,cs,el,fz,by show w.heap[id.toNat]?=_;rw [hid];exact g1,by show 0+bsz w id.toNat<=_;omega,⟨(λe=>by cases e),λ_=>g9⟩,?_⟩;intro k v hk;rcases k3 k v hk with ⟨_,a2,cv,a3,a4⟩|⟨_,a2⟩
  .refine⟨by show k<bsz w id.toNat;omega,cv,?_,a4⟩;show cs[0+k]?=some cv;rw [Nat.zero_add];exact g3 k cv (by simpa using a3)
  .cases a2
 .intro i j A B o p pj h1 h2 h3 h4;refine .inl λe=>?_;obtain⟨_,rfl⟩:=hmu i A h1;obtain⟨_,rfl⟩:=hmu j B h2;obtain⟨j1,_,_,_,e1,_⟩:=BH i o h3;obtain⟨j2,_,_,_,e2,_⟩:=BH j p h4;have e:i.toNat=j.toNat:=e;rw [e1,e2,eA,eA]at e;exact pj (by rw [e1,e2,e])
 .intro id B o h1 h2 h3;obtain⟨j,x,c,_,_,_,h6⟩:=BH id o h2;subst h6;cases h3
 .intro g hg;exact⟨bsz w g,by show(if (pathOf g).toNat<64 then _ else _)=_;rw [eA,if_pos hg]⟩
 .intro id B o h1 h2 h3;obtain⟨j,x,c,_,_,_,h6⟩:=BH id o h2;subst h6;cases h3
def BI (P:Program):Bool:=P.funcs.all λfn=>fn.name != "runtime.NumGoroutine"
theorem FZ {P:Program} (h:BI P=true):eN P:=by
 intro f fn args w hf hb;have dE:(fn.name== "runtime.NumGoroutine")=false:=by
  unfold BI at h;have:=Array.all_eq_true.1 h;obtain⟨cJ,he⟩:=Array.getElem?_eq_some_iff.1 hf;have:=this f cJ;rw [he]at this;simpa [bne]using this
 obtain⟨c,hc⟩:=Option.isSome_iff_exists.1 hb;have aiI:¬fn.name= "runtime.NumGoroutine" :=λe=>by rw [e]at dE;simp at dE
 simp [callFunc,go_sem,hf,hc,aiI]
theorem vg (k:IntKind):∀(l:List Int) (μ:Mu),cG μ (tx k l) (l.map (Value.int k))
 |[],μ=>rfl|n::l,μ=>⟨_,_,rfl,rfl,vg k l μ⟩
theorem xc {k:IntKind}:∀(l:List Int) {μ:Mu} {vs:List Value},cG μ (tx k l) vs ->vs=l.map (Value.int k)
 |[],μ,vs,h=>h|n::l,μ,vs,h=>by
  obtain⟨v,r,rfl,h1,h2⟩:=h;have h1:v= .int k n:=List.head_eq_of_cons_eq h1;rw [h1,xc l h2];rfl
end
section
variable [aY]
section
def Ga (P:Program) (ov:dY ->AV ->Heap ->Option CR) (fuel:Nat) (n:Nat):dY ->AV ->Heap ->CR:=
 Nat.rec (motive:=λ_=>dY ->AV ->Heap ->CR) (λ_ _ _=> .fail)
  (λ_ ih t aZs h=>Option.casesOn (motive:=λ_=>CR) (ov t aZs h) (dY.casesOn (motive:=λ_=>CR) t (λf=>xL P f aZs h ih fuel) (λid=>CQ P id aZs h ih fuel)) (λr=>r)) n
end
variable {P:Program} {B0:Nat}
def xB (P:Program) (B0:Nat) (ov:dY ->AV ->Heap ->Option CR):Prop:=aW P B0 (λt aZs h=>(ov t aZs h).getD .fail)
theorem qT (hm:P.follows .mixedOrders=true) (eG:eN P) {ov:dY ->AV ->Heap ->Option CR} (HX:xB P B0 ov) (fuel:Nat):∀n,aW P B0 (Ga P ov fuel n)
 |0=>λt aZs h v h' hc=>by cases hc
 |n+1=>λt aZs h v h' hc μ w hr=>by
  change (Option.casesOn (motive:=λ_=>CR) (ov t aZs h) (dY.casesOn (motive:=λ_=>CR) t (λf=>xL P f aZs h (Ga P ov fuel n) fuel) (λid=>CQ P id aZs h (Ga P ov fuel n) fuel)) (λr=>r))= .ret v h' at hc;cases ho:ov t aZs h with
  |some r=>
   rw [ho]at hc;have hc:r= .ret v h':=hc;exact HX t aZs h v h' (by show(ov t aZs h).getD CR.fail=_;rw [ho];exact hc) μ w hr
  |none=>
   rw [ho]at hc;cases t with
   |fn f=>exact DA hm eG (qT hm eG HX fuel n) hc hr|rd id=>exact FW hm (qT hm eG HX fuel n) hc hr
theorem HR.below {μ:Mu} {h:Heap} {w w':World} (hr:HR μ B0 h w) (hb:Below w.heap.size w w'):HR μ B0 h w':=
 ⟨hr.fresh,hr.live,λid B o e1 e2=>(hr.obj id B o e1 e2).heap ((hr.obj id B o e1 e2).lt.imp (λh=>h) (hb.block _)),hr.sep,hr.own,hr.dM,Nat.le_trans hr.size hb.size,
  λb c e=>let ⟨el,fz,h1⟩:=hr.Aw b c e;⟨el,fz,(hb.block b (Array.getElem?_eq_some_iff.1 h1).1).trans h1⟩,hr.apart,hr.tab⟩
theorem bS.same {μ:Mu} {h:Heap} {w w':World} (hr:HR μ B0 h w) (hb:Below w.heap.size w w'):bS μ B0 h w μ h w':=
 ⟨λ_ _=>rfl,Nat.le_refl _,hr.below hb,hb.mono hr.size,Grow.refl _ _⟩
section
end
end
section
variable [aY]
section
def f0 (v:AV) (k:AV ->Prop):Prop:=AV.casesOn (motive:=λ_=>Prop) v (k .undef) (λb=>k (.bool b)) (λkd n=>k (.int kd n)) (λkd a b=>k (.xu kd a b)) (λs=>k (.str s)) (λm=>k (.qn m)) (λid o=>k (.ptr id o)) (λl j=>k (.cR l j)) (k .eZ) (λid a b c d=>k (.slice id a b c d)) (λn l=>k (.ro n l)) (λid n z=>k (.gs id n z)) (λid z=>k (.sle id z)) (k .bA) (λid=>k (.map id)) (k .qo) (λf a b=>k (.func f a b)) (λid=>k (.yield id)) (k .kO) (λt v=>k (.iface t v)) (k .lK) (λl=>k (.agg l)) (λl=>k (.aO l)) (k .nil) (λa t=>k (.cons a t))
def f0L:AV ->(AV ->Prop) ->Prop
 | .cons a t,k=>f0 a λa'=>f0L t λt'=>k (.cons a' t')
 |v,k=>f0 v k
def f1 (v:AV) (k:AV ->Prop):Prop:=AV.casesOn (motive:=λ_=>Prop) v (k .undef) (λb=>k (.bool b)) (λkd n=>k (.int kd n)) (λkd a b=>k (.xu kd a b)) (λs=>k (.str s)) (λm=>k (.qn m)) (λid o=>k (.ptr id o)) (λl j=>k (.cR l j)) (k .eZ) (λid a b c d=>k (.slice id a b c d)) (λn l=>k (.ro n l)) (λid n z=>k (.gs id n z)) (λid z=>k (.sle id z)) (k .bA) (λid=>k (.map id)) (k .qo) (λf a b=>k (.func f a b)) (λid=>k (.yield id)) (k .kO) (λt v=>k (.iface t v)) (k .lK) (λl=>f0L l λl'=>k (.agg l')) (λl=>k (.aO l)) (k .nil) (λa t=>k (.cons a t))
def f1L:AV ->(AV ->Prop) ->Prop
 | .cons a t,k=>f1 a λa'=>f1L t λt'=>k (.cons a' t')
 |v,k=>f0 v k
def fV (v:AV) (k:AV ->Prop):Prop:=AV.casesOn (motive:=λ_=>Prop) v (k .undef) (λb=>k (.bool b)) (λkd n=>k (.int kd n)) (λkd a b=>k (.xu kd a b)) (λs=>k (.str s)) (λm=>k (.qn m)) (λid o=>k (.ptr id o)) (λl j=>k (.cR l j)) (k .eZ) (λid a b c d=>k (.slice id a b c d)) (λn l=>k (.ro n l)) (λid n z=>k (.gs id n z)) (λid z=>k (.sle id z)) (k .bA) (λid=>k (.map id)) (k .qo) (λf a b=>k (.func f a b)) (λid=>k (.yield id)) (k .kO) (λt v=>k (.iface t v)) (k .lK) (λl=>f0L l λl'=>k (.agg l')) (λl=>f1L l λl'=>k (.aO l')) (k .nil) (λa t=>k (.cons a t))
theorem aa6 (v:AV) (k:AV ->Prop):f0 v k=k v:=by cases v<;>rfl
theorem DC:∀(v:AV) (k:AV ->Prop),f0L v k=k v
 | .cons a t,k=>by show f0 a _=_;rw [aa6,DC t]
 | .nil,k=>rfl| .undef,_| .bool _,_| .int _ _,_| .xu _ _ _,_| .str _,_| .qn _,_| .ptr _ _,_| .cR _ _,_| .eZ,_| .slice _ _ _ _ _,_| .ro _ _,_| .gs _ _ _,_| .sle _ _,_| .bA,_| .map _,_| .qo,_
 | .func _ _ _,_| .yield _,_| .kO,_| .iface _ _,_| .lK,_| .agg _,_| .aO _,_=>rfl
theorem afw (v:AV) (k:AV ->Prop):f1 v k=k v:=by
 cases v with
 |agg l=>show f0L l _=_;rw [DC]|_=>rfl
theorem DD:∀(v:AV) (k:AV ->Prop),f1L v k=k v
 | .cons a t,k=>by show f1 a _=_;rw [afw,DD t]
 | .nil,k=>rfl| .undef,_| .bool _,_| .int _ _,_| .xu _ _ _,_| .str _,_| .qn _,_| .ptr _ _,_| .cR _ _,_| .eZ,_| .slice _ _ _ _ _,_| .ro _ _,_| .gs _ _ _,_| .sle _ _,_| .bA,_| .map _,_| .qo,_
 | .func _ _ _,_| .yield _,_| .kO,_| .iface _ _,_| .lK,_| .agg _,_| .aO _,_=>rfl
theorem Sb (v:AV) (k:AV ->Prop):fV v k=k v:=by
 cases v with
 |agg l=>show f0L l _=_;rw [DC]|aO l=>show f1L l _=_;rw [DD]|_=>rfl
def BJ {α:Type} (x:α):Pos ->(Tr α ->Prop) ->Prop
 | .e,k=>k (.node .leaf (some x) .leaf)| .o p,k=>BJ x p λt=>k (.node t none .leaf)
 | .i p,k=>BJ x p λt=>k (.node .leaf none t)
def Gb {α:Type} (x:α):Tr α ->Pos ->(Tr α ->Prop) ->Prop
 | .leaf,p,k=>BJ x p k| .node l v r,.e,k=>k (.node l (some x) r)| .node l v r,.o p,k=>Gb x l p λl'=>k (.node l' v r)
 | .node l v r,.i p,k=>Gb x r p λr'=>k (.node l v r')
theorem yZ {α:Type} (x:α):∀(p:Pos) (k:Tr α ->Prop),BJ x p k=k (Tr.AB x p)
 | .e,k=>rfl| .o p,k=>by show BJ x p _=_;rw [yZ x p];rfl
 | .i p,k=>by show BJ x p _=_;rw [yZ x p];rfl
theorem vh {α:Type} (x:α):∀(t:Tr α) (p:Pos) (k:Tr α ->Prop),Gb x t p k=k (Tr.set x t p)
 | .leaf,p,k=>yZ x p k| .node l v r,.e,k=>rfl| .node l v r,.o p,k=>by show Gb x l p _=_;rw [vh x l p];rfl
 | .node l v r,.i p,k=>by show Gb x r p _=_;rw [vh x r p];rfl
def fTv:Tr AV ->(Tr AV ->Prop) ->Prop
 | .leaf,k=>k .leaf| .node l v r,k=>fTv l λl'=>fTv r λr'=>match v with|none=>k (.node l' none r')|some v=>f0 v λv'=>k (.node l' (some v') r')
theorem Jy:∀(t:Tr AV) (k:Tr AV ->Prop),fTv t k=k t
 | .leaf,k=>rfl| .node l v r,k=>by
  show fTv l _=_;rw [Jy l,Jy r];cases v with
  |none=>rfl|some v=>show f0 v _=_;rw [aa6]
def fO (o:AO) (k:AO ->Prop):Prop:=AO.casesOn (motive:=λ_=>Prop) o (λt n ro=>fTv t λt'=>k (.cells t' n ro)) (λl ro=>k (.gl l ro)) (λl=>k (.mp l)) (λl n=>k (.si l n)) (λa b c=>k (.mi a b c)) (λa b c d e f g h i=>k (.loop a b c d e f g h i)) (k .marks)
theorem afx (o:AO) (k:AO ->Prop):fO o k=k o:=by
 cases o with
 |cells t n ro=>show fTv t _=_;rw [Jy]|_=>rfl
def fTo:Tr AO ->(Tr AO ->Prop) ->Prop
 | .leaf,k=>k .leaf| .node l v r,k=>fTo l λl'=>fTo r λr'=>match v with|none=>k (.node l' none r')|some v=>fO v λv'=>k (.node l' (some v') r')
theorem Jz:∀(t:Tr AO) (k:Tr AO ->Prop),fTo t k=k t
 | .leaf,k=>rfl| .node l v r,k=>by
  show fTo l _=_;rw [Jz l,Jz r];cases v with
  |none=>rfl|some v=>show fO v _=_;rw [afx]
def Pb:Pos ->(Pos ->Prop) ->Prop
 | .e,k=>k .e| .o p,k=>Pb p λp'=>k (.o p')
 | .i p,k=>Pb p λp'=>k (.i p')
theorem DE:∀(p:Pos) (k:Pos ->Prop),Pb p k=k p
 | .e,k=>rfl| .o p,k=>by show Pb p _=_;rw [DE p]
 | .i p,k=>by show Pb p _=_;rw [DE p]
def fH:Heap ->(Heap ->Prop) ->Prop
 |⟨t,n⟩,k=>fTo t λt'=>Pb n λn'=>k ⟨t',n'⟩
theorem afy (h:Heap) (k:Heap ->Prop):fH h k=k h:=by
 obtain⟨t,n⟩:=h;show fTo t _=_;rw [Jz,DE]
structure aG (z:Int) (n:Nat) (k:Nat ->Prop):Prop where
 lo:0<=z
 hi:z<(n:Int)
 k:k z.toNat
structure JA (z:Int) (n:Nat) (k:Nat ->Prop):Prop where
 lo:0<=z
 hi:z<=(n:Int)
 k:k z.toNat
structure MkP (ln cp:Int) (by_:Nat) (z:AV) (k:Nat ->AV ->Prop):Prop where
 lo:0<=ln
 le:ln<=cp
 fit:cp*((by_+1:Nat):Int)<=1099511627776
 k:k ln.toNat (fQ ln.toNat z)
structure StP (off n:Nat) (g c:AV) (k:AV ->Prop):Prop where
 fit:off+n<=g.len
 k:k (gO off g c)
def Pc (v:AV) (len:Nat) (k:Nat ->Prop):Prop:=match v with| .int _ z=>aG z len k|_=>False
def qU (v:Option AV) (ack most:Nat) (k:Nat ->Prop):Prop:=match v with|none=>k ack|some (.int _ z)=>JA z most k|some _=>False
abbrev VK:=AV ->Heap ->Prop
def LN (x:OR) (k:VK):Prop:=match x with| .val v h=>k v h|_=>False
def vi (x:Option AV) (h:Heap) (k:VK):Prop:=match x with|some v=>k v h|none=>False
def tM (t:TypeId) (x ix:Operand) (P:Program) (r:Tr AV) (h:Heap) (k:VK):Prop:=
 match P.underlying t,ev x r with
 |some (.slice e),.slice id off len _ sz=>(match fL P e with|some z=>Bool.casesOn (motive:=λ_=>Prop) (Nat.beq z sz) False (Pc (ev ix r) len λi=>k (.ptr id (Nat.add off (Nat.mul i sz))) h)|none=>False)
 |some (.slice e),.ro n l=>(match fL P e with|some z=>Pc (ev ix r) n λi=>k (.cR l (Nat.mul i z)) h|none=>False)
 |some (.slice e),.gs id n sz=>(match fL P e with|some z=>Bool.casesOn (motive:=λ_=>Prop) (Nat.beq z sz) False (Pc (ev ix r) n λi=>k (.ptr id (Nat.mul i sz)) h)|none=>False)
 |_,_=>vi (fS t x ix P r) h k
def JB (t:TypeId) (x ix:Operand) (P:Program) (r:Tr AV) (h:Heap) (k:VK):Prop:=
 match P.underlying t,ev x r with
 |some .string,.str s=>Pc (ev ix r) s.length λi=>k (.int .u8 (.ofNat (s.getD i 0))) h
 |_,_=>vi (tm t x ix P r) h k
def Sc (t:TypeId) (a:Operand) (P:Program) (r:Tr AV) (h:Heap) (k:VK):Prop:=
 match ev a r with
 | .cR l j=>∃v,fR P t (cX j l)=some v/\k v h| .ptr id off=>(match h.t.get id with
  |some (.cells c _ _)=>vi (CH P t c off) h k|some (.gl l _)=>∃v,fR P t (cX off l)=some v/\k v h|_=>False)
 |_=>False
def JC (t:TypeId) (a x:Operand) (P:Program) (r:Tr AV) (h:Heap) (k:VK):Prop:=
 match ev a r with
 | .ptr id off=>(match h.t.get id,fL P t with
  |some (.gl g false),some n=>Bool.casesOn (motive:=λ_=>Prop) (aF (Nat.beq (ev x r).cells.len n) (dJ (ev x r).cells)) False
   (f0L (ev x r).cells λc=>StP off n g c λg'=>k (.aO .nil) ⟨h.t.set (.gl g' false) id,h.n⟩)
  |_,_=>LN (tj t a x P r h) k)
 |_=>False
def JD (t:TypeId) (x:Operand) (lo hi mx:Option Operand) (P:Program) (r:Tr AV) (h:Heap) (k:VK):Prop:=
 match mx with
 |some _=>False|none=>
  match P.underlying t,ev x r with
  |some .string,.str s=>qU (hi.map (ev · r)) s.length s.length λhh=>qU (lo.map (ev · r)) 0 hh λll=>k (.str (Xb s ll (hh - ll))) h
  |some (.slice e),.ro n l=>(match fL P e with
   |some z=>qU (hi.map (ev · r)) n n λhh=>qU (lo.map (ev · r)) 0 hh λll=>∃l',dQ (Nat.mul (hh - ll) z) (cX (Nat.mul ll z) l)=some l'/\k (.ro (hh - ll) l') h
   |none=>False)
  |some (.slice e),.gs id n sz=>(match fL P e with
   |some z=>Bool.casesOn (motive:=λ_=>Prop) (Nat.beq z sz) False (qU (hi.map (ev · r)) n n λhh=>
    (match lo with
     |none=>k (.gs id hh sz) h|some y=>qU (some (ev y r)) 0 hh λll=>(ll=0/\k (.gs id hh sz) h)\/((0<ll/\ll<hh)/\k (.slice id (Nat.mul ll sz) (hh - ll) (n - ll) sz) h)\/((0<ll/\ll=hh)/\k (.ro 0 .nil) h)))
   |none=>False)
  |_,_=>vi (fk t x lo hi mx P r h) h k
def tO (t:TypeId) (l c:Operand) (P:Program) (r:Tr AV) (h:Heap) (k:VK):Prop:=
 match iH P t with
 |none=>False|some e=>(match dI P e,fL P e,iI P e,ev l r,ev c r with
  |some z,some sz,some by_,.int _ ln,.int _ cp=>Bool.casesOn (motive:=λ_=>Prop) (Nat.beq z.len sz) False
   (MkP ln cp by_ z λn l=>k (.gs h.n n sz) ⟨h.t.set (.gl l false) h.n,h.n.succ⟩)
  |_,_,_,_,_=>False)
def Sd (c a b:Operand) (r:Tr AV) (h:Heap) (k:VK):Prop:=
 match ev c r with
 | .bool t=>Bool.casesOn (motive:=λ_=>Prop) t (k (ev b r) h) (k (ev a r) h)|_=>False
def LO (f:Nat ->Nat ->Nat) (kd:IntKind) (a b:Int) (h:Heap) (k:VK):Prop:=
 ((0:Int)<=a/\fits kd a=true/\0<=b/\fits kd b=true)/\k (.int kd (.ofNat (f a.toNat b.toNat))) h
def acF (op:BinOp) (t:TypeId) (x y:Operand) (P:Program) (r:Tr AV) (h:Heap) (k:VK):Prop:=
 match ev x r,ev y r with
 | .int kd a,.int ld b=>
  (match op with
   | .quo=>Bool.casesOn (motive:=λ_=>Prop) (qp kd ld) False (b≠0/\k (.int kd (ah kd (Int.tdiv a b))) h)| .rem=>Bool.casesOn (motive:=λ_=>Prop) (qp kd ld) False (b≠0/\k (.int kd (Int.tmod a b)) h)| .and=>Bool.casesOn (motive:=λ_=>Prop) (qp kd ld) False (LO Nat.land kd a b h k)| .or=>Bool.casesOn (motive:=λ_=>Prop) (qp kd ld) False (LO Nat.lor kd a b h k)| .xor=>Bool.casesOn (motive:=λ_=>Prop) (qp kd ld) False (LO Nat.xor kd a b h k)| .shl=>0<=b/\k (.int kd (ah kd (Int.mul a (.ofNat (Nat.pow 2 (Nat.min b.toNat (fu kd))))))) h| .shr=>(0<=a/\0<=b)/\k (.int kd (.ofNat (Nat.div a.toNat (Nat.pow 2 (Nat.min b.toNat (fu kd)))))) h|op=>vi (Im op P t (.int kd a) (.int ld b)) h k)
 | .str a,.str b=>(match op with
  | .add=>a.length+b.length<=9223372036854775807/\k (.str (a++b)) h|op=>vi (Im op P t (.str a) (.str b)) h k)
 |x,y=>vi (Im op P t x y) h k
def za (src dst:TypeId) (x:Operand) (P:Program) (r:Tr AV) (h:Heap) (k:VK):Prop:=
 match ev x r with
 | .int kd n=>vi (Fq P src dst (.int kd n)) h k| .str s=>vi (Fq P src dst (.str s)) h k|_=>∃v,gh src dst x P r h=some v/\k v h
def DF (ts:List TypeId) (aZs:AV) (P:Program) (h:Heap) (k:VK):Prop:=
 match ts,aZs with
 |t::u::_,.cons s (.cons x _)=>
  (match iH P t with
   |none=>False|some e=>(match fL P e,iI P e,dI P e,sq x with
    |some sz,some by_,some z,some n=>Bool.casesOn (motive:=λ_=>Prop) (aF (Nat.beq z.len sz) (aU (nQ P u))) (LN (kK ts aZs P h) k)
     (∃new,CM x n sz h=some new/\(match s with
      | .bA=>(n*(by_+1)<=1099511627776/\dJ new=true)/\k (.gs h.n n sz) ⟨h.t.set (.gl new false) h.n,h.n.succ⟩| .gs id len oq=>Bool.casesOn (motive:=λ_=>Prop) (Nat.beq sz oq) False (match h.t.get id with
       |some (.gl l false)=>((len+n)*(by_+1)<=1099511627776/\dJ new=true/\len*sz=l.len)/\k (.gs h.n (len+n) sz) ⟨(h.t.del id).set (.gl (app l new) false) h.n,h.n.succ⟩|_=>False)
      |s=>LN (iq sz by_ s x n new h) k))
    |_,_,_,_=>LN (kK ts aZs P h) k))
 |_,_=>False
structure ClP (off n sz:Nat) (g z:AV) (k:AV ->Prop):Prop where
 pos:0<n
 fit:off+n*sz<=g.len
 len:(fQ n z).len=n*sz
 cell:dJ (fQ n z)=true
 k:k (gO off g (fQ n z))
def JE (ts:List TypeId) (xs:AV) (P:Program) (h:Heap) (k:VK):Prop:=
 match ts,xs with
 |t::_,.cons (.slice id off n _ oq) _=>
  (match iH P t with
   |none=>False|some e=>(match fL P e,dI P e,h.t.get id with
    |some sz,some z,some (.gl g false)=>Bool.casesOn (motive:=λ_=>Prop) (aF (Nat.beq sz oq) (Nat.beq z.len sz)) False (ClP off n sz g z λg'=>k (.aO .nil) ⟨h.t.set (.gl g' false) id,h.n⟩)|_,_,_=>LN (pe ts xs P h) k))
 |_,_=>LN (pe ts xs P h) k
def Se (cx:Cx) (x:OR) (k:VK):Prop:=
 match x with
 | .enter g aZs h=>f1L aZs λaZs=>∃v h',cx.call (.fn g) aZs h= .ret v h'/\k v h'
 | .round id aZs h=>f1L aZs λaZs=>∃v h',cx.call (.rd id) aZs h= .ret v h'/\k v h'
 |_=>False
def wOp (o:Op) (cx:Cx) (r:Tr AV) (h:Heap) (k:VK):Prop:=
 match o with
 | .indexAddr t x i=>tM t x i cx.P r h k| .index t x i=>JB t x i cx.P r h k| .load t a=>Sc t a cx.P r h k| .store t a x=>JC t a x cx.P r h k| .slice t x lo hi mx=>JD t x lo hi mx cx.P r h k| .makeSlice t l c=>tO t l c cx.P r h k| .pick c a b=>Sd c a b r h k| .binOp op t x y _=>acF op t x y cx.P r h k| .convert a b x=>za a b x cx.P r h k| .call c=>(match c.callee with
  | .value f=>Se cx (Lq (ev f r) (qq c.args.toList r) h) k| .builtin .append=>DF c.argTypes.toList (qq c.args.toList r) cx.P h k| .builtin .clear=>JE c.argTypes.toList (qq c.args.toList r) cx.P h k|_=>LN (qm (.call c) cx.P r h) k)
 |o=>LN (qm o cx.P r h) k
end
end
end
end Go.Sy
