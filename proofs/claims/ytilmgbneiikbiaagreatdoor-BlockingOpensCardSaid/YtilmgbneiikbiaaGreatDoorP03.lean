/- A piece of the proof, made small by a program of ours. -/
import Derived.Test.YtilmgbneiikbiaaGreatDoorP02
import Derived.RangeFuncNested
set_option linter.all false
set_option maxRecDepth 1000000
set_option maxHeartbeats 0
namespace Go.Sy
noncomputable section
open Go.RowKit Go.Proofs Go.Proofs.Tryz
section
variable [aT]
variable {P:Program} {B0:Nat} {cx:Cx} {ops:Array Oper} {ms:Tr Nat} {pl:List PI} {r0:Tr AV} {m:List Pos} {μ0:Mu} {h0:Heap} {w0:World} {a0:Act} {x:R}
theorem FW {d:Option Tmp} {nt:Nat} {v:AV} {r r':Tr AV} (hp:oV d nt v r=some r'):
  (∀s,d=some s ->r'.get (pathOf s)=some v/\s<nt)/\∀s,d≠some s ->r'.get (pathOf s)=r.get (pathOf s):=by
 unfold oV at hp;cases d with
 |none=>cases hp;exact⟨by simp,λ_ _=>rfl⟩|some d=>
  simp only at hp;cases hl:bJ d nt with
  |false=>rw [hl]at hp;cases hp|true=>
   rw [hl]at hp;cases hp;refine⟨λs hs=>?_,λs hs=>?_⟩
   .cases hs;rw [Tr.bE,if_pos rfl];exact⟨rfl,bz.1 hl⟩
   .rw [Tr.bE,if_neg (λe=>hs (by rw [dJ e]))]
theorem dU.mono {o:Oper} {rp:Tr AV} {hc Au:Heap} {μ μ':Mu} {v:AV} {j:Option Pos} (hf:dU P o rp hc μ v j) (hn:hc.n.toNat<=Au.n.toNat) (Sj:∀f,cls o.op= .load f ->f P rp hc=some v ->f P rp Au=some v)
  (mo:∀f id ob,cls o.op= .alloc f ->j=some id ->hc.t.get id=some ob ->Au.t.get id=some ob) (hμ:∀id,id.toNat<hc.n.toNat ->μ' id=μ id):dU P o rp Au μ' v j:=by
 unfold dU at hf ⊢;cases eH:cls o.op with
 |pure f=>rw [eH]at hf;exact hf|load f=>rw [eH]at hf;exact Sj f eH hf|alloc f=>
  rw [eH]at hf;obtain⟨A,t,id,e1,e2,e3,e4,e5,e6,e7⟩:=hf;exact⟨A,t,id,e1,e2,e3,e4,mo f id _ eH e1 e5,by rw [hμ id e7];exact e6,by omega⟩
 |bad=>rw [eH]at hf;exact hf|lE f=>rw [eH]at hf;exact hf
theorem rE (G:Good ops ms pl) {D:Nat ->Prop} {a:Act} {w:World} {pr t:List PI} {y:PI} {rc r':Tr AV} {hc Au:Heap} {μ:Mu} {J:Nat ->Option Pos} (M:Mid P B0 cx ops ms pl r0 m μ0 h0 w0 a0 x D a w pr (y::t) rc hc μ J)
  (he:y.lE=false) {v:AV} (hp:oV y.o.dst cx.nt v rc=some r') (bu:lu ops t cx r' m Au=x) (hn:hc.n.toNat<=Au.n.toNat) (Iq:HR μ B0 Au w) (mo:∀id ob,hc.t.get id=some ob ->Au.t.get id=some ob)
  (Sj:∀(f:Program ->Tr AV ->Heap ->Option AV) rp v,mB f ->f P rp hc=some v ->f P rp Au=some v) (jn:Option Pos) (hj:∀q,jn=some q ->q=hc.n/\hc.n.toNat<Au.n.toNat)
  (afi:(cX ops y.o rc= .no/\v= .aS .nil)\/(cX ops y.o rc= .yes/\dU P y.o rc Au μ v jn)):
  Mid P B0 cx ops ms pl r0 m μ0 h0 w0 a0 x D a w (pr++[y]) t r' Au μ (λi=>if i=y.i then jn else J i):=by
 have dF:∀z∈pr,z∈pl:=λz hz=>by rw [M.split];exact List.mem_append.2 (.inl hz)
 have Pk:y∈pl:=by rw [M.split];simp
 have sH:∀z∈pr,fi ops ms z y=true:=λz hz=>G.before M.split hz;have dD:∀z∈pr,z.i≠y.i:=λz hz=>lZ (sH z hz);have XG:¬D y.i:=λhD=>by
  obtain⟨z,hz,e⟩:=M.done _ hD;exact dD z hz e
 obtain⟨g1,g2⟩:=FW hp;have hyw:∀z∈pr,∀s,z.o.dst=some s ->y.o.dst≠some s:=λz hz s e1 e2=>rD (sH z hz) e1 e2;have mem:∀z,z∈pr++[y] ->z∈pr\/z=y:=λz hz=>by simpa using hz
 refine⟨by rw [M.split];simp,bu,?_,?_,⟨M.post.ext,Nat.le_trans M.post.le hn,Iq,M.post.below,M.post.dK⟩,M.size,M.Aq,?_,?_,?_,?_,?_,?_,?_⟩
 .intro i hi;obtain⟨z,hz,e⟩:=M.done i hi;exact⟨z,by simp [hz],e⟩
 .intro z hz hze;rcases mem z hz with h|h
  .exact M.acz z h hze
  .subst h;rw [he]at hze;cases hze
 .intro s u hu hno;have hs:=hno y (by simp) XG;rw [g2 s hs]at hu;exact M.wX s u hu (λz hz tD=>hno z (by simp [hz]) tD)
 .intro z hz tD s iO u hu;rcases mem z hz with h|h
  .exact M.XF z h tD s iO u hu
  .subst h;have hnw:∀q∈pr,q.o.dst≠some s:=λq hq e=>hyw q hq s e iO;rw [<-M.JA s hnw]at hu;exact M.wX s u hu (λq hq _=>hnw q hq)
 .intro s hs;rw [g2 s (hs y (by simp))];exact M.JA s (λz hz=>hs z (by simp [hz]))
 .intro z hz tD;rcases mem z hz with h|h
  .obtain⟨rp,u,f1,f2,f3⟩:=M.fact z h tD;rw [show(if z.i=y.i then jn else J z.i)=J z.i from if_neg (dD z h)];refine⟨rp,u,λd hd=>?_,λs hs=>⟨?_,?_⟩,f3.imp id (λf=>⟨f.1,f.2.mono hn (λf hf=>Sj f rp u (Sd _ f hf)) (λf id ob _ _=>mo id ob) (λ_ _=>rfl)⟩)⟩
   .rw [g2 d (hyw z h d hd)];exact f1 d hd
   .rintro ⟨q,hq,Xg,FX,hqp⟩;rcases mem q hq with h'|h'
    .rw [g2 s (hyw q h' s FX)];exact(f2 s hs).1 ⟨q,h',Xg,FX,hqp⟩
    .subst h';rw [tC (sH z h)]at hqp;cases hqp
   .intro hq;exact(f2 s hs).2 (λq iB=>hq q (by simp [iB]))
  .subst h;rw [show(if z.i=z.i then jn else J z.i)=jn from if_pos rfl];refine⟨rc,v,λd hd=>g1 d hd,λs hs=>⟨?_,?_⟩,afi⟩
   .rintro ⟨q,hq,Xg,FX,hqp⟩;rcases mem q hq with h'|h'
    .exact(g2 s (hyw q h' s FX)).symm
    .subst h';exact absurd rfl Xg
   .intro hq;refine M.JA s (λq iB e=>?_);have:=hq q (by simp [iB]) (dD q iB) e;rw [vY (sH q iB) e hs]at this;cases this
 .intro z hz q hq;rcases mem z hz with h|h
  .rw [if_neg (dD z h)]at hq;have:=M.jlt z h q hq;omega
  .subst h;rw [if_pos rfl]at hq;obtain⟨rfl,cR⟩:=hj q hq;exact cR
 .intro z hz q hq;rcases mem z hz with h|h
  .rw [if_neg (dD z h)]at hq;exact M.jge z h q hq
  .subst h;rw [if_pos rfl]at hq;obtain⟨rfl,cR⟩:=hj q hq;exact M.post.le
 .intro z hz u hu hzu p q nc iB;rcases mem z hz with h|h
  .rw [if_neg (dD z h)]at nc;rcases mem u hu with h2|h2
   .rw [if_neg (dD u h2)]at iB;exact M.apart z h u h2 hzu p q nc iB
   .subst h2;rw [if_pos rfl]at iB;obtain⟨rfl,_⟩:=hj q iB;have:=M.jlt z h p nc;intro e;subst e;omega
  .subst h;rw [if_pos rfl]at nc;obtain⟨rfl,_⟩:=hj p nc;rcases mem u hu with h2|h2
   .rw [if_neg (dD u h2)]at iB;have:=M.jlt u h2 q iB;intro e;subst e;omega
   .exact absurd h2.symm (λe=>hzu (by rw [e]))
theorem advance (hP:cx.P=P) (G:Good ops ms pl) (hx:x≠.fail) {D:Nat ->Prop} {a:Act} {w:World} {μ:Mu}:∀(suf:List PI) {pr:List PI} {rc:Tr AV} {hc:Heap} {J:Nat ->Option Pos},
  Mid P B0 cx ops ms pl r0 m μ0 h0 w0 a0 x D a w pr suf rc hc μ J ->
  ∃pr' acA rc' Au J',Mid P B0 cx ops ms pl r0 m μ0 h0 w0 a0 x D a w pr' acA rc' Au μ J'/\(acA=[]\/∃y t,acA=y::t/\y.lE=true)
 |[],pr,rc,hc,J,M=>⟨pr,[],rc,hc,J,M,.inl rfl⟩
 |y::t,pr,rc,hc,J,M=>by
  cases he:y.lE with
  |true=>exact⟨pr,y::t,rc,hc,J,M,.inr ⟨y,t,rfl,he⟩⟩|false=>
   have Pk:y∈pl:=(by rw [M.split];simp);obtain⟨Bw,afh⟩:=G.at_ y Pk;have hr:=M.run;change tc ops y.o cx rc m hc (λr' m' h'=>Bool.casesOn (motive:=λ_=>R) (recheck ops cx.P y.gC rc hc h') .fail (lu ops t cx r' m' h'))=x at hr;obtain⟨v,h',r',h1,h2,h3⟩:=yC hr hx;rw [G.none_ y Pk he]at h3;have h3:lu ops t cx r' m h'=x:=h3;have bp:=M.post.rel;have hs:hc.n.succ.toNat=hc.n.toNat+1:=Pos.cV _;have hfr:∀id ob,hc.t.get id=some ob ->id≠hc.n:=λid ob e e'=>by have:=bp.live id ob e;subst e';omega
   rcases h1 with ⟨hw,oi⟩|⟨hw,rfl,rfl⟩
   .rcases FV y.o with ⟨_,eH⟩|eH
    .have hxo:∀{res:OR},pY y.o.op cx.P rc hc=res ->(∀f aZs h1,res≠.enter f aZs h1) ->(∀f aZs h1,res≠.round f aZs h1) ->res= .val v h':=by
      intro res e n1 n2;rcases oi with g|⟨f,aZs,h1,g,_⟩|⟨f,aZs,h1,g,_⟩
      .rw [<-e];exact g
      .exact absurd (e.symm.trans g) (n1 f aZs h1)
      .exact absurd (e.symm.trans g) (n2 f aZs h1)
     rcases eH with ⟨f,eH⟩|⟨f,eH⟩|⟨f,eH⟩
     .cases hf:f P rc with
      |none=>
       have:OR.fail=OR.val v h':=hxo (by unfold pY;rw [eH,hP];simp only [hf]) (by simp) (by simp);cases this
      |some u=>
       have:OR.val u hc=OR.val v h':=hxo (by unfold pY;rw [eH,hP];simp only [hf]) (by simp) (by simp);cases this;exact advance hP G hx t (rE G M he h2 h3 (Nat.le_refl _) bp (λ_ _ e=>e) (λ_ _ _ _ e=>e) none (by simp) (.inr ⟨hw,by unfold dU;rw [eH];exact hf⟩))
     .cases hf:f P rc hc with
      |none=>
       have:OR.fail=OR.val v h':=hxo (by unfold pY;rw [eH,hP];simp only [hf]) (by simp) (by simp);cases this
      |some u=>
       have:OR.val u hc=OR.val v h':=hxo (by unfold pY;rw [eH,hP];simp only [hf]) (by simp) (by simp);cases this;exact advance hP G hx t (rE G M he h2 h3 (Nat.le_refl _) bp (λ_ _ e=>e) (λ_ _ _ _ e=>e) none (by simp) (.inr ⟨hw,by unfold dU;rw [eH];exact hf⟩))
     .cases hf:f P rc with
      |none=>
       have:OR.fail=OR.val v h':=hxo (by unfold pY;rw [eH,hP];simp only [hf]) (by simp) (by simp);cases this
      |some A=>
       have uO:iU A.l A.n hc A.k=OR.val v h':=hxo (by unfold pY;rw [eH,hP];simp only [hf]) jO.1 jO.2;obtain⟨tt,e1,rfl,rfl⟩:=mz uO;have hgg:∀id ob,hc.t.get id=some ob ->(Tr.set tt hc.t hc.n).get id=some ob:=λid ob e=>by
        rw [Tr.bE,if_neg (hfr id ob e)];exact e
       have jP:μ hc.n=none:=by
        cases e:μ hc.n with
        |none=>rfl|some C=>exact absurd (bp.fresh _ _ e) (by omega)
       refine advance hP G hx t (rE G M he h2 h3 (by show hc.n.toNat<=hc.n.succ.toNat;omega) (bp.free _) hgg (λg rp u hg e=>hg P rp hc u hc.n hc.n.succ _ hfr e) (some hc.n) (λq e=>by
        cases e;exact⟨rfl,by show hc.n.toNat<hc.n.succ.toNat;omega⟩) (.inr ⟨hw,?_⟩))
       unfold dU;rw [eH];refine⟨A,tt,hc.n,rfl,hf,e1,rfl,?_,jP,by show hc.n.toNat<hc.n.succ.toNat;omega⟩;show(Tr.set tt hc.t hc.n).get hc.n=_;rw [Tr.bE,if_pos rfl]
    .rw [afh,eH]at he;cases he
   .exact advance hP G hx t (rE G M he h2 h3 (Nat.le_refl _) bp (λ_ _ e=>e) (λ_ _ _ _ e=>e) none (by simp) (.inl ⟨hw,rfl⟩))
end
section
variable [aT]
variable {P:Program} {B0:Nat} {cx:Cx} {ops:Array Oper} {ms:Tr Nat} {pl:List PI} {r0:Tr AV} {m:List Pos} {μ0:Mu} {h0:Heap} {w0:World} {a0:Act} {x:R}
theorem acB (k:MK) (id:Pos):(k.av id= .ptr id 0)\/∃l z,k.av id= .gs id l z:=by
 cases k with
 |ptr=>exact .inl rfl|slice l c z=>exact .inr ⟨l,z,rfl⟩
theorem yJ {o:Oper} {rc rp:Tr AV} {hc h':Heap} {μ μ':Mu} {u:AV} {j:Option Pos} (hr:qg ops P o rc hc h'=true) (heq:∀s∈lF ops o,rp.get (pathOf s)=rc.get (pathOf s)) (hw:cX ops o rp= .yes)
  (hd:∀d,o.dst=some d ->rc.get (pathOf d)=some u) (hn:hc.n.toNat<=h'.n.toNat) (hμ:∀id,id.toNat<hc.n.toNat ->μ' id=μ id) (hf:dU P o rp hc μ u j):dU P o rp h' μ' u j:=by
 have Bx:cX ops o rc= .yes:=by rw [<-Dy heq];exact hw
 have AP:=vV (r:=rp) (r':=rc) o.op (FT heq);unfold qg at hr;rw [Bx]at hr;simp only at hr;unfold dU at hf ⊢;cases eH:cls o.op with
 |pure f=>rw [eH]at hf;exact hf|bad=>rw [eH]at hf;exact hf|lE f=>rw [eH]at hf;exact hf|load f=>
  rw [eH]at hf hr AP;simp only at hr hf ⊢;rw [show f P rp hc=f P rc hc from AP P hc]at hf;rw [show f P rp h'=f P rc h' from AP P h'];rw [hf]at hr;cases he:f P rc h' with
  |none=>rw [he]at hr;cases hr|some b=>
   rw [he]at hr;have:=of_decide_eq_true hr;rw [this]
 |alloc f=>
  rw [eH]at hf hr;obtain⟨A,t,id,e1,e2,e3,rfl,e5,e6,e7⟩:=hf;refine⟨A,t,id,e1,e2,e3,rfl,?_,by rw [hμ id e7];exact e6,by omega⟩;simp only at hr;have key:sameAt hc h' id=true ->h'.t.get id=some t:=by
   intro hk;unfold sameAt at hk;rw [e5]at hk;split at hk
   .rename_i t1 n1 r1 t2 n2 r2 h1 h2;obtain⟨a1,a2,a3⟩:=of_decide_eq_true hk;rw [h2,Option.some.inj h1,a1,a2,a3]
   .rename_i l1 r1 l2 r2 h1 h2;obtain⟨a1,a2⟩:=of_decide_eq_true hk;rw [h2,Option.some.inj h1,a1,a2]
   .cases hk
  cases acC:o.dst with
  |none=>rw [acC]at hr;cases hr|some d=>
   rw [acC]at hr;have:=hd d acC;simp only [this,gv]at hr;rcases acB A.k id with e|⟨l,z,e⟩
   .rw [e]at hr;exact key hr
   .rw [e]at hr;exact key hr
theorem Sk (hP:cx.P=P) (aZ:aU P B0 cx.call) (G:Good ops ms pl) (hx:x≠.fail) {D:Nat ->Prop} {a:Act} {w:World} {pr t:List PI} {y:PI} {rc:Tr AV} {hc:Heap} {μ:Mu} {J:Nat ->Option Pos} (M:Mid P B0 cx ops ms pl r0 m μ0 h0 w0 a0 x D a w pr (y::t) rc hc μ J)
  (he:y.lE=true) (nM:∀j,pre ms j y.i=true ->D j) {b:Frame} (rest:List Nat) (k:List Item) (cs:List Frame):
  ∃a' w' μ' rc' Au J',Steps P (lone (b.atR a (.inRegion ops (y.i::rest)::k)) cs w) (lone (b.atR a' (.inRegion ops rest::k)) cs w')/\Mid P B0 cx ops ms pl r0 m μ0 h0 w0 a0 x (λi=>D i\/i=y.i) a' w' (pr++[y]) t rc' Au μ' J':=by
 have dF:∀z∈pr,z∈pl:=λz hz=>by rw [M.split];exact List.mem_append.2 (.inl hz)
 have Pk:y∈pl:=by rw [M.split];simp
 have sH:∀z∈pr,fi ops ms z y=true:=λz hz=>G.before M.split hz;have dD:∀z∈pr,z.i≠y.i:=λz hz=>lZ (sH z hz);have hyw:∀z∈pr,∀s,z.o.dst=some s ->y.o.dst≠some s:=λz hz s e1 e2=>rD (sH z hz) e1 e2;have mem:∀z,z∈pr++[y] ->z∈pr\/z=y:=λz hz=>by simpa using hz
 obtain⟨Bw,_⟩:=G.at_ y Pk;have bp:=M.post.rel;have hr:=M.run;change tc ops y.o cx rc m hc (λr' m' h'=>Bool.casesOn (motive:=λ_=>R) (recheck ops cx.P y.gC rc hc h') .fail (lu ops t cx r' m' h'))=x at hr;obtain⟨v,h',r',h1,h2,h3⟩:=yC hr hx;have acD:recheck ops cx.P y.gC rc hc h'=true/\lu ops t cx r' m h'=x:=by
  cases hb:recheck ops cx.P y.gC rc hc h' with
  |false=>rw [hb]at h3;exact absurd h3.symm hx|true=>rw [hb]at h3;exact⟨rfl,h3⟩
 obtain⟨acD,bu⟩:=acD;obtain⟨g1,g2⟩:=FW h2;have Sf:∀s∈lF ops y.o,∀u,rc.get (pathOf s)=some u ->∃cv,a.tmps[s]?=some cv/\dC μ u cv:=by
  intro s hs u hu;refine M.wX s u hu (λz hz tD e=>tD (nM _ (vY (sH z hz) e hs)))
 obtain⟨w1,w2⟩:=yH Sf;have fin:∀(cv:Value) (w':World) (μ':Mu),Steps P (lone (b.atR a (.inRegion ops (y.i::rest)::k)) cs w) (lone (b.atR (a.put y.o.dst cv) (.inRegion ops rest::k)) cs w') ->dC μ' v cv ->bP μ B0 hc w μ' h' w' ->
   ∃a' w' μ' rc' Au J',Steps P (lone (b.atR a (.inRegion ops (y.i::rest)::k)) cs w) (lone (b.atR a' (.inRegion ops rest::k)) cs w')/\Mid P B0 cx ops ms pl r0 m μ0 h0 w0 a0 x (λi=>D i\/i=y.i) a' w' (pr++[y]) t rc' Au μ' J':=by
  intro cv w' μ' mw hv hp;have hle:=hp.mu bp;have Sg:(a.put y.o.dst cv).tmps.size=cx.nt:=by
   cases hd:y.o.dst with
   |none=>exact M.size|some d=>simp [Act.put,M.size]
  have Si:∀s,y.o.dst=some s ->(a.put y.o.dst cv).tmps[s]?=some cv:=by
   intro s hs;obtain⟨_,cR⟩:=g1 s hs;rw [hs];simp only [Act.put];exact Array.getElem?_setIfInBounds_self_of_lt (by rw [M.size];exact cR)
  have jQ:∀s,y.o.dst≠some s ->(a.put y.o.dst cv).tmps[s]?=a.tmps[s]?:=by
   intro s hs;cases hd:y.o.dst with
   |none=>rfl|some d=>
    simp only [Act.put];rw [Array.getElem?_setIfInBounds_ne (λe=>hs (by rw [hd,e]))]
  refine⟨_,w',μ',r',h',λi=>if i=y.i then none else J i,mw,⟨by rw [M.split];simp,bu,?_,?_,M.post.trans hp,Sg,?_,?_,?_,?_,?_,?_,?_,?_⟩⟩
  .intro i hi;rcases hi with hi|rfl
   .obtain⟨z,hz,e⟩:=M.done i hi;exact⟨z,by simp [hz],e⟩
   .exact⟨y,by simp,rfl⟩
  .intro z hz hze;rcases mem z hz with h|h
   .exact .inl (M.acz z h hze)
   .exact .inr (by rw [h])
  .rw [show(a.put y.o.dst cv).defers=a.defers by cases y.o.dst<;>rfl];exact M.Aq
  .intro s u hu hno;by_cases hs:y.o.dst=some s
   .obtain⟨e1,_⟩:=g1 s hs;rw [e1]at hu;cases hu;exact⟨cv,Si s hs,hv⟩
   .rw [g2 s hs]at hu;obtain⟨cu,e1,e2⟩:=M.wX s u hu (λz hz tD=>hno z (by simp [hz]) (λe=>e.elim tD (dD z hz)));exact⟨cu,by rw [jQ s hs];exact e1,e2.mono hle⟩
  .intro z hz tD s iO u hu;have DB:¬D z.i:=λe=>tD (.inl e);rcases mem z hz with h|h
   .obtain⟨cu,e1,e2⟩:=M.XF z h DB s iO u hu;exact⟨cu,by rw [jQ s (hyw z h s iO)];exact e1,e2.mono hle⟩
   .exact absurd (.inr (by rw [h])) tD
  .intro s hs;rw [g2 s (hs y (by simp))];exact M.JA s (λz hz=>hs z (by simp [hz]))
  .intro z hz tD;have DB:¬D z.i:=λe=>tD (.inl e);rcases mem z hz with h|h
   .rw [show(if z.i=y.i then none else J z.i)=J z.i from if_neg (dD z h)];obtain⟨rp,u,f1,f2,f3⟩:=M.fact z h DB;refine⟨rp,u,λd hd=>?_,λs hs=>⟨?_,?_⟩,f3.imp id (λf=>⟨f.1,?_⟩)⟩
    .rw [g2 d (hyw z h d hd)];exact f1 d hd
    .rintro ⟨q,hq,Xg,FX,hqp⟩;rcases mem q hq with h'|h'
     .rw [g2 s (hyw q h' s FX)];exact(f2 s hs).1 ⟨q,h',Xg,FX,hqp⟩
     .subst h';rw [tC (sH z h)]at hqp;cases hqp
    .intro hq;exact(f2 s hs).2 (λq iB=>hq q (by simp [iB]))
    ·
     by_cases qA:Bn z.o=true
     .have hnp:pre ms z.i y.i=false:=by
       cases e:pre ms z.i y.i with
       |false=>rfl|true=>exact absurd (nM _ e) DB
      obtain⟨p,nc,hpi⟩:=Jz (sH z h) hnp he qA;have hpo:p.2=z.o:=by
       have e1:=G.acy y Pk p nc;have e2:=(G.at_ z (dF z h)).1;rw [hpi,e2]at e1;exact(Option.some.inj e1).symm
      have hrk:=List.all_eq_true.1 acD p nc;rw [hpo,hP]at hrk;have abd:=(G.pair pr y t M.split).2 p nc;unfold IJ at abd;have heq:∀s∈lF ops z.o,rp.get (pathOf s)=rc.get (pathOf s):=by
       intro s hs;have hw:∀q∈pr,q.o.dst=some s ->pre ms q.i z.i=true:=by
        intro q hq FX;have:=List.all_eq_true.1 abd q hq;rw [Bool.or_eq_true,hpi,hpo]at this;rcases this with e|e
        .exact absurd ⟨qy FX,tz hs⟩ (pc e s)
        .exact e
       by_cases hex:∃q∈pr,q.i≠z.i/\q.o.dst=some s
       .obtain⟨q,hq,Xg,FX⟩:=hex;exact(f2 s hs).1 ⟨q,hq,Xg,FX,hw q hq FX⟩
       .have jP:∀q∈pr,q.o.dst≠some s:=by
         intro q hq FX;by_cases Xg:q.i=z.i
         .have:=hw q hq FX;rw [Xg,G.self z (dF z h)]at this;cases this
         .exact hex ⟨q,hq,Xg,FX⟩
        rw [M.JA s jP];exact(f2 s hs).2 (λq hq _ FX=>absurd FX (jP q hq))
      exact yJ hrk heq f.1 (λd hd=>(f1 d hd).1) hp.le hp.ext f.2
     .refine f.2.mono hp.le (λg hg _=>?_) (λg id ob hg _ _=>?_) hp.ext
      .exact absurd (by unfold Bn;rw [hg]) qA
      .exact absurd (by unfold Bn;rw [hg]) qA
   .exact absurd (.inr (by rw [h])) tD
  .intro z hz q hq;rcases mem z hz with h|h
   .rw [if_neg (dD z h)]at hq;have:=M.jlt z h q hq;have:=hp.le;omega
   .subst h;rw [if_pos rfl]at hq;cases hq
  .intro z hz q hq;rcases mem z hz with h|h
   .rw [if_neg (dD z h)]at hq;exact M.jge z h q hq
   .subst h;rw [if_pos rfl]at hq;cases hq
  .intro z hz u hu hzu p q nc iB;rcases mem z hz with h|h
   .rcases mem u hu with h2|h2
    .rw [if_neg (dD z h)]at nc;rw [if_neg (dD u h2)]at iB;exact M.apart z h u h2 hzu p q nc iB
    .subst h2;rw [if_pos rfl]at iB;cases iB
   .subst h;rw [if_pos rfl]at nc;cases nc
 rcases h1 with ⟨hw,oi⟩|⟨hw,rfl,rfl⟩
 .obtain⟨q,hq,Iu⟩:=Sc Sf;have Ji:=Pf (r:=q) (r':=rc) y.o.op Iu;have afj:FO y.o cx q hc v h':=by
   unfold FO at oi ⊢;rw [Ji];exact oi
  obtain⟨cv,μ',w',e1,e2,e3⟩:=Md hP aZ afj (w:=w) (b:=b) (a:=a) bp hq ops y.i rest k cs Bw (w1 hw);exact fin cv w' μ' e3 e1 e2
 .exact fin undef w μ (vX Bw (w2 hw)) ⟨#[],rfl,rfl⟩ (bP.refl bp)
end
section
variable [aT]
variable {P:Program} {B0:Nat} {cx:Cx} {ops:Array Oper} {pl:List PI} {r0:Tr AV} {m:List Pos} {μ0:Mu} {h0:Heap} {w0:World} {a0:Act} {x:R}
def cnt (ops:Array Oper) (listed:Array Bool):Nat:=((List.range ops.size).filter λi=>!listed.getD i true).length
theorem filter_lt {α:Type} (p q:α ->Bool):∀(l:List α),(∀x,q x=true ->p x=true) ->(∃x∈l,p x=true/\q x=false) ->(l.filter q).length<(l.filter p).length
 |[],_,h=>by obtain⟨x,hx,_⟩:=h;simp at hx
 |y::l,himp,h=>by
  have hle:(l.filter q).length<=(l.filter p).length:=by
   clear h;induction l with
   |nil=>simp|cons z l ih=>
    simp only [List.filter_cons];cases hq:q z with
    |true=>rw [himp z hq];simpa using ih|false=>cases p z<;>simp<;>omega
  simp only [List.filter_cons];obtain⟨x,hx,h1,h2⟩:=h;rcases List.mem_cons.1 hx with e|e
  .subst e;rw [h1,h2];simp;omega
  .have:=filter_lt p q l himp ⟨x,e,h1,h2⟩;cases hq:q y with
   |true=>rw [himp y hq];simpa using this|false=>cases p y<;>simp<;>omega
section
abbrev yK (ops:Array Oper):Tr Nat:=II ops.toList 0 .leaf
end
abbrev DL (listed:Array Bool) (i:Nat):Prop:=listed.getD i false=true
theorem JC {listed:Array Bool} {i:Nat} (hi:i<listed.size):DL (listed.setIfInBounds i true)=λj=>DL listed j\/j=i:=by
 funext j;apply propext;unfold DL;by_cases e:j=i
 .subst e;simp [Array.getD,hi]
 .constructor
  .intro h;left;rw [<-h];simp only [Array.getD_eq_getD_getElem?,Array.getElem?_setIfInBounds_ne (λe'=>e e'.symm)]
  .intro h;rcases h with h|h
   .rw [<-h];simp only [Array.getD_eq_getD_getElem?,Array.getElem?_setIfInBounds_ne (λe'=>e e'.symm)]
   .exact absurd h e
theorem afk {listed:Array Bool} {i:Nat} (h:DL listed i):i<listed.size:=by
 unfold DL at h;rcases Nat.lt_or_ge i listed.size with g|g
 .exact g
 .simp [Array.getD,show ¬i<listed.size by omega]at h
theorem DC {listed:Array Bool} {i:Nat} (hi:i<listed.size):listed.getD i true=listed.getD i false:=by simp [Array.getD,hi]
theorem yL (G:Good ops (yK ops) pl) (hx:x≠.fail) {listed:Array Bool} (hsz:listed.size=ops.size) (AH:∀i,i<ops.size ->DL listed i) {a:Act} {w:World} {pr suf:List PI} {rc:Tr AV} {hc:Heap} {μ:Mu} {J:Nat ->Option Pos}
  (M:Mid P B0 cx ops (yK ops) pl r0 m μ0 h0 w0 a0 x (DL listed) a w pr suf rc hc μ J):x= .ok rc m hc/\bP μ0 B0 h0 w0 μ hc w/\RR μ rc a.tmps/\a.tmps.size=cx.nt/\a.defers=a0.defers:=by
 have cR:∀y∈pl,y.i<ops.size:=λy hy=>(Array.getElem?_eq_some_iff.1 (G.at_ y hy).1).1;have XH:suf=[]:=by
  cases suf with
  |nil=>rfl|cons y t=>
   have hy:y∈pl:=(by rw [M.split];simp);obtain⟨z,hz,e⟩:=M.done y.i (AH _ (cR y hy));exact absurd e (lZ (G.before M.split hz))
 subst XH;have hr:=M.run;change R.ok rc m hc=x at hr;refine⟨hr.symm,M.post,λs v hv=>M.wX s v hv (λy hy XG=>?_),M.size,M.Aq⟩;exact absurd (AH _ (cR y (by rw [M.split];exact List.mem_append.2 (.inl hy)))) XG
theorem JD (hP:cx.P=P) (aZ:aU P B0 cx.call) (G:Good ops (yK ops) pl) (hx:x≠.fail) (hH0:HR μ0 B0 h0 w0) {listed:Array Bool} (hsz:listed.size=ops.size) (hEC:EC ops (DL listed)) {a:Act} {w:World}
  (hM:∃pr suf rc hc μ J,Mid P B0 cx ops (yK ops) pl r0 m μ0 h0 w0 a0 x (DL listed) a w pr suf rc hc μ J/\(suf=[]\/∃y t,suf=y::t/\y.lE=true)) {i:Nat} (hi:i∈Region.ready .any ops listed) {b:Frame} (rest:List Nat) (k:List Item) (cs:List Frame):
  ∃a' w',Steps P (lone (b.atR a (.inRegion ops (i::rest)::k)) cs w) (lone (b.atR a' (.inRegion ops rest::k)) cs w')/\EC ops (DL (listed.setIfInBounds i true))/\
   (∃pr suf rc hc μ J,Mid P B0 cx ops (yK ops) pl r0 m μ0 h0 w0 a0 x (DL (listed.setIfInBounds i true)) a' w' pr suf rc hc μ J/\(suf=[]\/∃y t,suf=y::t/\y.lE=true)):=by
 obtain⟨pr,suf,rc,hc,μ,J,M,XH⟩:=hM;unfold Region.ready at hi;rw [List.mem_filter]at hi;obtain⟨hi1,hi2⟩:=hi;have hi1:=List.mem_range.1 hi1;simp only [Bool.and_eq_true,Bool.not_eq_true']at hi2;obtain⟨hi2,hi3⟩:=hi2;have hiL:i<listed.size:=by omega
 have hnD:¬DL listed i:=by unfold DL;rw [<-DC hiL,hi2];simp
 have Bw:ops[i]?=some ops[i]:=Array.getElem?_eq_getElem hi1;rw [Bw]at hi3;simp only [Option.map_some,Option.getD_some]at hi3;have Sl:∀e∈(ops[i]).after.toList,Region.binds .any e=true ->DL listed e.on:=by
  intro e he hb;have:=Array.all_eq_true'.1 hi3 e (Array.mem_toList_iff.1 he);rw [hb]at this;simp only [Bool.not_true,Bool.false_or]at this;exact this
 have hms:=FP hEC;have nM:∀j,pre (yK ops) j i=true ->DL listed j:=hms i _ Bw Sl;have uU:∀i j,DL listed i ->pre (yK ops) j i=true ->DL listed j:=by
  intro i' j hD hp;have cR:i'<ops.size:=by have:=afk hD;omega
  exact hms i' _ (Array.getElem?_eq_getElem cR) (hEC i' _ hD (Array.getElem?_eq_getElem cR)) j hp
 have afl:EC ops (DL (listed.setIfInBounds i true)):=by
  rw [JC hiL];intro j o hj ho e he hb;rcases hj with hj|rfl
  .exact .inl (hEC j o hj ho e he hb)
  .rw [Bw]at ho;cases ho;exact .inl (Sl e he hb)
 obtain⟨y,hy,rfl⟩:=G.all i hi1;have afm:y∈pr\/y∈suf:=by rw [M.split]at hy;exact List.mem_append.1 hy
 rcases afm with hyp|hys
 .obtain⟨a',w',μ',mw,M'⟩:=JB (b:=b) hP G M hH0 hyp hnD nM uU rest k cs;rw [<-JC hiL]at M';exact⟨a',w',mw,afl,pr,suf,rc,hc,μ',J,M',XH⟩
 .rcases XH with rfl|⟨z,t,rfl,hz⟩
  .simp at hys
  .rcases List.mem_cons.1 hys with e|e
   .subst e;obtain⟨a',w',μ',rc',Au,J',mw,M'⟩:=Sk (b:=b) hP aZ G hx M hz nM rest k cs;rw [<-JC hiL]at M';obtain⟨pr2,acE,rc2,Fi,J2,M2,lr⟩:=advance hP G hx t M';exact⟨a',w',mw,afl,pr2,acE,rc2,Fi,μ',J2,M2,lr⟩
   .exfalso;obtain⟨t1,t2,et⟩:=List.append_of_mem e;have gy:=G.before (pr:=pr++z::t1) (suf:=t2) (y:=y) (by rw [M.split,et];simp) (x:=z) (by simp);have tD:=nM _ (Jy gy hz);obtain⟨u,hu,eu⟩:=M.done _ tD;exact absurd eu (lZ (G.before M.split hu))
theorem JE (G:Good ops (yK ops) pl) {listed:Array Bool} (hsz:listed.size=ops.size) (h:Region.ready .any ops listed=[]):∀i,i<ops.size ->DL listed i:=by
 have key:∀(suf pr:List PI),pl=pr++suf ->(∀y∈pr,DL listed y.i) ->∀y∈pl,DL listed y.i:=by
  intro suf;induction suf with
  |nil=>intro pr e hp y hy;rw [e]at hy;exact hp y (by simpa using hy)|cons z t ih=>
   intro pr e hp;have hz:z∈pl:=(by rw [e];simp);have Bw:=(G.at_ z hz).1;have cR:z.i<ops.size:=(Array.getElem?_eq_some_iff.1 Bw).1;refine ih (pr++[z]) (by rw [e];simp) (λy hy=>?_);rcases List.mem_append.1 hy with hy|hy
   .exact hp y hy
   .rw [List.mem_singleton]at hy;subst hy;by_cases hD:DL listed y.i
    .exact hD
    .exfalso;have:y.i∈Region.ready .any ops listed:=by
      unfold Region.ready;rw [List.mem_filter];refine⟨List.mem_range.2 cR,?_⟩;rw [Bw];simp only [Option.map_some,Option.getD_some,Bool.and_eq_true,Bool.not_eq_true'];constructor
      .rw [DC (by omega)];cases hb:listed.getD y.i false with
       |false=>rfl|true=>exact absurd hb hD
      .rw [Array.all_eq_true'];intro ed hed;cases hb:Region.binds .any ed with
       |false=>rfl|true=>
        simp only [Bool.not_true,Bool.false_or];obtain⟨h1,h2⟩:=G.aif y.i y.o Bw ed (Array.mem_toList_iff.2 hed) hb;obtain⟨u,hu,hui⟩:=G.all ed.on h2;have aij:u∈pr:=by
         rw [e]at hu;rcases List.mem_append.1 hu with g|g
         .exact g
         .exfalso;rcases List.mem_cons.1 g with g|g
          .subst g;rw [<-hui,G.self u hz]at h1;cases h1
          .obtain⟨t1,t2,et⟩:=List.append_of_mem g;have gy:=G.before (pr:=pr++y::t1) (suf:=t2) (y:=u) (by rw [e,et];simp) (x:=y) (by simp);have:=tC gy;rw [hui,h1]at this;cases this
        have:=hp u aij;rw [hui]at this;exact this
     rw [h]at this;simp at this
 intro i hi;obtain⟨y,hy,e⟩:=G.all i hi;have:=key pl [] (by simp) (by simp) y hy;rwa [e]at this
theorem BG (hP:cx.P=P) (aZ:aU P B0 cx.call) (G:Good ops (yK ops) pl) (hx:x≠.fail) (hH0:HR μ0 B0 h0 w0) {b:Frame} (k:List Item) (cs:List Frame):∀(fuel t:Nat) (listed:Array Bool) (a:Act) (w:World),listed.size=ops.size ->EC ops (DL listed) ->
  (∃pr suf rc hc μ J,Mid P B0 cx ops (yK ops) pl r0 m μ0 h0 w0 a0 x (DL listed) a w pr suf rc hc μ J/\(suf=[]\/∃y t,suf=y::t/\y.lE=true)) ->cnt ops listed<=fuel ->
  ∃a' w' μ' r' h',x= .ok r' m h'/\bP μ0 B0 h0 w0 μ' h' w'/\RR μ' r' a'.tmps/\a'.tmps.size=cx.nt/\a'.defers=a0.defers/\
   Steps P (lone (b.atR a (.inRegion ops (Region.linearise.go .any ops fuel t listed [])::k)) cs w) (lone (b.atR a' (.inRegion ops []::k)) cs w')
 |0,t,listed,a,w,hsz,hEC,hM,afn=>by
  have AH:∀i,i<ops.size ->DL listed i:=by
   intro i hi;cases hb:listed.getD i false with
   |true=>exact hb|false=>
    exfalso;have:i∈(List.range ops.size).filter λi=>!listed.getD i true:=by
     rw [List.mem_filter];refine⟨List.mem_range.2 hi,?_⟩;rw [DC (by omega),hb];rfl
    have:=List.length_pos_of_mem this;unfold cnt at afn;omega
  obtain⟨pr,suf,rc,hc,μ,J,M,_⟩:=hM;obtain⟨e1,e2,e3,e4,e5⟩:=yL G hx hsz AH M;exact⟨a,w,μ,rc,hc,e1,e2,e3,e4,e5,by simp [Region.linearise.go];exact Steps.refl _ _⟩
 |fuel+1,t,listed,a,w,hsz,hEC,hM,afn=>by
  have Ir:Region.linearise.go .any ops (fuel+1) t listed []=match (Region.ready .any ops listed)[t % (Region.ready .any ops listed).length]? with
   |some i=>Region.linearise.go .any ops fuel (t/(Region.ready .any ops listed).length) (listed.setIfInBounds i true) [i]|none=>[].reverse:=rfl
  rw [Ir];cases hi:(Region.ready .any ops listed)[t % (Region.ready .any ops listed).length]? with
  |none=>
   have JF:Region.ready .any ops listed=[]:=by
    cases hr:Region.ready .any ops listed with
    |nil=>rfl|cons y ys=>
     rw [hr]at hi;have cR:t % (y::ys).length<(y::ys).length:=Nat.mod_lt _ (by simp);rw [List.getElem?_eq_none_iff]at hi;omega
   obtain⟨pr,suf,rc,hc,μ,J,M,_⟩:=hM;obtain⟨e1,e2,e3,e4,e5⟩:=yL G hx hsz (JE G hsz JF) M;exact⟨a,w,μ,rc,hc,e1,e2,e3,e4,e5,Steps.refl _ _⟩
  |some i=>
   simp only;rw [linearise_go_acc,List.reverse_singleton,List.singleton_append];have qA:=List.mem_of_getElem? hi;obtain⟨a1,w1,mw,aik,hM1⟩:=JD (b:=b) hP aZ G hx hH0 hsz hEC hM qA (Region.linearise.go .any ops fuel (t/(Region.ready .any ops listed).length) (listed.setIfInBounds i true) []) k cs;have iu:i<ops.size/\listed.getD i true=false:=by
    unfold Region.ready at qA;rw [List.mem_filter]at qA;obtain⟨q1,q2⟩:=qA;simp only [Bool.and_eq_true,Bool.not_eq_true']at q2;exact⟨List.mem_range.1 q1,q2.1⟩
   have cR:cnt ops (listed.setIfInBounds i true)<cnt ops listed:=by
    refine filter_lt _ _ _ (λj hj=>?_) ⟨i,List.mem_range.2 iu.1,by simp [iu.2],?_⟩
    .by_cases e:j=i
     .subst e;simp [iu.2]
     .simp only [Array.getD_eq_getD_getElem?,Array.getElem?_setIfInBounds_ne (λe'=>e e'.symm)]at hj ⊢;exact hj
    .simp [Array.getD,show i<listed.size by omega]
   obtain⟨a',w',μ',r',h',f1,f2,f3,f4,f5,f6⟩:=BG hP aZ G hx hH0 k cs fuel _ (listed.setIfInBounds i true) a1 w1 (by simp [hsz]) aik hM1 (by omega);exact⟨a',w',μ',r',h',f1,f2,f3,f4,f5,mw.trans f6⟩
theorem JG (hm:P.follows .mixedOrders=true) (hP:cx.P=P) (aZ:aU P B0 cx.call) (nK:td ops=some pl) {r:Tr AV} {h:Heap} (bu:lu ops pl cx r m h=x) (hx:x≠.fail) {μ:Mu} {w:World} {a:Act} (hH:HR μ B0 h w) (hr:RR μ r a.tmps) (hsz:a.tmps.size=cx.nt)
  {b:Frame} (k:List Item) (cs:List Frame) (t:Nat):
  ∃a' w' μ' r' h',x= .ok r' m h'/\bP μ B0 h w μ' h' w'/\RR μ' r' a'.tmps/\a'.tmps.size=cx.nt/\a'.defers=a.defers/\
   Steps P (lone (b.atR a (.inRegion ops (Region.schedule (P.follows .mixedOrders) ops t)::k)) cs w) (lone (b.atR a' (.inRegion ops []::k)) cs w'):=by
 have G:=FQ nK;have hD0:∀i,¬DL (Array.replicate ops.size false) i:=by
  intro i hi;unfold DL at hi;by_cases e:i<ops.size<;>simp [Array.getD,e]at hi
 have M0:Mid P B0 cx ops (yK ops) pl r m μ h w a x (DL (Array.replicate ops.size false)) a w [] pl r h μ (λ_=>none):=
  ⟨by simp,bu,λi hi=>absurd hi (hD0 i),by simp,bP.refl hH,hsz,rfl,λs v hv _=>hr s v hv,by simp,λ_ _=>rfl,by simp,by simp,by simp,by simp⟩
 obtain⟨pr2,acE,rc2,Fi,J2,M2,lr⟩:=advance hP G hx pl M0;have:=BG (b:=b) hP aZ G hx hH k cs ops.size t (Array.replicate ops.size false) a w (by simp) (λi o hi=>absurd hi (hD0 i)) ⟨pr2,acE,rc2,Fi,μ,J2,M2,lr⟩ (by
  unfold cnt;refine Nat.le_trans (List.length_filter_le _ _) (by simp))
 unfold Region.schedule;rw [hm];simp only [Bool.true_or,if_true];exact this
end
section
variable [aT]
def DR (μ:Mu):List Pos ->List Deferred ->Prop
 |[],[]=>True|id::m,d::ds=>(∃B,μ id=some B/\d.target= .collected B.b)/\DR μ m ds|_,_=>False
theorem DR.mono {μ μ':Mu} (h:μ.le μ'):∀{m:List Pos} {ds:List Deferred},DR μ m ds ->DR μ' m ds
 |[],[],_=>trivial|id::m,d::ds,⟨⟨B,e1,e2⟩,h2⟩=>⟨⟨B,h.m _ _ e1,e2⟩,DR.mono h h2⟩
 |[],_::_,h2=>h2.elim|_::_,[],h2=>h2.elim
structure AR (μ:Mu) (nt:Nat) (r:Tr AV) (m:List Pos) (a:Act):Prop where
 rr:RR μ r a.tmps
 size:a.tmps.size=nt
 dr:DR μ m a.defers
structure FR (μ:Mu) (cx:Cx) (b:Frame):Prop where
 fn:b.fn=cx.fn
 kind:b.kind= .normal
 rd:match cx.rd with|none=>b.roundOf=none|some id=>∃B,μ id=some B/\b.roundOf=some B.b
theorem FR.mono {μ μ':Mu} (h:μ.le μ') {cx:Cx} {b:Frame} (hf:FR μ cx b):FR μ' cx b:=by
 refine⟨hf.fn,hf.kind,?_⟩;have:=hf.rd;cases hr:cx.rd with
 |none=>rw [hr]at this;exact this|some id=>rw [hr]at this;obtain⟨B,e1,e2⟩:=this;exact⟨B,h.m _ _ e1,e2⟩
def ft (P:Program) (B0:Nat) (μ:Mu) (h:Heap) (w:World) (nt:Nat) (b:Frame) (S:List Item ->List Frame ->Machine):R ->Prop
 | .fail=>True| .ok r m h'=>∀k cs,∃μ' a' w',bP μ B0 h w μ' h' w'/\AR μ' nt r m a'/\Steps P (S k cs) (lone (b.atR a' k) cs w')| .exit i r m h'=>∀k cs,∃μ' a' w',bP μ B0 h w μ' h' w'/\AR μ' nt r m a'/\∃k',exitTo i k'=exitTo i k/\Steps P (S k cs) (lone (b.atR a' (.code (.exit i)::k')) cs w')| .ret r m h'=>∀k cs,∃μ' a' w',bP μ B0 h w μ' h' w'/\AR μ' nt r m a'/\∃k',Steps P (S k cs) (lone (b.atR a' (.code .ret::k')) cs w')
variable {P:Program} {B0:Nat}
theorem ft.step {μ:Mu} {h h1:Heap} {w:World} {nt:Nat} {b:Frame} {S:List Item ->List Frame ->Machine} {x:R}
  (H:∀k cs,∃μ1 w1 S1,bP μ B0 h w μ1 h1 w1/\Steps P (S k cs) (S1 k cs)/\ft P B0 μ1 h1 w1 nt b S1 x):ft P B0 μ h w nt b S x:=by
 cases x with
 |fail=>trivial|ok r m h'=>
  intro k cs;obtain⟨μ1,w1,S1,hp,hs,hx⟩:=H k cs;obtain⟨μ',a',w',nc,ha,DD⟩:=hx k cs;exact⟨μ',a',w',hp.trans nc,ha,hs.trans DD⟩
 |exit i r m h'=>
  intro k cs;obtain⟨μ1,w1,S1,hp,hs,hx⟩:=H k cs;obtain⟨μ',a',w',nc,ha,k',he,DD⟩:=hx k cs;exact⟨μ',a',w',hp.trans nc,ha,k',he,hs.trans DD⟩
 |ret r m h'=>
  intro k cs;obtain⟨μ1,w1,S1,hp,hs,hx⟩:=H k cs;obtain⟨μ',a',w',nc,ha,k',DD⟩:=hx k cs;exact⟨μ',a',w',hp.trans nc,ha,k',hs.trans DD⟩
theorem ft.ahead {μ:Mu} {h:Heap} {w:World} (hr:HR μ B0 h w) {nt:Nat} {b:Frame} {S S1:List Item ->List Frame ->Machine} {x:R} (hs:∀k cs,Steps P (S k cs) (S1 k cs)) (hx:ft P B0 μ h w nt b S1 x):ft P B0 μ h w nt b S x:=
 ft.step (λk cs=>⟨μ,w,S1,bP.refl hr,hs k cs,hx⟩)
def ie (P:Program) (B0:Nat) (cx:Cx) (run:IK) (c:Code):Prop:=
 ∀(r:Tr AV) (m:List Pos) (h:Heap) (μ:Mu) (w:World) (b:Frame) (a:Act),HR μ B0 h w ->AR μ cx.nt r m a ->FR μ cx b ->
  ft P B0 μ h w cx.nt b (λk cs=>lone (b.atR a (.code c::k)) cs w) (run cx r m h)
theorem wY {b:Frame} {a:Act} {k:List Item} {cs:List Frame} {w:World} {c:Code}:step P (lone (b.atR a (.code (.scope c)::k)) cs w)= .next (lone (b.atR a (.code c::.inScope c::k)) cs w):=
 step_lone_go (by simp [stepG,stepG.exec,Frame.atR])
theorem sI {b:Frame} {a:Act} {k:List Item} {cs:List Frame} {w:World} {c:Code}:step P (lone (b.atR a (.inScope c::k)) cs w)= .next (lone (b.atR a k) cs w):=
 step_lone_go (by simp [stepG,stepG.exec,Frame.atR])
section code
variable {cx:Cx}
theorem Pm {x y:Code} {ra rb:IK} (ha:ie P B0 cx ra x) (hb:ie P B0 cx rb y):ie P B0 cx (acs ra rb) (.seq x y):=by
 intro r m h μ w b a hr gm hf;refine ft.ahead hr (S1:=λk cs=>lone (b.atR a (.code x::.code y::k)) cs w) (λk cs=> .one stepR_seq) ?_;have h1:=ha r m h μ w b a hr gm hf;unfold acs;cases hx:ra cx r m h with
 |fail=>trivial|ok r1 m1 ma=>
  rw [hx]at h1;simp only;refine ft.step (h1:=ma) (λk cs=>?_);obtain⟨μ1,a1,w1,hp,lz,hs⟩:=h1 (.code y::k) cs;exact⟨μ1,w1,λk cs=>lone (b.atR a1 (.code y::k)) cs w1,hp,hs,hb r1 m1 ma μ1 w1 b a1 hp.rel lz (hf.mono (hp.mu hr))⟩
 |exit i r1 m1 ma=>
  rw [hx]at h1;intro k cs;obtain⟨μ1,a1,w1,hp,lz,k',he,hs⟩:=h1 (.code y::k) cs;exact⟨μ1,a1,w1,hp,lz,k',he,hs⟩
 |ret r1 m1 ma=>
  rw [hx]at h1;intro k cs;obtain⟨μ1,a1,w1,hp,lz,k',hs⟩:=h1 (.code y::k) cs;exact⟨μ1,a1,w1,hp,lz,k',hs⟩
theorem JH {c:Operand} {x y:Code} {ra rb:IK} (ha:ie P B0 cx ra x) (hb:ie P B0 cx rb y):ie P B0 cx (Rz c ra rb) (.cond c x y):=by
 intro r m h μ w b a hr gm hf;have hc:=aP hr.dO gm.rr c;unfold Rz;split
 .rename_i t ht;rw [ht]at hc;have hc:a.eval c= .bool t:=by simpa [VR]using hc
  cases t with
  |true=>exact ft.ahead hr (S1:=λk cs=>lone (b.atR a (.code x::k)) cs w) (λk cs=> .one (stepR_cond hc)) (ha r m h μ w b a hr gm hf)|false=>exact ft.ahead hr (S1:=λk cs=>lone (b.atR a (.code y::k)) cs w) (λk cs=> .one (stepR_cond hc)) (hb r m h μ w b a hr gm hf)
 .trivial
theorem FY {id:Nat} {x:Code} {ra:IK} (ha:ie P B0 cx ra x):ie P B0 cx (IL id ra) (.block id x):=by
 intro r m h μ w b a hr gm hf;refine ft.ahead hr (S1:=λk cs=>lone (b.atR a (.code x::.inBlock id::k)) cs w) (λk cs=> .one stepR_block) ?_;have h1:=ha r m h μ w b a hr gm hf;unfold IL;cases hx:ra cx r m h with
 |fail=>trivial|ok r1 m1 ma=>
  rw [hx]at h1;intro k cs;obtain⟨μ1,a1,w1,hp,lz,hs⟩:=h1 (.inBlock id::k) cs;exact⟨μ1,a1,w1,hp,lz,hs.trans (.one stepR_inBlock)⟩
 |exit i r1 m1 ma=>
  rw [hx]at h1;simp only;cases hi:Nat.beq i id with
  |true=>
   intro k cs;obtain⟨μ1,a1,w1,hp,lz,k',he,hs⟩:=h1 (.inBlock id::k) cs;have hi:=Nat.eq_of_beq_eq_true hi;subst hi;have:exitTo i (.inBlock i::k)=some k:=(by simp [exitTo]);exact⟨μ1,a1,w1,hp,lz,hs.trans (.one (stepR_exit (he.trans this)))⟩
  |false=>
   intro k cs;obtain⟨μ1,a1,w1,hp,lz,k',he,hs⟩:=h1 (.inBlock id::k) cs;have dD:(id==i)=false:=by
    cases e:id==i with
    |false=>rfl|true=>rw [beq_iff_eq.1 e,Nat.beq_refl]at hi;cases hi
   have:exitTo i (.inBlock id::k)=exitTo i k:=(by simp [exitTo,dD]);exact⟨μ1,a1,w1,hp,lz,k',he.trans this,hs⟩
 |ret r1 m1 ma=>
  rw [hx]at h1;intro k cs;obtain⟨μ1,a1,w1,hp,lz,k',hs⟩:=h1 (.inBlock id::k) cs;exact⟨μ1,a1,w1,hp,lz,k',hs⟩
theorem yM {x:Code} {ra:IK} (ha:ie P B0 cx ra x):∀(n:Nat) (r:Tr AV) (m:List Pos) (h:Heap) (μ:Mu) (w:World) (b:Frame) (a:Act),HR μ B0 h w ->AR μ cx.nt r m a ->FR μ cx b ->
  ft P B0 μ h w cx.nt b (λk cs=>lone (b.atR a (.code x::.inLoop x::k)) cs w) (iter ra n cx r m h)
 |0,_,_,_,_,_,_,_,_,_,_=>trivial|n+1,r,m,h,μ,w,b,a,hr,gm,hf=>by
  have h1:=ha r m h μ w b a hr gm hf;show ft P B0 μ h w cx.nt b _ (R.casesOn (motive:=λ_=>(Cx ->Tr AV ->List Pos ->Heap ->R) ->Cx ->R) (ra cx r m h) (λ_ _=> .fail) (λr m h ih cx=>ih cx r m h)
   (λi r m h _ _=> .exit i r m h) (λr m h _ _=> .ret r m h) (iter ra n) cx)
  cases hx:ra cx r m h with
  |fail=>trivial|ok r1 m1 ma=>
   rw [hx]at h1;refine ft.step (h1:=ma) (λk cs=>?_);obtain⟨μ1,a1,w1,hp,lz,hs⟩:=h1 (.inLoop x::k) cs;exact⟨μ1,w1,λk cs=>lone (b.atR a1 (.code x::.inLoop x::k)) cs w1,hp,hs.trans (.one stepR_inLoop),yM ha n r1 m1 ma μ1 w1 b a1 hp.rel lz (hf.mono (hp.mu hr))⟩
  |exit i r1 m1 ma=>
   rw [hx]at h1;intro k cs;obtain⟨μ1,a1,w1,hp,lz,k',he,hs⟩:=h1 (.inLoop x::k) cs;exact⟨μ1,a1,w1,hp,lz,k',he,hs⟩
  |ret r1 m1 ma=>
   rw [hx]at h1;intro k cs;obtain⟨μ1,a1,w1,hp,lz,k',hs⟩:=h1 (.inLoop x::k) cs;exact⟨μ1,a1,w1,hp,lz,k',hs⟩
theorem JI {x:Code} {ra:IK} (ha:ie P B0 cx ra x):ie P B0 cx (aa4 ra) (.loop x):=by
 intro r m h μ w b a hr gm hf;exact ft.ahead hr (S1:=λk cs=>lone (b.atR a (.code x::.inLoop x::k)) cs w) (λk cs=> .one stepR_loop) (yM ha cx.fuel r m h μ w b a hr gm hf)
theorem qB (hP:cx.P=P) (aZ:aU P B0 cx.call) {ops:Array Oper} {b:Frame}:∀(l:List Oper) (i:Nat) (r:Tr AV) (m:List Pos) (h:Heap) (μ:Mu) (w:World) (a:Act),(∀(n:Nat) o,l[n]?=some o ->ops[i+n]?=some o) ->
  HR μ B0 h w ->AR μ cx.nt r m a ->ft P B0 μ h w cx.nt b (λk cs=>lone (b.atR a (.inRegion ops (List.range' i l.length)::k)) cs w) (wM ops l cx r m h)
 |[],i,r,m,h,μ,w,a,hl,hr,gm=>λk cs=>⟨μ,a,w,bP.refl hr,gm,.one stepR_region_end⟩
 |o::l,i,r,m,h,μ,w,a,hl,hr,gm=>by
  have ho:ops[i]?=some o:=by simpa using hl 0 o rfl
  show ft P B0 μ h w cx.nt b _ (tc ops o cx r m h (λr m h=>wM ops l cx r m h));cases hx:tc ops o cx r m h (λr m h=>wM ops l cx r m h)with
  |fail=>trivial|_=>
   obtain⟨v,h',r',h1,h2,h3⟩:=yC hx (by simp);rw [<-h3];refine ft.step (h1:=h') (λk cs=>?_);have hw:=sG (μ:=μ) (ops:=ops) (o:=o) (r:=r) (tmps:=a.tmps) (λg s v _ _ hv=>gm.rr s v hv);have key:∃cv μ' w',dC μ' v cv/\bP μ B0 h w μ' h' w'/\Steps P (lone (b.atR a (.inRegion ops (i::List.range' (i+1) l.length)::k)) cs w) (lone (b.atR (a.put o.dst cv) (.inRegion ops (List.range' (i+1) l.length)::k)) cs w'):=by
    rcases h1 with ⟨hwa,oi⟩|⟨hwa,rfl,rfl⟩
    .exact Md hP aZ oi hr gm.rr ops i _ k cs ho (hw.1 hwa)
    .exact⟨undef,μ,w,⟨#[],rfl,rfl⟩,bP.refl hr,vX ho (hw.2 hwa)⟩
   obtain⟨cv,μ',w',hv,hp,hs⟩:=key;obtain⟨g1,g2,g3⟩:=tx h2 (gm.rr.mono (hp.mu hr)) gm.size hv;exact⟨μ',w',λk cs=>lone (b.atR (a.put o.dst cv) (.inRegion ops (List.range' (i+1) l.length)::k)) cs w',hp,hs,
    qB hP aZ l (i+1) r' m h' μ' w' (a.put o.dst cv) (λn o' hn=>by have:=hl (n+1) o' (by simpa using hn);rwa [show i+(n+1)=i+1+n by omega]at this) hp.rel ⟨g1,g2,by rw [g3];exact gm.dr.mono (hp.mu hr)⟩⟩
theorem DE (hm:P.follows .mixedOrders=true) (hP:cx.P=P) (aZ:aU P B0 cx.call) {id:Nat} {ops:Array Oper} {draw:Bool}:ie P B0 cx (λcx r m h=>xE ops draw cx r m h) (.region id ops draw):=by
 intro r m h μ w b a hr gm hf;cases draw with
 |false=>
  refine ft.ahead hr (S1:=λk cs=>lone (b.atR a (.inRegion ops (List.range' 0 ops.toList.length)::k)) cs w) (λk cs=>?_) (qB hP aZ ops.toList 0 r m h μ w a (λn o hn=>by simpa using hn) hr gm);have:=stepR_region (P:=P) (b:=b) (a:=a) (k:=k) (cs:=cs) (w:=w) (ops:=ops) (id:=id);rw [List.range_eq_range']at this;exact .one (by simpa using this)
 |true=>
  show ft P B0 μ h w cx.nt b _ (Option.casesOn (motive:=λ_=>R) (td ops) .fail (λpl=>lu ops pl cx r m h));cases nK:td ops with
  |none=>trivial|some pl=>
   simp only;cases hx:lu ops pl cx r m h with
   |fail=>trivial|_=>
    have hd:=λk cs=>JG (b:=b) hm hP aZ nK hx (by simp) (HR.yo (w:=w) (w':=w.drew) rfl hr) gm.rr gm.size k cs (w.tape w.drawn (.order b.fn id));obtain⟨a1,w1,μ1,r1,h1,e1,_⟩:=hd [] [];cases e1;all_goals
     intro k cs;obtain⟨a',w',μ',r',h',e,hp,g1,g2,g3,hs⟩:=hd k cs;cases e;have nc:bP μ B0 h w μ' _ w':=⟨hp.ext,hp.le,hp.rel,((Below.refl B0 w).drew).trans hp.below,hp.dK⟩
     refine⟨μ',a',w',nc,⟨g1,g2,by rw [g3];exact gm.dr.mono (nc.mu hr)⟩,.head (stepR_region_draw) (hs.trans (.one stepR_region_end))⟩
theorem FZ {x:Code} {ra:IK} (ha:ie P B0 cx ra x):ie P B0 cx ra (.scope x):=by
 intro r m h μ w b a hr gm hf;refine ft.ahead hr (S1:=λk cs=>lone (b.atR a (.code x::.inScope x::k)) cs w) (λk cs=> .one wY) ?_;have h1:=ha r m h μ w b a hr gm hf;cases hx:ra cx r m h with
 |fail=>trivial|ok r1 m1 ma=>
  rw [hx]at h1;intro k cs;obtain⟨μ1,a1,w1,hp,lz,hs⟩:=h1 (.inScope x::k) cs;exact⟨μ1,a1,w1,hp,lz,hs.trans (.one sI)⟩
 |exit i r1 m1 ma=>
  rw [hx]at h1;intro k cs;obtain⟨μ1,a1,w1,hp,lz,k',he,hs⟩:=h1 (.inScope x::k) cs;exact⟨μ1,a1,w1,hp,lz,k',he,hs⟩
 |ret r1 m1 ma=>
  rw [hx]at h1;intro k cs;obtain⟨μ1,a1,w1,hp,lz,k',hs⟩:=h1 (.inScope x::k) cs;exact⟨μ1,a1,w1,hp,lz,k',hs⟩
end code
end
section
variable [aT]
variable {P:Program} {B0:Nat}
theorem JJ {μ:Mu} {h:Heap} {w:World} (hr:HR μ B0 h w) (o:AO) (ob:Obj) (ho:AB (μ.put h.n ⟨w.heap.size,0,0⟩) (w.heap.push ob) ⟨w.heap.size,0,0⟩ o):
  bP μ B0 h w (μ.put h.n ⟨w.heap.size,0,0⟩) ⟨h.t.set o h.n,h.n.succ⟩ (w.alloc ob):=by
 have jP:μ h.n=none:=by
  cases e:μ h.n with
  |none=>rfl|some C=>exact absurd (hr.fresh _ _ e) (by omega)
 have hsz:h.n.succ.toNat=h.n.toNat+1:=Pos.cV _;refine⟨?_,by show h.n.toNat<=h.n.succ.toNat;omega,?_,(Below.refl _ _).alloc hr.size _,Grow.refl _ _⟩
 .intro q hq;exact Mu.bc _ _ _ (λe'=>by subst e';omega)
 .refine hr.new h.n jP o ⟨w.heap.size,0,0⟩ ob _ (by omega) (by omega) rfl _ ?_ ho;intro q p e;rw [Tr.bE]at e;by_cases hq:q=h.n
  .rw [if_pos hq]at e;cases e;exact .inl ⟨hq,rfl⟩
  .rw [if_neg hq]at e;exact .inr ⟨hq,e⟩
theorem XI {μ:Mu} {h:Heap} {w w':World} (hr:HR μ B0 h w) (id:Pos) (B:nJ) (hid:μ id=some B) (o0:AO) (h0:h.t.get id=some o0) (IQ:o0.uC=false) (dF:¬o0.cU B)
  (hb:∀k,k≠B.b ->w'.heap[k]?=w.heap[k]?) (hs:w.heap.size<=w'.heap.size):HR μ B0 (kill id h) w':=by
 have key:∀q p,(Tr.del h.t id).get q=some p ->q≠id/\h.t.get q=some p:=λq p e=>by
  rw [Tr.rn]at e;by_cases hq:q=id
  .rw [if_pos hq]at e;cases e
  .rw [if_neg hq]at e;exact⟨hq,e⟩
 refine⟨hr.fresh,λq o e=>hr.live q o (key q o e).2,?_,λi j A C p q pQ e1 e2 e3 e4=>hr.sep i j A C p q pQ e1 e2 (key _ _ e3).2 (key _ _ e4).2,λq B o e1 e2 e3=>hr.own q B o e1 (key _ _ e2).2 e3,hr.dO,Nat.le_trans hr.size hs,?_,λq B o e1 e2 e3=>hr.apart q B o e1 (key _ _ e2).2 e3,hr.tab⟩
 .intro q C p e1 e2;obtain⟨hq,e2⟩:=key q p e2;refine(hr.obj q C p e1 e2).heap ?_;rcases hr.sep q id C B p o0 hq e1 hid e2 h0 with h3|h3|h3
  .exact .inr (hb _ h3)
  .exact .inl h3
  .exact absurd h3 dF
 .intro b c e;obtain⟨el,fz,h1⟩:=hr.Ar b c e;have dD:b≠B.b:=λe'=>by
   have:=(hr.apart id B o0 hid h0 IQ).resolve_left dF;rw [e',this]at e;cases e
  exact⟨el,fz,(hb b dD).trans h1⟩
theorem ig {a b c d e f g h i} {B:nJ}:¬(AO.loop a b c d e f g h i).cU B:=λ⟨_,_,e⟩=>by cases e
theorem xu {B:nJ}:¬AO.marks.cU B:=λ⟨_,_,e⟩=>by cases e
theorem Below.putObj {a w:World} (h:Below B0 a w) {r:Nat} (hr:B0<=r) (o:Obj):Below B0 a (w.putObj r o):=
 h.trans ⟨⟨rfl,rfl,rfl,by simp,λk hk=>World.putObj_heap_other (by omega)⟩,λ_=>Nat.le_refl _⟩
theorem Ga {μ:Mu} {h:Heap} {w:World} (hr:HR μ B0 h w) (id:Pos) (B:nJ) (hid:μ id=some B) (o0:AO) (h0:h.t.get id=some o0) (IQ:o0.uC=false) (dF:¬o0.cU B) (ob:Obj):
  bP μ B0 h w μ (kill id h) (w.putObj B.b ob):=
 ⟨λ_ _=>rfl,Nat.le_refl _,XI hr id B hid o0 h0 IQ dF (λk hk=>World.putObj_heap_other hk) (by simp),Below.putObj (Below.refl _ _) ((hr.own id B o0 hid h0 IQ).resolve_left dF) ob,Grow.refl _ _⟩
theorem DF {μ:Mu} {h:Heap} {w:World} (hr:HR μ B0 h w) (id:Pos) (B:nJ) (hid:μ id=some B) (o0 o:AO) (h0:h.t.get id=some o0) (vP:o0.uC=false) (dF:¬o0.cU B) (IQ:o.uC=false) (ob:Obj) (ho:AB μ (w.putObj B.b ob).heap B o):
  bP μ B0 h w μ ⟨h.t.set o id,h.n⟩ (w.putObj B.b ob):=
 ⟨λ_ _=>rfl,Nat.le_refl _,hr.chg id B hid o IQ o0 h0 vP dF (λk hk=>World.putObj_heap_other hk) (by simp) ho _ (λq p e=>by
  rw [Tr.bE]at e;by_cases hq:q=id
  .rw [if_pos hq]at e;cases e;exact .inl ⟨hq,rfl⟩
  .rw [if_neg hq]at e;exact .inr ⟨hq,e⟩),Below.putObj (Below.refl _ _) ((hr.own id B o0 hid h0 vP).resolve_left dF) ob,Grow.refl _ _⟩
theorem yN {cx:Cx} {id:Pos} {r:Tr AV} {m:List Pos} {h:Heap} {μ:Mu} {w:World} {b:Frame} {a:Act} {B:nJ} (hid:μ id=some B) (hr:HR μ B0 h w) (gm:AR μ cx.nt r m a):
  ft P B0 μ h w cx.nt b (λk cs=>lone (b.atR a (.endRangeFunc B.b::k)) cs w) (qh id r m h):=by
 unfold qh;split
 .rename_i ready gC fn kl nt ps aZs bd Aq hg;have AD:=hr.obj id B _ hid hg;obtain⟨l,h1,h2,_,h3,_⟩:=AD;cases gy:(Bool.casesOn (motive:=λ_=>Bool) ready (Option.casesOn (motive:=λ_=>Bool) gC false (λ_=>true)) true)with
  |false=>trivial|true=>
   have hnb:l.state≠.busy:=by
    rw [h2];cases ready with
    |true=>intro e;cases e|false=>
     cases gC with
     |none=>cases gy|some p=>intro e;cases e
   have AQ:(Instr.endLoop B.b).run P w= .ok (tg gC) (w.putObj B.b (.loop {l with state:= .exhausted})):=(by rw [<-h3];exact run_endLoop (P:=P) h1 hnb);have Sn:=Ga hr id B hid _ hg rfl ig (.loop {l with state:= .exhausted});simp only;cases gC with
   |none=>
    intro k cs;exact⟨μ,a,_,Sn,gm,.one (stepR_endRangeFunc AQ)⟩
   |some p=>
    cases p with
    |none=>
     intro k cs;exact⟨μ,a,_,Sn,gm,k,.one (stepR_endRangeFunc AQ)⟩
    |some i=>
     intro k cs;exact⟨μ,a,_,Sn,gm,k,rfl,.one (stepR_endRangeFunc AQ)⟩
 .trivial
theorem qC {cx:Cx} (aZ:aU P B0 cx.call) {f:Operand} {ps:Array Tmp} {assign body:Code} {id:Pos} {r:Tr AV} {m1:List Pos} {h h1:Heap} {μ μ1:Mu} {w w1:World} {b:Frame} {a:Act} {mark:List Deferred} {B:nJ}
  (hr:HR μ B0 h w) (hp:bP μ B0 h w μ1 h1 w1) (hid:μ1 id=some B) (gm:AR μ1 cx.nt r m1 {a with defers:=mark++a.defers})
  (he:(Instr.enterLoop b.fn a.tmps ps assign body b.roundOf).run P w= .ok (B.b,mark) w1):
  ft P B0 μ h w cx.nt b (λk cs=>lone (b.atR a (.code (.rangeFunc f ps assign body)::k)) cs w)
   (match ev f r with
    | .func (.func g) a b=>
     CR.casesOn (motive:=λ_=>Pos ->Tr AV ->List Pos ->R) (cx.call (.fn g) (app a (.cons (.yield id) b)) h1) (λ_ _ _=> .fail) (λ_ h id r m=>qh id r m h) id r m1
    |_=> .fail):=by
 have hf:=aP hp.rel.dO gm.rr f;split
 .rename_i g p q ef;rw [ef]at hf;obtain⟨F,C,hf,_,hf1,hf2⟩:=hf;have hf:a.eval f= .func (.func g) F C:=by
   have:Act.eval {a with defers:=mark++a.defers} f=a.eval f:=(by cases f<;>rfl);rw [this]at hf;simpa using hf
  cases hc:cx.call (.fn g) (app p (.cons (.yield id) q)) h1 with
  |fail=>trivial|ret v h2=>
   simp only;obtain⟨Js,Jt⟩:=aZ _ _ _ _ _ hc μ1 w1 hp.rel;have eR:cJ μ1 (app p (.cons (.yield id) q)) ((F++#[Value.func (.yield B.b) #[] #[]]++C).toList):=by
    rw [Array.toList_append,Array.toList_append,List.append_assoc];refine cJ.app ?_ hf1;exact⟨_,_,rfl,⟨B,hid,rfl⟩,hf2⟩
   refine ft.step (h1:=h2) (λk cs=>?_);obtain⟨e,w2,fr,⟨cv,μ2,rfl,hv,lq⟩,tu,_,Ju⟩:=Jt _ eR (b.atR {a with defers:=mark++a.defers} (.inRangeFunc B.b::k)::cs);have oi:(resolve a.eval (rangeCall f B.b) 0).run P w1= .ok {target:= .fn (.func g) C,args:=F++#[Value.func (.yield B.b) #[] #[]]} w1:=by
    simp only [resolve,rangeCall,hf,Deferred.ofValue];simp [Sem.run_pure,Act.eval]
   have hinv:(invoke (Target.fn (.func g) C) (F++#[Value.func (.yield B.b) #[] #[]])).run P w1= .ok (.enter g (F++#[Value.func (.yield B.b) #[] #[]]++C)) w1:=Js _;have yB:=stepR_rangeFunc (P:=P) (b:=b) (a:=a) (k:=k) (cs:=cs) (w:=w) he oi hinv;refine⟨μ2,w2,λk cs=>lone (b.atR {a with defers:=mark++a.defers} (.endRangeFunc B.b::k)) cs w2,hp.trans lq,.head yB (Steps.trans tu (.one ?_)),?_⟩
   .have cA:=step_leave_returned (c:=b.atR {a with defers:=mark++a.defers} (.inRangeFunc B.b::k)) (cs:=cs) Ju;rw [finish_atR_inRangeFunc]at cA;exact cA
   .have hmu:=lq.mu hp.rel;exact yN (hmu.m _ _ hid) lq.rel ⟨gm.rr.mono hmu,gm.size,gm.dr.mono hmu⟩
 .trivial
theorem Mf {μ:Mu} {heap:Array Obj} {l:Loop} {kl:Tr AV} {nt:Nat} {d:Pos} {D:nJ} {n:Nat} {fn:FuncId} (Gb:l.fn=fn) (Gc:RR μ kl l.tmps) (hn:l.tmps.size=nt) (hs:l.state= .ready) (hp:l.pending=none) (hD:μ d=some D) (hd:l.defers=D.b) (hsz:heap.size=n):
  AB μ (heap.push (.loop l)) ⟨n,0,0⟩ (.loop true none fn kl nt l.params l.assign l.body d):=by
 subst hsz;exact⟨l,by show(heap.push _)[heap.size]?=_;simp,hs,(λ_ _=>trivial),hp,Gb,Gc,hn,rfl,rfl,rfl,D,hD,hd⟩
theorem xv {cx:Cx} (aZ:aU P B0 cx.call) {f:Operand} {ps:Array Tmp} {assign body:Code}:ie P B0 cx (mn f ps assign body) (.rangeFunc f ps assign body):=by
 intro r m h μ w b a hr gm hf;have AU:=hf.rd;unfold mn te;cases hc:cx.rd with
 |none=>
  rw [hc]at AU;simp only at AU ⊢;have oh:=JJ hr .marks (.deferred (some [])) (by show(w.heap.push _)[w.heap.size]?=_;simp);have Sp:=oh.mu hr;have XJ:(μ.put h.n ⟨w.heap.size,0,0⟩) h.n=some ⟨w.heap.size,0,0⟩:=Mu.ct _ _ _;revert oh Sp XJ;generalize (μ.put h.n ⟨w.heap.size,0,0⟩)=μ1;intro oh Sp XJ;have dD:h.n≠h.n.succ:=λe=>by have:=Pos.cV h.n;rw [<-e]at this;omega
  have lq:=JJ oh.rel (.loop true none cx.fn r cx.nt ps assign body h.n) (.loop {state:= .ready,pending:=none,fn:=b.fn,tmps:=a.tmps,params:=ps,assign,body,defers:=w.heap.size})
   (Mf (D:=⟨w.heap.size,0,0⟩) hf.fn ((gm.rr.mono Sp).mono (Mu.oY oh.rel.nL _)) gm.size rfl rfl (by
    rw [Mu.bc _ _ _ dD];exact XJ) rfl rfl)
  have Pn:=lq.mu oh.rel;refine qC aZ (mark:=[{target:= .collected w.heap.size,args:=#[]}]) (B:=⟨(w.alloc (.deferred (some []))).heap.size,0,0⟩) hr (oh.trans lq) ?_ ⟨(gm.rr.mono Sp).mono Pn,gm.size,⟨⟨⟨w.heap.size,0,0⟩,Pn.m _ _ XJ,rfl⟩,(gm.dr.mono Sp).mono Pn⟩⟩ ?_
  .exact Mu.ct _ _ _
  .rw [AU,run_enterLoop_outer];simp [World.size_alloc]
 |some id0=>
  rw [hc]at AU;obtain⟨B1,Sq,IQ⟩:=AU;simp only;cases hd:RA h id0 with
  |none=>trivial|some d=>
   simp only;unfold RA at hd;split at hd
   .rename_i rdy pnd fn0 rg nt0 p0 a0 b0 d0 hg;cases hd;obtain⟨l,hl,_,_,_,_,_,_,_,_,_,D,hD,hDb⟩:=hr.obj id0 B1 _ Sq hg;have lq:=JJ hr (.loop true none cx.fn r cx.nt ps assign body d) (.loop {state:= .ready,pending:=none,fn:=b.fn,tmps:=a.tmps,params:=ps,assign,body,defers:=l.defers})
     (by
      have hle:μ.le (μ.put h.n ⟨w.heap.size,0,0⟩):=Mu.oY hr.nL _;exact Mf (D:=D) hf.fn (gm.rr.mono hle) gm.size rfl rfl (hle.m _ _ hD) hDb rfl)
    have Pn:=lq.mu hr;refine qC aZ (mark:=[]) (B:=⟨w.heap.size,0,0⟩) hr lq ?_ ⟨gm.rr.mono Pn,gm.size,gm.dr.mono Pn⟩ ?_
    .exact Mu.ct _ _ _
    .rw [IQ,run_enterLoop_inner hl]
   .cases hd
theorem gb {cx:Cx} (hm:P.follows .mixedOrders=true) (hP:cx.P=P) (aZ:aU P B0 cx.call):∀c,ie P B0 cx (sA c) c:=by
 intro c;induction c with
 |skip=>intro r m h μ w b a hr gm hf k cs;exact⟨μ,a,w,bP.refl hr,gm,.one stepR_skip⟩|region id ops draw=>exact DE hm hP aZ|seq x y LV ihb=>exact Pm LV ihb|cond c x y LV ihb=>exact JH LV ihb|block id x ih=>exact FY ih|loop x ih=>exact JI ih|rangeFunc f ps x y _ _=>exact xv aZ|exit i=>intro r m h μ w b a hr gm hf k cs;exact⟨μ,a,w,bP.refl hr,gm,k,rfl,Steps.refl P _⟩|scope x ih=>exact FZ ih|label l=>intro r m h μ w b a hr gm hf k cs;exact⟨μ,a,w,bP.refl hr,gm,.one stepR_label⟩|ret=>intro r m h μ w b a hr gm hf k cs;exact⟨μ,a,w,bP.refl hr,gm,k,Steps.refl P _⟩|goto l=>intro r m h μ w b a hr gm hf;trivial|refuse s=>intro r m h μ w b a hr gm hf;trivial
end
section
variable [aT]
variable {P:Program} {B0:Nat}
theorem nj {μ:Mu}:∀(m:List Pos) {h h':Heap} {w:World} (fr:Frame) (cs:List Frame),HR μ B0 h w ->DR μ m fr.defers ->gu m h=some h' ->fr.mode= .returning ->
  ∃w',bP μ B0 h w μ h' w'/\Steps P (lone fr cs w) (lone {fr with defers:=[]} cs w')
 |[],h,h',w,fr,cs,hr,hd,ht,hm=>by
  cases (show some h=some h' from ht);obtain⟨fn,tmps,todo,defers,mode,kind,ro⟩:=fr;cases defers with
  |cons _ _=>exact hd.elim|nil=>exact⟨w,bP.refl hr,Steps.refl P _⟩
 |id::m,h,h',w,fr,cs,hr,hd,ht,hm=>by
  obtain⟨fn,tmps,todo,defers,mode,kind,ro⟩:=fr;cases defers with
  |nil=>exact hd.elim|cons d ds=>
   obtain⟨⟨B,hB,ail⟩,hd⟩:=hd;change (match h.t.get id with|some .marks=>gu m (kill id h)|_=>none)=some h' at ht;split at ht
   .rename_i hg;have AD:=hr.obj id B _ hB hg;have afo:=run_takeDeferred (P:=P) (show w.heap[B.b]?=some (.deferred (some []))from AD);have hp:=Ga hr id B hB _ hg rfl xu (.deferred none);have cA:=step_collected (P:=P) (fr:=⟨fn,tmps,todo,d::ds,mode,kind,ro⟩) (cs:=cs) (by show mode≠.run;rw [show mode= .returning from hm];intro e;cases e) rfl ail afo;obtain⟨w',nc,hs⟩:=nj m ⟨fn,tmps,todo,ds,mode,kind,ro⟩ cs hp.rel hd ht hm;exact⟨w',hp.trans nc,.head cA hs⟩
   .cases ht
def Ss (tmps:Array Value):ResultVar ->Sem Value
 | .tmp t=>pure (tmps.getD t undef)| .cell a t=>do loadVar t (<-asAddr (tmps.getD a undef))
theorem JK (fn:Func) (tmps:Array Value):results fn tmps=(do let vs<-fn.results.mapM (Ss tmps);pure (if h:vs.size=1 then vs[0]else .tuple vs)):=rfl
theorem St (tmps:Array Value) (t:Tmp):Act.eval ⟨tmps,[]⟩ (.tmp t)=tmps.getD t undef:=rfl
theorem JL {x:ResultVar} {r:Tr AV} {h:Heap} {v:AV} {μ:Mu} {w:World} {tmps:Array Value} (hr:HR μ B0 h w) (Gc:RR μ r tmps) (hx:RB P x r h=some v):
  ∃cv,(Ss tmps x).run P w= .ok cv w/\dC μ v cv:=by
 unfold RB at hx;cases x with
 |tmp t=>
  simp only at hx;cases hx;have:=aP (a:=⟨tmps,[]⟩) hr.dO Gc (.tmp t);exact⟨_,Sem.run_pure ..,this⟩
 |cell a t=>
  simp only at hx;have Mg:=aP (a:=⟨tmps,[]⟩) hr.dO Gc (.tmp a);rw [St]at Mg;unfold wL at hx;split at hx
  .rename_i l k he;have yu:ev (.tmp a) r= .dq l k:=he;rw [yu]at Mg;obtain⟨b,o,xs,Mg,hl,hs⟩:=Mg;have Mg:tmps.getD a undef= .pointer (some ⟨b,o+k,none⟩):=List.head_eq_of_cons_eq Mg;obtain⟨cv,h1,h2⟩:=sB hr hx hl hs;refine⟨cv,?_,h2⟩;show(do let x<-asAddr (tmps.getD a undef);loadVar t x:Sem Value).run P w=_;rw [Mg,Sem.run_bind];simp only [asAddr,Sem.run_pure,Result.andThen_ok];exact h1
  .rename_i id off he;have yu:ev (.tmp a) r= .ptr id off:=he;rw [yu]at Mg;obtain⟨B,hB,Mg⟩:=Mg;have Mg:tmps.getD a undef= .pointer (some ⟨B.b,B.base+off,none⟩):=List.head_eq_of_cons_eq Mg;have fin:∀cv,(loadVar t ⟨B.b,B.base+off,none⟩).run P w= .ok cv w ->(Ss tmps (.cell a t)).run P w= .ok cv w:=by
    intro cv h1;show(do let x<-asAddr (tmps.getD a undef);loadVar t x:Sem Value).run P w=_;rw [Mg,Sem.run_bind];simp only [asAddr,Sem.run_pure,Result.andThen_ok];exact h1
   split at hx
   .rename_i c n ro hg;obtain⟨cv,h1,h2⟩:=uE (x:=(c,n,ro)) hr hg hx hB;exact⟨cv,fin cv h1,h2⟩
   .rename_i l ro hg;obtain⟨xs,g1,g2,g3⟩:=qo hr hg hB;obtain⟨cv,h1,h2⟩:=qn (P:=P) hx g1 g3;exact⟨cv,fin cv h1,h2⟩
   .cases hx
  .cases hx
theorem yO {r:Tr AV} {h:Heap} {μ:Mu} {w:World} {tmps:Array Value} (hr:HR μ B0 h w) (Gc:RR μ r tmps):∀(l:List ResultVar) {v:AV},pP P l r h=some v ->
  ∃vs:List Value,l.length=vs.length/\cJ μ v vs/\∀(i:Nat) (x:ResultVar) (y:Value),l[i]?=some x ->vs[i]?=some y ->(Ss tmps x).run P w= .ok y w
 |[],v,hv=>by cases (show some AV.nil=some v from hv);exact⟨[],rfl,rfl,by simp⟩
 |x::l,v,hv=>by
  change Option.casesOn (motive:=λ_=>Option AV) (RB P x r h) none (λv=>Option.casesOn (motive:=λ_=>Option AV) (pP P l r h) none (λl=>some (.cons v l)))=some v at hv;cases h1:RB P x r h with
  |none=>rw [h1]at hv;cases hv|some v1=>
   rw [h1]at hv;cases h2:pP P l r h with
   |none=>simp only [h2]at hv;cases hv|some v2=>
    simp only [h2]at hv;cases hv;obtain⟨cv,h3,h4⟩:=JL hr Gc h1;obtain⟨vs,h5,h6,h7⟩:=yO hr Gc l h2;refine⟨cv::vs,by simp [h5],⟨cv,vs,rfl,h4,h6⟩,?_⟩;intro i x' y hi hj;cases i with
    |zero=>simp at hi hj;subst hi;subst hj;exact h3|succ i=>exact h7 i x' y (by simpa using hi) (by simpa using hj)
theorem nO {fn:Func} {r:Tr AV} {h:Heap} {μ:Mu} {w:World} {tmps:Array Value} (hr:HR μ B0 h w) (Gc:RR μ r tmps) {l:AV} (hl:pP P fn.results.toList r h=some l):
  ∃cv,(results fn tmps).run P w= .ok cv w/\dC μ (yl l) cv:=by
 obtain⟨vs,h1,h2,h3⟩:=yO hr Gc _ hl;have XK:=sC (P:=P) (w:=w) (Ss tmps) fn.results vs.toArray (by simpa using h1) (λi x y hi hj=>h3 i x y (by simpa using hi) (by simpa using hj));have bu:∀u,(if h:vs.toArray.size=1 then vs.toArray[0]else Value.tuple vs.toArray)=u ->(results fn tmps).run P w= .ok u w:=by
  intro u hu;rw [JK,Sem.run_bind,XK,Result.andThen_ok,Sem.run_pure,hu]
 have afp:l.len≠1 ->∃cv,(results fn tmps).run P w= .ok cv w/\dC μ (.aS l) cv:=by
  intro dD;refine⟨.tuple vs.toArray,bu _ ?_,⟨vs.toArray,rfl,by simpa using h2⟩⟩;rw [dif_neg];intro e;exact dD (h2.len.trans (by simpa using e))
 cases l with
 |nil=>exact afp (by intro e;change 0=1 at e;omega)|cons a t=>
  cases t with
  |nil=>
   obtain⟨cv,s,rfl,h4,h5⟩:=h2;cases (show s=[]from h5);exact⟨cv,bu _ (by simp),h4⟩
  |cons a2 t2=>exact afp (by intro e;change Nat.succ (Nat.succ t2.len)=1 at e;omega)|_=>obtain⟨_,_,_,_,h6⟩:=h2;exact h6.elim
 |_=>exact h2.elim
theorem tE {μ:Mu} {nt:Nat}:∀{aZs:AV} {i:Nat} {r r':Tr AV} {vs:List Value},iH aZs i nt r=some r' ->cJ μ aZs vs ->
  (vs=[]\/i+vs.length<=nt)/\∀k v,r'.get (pathOf k)=some v ->(i<=k/\∃cv,vs[k - i]?=some cv/\dC μ v cv)\/r.get (pathOf k)=some v:=by
 intro aZs;induction aZs with
 |nil=>intro i r r' vs h hv;cases (show vs=[]from hv);cases (show some r=some r' from h);exact⟨.inl rfl,λk v e=> .inr e⟩|cons a t LV oQ=>
  intro i r r' vs h hv;obtain⟨cv,s,rfl,h1,h2⟩:=hv;change Bool.casesOn (motive:=λ_=>Option (Tr AV)) (bJ i nt) none (iH t (Nat.succ i) nt (r.set a (pathOf i)))=some r' at h;cases hl:bJ i nt with
  |false=>rw [hl]at h;cases h|true=>
   rw [hl]at h;have cR:=bz.1 hl;obtain⟨h3,h4⟩:=oQ h h2;refine⟨.inr ?_,?_⟩
   .rcases h3 with rfl|h3
    .simp;omega
    .simp only [List.length_cons];omega
   .intro k v e;rcases h4 k v e with ⟨h5,u,h6,h7⟩|h5
    .refine .inl ⟨by omega,u,?_,h7⟩;rw [show k - i=(k - Nat.succ i)+1 by omega];simpa using h6
    .rw [Tr.bE]at h5;by_cases hk:k=i
     .subst hk;rw [if_pos rfl]at h5;cases h5;exact .inl ⟨Nat.le_refl _,cv,by simp,h1⟩
     .rw [if_neg (λe=>hk (dJ e))]at h5;exact .inr h5
 |_=>intro i r r' vs h hv;exact hv.elim
theorem yP {f:FuncId} {fn:Func} {c:Code} {cargs:Array Value} (Gb:P.funcs[f]?=some fn) (hb:fn.body=some c):
  Frame.enter P f cargs .normal=(Frame.enter P f cargs .normal).atR ⟨cargs++Array.replicate (fn.ntmps - cargs.size) undef,[]⟩ [.code c]:=by
 simp [Frame.enter,Frame.atR,Gb,hb]
theorem jw {fr fr2:Frame} {cs:List Frame} {w:World} {m:Machine} (e:fr=fr2) (h:Steps P (lone fr2 cs w) m):Steps P (lone fr cs w) m:=by rw [e];exact h
theorem DH (hm:P.follows .mixedOrders=true) (eH:eO P) {call:eL ->AV ->Heap ->CR} (aZ:aU P B0 call) {fuel:Nat} {f:FuncId} {aZs:AV} {h h':Heap} {v:AV} (hc:xF P f aZs h call fuel= .ret v h') {μ:Mu} {w:World} (hr:HR μ B0 h w):
  (∀cargs:Array Value,(callFunc f cargs).run P w= .ok (.enter f cargs) w)/\∀cargs:Array Value,cJ μ aZs cargs.toList ->
   Calls P f cargs w λe w'=>∃cv μ',e= .returned cv/\dC μ' v cv/\bP μ B0 h w μ' h' w':=by
 unfold xF at hc;cases Gb:P.funcs[f]? with
 |none=>rw [Gb]at hc;cases hc|some fn=>
  rw [Gb]at hc;simp only at hc;cases hb:fn.body with
  |none=>rw [hb]at hc;cases hc|some c=>
   rw [hb]at hc;simp only at hc;refine⟨λcargs=>eH f fn cargs w Gb (by rw [hb];rfl),?_⟩;intro cargs eR;cases gm:iH aZs 0 fn.ntmps .leaf with
   |none=>rw [gm]at hc;cases hc|some r=>
    rw [gm]at hc;simp only at hc;obtain⟨hlen,mo⟩:=tE gm eR;have hsz:cargs.size<=fn.ntmps:=by
     rcases hlen with e|e
     .have:cargs.size=0:=(by rw [<-Array.length_toList,e];rfl);omega
     .rw [Array.length_toList]at e;omega
    have hRR:RR μ r (cargs++Array.replicate (fn.ntmps - cargs.size) undef):=by
     intro k u hk;rcases mo k u hk with ⟨_,cv,h1,h2⟩|h1
     .refine⟨cv,?_,h2⟩;have h1:cargs[k]?=some cv:=(by simpa using h1);obtain⟨cR,_⟩:=Array.getElem?_eq_some_iff.1 h1;rw [Array.getElem?_append_left cR];exact h1
     .cases h1
    have Po:AR μ fn.ntmps r [] ⟨cargs++Array.replicate (fn.ntmps - cargs.size) undef,[]⟩:=⟨hRR,by simp;omega,aB⟩
    have Su:FR μ ⟨P,f,fn.ntmps,none,call,fuel⟩ (Frame.enter P f cargs .normal):=⟨rfl,rfl,rfl⟩
    have yQ:=gb (cx:=⟨P,f,fn.ntmps,none,call,fuel⟩) hm rfl aZ c r [] h μ w (Frame.enter P f cargs .normal) _ hr Po Su;have fin:∀(r1:Tr AV) (m1:List Pos) (h1:Heap) (μ1:Mu) (a1:Act) (w1:World) (k1:List Item) (cs:List Frame),CV P fn r1 m1 h1= .ret v h' ->bP μ B0 h w μ1 h1 w1 ->AR μ1 fn.ntmps r1 m1 a1 ->
      Steps P (lone (Frame.enter P f cargs .normal) cs w) (lone {(Frame.enter P f cargs .normal).atR a1 k1 with mode:= .returning} cs w1) ->
      ∃e w' fr,(∃cv μ',e=Ending.returned cv/\dC μ' v cv/\bP μ B0 h w μ' h' w')/\Comes P (lone (Frame.enter P f cargs .normal) cs w) (lone fr cs w') e/\fr.fn=f/\fr.leaving P w' e:=by
     intro r1 m1 h1 μ1 a1 w1 k1 cs hl hp ha hs;unfold CV at hl;cases ht:gu m1 h1 with
     |none=>rw [ht]at hl;cases hl|some h2=>
      rw [ht]at hl;simp only at hl;cases oi:pP P fn.results.toList r1 h2 with
      |none=>rw [oi]at hl;cases hl|some l=>
       rw [oi]at hl;cases hl;obtain⟨w2,lq,lr⟩:=nj (P:=P) m1 {(Frame.enter P f cargs .normal).atR a1 k1 with mode:= .returning} cs hp.rel ha.dr ht rfl;obtain⟨cv,bu,hv⟩:=nO (fn:=fn) lq.rel ha.rr oi;exact⟨.returned cv,w2,_,⟨cv,μ1,rfl,hv,hp.trans lq⟩,hs.trans lr,rfl,rfl,rfl,rfl,fn,Gb,bu⟩
    intro cs;have heq:=yP (P:=P) (cargs:=cargs) Gb hb;cases hx:sA c ⟨P,f,fn.ntmps,none,call,fuel⟩ r [] h with
    |fail=>rw [hx]at hc;cases hc|exit i r1 m1 h1=>rw [hx]at hc;cases hc|ok r1 m1 h1=>
     rw [hx]at hc yQ;obtain⟨μ1,a1,w1,hp,ha,hs⟩:=yQ [] cs;have hs:=jw heq hs;exact fin r1 m1 h1 μ1 a1 w1 [] cs hc hp ha (hs.trans (.one (stepR_end rfl)))
    |ret r1 m1 h1=>
     rw [hx]at hc yQ;obtain⟨μ1,a1,w1,hp,ha,k',hs⟩:=yQ [] cs;have hs:=jw heq hs;exact fin r1 m1 h1 μ1 a1 w1 _ cs hc hp ha (hs.trans (.one (stepR_ret rfl)))
theorem qD {μ:Mu} {nt:Nat}:∀(ps:List Tmp) {aZs:AV} {r r':Tr AV} {vs:List Value} {tmps:Array Value},oW ps aZs nt r=some r' ->cJ μ aZs vs ->RR μ r tmps ->tmps.size=nt ->
  ps.length=vs.length/\RR μ r' ((ps.zip vs).foldl (λtmps x=>tmps.setIfInBounds x.1 x.2) tmps)/\((ps.zip vs).foldl (λtmps x=>tmps.setIfInBounds x.1 x.2) tmps).size=nt
 |[],aZs,r,r',vs,tmps,h,hv,hr,hs=>by
  cases aZs with
  |nil=>cases (show some r=some r' from h);cases (show vs=[]from hv);exact⟨rfl,hr,hs⟩|_=>cases h
 |p::ps,aZs,r,r',vs,tmps,h,hv,hr,hs=>by
  cases aZs with
  |cons a t=>
   obtain⟨cv,s,rfl,h1,h2⟩:=hv;change Bool.casesOn (motive:=λ_=>Option (Tr AV)) (bJ p nt) none (oW ps t nt (r.set a (pathOf p)))=some r' at h;cases hl:bJ p nt with
   |false=>rw [hl]at h;cases h|true=>
    rw [hl]at h;have hp:oV (some p) nt a r=some (r.set a (pathOf p)):=(by unfold oV;simp only [hl]);obtain⟨g1,g2,_⟩:=tx hp (a:=⟨tmps,[]⟩) hr hs h1;obtain⟨g3,g4,g5⟩:=qD ps h h2 g1 g2;exact⟨by simp [g3],g4,g5⟩
  |_=>cases h
theorem sJ (j:Option (Option Nat)):(tg j).isNone=Option.casesOn (motive:=λ_=>Bool) j true (λ_=>false):=by
 cases j with
 |none=>rfl|some x=>cases x<;>rfl
theorem jg {id:Pos} {B:nJ} {jump:Option (Option Nat)} {h h':Heap} {v:AV} {μ:Mu} {w:World} (hid:μ id=some B) (hr:HR μ B0 h w) (he:jt id jump h= .ret v h'):
  ∃cv w',(Instr.endRound B.b (tg jump)).run P w= .ok cv w'/\dC μ v cv/\bP μ B0 h w μ h' w':=by
 unfold jt at he;split at he
 .rename_i ready gC fn kl nt ps aZs bd Aq hg;obtain⟨l,h1,h2,_,h3,h4,h5,h6,h7,h8,h9,D,IP,RC⟩:=hr.obj id B _ hid hg;cases he;have cR:=(Array.getElem?_eq_some_iff.1 h1).1;refine⟨_,_,run_endRound (tg jump) h1,?_,?_⟩
  .rw [sJ];rfl
  .refine DF hr id B hid _ _ hg rfl ig rfl _ ⟨_,World.putObj_heap_same cR,?_,(λ_ _=>trivial),rfl,h4,h5,h6,h7,h8,h9,D,IP,RC⟩;show(if (tg jump).isNone then LoopState.ready else LoopState.done)=_;rw [sJ];cases jump<;>rfl
 .cases he
theorem round_eq (l:Nat) (fn:FuncId) (tmps:Array Value) (assign body:Code):Frame.round l fn tmps assign body .normal=(Frame.round l fn tmps assign body .normal).atR ⟨tmps,[]⟩ [.code assign,.beginRound,.code body]:=rfl
theorem Gd (hm:P.follows .mixedOrders=true) {call:eL ->AV ->Heap ->CR} (aZ:aU P B0 call) {fuel:Nat} {id:Pos} {aZs:AV} {h h':Heap} {v:AV} (hc:CW P id aZs h call fuel= .ret v h') {μ:Mu} {w:World} (hr:HR μ B0 h w):
  ∀B,μ id=some B ->∀cargs:Array Value,cJ μ aZs cargs.toList ->∃fn tmps assign body,(Instr.yield B.b cargs).run P w= .ok (.round B.b fn tmps assign body) w/\
   ∀(c:Frame) (cs:List Frame),∃cv μ' w',dC μ' v cv/\bP μ B0 h w μ' h' w'/\Steps P (lone (Frame.round B.b fn tmps assign body .normal) (c::cs) w) (lone (c.finish cv) cs w'):=by
 intro B hB cargs eR;unfold CW at hc;split at hc
 .rename_i ready gC fn kl nt ps assign body Aq hg;obtain⟨l,h1,h2,_,h3,h4,h5,h6,h7,h8,h9,D,IP,RC⟩:=hr.obj id B _ hB hg;cases ready with
  |false=>cases hc|true=>
   simp only at hc;cases Gc:oW ps.toList aZs nt kl with
   |none=>rw [Gc]at hc;cases hc|some r=>
    rw [Gc]at hc;simp only at hc;obtain⟨g1,g2,g3⟩:=qD ps.toList Gc eR h5 h6;subst h7;subst h8;subst h9;subst h4;have JM:=run_yield (P:=P) (args:=cargs) h1 (by have:=g1;simp only [Array.length_toList]at this;omega);refine⟨_,_,_,_,JM,?_⟩;intro c cs;have Sv:(l.params.zip cargs).foldl (λtmps (x:Tmp×Value)=>tmps.setIfInBounds x.1 x.2) l.tmps=(l.params.toList.zip cargs.toList).foldl (λtmps x=>tmps.setIfInBounds x.1 x.2) l.tmps:=by
     rw [<-Array.foldl_toList,Array.toList_zip]
    have Po:AR μ nt r [] ⟨(l.params.zip cargs).foldl (λtmps (x:Tmp×Value)=>tmps.setIfInBounds x.1 x.2) l.tmps,[]⟩:=(by rw [Sv];exact⟨g2,g3,aB⟩);revert Po;show AR μ nt r [] ⟨(l.params.zip cargs).foldl (λtmps (x:Tmp×Value)=>tmps.setIfInBounds x.1 x.2) l.tmps,[]⟩ ->∃cv μ' w',dC μ' v cv/\bP μ B0 h w μ' h' w'/\Steps P (lone (Frame.round B.b l.fn ((l.params.zip cargs).foldl (λtmps (x:Tmp×Value)=>tmps.setIfInBounds x.1 x.2) l.tmps) l.assign l.body .normal) (c::cs) w) (lone (c.finish cv) cs w');generalize (l.params.zip cargs).foldl (λtmps (x:Tmp×Value)=>tmps.setIfInBounds x.1 x.2) l.tmps=T;intro Po;have Su:FR μ ⟨P,l.fn,nt,some id,call,fuel⟩ (Frame.round B.b l.fn T l.assign l.body .normal):=⟨rfl,rfl,B,hB,rfl⟩
    have yQ:=gb (cx:=⟨P,l.fn,nt,some id,call,fuel⟩) hm rfl aZ l.assign r [] h μ w _ _ hr Po Su;cases hx:sA l.assign ⟨P,l.fn,nt,some id,call,fuel⟩ r [] h with
    |fail=>rw [hx]at hc;cases hc|exit i r1 m1 ma=>rw [hx]at hc;cases hc|ret r1 m1 ma=>rw [hx]at hc;cases hc|ok r1 m1 hh1=>
     rw [hx]at hc yQ;obtain⟨μ1,a1,w1,oh,rF,dA⟩:=yQ [.beginRound,.code l.body] (c::cs);have Sq:μ1 id=some B:=(oh.mu hr).m _ _ hB;change Bo (qi id hh1 (λh=>sA l.body ⟨P,l.fn,nt,some id,call,fuel⟩ r1 m1 h)) id= .ret v h' at hc;unfold qi at hc;split at hc
     .rename_i acF afq fn2 Mh nt2 ps2 as2 bd2 XL hg2;obtain⟨l2,k1,k2,_,k3,k4,k5,k6,k7,k8,k9,D2,k10,k11⟩:=oh.rel.obj id B _ Sq hg2;cases acF with
      |false=>cases hc|true=>
       cases afq with
       |some _=>cases hc|none=>
        simp only at hc;have acG:=(Array.getElem?_eq_some_iff.1 k1).1;have JN:=run_beginRound (P:=P) k1 k2;have lq:=DF oh.rel id B Sq _ (.loop false none fn2 Mh nt2 ps2 as2 bd2 XL) hg2 rfl ig rfl (.loop {l2 with state:= .busy}) ⟨_,World.putObj_heap_same acG,rfl,(λ_ _=>trivial),k3,k4,k5,k6,k7,k8,k9,D2,k10,k11⟩;have vZ:=gb (cx:=⟨P,l.fn,nt,some id,call,fuel⟩) hm rfl aZ l.body r1 m1 _ μ1 _ (Frame.round B.b l.fn T l.assign l.body .normal) a1 lq.rel rF (Su.mono (oh.mu hr));have lr:=(jw (round_eq B.b l.fn T l.assign l.body) dA).trans (.one (stepR_beginRound (P:=P) (b:=Frame.round B.b l.fn T l.assign l.body .normal) (a:=a1) (k:=[.code l.body]) (cs:=c::cs) rfl JN));cases hx2:sA l.body ⟨P,l.fn,nt,some id,call,fuel⟩ r1 m1 ⟨hh1.t.set (.loop false none fn2 Mh nt2 ps2 as2 bd2 XL) id,hh1.n⟩with
        |fail=>rw [hx2]at hc;cases hc|ok r3 m3 QZ=>
         rw [hx2]at hc vZ;obtain⟨μ3,a3,w3,Ge,ha3,BH⟩:=vZ [] (c::cs);cases m3 with
         |cons _ _=>cases hc|nil=>
          have hB3:=(Ge.mu lq.rel).m _ _ Sq;obtain⟨cv,w4,bu,hv,JO⟩:=jg (P:=P) (jump:=none) hB3 Ge.rel hc;exact⟨cv,μ3,w4,hv,((oh.trans lq).trans Ge).trans JO,(lr.trans BH).trans (.one (stepR_round_end rfl rfl bu))⟩
        |exit i r3 m3 QZ=>
         rw [hx2]at hc vZ;obtain⟨μ3,a3,w3,Ge,ha3,k',vJ,BH⟩:=vZ [] (c::cs);cases m3 with
         |cons _ _=>cases hc|nil=>
          have hB3:=(Ge.mu lq.rel).m _ _ Sq;obtain⟨cv,w4,bu,hv,JO⟩:=jg (P:=P) (jump:=some (some i)) hB3 Ge.rel hc;exact⟨cv,μ3,w4,hv,((oh.trans lq).trans Ge).trans JO,(lr.trans BH).trans (.one (stepR_round_exit rfl rfl vJ bu))⟩
        |ret r3 m3 QZ=>
         rw [hx2]at hc vZ;obtain⟨μ3,a3,w3,Ge,ha3,k',BH⟩:=vZ [] (c::cs);cases m3 with
         |cons _ _=>cases hc|nil=>
          have hB3:=(Ge.mu lq.rel).m _ _ Sq;obtain⟨cv,w4,bu,hv,JO⟩:=jg (P:=P) (jump:=some none) hB3 Ge.rel hc;exact⟨cv,μ3,w4,hv,((oh.trans lq).trans Ge).trans JO,(lr.trans BH).trans (.one (stepR_round_ret rfl rfl bu))⟩
     .cases hc
 .cases hc
end
section
variable [aT]
def bsz (w:World) (b:Nat):Nat:=match w.heap[b]? with|some (.cells c _ _)=>c.size|_=>0
def Ra (w:World) (s:Nat ->Option (Array Value)):Mu:=⟨λid=>if id.toNat<64 then some ⟨id.toNat,0,bsz w id.toNat⟩else none,s⟩
def mC (s:Nat ->Option (Array Value)) (w:World):Prop:=∀b c,s b=some c ->∃el fz,w.heap[b]?=some (.cells c el fz)
theorem qE:∀(l:List (AV×Nat)) (i:Nat) (t:Tr AO) (id:Pos) (o:AO),(vO l i t).get id=some o ->
  (∃j x c,l[j]?=some x/\id=pathOf (i+j)/\lay x.2 x.1 0 .leaf=some c/\o= .cells c x.2 true)\/t.get id=some o
 |[],i,t,id,o,h=> .inr h|x::l,i,t,id,o,h=>by
  change (vO l (Nat.succ i) (Option.casesOn (motive:=λ_=>Tr AO) (lay x.2 x.1 0 .leaf) t (λc=>t.set (.cells c x.2 true) (pathOf i)))).get id=some o at h;rcases qE l _ _ id o h with ⟨j,y,c,h1,h2,h3,h4⟩|h1
  .exact .inl ⟨j+1,y,c,by simpa using h1,by rw [h2];congr 1;omega,h3,h4⟩
  .cases hl:lay x.2 x.1 0 .leaf with
   |none=>rw [hl]at h1;exact .inr h1|some c=>
    rw [hl]at h1;change (t.set (.cells c x.2 true) (pathOf i)).get id=some o at h1;rw [Tr.bE]at h1;by_cases he:id=pathOf i
    .rw [if_pos he]at h1;cases h1;exact .inl ⟨0,x,c,rfl,he,hl,rfl⟩
    .rw [if_neg he]at h1;exact .inr h1
def Mi (w:World) (l:List (AV×Nat)):Prop:=
 ∀(i:Nat) (x:AV×Nat),l[i]?=some x ->x.1≠.undef ->∃(c:Array Value) (el:TypeId) (fz:Nat×Nat) (vs:List Value),w.heap[i]?=some (.cells c el fz)/\c.size=x.2/\(∀μ,cJ μ x.1 vs)/\∀(k:Nat) (v:Value),vs[k]?=some v ->c[k]?=some v
def jx (w:World) (n:Nat):Nat ->Option (Array Value):=λb=>if b<n then match w.heap[b]? with|some (.cells c _ _)=>some c|_=>none else none
theorem DJ (w:World) (n:Nat):mC (jx w n) w:=by
 intro b c e;unfold jx at e;split at e
 .split at e
  .rename_i c' el fz h;cases e;exact⟨el,fz,h⟩
  .cases e
 .cases e
theorem Mi.shut {w:World} {l:List (AV×Nat)} (h:Mi w l) {n:Nat} (hn:l.length<=n):AA (jx w n) l:=by
 intro i x hi hu;obtain⟨c,el,fz,vs,h1,h2,h3,h4⟩:=h i x hi hu;have cR:=(List.getElem?_eq_some_iff.1 hi).1;refine⟨c,vs,?_,h2,h3,h4⟩;unfold jx;rw [if_pos (by omega),h1]
theorem Gf (hlen:aT.l.length<=64) {w:World} {s:Nat ->Option (Array Value)} (hs:mC s w) (htab:AA s aT.l):HR (Ra w s) w.heap.size (lW aT.l 64) w:=by
 generalize hl:aT.l=l at*;have hmu:∀id B,Ra w s id=some B ->id.toNat<64/\B=⟨id.toNat,0,bsz w id.toNat⟩:=by
  intro id B h;change (if id.toNat<64 then some (⟨id.toNat,0,bsz w id.toNat⟩:nJ)else none)=some B at h;split at h
  .rename_i cR;cases h;exact⟨cR,rfl⟩
  .cases h
 have hn:(lW l 64).n.toNat=64:=eE 64;have BI:∀id o,(lW l 64).t.get id=some o ->∃j x c,l[j]?=some x/\id=pathOf j/\lay x.2 x.1 0 .leaf=some c/\o= .cells c x.2 true:=by
  intro id o h;rcases qE l 0 .leaf id o h with ⟨j,x,c,h1,h2,h3,h4⟩|h1
  .exact⟨j,x,c,h1,by rw [h2];congr 1;omega,h3,h4⟩
  .cases h1
 refine⟨?_,?_,?_,?_,?_,?_,Nat.le_refl _,hs,?_,by rw [hl];exact htab⟩
 .intro id B h;rw [hn];exact(hmu id B h).1
 .intro id o h;obtain⟨j,x,c,h1,h2,_⟩:=BI id o h;have:=(List.getElem?_eq_some_iff.1 h1).1;rw [hn,h2,eE];omega
 .intro id B o h1 h2;obtain⟨cR,rfl⟩:=hmu id B h1;obtain⟨j,x,c,h3,h4,h5,h6⟩:=BI id o h2;subst h6;have hu:x.1≠.undef:=λe=>by
   rw [e]at h5;cases hx:x.2 with
   |zero=>rw [hx]at h5;cases h5|succ n=>rw [hx]at h5;cases h5
  obtain⟨cs,vs,g0,g9,g2,g3⟩:=htab j x h3 hu;obtain⟨el,fz,g1⟩:=hs j cs g0;have hid:id.toNat=j:=by rw [h4,eE]
  have hb:bsz w id.toNat=cs.size:=by rw [hid];unfold bsz;rw [g1]
  obtain⟨k1,k2,k3⟩:=uB x.2 h5 (g2 (Ra w s));have hle:x.2<=cs.size:=by
   rcases Nat.eq_zero_or_pos x.2 with e|e
   .omega
   .have cR:x.2 - 1<vs.length:=(by omega);have:=g3 (x.2 - 1) _ (List.getElem?_eq_getElem cR);have:=(Array.getElem?_eq_some_iff.1 this).1;omega
  refine⟨by rw [hb];exact hle,cs,el,fz,by show w.heap[id.toNat]?=_;rw [hid];exact g1,by show 0+bsz w id.toNat<=_;omega,⟨(λe=>by cases e),λ_=>g9⟩,?_⟩;intro k v hk;rcases k3 k v hk with ⟨_,a2,cv,a3,a4⟩|⟨_,a2⟩
  .refine⟨by show k<bsz w id.toNat;omega,cv,?_,a4⟩;show cs[0+k]?=some cv;rw [Nat.zero_add];exact g3 k cv (by simpa using a3)
  .cases a2
 .intro i j A B o p pQ h1 h2 h3 h4;refine .inl λe=>?_;obtain⟨_,rfl⟩:=hmu i A h1;obtain⟨_,rfl⟩:=hmu j B h2;obtain⟨j1,_,_,_,e1,_⟩:=BI i o h3;obtain⟨j2,_,_,_,e2,_⟩:=BI j p h4;have e:i.toNat=j.toNat:=e;rw [e1,e2,eE,eE]at e;exact pQ (by rw [e1,e2,e])
 .intro id B o h1 h2 h3;obtain⟨j,x,c,_,_,_,h6⟩:=BI id o h2;subst h6;cases h3
 .intro g hg;exact⟨bsz w g,by show(if (pathOf g).toNat<64 then _ else _)=_;rw [eE,if_pos hg]⟩
 .intro id B o h1 h2 h3;obtain⟨j,x,c,_,_,_,h6⟩:=BI id o h2;subst h6;cases h3
def BJ (P:Program):Bool:=P.funcs.all λfn=>fn.name != "runtime.NumGoroutine"
theorem Gg {P:Program} (h:BJ P=true):eO P:=by
 intro f fn args w hf hb;have dD:(fn.name== "runtime.NumGoroutine")=false:=by
  unfold BJ at h;have:=Array.all_eq_true.1 h;obtain⟨cR,he⟩:=Array.getElem?_eq_some_iff.1 hf;have:=this f cR;rw [he]at this;simpa [bne]using this
 obtain⟨c,hc⟩:=Option.isSome_iff_exists.1 hb;have aim:¬fn.name= "runtime.NumGoroutine" :=λe=>by rw [e]at dD;simp at dD
 simp [callFunc,go_sem,hf,hc,aim]
theorem uV (k:IntKind):∀(l:List Int) (μ:Mu),cJ μ (tf k l) (l.map (Value.int k))
 |[],μ=>rfl|n::l,μ=>⟨_,_,rfl,rfl,uV k l μ⟩
theorem wZ {k:IntKind}:∀(l:List Int) {μ:Mu} {vs:List Value},cJ μ (tf k l) vs ->vs=l.map (Value.int k)
 |[],μ,vs,h=>h|n::l,μ,vs,h=>by
  obtain⟨v,r,rfl,h1,h2⟩:=h;have h1:v= .int k n:=List.head_eq_of_cons_eq h1;rw [h1,wZ l h2];rfl
end
section
variable [aT]
section
def Gh (P:Program) (ov:eL ->AV ->Heap ->Option CR) (fuel:Nat) (n:Nat):eL ->AV ->Heap ->CR:=
 Nat.rec (motive:=λ_=>eL ->AV ->Heap ->CR) (λ_ _ _=> .fail)
  (λ_ ih t aZs h=>Option.casesOn (motive:=λ_=>CR) (ov t aZs h) (eL.casesOn (motive:=λ_=>CR) t (λf=>xF P f aZs h ih fuel) (λid=>CW P id aZs h ih fuel)) (λr=>r)) n
end
variable {P:Program} {B0:Nat}
def xw (P:Program) (B0:Nat) (ov:eL ->AV ->Heap ->Option CR):Prop:=aU P B0 (λt aZs h=>(ov t aZs h).getD .fail)
theorem qF (hm:P.follows .mixedOrders=true) (eH:eO P) {ov:eL ->AV ->Heap ->Option CR} (Ip:xw P B0 ov) (fuel:Nat):∀n,aU P B0 (Gh P ov fuel n)
 |0=>λt aZs h v h' hc=>by cases hc
 |n+1=>λt aZs h v h' hc μ w hr=>by
  change (Option.casesOn (motive:=λ_=>CR) (ov t aZs h) (eL.casesOn (motive:=λ_=>CR) t (λf=>xF P f aZs h (Gh P ov fuel n) fuel) (λid=>CW P id aZs h (Gh P ov fuel n) fuel)) (λr=>r))= .ret v h' at hc;cases ho:ov t aZs h with
  |some r=>
   rw [ho]at hc;have hc:r= .ret v h':=hc;exact Ip t aZs h v h' (by show(ov t aZs h).getD CR.fail=_;rw [ho];exact hc) μ w hr
  |none=>
   rw [ho]at hc;cases t with
   |fn f=>exact DH hm eH (qF hm eH Ip fuel n) hc hr|rd id=>exact Gd hm (qF hm eH Ip fuel n) hc hr
theorem HR.below {μ:Mu} {h:Heap} {w w':World} (hr:HR μ B0 h w) (hb:Below w.heap.size w w'):HR μ B0 h w':=
 ⟨hr.fresh,hr.live,λid B o e1 e2=>(hr.obj id B o e1 e2).heap ((hr.obj id B o e1 e2).lt.imp (λh=>h) (hb.block _)),hr.sep,hr.own,hr.dO,Nat.le_trans hr.size hb.size,
  λb c e=>let ⟨el,fz,h1⟩:=hr.Ar b c e;⟨el,fz,(hb.block b (Array.getElem?_eq_some_iff.1 h1).1).trans h1⟩,hr.apart,hr.tab⟩
theorem bP.same {μ:Mu} {h:Heap} {w w':World} (hr:HR μ B0 h w) (hb:Below w.heap.size w w'):bP μ B0 h w μ h w':=
 ⟨λ_ _=>rfl,Nat.le_refl _,hr.below hb,hb.mono hr.size,Grow.refl _ _⟩
section
end
end
section
variable [aT]
section
def f0 (v:AV) (k:AV ->Prop):Prop:=AV.casesOn (motive:=λ_=>Prop) v (k .undef) (λb=>k (.bool b)) (λkd n=>k (.int kd n)) (λkd a b=>k (.xp kd a b)) (λs=>k (.str s)) (λm=>k (.pZ m)) (λid o=>k (.ptr id o)) (λl j=>k (.dq l j)) (k .fy) (λid a b c d=>k (.slice id a b c d)) (λn l=>k (.ro n l)) (λid n z=>k (.gs id n z)) (λid z=>k (.sle id z)) (k .bt) (λid=>k (.map id)) (k .qa) (λf a b=>k (.func f a b)) (λid=>k (.yield id)) (k .kR) (λt v=>k (.iface t v)) (k .lM) (λl=>k (.agg l)) (λl=>k (.aS l)) (k .nil) (λa t=>k (.cons a t))
def f0L:AV ->(AV ->Prop) ->Prop
 | .cons a t,k=>f0 a λa'=>f0L t λt'=>k (.cons a' t')
 |v,k=>f0 v k
def f1 (v:AV) (k:AV ->Prop):Prop:=AV.casesOn (motive:=λ_=>Prop) v (k .undef) (λb=>k (.bool b)) (λkd n=>k (.int kd n)) (λkd a b=>k (.xp kd a b)) (λs=>k (.str s)) (λm=>k (.pZ m)) (λid o=>k (.ptr id o)) (λl j=>k (.dq l j)) (k .fy) (λid a b c d=>k (.slice id a b c d)) (λn l=>k (.ro n l)) (λid n z=>k (.gs id n z)) (λid z=>k (.sle id z)) (k .bt) (λid=>k (.map id)) (k .qa) (λf a b=>k (.func f a b)) (λid=>k (.yield id)) (k .kR) (λt v=>k (.iface t v)) (k .lM) (λl=>f0L l λl'=>k (.agg l')) (λl=>k (.aS l)) (k .nil) (λa t=>k (.cons a t))
def f1L:AV ->(AV ->Prop) ->Prop
 | .cons a t,k=>f1 a λa'=>f1L t λt'=>k (.cons a' t')
 |v,k=>f0 v k
def fV (v:AV) (k:AV ->Prop):Prop:=AV.casesOn (motive:=λ_=>Prop) v (k .undef) (λb=>k (.bool b)) (λkd n=>k (.int kd n)) (λkd a b=>k (.xp kd a b)) (λs=>k (.str s)) (λm=>k (.pZ m)) (λid o=>k (.ptr id o)) (λl j=>k (.dq l j)) (k .fy) (λid a b c d=>k (.slice id a b c d)) (λn l=>k (.ro n l)) (λid n z=>k (.gs id n z)) (λid z=>k (.sle id z)) (k .bt) (λid=>k (.map id)) (k .qa) (λf a b=>k (.func f a b)) (λid=>k (.yield id)) (k .kR) (λt v=>k (.iface t v)) (k .lM) (λl=>f0L l λl'=>k (.agg l')) (λl=>f1L l λl'=>k (.aS l')) (k .nil) (λa t=>k (.cons a t))
theorem abe (v:AV) (k:AV ->Prop):f0 v k=k v:=by cases v<;>rfl
theorem DK:∀(v:AV) (k:AV ->Prop),f0L v k=k v
 | .cons a t,k=>by show f0 a _=_;rw [abe,DK t]
 | .nil,k=>rfl| .undef,_| .bool _,_| .int _ _,_| .xp _ _ _,_| .str _,_| .pZ _,_| .ptr _ _,_| .dq _ _,_| .fy,_| .slice _ _ _ _ _,_| .ro _ _,_| .gs _ _ _,_| .sle _ _,_| .bt,_| .map _,_| .qa,_
 | .func _ _ _,_| .yield _,_| .kR,_| .iface _ _,_| .lM,_| .agg _,_| .aS _,_=>rfl
theorem afr (v:AV) (k:AV ->Prop):f1 v k=k v:=by
 cases v with
 |agg l=>show f0L l _=_;rw [DK]|_=>rfl
theorem DM:∀(v:AV) (k:AV ->Prop),f1L v k=k v
 | .cons a t,k=>by show f1 a _=_;rw [afr,DM t]
 | .nil,k=>rfl| .undef,_| .bool _,_| .int _ _,_| .xp _ _ _,_| .str _,_| .pZ _,_| .ptr _ _,_| .dq _ _,_| .fy,_| .slice _ _ _ _ _,_| .ro _ _,_| .gs _ _ _,_| .sle _ _,_| .bt,_| .map _,_| .qa,_
 | .func _ _ _,_| .yield _,_| .kR,_| .iface _ _,_| .lM,_| .agg _,_| .aS _,_=>rfl
theorem Sw (v:AV) (k:AV ->Prop):fV v k=k v:=by
 cases v with
 |agg l=>show f0L l _=_;rw [DK]|aS l=>show f1L l _=_;rw [DM]|_=>rfl
def BK {α:Type} (x:α):Pos ->(Tr α ->Prop) ->Prop
 | .e,k=>k (.node .leaf (some x) .leaf)| .o p,k=>BK x p λt=>k (.node t none .leaf)
 | .i p,k=>BK x p λt=>k (.node .leaf none t)
def Gi {α:Type} (x:α):Tr α ->Pos ->(Tr α ->Prop) ->Prop
 | .leaf,p,k=>BK x p k| .node l v r,.e,k=>k (.node l (some x) r)| .node l v r,.o p,k=>Gi x l p λl'=>k (.node l' v r)
 | .node l v r,.i p,k=>Gi x r p λr'=>k (.node l v r')
theorem yR {α:Type} (x:α):∀(p:Pos) (k:Tr α ->Prop),BK x p k=k (Tr.Ax x p)
 | .e,k=>rfl| .o p,k=>by show BK x p _=_;rw [yR x p];rfl
 | .i p,k=>by show BK x p _=_;rw [yR x p];rfl
theorem uW {α:Type} (x:α):∀(t:Tr α) (p:Pos) (k:Tr α ->Prop),Gi x t p k=k (Tr.set x t p)
 | .leaf,p,k=>yR x p k| .node l v r,.e,k=>rfl| .node l v r,.o p,k=>by show Gi x l p _=_;rw [uW x l p];rfl
 | .node l v r,.i p,k=>by show Gi x r p _=_;rw [uW x r p];rfl
def fTv:Tr AV ->(Tr AV ->Prop) ->Prop
 | .leaf,k=>k .leaf| .node l v r,k=>fTv l λl'=>fTv r λr'=>match v with|none=>k (.node l' none r')|some v=>f0 v λv'=>k (.node l' (some v') r')
theorem JP:∀(t:Tr AV) (k:Tr AV ->Prop),fTv t k=k t
 | .leaf,k=>rfl| .node l v r,k=>by
  show fTv l _=_;rw [JP l,JP r];cases v with
  |none=>rfl|some v=>show f0 v _=_;rw [abe]
def fO (o:AO) (k:AO ->Prop):Prop:=AO.casesOn (motive:=λ_=>Prop) o (λt n ro=>fTv t λt'=>k (.cells t' n ro)) (λl ro=>k (.gl l ro)) (λl=>k (.mp l)) (λl n=>k (.si l n)) (λa b c=>k (.mi a b c)) (λa b c d e f g h i=>k (.loop a b c d e f g h i)) (k .marks)
theorem afs (o:AO) (k:AO ->Prop):fO o k=k o:=by
 cases o with
 |cells t n ro=>show fTv t _=_;rw [JP]|_=>rfl
def fTo:Tr AO ->(Tr AO ->Prop) ->Prop
 | .leaf,k=>k .leaf| .node l v r,k=>fTo l λl'=>fTo r λr'=>match v with|none=>k (.node l' none r')|some v=>fO v λv'=>k (.node l' (some v') r')
theorem JQ:∀(t:Tr AO) (k:Tr AO ->Prop),fTo t k=k t
 | .leaf,k=>rfl| .node l v r,k=>by
  show fTo l _=_;rw [JQ l,JQ r];cases v with
  |none=>rfl|some v=>show fO v _=_;rw [afs]
def Pp:Pos ->(Pos ->Prop) ->Prop
 | .e,k=>k .e| .o p,k=>Pp p λp'=>k (.o p')
 | .i p,k=>Pp p λp'=>k (.i p')
theorem DN:∀(p:Pos) (k:Pos ->Prop),Pp p k=k p
 | .e,k=>rfl| .o p,k=>by show Pp p _=_;rw [DN p]
 | .i p,k=>by show Pp p _=_;rw [DN p]
def fH:Heap ->(Heap ->Prop) ->Prop
 |⟨t,n⟩,k=>fTo t λt'=>Pp n λn'=>k ⟨t',n'⟩
theorem aft (h:Heap) (k:Heap ->Prop):fH h k=k h:=by
 obtain⟨t,n⟩:=h;show fTo t _=_;rw [JQ,DN]
structure aL (z:Int) (n:Nat) (k:Nat ->Prop):Prop where
 lo:0<=z
 hi:z<(n:Int)
 k:k z.toNat
structure JR (z:Int) (n:Nat) (k:Nat ->Prop):Prop where
 lo:0<=z
 hi:z<=(n:Int)
 k:k z.toNat
structure MkP (ln cp:Int) (by_:Nat) (z:AV) (k:Nat ->AV ->Prop):Prop where
 lo:0<=ln
 le:ln<=cp
 fit:cp*((by_+1:Nat):Int)<=1099511627776
 k:k ln.toNat (fW ln.toNat z)
structure StP (off n:Nat) (g c:AV) (k:AV ->Prop):Prop where
 fit:off+n<=g.len
 k:k (gV off g c)
def Pq (v:AV) (len:Nat) (k:Nat ->Prop):Prop:=match v with| .int _ z=>aL z len k|_=>False
def qG (v:Option AV) (acn most:Nat) (k:Nat ->Prop):Prop:=match v with|none=>k acn|some (.int _ z)=>JR z most k|some _=>False
abbrev VK:=AV ->Heap ->Prop
def Mj (x:OR) (k:VK):Prop:=match x with| .val v h=>k v h|_=>False
def uX (x:Option AV) (h:Heap) (k:VK):Prop:=match x with|some v=>k v h|none=>False
def tF (t:TypeId) (x ix:Operand) (P:Program) (r:Tr AV) (h:Heap) (k:VK):Prop:=
 match P.underlying t,ev x r with
 |some (.slice e),.slice id off len _ sz=>(match fN P e with|some z=>Bool.casesOn (motive:=λ_=>Prop) (Nat.beq z sz) False (Pq (ev ix r) len λi=>k (.ptr id (Nat.add off (Nat.mul i sz))) h)|none=>False)
 |some (.slice e),.ro n l=>(match fN P e with|some z=>Pq (ev ix r) n λi=>k (.dq l (Nat.mul i z)) h|none=>False)
 |some (.slice e),.gs id n sz=>(match fN P e with|some z=>Bool.casesOn (motive:=λ_=>Prop) (Nat.beq z sz) False (Pq (ev ix r) n λi=>k (.ptr id (Nat.mul i sz)) h)|none=>False)
 |_,_=>uX (fX t x ix P r) h k
def JS (t:TypeId) (x ix:Operand) (P:Program) (r:Tr AV) (h:Heap) (k:VK):Prop:=
 match P.underlying t,ev x r with
 |some .string,.str s=>Pq (ev ix r) s.length λi=>k (.int .u8 (.ofNat (s.getD i 0))) h
 |_,_=>uX (sZ t x ix P r) h k
def Sx (t:TypeId) (a:Operand) (P:Program) (r:Tr AV) (h:Heap) (k:VK):Prop:=
 match ev a r with
 | .dq l j=>∃v,gM P t (cZ j l)=some v/\k v h| .ptr id off=>(match h.t.get id with
  |some (.cells c _ _)=>uX (CM P t c off) h k|some (.gl l _)=>∃v,gM P t (cZ off l)=some v/\k v h|_=>False)
 |_=>False
def JT (t:TypeId) (a x:Operand) (P:Program) (r:Tr AV) (h:Heap) (k:VK):Prop:=
 match ev a r with
 | .ptr id off=>(match h.t.get id,fN P t with
  |some (.gl g false),some n=>Bool.casesOn (motive:=λ_=>Prop) (aF (Nat.beq (ev x r).cells.len n) (dN (ev x r).cells)) False
   (f0L (ev x r).cells λc=>StP off n g c λg'=>k (.aS .nil) ⟨h.t.set (.gl g' false) id,h.n⟩)
  |_,_=>Mj (sY t a x P r h) k)
 |_=>False
def JU (t:TypeId) (x:Operand) (lo hi mx:Option Operand) (P:Program) (r:Tr AV) (h:Heap) (k:VK):Prop:=
 match mx with
 |some _=>False|none=>
  match P.underlying t,ev x r with
  |some .string,.str s=>qG (hi.map (ev · r)) s.length s.length λhh=>qG (lo.map (ev · r)) 0 hh λll=>k (.str (Xo s ll (hh - ll))) h
  |some (.slice e),.ro n l=>(match fN P e with
   |some z=>qG (hi.map (ev · r)) n n λhh=>qG (lo.map (ev · r)) 0 hh λll=>∃l',dS (Nat.mul (hh - ll) z) (cZ (Nat.mul ll z) l)=some l'/\k (.ro (hh - ll) l') h
   |none=>False)
  |some (.slice e),.gs id n sz=>(match fN P e with
   |some z=>Bool.casesOn (motive:=λ_=>Prop) (Nat.beq z sz) False (qG (hi.map (ev · r)) n n λhh=>
    (match lo with
     |none=>k (.gs id hh sz) h|some y=>qG (some (ev y r)) 0 hh λll=>(ll=0/\k (.gs id hh sz) h)\/((0<ll/\ll<hh)/\k (.slice id (Nat.mul ll sz) (hh - ll) (n - ll) sz) h)\/((0<ll/\ll=hh)/\k (.ro 0 .nil) h)))
   |none=>False)
  |_,_=>uX (fq t x lo hi mx P r h) h k
def tG (t:TypeId) (l c:Operand) (P:Program) (r:Tr AV) (h:Heap) (k:VK):Prop:=
 match iG P t with
 |none=>False|some e=>(match dM P e,fN P e,iM P e,ev l r,ev c r with
  |some z,some sz,some by_,.int _ ln,.int _ cp=>Bool.casesOn (motive:=λ_=>Prop) (Nat.beq z.len sz) False
   (MkP ln cp by_ z λn l=>k (.gs h.n n sz) ⟨h.t.set (.gl l false) h.n,h.n.succ⟩)
  |_,_,_,_,_=>False)
def Sz (c a b:Operand) (r:Tr AV) (h:Heap) (k:VK):Prop:=
 match ev c r with
 | .bool t=>Bool.casesOn (motive:=λ_=>Prop) t (k (ev b r) h) (k (ev a r) h)|_=>False
def Mk (f:Nat ->Nat ->Nat) (kd:IntKind) (a b:Int) (h:Heap) (k:VK):Prop:=
 ((0:Int)<=a/\fits kd a=true/\0<=b/\fits kd b=true)/\k (.int kd (.ofNat (f a.toNat b.toNat))) h
def acH (op:BinOp) (t:TypeId) (x y:Operand) (P:Program) (r:Tr AV) (h:Heap) (k:VK):Prop:=
 match ev x r,ev y r with
 | .int kd a,.int ld b=>
  (match op with
   | .quo=>Bool.casesOn (motive:=λ_=>Prop) (qb kd ld) False (b≠0/\k (.int kd (aj kd (Int.tdiv a b))) h)| .rem=>Bool.casesOn (motive:=λ_=>Prop) (qb kd ld) False (b≠0/\k (.int kd (Int.tmod a b)) h)| .and=>Bool.casesOn (motive:=λ_=>Prop) (qb kd ld) False (Mk Nat.land kd a b h k)| .or=>Bool.casesOn (motive:=λ_=>Prop) (qb kd ld) False (Mk Nat.lor kd a b h k)| .xor=>Bool.casesOn (motive:=λ_=>Prop) (qb kd ld) False (Mk Nat.xor kd a b h k)| .shl=>0<=b/\k (.int kd (aj kd (Int.mul a (.ofNat (Nat.pow 2 (Nat.min b.toNat (fP kd))))))) h| .shr=>(0<=a/\0<=b)/\k (.int kd (.ofNat (Nat.div a.toNat (Nat.pow 2 (Nat.min b.toNat (fP kd)))))) h|op=>uX (IF op P t (.int kd a) (.int ld b)) h k)
 | .str a,.str b=>(match op with
  | .add=>a.length+b.length<=9223372036854775807/\k (.str (a++b)) h|op=>uX (IF op P t (.str a) (.str b)) h k)
 |x,y=>uX (IF op P t x y) h k
def yS (src dst:TypeId) (x:Operand) (P:Program) (r:Tr AV) (h:Heap) (k:VK):Prop:=
 match ev x r with
 | .int kd n=>uX (Fy P src dst (.int kd n)) h k| .str s=>uX (Fy P src dst (.str s)) h k|_=>∃v,gp src dst x P r h=some v/\k v h
def DO (ts:List TypeId) (aZs:AV) (P:Program) (h:Heap) (k:VK):Prop:=
 match ts,aZs with
 |t::u::_,.cons s (.cons x _)=>
  (match iG P t with
   |none=>False|some e=>(match fN P e,iM P e,dM P e,se x with
    |some sz,some by_,some z,some n=>Bool.casesOn (motive:=λ_=>Prop) (aF (Nat.beq z.len sz) (aY (nH P u))) (Mj (kN ts aZs P h) k)
     (∃new,CS x n sz h=some new/\(match s with
      | .bt=>(n*(by_+1)<=1099511627776/\dN new=true)/\k (.gs h.n n sz) ⟨h.t.set (.gl new false) h.n,h.n.succ⟩| .gs id len nY=>Bool.casesOn (motive:=λ_=>Prop) (Nat.beq sz nY) False (match h.t.get id with
       |some (.gl l false)=>((len+n)*(by_+1)<=1099511627776/\dN new=true/\len*sz=l.len)/\k (.gs h.n (len+n) sz) ⟨(h.t.del id).set (.gl (app l new) false) h.n,h.n.succ⟩|_=>False)
      |s=>Mj (iw sz by_ s x n new h) k))
    |_,_,_,_=>Mj (kN ts aZs P h) k))
 |_,_=>False
structure ClP (off n sz:Nat) (g z:AV) (k:AV ->Prop):Prop where
 pos:0<n
 fit:off+n*sz<=g.len
 len:(fW n z).len=n*sz
 cell:dN (fW n z)=true
 k:k (gV off g (fW n z))
def JV (ts:List TypeId) (xs:AV) (P:Program) (h:Heap) (k:VK):Prop:=
 match ts,xs with
 |t::_,.cons (.slice id off n _ nY) _=>
  (match iG P t with
   |none=>False|some e=>(match fN P e,dM P e,h.t.get id with
    |some sz,some z,some (.gl g false)=>Bool.casesOn (motive:=λ_=>Prop) (aF (Nat.beq sz nY) (Nat.beq z.len sz)) False (ClP off n sz g z λg'=>k (.aS .nil) ⟨h.t.set (.gl g' false) id,h.n⟩)|_,_,_=>Mj (oT ts xs P h) k))
 |_,_=>Mj (oT ts xs P h) k
def SA (cx:Cx) (x:OR) (k:VK):Prop:=
 match x with
 | .enter g aZs h=>f1L aZs λaZs=>∃v h',cx.call (.fn g) aZs h= .ret v h'/\k v h'
 | .round id aZs h=>f1L aZs λaZs=>∃v h',cx.call (.rd id) aZs h= .ret v h'/\k v h'
 |_=>False
def wOp (o:Op) (cx:Cx) (r:Tr AV) (h:Heap) (k:VK):Prop:=
 match o with
 | .indexAddr t x i=>tF t x i cx.P r h k| .index t x i=>JS t x i cx.P r h k| .load t a=>Sx t a cx.P r h k| .store t a x=>JT t a x cx.P r h k| .slice t x lo hi mx=>JU t x lo hi mx cx.P r h k| .makeSlice t l c=>tG t l c cx.P r h k| .pick c a b=>Sz c a b r h k| .binOp op t x y _=>acH op t x y cx.P r h k| .convert a b x=>yS a b x cx.P r h k| .call c=>(match c.callee with
  | .value f=>SA cx (LN (ev f r) (qc c.args.toList r) h) k| .builtin .append=>DO c.argTypes.toList (qc c.args.toList r) cx.P h k| .builtin .clear=>JV c.argTypes.toList (qc c.args.toList r) cx.P h k|_=>Mj (pY (.call c) cx.P r h) k)
 |o=>Mj (pY o cx.P r h) k
end
end
end
end Go.Sy
