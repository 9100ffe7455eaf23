/- A piece of the proof, made small by a program of ours. -/
import Derived.Test.YtilmgbneiikbiaaGreatDoorP04
set_option linter.all false
set_option maxRecDepth 1000000
set_option maxHeartbeats 0
namespace Go.Sy
noncomputable section
open Go.RowKit Go.Proofs Go.Proofs.Tryz
abbrev pR (T:aT) (k:Nat):aT:=⟨T.l,k⟩
section
variable [aT] {P:Program} {B0:Nat}
section
def JY (h:Heap):List (Pos×AO) ->Prop
 |[]=>True|x::l=>h.t.get x.1=some x.2/\JY h l
def fK (P:Program) (fn:Func) (v:AV) (H:List (Pos×AO)) (N:Pos):KC:=λr m h=>fM (gu m h) λh2=>fLo (pP P fn.results.toList r h2) λl=>yl l=v/\Nat.ble h2.n.toNat N.toNat=true/\JY h2 H
end
theorem yY {h:Heap}:∀{H:List (Pos×AO)},JY h H ->∀x∈H,h.t.get x.1=some x.2
 |y::l,hh,x,hx=>by
  rcases List.mem_cons.1 hx with rfl|hx
  .exact hh.1
  .exact yY hh.2 x hx
theorem SO {fn:Func} {v:AV} {H:List (Pos×AO)} {N:Pos} {r:Tr AV} {m:List Pos} {h:Heap} (hf:fK P fn v H N r m h):
  ∃h2 l,gu m h=some h2/\pP P fn.results.toList r h2=some l/\yl l=v/\h2.n.toNat<=N.toNat/\∀x∈H,h2.t.get x.1=some x.2:=by
 unfold fK at hf;cases h1:gu m h with
 |none=>rw [h1]at hf;exact hf.elim|some h2=>
  rw [h1]at hf;change fLo (pP P fn.results.toList r h2) (λl=>yl l=v/\Nat.ble h2.n.toNat N.toNat=true/\JY h2 H)at hf;cases h3:pP P fn.results.toList r h2 with
  |none=>rw [h3]at hf;exact hf.elim|some l=>
   rw [h3]at hf;obtain⟨g1,g2,g3⟩:=hf;exact⟨h2,l,rfl,h3,g1,Nat.le_of_ble_eq_true g2,yY g3⟩
theorem HR.abg {μ:Mu} {h:Heap} {w:World} (hr:HR μ B0 h w) (t:Tr AO) (n':Pos) (hn:h.n.toNat<=n'.toNat) (key:∀q p,t.get q=some p ->h.t.get q=some p):HR μ B0 ⟨t,n'⟩ w:=
 ⟨λid B e=>Nat.lt_of_lt_of_le (hr.fresh id B e) hn,λq o e=>Nat.lt_of_lt_of_le (hr.live q o (key q o e)) hn,λq B o e1 e2=>hr.obj q B o e1 (key q o e2),λi j A C p q pQ e1 e2 e3 e4=>hr.sep i j A C p q pQ e1 e2 (key _ _ e3) (key _ _ e4),
  λq B o e1 e2 e3=>hr.own q B o e1 (key _ _ e2) e3,hr.dO,hr.size,hr.Ar,λq B o e1 e2 e3=>hr.apart q B o e1 (key _ _ e2) e3,hr.tab⟩
theorem yZ (eH:eO P) {f:FuncId} {fn:Func} {c:Code} (hf:P.funcs[f]?=some fn) (hb:fn.body=some c) {aZs v:AV} {r:Tr AV} (gm:iH aZs 0 fn.ntmps .leaf=some r) {call:eL ->AV ->Heap ->CR} {h0:Heap} {H:List (Pos×AO)} {N:Pos}
  (hk:h0.n.toNat=64+aT.k) (hN:h0.n.toNat<=N.toNat) (hw:Cw P B0 ⟨P,f,fn.ntmps,none,call,0⟩ c r [] h0 (QK (fK P fn v H N) (fK P fn v H N) (λ_ _ _ _=>False))) {μ:Mu} {w:World} (Dh:HR μ B0 h0 w):
  (∀cargs:Array Value,(callFunc f cargs).run P w= .ok (.enter f cargs) w)/\∀cargs:Array Value,cJ μ aZs cargs.toList ->
   Calls P f cargs w λe w'=>∃cv μ',e= .returned cv/\dC μ' v cv/\bP μ B0 h0 w μ' ⟨bV H,N⟩ w':=by
 refine⟨λcargs=>eH f fn cargs w hf (by rw [hb];rfl),λcargs eR=>?_⟩;obtain⟨SF,mo⟩:=tE gm eR;have hsz:cargs.size<=fn.ntmps:=by
  rcases SF with e|e
  .have:cargs.size=0:=(by rw [<-Array.length_toList,e];rfl);omega
  .rw [Array.length_toList]at e;omega
 have hRR:RR μ r (cargs++Array.replicate (fn.ntmps - cargs.size) undef):=by
  intro k u hk;rcases mo k u hk with ⟨_,cv,h1,h2⟩|h1
  .refine⟨cv,?_,h2⟩;have h1:cargs[k]?=some cv:=(by simpa using h1);obtain⟨cR,_⟩:=Array.getElem?_eq_some_iff.1 h1;rw [Array.getElem?_append_left cR];exact h1
  .cases h1
 have Po:AR μ fn.ntmps r [] ⟨cargs++Array.replicate (fn.ntmps - cargs.size) undef,[]⟩:=⟨hRR,by simp;omega,aB⟩
 have fin:∀(r1:Tr AV) (m1:List Pos) (h1:Heap) (μ1:Mu) (a1:Act) (w1:World) (k1:List Item) (cs:List Frame),fK P fn v H N r1 m1 h1 ->XT μ h0.n B0 w μ1 h1 w1 ->AR μ1 fn.ntmps r1 m1 a1 ->
   Steps P (lone (Frame.enter P f cargs .normal) cs w) (lone {(Frame.enter P f cargs .normal).atR a1 k1 with mode:= .returning} cs w1) ->
   ∃e w' fr,(∃(cv:Value) (μ':Mu),e=Ending.returned cv/\dC μ' v cv/\bP μ B0 h0 w μ' ⟨bV H,N⟩ w')/\Comes P (lone (Frame.enter P f cargs .normal) cs w) (lone fr cs w') e/\fr.fn=f/\fr.leaving P w' e:=by
  intro r1 m1 h1 μ1 a1 w1 k1 cs mT hp ha dA;obtain⟨h2,l,htm,oi,hv,hn2,hH⟩:=SO mT;obtain⟨w2,lq,lr⟩:=nj (P:=P) m1 {(Frame.enter P f cargs .normal).atR a1 k1 with mode:= .returning} cs hp.rel ha.dr htm rfl;obtain⟨cv,bu,Az⟩:=nO (fn:=fn) lq.rel ha.rr oi;rw [hv]at Az;have Ms:=(hp.dK.xx (by omega)).1;refine⟨.returned cv,w2,_,⟨cv,μ1,rfl,Az,⟨λid hid=>Ms id (bz.2 (show id.toNat<64+aT.k by omega)),hN,lq.rel.abg _ _ hn2 (λq p e=>hH (q,p) (rJ e)),hp.below.trans lq.below,hp.dK.g.trans lq.dK⟩⟩,dA.trans lr,rfl,rfl,rfl,rfl,fn,hf,bu⟩
 intro cs;have heq:=yP (P:=P) (cargs:=cargs) hf hb;have Su:∀μ n,Rb μ n ⟨P,f,fn.ntmps,none,call,0⟩ (Frame.enter P f cargs .normal):=λ_ _=> .none rfl rfl rfl rfl;obtain⟨x,hq,hx⟩:=hw μ w (Frame.enter P f cargs .normal) _ [] cs Dh Po (Su _ _);cases x with
 |fail=>exact hx.elim|exit i r1 m1 h1=>exact hq.elim|ok r1 m1 h1=>
  obtain⟨μ1,a1,w1,hp,ha,dA⟩:=hx;have dA:=jw heq dA;exact fin r1 m1 h1 μ1 a1 w1 [] cs hq hp ha (dA.trans (.one (stepR_end rfl)))
 |ret r1 m1 h1=>
  obtain⟨μ1,a1,w1,hp,ha,k',dA⟩:=hx;have dA:=jw heq dA;exact fin r1 m1 h1 μ1 a1 w1 _ cs hq hp ha (dA.trans (.one (stepR_ret rfl)))
end
theorem HR.tabs (T T':aT) (e:T.l=T'.l) {μ:Mu} {B0:Nat} {h:Heap} {w:World} (hr:@HR T μ B0 h w):@HR T' μ B0 h w:=
 @HR.mk T' μ B0 h w (@HR.fresh T _ _ _ _ hr) (@HR.live T _ _ _ _ hr) (@HR.obj T _ _ _ _ hr) (@HR.sep T _ _ _ _ hr) (@HR.own T _ _ _ _ hr) (@HR.dO T _ _ _ _ hr) (@HR.size T _ _ _ _ hr) (@HR.Ar T _ _ _ _ hr) (@HR.apart T _ _ _ _ hr) (by rw [<-e];exact @HR.tab T _ _ _ _ hr)
theorem bP.tabs (T T':aT) (e:T.l=T'.l) {μ μ':Mu} {B0:Nat} {h h':Heap} {w w':World} (p:@bP T μ B0 h w μ' h' w'):@bP T' μ B0 h w μ' h' w':=
 @bP.mk T' μ B0 h w μ' h' w' (@bP.ext T _ _ _ _ _ _ _ p) (@bP.le T _ _ _ _ _ _ _ p) (HR.tabs T T' e (@bP.rel T _ _ _ _ _ _ _ p)) (Below.tabs (λk=>e.trans k) (@bP.below T _ _ _ _ _ _ _ p)) (@bP.dK T _ _ _ _ _ _ _ p)
open Classical in
def jS (f0:FuncId) (PC:AV) (h0:Heap) (v0:AV) (h1:Heap) (call:eL ->AV ->Heap ->CR):eL ->AV ->Heap ->CR:=λt aZs h=>if t= .fn f0/\aZs=PC/\h=h0 then .ret v0 h1 else call t aZs h
theorem PE {f0:FuncId} {PC:AV} {h0:Heap} {v0:AV} {h1:Heap} {call:eL ->AV ->Heap ->CR}:jS f0 PC h0 v0 h1 call (.fn f0) PC h0= .ret v0 h1:=if_pos ⟨rfl,rfl,rfl⟩
theorem JZ {f0 f:FuncId} (dD:f≠f0) {PC aZs:AV} {h0 h:Heap} {v0:AV} {h1:Heap} {call:eL ->AV ->Heap ->CR}:jS f0 PC h0 v0 h1 call (.fn f) aZs h=call (.fn f) aZs h:=if_neg (λe=>dD (by injection e.1))
theorem jT {T:aT} {P:Program} {B0:Nat} (eH:eO P) (k:Nat) {call jV:eL ->AV ->Heap ->CR} (aZ:@aU T P B0 call) {f:FuncId} {fn:Func} {c:Code} (hf:P.funcs[f]?=some fn) (hb:fn.body=some c) {aZs v:AV} {r:Tr AV} (gm:iH aZs 0 fn.ntmps .leaf=some r)
  {h0:Heap} {H:List (Pos×AO)} {N:Pos} (hk:h0.n.toNat=64+k) (hN:h0.n.toNat<=N.toNat)
  (hw:@Cw (pR T k) P B0 ⟨P,f,fn.ntmps,none,jV,0⟩ c r [] h0 (QK (fK P fn v H N) (fK P fn v H N) (λ_ _ _ _=>False))):@aU T P B0 (jS f aZs h0 v ⟨bV H,N⟩ call):=by
 intro t uZ h v' h' e μ w hr;unfold jS at e;split at e
 .rename_i hx;obtain⟨rfl,rfl,rfl⟩:=hx;cases e;obtain⟨g1,g2⟩:= @yZ (pR T k) P B0 eH f fn c hf hb uZ v r gm jV h H N hk hN hw μ w (HR.tabs T (pR T k) rfl hr);refine⟨g1,λcargs eR=>(g2 cargs eR).mono λe w' hx=>?_⟩;obtain⟨cv,μ',h1,h2,h3⟩:=hx;exact⟨cv,μ',h1,h2,bP.tabs (pR T k) T rfl h3⟩
 .exact aZ t uZ h v' h' e μ w hr
theorem HR.ait {T T0:aT} (e:T0.l=[]) {μ:Mu} {B0:Nat} {h:Heap} {w:World} (hr:@HR T μ B0 h w):@HR T0 μ B0 h w:=
 @HR.mk T0 μ B0 h w (@HR.fresh T _ _ _ _ hr) (@HR.live T _ _ _ _ hr) (@HR.obj T _ _ _ _ hr) (@HR.sep T _ _ _ _ hr) (@HR.own T _ _ _ _ hr) (@HR.dO T _ _ _ _ hr) (@HR.size T _ _ _ _ hr) (@HR.Ar T _ _ _ _ hr) (@HR.apart T _ _ _ _ hr) (by rw [e];intro i x hi;simp at hi)
theorem HR.DT {T T0:aT} {μ:Mu} {B0:Nat} {h:Heap} {w:World} (hr:@HR T0 μ B0 h w) (ht:AA μ.s T.l):@HR T μ B0 h w:=
 @HR.mk T μ B0 h w (@HR.fresh T0 _ _ _ _ hr) (@HR.live T0 _ _ _ _ hr) (@HR.obj T0 _ _ _ _ hr) (@HR.sep T0 _ _ _ _ hr) (@HR.own T0 _ _ _ _ hr) (@HR.dO T0 _ _ _ _ hr) (@HR.size T0 _ _ _ _ hr) (@HR.Ar T0 _ _ _ _ hr) (@HR.apart T0 _ _ _ _ hr) ht
theorem bP.DT {T T0:aT} (e0:T0.l=[]) {μ μ':Mu} {B0:Nat} {h h':Heap} {w w':World} (hr:@HR T μ B0 h w) (p:@bP T0 μ B0 h w μ' h' w'):@bP T μ B0 h w μ' h' w':=
 @bP.mk T μ B0 h w μ' h' w' (@bP.ext T0 _ _ _ _ _ _ _ p) (@bP.le T0 _ _ _ _ _ _ _ p) (HR.DT (@bP.rel T0 _ _ _ _ _ _ _ p) (AA.mono (@bP.dK T0 _ _ _ _ _ _ _ p).le (@HR.tab T _ _ _ _ hr))) (Below.tabs (λ_=>e0) (@bP.below T0 _ _ _ _ _ _ _ p)) (@bP.dK T0 _ _ _ _ _ _ _ p)
theorem PG {T T0:aT} (e0:T0.l=[]) {P:Program} {B0:Nat} (eH:eO P) (k:Nat) {call jV:eL ->AV ->Heap ->CR} (aZ:@aU T P B0 call) {f:FuncId} {fn:Func} {c:Code} (hf:P.funcs[f]?=some fn) (hb:fn.body=some c) {aZs v:AV} {r:Tr AV} (gm:iH aZs 0 fn.ntmps .leaf=some r)
  {h0:Heap} {H:List (Pos×AO)} {N:Pos} (hk:h0.n.toNat=64+k) (hN:h0.n.toNat<=N.toNat)
  (hw:@Cw (pR T0 k) P B0 ⟨P,f,fn.ntmps,none,jV,0⟩ c r [] h0 (QK (fK P fn v H N) (fK P fn v H N) (λ_ _ _ _=>False))):@aU T P B0 (jS f aZs h0 v ⟨bV H,N⟩ call):=by
 intro t uZ h v' h' e μ w hr;unfold jS at e;split at e
 .rename_i hx;obtain⟨rfl,rfl,rfl⟩:=hx;cases e;obtain⟨g1,g2⟩:= @yZ (pR T0 k) P B0 eH f fn c hf hb uZ v r gm jV h H N hk hN hw μ w (HR.ait (T0:=pR T0 k) e0 hr);refine⟨g1,λcargs eR=>(g2 cargs eR).mono λe w' hx=>?_⟩;obtain⟨cv,μ',h1,h2,h3⟩:=hx;exact⟨cv,μ',h1,h2,bP.DT (T0:=pR T0 k) e0 hr h3⟩
 .exact aZ t uZ h v' h' e μ w hr
section
variable [aT] {P:Program} {B0:Nat} {cx:Cx}
def LW (P:Program) (B0:Nat) (cx:Cx) (body:Code) (Q:R ->Prop):Nat ->KC
 |0,_,_,_=>False|n+1,r,m,h=>wp P B0 cx body (λr m h=>LW P B0 cx body Q n r m h) (λr m h=>Q (.ret r m h)) (λi r m h=>Q (.exit i r m h)) r m h
theorem SP (hm:P.follows .mixedOrders=true) (hP:cx.P=P) (AU:cx.rd=none) (aZ:aU P B0 cx.call) {body:Code} {Q:R ->Prop}:∀(n:Nat) {r:Tr AV} {m:List Pos} {h:Heap},LW P B0 cx body Q n r m h ->
  ∀(μ:Mu) (w:World) (b:Frame) (a:Act) (kk:List Item) (cs:List Frame),HR μ B0 h w ->AR μ cx.nt r m a ->Rb μ h.n cx b ->∃x,Q x/\RW P B0 μ h.n w cx.nt b kk cs (lone (b.atR a (.code body::.inLoop body::kk)) cs w) x
 |0,r,m,h,e=>e.elim|n+1,r,m,h,e=>by
  intro μ w b a kk cs hr ha hf;obtain⟨z,h1,h2⟩:=aD hm hP AU aZ body e μ w b a (.inLoop body::kk) cs hr ha hf;cases z with
  |fail=>exact h2.elim|ok r1 m1 ma=>
   obtain⟨μ1,a1,w1,hp,rF,dA⟩:=h2;obtain⟨x,e1,e2⟩:=SP hm hP AU aZ n h1 μ1 w1 b a1 kk cs hp.rel rF (hf.grow hp.dK);exact⟨x,e1,e2.ahead (dA.trans (.one stepR_inLoop)) hp.below hp.dK⟩
  |exit i r1 m1 ma=>
   obtain⟨μ1,a1,w1,hp,rF,k',he,dA⟩:=h2;exact⟨.exit i r1 m1 ma,h1,μ1,a1,w1,hp,rF,k',he,dA⟩
  |ret r1 m1 ma=>
   obtain⟨μ1,a1,w1,hp,rF,k',dA⟩:=h2;exact⟨.ret r1 m1 ma,h1,μ1,a1,w1,hp,rF,k',dA⟩
theorem Cw.bH (hm:P.follows .mixedOrders=true) (hP:cx.P=P) (AU:cx.rd=none) (aZ:aU P B0 cx.call) (n:Nat) {body:Code} {Q:R ->Prop} {r:Tr AV} {m:List Pos} {h:Heap} (hl:LW P B0 cx body Q n r m h):Cw P B0 cx (.loop body) r m h Q:=by
 intro μ w b a kk cs hr ha hf;obtain⟨z,h1,h2⟩:=SP hm hP AU aZ n hl μ w b a kk cs hr ha hf;exact⟨z,h1,h2.ahead (.one stepR_loop) (Below.refl _ _) (lG.refl _ _ _)⟩
end
end
end Go.Sy
namespace Go.Sy
section
variable [aT]
noncomputable section
def bR (l:List AV) (t:AV):AV:=l.foldr AV.cons t
end
theorem br:∀{a:AV},DP a ->cN a:=λhd μ μ' cv hs hv=>DP.pure hs hd hv
theorem za:∀{l m:List AV} {t u:AV},l.length=m.length ->bR l t=bR m u ->l=m/\t=u
 |[],[],t,u,_,h=>⟨rfl,h⟩
 |[],_::_,_,_,hl,_=>by cases hl
 |_::_,[],_,_,hl,_=>by cases hl
 |a::l,b::m,t,u,hl,h=>by
  injection h with h1 h2;obtain⟨h3,h4⟩:=za (by simpa using hl) h2;exact⟨by rw [h1,h3],h4⟩
structure bW (α:Type) where
 sz:Nat
 agg:Bool
 cs:α ->List AV
 len:∀x,(cs x).length=sz
 pos:0<sz
 wf:agg=true\/sz=1
 cell:∀x,∀a∈cs x,a.jG=true
 dp:∀x,∀a∈cs x,DP a
 inj:∀x y,cs x=cs y ->x=y
namespace bW
variable {α β:Type} (E:bW α)
noncomputable section
def c (x:α) (t:AV):AV:=bR (E.cs x) t
def v (x:α):AV:=match E.agg with|true=> .agg (E.c x .nil)|false=>(match E.cs x with|a::_=>a|[]=> .undef)
def l (xs:List α):AV:=xs.foldr E.c .nil
def s (xs:List α):AV:= .ro xs.length (E.l xs)
end
theorem rK:∀{l:List AV} {t:AV},(∀a∈l,DP a) ->dj t ->dj (bR l t)
 |[],_,_,h=>h|a::l,t,hl,h=> .cons (br (hl a (by simp))) (rK (λb hb=>hl b (by simp [hb])) h)
theorem SQ:∀{l:List AV} {t:AV},(∀a∈l,DP a) ->DP t ->DP (bR l t)
 |[],_,_,h=>h|a::l,t,hl,h=>⟨hl a (by simp),SQ (λb hb=>hl b (by simp [hb])) h⟩
theorem bm:∀(xs:List α),dj (E.l xs)
 |[]=> .nil|x::xs=>rK (E.dp x) (bm xs)
theorem lH (x:α) {t:AV} (h:dj t):dj (E.c x t):=rK (E.dp x) h
theorem dpS (xs:List α):DP (E.s xs):=E.bm xs
theorem ne_nil (x:α):E.cs x≠[]:=λh=>by
 have h1:=E.len x;have h2:=E.pos;rw [h]at h1;simp at h1;omega
theorem jm (x:α):DP (E.v x):=by
 unfold v;split
 .exact SQ (E.dp x) trivial
 .split
  .rename_i a l h;exact E.dp x a (by rw [h];simp)
  .rename_i h;exact absurd h (E.ne_nil x)
theorem an (x:α):cN (E.v x):=br (E.jm x)
theorem bO {x y:α} (h:E.v x=E.v y):x=y:=by
 have h1:=E.wf;unfold v at h;apply E.inj;cases ha:E.agg with
 |true=>
  rw [ha]at h;injection h with h;exact(za (by rw [E.len,E.len]) h).1
 |false=>
  rw [ha]at h;have h1:E.sz=1:=h1.resolve_left (by rw [ha];simp);have hx:=E.len x;have hy:=E.len y;rw [h1]at hx hy;obtain⟨a,ea⟩:=List.length_eq_one_iff.1 hx;obtain⟨b,eb⟩:=List.length_eq_one_iff.1 hy;rw [ea,eb]at h ⊢;simp only at h;rw [h]
theorem vd:∀{xs ys:List α},E.l xs=E.l ys ->xs=ys
 |[],[],_=>rfl|[],y::ys,h=>by
  exfalso;change AV.nil=bR (E.cs y) (E.l ys)at h;cases he:E.cs y with
  |nil=>exact E.ne_nil y he|cons a l=>rw [he]at h;cases h
 |x::xs,[],h=>by
  exfalso;change bR (E.cs x) (E.l xs)=AV.nil at h;cases he:E.cs x with
  |nil=>exact E.ne_nil x he|cons a l=>rw [he]at h;cases h
 |x::xs,y::ys,h=>by
  obtain⟨h1,h2⟩:=za (by rw [E.len,E.len]) (h:bR (E.cs x) (E.l xs)=bR (E.cs y) (E.l ys));rw [E.inj x y h1,vd h2]
theorem wc:∀{l:List AV} {t:AV} {n:Nat},cZ (l.length+n) (bR l t)=cZ n t
 |[],t,n=>by simp [bR]
 |a::l,t,n=>by
  rw [show(a::l).length+n=(l.length+n)+1 by simp;omega];exact wc (l:=l)
theorem Gv:∀{xs:List α} {i:Nat} (hi:i<xs.length) (k:Nat),cZ (Nat.add (Nat.mul i E.sz) k) (E.l xs)=cZ k (E.c xs[i] (E.l (xs.drop (i+1))))
 |x::xs,0,hi,k=>by
  rw [show Nat.add (Nat.mul 0 E.sz) k=k by simp];rfl
 |x::xs,i+1,hi,k=>by
  rw [show Nat.add (Nat.mul (i+1) E.sz) k=(E.cs x).length+Nat.add (Nat.mul i E.sz) k by rw [E.len];simp [Nat.add_mul];omega];exact wc.trans (Gv (xs:=xs) (i:=i) (by simpa using hi) k)
theorem BQ {xs:List α} {i:Nat} (hi:i<xs.length):cZ (Nat.mul i E.sz) (E.l xs)=E.c xs[i] (E.l (xs.drop (i+1))):=E.Gv hi 0
theorem xK:∀{xs:List α} {i:Nat},i<=xs.length ->cZ (Nat.mul i E.sz) (E.l xs)=E.l (xs.drop i)
 |xs,0,hi=>by rw [show Nat.mul 0 E.sz=0 by simp];rfl
 |x::xs,i+1,hi=>by
  rw [show Nat.mul (i+1) E.sz=(E.cs x).length+Nat.mul i E.sz by rw [E.len];simp [Nat.add_mul];omega];exact wc.trans (xK (xs:=xs) (i:=i) (by simpa using hi))
theorem we:∀{l:List AV} {t:AV} {n:Nat} {r:AV},dS n t=some r ->dS (l.length+n) (bR l t)=some (bR l r)
 |[],t,n,r,h=>by simpa [bR]using h
 |a::l,t,n,r,h=>by
  rw [show(a::l).length+n=(l.length+n)+1 by simp;omega];show Option.casesOn (motive:=λ_=>Option AV) (dS (l.length+n) (bR l t)) none (λl=>some (.cons a l))=_;rw [we h];rfl
theorem jW:∀{xs:List α} {i:Nat},i<=xs.length ->dS (Nat.mul i E.sz) (E.l xs)=some (E.l (xs.take i))
 |xs,0,hi=>by simp [dS];rfl
 |x::xs,i+1,hi=>by
  rw [show Nat.mul (i+1) E.sz=(E.cs x).length+Nat.mul i E.sz by rw [E.len];simp [Nat.add_mul];omega];exact we (jW (xs:=xs) (i:=i) (by simpa using hi))
theorem PH {xs:List α} {i j:Nat} (h:i+j<=xs.length):dS (Nat.mul j E.sz) (cZ (Nat.mul i E.sz) (E.l xs))=some (E.l ((xs.drop i).take j)):=by
 rw [E.xK (by omega)];exact E.jW (by simp;omega)
theorem ph:∀{l:List AV} {t:AV},(bR l t).len=l.length+t.len
 |[],t=>by simp [bR]
 |a::l,t=>by
  show Nat.succ (bR l t).len=_;rw [ph];simp;omega
theorem ep:∀(xs:List α),(E.l xs).len=xs.length*E.sz
 |[]=>by simp [l];rfl
 |x::xs=>by
  show(bR (E.cs x) (E.l xs)).len=_;rw [ph,ep xs,E.len];simp [Nat.add_mul];omega
theorem xL:∀{l:List AV} {t u:AV},app (bR l t) u=bR l (app t u)
 |[],t,u=>rfl|a::l,t,u=>by
  show AV.cons a (app (bR l t) u)=_;rw [xL];rfl
theorem ot:∀(xs ys:List α),app (E.l xs) (E.l ys)=E.l (xs++ys)
 |[],ys=>rfl|x::xs,ys=>xL.trans (congrArg (bR (E.cs x)) (ot xs ys))
theorem zb:∀{l:List AV} {t:AV},(∀a∈l,a.jG=true) ->dN t=true ->dN (bR l t)=true
 |[],t,_,h=>h|a::l,t,hl,h=>by
  show Bool.casesOn (motive:=λ_=>Bool) a.jG false (dN (bR l t))=true;rw [hl a (by simp)];exact zb (λb hb=>hl b (by simp [hb])) h
theorem kF:∀(xs:List α),dN (E.l xs)=true
 |[]=>rfl|x::xs=>zb (E.cell x) (kF xs)
theorem SR (x:α):∀n,fW n (E.c x .nil)=E.l (List.replicate n x)
 |0=>rfl|n+1=>by
  show app (E.c x .nil) (fW n (E.c x .nil))=_;rw [SR x n];exact xL
theorem qJ:∀{l m:List AV} {t:AV},l.length=m.length ->gV 0 (bR l t) (bR m .nil)=bR m t
 |[],[],t,_=>rfl|[],_::_,_,h=>by cases h
 |_::_,[],_,h=>by cases h
 |a::l,b::m,t,h=>by
  show AV.cons b (gV 0 (bR l t) (bR m .nil))=_;rw [qJ (by simpa using h)];rfl
theorem tL:∀{l:List AV} {t p:AV} {n:Nat},gV (l.length+n) (bR l t) p=bR l (gV n t p)
 |[],t,p,n=>by simp [bR]
 |a::l,t,p,n=>by
  rw [show(a::l).length+n=(l.length+n)+1 by simp;omega];show AV.cons a (gV (l.length+n) (bR l t) p)=_;rw [tL];rfl
theorem Gw:∀{xs:List α} {i:Nat} (x:α),i<xs.length ->gV (Nat.mul i E.sz) (E.l xs) (E.c x .nil)=E.l (xs.set i x)
 |y::xs,0,x,hi=>by
  rw [show Nat.mul 0 E.sz=0 by simp];exact qJ (by rw [E.len,E.len])
 |y::xs,i+1,x,hi=>by
  rw [show Nat.mul (i+1) E.sz=(E.cs y).length+Nat.mul i E.sz by rw [E.len];simp [Nat.add_mul];omega];exact tL.trans (congrArg (bR (E.cs y)) (Gw (xs:=xs) (i:=i) x (by simpa using hi)))
theorem Mt (x:α) (t:AV):dS E.sz (E.c x t)=some (E.c x .nil):=by
 have:=we (l:=E.cs x) (t:=t) (n:=0) (r:= .nil) rfl;rwa [E.len,Nat.add_zero]at this
theorem rd {P:Program} {t:TypeId} (ht:ss P t=some (match E.agg with|true=>some E.sz|false=>none)) {xs:List α} {i:Nat} (hi:i<xs.length):gM P t (cZ (Nat.mul i E.sz) (E.l xs))=some (E.v xs[i]):=by
 rw [E.BQ hi];unfold gM;rw [ht];unfold v;cases E.agg with
 |true=>simp only [E.Mt,Option.map_some]|false=>
  simp only;show(match E.c xs[i] _ with| .cons a _=>some a|_=>none)=_;cases he:E.cs xs[i]with
  |nil=>exact absurd he (E.ne_nil _)|cons a l=>unfold c;rw [he];rfl
theorem st {xs:List α} {i:Nat} (x:α) (hi:i<xs.length) {K:AV ->Prop} (hk:K (E.l (xs.set i x))):StP (Nat.mul i E.sz) E.sz (E.l xs) (E.c x .nil) K:=by
 refine⟨?_,by rw [E.Gw x hi];exact hk⟩;rw [E.ep];show i*E.sz+E.sz<=_;rw [<-Nat.succ_mul];exact Nat.mul_le_mul_right _ hi
theorem mk' {x:α} {ln cp:Int} {by_:Nat} (n m:Nat) (e1:ln=(n:Int)) (e2:cp=(m:Int)) (hle:n<=m) (hf:m*(by_+1)<=1099511627776) {K:Nat ->AV ->Prop} (hk:K n (E.l (List.replicate n x))):MkP ln cp by_ (E.c x .nil) K:=by
 subst e1 e2;refine⟨by omega,by omega,?_,?_⟩
 .rw [<-Int.natCast_mul];omega
 .show K n (fW n (E.c x .nil));rw [E.SR];exact hk
theorem gG {h:Heap} {id:Pos} {n:Nat} {ro:Bool} {xs ys:List α} (hg:h.t.get id=some (.gl (E.l xs) ro)) (e:xs=ys) (hn:n=ys.length):ak h (.gs id n E.sz) (E.s ys):=by
 subst e hn;exact ak.gs hg (E.ep xs) (bq.pure (E.bm xs))
end bW
theorem aL.go {z:Int} {n:Nat} {K:Nat ->Prop} (i:Nat) (e:z=(i:Int)) (hi:i<n) (hk:K i):aL z n K:=by
 subst e;exact⟨by omega,by omega,hk⟩
theorem JR.go {z:Int} {n:Nat} {K:Nat ->Prop} (i:Nat) (e:z=(i:Int)) (hi:i<=n) (hk:K i):JR z n K:=by
 subst e;exact⟨by omega,by omega,hk⟩
def bW.one {α:Type} (f:α ->AV) (hc:∀x,(f x).jG=true) (hd:∀x,DP (f x)) (hi:∀x y,f x=f y ->x=y):bW α where
 sz:=1
 agg:=false
 cs:=λx=>[f x]
 len:=λ_=>rfl
 pos:=by decide
 wf:= .inr rfl
 cell:=λx a h=>by rw [List.mem_singleton.1 h];exact hc x
 dp:=λx a h=>by rw [List.mem_singleton.1 h];exact hd x
 inj:=λx y h=>by injection h with h;exact hi x y h
def au (k:IntKind):bW Int:= .one (.int k) (λ_=>rfl) (λ_=>trivial) (λx y h=>by injection h)
def bG:bW Bool:= .one .bool (λ_=>rfl) (λ_=>trivial) (λx y h=>by injection h)
def aV:bW (List Nat):= .one .str (λ_=>rfl) (λ_=>trivial) (λx y h=>by injection h)
def bW.list {α:Type} (E:bW α):bW (List α):= .one E.s (λ_=>rfl) E.dpS (λx y h=>E.vd (by injection h))
def bW.pair {α β:Type} (A:bW α) (B:bW β):bW (α×β):=⟨A.sz+B.sz,true,λx=>A.cs x.1++B.cs x.2,λx=>by rw [List.length_append,A.len,B.len],by have:=A.pos;omega,.inl rfl,
 λx a h=>(List.mem_append.1 h).elim (A.cell _ a) (B.cell _ a),λx a h=>(List.mem_append.1 h).elim (A.dp _ a) (B.dp _ a),
 λx y h=>by
  obtain⟨h1,h2⟩:=List.append_inj h (by rw [A.len,A.len]);exact Prod.ext (A.inj _ _ h1) (B.inj _ _ h2)⟩
def bW.by {α β:Type} (E:bW α) (f:β ->α) (hf:∀x y,f x=f y ->x=y):bW β:=⟨E.sz,E.agg,λx=>E.cs (f x),λx=>E.len _,E.pos,E.wf,λx=>E.cell _,λx=>E.dp _,λx y h=>hf _ _ (E.inj _ _ h)⟩
def bW.struct {α:Type} (E:bW α):bW α:={E with agg:=true,wf:= .inl rfl}
end
end Go.Sy
namespace Go.Sy
noncomputable section
open Go.RowKit Go.Proofs Go.Proofs.Tryz
section
abbrev fp:aT:=⟨[],0⟩
attribute [local instance] fp
theorem aO {x y:Int}:cQ x y=true↔x<y:=by rw [iy];simp
theorem aX {x y:Int}:cQ x y=false↔y<=x:=by rw [iy];simp
theorem cG {x y:Int}:gD x y=true↔x<=y:=by rw [jf];simp
theorem kG {x y:Int}:gD x y=false↔y<x:=by rw [jf];simp
theorem bh {x y:Int}:bD x y=true↔x=y:=by rw [ga];simp
theorem jo {x y:Int}:bD x y=false↔x≠y:=by rw [ga];simp
theorem kV {b:Bool}:aY b=true↔b=false:=by cases b<;>simp [aY]
theorem rM {b:Bool}:aY b=false↔b=true:=by cases b<;>simp [aY]
theorem xM {x y:Int}:aY (bD x y)=true↔x≠y:=by rw [kV,jo]
theorem zc {x y:Int}:aY (bD x y)=false↔x=y:=by rw [rM,bh]
theorem ve {k:IntKind} {n:Int} (h1:-(Ft k:Int)<=n) (h2:n<(yf k:Int)):aj k n=n:=by
 unfold aj;rw [cM.2 ⟨h1,h2⟩]
theorem aA {n:Int} (h1:-9223372036854775808<=n) (h2:n<9223372036854775808):aj .i64 n=n:=ve h1 h2
theorem aW {n:Int} (h1:0<=n) (h2:n<18446744073709551616):aj .u64 n=n:=ve (by simpa [Ft]using h1) h2
theorem gA {n:Int} (h1:0<=n) (h2:n<4294967296):aj .u32 n=n:=ve (by simpa [Ft]using h1) h2
theorem wrap_u32 (n:Int):aj .u32 n=n % 4294967296:=by
 rw [iX];simp [IntKind.wrap,IntKind.signed,IntKind.bits]
theorem wrap_u64 (n:Int):aj .u64 n=n % 18446744073709551616:=by
 rw [iX];simp [IntKind.wrap,IntKind.signed,IntKind.bits]
theorem wrap_i64 (n:Int):aj .i64 n=(n+9223372036854775808) % 18446744073709551616 - 9223372036854775808:=by
 rw [iX];simp [IntKind.wrap,IntKind.signed,IntKind.bits];split<;>omega
def fL:Nat ->Nat ->List Int
 |0,_=>[]
 |n+1,v=>((v % 4294967296:Nat):Int)::fL n (v/4294967296)
def nd (v:Nat):Nat:=match v with|0=>0|v=>v.log2/32+1
def dg (v:Nat):List Int:=fL (nd v) v
def val:List Int ->Nat
 |[]=>0|x::l=>x.toNat+4294967296*val l
def DG (l:List Int):Prop:=∀x∈l,0<=x/\x<4294967296
theorem DG.cons {x:Int} {l:List Int}:DG (x::l)↔(0<=x/\x<4294967296)/\DG l:=by simp [DG]
theorem DG.nil:DG []:=by simp [DG]
theorem bf:∀(n v:Nat),(fL n v).length=n
 |0,_=>rfl|n+1,v=>by simp [fL,bf n]
theorem gH:∀(n v:Nat),DG (fL n v)
 |0,_=> .nil|n+1,v=>DG.cons.2 ⟨by omega,gH n _⟩
theorem gO:∀(n v:Nat),val (fL n v)=v % 4294967296 ^ n
 |0,v=>by simp [fL,val,Nat.mod_one]
 |n+1,v=>by
  simp only [fL,val];rw [show(((v % 4294967296:Nat):Int)).toNat=v % 4294967296 from rfl,gO n,Nat.pow_succ,Nat.mul_comm _ 4294967296,Nat.mod_mul]
theorem nr:∀{l:List Int},DG l ->fL l.length (val l)=l
 |[],_=>rfl|x::l,h=>by
  obtain⟨⟨h1,h2⟩,h3⟩:=DG.cons.1 h;simp only [List.length_cons,fL,val];have e1:(x.toNat+4294967296*val l) % 4294967296=x.toNat:=by omega
  have e2:(x.toNat+4294967296*val l)/4294967296=val l:=by omega
  rw [e1,e2,nr h3];congr 1;omega
theorem pj:∀{l:List Int},DG l ->val l<4294967296 ^ l.length
 |[],_=>by simp [val]
 |x::l,h=>by
  obtain⟨⟨h1,h2⟩,h3⟩:=DG.cons.1 h;have:=pj h3;simp only [List.length_cons,val,Nat.pow_succ];omega
theorem gf:∀(l m:List Int),val (l++m)=val l+4294967296 ^ l.length*val m
 |[],m=>by simp [val]
 |x::l,m=>by
  simp only [List.cons_append,val,gf l m,List.length_cons,Nat.pow_succ];rw [Nat.mul_add,<-Nat.mul_assoc,Nat.mul_comm 4294967296 (4294967296 ^ l.length)];omega
theorem val_inj {l m:List Int} (hl:DG l) (hm:DG m) (hn:l.length=m.length) (h:val l=val m):l=m:=by
 rw [<-nr hl,<-nr hm,hn,h]
theorem nQ {v:Nat} (h:v≠0):nd v=v.log2/32+1:=by
 unfold nd;split
 .exact absurd rfl h
 .rfl
theorem abh (n:Nat):4294967296 ^ n=2 ^ (32*n):=by rw [Nat.pow_mul]
theorem dV (v:Nat):v<4294967296 ^ nd v:=by
 by_cases h:v=0
 .subst h;simp [nd]
 .rw [nQ h,abh,<-Nat.log2_lt h];omega
theorem xa {v n:Nat} (h:v<4294967296 ^ n):nd v<=n:=by
 by_cases h0:v=0
 .subst h0;simp [nd]
 .rw [abh,<-Nat.log2_lt h0]at h;rw [nQ h0];omega
theorem qK {v n:Nat} (h:n<nd v):4294967296 ^ n<=v:=by
 apply Nat.le_of_not_lt;intro hh;have:=xa hh;omega
theorem bj (v:Nat):(dg v).length=nd v:=bf _ _
theorem abj (v:Nat):DG (dg v):=gH _ _
theorem DU (v:Nat):val (dg v)=v:=by
 unfold dg;rw [gO,Nat.mod_eq_of_lt (dV v)]
theorem acP {v w:Nat} (h:dg v=dg w):v=w:=by rw [<-DU v,h,DU]
theorem acQ {v:Nat}:dg v=[]↔v=0:=⟨λh=>by rw [<-DU v,h];rfl,λh=>by rw [h];rfl⟩
def Trim (l:List Int):Prop:=l.getLast?≠some 0
theorem acR {l:List Int} (hl:DG l) (ht:Trim l):nd (val l)=l.length:=by
 rcases List.eq_nil_or_concat l with rfl|⟨m,x,rfl⟩
 .rfl
 .have hx:x≠0:=by
   intro e;apply ht;simp [e]
  have hm:DG m:=λy hy=>hl y (by simp [hy]);obtain⟨h1,h2⟩:=hl x (by simp);rw [List.concat_eq_append,gf,List.length_append];have cR:=pj hm;apply Nat.le_antisymm
  .apply xa;rw [<-List.length_append];have:=pj (l:=m++[x]) (by simpa [List.concat_eq_append]using hl);rwa [gf]at this
  .apply Nat.le_of_not_lt;intro hh;have h3:=dV (val m+4294967296 ^ m.length*val [x]);have h4:nd (val m+4294967296 ^ m.length*val [x])<=m.length:=(by simp at hh;simpa using Nat.le_of_lt_succ hh);have h5:=Nat.lt_of_lt_of_le h3 (Nat.pow_le_pow_right (by decide) h4);have h6:val [x]=x.toNat:=(by simp [val]);rw [h6]at h5;have h7:1<=x.toNat:=(by omega);have:=Nat.mul_le_mul_left (4294967296 ^ m.length) h7;omega
theorem acS {l:List Int} (hl:DG l) (ht:Trim l):dg (val l)=l:=by
 unfold dg;rw [acR hl ht,nr hl]
end
theorem PJ {h l hi u2 M U' V' q rest:Nat} (hM:0<M) (hV:V'<M) (hh:0<h) (hhb:h<4294967296) (hl:l<4294967296) (hu2:u2<4294967296) (hU:U'<M) (hqb:q<4294967296)
  (hqr:q*h+rest=hi) (ht:4294967296<=rest\/q*l<=rest*4294967296+u2):
  q*((h*4294967296+l)*M+V')<(hi*4294967296+u2)*M+U'+((h*4294967296+l)*M+V'):=by
 have h1:q*(h*4294967296+l)<=hi*4294967296+u2:=by
  have:q*(h*4294967296+l)=q*h*4294967296+q*l:=by rw [Nat.mul_add,Nat.mul_assoc]
  rw [this,<-hqr,Nat.add_mul];rcases ht with ht|ht
  .have:q*l<=4294967296*4294967296:=Nat.mul_le_mul (Nat.le_of_lt hqb) (Nat.le_of_lt hl);have:4294967296*4294967296<=rest*4294967296:=Nat.mul_le_mul_right _ ht;omega
  .omega
 have h2:q*(h*4294967296+l)*M<=(hi*4294967296+u2)*M:=Nat.mul_le_mul_right _ h1;have h3:q*V'<=q*M:=Nat.mul_le_mul_left _ (Nat.le_of_lt hV);have h4:q*M<=4294967296*M:=Nat.mul_le_mul_right _ (Nat.le_of_lt hqb);have h4':q*V'<4294967296*M\/q*V'=0:=by
  rcases Nat.eq_zero_or_pos q with e|e
  .right;rw [e,Nat.zero_mul]
  .left;have:q*V'<q*M:=Nat.mul_lt_mul_of_pos_left hV e;omega
 have h5:4294967296*M<=h*4294967296*M:=by
  have:1*4294967296<=h*4294967296:=Nat.mul_le_mul_right _ hh;have:=Nat.mul_le_mul_right M this;omega
 have h6:(h*4294967296+l)*M=h*4294967296*M+l*M:=Nat.add_mul _ _ _;have h7:q*((h*4294967296+l)*M+V')=q*(h*4294967296+l)*M+q*V':=by rw [Nat.mul_add,Nat.mul_assoc]
 rw [h7];have h8:0<h*4294967296*M:=Nat.mul_pos (Nat.mul_pos hh (by decide)) hM;omega
theorem XW {h l hi u2 M U' V' q rest Q:Nat} (hU:U'<M) (hqr:q*h+rest=hi) (hQ:Q*((h*4294967296+l)*M+V')<=(hi*4294967296+u2)*M+U') (ht:rest*4294967296+u2<q*l):Q<q:=by
 apply Nat.lt_of_not_le;intro hle;have h1:q*((h*4294967296+l)*M+V')<=Q*((h*4294967296+l)*M+V'):=Nat.mul_le_mul_right _ hle;have h2:q*((h*4294967296+l)*M+V')=q*(h*4294967296+l)*M+q*V':=by rw [Nat.mul_add,Nat.mul_assoc]
 have h3:hi*4294967296+u2+1<=q*(h*4294967296+l):=by
  have:q*(h*4294967296+l)=q*h*4294967296+q*l:=by rw [Nat.mul_add,Nat.mul_assoc]
  rw [this,<-hqr,Nat.add_mul];omega
 have h4:=Nat.mul_le_mul_right M h3;have h5:(hi*4294967296+u2+1)*M=(hi*4294967296+u2)*M+M:=by rw [Nat.add_mul (hi*4294967296+u2),Nat.one_mul]
 omega
theorem SS {h l hi u2 M U' V' Q:Nat} (hh:0<h) (hM:0<M) (hu2:u2<4294967296) (hU:U'<M) (hQ:Q*((h*4294967296+l)*M+V')<=(hi*4294967296+u2)*M+U'):Q<=hi/h:=by
 rw [Nat.le_div_iff_mul_le hh];apply Nat.le_of_lt_succ;apply Nat.lt_of_not_le;intro hle;have h1:(hi+1)*(4294967296*M)<=Q*h*(4294967296*M):=Nat.mul_le_mul_right _ hle;have h2:Q*h*(4294967296*M)<=Q*((h*4294967296+l)*M+V'):=by
  rw [Nat.mul_assoc];apply Nat.mul_le_mul_left;rw [<-Nat.mul_assoc,Nat.add_mul];omega
 have h3:(hi+1)*(4294967296*M)=hi*4294967296*M+4294967296*M:=by rw [Nat.add_mul,Nat.one_mul,Nat.mul_assoc]
 have h4:(hi*4294967296+u2)*M=hi*4294967296*M+u2*M:=Nat.add_mul _ _ _;have h5:(u2+1)*M<=4294967296*M:=Nat.mul_le_mul_right _ hu2;have h6:(u2+1)*M=u2*M+M:=by rw [Nat.add_mul,Nat.one_mul]
 omega
section
variable [aT] {P:Program}
theorem Gx {l:List (Cn P)} (h:(l.map Cn.f).Nodup):l.Pairwise (λc d=>c.f≠d.f):=by
 induction l with
 |nil=>exact .nil|cons c l ih=>
  simp only [List.map_cons,List.nodup_cons]at h;refine List.pairwise_cons.2 ⟨λd hd e=>h.1 ?_,ih h.2⟩;rw [e];exact List.mem_map.2 ⟨d,hd,rfl⟩
theorem bA {l:List (Cn P)} (hl:(l.map Cn.f).Nodup) (i:Nat) {c:Cn P} (hc:l[i]?=some c) (a:c.α) (gy:c.ok a) {aZs:AV} {h:Heap} (hbor:ij h aZs) (has:c.aZs a=jk c.flat h aZs) {K:AV ->Heap ->Prop}
  (hk:K (c.v a) (match c.flat with|true=>h|false=>Fk h (jl aZs))):∃v h',aH l (.fn c.f) aZs h= .ret v h'/\K v h':=by
 refine⟨_,_,BO (Gx hl) (List.mem_of_getElem? hc) (v:=c.v a) (h':=if c.flat then h else Fk h (jl aZs)) ⟨rfl,hbor,⟨a,gy,has,rfl⟩,rfl⟩,?_⟩;cases hf:c.flat with
 |true=>rw [hf]at hk;simpa using hk|false=>rw [hf]at hk;simpa using hk
theorem df (l:List (Cn P)) (i:Nat) (c:Cn P) (a:c.α) (gy:c.ok a) {aZs:AV} {h:Heap} {K:AV ->Heap ->Prop} (hk:K (c.v a) (match c.flat with|true=>h|false=>Fk h (jl aZs)))
 (hl:(l.map Cn.f).Nodup:=by decide) (hc:l[i]?=some c:=by rfl) (hbor:ij h aZs:=by repeat' first|exact aB|exact rfl|refine And.intro ?_ ?_) (has:c.aZs a=jk c.flat h aZs:=by rfl):∃v h',aH l (.fn c.f) aZs h= .ret v h'/\K v h':=bA hl i hc a gy hbor has hk
def pL:AV ->Bool
 | .bool _=>true| .int _ _=>true| .str _=>true| .fy=>true| .lM=>true| .kR=>true| .bt=>true|_=>false
theorem xb {a:AV} (h:pL a=true):SI a:=by
 intro μ μ' cv hv;cases a<;>first|exact hv|cases h
theorem BR:∀{l:List AV},(∀a∈l,pL a=true) ->∀(μ μ':Mu) (xs:List Value),cJ μ (bR l .nil) xs ->cJ μ' (bR l .nil) xs
 |[],_,_,_,_,h=>h|a::l,hl,μ,μ',xs,h=>by
  obtain⟨v,r,e,h1,h2⟩:=h;exact⟨v,r,e,xb (hl a (by simp)) μ μ' v h1,BR (λb hb=>hl b (by simp [hb])) μ μ' r h2⟩
theorem bW.zd {α:Type} (E:bW α) (x:α) (h:∀a∈E.cs x,pL a=true):SI (E.v x):=by
 unfold bW.v;split
 .intro μ μ' cv hv;obtain⟨c,e,h1⟩:=hv;exact⟨c,e,BR h μ μ' _ h1⟩
 .split
  .rename_i a l he;exact xb (h a (by rw [he];simp))
  .rename_i he;exact absurd he (E.ne_nil x)
section
variable {α β γ ρ:Type}
def Cn.of0 (R:bW ρ) (f:FuncId) (y:ρ) (pf:PF P f .nil (R.v y)) (bd:∃fn,P.funcs[f]?=some fn/\fn.body.isSome=true):Cn P where
 f:=f
 flat:=false
 α:=Unit
 aZs:=λ_=> .nil
 v:=λ_=>R.v y
 ok:=λ_=>True
 inj:=λ_ _ _ _ _=>rfl
 dp:=λ_=>trivial
 pv:=λ_=>R.an _
 fl:=λh=>by cases h
 pf:=λ_ _=>pf
 bd:=bd
def Cn.mU (A:bW α) (R:bW ρ) (f:FuncId) (flat:Bool) (ok:α ->Prop) (g:α ->ρ) (fl:flat=true ->∀y,∀a∈R.cs y,pL a=true) (pf:∀a,ok a ->PF P f (.cons (A.v a) .nil) (R.v (g a))) (bd:∃fn,P.funcs[f]?=some fn/\fn.body.isSome=true):Cn P where
 f:=f
 flat:=flat
 α:=α
 aZs:=λa=> .cons (A.v a) .nil
 v:=λa=>R.v (g a)
 ok:=ok
 inj:=λa b _ _ h=>by injection h with h1 _;rw [A.bO h1]
 dp:=λa=>⟨A.jm a,aB⟩
 pv:=λa=>R.an _
 fl:=λh a=>R.zd _ (fl h _)
 pf:=pf
 bd:=bd
def Cn.kP (A:bW α) (B:bW β) (R:bW ρ) (f:FuncId) (flat:Bool) (ok:α ->β ->Prop) (g:α ->β ->ρ) (fl:flat=true ->∀y,∀a∈R.cs y,pL a=true) (pf:∀a b,ok a b ->PF P f (.cons (A.v a) (.cons (B.v b) .nil)) (R.v (g a b))) (bd:∃fn,P.funcs[f]?=some fn/\fn.body.isSome=true):Cn P where
 f:=f
 flat:=flat
 α:=α×β
 aZs:=λa=> .cons (A.v a.1) (.cons (B.v a.2) .nil)
 v:=λa=>R.v (g a.1 a.2)
 ok:=λa=>ok a.1 a.2
 inj:=λa b _ _ h=>by injection h with h1 h;injection h with h2 _;rw [A.bO h1,B.bO h2]
 dp:=λa=>⟨A.jm _,B.jm _,aB⟩
 pv:=λa=>R.an _
 fl:=λh a=>R.zd _ (fl h _)
 pf:=λa h=>pf _ _ h
 bd:=bd
def Cn.Gy {σ:Type} (A:bW α) (B:bW β) (R:bW ρ) (S:bW σ) (f:FuncId) (ok:α ->β ->Prop) (g:α ->β ->ρ) (k:α ->β ->σ) (pf:∀a b,ok a b ->PF P f (.cons (A.v a) (.cons (B.v b) .nil)) (.aS (.cons (R.v (g a b)) (.cons (S.v (k a b)) .nil)))) (bd:∃fn,P.funcs[f]?=some fn/\fn.body.isSome=true):Cn P where
 f:=f
 flat:=false
 α:=α×β
 aZs:=λa=> .cons (A.v a.1) (.cons (B.v a.2) .nil)
 v:=λa=> .aS (.cons (R.v (g a.1 a.2)) (.cons (S.v (k a.1 a.2)) .nil))
 ok:=λa=>ok a.1 a.2
 inj:=λa b _ _ h=>by injection h with h1 h;injection h with h2 _;rw [A.bO h1,B.bO h2]
 dp:=λa=>⟨A.jm _,B.jm _,aB⟩
 pv:=λa=> .aS (.cons (R.an _) (.cons (S.an _) .nil))
 fl:=λh=>by cases h
 pf:=λa h=>pf _ _ h
 bd:=bd
def Cn.afv {σ τ:Type} (A:bW α) (B:bW β) (R:bW ρ) (S:bW σ) (T:bW τ) (f:FuncId) (ok:α ->β ->Prop) (g:α ->β ->ρ) (k:α ->β ->σ) (m:α ->β ->τ) (pf:∀a b,ok a b ->PF P f (.cons (A.v a) (.cons (B.v b) .nil)) (.aS (.cons (R.v (g a b)) (.cons (S.v (k a b)) (.cons (T.v (m a b)) .nil))))) (bd:∃fn,P.funcs[f]?=some fn/\fn.body.isSome=true):Cn P where
 f:=f
 flat:=false
 α:=α×β
 aZs:=λa=> .cons (A.v a.1) (.cons (B.v a.2) .nil)
 v:=λa=> .aS (.cons (R.v (g a.1 a.2)) (.cons (S.v (k a.1 a.2)) (.cons (T.v (m a.1 a.2)) .nil)))
 ok:=λa=>ok a.1 a.2
 inj:=λa b _ _ h=>by injection h with h1 h;injection h with h2 _;rw [A.bO h1,B.bO h2]
 dp:=λa=>⟨A.jm _,B.jm _,aB⟩
 pv:=λa=> .aS (.cons (R.an _) (.cons (S.an _) (.cons (T.an _) .nil)))
 fl:=λh=>by cases h
 pf:=λa h=>pf _ _ h
 bd:=bd
end
end
theorem nx {P Q:Prop} (q:Q) (p:P:=by first|exact⟨_,rfl,rfl⟩|exact aB|exact rfl|(focus ((conv=>whnf);(try exact aB);(try exact rfl);(try exact⟨_,rfl,rfl⟩);done))):P/\Q:=⟨p,q⟩
section
variable [aT] {P:Program}
theorem cn {l:List (Cn P)} (hl:(l.map Cn.f).Nodup) (i:Nat) {c:Cn P} (hc:l[i]?=some c) (a:c.α) (gy:c.ok a) {aZs:AV} {h:Heap} (hbor:ij h aZs:=by repeat' first|exact aB|exact rfl|refine⟨?_,?_⟩) (has:c.aZs a=jk c.flat h aZs:=by rfl) {K:AV ->Heap ->Prop}
 (hk:K (c.v a) (match c.flat with|true=>h|false=>Fk h (jl aZs))):∃v h',aH l (.fn c.f) aZs h= .ret v h'/\K v h':=bA hl i hc a gy hbor has hk
theorem cC {l:List (Cn P)} (hl:(l.map Cn.f).Nodup) (i:Nat) {c:Cn P} (hc:l[i]?=some c) (a:c.α) (gy:c.ok a) {v:AV} (hv:c.v a=v) {aZs:AV} {h:Heap} (hbor:ij h aZs:=by repeat' first|exact aB|exact rfl|refine⟨?_,?_⟩) (has:c.aZs a=jk c.flat h aZs:=by rfl) {K:AV ->Heap ->Prop}
 (hk:K v (match c.flat with|true=>h|false=>Fk h (jl aZs))):∃v h',aH l (.fn c.f) aZs h= .ret v h'/\K v h':=bA hl i hc a gy hbor has (by rw [hv];exact hk)
theorem pn {f0:FuncId} {PC aZs:AV} {h0 h:Heap} {v0:AV} {h1:Heap} {call:eL ->AV ->Heap ->CR} (ea:aZs=PC:=by rfl) (eh:h=h0:=by rfl) {K:AV ->Heap ->Prop} (hk:K v0 h1):∃v h',jS f0 PC h0 v0 h1 call (.fn f0) aZs h= .ret v h'/\K v h':=by
 subst ea eh;exact⟨_,_,PE,hk⟩
theorem gP {f0 f:FuncId} {PC aZs:AV} {h0 h:Heap} {v0:AV} {h1:Heap} {call:eL ->AV ->Heap ->CR} (dD:f≠f0) {K:AV ->Heap ->Prop} (hk:∃v h',call (.fn f) aZs h= .ret v h'/\K v h'):∃v h',jS f0 PC h0 v0 h1 call (.fn f) aZs h= .ret v h'/\K v h':=by
 obtain⟨v,h',e,k⟩:=hk;exact⟨v,h',(JZ dD).trans e,k⟩
end
theorem bT {b:Bool} {kt kf:Prop} (h:b=true) (k:kt):Bool.casesOn (motive:=λ_=>Prop) b kf kt:=by subst h;exact k
theorem xA {b:Bool} {kt kf:Prop} (h:b=false) (k:kf):Bool.casesOn (motive:=λ_=>Prop) b kf kt:=by subst h;exact k
structure Av (ι:Type) where
 ar:ι ->AV
 h0:ι ->Heap
 v:ι ->AV
 H:ι ->List (Pos×AO)
 N:ι ->Pos
 ok:ι ->Prop
 inj:∀i j,ok i ->ok j ->ar i=ar j ->h0 i=h0 j ->v i=v j/\H i=H j/\N i=N j
open Classical in
def fQ {ι:Type} (f0:FuncId) (F:Av ι) (call:eL ->AV ->Heap ->CR):eL ->AV ->Heap ->CR:=λt aZs h=>
 if hx:∃i,F.ok i/\t= .fn f0/\aZs=F.ar i/\h=F.h0 i then .ret (F.v hx.choose) ⟨bV (F.H hx.choose),F.N hx.choose⟩else call t aZs h
section
variable {ι:Type} {F:Av ι} {call:eL ->AV ->Heap ->CR} {f0:FuncId}
theorem BS (i:ι) (hi:F.ok i):fQ f0 F call (.fn f0) (F.ar i) (F.h0 i)= .ret (F.v i) ⟨bV (F.H i),F.N i⟩:=by
 have hx:∃j,F.ok j/\eL.fn f0= .fn f0/\F.ar i=F.ar j/\F.h0 i=F.h0 j:=⟨i,hi,rfl,rfl,rfl⟩
 unfold fQ;rw [dif_pos hx];obtain⟨h1,_,h2,h3⟩:=hx.choose_spec;obtain⟨e1,e2,e3⟩:=F.inj _ _ h1 hi h2.symm h3.symm;rw [e1,e2,e3]
theorem Ka {f:FuncId} (dD:f≠f0) {aZs:AV} {h:Heap}:fQ f0 F call (.fn f) aZs h=call (.fn f) aZs h:=by
 unfold fQ;rw [dif_neg];rintro ⟨i,_,e,_⟩;exact dD (by injection e)
theorem lO (i:ι) (hi:F.ok i) {aZs:AV} {h:Heap} (ea:aZs=F.ar i:=by rfl) (eh:h=F.h0 i:=by rfl) {K:AV ->Heap ->Prop} (hk:K (F.v i) ⟨bV (F.H i),F.N i⟩):∃v h',fQ f0 F call (.fn f0) aZs h= .ret v h'/\K v h':=by
 subst ea eh;exact⟨_,_,BS i hi,hk⟩
theorem bS {f:FuncId} (dD:f≠f0) {aZs:AV} {h:Heap} {K:AV ->Heap ->Prop} (hk:∃v h',call (.fn f) aZs h= .ret v h'/\K v h'):∃v h',fQ f0 F call (.fn f) aZs h= .ret v h'/\K v h':=by
 obtain⟨v,h',e,k⟩:=hk;exact⟨v,h',(Ka dD).trans e,k⟩
end
theorem jX {ι:Type} {T:aT} {P:Program} {B0:Nat} (eH:eO P) (k:Nat) {call:eL ->AV ->Heap ->CR} (aZ:@aU T P B0 call) {f:FuncId} {fn:Func} {c:Code} (hf:P.funcs[f]?=some fn) (hb:fn.body=some c) (F:Av ι)
  (hw:∀i,F.ok i ->∃(r:Tr AV) (jV:eL ->AV ->Heap ->CR),iH (F.ar i) 0 fn.ntmps .leaf=some r/\(F.h0 i).n.toNat=64+k/\(F.h0 i).n.toNat<=(F.N i).toNat/\
   @Cw (pR T k) P B0 ⟨P,f,fn.ntmps,none,jV,0⟩ c r [] (F.h0 i) (QK (fK P fn (F.v i) (F.H i) (F.N i)) (fK P fn (F.v i) (F.H i) (F.N i)) (λ_ _ _ _=>False))):@aU T P B0 (fQ f F call):=by
 intro t uZ h v' h' e μ w hr;unfold fQ at e;split at e
 .rename_i hx;obtain⟨hi,ht,ha,hh⟩:=hx.choose_spec;generalize hx.choose=i at*;subst ht ha hh;cases e;obtain⟨r,jV,gm,hk,hN,hw⟩:=hw i hi;obtain⟨g1,g2⟩:= @yZ (pR T k) P B0 eH f fn c hf hb (F.ar i) (F.v i) r gm jV (F.h0 i) (F.H i) (F.N i) hk hN hw μ w (HR.tabs T (pR T k) rfl hr);refine⟨g1,λcargs eR=>(g2 cargs eR).mono λe w' hx=>?_⟩;obtain⟨cv,μ',h1,h2,h3⟩:=hx;exact⟨cv,μ',h1,h2,bP.tabs (pR T k) T rfl h3⟩
 .exact aZ t uZ h v' h' e μ w hr
theorem Cw.vf {T:aT} {P:Program} {B0:Nat} {cx:Cx} {c:Code} {r:Tr AV} {m:List Pos} {h:Heap} {Q:R ->Prop} (k sz:Nat) (hg:r.get (pathOf k)=some (.ro 0 .nil))
  (h1:Cw P B0 cx c (r.set .bt (pathOf k)) m h Q) (h2:Cw P B0 cx c (r.set (.sle h.n sz) (pathOf k)) m h Q):Cw P B0 cx c r m h Q:=by
 intro μ w b a kk cs hr ha hb;obtain⟨cv,Az,hv⟩:=ha.rr k _ hg;obtain⟨xs,hx,hv⟩:=hv;have SU:∀{v:AV},dC μ v cv ->RR μ (r.set v (pathOf k)) a.tmps:=by
  intro v hv j u hu;rw [Tr.bE]at hu;split at hu
  .rename_i e;cases hu;rw [dJ e];exact⟨cv,Az,hv⟩
  .exact ha.rr j u hu
 rcases hv with ⟨bb,oo,cc,e,hn,_⟩|⟨_,_,q,e⟩
 .exact h2 μ w b a kk cs hr ⟨SU ⟨_,_,e⟩,ha.size,ha.dr⟩ hb
 .cases q with
  |none=>exact h1 μ w b a kk cs hr ⟨SU e,ha.size,ha.dr⟩ hb|some q=>exact h2 μ w b a kk cs hr ⟨SU ⟨_,_,e⟩,ha.size,ha.dr⟩ hb
theorem Cw.XX {T:aT} {P:Program} {B0:Nat} {cx:Cx} {c:Code} {r:Tr AV} {m:List Pos} {h:Heap} {Q:R ->Prop} (k:Nat) {id:Pos} {n sz:Nat} (hg:r.get (pathOf k)=some (.gs id n sz)) (hn:n≠0)
  (h1:Cw P B0 cx c (r.set (.slice id 0 n n sz) (pathOf k)) m h Q):Cw P B0 cx c r m h Q:=by
 intro μ w b a kk cs hr ha hb;obtain⟨cv,Az,hv⟩:=ha.rr k _ hg;obtain⟨B,hB,hv⟩:=hv;rcases hv with ⟨cc,e,hc,tm⟩|⟨e,_⟩
 .refine h1 μ w b a kk cs hr ⟨λj u hu=>?_,ha.size,ha.dr⟩ hb;rw [Tr.bE]at hu;split at hu
  .rename_i e';cases hu;rw [dJ e'];exact⟨cv,Az,B,cc,hB,e,hc,Nat.le_refl _,by rw [Nat.zero_add];exact tm⟩
  .exact ha.rr j u hu
 .exact absurd e hn
def wpN [aT] (P:Program) (B0:Nat) (cx:Cx):Nat ->Code ->KC ->KC ->(Nat ->KC) ->KC
 |n+1,.seq a b,jF,dG,kEx,r,m,h=>wp P B0 cx a (wpN P B0 cx n b jF dG kEx) dG kEx r m h|_,c,jF,dG,kEx,r,m,h=>Cw P B0 cx c r m h (QK jF dG kEx)
theorem PK [aT] {P:Program} {B0:Nat} {cx:Cx} (hm:P.follows .mixedOrders=true) (hP:cx.P=P) (AU:cx.rd=none) (aZ:aU P B0 cx.call):∀(n:Nat) (c:Code) {jF dG:KC} {kEx:Nat ->KC} {r:Tr AV} {m:List Pos} {h:Heap},wpN P B0 cx n c jF dG kEx r m h ->Cw P B0 cx c r m h (QK jF dG kEx):=by
 intro n;induction n with
 |zero=>intro c jF dG kEx r m h hk;cases c<;>exact hk|succ n ih=>
  intro c jF dG kEx r m h hk;cases c with
  |seq a b=>
   refine Cw.seq ((aD hm hP AU aZ a hk).mono ?_);intro x hx;cases x with
   |ok r m h=>exact ih b hx|_=>exact hx
  |_=>exact hk
def Mv:Nat ->Code ->Code
 |n+1,.seq _ b=>Mv n b|_,c=>c
def vK (fn:Func):Code:=fn.body.getD .skip
def fnR (fn:Func) (l:AV):Tr AV:=(iH l 0 fn.ntmps .leaf).getD .leaf
section
variable [aT]
section
def XY {β:Type} (n:Nat) (k:Nat ->β):β:=Nat.rec (motive:=λ_=>β) (k 0) (λm _=>k (Nat.succ m)) n
def afw {β:Type} (z:Int) (k:Int ->β):β:=Int.rec (motive:=λ_=>β) (λn=>XY n λn=>k (.ofNat n)) (λn=>XY n λn=>k (.negSucc n)) z
def fAV {β:Type} (v:AV):(AV ->β) ->β:=
 AV.rec (motive:=λ_=>(AV ->β) ->β) (λk=>k .undef) (λb k=>Bool.rec (motive:=λ_=>β) (k (.bool false)) (k (.bool true)) b) (λi n k=>afw n λn=>k (.int i n)) (λi a b k=>k (.xp i a b)) (λs k=>k (.str s)) (λm k=>k (.pZ m))
  (λp o k=>k (.ptr p o)) (λl n r k=>k (.dq l n)) (λk=>k .fy) (λp a b c d k=>k (.slice p a b c d)) (λn l r k=>XY n λn=>r λl=>k (.ro n l)) (λp a b k=>k (.gs p a b)) (λp a k=>k (.sle p a)) (λk=>k .bt)
  (λp k=>k (.map p)) (λk=>k .qa) (λf a b ra rb k=>k (.func f a b)) (λp k=>k (.yield p)) (λk=>k .kR) (λt v r k=>k (.iface t v)) (λk=>k .lM) (λl r k=>r λl=>k (.agg l)) (λl r k=>r λl=>k (.aS l))
  (λk=>k .nil) (λh t rh rt k=>rh λh=>rt λt=>k (.cons h t)) v
theorem DV {β:Type} (n:Nat) (k:Nat ->β):XY n k=k n:=by cases n<;>rfl
theorem XZ {β:Type} (z:Int) (k:Int ->β):afw z k=k z:=by
 cases z with
 |ofNat n=>exact DV n (λn=>k (.ofNat n))|negSucc n=>exact DV n (λn=>k (.negSucc n))
theorem Kb {β:Type} (v:AV):∀k:AV ->β,fAV v k=k v:=by
 induction v with
 |bool b=>intro k;cases b<;>rfl|int i n=>intro k;exact XZ n (λn=>k (.int i n))|ro n l ih=>intro k;exact(DV n (λn=>fAV l λl=>k (.ro n l))).trans (ih λl=>k (.ro n l))|agg l ih=>intro k;exact ih _|aS l ih=>intro k;exact ih _|cons h t Kc Kd=>intro k;exact(Kc _).trans (Kd _)|_=>intro k;rfl
def DW (flat:Bool) (h:Heap) (v:AV):AV:=
 AV.rec (motive:=λ_=>AV) .undef (λb=> .bool b) (λi n=> .int i n) (λi a b=> .xp i a b) (λs=> .str s) (λm=> .pZ m)
  (λp o=>jk flat h (.ptr p o)) (λl n r=> .dq l n) .fy (λp a b c d=>jk flat h (.slice p a b c d)) (λn l r=> .ro n l) (λp a b=>jk flat h (.gs p a b)) (λp a=> .sle p a) (.ro 0 .nil)
  (λp=> .map p) .qa (λf a b ra rb=> .func f ra rb) (λp=> .yield p) .kR (λt v r=> .iface t v) .lM (λl r=> .agg r) (λl r=> .aS r)
  .nil (λh t rh rt=> .cons rh rt) v
theorem Ya {flat:Bool} {h:Heap} (v:AV):DW flat h v=jk flat h v:=by
 induction v with
 |func f a b Kc Kd=>show AV.func f (DW flat h a) (DW flat h b)=_;rw [Kc,Kd];rfl|agg l ih=>show AV.agg (DW flat h l)=_;rw [ih];rfl|aS l ih=>show AV.aS (DW flat h l)=_;rw [ih];rfl|cons a t Kc Kd=>show AV.cons (DW flat h a) (DW flat h t)=_;rw [Kc,Kd];rfl|_=>rfl
def acT (h:Heap) (v:AV):Bool:=
 AV.rec (motive:=λ_=>Bool) true (λb=>true) (λi n=>true) (λi a b=>true) (λs=>true) (λm=>true)
  (λp o=>true) (λl n r=>true) true (λp a b c d=>true) (λn l r=>true) (λp n sz=>match h.t.get p with|some (.gl l _)=>Nat.beq (Nat.mul n sz) l.len|_=>true) (λp a=>true) true
  (λp=>true) true (λf a b ra rb=>aF ra rb) (λp=>true) true (λt v r=>true) true (λl r=>r) (λl r=>r)
  true (λh t rh rt=>aF rh rt) v
theorem Yb {h:Heap} (v:AV) (e:acT h v=true):ij h v:=by
 induction v with
 |func f a b Kc Kd=>exact⟨Kc (aq.1 e).1,Kd (aq.1 e).2⟩|agg l ih=>exact ih e|aS l ih=>exact ih e|cons a t Kc Kd=>exact⟨Kc (aq.1 e).1,Kd (aq.1 e).2⟩|gs p n sz=>
  have e:(match h.t.get p with|some (.gl l _)=>Nat.beq (Nat.mul n sz) l.len|_=>true)=true:=e;show(match h.t.get p with|some (.gl l _)=>n*sz=l.len|_=>True);split
  .rename_i l ro hg;rw [hg]at e;exact Nat.eq_of_beq_eq_true e
  .trivial
 |_=>trivial
def sK (v:AV):Bool:=
 AV.rec (motive:=λ_=>Bool) false (λb=>false) (λi n=>false) (λi a b=>false) (λs=>false) (λm=>false)
  (λp o=>true) (λl n r=>false) false (λp a b c d=>true) (λn l r=>false) (λp n sz=>true) (λp a=>false) false
  (λp=>false) false (λf a b ra rb=>Bool.rec (motive:=λ_=>Bool) rb true ra) (λp=>false) false (λt v r=>false) false (λl r=>r) (λl r=>r)
  false (λh t rh rt=>Bool.rec (motive:=λ_=>Bool) rt true rh) v
theorem SV {v:AV} (e:sK v=false):jl v=[]:=by
 induction v with
 |agg l ih=>exact ih e|aS l ih=>exact ih e|cons a t Kc Kd=>
  have e:Bool.rec (motive:=λ_=>Bool) (sK t) true (sK a)=false:=e;cases ha:sK a with
  |true=>rw [ha]at e;cases e|false=>
   rw [ha]at e;show jl a++jl t=[]
   rw [Kc ha,Kd e];rfl
 |func f a t Kc Kd=>
  have e:Bool.rec (motive:=λ_=>Bool) (sK t) true (sK a)=false:=e;cases ha:sK a with
  |true=>rw [ha]at e;cases e|false=>
   rw [ha]at e;show jl a++jl t=[]
   rw [Kc ha,Kd e];rfl
 |slice p a b c d=>cases e|gs p n sz=>cases e|ptr p o=>cases e|_=>rfl
structure Dc (P:Program) where
 c:Cn P
 dec:AV ->Option c.α
 okb:c.α ->Bool
 Yc:∀l a,dec l=some a ->c.aZs a=l
 gy:∀a,okb a=true ->c.ok a
variable {P:Program}
def BT (v:AV):Bool:=
 AV.rec (motive:=λ_=>Bool) false (λb=>true) (λi n=>true) (λi a b=>false) (λs=>true) (λm=>false)
  (λp o=>false) (λl n r=>false) true (λp a b c d=>false) (λn l r=>true) (λp n sz=>false) (λp a=>false) false
  (λp=>false) false (λf a b ra rb=>false) (λp=>false) false (λt v r=>false) true (λl r=>r) (λl r=>r)
  true (λh t rh rt=>Bool.rec (motive:=λ_=>Bool) false rt rh) v
theorem SX {flat:Bool} {h:Heap} {v:AV} (e:BT v=true):jk flat h v=v/\ij h v/\jl v=[]:=by
 induction v with
 |agg l ih=>obtain⟨h1,h2,h3⟩:=ih e;exact⟨congrArg AV.agg h1,h2,h3⟩
 |aS l ih=>obtain⟨h1,h2,h3⟩:=ih e;exact⟨congrArg AV.aS h1,h2,h3⟩
 |cons a t Kc Kd=>
  have e:Bool.rec (motive:=λ_=>Bool) false (BT t) (BT a)=true:=e;cases ha:BT a with
  |false=>rw [ha]at e;cases e|true=>
   rw [ha]at e;obtain⟨h1,h2,h3⟩:=Kc ha;obtain⟨h4,h5,h6⟩:=Kd e;refine⟨?_,⟨h2,h5⟩,?_⟩
   .show AV.cons (jk flat h a) (jk flat h t)=_;rw [h1,h4]
   .show jl a++jl t=[];rw [h3,h6];rfl
 |bool b=>exact⟨rfl,aB,rfl⟩|int k n=>exact⟨rfl,aB,rfl⟩|str s=>exact⟨rfl,aB,rfl⟩|fy=>exact⟨rfl,aB,rfl⟩|ro n l _=>exact⟨rfl,aB,rfl⟩|lM=>exact⟨rfl,aB,rfl⟩|nil=>exact⟨rfl,aB,rfl⟩|_=>cases e
def Dc.got (d:Dc P) (o:Option d.c.α) (h:Heap):Option CR:=
 Option.rec (motive:=λ_=>Option CR) none (λa=>Bool.rec (motive:=λ_=>Option CR) none (fAV (d.c.v a) λv=>some (.ret v h)) (d.okb a)) o
def Dc.acU (d:Dc P) (aZs:AV) (h:Heap):Option CR:=
 Bool.rec (motive:=λ_=>Option CR) none
  (fAV (DW d.c.flat h aZs) λuZ=>Option.rec (motive:=λ_=>Option CR) none
   (λa=>Bool.rec (motive:=λ_=>Option CR) none
    (fAV (d.c.v a) λv=>some (.ret v (Bool.rec (motive:=λ_=>Heap) (Bool.rec (motive:=λ_=>Heap) h (Fk h (jl aZs)) (sK aZs)) h d.c.flat))) (d.okb a)) (d.dec uZ)) (acT h aZs)
theorem Dc.Ke {d:Dc P} {aZs:AV} {h:Heap} {r:CR} (e:d.acU aZs h=some r):∃v h',r= .ret v h'/\d.c.meets d.c.f aZs h v h':=by
 unfold Dc.acU at e;cases hb:acT h aZs with
 |false=>rw [hb]at e;cases e|true=>
  rw [hb]at e;have e:(fAV (DW d.c.flat h aZs) λuZ=>Option.rec (motive:=λ_=>Option CR) none (λa=>Bool.rec (motive:=λ_=>Option CR) none (fAV (d.c.v a) λv=>some (.ret v (Bool.rec (motive:=λ_=>Heap) (Bool.rec (motive:=λ_=>Heap) h (Fk h (jl aZs)) (sK aZs)) h d.c.flat))) (d.okb a)) (d.dec uZ))=some r:=e;rw [Kb,Ya]at e;cases hd:d.dec (jk d.c.flat h aZs)with
  |none=>rw [hd]at e;cases e|some a=>
   rw [hd]at e;cases ho:d.okb a with
   |false=>simp only [ho]at e;cases e|true=>
    simp only [ho,Kb]at e;cases e;refine⟨_,_,rfl,rfl,Yb _ hb,⟨a,d.gy a ho,d.Yc _ a hd,rfl⟩,?_⟩;cases d.c.flat with
    |true=>rfl|false=>
     simp only [Bool.false_eq_true,if_false];cases hl:sK aZs with
     |true=>rfl|false=>rw [SV hl];rfl
def Dc.run (d:Dc P) (aZs:AV) (h:Heap):Option CR:=Bool.rec (motive:=λ_=>Option CR) (d.acU aZs h) (d.got (d.dec aZs) h) (BT aZs)
theorem Dc.PL {d:Dc P} {aZs:AV} {h:Heap} {r:CR} (e:d.run aZs h=some r):∃v h',r= .ret v h'/\d.c.meets d.c.f aZs h v h':=by
 unfold Dc.run at e;cases hf:BT aZs with
 |false=>rw [hf]at e;exact Dc.Ke e|true=>
  rw [hf]at e;have e:d.got (d.dec aZs) h=some r:=e;obtain⟨h1,h2,h3⟩:=SX (flat:=d.c.flat) (h:=h) hf;unfold Dc.got at e;cases hd:d.dec aZs with
  |none=>rw [hd]at e;cases e|some a=>
   rw [hd]at e;cases ho:d.okb a with
   |false=>simp only [ho]at e;cases e|true=>
    simp only [ho,Kb]at e;cases e;refine⟨_,_,rfl,rfl,h2,⟨a,d.gy a ho,by rw [h1];exact d.Yc _ a hd,rfl⟩,?_⟩;cases d.c.flat with
    |true=>rfl|false=>
     simp only [Bool.false_eq_true,if_false];rw [h3];rfl
def sL (l:List (Dc P)):Tr (AV ->Heap ->Option CR):=List.rec .leaf (λd _ t=>t.set d.run (pathOf d.c.f)) l
theorem PM {l:List (Dc P)} {f:FuncId} {g:AV ->Heap ->Option CR} (e:(sL l).get (pathOf f)=some g):∃d:Dc P,d.c.f=f/\g=d.run:=by
 induction l with
 |nil=>cases e|cons d l ih=>
  change ((sL l).set d.run (pathOf d.c.f)).get (pathOf f)=some g at e;rw [Tr.bE]at e;split at e
  .rename_i h;cases e;exact⟨d,(dJ h).symm,rfl⟩
  .exact ih e
def ovD (t:Tr (AV ->Heap ->Option CR)):eL ->AV ->Heap ->Option CR:=λg aZs h=>
 eL.casesOn (motive:=λ_=>Option CR) g (λf=>Option.casesOn (motive:=λ_=>Option CR) (t.get (pathOf f)) none (λd=>d aZs h)) (λ_=>none)
theorem ze (eH:eO P) (l:List (Dc P)) (B0:Nat):xw P B0 (ovD (sL l)):=by
 intro g aZs h v h' hc;cases g with
 |rd id=>cases hc|fn f=>
  change (Option.casesOn (motive:=λ_=>Option CR) ((sL l).get (pathOf f)) none (λd=>d aZs h)).getD CR.fail= .ret v h' at hc;cases hg:(sL l).get (pathOf f)with
  |none=>rw [hg]at hc;cases hc|some g=>
   rw [hg]at hc;obtain⟨d,hf,rfl⟩:=PM hg;have hc:(d.run aZs h).getD CR.fail= .ret v h':=hc;cases hr:d.run aZs h with
   |none=>rw [hr]at hc;cases hc|some r=>
    rw [hr]at hc;obtain⟨v1,h1,rfl,hm⟩:=Dc.PL hr;have hc:CR.ret v1 h1= .ret v h':=hc;cases hc;rw [hf]at hm;exact az eH [d.c] B0 (.fn f) aZs h v h' (BO (l:=[d.c]) (List.pairwise_singleton _ _) (List.mem_singleton.2 rfl) hm)
structure bW.Rd {α:Type} (E:bW α) where
 rd:AV ->Option (α×AV)
 ok:∀l x t,rd l=some (x,t) ->l=E.c x t
def oB {α β:Type} (o:Option α) (f:α ->Option β):Option β:=Option.rec (motive:=λ_=>Option β) none f o
theorem dB {α β:Type} {o:Option α} {f:α ->Option β} {y:β} (h:oB o f=some y):∃x,o=some x/\f x=some y:=by
 cases o with
 |none=>cases h|some x=>exact⟨x,rfl,h⟩
def bB {β:Type} (b:Bool) (o:Option β):Option β:=Bool.rec (motive:=λ_=>Option β) none o b
theorem ns {β:Type} {b:Bool} {o:Option β} {y:β} (h:bB b o=some y):b=true/\o=some y:=by
 cases b with
 |false=>cases h|true=>exact⟨rfl,h⟩
def Kf (k:IntKind):(au k).Rd where
 rd:=λl=>match l with| .cons (.int k' n) t=>bB (qb k k') (some (n,t))|_=>none
 ok:=λl x t h=>by
  split at h
  .obtain⟨h1,h2⟩:=ns h;cases h2;rw [iA.1 h1];rfl
  .cases h
def afx:bG.Rd where
 rd:=λl=>match l with| .cons (.bool b) t=>some (b,t)|_=>none
 ok:=λl x t h=>by
  split at h
  .cases h;rfl
  .cases h
def aiu:aV.Rd where
 rd:=λl=>match l with| .cons (.str b) t=>some (b,t)|_=>none
 ok:=λl x t h=>by
  split at h
  .cases h;rfl
  .cases h
def PN (l:AV):Bool:=match l with| .nil=>true|_=>false
theorem DX {l:AV} (h:PN l=true):l= .nil:=by
 unfold PN at h;split at h
 .rfl
 .cases h
def rdN {α:Type} {E:bW α} (R:E.Rd) (n:Nat):AV ->Option (List α):=
 Nat.rec (motive:=λ_=>AV ->Option (List α)) (λl=>bB (PN l) (some [])) (λ_ ih l=>oB (R.rd l) λp=>oB (ih p.2) λr=>some (p.1::r)) n
theorem SY {α:Type} {E:bW α} (R:E.Rd):∀{n:Nat} {l:AV} {xs:List α},rdN R n l=some xs ->l=E.l xs/\xs.length=n
 |0,l,xs,h=>by
  change bB (PN l) (some [])=some xs at h;obtain⟨h1,h2⟩:=ns h;cases h2;exact⟨DX h1,rfl⟩
 |n+1,l,xs,h=>by
  change (oB (R.rd l) λp=>oB (rdN R n p.2) λr=>some (p.1::r))=some xs at h;obtain⟨⟨x,t⟩,h1,h⟩:=dB h;obtain⟨r,h2,h3⟩:=dB h;cases h3;obtain⟨h4,h5⟩:=SY R h2;exact⟨by rw [R.ok _ _ _ h1];show E.c x t=E.c x (E.l r);rw [<-h4],by simp [h5]⟩
def bW.Rd.list {α:Type} {E:bW α} (R:E.Rd):E.list.Rd where
 rd:=λl=>match l with| .cons (.ro n l) t=>oB (rdN R n l) λxs=>some (xs,t)|_=>none
 ok:=λl x t h=>by
  split at h
  .obtain⟨xs,h1,h2⟩:=dB h;cases h2;obtain⟨h3,h4⟩:=SY R h1;show _=AV.cons (.ro x.length (E.l x)) t;rw [h3,h4]
  .cases h
theorem acV {α β:Type} {A:bW α} {B:bW β} (x:α) (y:β) (t:AV):(A.pair B).c (x,y) t=A.c x (B.c y t):=by
 show bR (A.cs x++B.cs y) t=bR (A.cs x) (bR (B.cs y) t);unfold bR;rw [List.foldr_append]
def bW.Rd.pair {α β:Type} {A:bW α} {B:bW β} (R:A.Rd) (S:B.Rd):(A.pair B).Rd where
 rd:=λl=>oB (R.rd l) λp=>oB (S.rd p.2) λq=>some ((p.1,q.1),q.2)
 ok:=λl x t h=>by
  obtain⟨p,h1,h⟩:=dB h;obtain⟨q,h2,h3⟩:=dB h;cases h3;rw [acV,R.ok _ p.1 p.2 h1,S.ok _ q.1 q.2 h2]
def bW.Rd.by {α β:Type} {E:bW α} (R:E.Rd) {f:β ->α} {hf:∀x y,f x=f y ->x=y} (g:α ->Option β) (hg:∀a b,g a=some b ->f b=a):(E.by f hf).Rd where
 rd:=λl=>oB (R.rd l) λp=>oB (g p.1) λb=>some (b,p.2)
 ok:=λl x t h=>by
  obtain⟨p,h1,h⟩:=dB h;obtain⟨q,h2,h3⟩:=dB h;cases h3;rw [R.ok _ p.1 p.2 h1,<-hg _ _ h2];rfl
def bW.Rd.v {α:Type} {E:bW α} (R:E.Rd) (a:AV):Option α:=
 Bool.rec (motive:=λ_=>Option α) (oB (R.rd (.cons a .nil)) λp=>bB (PN p.2) (some p.1)) (match a with| .agg l=>oB (R.rd l) λp=>bB (PN p.2) (some p.1)|_=>none) E.agg
theorem bW.Rd.Yd {α:Type} {E:bW α} (R:E.Rd) {a:AV} {x:α} (h:R.v a=some x):E.v x=a:=by
 unfold bW.Rd.v at h;have hwf:=E.wf;unfold bW.v;cases ha:E.agg with
 |true=>
  rw [ha]at h;simp only at h;split at h
  .obtain⟨p,h1,h⟩:=dB h;obtain⟨h2,h3⟩:=ns h;cases h3;have:=R.ok _ p.1 p.2 h1;rw [this,DX h2]
  .cases h
 |false=>
  rw [ha]at h;simp only at h;obtain⟨p,h1,h⟩:=dB h;obtain⟨h2,h3⟩:=ns h;cases h3;have:=R.ok _ p.1 p.2 h1;rw [DX h2]at this;cases he:E.cs p.1 with
  |nil=>exact absurd he (E.ne_nil _)|cons b l=>
   unfold bW.c at this;rw [he]at this;simp only;injection this with h3 h4;exact h3.symm
def zf {α:Type} {A:bW α} (R:A.Rd) (l:AV):Option α:=match l with| .cons a .nil=>R.v a|_=>none
theorem lP {α:Type} {A:bW α} {R:A.Rd} {l:AV} {x:α} (h:zf R l=some x):AV.cons (A.v x) .nil=l:=by
 unfold zf at h;split at h
 .rw [R.Yd h]
 .cases h
def mV {α β:Type} {A:bW α} {B:bW β} (R:A.Rd) (S:B.Rd) (l:AV):Option (α×β):=match l with| .cons a (.cons b .nil)=>oB (R.v a) λx=>oB (S.v b) λy=>some (x,y)|_=>none
theorem dW {α β:Type} {A:bW α} {B:bW β} {R:A.Rd} {S:B.Rd} {l:AV} {x:α×β} (h:mV R S l=some x):AV.cons (A.v x.1) (.cons (B.v x.2) .nil)=l:=by
 unfold mV at h;split at h
 .obtain⟨p,h1,h⟩:=dB h;obtain⟨q,h2,h3⟩:=dB h;cases h3;rw [R.Yd h1,S.Yd h2]
 .cases h
end
end
theorem PF.any (T:aT) {P:Program} {f:FuncId} {aZs v:AV} (h:@PF fp P f aZs v):@PF T P f aZs v:=λs w hs _ cargs hc=>(h s w hs (by
 intro i x hi;change ([]:List (AV×Nat))[i]?=some x at hi;simp at hi) cargs hc).mono λe w' ⟨cv,s',h1,h2,h3,h4,h5⟩=>⟨cv,s',h1,h2,h3,h4,Below.tabs (λ_=>rfl) h5⟩
def Cn.lift (T:aT) {P:Program} (c:@Cn fp P):@Cn T P:=
 @Cn.mk T P (@Cn.f fp P c) (@Cn.flat fp P c) (@Cn.α fp P c) (@Cn.aZs fp P c) (@Cn.v fp P c) (@Cn.ok fp P c) (@Cn.inj fp P c) (@Cn.dp fp P c) (@Cn.pv fp P c) (@Cn.fl fp P c) (λa h=>PF.any T (@Cn.pf fp P c a h)) (@Cn.bd fp P c)
def Dc.lift (T:aT) {P:Program} (d:@Dc fp P):@Dc T P:=
 @Dc.mk T P (Cn.lift T (@Dc.c fp P d)) (@Dc.dec fp P d) (@Dc.okb fp P d) (@Dc.Yc fp P d) (@Dc.gy fp P d)
section
variable [aT] {P:Program} {B0:Nat}
section
def acW (id:Pos) (h:Heap) (k:Heap ->Prop):Prop:=
 match h.t.get id with
 |some (.loop true none fn r nt ps a b d)=>k ⟨h.t.set (.loop false none fn r nt ps a b d) id,h.n⟩|_=>False
def DY (id:Pos) (jump:Option (Option Nat)) (v:AV) (H:List (Pos×AO)) (N:Pos) (m:List Pos) (h:Heap):Prop:=
 match m with
 |[]=>(match jt id jump h with| .ret u h2=>u=v/\Nat.ble h2.n.toNat N.toNat=true/\JY h2 H| .fail=>False)
 |_::_=>False
end
theorem Ta {id:Pos} {jump:Option (Option Nat)} {v:AV} {H:List (Pos×AO)} {N:Pos} {m:List Pos} {h:Heap} (hf:DY id jump v H N m h):m=[]/\∃h2,jt id jump h= .ret v h2/\h2.n.toNat<=N.toNat/\∀x∈H,h2.t.get x.1=some x.2:=by
 cases m with
 |cons _ _=>exact hf.elim|nil=>
  refine⟨rfl,?_⟩;unfold DY at hf;simp only at hf;cases e:jt id jump h with
  |fail=>rw [e]at hf;exact hf.elim|ret u h2=>
   rw [e]at hf;obtain⟨rfl,h1,h3⟩:=hf;exact⟨h2,rfl,Nat.le_of_ble_eq_true h1,yY h3⟩
def RdW (P:Program) (B0:Nat) (id:Pos) (fn:FuncId) (nt:Nat) (assign body:Code) (call:eL ->AV ->Heap ->CR) (r:Tr AV) (h0:Heap) (v:AV) (H:List (Pos×AO)) (N:Pos):Prop:=
 Cw P B0 ⟨P,fn,nt,some id,call,0⟩ assign r [] h0 (QK (λr1 m1 h1=>acW id h1 λh2=>Cw P B0 ⟨P,fn,nt,some id,call,0⟩ body r1 m1 h2
  (QK (λr m h=>DY id none v H N m h) (λr m h=>DY id (some none) v H N m h) (λi r m h=>DY id (some (some i)) v H N m h))) (λ_ _ _=>False) (λ_ _ _ _=>False))
theorem PO {call:eL ->AV ->Heap ->CR} {id:Pos} {xs:AV} {h0:Heap} {fn:FuncId} {kl:Tr AV} {nt:Nat} {ps:Array Tmp} {assign body:Code} {Aq:Pos} (hg:h0.t.get id=some (.loop true none fn kl nt ps assign body Aq)) {r:Tr AV} (Gc:oW ps.toList xs nt kl=some r)
  (hk:h0.n.toNat=64+aT.k) (hid:kept id=true) {v:AV} {H:List (Pos×AO)} {N:Pos} (hN:h0.n.toNat<=N.toNat) (hw:RdW P B0 id fn nt assign body call r h0 v H N) {μ:Mu} {w:World} (hr:HR μ B0 h0 w):
  ∀B,μ id=some B ->∀cargs:Array Value,cJ μ xs cargs.toList ->∃fn tmps assign body,(Instr.yield B.b cargs).run P w= .ok (.round B.b fn tmps assign body) w/\
   ∀(c:Frame) (cs:List Frame),∃cv μ' w',dC μ' v cv/\bP μ B0 h0 w μ' ⟨bV H,N⟩ w'/\Steps P (lone (Frame.round B.b fn tmps assign body .normal) (c::cs) w) (lone (c.finish cv) cs w'):=by
 intro B hB cargs eR;obtain⟨l,h1,h2,_,h3,h4,h5,h6,h7,h8,h9,D,IP,RC⟩:=hr.obj id B _ hB hg;obtain⟨g1,g2,g3⟩:=qD ps.toList Gc eR h5 h6;subst h7;subst h8;subst h9;subst h4;have JM:=run_yield (P:=P) (args:=cargs) h1 (by have:=g1;simp only [Array.length_toList]at this;omega);refine⟨_,_,_,_,JM,?_⟩;intro c cs;have Sv:(l.params.zip cargs).foldl (λtmps (x:Tmp×Value)=>tmps.setIfInBounds x.1 x.2) l.tmps=(l.params.toList.zip cargs.toList).foldl (λtmps x=>tmps.setIfInBounds x.1 x.2) l.tmps:=by
  rw [<-Array.foldl_toList,Array.toList_zip]
 have Po:AR μ nt r [] ⟨(l.params.zip cargs).foldl (λtmps (x:Tmp×Value)=>tmps.setIfInBounds x.1 x.2) l.tmps,[]⟩:=by rw [Sv];exact⟨g2,g3,aB⟩
 revert Po;show AR μ nt r [] ⟨(l.params.zip cargs).foldl (λtmps (x:Tmp×Value)=>tmps.setIfInBounds x.1 x.2) l.tmps,[]⟩ ->∃cv μ' w',dC μ' v cv/\bP μ B0 h0 w μ' ⟨bV H,N⟩ w'/\Steps P (lone (Frame.round B.b l.fn ((l.params.zip cargs).foldl (λtmps (x:Tmp×Value)=>tmps.setIfInBounds x.1 x.2) l.tmps) l.assign l.body .normal) (c::cs) w) (lone (c.finish cv) cs w');generalize (l.params.zip cargs).foldl (λtmps (x:Tmp×Value)=>tmps.setIfInBounds x.1 x.2) l.tmps=T;intro Po;have Su:Rb μ h0.n ⟨P,l.fn,nt,some id,call,0⟩ (Frame.round B.b l.fn T l.assign l.body .normal):=⟨⟨rfl,rfl,B,hB,rfl⟩,λid' e=>by cases e;exact⟨hid,by omega⟩⟩
 obtain⟨x,hq,hx⟩:=hw μ w (Frame.round B.b l.fn T l.assign l.body .normal) _ [.beginRound,.code l.body] (c::cs) hr Po Su;cases x with
 |fail=>exact hx.elim|exit i r1 m1 ma=>exact hq.elim|ret r1 m1 ma=>exact hq.elim|ok r1 m1 hh1=>
  obtain⟨μ1,a1,w1,oh,rF,dA⟩:=hx;have Ms:=(oh.dK.xx (by omega)).1;have Sq:μ1 id=some B:=(Ms id hid).trans hB;have hq:acW id hh1 (λh2=>Cw P B0 ⟨P,l.fn,nt,some id,call,0⟩ l.body r1 m1 h2 (QK (λr m h=>DY id none v H N m h) (λr m h=>DY id (some none) v H N m h) (λi r m h=>DY id (some (some i)) v H N m h))):=hq;unfold acW at hq;split at hq
  .rename_i fn2 Mh nt2 ps2 as2 bd2 XL hg2;obtain⟨l2,k1,k2,_,k3,k4,k5,k6,k7,k8,k9,D2,k10,k11⟩:=oh.rel.obj id B _ Sq hg2;have acG:=(Array.getElem?_eq_some_iff.1 k1).1;have JN:=run_beginRound (P:=P) k1 k2;have lq:=DF oh.rel id B Sq _ (.loop false none fn2 Mh nt2 ps2 as2 bd2 XL) hg2 rfl ig rfl (.loop {l2 with state:= .busy}) ⟨_,World.putObj_heap_same acG,rfl,(λ_ _=>trivial),k3,k4,k5,k6,k7,k8,k9,D2,k10,k11⟩;have aiv:=Su.grow oh.dK;have aiw:Rb μ1 hh1.n ⟨P,l.fn,nt,some id,call,0⟩ (Frame.round B.b l.fn T l.assign l.body .normal):=aiv;obtain⟨y,Xy,hy⟩:=hq μ1 _ (Frame.round B.b l.fn T l.assign l.body .normal) a1 [] (c::cs) lq.rel rF aiw;have lr:=(jw (round_eq B.b l.fn T l.assign l.body) dA).trans (.one (stepR_beginRound (P:=P) (b:=Frame.round B.b l.fn T l.assign l.body .normal) (a:=a1) (k:=[.code l.body]) (cs:=c::cs) rfl JN));have fin:∀(jump:Option (Option Nat)) (m3:List Pos) (QZ:Heap) (μ3:Mu) (w3:World),DY id jump v H N m3 QZ ->XT μ1 hh1.n B0 (w1.putObj B.b (.loop {l2 with state:= .busy})) μ3 QZ w3 ->
     ∃cv w4,(Instr.endRound B.b (tg jump)).run P w3= .ok cv w4/\dC μ3 v cv/\bP μ B0 h0 w μ3 ⟨bV H,N⟩ w4:=by
    intro jump m3 QZ μ3 w3 hf ha;obtain⟨rfl,h5,he,hn5,hH⟩:=Ta hf;have hn1:64+aT.k<=hh1.n.toNat:=(oh.dK.xx (by omega)).2;have hB3:μ3 id=some B:=((ha.dK.xx hn1).1 id hid).trans Sq;obtain⟨cv,w4,bu,hv,JO⟩:=jg (P:=P) (jump:=jump) hB3 ha.rel he;refine⟨cv,w4,bu,hv,⟨λq hq=>?_,hN,JO.rel.abg _ _ hn5 (λq p e=>hH (q,p) (rJ e)),((oh.below.trans lq.below).trans ha.below).trans JO.below,((oh.dK.g.trans lq.dK).trans ha.dK.g).trans JO.dK⟩⟩;have iB:kept q=true:=bz.2 (show q.toNat<64+aT.k by omega);exact((ha.dK.xx hn1).1 q iB).trans (Ms q iB)
   cases y with
   |fail=>exact hy.elim|ok r3 m3 QZ=>
    obtain⟨μ3,a3,w3,Ge,ha3,BH⟩:=hy;obtain⟨cv,w4,bu,hv,JO⟩:=fin none m3 QZ μ3 w3 Xy Ge;exact⟨cv,μ3,w4,hv,JO,(lr.trans BH).trans (.one (stepR_round_end rfl rfl bu))⟩
   |exit i r3 m3 QZ=>
    obtain⟨μ3,a3,w3,Ge,ha3,k',vJ,BH⟩:=hy;obtain⟨cv,w4,bu,hv,JO⟩:=fin (some (some i)) m3 QZ μ3 w3 Xy Ge;exact⟨cv,μ3,w4,hv,JO,(lr.trans BH).trans (.one (stepR_round_exit rfl rfl vJ bu))⟩
   |ret r3 m3 QZ=>
    obtain⟨μ3,a3,w3,Ge,ha3,k',BH⟩:=hy;obtain⟨cv,w4,bu,hv,JO⟩:=fin (some none) m3 QZ μ3 w3 Xy Ge;exact⟨cv,μ3,w4,hv,JO,(lr.trans BH).trans (.one (stepR_round_ret rfl rfl bu))⟩
  .exact hq.elim
end
open Classical in
def ou {ι:Type} (id:Pos) (F:Av ι) (call:eL ->AV ->Heap ->CR):eL ->AV ->Heap ->CR:=λt xs h=>
 if hx:∃i,F.ok i/\t= .rd id/\xs=F.ar i/\h=F.h0 i then .ret (F.v hx.choose) ⟨bV (F.H hx.choose),F.N hx.choose⟩else call t xs h
section
variable {ι:Type} {F:Av ι} {call:eL ->AV ->Heap ->CR} {id:Pos}
theorem PQ (i:ι) (hi:F.ok i):ou id F call (.rd id) (F.ar i) (F.h0 i)= .ret (F.v i) ⟨bV (F.H i),F.N i⟩:=by
 have hx:∃j,F.ok j/\eL.rd id= .rd id/\F.ar i=F.ar j/\F.h0 i=F.h0 j:=⟨i,hi,rfl,rfl,rfl⟩
 unfold ou;rw [dif_pos hx];obtain⟨h1,_,h2,h3⟩:=hx.choose_spec;obtain⟨e1,e2,e3⟩:=F.inj _ _ h1 hi h2.symm h3.symm;rw [e1,e2,e3]
theorem Ye (i:ι) (hi:F.ok i) {xs:AV} {h:Heap} (ea:xs=F.ar i:=by rfl) (eh:h=F.h0 i:=by rfl) {K:AV ->Heap ->Prop} (hk:K (F.v i) ⟨bV (F.H i),F.N i⟩):∃v h',ou id F call (.rd id) xs h= .ret v h'/\K v h':=by
 subst ea eh;exact⟨_,_,PQ i hi,hk⟩
theorem lQ {f:FuncId} {xs:AV} {h:Heap} {K:AV ->Heap ->Prop} (hk:∃v h',call (.fn f) xs h= .ret v h'/\K v h'):∃v h',ou id F call (.fn f) xs h= .ret v h'/\K v h':=by
 obtain⟨v,h',e,k⟩:=hk;refine⟨v,h',?_,k⟩;unfold ou;rw [dif_neg]
 .exact e
 .rintro ⟨i,_,e,_⟩;cases e
end
theorem zg {ι:Type} {T:aT} {P:Program} {B0:Nat} (k:Nat) {call:eL ->AV ->Heap ->CR} (aZ:@aU T P B0 call) {id:Pos} (F:Av ι) (hid:id.toNat<64+k)
  (hw:∀i,F.ok i ->∃(fn:FuncId) (kl:Tr AV) (nt:Nat) (ps:Array Tmp) (assign body:Code) (Aq:Pos) (r:Tr AV) (jV:eL ->AV ->Heap ->CR),(F.h0 i).t.get id=some (.loop true none fn kl nt ps assign body Aq)/\oW ps.toList (F.ar i) nt kl=some r/\
   (F.h0 i).n.toNat=64+k/\(F.h0 i).n.toNat<=(F.N i).toNat/\ @RdW (pR T k) P B0 id fn nt assign body jV r (F.h0 i) (F.v i) (F.H i) (F.N i)):@aU T P B0 (ou id F call):=by
 intro t uZ h v' h' e μ w hr;unfold ou at e;split at e
 .rename_i hx;obtain⟨hi,ht,ha,hh⟩:=hx.choose_spec;generalize hx.choose=i at*;subst ht ha hh;cases e;obtain⟨fn,kl,nt,ps,assign,body,Aq,r,jV,hg,Gc,hk,hN,hw⟩:=hw i hi;intro B hB cargs eR;obtain⟨fn',tmps,asg,bd,h1,h2⟩:= @PO (pR T k) P B0 jV id (F.ar i) (F.h0 i) fn kl nt ps assign body Aq hg r Gc hk (bz.2 (show id.toNat<64+k from hid)) (F.v i) (F.H i) (F.N i) hN hw μ w (HR.tabs T (pR T k) rfl hr) B hB cargs eR;refine⟨fn',tmps,asg,bd,h1,λc cs=>?_⟩;obtain⟨cv,μ',w',g1,g2,g3⟩:=h2 c cs;exact⟨cv,μ',w',g1,bP.tabs (pR T k) T rfl g2,g3⟩
 .exact aZ t uZ h v' h' e μ w hr
theorem Cw.range [aT] {P:Program} {B0:Nat} {cx:Cx} (hm:P.follows .mixedOrders=true) (hP:cx.P=P) (aZ:aU P B0 cx.call) {f:Operand} {ps:Array Tmp} {assign body:Code} {r:Tr AV} {m:List Pos} {h:Heap} {Q:R ->Prop} (AU:cx.rd=none) {g:FuncId} {a b:AV} (hf:ev f r= .func (.func g) a b) {v:AV} {h2:Heap}
  (hc:cx.call (.fn g) (app a (.cons (.yield h.n.succ) b)) ⟨(h.t.set .marks h.n).set (.loop true none cx.fn r cx.nt ps assign body h.n) h.n.succ,h.n.succ.succ⟩= .ret v h2)
  {x:R} (hx:qh h.n.succ r (h.n::m) h2=x) (dD:x≠.fail) (hQ:Q x):Cw P B0 cx (.rangeFunc f ps assign body) r m h Q:=by
 refine Cw.of_run (gb hm hP aZ _) (x:=x) ?_ dD hQ;show mn f ps assign body cx r m h=x;unfold mn te;rw [AU];simp only [hf];rw [hc];exact hx
theorem pS {q n:Nat} (h:q<n) (hn:n<=4611686018427387904):aj .i64 (Int.add (q:Int) 1)=((q+1:Nat):Int):=by
 show aj .i64 ((q:Int)+1)=_;rw [aA (by omega) (by omega)];omega
theorem pT {q n:Nat} (h:cQ (q:Int) (n:Int)=true):q<n:=Int.ofNat_lt.1 (aO.1 h)
theorem rN {q n:Nat} (hq:q<=n) (h:cQ (q:Int) (n:Int)=false):q=n:=by
 have:=aX.1 h;have this:((n:Nat):Int)<=(q:Int):=this;omega
section
def afy:Nat ->List AV ->List (Nat×AV)
 |_,[]=>[]
 |n,a::l=>(n,a)::afy (n+1) l
def cl (l:List AV):AO:= .cells (bl (afy 0 l)) l.length false
def hp (H:List (Nat×AO)) (n:Nat):Heap:=⟨bV (H.map λx=>(pathOf x.1,x.2)),pathOf n⟩
def pp (l:List (Nat×Nat)):RL:=l.map λx=>(pathOf x.1,Nat.casesOn (motive:=λ_=>Option Pos) x.2 none λk=>some (pathOf (k+1)))
def bor (a b:Bool):Bool:=Bool.casesOn (motive:=λ_=>Bool) a b true
def vg:Code ->Bool
 | .rangeFunc _ _ _ _=>true| .seq x y=>bor (vg x) (vg y)| .cond _ x y=>bor (vg x) (vg y)| .block _ x=>vg x| .loop x=>vg x| .scope x=>vg x|_=>false
def po:Code ->Array Tmp×Code×Code
 | .rangeFunc _ ps x y=>(ps,x,y)
 | .seq x y=>Bool.casesOn (motive:=λ_=>Array Tmp×Code×Code) (vg x) (po y) (po x)| .cond _ x y=>Bool.casesOn (motive:=λ_=>Array Tmp×Code×Code) (vg x) (po y) (po x)| .block _ x=>po x| .loop x=>po x| .scope x=>po x|_=>(#[],.skip,.skip)
end
theorem ap1 {q k:Nat} (hq:q<1048576) (hk:Nat.ble k 1048574=true:=by rfl):(q+1)*(k+1)<=1099511627776:=by
 have hk:=Nat.le_of_ble_eq_true hk;calc (q+1)*(k+1)<=1048576*1048575:=Nat.mul_le_mul (by omega) (by omega)
  _<=_:=by decide
section
variable [aT] {P:Program}
theorem bW.ap {α:Type} (E:bW α) {xs:List α} {q k:Nat} {new:AV} (hl:xs.length=q) (hq:q<1048576) (hk:Nat.ble k 1048574=true:=by rfl) (hc:dN new=true:=by rfl):(q+1)*(k+1)<=1099511627776/\dN new=true/\q*E.sz=(E.l xs).len:=⟨ap1 hq hk,hc,by rw [E.ep,hl]⟩
theorem bW.pq {α β:Type} (E:bW α) (f:β ->α) {l:List β} {q:Nat} (hq:q<l.length):app (E.l ((l.take q).map f)) (E.c (f l[q]) .nil)=E.l ((l.take (q+1)).map f):=by
 rw [List.take_succ_eq_append_getElem hq,List.map_append];exact E.ot _ [_]
theorem bW.wg {α:Type} (E:bW α) (xs:List α) (x:α):app (E.l xs) (E.c x .nil)=E.l (xs++[x]):=E.ot xs [x]
theorem gg {α β:Type} {f:α ->β} {l:List α} {q:Nat} (hq:q<=l.length):((l.take q).map f).length=q:=by
 rw [List.length_map,List.length_take,Nat.min_eq_left hq]
theorem nw {P Q:Prop} (q:Q) (p:P:=by first|exact⟨_,rfl,rfl⟩|exact aB|exact rfl|exact⟨_,bW.rd _ rfl (by assumption),bW.rd _ rfl (by assumption)⟩):P/\Q:=⟨p,q⟩
theorem aE {p q:Prop} (h:q) (e:(True ->q) ->p:=by intro hq;(conv=>whnf);(repeat(refine nw ?_;conv=>whnf));exact hq trivial):p:=e λ_=>h
theorem cg (l:List (Cn P)) (i:Nat) (c:Cn P) (a:c.α) (gy:c.ok a) {aZs:AV} {h:Heap} {K:AV ->Heap ->Prop} (hk:K (c.v a) (match c.flat with|true=>h|false=>Fk h (jl aZs)))
 (hl:(l.map Cn.f).Nodup:=by decide) (hc:l[i]?=some c:=by rfl) (hbor:ij h aZs:=by repeat' first|exact aB|exact rfl|refine And.intro ?_ ?_) (has:c.aZs a=jk c.flat h aZs:=by rfl):∃v h',aH l (.fn c.f) aZs h= .ret v h'/\K v h':=bA hl i hc a gy hbor has hk
theorem PF.go (hm:P.follows .mixedOrders=true) (eH:eO P) (T:List (Cn P)) {f:FuncId} {fn:Func} {c:Code} {aZs v:AV} {r:Tr AV} (hf:P.funcs[f]?=some fn) (hb:fn.body=some c) (gm:iH aZs 0 fn.ntmps .leaf=some r)
  (hw:∀B0,aU P B0 (aH T) ->wp P B0 ⟨P,f,fn.ntmps,none,aH T,0⟩ c (Fin P fn v) (Fin P fn v) (λ_ _ _ _=>False) r [] ⟨.leaf,pathOf 64⟩)
  (hlen:aT.l.length<=64:=by decide) (hpure:dj aZs:=by repeat' first|exact dj.nil|exact bW.an _ _|exact cN.ro|exact cN.int|exact cN.fn|refine dj.cons ?_ ?_|refine cN.agg ?_):PF P f aZs v:=
 PF.of_wp hm hlen hf hb gm hpure (λB0=>az eH T B0) λB0=>hw B0 (az eH T B0)
theorem sb (L:List (Nat×Nat)) {B0 nt n:Nat} {r:Tr AV} {h:Heap} {R:List (Nat×AV)} {H:List (Nat×AO)} (hk:wb (pathOf n) (pp L)=true:=by rfl) (ho:qI [] (pp L)=true:=by rfl) (hn:bJ (Nat.add 63 aT.k) (pathOf n).toNat=true:=by rfl)
 (hR:SM h (pp L) [] r R:=by repeat' first|exact aB|assumption|exact rfl|refine And.intro ?_ ?_)
 (hH:SN h (pp L) [] (H.map λx=>(pathOf x.1,x.2)):=by repeat' first|exact aB|assumption|exact rfl|exact bW.bm _ _|refine And.intro ?_ ?_):Sub B0 nt r [] h (bl R) [] (hp H n):=Sub.of (pp L) [] hk ho hn hR hH
theorem Cw.lp {B0:Nat} {cx:Cx} {body:Code} {Q:R ->Prop} {r:Tr AV} {m:List Pos} {h:Heap} {σ:Type} (hm:P.follows .mixedOrders=true) (hP:cx.P=P) (AU:cx.rd=none) (aZ:aU P B0 cx.call)
  (N:Nat) (Rg:Nat ->σ ->List (Nat×AV)) (H:Nat ->σ ->Heap) (inv:Nat ->σ ->Prop) (s0:σ) (h0:inv 0 s0) (hs:Sub B0 cx.nt r m h (bl (Rg 0 s0)) [] (H 0 s0))
  (hb:∀q s,q<=N ->inv q s ->wp P B0 cx body (λr m h=>∃t,q+1<=N/\inv (q+1) t/\Sub B0 cx.nt r m h (bl (Rg (q+1) t)) [] (H (q+1) t)) (λr m h=>Q (.ret r m h)) (λi r m h=>Q (.exit i r m h)) (bl (Rg q s)) [] (H q s)):
  Cw P B0 cx (.loop body) r m h Q:=by
 refine Cw.loop (ι:=Nat×σ) (λz=>bl (Rg z.1 z.2)) (λ_=>[]) (λz=>H z.1 z.2) (λz=>z.1<=N/\inv z.1 z.2) (λz=>N - z.1) ?_ (0,s0) ⟨Nat.zero_le _,h0⟩ hs;rintro ⟨q,s⟩ ⟨h1,h2⟩;refine(aD hm hP AU aZ body (hb q s h1 h2)).mono λx hx=>?_;cases x with
 |ok r m h=>
  obtain⟨t,g1,g2,g3⟩:=hx;exact⟨(q+1,t),⟨g1,g2⟩,by show N - (q+1)<N - q;omega,g3⟩
 |_=>exact hx
end
section
variable [aT] {P:Program} {κ β:Type} [DecidableEq κ] (A:bW κ) (B:bW β)
def mE (l:List (κ×β)):List (AV×AV):=l.map λx=>(A.v x.1,B.v x.2)
def tM (k:κ):List (κ×β) ->Nat ->Option (Nat×β)
 |[],_=>none|x::l,i=>match decide (k=x.1)with|true=>some (i,x.2)|false=>tM k l (i+1)
def kW (k:κ) (v:β) (l:List (κ×β)):List (κ×β):=match tM k l 0 with|some x=>l.set x.1 (k,v)|none=>l++[(k,v)]
structure PR (P:Program) (kt:TypeId) (A:bW κ):Prop where
 eqv:∀a b,OQ P 40 kt (A.v a) (A.v b)=some (decide (a=b))
 key:∀a,sf P 40 kt (A.v a)=true
 ke:∀a,qf (A.v a) (A.v a)=true
theorem jh (l:List (κ×β)):Mq (mE A B l):=λx hx=>by
 obtain⟨k,_,rfl⟩:=List.mem_map.1 hx;exact⟨A.an _,B.an _⟩
theorem Kg (l:List (κ×β)):(mE A B l).length=l.length:=List.length_map ..
variable {A B}
theorem DZ {kt:TypeId} (hk:PR P kt A) {k:κ}:∀{l:List (κ×β)} {i:Nat},dZ P kt (A.v k) (mE A B l) i=some ((tM k l i).map λx=>(x.1,B.v x.2))
 |[],i=>rfl|x::l,i=>by
  have ih:=DZ hk (k:=k) (l:=l) (i:=i+1);show(match OQ P 40 kt (A.v k) (A.v x.1)with|some true=>Bool.casesOn (motive:=λ_=>Option (Option (Nat×AV))) (qf (A.v x.1) (A.v k)) none (some (some (i,B.v x.2)))|some false=>dZ P kt (A.v k) (mE A B l) (i+1)|none=>none)=_;rw [hk.eqv];unfold tM;by_cases h:k=x.1
  .rw [decide_eq_true h];subst h;show Bool.casesOn (motive:=λ_=>Option (Option (Nat×AV))) (qf (A.v x.1) (A.v x.1)) none (some (some (i,B.v x.2)))=_;rw [hk.ke];rfl
  .rw [decide_eq_false h];exact ih
theorem afz {kt et t:TypeId} (hk:PR P kt A) (ht:P.underlying t=some (.map kt et)) {m k:Operand} {b:Bool} {r:Tr AV} {h:Heap} {id:Pos} {key:κ} {l:List (κ×β)} {j:Nat} {v:β} (hf:tM key l 0=some (j,v)) (hm:ev m r= .map id) (QX:ev k r=A.v key) (hh:h.t.get id=some (.mp (mE A B l))):
  pY (.lookup t m k b) P r h= .val (pI b (B.v v) true) h:=by
 have e:fZ t m k b P r h=some (pI b (B.v v) true):=by
  unfold fZ vM;rw [ht,hm,QX];simp only [hk.key,hh,DZ hk,hf,Option.map_some]
 show Option.casesOn (motive:=λ_=>Heap ->OR) (fZ t m k b P r h) (λ_=> .fail) (λv h=> .val v h) h=_;rw [e]
theorem Tb {kt et t:TypeId} (hk:PR P kt A) (ht:P.underlying t=some (.map kt et)) {m k:Operand} {b:Bool} {r:Tr AV} {h:Heap} {id:Pos} {key:κ} {l:List (κ×β)} {z:Value} (hf:tM key l 0=none) (hz:lD P et=some z) (hm:ev m r= .map id) (QX:ev k r=A.v key) (hh:h.t.get id=some (.mp (mE A B l))):
  pY (.lookup t m k b) P r h= .val (pI b (fc z) false) h:=by
 have e:fZ t m k b P r h=some (pI b (fc z) false):=by
  unfold fZ vM;rw [ht,hm,QX];simp only [hk.key,hh,DZ hk,hf,hz,Option.map_none,Option.map_some]
 show Option.casesOn (motive:=λ_=>Heap ->OR) (fZ t m k b P r h) (λ_=> .fail) (λv h=> .val v h) h=_;rw [e]
theorem PS {kt et t:TypeId} (hk:PR P kt A) (ht:P.underlying t=some (.map kt et)) {m k x:Operand} {r:Tr AV} {h:Heap} {id:Pos} {key:κ} {v:β} {l:List (κ×β)} (hm:ev m r= .map id) (QX:ev k r=A.v key) (hv:ev x r=B.v v) (hh:h.t.get id=some (.mp (mE A B l))):
  pY (.mapUpdate t m k x) P r h= .val (.aS .nil) ⟨h.t.set (.mp (mE A B (kW key v l))) id,h.n⟩:=by
 show fu t m k x P r h=_;unfold fu;rw [ht,hm,QX,hv];simp only [hk.key,hh,DZ hk];have e:mE A B (kW key v l)=LL (A.v key,B.v v) (mE A B l) ((tM key l 0).map λx=>(x.1,B.v x.2)):=by
  unfold kW mE;cases tM key l 0 with
  |none=>exact List.map_append|some y=>exact List.map_set
 rw [e]
theorem wi {x:OR} {v:AV} {h:Heap} {k:VK} (e:x= .val v h) (hk:k v h):Mj x k:=by subst e;exact hk
end
section
variable [aT]
theorem ph:∀{l:List AV} {t:AV},(bR l t).len=l.length+t.len
 |[],t=>by simp [bR]
 |a::l,t=>by
  show Nat.succ (bR l t).len=_;rw [ph,List.length_cons];omega
theorem mD:∀{l m:List AV} {t:AV},bR (l++m) t=bR l (bR m t)
 |[],_,_=>rfl|a::l,m,t=>congrArg (AV.cons a) mD
theorem PT {A N Z Y:List AV} (h:N.length=Z.length):gV A.length (bR (A++(Z++Y)) .nil) (bR N .nil)=bR (A++(N++Y)) .nil:=by
 have:=bW.tL (l:=A) (t:=bR (Z++Y) .nil) (p:=bR N .nil) (n:=0);rw [Nat.add_zero]at this;rw [mD,this,mD (l:=A),mD (l:=Z),bW.qJ h.symm,mD (l:=N)]
def bW.fl {α:Type} (E:bW α) (xs:List α):List AV:=xs.flatMap E.cs
theorem bW.Yf {α:Type} (E:bW α):∀xs:List α,E.l xs=bR (E.fl xs) .nil
 |[]=>rfl|x::xs=>by
  show bR (E.cs x) (E.l xs)=_;rw [E.Yf xs,<-mD];rfl
theorem bW.Tc {α:Type} (E:bW α) (xs:List α):(E.fl xs).length=xs.length*E.sz:=by
 have h:=congrArg AV.len (E.Yf xs);rw [E.ep,ph]at h;exact h.symm
theorem bW.acX {α:Type} (E:bW α) (xs ys:List α):E.fl (xs++ys)=E.fl xs++E.fl ys:=List.flatMap_append
theorem Gz:∀{l:List AV} {t:AV},app (bR l .nil) t=bR l t
 |[],_=>rfl|a::l,t=>congrArg (AV.cons a) Gz
theorem zh (Z:List AV):∀n,fW n (bR Z .nil)=bR (List.replicate n Z).flatten .nil
 |0=>rfl|n+1=>by
  show app (bR Z .nil) (fW n (bR Z .nil))=_;rw [zh Z n,Gz,<-mD];rfl
theorem afA {α:Type} (E:bW α) {by_:Nat} {x:AV} {id:Pos} {h:Heap} {xs ys:List α} {Z:List AV} {cap:Nat} (hg:h.t.get id=some (.gl (bR (E.fl xs++Z) .nil) false))
  (hb:(xs.length+ys.length)*(by_+1)<=1099511627776) (hc:xs.length+ys.length<=cap) (hz:ys.length*E.sz<=Z.length):
  iw E.sz by_ (.slice id 0 xs.length cap E.sz) x ys.length (E.l ys) h= .val (.slice id 0 (xs.length+ys.length) cap E.sz) ⟨h.t.set (.gl (bR (E.fl (xs++ys)++Z.drop (ys.length*E.sz)) .nil) false) id,h.n⟩:=by
 have e1:gN E.sz E.sz by_ (Nat.add xs.length ys.length) (E.l ys)=true:=aq.2 ⟨Nat.beq_refl _,aq.2 ⟨Nat.ble_eq_true_of_le hb,E.kF ys⟩⟩;have e2:Nat.ble (Nat.add xs.length ys.length) cap=true:=Nat.ble_eq_true_of_le hc;have hl1:=E.Tc xs;have hl2:=E.Tc ys;have e3:putAt id (Nat.add 0 (Nat.mul xs.length E.sz)) (Nat.mul ys.length E.sz) (E.l ys) h=some ⟨h.t.set (.gl (bR (E.fl (xs++ys)++Z.drop (ys.length*E.sz)) .nil) false) id,h.n⟩:=by
  unfold putAt;rw [hg];have f1:aF (Nat.ble (Nat.add (Nat.add 0 (Nat.mul xs.length E.sz)) (Nat.mul ys.length E.sz)) (bR (E.fl xs++Z) .nil).len) (aF (Nat.beq (E.l ys).len (Nat.mul ys.length E.sz)) (dN (E.l ys)))=true:=by
   refine aq.2 ⟨Nat.ble_eq_true_of_le ?_,aq.2 ⟨?_,E.kF ys⟩⟩
   .show 0+xs.length*E.sz+ys.length*E.sz<=_;rw [ph,List.length_append,hl1];show _<=xs.length*E.sz+Z.length+0;omega
   .rw [E.ep];exact Nat.beq_refl _
  show Bool.casesOn (motive:=λ_=>Option Heap) false (Bool.casesOn (motive:=λ_=>Option Heap) _ none (some _)) none=_;rw [f1];show some (Heap.mk _ _)=_;congr 3;have hs:=PT (A:=E.fl xs) (N:=E.fl ys) (Z:=Z.take (ys.length*E.sz)) (Y:=Z.drop (ys.length*E.sz)) (by rw [List.length_take,hl2];omega);rw [List.take_append_drop]at hs;rw [E.Yf ys,E.acX,List.append_assoc,<-hs,hl1];congr 2;exact Nat.zero_add _
 show Bool.casesOn (motive:=λ_=>OR) (gN E.sz E.sz by_ (Nat.add xs.length ys.length) (E.l ys)) .fail _=_;rw [e1];show Bool.casesOn (motive:=λ_=>OR) (Nat.ble (Nat.add xs.length ys.length) cap) _ _=_;rw [e2];show Option.casesOn (motive:=λ_=>OR) (putAt id (Nat.add 0 (Nat.mul xs.length E.sz)) (Nat.mul ys.length E.sz) (E.l ys) h) .fail _=_;rw [e3];rfl
theorem bW.src {α:Type} (E:bW α) (ys:List α):dS (Nat.mul ys.length E.sz) (E.l ys)=some (E.l ys):=by
 rw [E.jW (Nat.le_refl _),List.take_length]
theorem PU {Z:List AV} (hZ:∀a∈Z,a.jG=true) (n:Nat):dN (fW n (bR Z .nil))=true:=by
 rw [zh];refine bW.zb (λa ha=>?_) rfl;obtain⟨l,hl,ha⟩:=List.mem_flatten.1 ha;rw [(List.mem_replicate.1 hl).2]at ha;exact hZ a ha
theorem afB {P:Program} {t u e:TypeId} {tl:List TypeId} {Z:List AV} {sz by_ n:Nat} {k:IntKind} {x:Int} {rest:AV} {h:Heap} (hx:x=(n:Int)) (he:iG P t=some e) (hs:fN P e=some sz) (hb:iM P e=some by_) (hz:dM P e=some (bR Z .nil)) (hl:Z.length=sz) (hu:nH P u=true) (hu':nI P u=true)
  (gy:n*(by_+1)<=1099511627776) (hZ:∀a∈Z,a.jG=true) (h0:n≠0):
  kN (t::u::tl) (.cons .bt (.cons (.int k x) rest)) P h= .val (.slice h.n 0 n n sz) ⟨h.t.set (.gl (fW n (bR Z .nil)) false) h.n,h.n.succ⟩:=by
 subst hx;show Option.casesOn (motive:=λ_=>OR) (iG P t) .fail (λe=>Option.casesOn (motive:=λ_=>OR) (fN P e) .fail (λsz=>Option.casesOn (motive:=λ_=>OR) (iM P e) .fail (λby_=>Option.casesOn (motive:=λ_=>OR) (dM P e) .fail (λz=>
  Bool.casesOn (motive:=λ_=>OR) (aF (Nat.beq z.len sz) (aY (nH P u))) (lN sz by_ z .bt (.int k (n:Int)) (aF (Nat.beq z.len sz) (nI P u)) h) _))))=_
 rw [he];show Option.casesOn (motive:=λ_=>OR) (fN P e) .fail _=_;rw [hs];show Option.casesOn (motive:=λ_=>OR) (iM P e) .fail _=_;rw [hb];show Option.casesOn (motive:=λ_=>OR) (dM P e) .fail _=_;rw [hz];have Io:(bR Z .nil).len=sz:=by rw [ph,hl];rfl
 have e1:aF (Nat.beq (bR Z .nil).len sz) (aY (nH P u))=false:=by rw [hu,Io,Nat.beq_refl];rfl
 have e2:aF (aF (Nat.beq (bR Z .nil).len sz) (nI P u)) (aF (gN sz sz by_ n (fW n (bR Z .nil))) (aY (Nat.beq n 0)))=true:=by
  refine aq.2 ⟨aq.2 ⟨by rw [Io];exact Nat.beq_refl _,hu'⟩,aq.2 ⟨aq.2 ⟨Nat.beq_refl _,aq.2 ⟨Nat.ble_eq_true_of_le gy,PU hZ n⟩⟩,?_⟩⟩;cases n with
  |zero=>exact absurd rfl h0|succ n=>rfl
 show Bool.casesOn (motive:=λ_=>OR) (aF (Nat.beq (bR Z .nil).len sz) (aY (nH P u))) (lN sz by_ (bR Z .nil) .bt (.int k (.ofNat n)) (aF (Nat.beq (bR Z .nil).len sz) (nI P u)) h) _=_;rw [e1];show Bool.casesOn (motive:=λ_=>OR) (aF (aF (Nat.beq (bR Z .nil).len sz) (nI P u)) (aF (gN sz sz by_ n (fW n (bR Z .nil))) (aY (Nat.beq n 0)))) .fail _=_;rw [e2]
theorem afC {o:Option AV} {v:AV} {k:AV ->Prop} (e:o=some v) (hk:k v):uX o ⟨.leaf,.e⟩ (λv _=>k v):=by subst e;exact hk
theorem aix {P:Program} {t e:TypeId} {x hi:Operand} {r:Tr AV} {h:Heap} {id:Pos} {n sz:Nat} {k:IntKind} (hu:P.underlying t=some (.slice e)) (hx:ev x r= .slice id 0 n n sz) (hz:fN P e=some sz) (hh:ev hi r= .int k (.ofNat 0)) (h0:n≠0):fq t x none (some hi) none P r h=some (.slice id 0 0 n sz):=by
 have e1:ky t x none (some hi) none P r=some (.slice id 0 0 n sz):=by
  unfold ky;simp only [hu,hx,hz,Nat.beq_refl,Option.map_some,Option.map_none,hh];have:Nat.beq 0 n=false:=by cases n with|zero=>exact absurd rfl h0|succ n=>rfl
  have e2:aF (Nat.beq 0 n) (bJ 0 n)=false:=by rw [this];rfl
  show Bool.casesOn (motive:=λ_=>Option AV) (Nat.ble 0 n) none (Bool.casesOn (motive:=λ_=>Option AV) (aF (Nat.beq 0 n) (bJ 0 n)) (some (.slice id (Nat.add 0 (Nat.mul 0 sz)) (0 - 0) (n - 0) sz)) (some (.sle id sz)))=_;rw [e2,Nat.ble_eq_true_of_le (Nat.zero_le n)];show some (AV.slice id (0+0*sz) 0 n sz)=_;rw [Nat.zero_mul]
 unfold fq;simp only [hu,hx];exact e1
end
section
variable [aT]
section
theorem ak.acY {h:Heap} {id:Pos} {n sz:Nat} {l l1 l':AV} {ro:Bool} (hg:h.t.get id=some (.gl l ro)) (ht:dS (Nat.mul n sz) l=some l1) (hl:bq h l1 l'):ak h (.gs id n sz) (.ro n l'):=by
 intro μ B0 w cv hr hv;obtain⟨B,hB,hx⟩:=hv;have AD:=hr.obj id B _ hB hg;rcases AD with ⟨h1,rfl⟩|⟨xs,h1,h2,c,el,fz,h3,h4,h5,h6,h7⟩
 .obtain⟨g1,g2⟩:=cJ.take (μ:=μ) (Nat.mul n sz) (vs:=[]) (show cJ μ .nil []from rfl) ht;have h2:=hl μ B0 w [] hr (by simpa using g1);refine⟨[],h2,?_⟩;rcases hx with ⟨c,hx,uO,_⟩|⟨e0,hx⟩
  .exact .inl ⟨_,_,c,hx,uO,.inl rfl⟩
  .exact .inr ⟨e0,rfl,none,hx⟩
 .obtain⟨g1,g2⟩:=cJ.take (Nat.mul n sz) h1 ht;have hp:=hl μ B0 w _ hr g1;refine⟨_,hp,?_⟩;rcases hx with ⟨c',hx,uO,_⟩|⟨e0,hx⟩
  .refine .inl ⟨_,_,c',hx,uO,?_⟩;by_cases dF:(AO.gl l ro).cU B
   .obtain⟨e1,_,e2⟩:=dF;refine .inl ?_;cases xs with
    |nil=>simp|cons _ _=>simp at h2;omega
   .refine .inr ⟨c,?_,λj v hj=>h7 j v ?_⟩
    .show gd μ.s B0 w B.b=some c;cases ro with
     |true=>exact(iC hr).le _ _ (h6 rfl)|false=>exact nn hr ((hr.own id B _ hB hg rfl).resolve_left dF) h3
    .rw [List.getElem?_take]at hj;split at hj
     .exact hj
     .cases hj
  .refine .inr ⟨e0,?_,none,hx⟩;subst e0;show xs.take (0*sz)=[]
   rw [Nat.zero_mul,List.take_zero]
def zi (d:Nat):Heap ->AV ->Option AV:=
 Nat.rec (motive:=λ_=>Heap ->AV ->Option AV) (λ_ _=>none)
  (λ_ ih h v=>match v with
   | .gs id n sz=>(match h.t.get id with|some (.gl l _)=>oB (dS (Nat.mul n sz) l) λl1=>oB (ih h l1) λl'=>some (.ro n l')|_=>none)
   | .agg l=>oB (ih h l) λl'=>some (.agg l')
   | .aS l=>oB (ih h l) λl'=>some (.aS l')
   | .cons a t=>oB (ih h a) λa'=>oB (ih h t) λt'=>some (.cons a' t')
   | .nil=>some .nil| .bt=>some (.ro 0 .nil)| .int k n=>some (.int k n)| .bool b=>some (.bool b)| .str s=>some (.str s)| .ro n l=>some (.ro n l)| .lM=>some .lM| .fy=>some .fy|_=>none) d
theorem ik:∀(d:Nat) {h:Heap} {v v':AV},zi d h v=some v' ->ak h v v'/\bq h v v'
 |0,h,v,v',e=>by cases e
 |d+1,h,v,v',e=>by
  have Xi:∀{a:AV},(∀μ xs,¬cJ μ a xs) ->bq h a v':=λhn μ B0 w xs _ hv=>(hn μ xs hv).elim;cases v with
  |gs id n sz=>
   change (match h.t.get id with|some (.gl l _)=>oB (dS (Nat.mul n sz) l) λl1=>oB (zi d h l1) λl'=>some (.ro n l')|_=>none)=some v' at e;cases hg:h.t.get id with
   |none=>rw [hg]at e;cases e|some o=>
    rw [hg]at e;cases o with
    |gl l ro=>
     simp only at e;obtain⟨l1,h1,e⟩:=dB e;obtain⟨l',h2,h3⟩:=dB e;cases h3;exact⟨ak.acY hg h1 (ik d h2).2,Xi λ_ _ hv=>hv⟩
    |_=>cases e
  |agg l=>
   obtain⟨l',h2,h3⟩:=dB (show oB (zi d h l) (λl'=>some (.agg l'))=some v' from e);cases h3;exact⟨ak.agg (ik d h2).2,Xi λ_ _ hv=>hv⟩
  |aS l=>
   obtain⟨l',h2,h3⟩:=dB (show oB (zi d h l) (λl'=>some (.aS l'))=some v' from e);cases h3;exact⟨ak.aS (ik d h2).2,Xi λ_ _ hv=>hv⟩
  |cons a t=>
   obtain⟨a',h1,e⟩:=dB (show oB (zi d h a) (λa'=>oB (zi d h t) λt'=>some (.cons a' t'))=some v' from e);obtain⟨t',h2,h3⟩:=dB e;cases h3;exact⟨λμ B0 w cv _ hv=>hv.elim,bq.cons (ik d h1).1 (ik d h2).2⟩
  |nil=>cases e;exact⟨λμ B0 w cv _ hv=>hv.elim,bq.nil⟩|bt=>cases e;exact⟨ak.bt,Xi λ_ _ hv=>hv⟩|int k n=>cases e;exact⟨ak.pure .int,Xi λ_ _ hv=>hv⟩|bool b=>cases e;exact⟨ak.pure .bool,Xi λ_ _ hv=>hv⟩|str s=>cases e;exact⟨ak.pure .str,Xi λ_ _ hv=>hv⟩|ro n l=>cases e;exact⟨ak.pure .ro,Xi λ_ _ hv=>hv⟩|lM=>cases e;exact⟨ak.pure (λ_ _ _ _ h=>h),Xi λ_ _ hv=>hv⟩|fy=>cases e;exact⟨ak.pure .fy,Xi λ_ _ hv=>hv⟩|_=>cases e
def Xj (x:AV):AV ->Bool:=
 AV.rec (motive:=λ_=>AV ->Bool) (λ_=>false) (λb y=>match y with| .bool c=>Bool.rec (motive:=λ_=>Bool) (aY c) c b|_=>false) (λk n y=>match y with| .int l m=>aF (qb k l) (bD n m)|_=>false) (λ_ _ _ _=>false)
  (λs y=>match y with| .str u=>kz s u|_=>false) (λ_ _=>false) (λ_ _ _=>false) (λ_ _ _ _=>false) (λy=>match y with| .fy=>true|_=>false) (λ_ _ _ _ _ _=>false)
  (λn l r y=>match y with| .ro m u=>aF (Nat.beq n m) (r u)|_=>false) (λ_ _ _ _=>false) (λ_ _ _=>false) (λ_=>false) (λ_ _=>false) (λ_=>false) (λ_ _ _ _ _ _=>false) (λ_ _=>false) (λ_=>false)
  (λ_ _ _ _=>false) (λy=>match y with| .lM=>true|_=>false) (λl r y=>match y with| .agg u=>r u|_=>false) (λl r y=>match y with| .aS u=>r u|_=>false)
  (λy=>match y with| .nil=>true|_=>false) (λa t ra rt y=>match y with| .cons b u=>aF (ra b) (rt u)|_=>false) x
theorem Td {a b:List Nat} (h:kz a b=true):a=b:=by
 rw [eN]at h;exact of_decide_eq_true h
theorem Kh {x:AV}:∀{y:AV},Xj x y=true ->x=y:=by
 induction x with
 |bool b=>
  intro y h;cases y with
  |bool c=>cases b<;>cases c<;>first|rfl|cases h
  |_=>cases h
 |int k n=>
  intro y h;cases y with
  |int l m=>
   obtain⟨h1,h2⟩:=aq.1 (show aF (qb k l) (bD n m)=true from h);rw [iA.1 h1,bh.1 h2]
  |_=>cases h
 |str s=>
  intro y h;cases y with
  |str u=>rw [Td (show kz s u=true from h)]|_=>cases h
 |fy=>intro y h;cases y<;>first|rfl|cases h
 |lM=>intro y h;cases y<;>first|rfl|cases h
 |nil=>intro y h;cases y<;>first|rfl|cases h
 |ro n l ih=>
  intro y h;cases y with
  |ro m u=>
   obtain⟨h1,h2⟩:=aq.1 (show aF (Nat.beq n m) (Xj l u)=true from h);rw [Nat.eq_of_beq_eq_true h1,ih h2]
  |_=>cases h
 |agg l ih=>
  intro y h;cases y with
  |agg u=>rw [ih (show Xj l u=true from h)]|_=>cases h
 |aS l ih=>
  intro y h;cases y with
  |aS u=>rw [ih (show Xj l u=true from h)]|_=>cases h
 |cons a t LV oQ=>
  intro y h;cases y with
  |cons b u=>
   obtain⟨h1,h2⟩:=aq.1 (show aF (Xj a b) (Xj t u)=true from h);rw [LV h1,oQ h2]
  |_=>cases h
 |_=>intro y h;cases h
def dpB (x:AV):Bool:=
 AV.rec (motive:=λ_=>Bool) true (λ_=>true) (λ_ _=>true) (λ_ _ _=>true) (λ_=>true) (λ_=>true) (λ_ _=>false) (λ_ _ _=>false) true (λ_ _ _ _ _=>false) (λ_ _ r=>r) (λ_ _ _=>false) (λ_ _=>false) true (λ_=>false) true (λ_ _ _ _ _=>false)
  (λ_=>false) true (λ_ _ _=>false) true (λ_ r=>r) (λ_ r=>r) true (λ_ _ ra rt=>aF ra rt) x
theorem Ki {x:AV} (h:dpB x=true):DP x/\dj x:=by
 have pl:∀{a:AV},(∀μ xs,¬cJ μ a xs) ->dj a:=λhn μ μ' xs _ hv=>(hn μ xs hv).elim;induction x with
 |cons a t LV oQ=>
  obtain⟨h1,h2⟩:=aq.1 (show aF (dpB a) (dpB t)=true from h);exact⟨⟨(LV h1).1,(oQ h2).1⟩,.cons (br (LV h1).1) (oQ h2).2⟩
 |agg l ih=>exact⟨(ih h).1,pl λ_ _ hv=>hv⟩|aS l ih=>exact⟨(ih h).1,pl λ_ _ hv=>hv⟩|ro n l ih=>exact⟨(ih h).2,pl λ_ _ hv=>hv⟩|nil=>exact⟨aB,.nil⟩|_=>first|exact⟨aB,pl λ_ _ hv=>hv⟩|cases h
variable {P:Program}
theorem PF.of_run (hm:P.follows .mixedOrders=true) (eH:eO P) {ov:eL ->AV ->Heap ->Option CR} (Ip:∀B0,xw P B0 ov) {n fuel:Nat} {f:FuncId} {l v v':AV} {h':Heap} (hlen:aT.l.length<=64) (hpure:dj l)
  (bu:Gh P ov fuel n (.fn f) l (lW aT.l 64)= .ret v h') (SG:ak h' v v'):PF P f l v':=by
 intro s w hs ht cargs eR;have hr:=Gf hlen hs ht;refine((qF (B0:=w.heap.size) hm eH (Ip _) fuel n (.fn f) l _ v h' bu (Ra w s) w hr).2 cargs (hpure (tH s) (Ra w s) _ (λ_ _ e=>e) eR)).mono λe w' ⟨cv,μ',he,hv,hp⟩=>?_;exact⟨cv,gd μ'.s w.heap.size w',he,hp.dK.trans (iC hp.rel),yV hp.rel,SG μ' w.heap.size w' cv hp.rel hv,hp.below⟩
def sM (P:Program) (ov:eL ->AV ->Heap ->Option CR) (f:FuncId) (e:AV×AV):Bool:=
 match Gh P ov 1000 30 (.fn f) e.1 (lW aT.l 64)with
 | .ret v h=>(match zi 10000 h v with|some u=>Xj u e.2|none=>false)
 | .fail=>false
def cS (P:Program) (ov:eL ->AV ->Heap ->Option CR) (f:FuncId) (l:List (AV×AV)):Bool:=List.rec true (λe _ r=>aF (aF (dpB e.1) (dpB e.2)) (aF (sM P ov f e) r)) l
theorem cz (hm:P.follows .mixedOrders=true) (eH:eO P) {ov:eL ->AV ->Heap ->Option CR} (Ip:∀B0,xw P B0 ov) (hlen:aT.l.length<=64) {f:FuncId}:∀{l:List (AV×AV)},cS P ov f l=true ->∀e∈l,PF P f e.1 e.2/\DP e.1/\DP e.2
 |[],_,e,he=>by cases he
 |x::l,h,e,he=>by
  obtain⟨h1,h2⟩:=aq.1 (show aF (aF (dpB x.1) (dpB x.2)) (aF (sM P ov f x) (cS P ov f l))=true from h);obtain⟨h3,h4⟩:=aq.1 h1;obtain⟨h5,h6⟩:=aq.1 h2;rcases List.mem_cons.1 he with rfl|he
  .refine⟨?_,(Ki h3).1,(Ki h4).1⟩;unfold sM at h5;split at h5
   .rename_i v hh bu;split at h5
    .rename_i u hs;rw [<-Kh h5];exact PF.of_run hm eH Ip hlen (Ki h3).2 bu (ik _ hs).1
    .cases h5
   .cases h5
  .exact cz hm eH Ip hlen h6 e he
def zj (l:List (AV×AV)) (x:AV):Nat ->Option Nat:=List.rec (motive:=λ_=>Nat ->Option Nat) (λ_=>none) (λe _ ih i=>Bool.rec (motive:=λ_=>Option Nat) (ih (Nat.succ i)) (some i) (Xj e.1 x)) l
theorem GC:∀{l:List (AV×AV)} {x:AV} {i j:Nat},zj l x i=some j ->∃k e,j=i+k/\l[k]?=some e/\e.1=x
 |[],x,i,j,h=>by cases h
 |e::l,x,i,j,h=>by
  change Bool.rec (motive:=λ_=>Option Nat) (zj l x (Nat.succ i)) (some i) (Xj e.1 x)=some j at h;cases ha:Xj e.1 x with
  |true=>rw [ha]at h;cases h;exact⟨0,e,rfl,rfl,Kh ha⟩|false=>
   rw [ha]at h;obtain⟨k,e',h1,h2,h3⟩:=GC (h:zj l x (Nat.succ i)=some j);exact⟨k+1,e',by omega,by simpa using h2,h3⟩
def Rc (l:List (AV×AV)) (i:Nat):AV×AV:=(l[i]?).getD (.nil,.nil)
def Cn.sg (f:FuncId) (l:List (AV×AV)) (h:∀e∈l,PF P f e.1 e.2/\DP e.1/\DP e.2) (hb:∃fn,P.funcs[f]?=some fn/\fn.body.isSome=true):Cn P:=
 have hat:∀i,DP (Rc l i).1/\DP (Rc l i).2:=λi=>by
  unfold Rc;cases hg:l[i]? with
  |none=>exact⟨aB,aB⟩|some e=>exact(h e (List.mem_of_getElem? hg)).2
 Cn.mk f false Nat (λi=>(Rc l i).1) (λi=>(Rc l i).2) (λi=>i<l.length/\zj l (Rc l i).1 0=some i)
  (λa b ha hb e=>by
   have h2:=hb.2;rw [<-e,ha.2]at h2;rw [Option.some.inj h2])
  (λi=>(hat i).1) (λi=>br (hat i).2) (λh=>by cases h)
  (λi hi=>by
   have:l[i]?=some (Rc l i):=(by unfold Rc;rw [List.getElem?_eq_getElem hi.1];rfl);exact(h _ (List.mem_of_getElem? this)).1) hb
def Dc.sg (f:FuncId) (l:List (AV×AV)) (h:∀e∈l,PF P f e.1 e.2/\DP e.1/\DP e.2) (hb:∃fn,P.funcs[f]?=some fn/\fn.body.isSome=true):Dc P:=
 Dc.mk (Cn.sg f l h hb) (λx=>oB (zj l x 0) λi=>bB (Nat.ble (Nat.succ i) l.length) (some i)) (λi=>match zj l (Rc l i).1 0 with|some j=>aF (Nat.beq i j) (Nat.ble (Nat.succ i) l.length)|none=>false)
  (λx i hx=>by
   obtain⟨j,h1,h2⟩:=dB hx;obtain⟨h3,h4⟩:=ns h2;cases h4;obtain⟨k,e,e1,e2,e3⟩:=GC h1;rw [Nat.zero_add]at e1;subst e1;show(Rc l _).1=x;unfold Rc;rw [e2];exact e3)
  (λi hi=>by
   have hi:(match zj l (Rc l i).1 0 with|some j=>aF (Nat.beq i j) (Nat.ble (Nat.succ i) l.length)|none=>false)=true:=hi;split at hi
   .rename_i j hj;obtain⟨h1,h2⟩:=aq.1 hi;have:=Nat.eq_of_beq_eq_true h1;subst this;exact⟨Nat.le_of_ble_eq_true h2,hj⟩
   .cases hi)
end
end
end
end Go.Sy
