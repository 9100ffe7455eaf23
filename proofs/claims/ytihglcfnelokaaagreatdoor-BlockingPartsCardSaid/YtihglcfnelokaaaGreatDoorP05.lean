/- A piece of the proof, made small by a program of ours. -/
import Derived.Test.YtihglcfnelokaaaGreatDoorP04
set_option linter.all false
set_option maxRecDepth 1000000
set_option maxHeartbeats 0
namespace Go.Sy
noncomputable section
open Go.RowKit Go.Proofs Go.Proofs.Tryz
abbrev qi (T:aY) (k:Nat):aY:=⟨T.l,k⟩
section
variable [aY] {P:Program} {B0:Nat}
section
def JH (h:Heap):List (Pos×AO) ->Prop
 |[]=>True|x::l=>h.t.get x.1=some x.2/\JH h l
def fa (P:Program) (fn:Func) (v:AV) (H:List (Pos×AO)) (N:Pos):KC:=λr m h=>fM (gu m h) λh2=>fLo (qh P fn.results.toList r h2) λl=>yu l=v/\Nat.ble h2.n.toNat N.toNat=true/\JH h2 H
end
theorem zg {h:Heap}:∀{H:List (Pos×AO)},JH h H ->∀x∈H,h.t.get x.1=some x.2
 |y::l,hh,x,hx=>by
  rcases List.mem_cons.1 hx with rfl|hx
  .exact hh.1
  .exact zg hh.2 x hx
theorem Sv {fn:Func} {v:AV} {H:List (Pos×AO)} {N:Pos} {r:Tr AV} {m:List Pos} {h:Heap} (hf:fa P fn v H N r m h):
  ∃h2 l,gu m h=some h2/\qh P fn.results.toList r h2=some l/\yu l=v/\h2.n.toNat<=N.toNat/\∀x∈H,h2.t.get x.1=some x.2:=by
 unfold fa at hf;cases h1:gu m h with
 |none=>rw [h1]at hf;exact hf.elim|some h2=>
  rw [h1]at hf;change fLo (qh P fn.results.toList r h2) (λl=>yu l=v/\Nat.ble h2.n.toNat N.toNat=true/\JH h2 H)at hf;cases h3:qh P fn.results.toList r h2 with
  |none=>rw [h3]at hf;exact hf.elim|some l=>
   rw [h3]at hf;obtain⟨g1,g2,g3⟩:=hf;exact⟨h2,l,rfl,h3,g1,Nat.le_of_ble_eq_true g2,zg g3⟩
theorem HR.aa8 {μ:Mu} {h:Heap} {w:World} (hr:HR μ B0 h w) (t:Tr AO) (n':Pos) (hn:h.n.toNat<=n'.toNat) (key:∀q p,t.get q=some p ->h.t.get q=some p):HR μ B0 ⟨t,n'⟩ w:=
 ⟨λid B e=>Nat.lt_of_lt_of_le (hr.fresh id B e) hn,λq o e=>Nat.lt_of_lt_of_le (hr.live q o (key q o e)) hn,λq B o e1 e2=>hr.obj q B o e1 (key q o e2),λi j A C p q pj e1 e2 e3 e4=>hr.sep i j A C p q pj e1 e2 (key _ _ e3) (key _ _ e4),
  λq B o e1 e2 e3=>hr.own q B o e1 (key _ _ e2) e3,hr.dM,hr.size,hr.Aw,λq B o e1 e2 e3=>hr.apart q B o e1 (key _ _ e2) e3,hr.tab⟩
theorem zh (eG:eN P) {f:FuncId} {fn:Func} {c:Code} (hf:P.funcs[f]?=some fn) (hb:fn.body=some c) {aZs v:AV} {r:Tr AV} (gf:gH aZs 0 fn.ntmps .leaf=some r) {call:dY ->AV ->Heap ->CR} {h0:Heap} {H:List (Pos×AO)} {N:Pos}
  (hk:h0.n.toNat=64+aY.k) (hN:h0.n.toNat<=N.toNat) (hw:Cw P B0 ⟨P,f,fn.ntmps,none,call,0⟩ c r [] h0 (QK (fa P fn v H N) (fa P fn v H N) (λ_ _ _ _=>False))) {μ:Mu} {w:World} (Db:HR μ B0 h0 w):
  (∀cargs:Array Value,(callFunc f cargs).run P w= .ok (.enter f cargs) w)/\∀cargs:Array Value,cG μ aZs cargs.toList ->
   Calls P f cargs w λe w'=>∃cv μ',e= .returned cv/\dw μ' v cv/\bS μ B0 h0 w μ' ⟨bW H,N⟩ w':=by
 refine⟨λcargs=>eG f fn cargs w hf (by rw [hb];rfl),λcargs eO=>?_⟩;obtain⟨Sk,mo⟩:=tL gf eO;have hsz:cargs.size<=fn.ntmps:=by
  rcases Sk with e|e
  .have:cargs.size=0:=(by rw [<-Array.length_toList,e];rfl);omega
  .rw [Array.length_toList]at e;omega
 have hRR:RR μ r (cargs++Array.replicate (fn.ntmps - cargs.size) undef):=by
  intro k u hk;rcases mo k u hk with ⟨_,cv,h1,h2⟩|h1
  .refine⟨cv,?_,h2⟩;have h1:cargs[k]?=some cv:=(by simpa using h1);obtain⟨cJ,_⟩:=Array.getElem?_eq_some_iff.1 h1;rw [Array.getElem?_append_left cJ];exact h1
  .cases h1
 have OZ:AR μ fn.ntmps r [] ⟨cargs++Array.replicate (fn.ntmps - cargs.size) undef,[]⟩:=⟨hRR,by simp;omega,aA⟩
 have fin:∀(r1:Tr AV) (m1:List Pos) (h1:Heap) (μ1:Mu) (a1:Act) (w1:World) (k1:List Item) (cs:List Frame),fa P fn v H N r1 m1 h1 ->XG μ h0.n B0 w μ1 h1 w1 ->AR μ1 fn.ntmps r1 m1 a1 ->
   Steps P (lone (Frame.enter P f cargs .normal) cs w) (lone {(Frame.enter P f cargs .normal).atR a1 k1 with mode:= .returning} cs w1) ->
   ∃e w' fr,(∃(cv:Value) (μ':Mu),e=Ending.returned cv/\dw μ' v cv/\bS μ B0 h0 w μ' ⟨bW H,N⟩ w')/\Comes P (lone (Frame.enter P f cargs .normal) cs w) (lone fr cs w') e/\fr.fn=f/\fr.leaving P w' e:=by
  intro r1 m1 h1 μ1 a1 w1 k1 cs kx hp ha dt;obtain⟨h2,l,htm,oD,hv,hn2,hH⟩:=Sv kx;obtain⟨w2,lh,kL⟩:=nq (P:=P) m1 {(Frame.enter P f cargs .normal).atR a1 k1 with mode:= .returning} cs hp.rel ha.dr htm rfl;obtain⟨cv,bH,CT⟩:=nW (fn:=fn) lh.rel ha.rr oD;rw [hv]at CT;have LX:=(hp.dF.xC (by omega)).1;refine⟨.returned cv,w2,_,⟨cv,μ1,rfl,CT,⟨λid hid=>LX id (bC.2 (show id.toNat<64+aY.k by omega)),hN,lh.rel.aa8 _ _ hn2 (λq p e=>hH (q,p) (rW e)),hp.below.trans lh.below,hp.dF.g.trans lh.dF⟩⟩,dt.trans kL,rfl,rfl,rfl,rfl,fn,hf,bH⟩
 intro cs;have heq:=yX (P:=P) (cargs:=cargs) hf hb;have RZ:∀μ n,QI μ n ⟨P,f,fn.ntmps,none,call,0⟩ (Frame.enter P f cargs .normal):=λ_ _=> .none rfl rfl rfl rfl;obtain⟨x,hq,hx⟩:=hw μ w (Frame.enter P f cargs .normal) _ [] cs Db OZ (RZ _ _);cases x with
 |fail=>exact hx.elim|exit i r1 m1 h1=>exact hq.elim|ok r1 m1 h1=>
  obtain⟨μ1,a1,w1,hp,ha,dt⟩:=hx;have dt:=jt heq dt;exact fin r1 m1 h1 μ1 a1 w1 [] cs hq hp ha (dt.trans (.one (stepR_end rfl)))
 |ret r1 m1 h1=>
  obtain⟨μ1,a1,w1,hp,ha,k',dt⟩:=hx;have dt:=jt heq dt;exact fin r1 m1 h1 μ1 a1 w1 _ cs hq hp ha (dt.trans (.one (stepR_ret rfl)))
end
theorem HR.tabs (T T':aY) (e:T.l=T'.l) {μ:Mu} {B0:Nat} {h:Heap} {w:World} (hr:@HR T μ B0 h w):@HR T' μ B0 h w:=
 @HR.mk T' μ B0 h w (@HR.fresh T _ _ _ _ hr) (@HR.live T _ _ _ _ hr) (@HR.obj T _ _ _ _ hr) (@HR.sep T _ _ _ _ hr) (@HR.own T _ _ _ _ hr) (@HR.dM T _ _ _ _ hr) (@HR.size T _ _ _ _ hr) (@HR.Aw T _ _ _ _ hr) (@HR.apart T _ _ _ _ hr) (by rw [<-e];exact @HR.tab T _ _ _ _ hr)
theorem bS.tabs (T T':aY) (e:T.l=T'.l) {μ μ':Mu} {B0:Nat} {h h':Heap} {w w':World} (p:@bS T μ B0 h w μ' h' w'):@bS T' μ B0 h w μ' h' w':=
 @bS.mk T' μ B0 h w μ' h' w' (@bS.ext T _ _ _ _ _ _ _ p) (@bS.le T _ _ _ _ _ _ _ p) (HR.tabs T T' e (@bS.rel T _ _ _ _ _ _ _ p)) (Below.tabs (λk=>e.trans k) (@bS.below T _ _ _ _ _ _ _ p)) (@bS.dF T _ _ _ _ _ _ _ p)
open Classical in
def jL (f0:FuncId) (Pp:AV) (h0:Heap) (v0:AV) (h1:Heap) (call:dY ->AV ->Heap ->CR):dY ->AV ->Heap ->CR:=λt aZs h=>if t= .fn f0/\aZs=Pp/\h=h0 then .ret v0 h1 else call t aZs h
theorem Pq {f0:FuncId} {Pp:AV} {h0:Heap} {v0:AV} {h1:Heap} {call:dY ->AV ->Heap ->CR}:jL f0 Pp h0 v0 h1 call (.fn f0) Pp h0= .ret v0 h1:=if_pos ⟨rfl,rfl,rfl⟩
theorem JI {f0 f:FuncId} (dE:f≠f0) {Pp aZs:AV} {h0 h:Heap} {v0:AV} {h1:Heap} {call:dY ->AV ->Heap ->CR}:jL f0 Pp h0 v0 h1 call (.fn f) aZs h=call (.fn f) aZs h:=if_neg (λe=>dE (by injection e.1))
theorem jM {T:aY} {P:Program} {B0:Nat} (eG:eN P) (k:Nat) {call ib:dY ->AV ->Heap ->CR} (bl:@aW T P B0 call) {f:FuncId} {fn:Func} {c:Code} (hf:P.funcs[f]?=some fn) (hb:fn.body=some c) {aZs v:AV} {r:Tr AV} (gf:gH aZs 0 fn.ntmps .leaf=some r)
  {h0:Heap} {H:List (Pos×AO)} {N:Pos} (hk:h0.n.toNat=64+k) (hN:h0.n.toNat<=N.toNat)
  (hw:@Cw (qi T k) P B0 ⟨P,f,fn.ntmps,none,ib,0⟩ c r [] h0 (QK (fa P fn v H N) (fa P fn v H N) (λ_ _ _ _=>False))):@aW T P B0 (jL f aZs h0 v ⟨bW H,N⟩ call):=by
 intro t vk h v' h' e μ w hr;unfold jL at e;split at e
 .rename_i hx;obtain⟨rfl,rfl,rfl⟩:=hx;cases e;obtain⟨g1,g2⟩:= @zh (qi T k) P B0 eG f fn c hf hb vk v r gf ib h H N hk hN hw μ w (HR.tabs T (qi T k) rfl hr);refine⟨g1,λcargs eO=>(g2 cargs eO).mono λe w' hx=>?_⟩;obtain⟨cv,μ',h1,h2,h3⟩:=hx;exact⟨cv,μ',h1,h2,bS.tabs (qi T k) T rfl h3⟩
 .exact bl t vk h v' h' e μ w hr
theorem HR.aiP {T T0:aY} (e:T0.l=[]) {μ:Mu} {B0:Nat} {h:Heap} {w:World} (hr:@HR T μ B0 h w):@HR T0 μ B0 h w:=
 @HR.mk T0 μ B0 h w (@HR.fresh T _ _ _ _ hr) (@HR.live T _ _ _ _ hr) (@HR.obj T _ _ _ _ hr) (@HR.sep T _ _ _ _ hr) (@HR.own T _ _ _ _ hr) (@HR.dM T _ _ _ _ hr) (@HR.size T _ _ _ _ hr) (@HR.Aw T _ _ _ _ hr) (@HR.apart T _ _ _ _ hr) (by rw [e];intro i x hi;simp at hi)
theorem HR.DK {T T0:aY} {μ:Mu} {B0:Nat} {h:Heap} {w:World} (hr:@HR T0 μ B0 h w) (ht:AD μ.s T.l):@HR T μ B0 h w:=
 @HR.mk T μ B0 h w (@HR.fresh T0 _ _ _ _ hr) (@HR.live T0 _ _ _ _ hr) (@HR.obj T0 _ _ _ _ hr) (@HR.sep T0 _ _ _ _ hr) (@HR.own T0 _ _ _ _ hr) (@HR.dM T0 _ _ _ _ hr) (@HR.size T0 _ _ _ _ hr) (@HR.Aw T0 _ _ _ _ hr) (@HR.apart T0 _ _ _ _ hr) ht
theorem bS.DK {T T0:aY} (e0:T0.l=[]) {μ μ':Mu} {B0:Nat} {h h':Heap} {w w':World} (hr:@HR T μ B0 h w) (p:@bS T0 μ B0 h w μ' h' w'):@bS T μ B0 h w μ' h' w':=
 @bS.mk T μ B0 h w μ' h' w' (@bS.ext T0 _ _ _ _ _ _ _ p) (@bS.le T0 _ _ _ _ _ _ _ p) (HR.DK (@bS.rel T0 _ _ _ _ _ _ _ p) (AD.mono (@bS.dF T0 _ _ _ _ _ _ _ p).le (@HR.tab T _ _ _ _ hr))) (Below.tabs (λ_=>e0) (@bS.below T0 _ _ _ _ _ _ _ p)) (@bS.dF T0 _ _ _ _ _ _ _ p)
theorem Pr {T T0:aY} (e0:T0.l=[]) {P:Program} {B0:Nat} (eG:eN P) (k:Nat) {call ib:dY ->AV ->Heap ->CR} (bl:@aW T P B0 call) {f:FuncId} {fn:Func} {c:Code} (hf:P.funcs[f]?=some fn) (hb:fn.body=some c) {aZs v:AV} {r:Tr AV} (gf:gH aZs 0 fn.ntmps .leaf=some r)
  {h0:Heap} {H:List (Pos×AO)} {N:Pos} (hk:h0.n.toNat=64+k) (hN:h0.n.toNat<=N.toNat)
  (hw:@Cw (qi T0 k) P B0 ⟨P,f,fn.ntmps,none,ib,0⟩ c r [] h0 (QK (fa P fn v H N) (fa P fn v H N) (λ_ _ _ _=>False))):@aW T P B0 (jL f aZs h0 v ⟨bW H,N⟩ call):=by
 intro t vk h v' h' e μ w hr;unfold jL at e;split at e
 .rename_i hx;obtain⟨rfl,rfl,rfl⟩:=hx;cases e;obtain⟨g1,g2⟩:= @zh (qi T0 k) P B0 eG f fn c hf hb vk v r gf ib h H N hk hN hw μ w (HR.aiP (T0:=qi T0 k) e0 hr);refine⟨g1,λcargs eO=>(g2 cargs eO).mono λe w' hx=>?_⟩;obtain⟨cv,μ',h1,h2,h3⟩:=hx;exact⟨cv,μ',h1,h2,bS.DK (T0:=qi T0 k) e0 hr h3⟩
 .exact bl t vk h v' h' e μ w hr
section
variable [aY] {P:Program} {B0:Nat} {cx:Cx}
def LW (P:Program) (B0:Nat) (cx:Cx) (body:Code) (Q:R ->Prop):Nat ->KC
 |0,_,_,_=>False|n+1,r,m,h=>wp P B0 cx body (λr m h=>LW P B0 cx body Q n r m h) (λr m h=>Q (.ret r m h)) (λi r m h=>Q (.exit i r m h)) r m h
theorem Sw (hm:P.follows .mixedOrders=true) (hP:cx.P=P) (AY:cx.rd=none) (bl:aW P B0 cx.call) {body:Code} {Q:R ->Prop}:∀(n:Nat) {r:Tr AV} {m:List Pos} {h:Heap},LW P B0 cx body Q n r m h ->
  ∀(μ:Mu) (w:World) (b:Frame) (a:Act) (kk:List Item) (cs:List Frame),HR μ B0 h w ->AR μ cx.nt r m a ->QI μ h.n cx b ->∃x,Q x/\RW P B0 μ h.n w cx.nt b kk cs (lone (b.atR a (.code body::.inLoop body::kk)) cs w) x
 |0,r,m,h,e=>e.elim|n+1,r,m,h,e=>by
  intro μ w b a kk cs hr ha hf;obtain⟨z,h1,h2⟩:=aD hm hP AY bl body e μ w b a (.inLoop body::kk) cs hr ha hf;cases z with
  |fail=>exact h2.elim|ok r1 m1 lj=>
   obtain⟨μ1,a1,w1,hp,rS,dt⟩:=h2;obtain⟨x,e1,e2⟩:=Sw hm hP AY bl n h1 μ1 w1 b a1 kk cs hp.rel rS (hf.grow hp.dF);exact⟨x,e1,e2.ahead (dt.trans (.one stepR_inLoop)) hp.below hp.dF⟩
  |exit i r1 m1 lj=>
   obtain⟨μ1,a1,w1,hp,rS,k',he,dt⟩:=h2;exact⟨.exit i r1 m1 lj,h1,μ1,a1,w1,hp,rS,k',he,dt⟩
  |ret r1 m1 lj=>
   obtain⟨μ1,a1,w1,hp,rS,k',dt⟩:=h2;exact⟨.ret r1 m1 lj,h1,μ1,a1,w1,hp,rS,k',dt⟩
theorem Cw.bL (hm:P.follows .mixedOrders=true) (hP:cx.P=P) (AY:cx.rd=none) (bl:aW P B0 cx.call) (n:Nat) {body:Code} {Q:R ->Prop} {r:Tr AV} {m:List Pos} {h:Heap} (hl:LW P B0 cx body Q n r m h):Cw P B0 cx (.loop body) r m h Q:=by
 intro μ w b a kk cs hr ha hf;obtain⟨z,h1,h2⟩:=Sw hm hP AY bl n hl μ w b a kk cs hr ha hf;exact⟨z,h1,h2.ahead (.one stepR_loop) (Below.refl _ _) (lD.refl _ _ _)⟩
end
end
end Go.Sy
namespace Go.Sy
section
variable [aY]
noncomputable section
def bV (l:List AV) (t:AV):AV:=l.foldr AV.cons t
end
theorem aV:∀{a:AV},DP a ->cL a:=λhd μ μ' cv hs hv=>DP.pure hs hd hv
theorem zi:∀{l m:List AV} {t u:AV},l.length=m.length ->bV l t=bV m u ->l=m/\t=u
 |[],[],t,u,_,h=>⟨rfl,h⟩
 |[],_::_,_,_,hl,_=>by cases hl
 |_::_,[],_,_,hl,_=>by cases hl
 |a::l,b::m,t,u,hl,h=>by
  injection h with h1 h2;obtain⟨h3,h4⟩:=zi (by simpa using hl) h2;exact⟨by rw [h1,h3],h4⟩
structure bX (α:Type) where
 sz:Nat
 agg:Bool
 cs:α ->List AV
 len:∀x,(cs x).length=sz
 pos:0<sz
 wf:agg=true\/sz=1
 cell:∀x,∀a∈cs x,a.jB=true
 dp:∀x,∀a∈cs x,DP a
 inj:∀x y,cs x=cs y ->x=y
namespace bX
variable {α β:Type} (E:bX α)
noncomputable section
def c (x:α) (t:AV):AV:=bV (E.cs x) t
def v (x:α):AV:=match E.agg with|true=> .agg (E.c x .nil)|false=>(match E.cs x with|a::_=>a|[]=> .undef)
def l (xs:List α):AV:=xs.foldr E.c .nil
def s (xs:List α):AV:= .ro xs.length (E.l xs)
end
theorem rX:∀{l:List AV} {t:AV},(∀a∈l,DP a) ->dh t ->dh (bV l t)
 |[],_,_,h=>h|a::l,t,hl,h=> .cons (aV (hl a (by simp))) (rX (λb hb=>hl b (by simp [hb])) h)
theorem Sx:∀{l:List AV} {t:AV},(∀a∈l,DP a) ->DP t ->DP (bV l t)
 |[],_,_,h=>h|a::l,t,hl,h=>⟨hl a (by simp),Sx (λb hb=>hl b (by simp [hb])) h⟩
theorem bh:∀(xs:List α),dh (E.l xs)
 |[]=> .nil|x::xs=>rX (E.dp x) (bh xs)
theorem fN (x:α) {t:AV} (h:dh t):dh (E.c x t):=rX (E.dp x) h
theorem dpS (xs:List α):DP (E.s xs):=E.bh xs
theorem ne_nil (x:α):E.cs x≠[]:=λh=>by
 have h1:=E.len x;have h2:=E.pos;rw [h]at h1;simp at h1;omega
theorem eK (x:α):DP (E.v x):=by
 unfold v;split
 .exact Sx (E.dp x) trivial
 .split
  .rename_i a l h;exact E.dp x a (by rw [h];simp)
  .rename_i h;exact absurd h (E.ne_nil x)
theorem ak (x:α):cL (E.v x):=aV (E.eK x)
theorem aZ {x y:α} (h:E.v x=E.v y):x=y:=by
 have h1:=E.wf;unfold v at h;apply E.inj;cases ha:E.agg with
 |true=>
  rw [ha]at h;injection h with h;exact(zi (by rw [E.len,E.len]) h).1
 |false=>
  rw [ha]at h;have h1:E.sz=1:=h1.resolve_left (by rw [ha];simp);have hx:=E.len x;have hy:=E.len y;rw [h1]at hx hy;obtain⟨a,ea⟩:=List.length_eq_one_iff.1 hx;obtain⟨b,eb⟩:=List.length_eq_one_iff.1 hy;rw [ea,eb]at h ⊢;simp only at h;rw [h]
theorem vl:∀{xs ys:List α},E.l xs=E.l ys ->xs=ys
 |[],[],_=>rfl|[],y::ys,h=>by
  exfalso;change AV.nil=bV (E.cs y) (E.l ys)at h;cases he:E.cs y with
  |nil=>exact E.ne_nil y he|cons a l=>rw [he]at h;cases h
 |x::xs,[],h=>by
  exfalso;change bV (E.cs x) (E.l xs)=AV.nil at h;cases he:E.cs x with
  |nil=>exact E.ne_nil x he|cons a l=>rw [he]at h;cases h
 |x::xs,y::ys,h=>by
  obtain⟨h1,h2⟩:=zi (by rw [E.len,E.len]) (h:bV (E.cs x) (E.l xs)=bV (E.cs y) (E.l ys));rw [E.inj x y h1,vl h2]
theorem wc:∀{l:List AV} {t:AV} {n:Nat},cX (l.length+n) (bV l t)=cX n t
 |[],t,n=>by simp [bV]
 |a::l,t,n=>by
  rw [show(a::l).length+n=(l.length+n)+1 by simp;omega];exact wc (l:=l)
theorem Gn:∀{xs:List α} {i:Nat} (hi:i<xs.length) (k:Nat),cX (Nat.add (Nat.mul i E.sz) k) (E.l xs)=cX k (E.c xs[i] (E.l (xs.drop (i+1))))
 |x::xs,0,hi,k=>by
  rw [show Nat.add (Nat.mul 0 E.sz) k=k by simp];rfl
 |x::xs,i+1,hi,k=>by
  rw [show Nat.add (Nat.mul (i+1) E.sz) k=(E.cs x).length+Nat.add (Nat.mul i E.sz) k by rw [E.len];simp [Nat.add_mul];omega];exact wc.trans (Gn (xs:=xs) (i:=i) (by simpa using hi) k)
theorem BP {xs:List α} {i:Nat} (hi:i<xs.length):cX (Nat.mul i E.sz) (E.l xs)=E.c xs[i] (E.l (xs.drop (i+1))):=E.Gn hi 0
theorem xP:∀{xs:List α} {i:Nat},i<=xs.length ->cX (Nat.mul i E.sz) (E.l xs)=E.l (xs.drop i)
 |xs,0,hi=>by rw [show Nat.mul 0 E.sz=0 by simp];rfl
 |x::xs,i+1,hi=>by
  rw [show Nat.mul (i+1) E.sz=(E.cs x).length+Nat.mul i E.sz by rw [E.len];simp [Nat.add_mul];omega];exact wc.trans (xP (xs:=xs) (i:=i) (by simpa using hi))
theorem we:∀{l:List AV} {t:AV} {n:Nat} {r:AV},dQ n t=some r ->dQ (l.length+n) (bV l t)=some (bV l r)
 |[],t,n,r,h=>by simpa [bV]using h
 |a::l,t,n,r,h=>by
  rw [show(a::l).length+n=(l.length+n)+1 by simp;omega];show Option.casesOn (motive:=λ_=>Option AV) (dQ (l.length+n) (bV l t)) none (λl=>some (.cons a l))=_;rw [we h];rfl
theorem kM:∀{xs:List α} {i:Nat},i<=xs.length ->dQ (Nat.mul i E.sz) (E.l xs)=some (E.l (xs.take i))
 |xs,0,hi=>by simp [dQ];rfl
 |x::xs,i+1,hi=>by
  rw [show Nat.mul (i+1) E.sz=(E.cs x).length+Nat.mul i E.sz by rw [E.len];simp [Nat.add_mul];omega];exact we (kM (xs:=xs) (i:=i) (by simpa using hi))
theorem Ps {xs:List α} {i j:Nat} (h:i+j<=xs.length):dQ (Nat.mul j E.sz) (cX (Nat.mul i E.sz) (E.l xs))=some (E.l ((xs.drop i).take j)):=by
 rw [E.xP (by omega)];exact E.kM (by simp;omega)
theorem pE:∀{l:List AV} {t:AV},(bV l t).len=l.length+t.len
 |[],t=>by simp [bV]
 |a::l,t=>by
  show Nat.succ (bV l t).len=_;rw [pE];simp;omega
theorem ep:∀(xs:List α),(E.l xs).len=xs.length*E.sz
 |[]=>by simp [l];rfl
 |x::xs=>by
  show(bV (E.cs x) (E.l xs)).len=_;rw [pE,ep xs,E.len];simp [Nat.add_mul];omega
theorem xQ:∀{l:List AV} {t u:AV},app (bV l t) u=bV l (app t u)
 |[],t,u=>rfl|a::l,t,u=>by
  show AV.cons a (app (bV l t) u)=_;rw [xQ];rfl
theorem oH:∀(xs ys:List α),app (E.l xs) (E.l ys)=E.l (xs++ys)
 |[],ys=>rfl|x::xs,ys=>xQ.trans (congrArg (bV (E.cs x)) (oH xs ys))
theorem zj:∀{l:List AV} {t:AV},(∀a∈l,a.jB=true) ->dJ t=true ->dJ (bV l t)=true
 |[],t,_,h=>h|a::l,t,hl,h=>by
  show Bool.casesOn (motive:=λ_=>Bool) a.jB false (dJ (bV l t))=true;rw [hl a (by simp)];exact zj (λb hb=>hl b (by simp [hb])) h
theorem lu:∀(xs:List α),dJ (E.l xs)=true
 |[]=>rfl|x::xs=>zj (E.cell x) (lu xs)
theorem Sz (x:α):∀n,fQ n (E.c x .nil)=E.l (List.replicate n x)
 |0=>rfl|n+1=>by
  show app (E.c x .nil) (fQ n (E.c x .nil))=_;rw [Sz x n];exact xQ
theorem qX:∀{l m:List AV} {t:AV},l.length=m.length ->gO 0 (bV l t) (bV m .nil)=bV m t
 |[],[],t,_=>rfl|[],_::_,_,h=>by cases h
 |_::_,[],_,h=>by cases h
 |a::l,b::m,t,h=>by
  show AV.cons b (gO 0 (bV l t) (bV m .nil))=_;rw [qX (by simpa using h)];rfl
theorem tS:∀{l:List AV} {t p:AV} {n:Nat},gO (l.length+n) (bV l t) p=bV l (gO n t p)
 |[],t,p,n=>by simp [bV]
 |a::l,t,p,n=>by
  rw [show(a::l).length+n=(l.length+n)+1 by simp;omega];show AV.cons a (gO (l.length+n) (bV l t) p)=_;rw [tS];rfl
theorem Gp:∀{xs:List α} {i:Nat} (x:α),i<xs.length ->gO (Nat.mul i E.sz) (E.l xs) (E.c x .nil)=E.l (xs.set i x)
 |y::xs,0,x,hi=>by
  rw [show Nat.mul 0 E.sz=0 by simp];exact qX (by rw [E.len,E.len])
 |y::xs,i+1,x,hi=>by
  rw [show Nat.mul (i+1) E.sz=(E.cs y).length+Nat.mul i E.sz by rw [E.len];simp [Nat.add_mul];omega];exact tS.trans (congrArg (bV (E.cs y)) (Gp (xs:=xs) (i:=i) x (by simpa using hi)))
theorem LY (x:α) (t:AV):dQ E.sz (E.c x t)=some (E.c x .nil):=by
 have:=we (l:=E.cs x) (t:=t) (n:=0) (r:= .nil) rfl;rwa [E.len,Nat.add_zero]at this
theorem rd {P:Program} {t:TypeId} (ht:qt P t=some (match E.agg with|true=>some E.sz|false=>none)) {xs:List α} {i:Nat} (hi:i<xs.length):fR P t (cX (Nat.mul i E.sz) (E.l xs))=some (E.v xs[i]):=by
 rw [E.BP hi];unfold fR;rw [ht];unfold v;cases E.agg with
 |true=>simp only [E.LY,Option.map_some]|false=>
  simp only;show(match E.c xs[i] _ with| .cons a _=>some a|_=>none)=_;cases he:E.cs xs[i]with
  |nil=>exact absurd he (E.ne_nil _)|cons a l=>unfold c;rw [he];rfl
theorem st {xs:List α} {i:Nat} (x:α) (hi:i<xs.length) {K:AV ->Prop} (hk:K (E.l (xs.set i x))):StP (Nat.mul i E.sz) E.sz (E.l xs) (E.c x .nil) K:=by
 refine⟨?_,by rw [E.Gp x hi];exact hk⟩;rw [E.ep];show i*E.sz+E.sz<=_;rw [<-Nat.succ_mul];exact Nat.mul_le_mul_right _ hi
theorem mk' {x:α} {ln cp:Int} {by_:Nat} (n m:Nat) (e1:ln=(n:Int)) (e2:cp=(m:Int)) (hle:n<=m) (hf:m*(by_+1)<=1099511627776) {K:Nat ->AV ->Prop} (hk:K n (E.l (List.replicate n x))):MkP ln cp by_ (E.c x .nil) K:=by
 subst e1 e2;refine⟨by omega,by omega,?_,?_⟩
 .rw [<-Int.natCast_mul];omega
 .show K n (fQ n (E.c x .nil));rw [E.Sz];exact hk
theorem gk {h:Heap} {id:Pos} {n:Nat} {ro:Bool} {xs ys:List α} (hg:h.t.get id=some (.gl (E.l xs) ro)) (e:xs=ys) (hn:n=ys.length):aj h (.gs id n E.sz) (E.s ys):=by
 subst e hn;exact aj.gs hg (E.ep xs) (bE.pure (E.bh xs))
end bX
theorem aG.go {z:Int} {n:Nat} {K:Nat ->Prop} (i:Nat) (e:z=(i:Int)) (hi:i<n) (hk:K i):aG z n K:=by
 subst e;exact⟨by omega,by omega,hk⟩
theorem JA.go {z:Int} {n:Nat} {K:Nat ->Prop} (i:Nat) (e:z=(i:Int)) (hi:i<=n) (hk:K i):JA z n K:=by
 subst e;exact⟨by omega,by omega,hk⟩
def bX.one {α:Type} (f:α ->AV) (hc:∀x,(f x).jB=true) (hd:∀x,DP (f x)) (hi:∀x y,f x=f y ->x=y):bX α where
 sz:=1
 agg:=false
 cs:=λx=>[f x]
 len:=λ_=>rfl
 pos:=by decide
 wf:= .inr rfl
 cell:=λx a h=>by rw [List.mem_singleton.1 h];exact hc x
 dp:=λx a h=>by rw [List.mem_singleton.1 h];exact hd x
 inj:=λx y h=>by injection h with h;exact hi x y h
def aq (k:IntKind):bX Int:= .one (.int k) (λ_=>rfl) (λ_=>trivial) (λx y h=>by injection h)
def bj:bX Bool:= .one .bool (λ_=>rfl) (λ_=>trivial) (λx y h=>by injection h)
def aR:bX (List Nat):= .one .str (λ_=>rfl) (λ_=>trivial) (λx y h=>by injection h)
def bX.list {α:Type} (E:bX α):bX (List α):= .one E.s (λ_=>rfl) E.dpS (λx y h=>E.vl (by injection h))
def bX.pair {α β:Type} (A:bX α) (B:bX β):bX (α×β):=⟨A.sz+B.sz,true,λx=>A.cs x.1++B.cs x.2,λx=>by rw [List.length_append,A.len,B.len],by have:=A.pos;omega,.inl rfl,
 λx a h=>(List.mem_append.1 h).elim (A.cell _ a) (B.cell _ a),λx a h=>(List.mem_append.1 h).elim (A.dp _ a) (B.dp _ a),
 λx y h=>by
  obtain⟨h1,h2⟩:=List.append_inj h (by rw [A.len,A.len]);exact Prod.ext (A.inj _ _ h1) (B.inj _ _ h2)⟩
def bX.by {α β:Type} (E:bX α) (f:β ->α) (hf:∀x y,f x=f y ->x=y):bX β:=⟨E.sz,E.agg,λx=>E.cs (f x),λx=>E.len _,E.pos,E.wf,λx=>E.cell _,λx=>E.dp _,λx y h=>hf _ _ (E.inj _ _ h)⟩
def bX.struct {α:Type} (E:bX α):bX α:={E with agg:=true,wf:= .inl rfl}
end
end Go.Sy
namespace Go.Sy
noncomputable section
open Go.RowKit Go.Proofs Go.Proofs.Tryz
section
abbrev fe:aY:=⟨[],0⟩
attribute [local instance] fe
theorem aQ {x y:Int}:dj x y=true↔x<y:=by rw [ir];simp
theorem bf {x y:Int}:dj x y=false↔y<=x:=by rw [ir];simp
theorem cA {x y:Int}:gg x y=true↔x<=y:=by rw [jc];simp
theorem jk {x y:Int}:gg x y=false↔y<x:=by rw [jc];simp
theorem bw {x y:Int}:bG x y=true↔x=y:=by rw [fX];simp
theorem nY {x y:Int}:bG x y=false↔x≠y:=by rw [fX];simp
theorem kS {b:Bool}:aU b=true↔b=false:=by cases b<;>simp [aU]
theorem rY {b:Bool}:aU b=false↔b=true:=by cases b<;>simp [aU]
theorem xR {x y:Int}:aU (bG x y)=true↔x≠y:=by rw [kS,nY]
theorem zk {x y:Int}:aU (bG x y)=false↔x=y:=by rw [rY,bw]
theorem vm {k:IntKind} {n:Int} (h1:-(Fk k:Int)<=n) (h2:n<(ym k:Int)):ah k n=n:=by
 unfold ah;rw [cK.2 ⟨h1,h2⟩]
theorem az {n:Int} (h1:-9223372036854775808<=n) (h2:n<9223372036854775808):ah .i64 n=n:=vm h1 h2
theorem aJ {n:Int} (h1:0<=n) (h2:n<18446744073709551616):ah .u64 n=n:=vm (by simpa [Fk]using h1) h2
theorem eL {n:Int} (h1:0<=n) (h2:n<4294967296):ah .u32 n=n:=vm (by simpa [Fk]using h1) h2
theorem wrap_u32 (n:Int):ah .u32 n=n % 4294967296:=by
 rw [iT];simp [IntKind.wrap,IntKind.signed,IntKind.bits]
theorem wrap_u64 (n:Int):ah .u64 n=n % 18446744073709551616:=by
 rw [iT];simp [IntKind.wrap,IntKind.signed,IntKind.bits]
theorem wrap_i64 (n:Int):ah .i64 n=(n+9223372036854775808) % 18446744073709551616 - 9223372036854775808:=by
 rw [iT];simp [IntKind.wrap,IntKind.signed,IntKind.bits];split<;>omega
def fG:Nat ->Nat ->List Int
 |0,_=>[]
 |n+1,v=>((v % 4294967296:Nat):Int)::fG n (v/4294967296)
def nd (v:Nat):Nat:=match v with|0=>0|v=>v.log2/32+1
def dg (v:Nat):List Int:=fG (nd v) v
def val:List Int ->Nat
 |[]=>0|x::l=>x.toNat+4294967296*val l
def DG (l:List Int):Prop:=∀x∈l,0<=x/\x<4294967296
theorem DG.cons {x:Int} {l:List Int}:DG (x::l)↔(0<=x/\x<4294967296)/\DG l:=by simp [DG]
theorem DG.nil:DG []:=by simp [DG]
theorem bu:∀(n v:Nat),(fG n v).length=n
 |0,_=>rfl|n+1,v=>by simp [fG,bu n]
theorem gC:∀(n v:Nat),DG (fG n v)
 |0,_=> .nil|n+1,v=>DG.cons.2 ⟨by omega,gC n _⟩
theorem gI:∀(n v:Nat),val (fG n v)=v % 4294967296 ^ n
 |0,v=>by simp [fG,val,Nat.mod_one]
 |n+1,v=>by
  simp only [fG,val];rw [show(((v % 4294967296:Nat):Int)).toNat=v % 4294967296 from rfl,gI n,Nat.pow_succ,Nat.mul_comm _ 4294967296,Nat.mod_mul]
theorem lN:∀{l:List Int},DG l ->fG l.length (val l)=l
 |[],_=>rfl|x::l,h=>by
  obtain⟨⟨h1,h2⟩,h3⟩:=DG.cons.1 h;simp only [List.length_cons,fG,val];have e1:(x.toNat+4294967296*val l) % 4294967296=x.toNat:=by omega
  have e2:(x.toNat+4294967296*val l)/4294967296=val l:=by omega
  rw [e1,e2,lN h3];congr 1;omega
theorem ky:∀{l:List Int},DG l ->val l<4294967296 ^ l.length
 |[],_=>by simp [val]
 |x::l,h=>by
  obtain⟨⟨h1,h2⟩,h3⟩:=DG.cons.1 h;have:=ky h3;simp only [List.length_cons,val,Nat.pow_succ];omega
theorem gb:∀(l m:List Int),val (l++m)=val l+4294967296 ^ l.length*val m
 |[],m=>by simp [val]
 |x::l,m=>by
  simp only [List.cons_append,val,gb l m,List.length_cons,Nat.pow_succ];rw [Nat.mul_add,<-Nat.mul_assoc,Nat.mul_comm 4294967296 (4294967296 ^ l.length)];omega
theorem val_inj {l m:List Int} (hl:DG l) (hm:DG m) (hn:l.length=m.length) (h:val l=val m):l=m:=by
 rw [<-lN hl,<-lN hm,hn,h]
theorem pF {v:Nat} (h:v≠0):nd v=v.log2/32+1:=by
 unfold nd;split
 .exact absurd rfl h
 .rfl
theorem aa9 (n:Nat):4294967296 ^ n=2 ^ (32*n):=by rw [Nat.pow_mul]
theorem dG (v:Nat):v<4294967296 ^ nd v:=by
 by_cases h:v=0
 .subst h;simp [nd]
 .rw [pF h,aa9,<-Nat.log2_lt h];omega
theorem vn {v n:Nat} (h:v<4294967296 ^ n):nd v<=n:=by
 by_cases h0:v=0
 .subst h0;simp [nd]
 .rw [aa9,<-Nat.log2_lt h0]at h;rw [pF h0];omega
theorem oI {v n:Nat} (h:n<nd v):4294967296 ^ n<=v:=by
 apply Nat.le_of_not_lt;intro hh;have:=vn hh;omega
theorem br (v:Nat):(dg v).length=nd v:=bu _ _
theorem abb (v:Nat):DG (dg v):=gC _ _
theorem DM (v:Nat):val (dg v)=v:=by
 unfold dg;rw [gI,Nat.mod_eq_of_lt (dG v)]
theorem acN {v w:Nat} (h:dg v=dg w):v=w:=by rw [<-DM v,h,DM]
theorem acO {v:Nat}:dg v=[]↔v=0:=⟨λh=>by rw [<-DM v,h];rfl,λh=>by rw [h];rfl⟩
def Trim (l:List Int):Prop:=l.getLast?≠some 0
theorem acP {l:List Int} (hl:DG l) (ht:Trim l):nd (val l)=l.length:=by
 rcases List.eq_nil_or_concat l with rfl|⟨m,x,rfl⟩
 .rfl
 .have hx:x≠0:=by
   intro e;apply ht;simp [e]
  have hm:DG m:=λy hy=>hl y (by simp [hy]);obtain⟨h1,h2⟩:=hl x (by simp);rw [List.concat_eq_append,gb,List.length_append];have cJ:=ky hm;apply Nat.le_antisymm
  .apply vn;rw [<-List.length_append];have:=ky (l:=m++[x]) (by simpa [List.concat_eq_append]using hl);rwa [gb]at this
  .apply Nat.le_of_not_lt;intro hh;have h3:=dG (val m+4294967296 ^ m.length*val [x]);have h4:nd (val m+4294967296 ^ m.length*val [x])<=m.length:=(by simp at hh;simpa using Nat.le_of_lt_succ hh);have h5:=Nat.lt_of_lt_of_le h3 (Nat.pow_le_pow_right (by decide) h4);have h6:val [x]=x.toNat:=(by simp [val]);rw [h6]at h5;have h7:1<=x.toNat:=(by omega);have:=Nat.mul_le_mul_left (4294967296 ^ m.length) h7;omega
theorem acQ {l:List Int} (hl:DG l) (ht:Trim l):dg (val l)=l:=by
 unfold dg;rw [acP hl ht,lN hl]
end
theorem Pt {h l hi u2 M U' V' q rest:Nat} (hM:0<M) (hV:V'<M) (hh:0<h) (hhb:h<4294967296) (hl:l<4294967296) (hu2:u2<4294967296) (hU:U'<M) (XJ:q<4294967296)
  (hqr:q*h+rest=hi) (ht:4294967296<=rest\/q*l<=rest*4294967296+u2):
  q*((h*4294967296+l)*M+V')<(hi*4294967296+u2)*M+U'+((h*4294967296+l)*M+V'):=by
 have h1:q*(h*4294967296+l)<=hi*4294967296+u2:=by
  have:q*(h*4294967296+l)=q*h*4294967296+q*l:=by rw [Nat.mul_add,Nat.mul_assoc]
  rw [this,<-hqr,Nat.add_mul];rcases ht with ht|ht
  .have:q*l<=4294967296*4294967296:=Nat.mul_le_mul (Nat.le_of_lt XJ) (Nat.le_of_lt hl);have:4294967296*4294967296<=rest*4294967296:=Nat.mul_le_mul_right _ ht;omega
  .omega
 have h2:q*(h*4294967296+l)*M<=(hi*4294967296+u2)*M:=Nat.mul_le_mul_right _ h1;have h3:q*V'<=q*M:=Nat.mul_le_mul_left _ (Nat.le_of_lt hV);have h4:q*M<=4294967296*M:=Nat.mul_le_mul_right _ (Nat.le_of_lt XJ);have h4':q*V'<4294967296*M\/q*V'=0:=by
  rcases Nat.eq_zero_or_pos q with e|e
  .right;rw [e,Nat.zero_mul]
  .left;have:q*V'<q*M:=Nat.mul_lt_mul_of_pos_left hV e;omega
 have h5:4294967296*M<=h*4294967296*M:=by
  have:1*4294967296<=h*4294967296:=Nat.mul_le_mul_right _ hh;have:=Nat.mul_le_mul_right M this;omega
 have h6:(h*4294967296+l)*M=h*4294967296*M+l*M:=Nat.add_mul _ _ _;have h7:q*((h*4294967296+l)*M+V')=q*(h*4294967296+l)*M+q*V':=by rw [Nat.mul_add,Nat.mul_assoc]
 rw [h7];have h8:0<h*4294967296*M:=Nat.mul_pos (Nat.mul_pos hh (by decide)) hM;omega
theorem XK {h l hi u2 M U' V' q rest Q:Nat} (hU:U'<M) (hqr:q*h+rest=hi) (hQ:Q*((h*4294967296+l)*M+V')<=(hi*4294967296+u2)*M+U') (ht:rest*4294967296+u2<q*l):Q<q:=by
 apply Nat.lt_of_not_le;intro hle;have h1:q*((h*4294967296+l)*M+V')<=Q*((h*4294967296+l)*M+V'):=Nat.mul_le_mul_right _ hle;have h2:q*((h*4294967296+l)*M+V')=q*(h*4294967296+l)*M+q*V':=by rw [Nat.mul_add,Nat.mul_assoc]
 have h3:hi*4294967296+u2+1<=q*(h*4294967296+l):=by
  have:q*(h*4294967296+l)=q*h*4294967296+q*l:=by rw [Nat.mul_add,Nat.mul_assoc]
  rw [this,<-hqr,Nat.add_mul];omega
 have h4:=Nat.mul_le_mul_right M h3;have h5:(hi*4294967296+u2+1)*M=(hi*4294967296+u2)*M+M:=by rw [Nat.add_mul (hi*4294967296+u2),Nat.one_mul]
 omega
theorem SA {h l hi u2 M U' V' Q:Nat} (hh:0<h) (hM:0<M) (hu2:u2<4294967296) (hU:U'<M) (hQ:Q*((h*4294967296+l)*M+V')<=(hi*4294967296+u2)*M+U'):Q<=hi/h:=by
 rw [Nat.le_div_iff_mul_le hh];apply Nat.le_of_lt_succ;apply Nat.lt_of_not_le;intro hle;have h1:(hi+1)*(4294967296*M)<=Q*h*(4294967296*M):=Nat.mul_le_mul_right _ hle;have h2:Q*h*(4294967296*M)<=Q*((h*4294967296+l)*M+V'):=by
  rw [Nat.mul_assoc];apply Nat.mul_le_mul_left;rw [<-Nat.mul_assoc,Nat.add_mul];omega
 have h3:(hi+1)*(4294967296*M)=hi*4294967296*M+4294967296*M:=by rw [Nat.add_mul,Nat.one_mul,Nat.mul_assoc]
 have h4:(hi*4294967296+u2)*M=hi*4294967296*M+u2*M:=Nat.add_mul _ _ _;have h5:(u2+1)*M<=4294967296*M:=Nat.mul_le_mul_right _ hu2;have h6:(u2+1)*M=u2*M+M:=by rw [Nat.add_mul,Nat.one_mul]
 omega
section
variable [aY] {P:Program}
theorem Gq {l:List (Cn P)} (h:(l.map Cn.f).Nodup):l.Pairwise (λc d=>c.f≠d.f):=by
 induction l with
 |nil=>exact .nil|cons c l ih=>
  simp only [List.map_cons,List.nodup_cons]at h;refine List.pairwise_cons.2 ⟨λd hd e=>h.1 ?_,ih h.2⟩;rw [e];exact List.mem_map.2 ⟨d,hd,rfl⟩
theorem bI {l:List (Cn P)} (hl:(l.map Cn.f).Nodup) (i:Nat) {c:Cn P} (hc:l[i]?=some c) (a:c.α) (fY:c.ok a) {aZs:AV} {h:Heap} (hbor:ia h aZs) (has:c.aZs a=ji c.flat h aZs) {K:AV ->Heap ->Prop}
  (hk:K (c.v a) (match c.flat with|true=>h|false=>Fe h (jj aZs))):∃v h',aE l (.fn c.f) aZs h= .ret v h'/\K v h':=by
 refine⟨_,_,BN (Gq hl) (List.mem_of_getElem? hc) (v:=c.v a) (h':=if c.flat then h else Fe h (jj aZs)) ⟨rfl,hbor,⟨a,fY,has,rfl⟩,rfl⟩,?_⟩;cases hf:c.flat with
 |true=>rw [hf]at hk;simpa using hk|false=>rw [hf]at hk;simpa using hk
theorem df (l:List (Cn P)) (i:Nat) (c:Cn P) (a:c.α) (fY:c.ok a) {aZs:AV} {h:Heap} {K:AV ->Heap ->Prop} (hk:K (c.v a) (match c.flat with|true=>h|false=>Fe h (jj aZs)))
 (hl:(l.map Cn.f).Nodup:=by decide) (hc:l[i]?=some c:=by rfl) (hbor:ia h aZs:=by repeat' first|exact aA|exact rfl|refine And.intro ?_ ?_) (has:c.aZs a=ji c.flat h aZs:=by rfl):∃v h',aE l (.fn c.f) aZs h= .ret v h'/\K v h':=bI hl i hc a fY hbor has hk
def qa:AV ->Bool
 | .bool _=>true| .int _ _=>true| .str _=>true| .eZ=>true| .lK=>true| .kO=>true| .bA=>true|_=>false
theorem xe {a:AV} (h:qa a=true):Sn a:=by
 intro μ μ' cv hv;cases a<;>first|exact hv|cases h
theorem BQ:∀{l:List AV},(∀a∈l,qa a=true) ->∀(μ μ':Mu) (xs:List Value),cG μ (bV l .nil) xs ->cG μ' (bV l .nil) xs
 |[],_,_,_,_,h=>h|a::l,hl,μ,μ',xs,h=>by
  obtain⟨v,r,e,h1,h2⟩:=h;exact⟨v,r,e,xe (hl a (by simp)) μ μ' v h1,BQ (λb hb=>hl b (by simp [hb])) μ μ' r h2⟩
theorem bX.zl {α:Type} (E:bX α) (x:α) (h:∀a∈E.cs x,qa a=true):Sn (E.v x):=by
 unfold bX.v;split
 .intro μ μ' cv hv;obtain⟨c,e,h1⟩:=hv;exact⟨c,e,BQ h μ μ' _ h1⟩
 .split
  .rename_i a l he;exact xe (h a (by rw [he];simp))
  .rename_i he;exact absurd he (E.ne_nil x)
section
variable {α β γ ρ:Type}
def Cn.of0 (R:bX ρ) (f:FuncId) (y:ρ) (pf:PF P f .nil (R.v y)) (bd:∃fn,P.funcs[f]?=some fn/\fn.body.isSome=true):Cn P where
 f:=f
 flat:=false
 α:=Unit
 aZs:=λ_=> .nil
 v:=λ_=>R.v y
 ok:=λ_=>True
 inj:=λ_ _ _ _ _=>rfl
 dp:=λ_=>trivial
 pv:=λ_=>R.ak _
 fl:=λh=>by cases h
 pf:=λ_ _=>pf
 bd:=bd
def Cn.lE (A:bX α) (R:bX ρ) (f:FuncId) (flat:Bool) (ok:α ->Prop) (g:α ->ρ) (fl:flat=true ->∀y,∀a∈R.cs y,qa a=true) (pf:∀a,ok a ->PF P f (.cons (A.v a) .nil) (R.v (g a))) (bd:∃fn,P.funcs[f]?=some fn/\fn.body.isSome=true):Cn P where
 f:=f
 flat:=flat
 α:=α
 aZs:=λa=> .cons (A.v a) .nil
 v:=λa=>R.v (g a)
 ok:=ok
 inj:=λa b _ _ h=>by injection h with h1 _;rw [A.aZ h1]
 dp:=λa=>⟨A.eK a,aA⟩
 pv:=λa=>R.ak _
 fl:=λh a=>R.zl _ (fl h _)
 pf:=pf
 bd:=bd
def Cn.kz (A:bX α) (B:bX β) (R:bX ρ) (f:FuncId) (flat:Bool) (ok:α ->β ->Prop) (g:α ->β ->ρ) (fl:flat=true ->∀y,∀a∈R.cs y,qa a=true) (pf:∀a b,ok a b ->PF P f (.cons (A.v a) (.cons (B.v b) .nil)) (R.v (g a b))) (bd:∃fn,P.funcs[f]?=some fn/\fn.body.isSome=true):Cn P where
 f:=f
 flat:=flat
 α:=α×β
 aZs:=λa=> .cons (A.v a.1) (.cons (B.v a.2) .nil)
 v:=λa=>R.v (g a.1 a.2)
 ok:=λa=>ok a.1 a.2
 inj:=λa b _ _ h=>by injection h with h1 h;injection h with h2 _;rw [A.aZ h1,B.aZ h2]
 dp:=λa=>⟨A.eK _,B.eK _,aA⟩
 pv:=λa=>R.ak _
 fl:=λh a=>R.zl _ (fl h _)
 pf:=λa h=>pf _ _ h
 bd:=bd
def Cn.Gr {σ:Type} (A:bX α) (B:bX β) (R:bX ρ) (S:bX σ) (f:FuncId) (ok:α ->β ->Prop) (g:α ->β ->ρ) (k:α ->β ->σ) (pf:∀a b,ok a b ->PF P f (.cons (A.v a) (.cons (B.v b) .nil)) (.aO (.cons (R.v (g a b)) (.cons (S.v (k a b)) .nil)))) (bd:∃fn,P.funcs[f]?=some fn/\fn.body.isSome=true):Cn P where
 f:=f
 flat:=false
 α:=α×β
 aZs:=λa=> .cons (A.v a.1) (.cons (B.v a.2) .nil)
 v:=λa=> .aO (.cons (R.v (g a.1 a.2)) (.cons (S.v (k a.1 a.2)) .nil))
 ok:=λa=>ok a.1 a.2
 inj:=λa b _ _ h=>by injection h with h1 h;injection h with h2 _;rw [A.aZ h1,B.aZ h2]
 dp:=λa=>⟨A.eK _,B.eK _,aA⟩
 pv:=λa=> .aO (.cons (R.ak _) (.cons (S.ak _) .nil))
 fl:=λh=>by cases h
 pf:=λa h=>pf _ _ h
 bd:=bd
def Cn.afA {σ τ:Type} (A:bX α) (B:bX β) (R:bX ρ) (S:bX σ) (T:bX τ) (f:FuncId) (ok:α ->β ->Prop) (g:α ->β ->ρ) (k:α ->β ->σ) (m:α ->β ->τ) (pf:∀a b,ok a b ->PF P f (.cons (A.v a) (.cons (B.v b) .nil)) (.aO (.cons (R.v (g a b)) (.cons (S.v (k a b)) (.cons (T.v (m a b)) .nil))))) (bd:∃fn,P.funcs[f]?=some fn/\fn.body.isSome=true):Cn P where
 f:=f
 flat:=false
 α:=α×β
 aZs:=λa=> .cons (A.v a.1) (.cons (B.v a.2) .nil)
 v:=λa=> .aO (.cons (R.v (g a.1 a.2)) (.cons (S.v (k a.1 a.2)) (.cons (T.v (m a.1 a.2)) .nil)))
 ok:=λa=>ok a.1 a.2
 inj:=λa b _ _ h=>by injection h with h1 h;injection h with h2 _;rw [A.aZ h1,B.aZ h2]
 dp:=λa=>⟨A.eK _,B.eK _,aA⟩
 pv:=λa=> .aO (.cons (R.ak _) (.cons (S.ak _) (.cons (T.ak _) .nil)))
 fl:=λh=>by cases h
 pf:=λa h=>pf _ _ h
 bd:=bd
end
end
theorem nx {P Q:Prop} (q:Q) (p:P:=by first|exact⟨_,rfl,rfl⟩|exact aA|exact rfl|(focus ((conv=>whnf);(try exact aA);(try exact rfl);(try exact⟨_,rfl,rfl⟩);done))):P/\Q:=⟨p,q⟩
section
variable [aY] {P:Program}
theorem ct {l:List (Cn P)} (hl:(l.map Cn.f).Nodup) (i:Nat) {c:Cn P} (hc:l[i]?=some c) (a:c.α) (fY:c.ok a) {aZs:AV} {h:Heap} (hbor:ia h aZs:=by repeat' first|exact aA|exact rfl|refine⟨?_,?_⟩) (has:c.aZs a=ji c.flat h aZs:=by rfl) {K:AV ->Heap ->Prop}
 (hk:K (c.v a) (match c.flat with|true=>h|false=>Fe h (jj aZs))):∃v h',aE l (.fn c.f) aZs h= .ret v h'/\K v h':=bI hl i hc a fY hbor has hk
theorem ch {l:List (Cn P)} (hl:(l.map Cn.f).Nodup) (i:Nat) {c:Cn P} (hc:l[i]?=some c) (a:c.α) (fY:c.ok a) {v:AV} (hv:c.v a=v) {aZs:AV} {h:Heap} (hbor:ia h aZs:=by repeat' first|exact aA|exact rfl|refine⟨?_,?_⟩) (has:c.aZs a=ji c.flat h aZs:=by rfl) {K:AV ->Heap ->Prop}
 (hk:K v (match c.flat with|true=>h|false=>Fe h (jj aZs))):∃v h',aE l (.fn c.f) aZs h= .ret v h'/\K v h':=bI hl i hc a fY hbor has (by rw [hv];exact hk)
theorem pG {f0:FuncId} {Pp aZs:AV} {h0 h:Heap} {v0:AV} {h1:Heap} {call:dY ->AV ->Heap ->CR} (ea:aZs=Pp:=by rfl) (eh:h=h0:=by rfl) {K:AV ->Heap ->Prop} (hk:K v0 h1):∃v h',jL f0 Pp h0 v0 h1 call (.fn f0) aZs h= .ret v h'/\K v h':=by
 subst ea eh;exact⟨_,_,Pq,hk⟩
theorem gJ {f0 f:FuncId} {Pp aZs:AV} {h0 h:Heap} {v0:AV} {h1:Heap} {call:dY ->AV ->Heap ->CR} (dE:f≠f0) {K:AV ->Heap ->Prop} (hk:∃v h',call (.fn f) aZs h= .ret v h'/\K v h'):∃v h',jL f0 Pp h0 v0 h1 call (.fn f) aZs h= .ret v h'/\K v h':=by
 obtain⟨v,h',e,k⟩:=hk;exact⟨v,h',(JI dE).trans e,k⟩
end
theorem bT {b:Bool} {kt kf:Prop} (h:b=true) (k:kt):Bool.casesOn (motive:=λ_=>Prop) b kf kt:=by subst h;exact k
theorem vJ {b:Bool} {kt kf:Prop} (h:b=false) (k:kf):Bool.casesOn (motive:=λ_=>Prop) b kf kt:=by subst h;exact k
structure xf (ι:Type) where
 ar:ι ->AV
 h0:ι ->Heap
 v:ι ->AV
 H:ι ->List (Pos×AO)
 N:ι ->Pos
 ok:ι ->Prop
 inj:∀i j,ok i ->ok j ->ar i=ar j ->h0 i=h0 j ->v i=v j/\H i=H j/\N i=N j
open Classical in
def fx {ι:Type} (f0:FuncId) (F:xf ι) (call:dY ->AV ->Heap ->CR):dY ->AV ->Heap ->CR:=λt aZs h=>
 if hx:∃i,F.ok i/\t= .fn f0/\aZs=F.ar i/\h=F.h0 i then .ret (F.v hx.choose) ⟨bW (F.H hx.choose),F.N hx.choose⟩else call t aZs h
section
variable {ι:Type} {F:xf ι} {call:dY ->AV ->Heap ->CR} {f0:FuncId}
theorem BR (i:ι) (hi:F.ok i):fx f0 F call (.fn f0) (F.ar i) (F.h0 i)= .ret (F.v i) ⟨bW (F.H i),F.N i⟩:=by
 have hx:∃j,F.ok j/\dY.fn f0= .fn f0/\F.ar i=F.ar j/\F.h0 i=F.h0 j:=⟨i,hi,rfl,rfl,rfl⟩
 unfold fx;rw [dif_pos hx];obtain⟨h1,_,h2,h3⟩:=hx.choose_spec;obtain⟨e1,e2,e3⟩:=F.inj _ _ h1 hi h2.symm h3.symm;rw [e1,e2,e3]
theorem JJ {f:FuncId} (dE:f≠f0) {aZs:AV} {h:Heap}:fx f0 F call (.fn f) aZs h=call (.fn f) aZs h:=by
 unfold fx;rw [dif_neg];rintro ⟨i,_,e,_⟩;exact dE (by injection e)
theorem lO (i:ι) (hi:F.ok i) {aZs:AV} {h:Heap} (ea:aZs=F.ar i:=by rfl) (eh:h=F.h0 i:=by rfl) {K:AV ->Heap ->Prop} (hk:K (F.v i) ⟨bW (F.H i),F.N i⟩):∃v h',fx f0 F call (.fn f0) aZs h= .ret v h'/\K v h':=by
 subst ea eh;exact⟨_,_,BR i hi,hk⟩
theorem bP {f:FuncId} (dE:f≠f0) {aZs:AV} {h:Heap} {K:AV ->Heap ->Prop} (hk:∃v h',call (.fn f) aZs h= .ret v h'/\K v h'):∃v h',fx f0 F call (.fn f) aZs h= .ret v h'/\K v h':=by
 obtain⟨v,h',e,k⟩:=hk;exact⟨v,h',(JJ dE).trans e,k⟩
end
theorem ic {ι:Type} {T:aY} {P:Program} {B0:Nat} (eG:eN P) (k:Nat) {call:dY ->AV ->Heap ->CR} (bl:@aW T P B0 call) {f:FuncId} {fn:Func} {c:Code} (hf:P.funcs[f]?=some fn) (hb:fn.body=some c) (F:xf ι)
  (hw:∀i,F.ok i ->∃(r:Tr AV) (ib:dY ->AV ->Heap ->CR),gH (F.ar i) 0 fn.ntmps .leaf=some r/\(F.h0 i).n.toNat=64+k/\(F.h0 i).n.toNat<=(F.N i).toNat/\
   @Cw (qi T k) P B0 ⟨P,f,fn.ntmps,none,ib,0⟩ c r [] (F.h0 i) (QK (fa P fn (F.v i) (F.H i) (F.N i)) (fa P fn (F.v i) (F.H i) (F.N i)) (λ_ _ _ _=>False))):@aW T P B0 (fx f F call):=by
 intro t vk h v' h' e μ w hr;unfold fx at e;split at e
 .rename_i hx;obtain⟨hi,ht,ha,hh⟩:=hx.choose_spec;generalize hx.choose=i at*;subst ht ha hh;cases e;obtain⟨r,ib,gf,hk,hN,hw⟩:=hw i hi;obtain⟨g1,g2⟩:= @zh (qi T k) P B0 eG f fn c hf hb (F.ar i) (F.v i) r gf ib (F.h0 i) (F.H i) (F.N i) hk hN hw μ w (HR.tabs T (qi T k) rfl hr);refine⟨g1,λcargs eO=>(g2 cargs eO).mono λe w' hx=>?_⟩;obtain⟨cv,μ',h1,h2,h3⟩:=hx;exact⟨cv,μ',h1,h2,bS.tabs (qi T k) T rfl h3⟩
 .exact bl t vk h v' h' e μ w hr
theorem Cw.vo {T:aY} {P:Program} {B0:Nat} {cx:Cx} {c:Code} {r:Tr AV} {m:List Pos} {h:Heap} {Q:R ->Prop} (k sz:Nat) (hg:r.get (pathOf k)=some (.ro 0 .nil))
  (h1:Cw P B0 cx c (r.set .bA (pathOf k)) m h Q) (h2:Cw P B0 cx c (r.set (.sle h.n sz) (pathOf k)) m h Q):Cw P B0 cx c r m h Q:=by
 intro μ w b a kk cs hr ha hb;obtain⟨cv,CT,hv⟩:=ha.rr k _ hg;obtain⟨xs,hx,hv⟩:=hv;have SC:∀{v:AV},dw μ v cv ->RR μ (r.set v (pathOf k)) a.tmps:=by
  intro v hv j u hu;rw [Tr.bO]at hu;split at hu
  .rename_i e;cases hu;rw [dV e];exact⟨cv,CT,hv⟩
  .exact ha.rr j u hu
 rcases hv with ⟨bb,oo,cc,e,hn,_⟩|⟨_,_,q,e⟩
 .exact h2 μ w b a kk cs hr ⟨SC ⟨_,_,e⟩,ha.size,ha.dr⟩ hb
 .cases q with
  |none=>exact h1 μ w b a kk cs hr ⟨SC e,ha.size,ha.dr⟩ hb|some q=>exact h2 μ w b a kk cs hr ⟨SC ⟨_,_,e⟩,ha.size,ha.dr⟩ hb
def wpN [aY] (P:Program) (B0:Nat) (cx:Cx):Nat ->Code ->KC ->KC ->(Nat ->KC) ->KC
 |n+1,.seq a b,jA,dD,kEx,r,m,h=>wp P B0 cx a (wpN P B0 cx n b jA dD kEx) dD kEx r m h|_,c,jA,dD,kEx,r,m,h=>Cw P B0 cx c r m h (QK jA dD kEx)
theorem BS [aY] {P:Program} {B0:Nat} {cx:Cx} (hm:P.follows .mixedOrders=true) (hP:cx.P=P) (AY:cx.rd=none) (bl:aW P B0 cx.call):∀(n:Nat) (c:Code) {jA dD:KC} {kEx:Nat ->KC} {r:Tr AV} {m:List Pos} {h:Heap},wpN P B0 cx n c jA dD kEx r m h ->Cw P B0 cx c r m h (QK jA dD kEx):=by
 intro n;induction n with
 |zero=>intro c jA dD kEx r m h hk;cases c<;>exact hk|succ n ih=>
  intro c jA dD kEx r m h hk;cases c with
  |seq a b=>
   refine Cw.seq ((aD hm hP AY bl a hk).mono ?_);intro x hx;cases x with
   |ok r m h=>exact ih b hx|_=>exact hx
  |_=>exact hk
def DN:Nat ->Code ->Code
 |n+1,.seq _ b=>DN n b|_,c=>c
def oJ (fn:Func):Code:=fn.body.getD .skip
def fnR (fn:Func) (l:AV):Tr AV:=(gH l 0 fn.ntmps .leaf).getD .leaf
section
variable [aY]
section
def XL {β:Type} (n:Nat) (k:Nat ->β):β:=Nat.rec (motive:=λ_=>β) (k 0) (λm _=>k (Nat.succ m)) n
def afB {β:Type} (z:Int) (k:Int ->β):β:=Int.rec (motive:=λ_=>β) (λn=>XL n λn=>k (.ofNat n)) (λn=>XL n λn=>k (.negSucc n)) z
def fAV {β:Type} (v:AV):(AV ->β) ->β:=
 AV.rec (motive:=λ_=>(AV ->β) ->β) (λk=>k .undef) (λb k=>Bool.rec (motive:=λ_=>β) (k (.bool false)) (k (.bool true)) b) (λi n k=>afB n λn=>k (.int i n)) (λi a b k=>k (.xu i a b)) (λs k=>k (.str s)) (λm k=>k (.qn m))
  (λp o k=>k (.ptr p o)) (λl n r k=>k (.cR l n)) (λk=>k .eZ) (λp a b c d k=>k (.slice p a b c d)) (λn l r k=>XL n λn=>r λl=>k (.ro n l)) (λp a b k=>k (.gs p a b)) (λp a k=>k (.sle p a)) (λk=>k .bA)
  (λp k=>k (.map p)) (λk=>k .qo) (λf a b ra rb k=>k (.func f a b)) (λp k=>k (.yield p)) (λk=>k .kO) (λt v r k=>k (.iface t v)) (λk=>k .lK) (λl r k=>r λl=>k (.agg l)) (λl r k=>r λl=>k (.aO l))
  (λk=>k .nil) (λh t rh rt k=>rh λh=>rt λt=>k (.cons h t)) v
theorem DO {β:Type} (n:Nat) (k:Nat ->β):XL n k=k n:=by cases n<;>rfl
theorem XM {β:Type} (z:Int) (k:Int ->β):afB z k=k z:=by
 cases z with
 |ofNat n=>exact DO n (λn=>k (.ofNat n))|negSucc n=>exact DO n (λn=>k (.negSucc n))
theorem JK {β:Type} (v:AV):∀k:AV ->β,fAV v k=k v:=by
 induction v with
 |bool b=>intro k;cases b<;>rfl|int i n=>intro k;exact XM n (λn=>k (.int i n))|ro n l ih=>intro k;exact(DO n (λn=>fAV l λl=>k (.ro n l))).trans (ih λl=>k (.ro n l))|agg l ih=>intro k;exact ih _|aO l ih=>intro k;exact ih _|cons h t JL JM=>intro k;exact(JL _).trans (JM _)|_=>intro k;rfl
def DQ (flat:Bool) (h:Heap) (v:AV):AV:=
 AV.rec (motive:=λ_=>AV) .undef (λb=> .bool b) (λi n=> .int i n) (λi a b=> .xu i a b) (λs=> .str s) (λm=> .qn m)
  (λp o=>ji flat h (.ptr p o)) (λl n r=> .cR l n) .eZ (λp a b c d=>ji flat h (.slice p a b c d)) (λn l r=> .ro n l) (λp a b=>ji flat h (.gs p a b)) (λp a=> .sle p a) (.ro 0 .nil)
  (λp=> .map p) .qo (λf a b ra rb=> .func f ra rb) (λp=> .yield p) .kO (λt v r=> .iface t v) .lK (λl r=> .agg r) (λl r=> .aO r)
  .nil (λh t rh rt=> .cons rh rt) v
theorem XN {flat:Bool} {h:Heap} (v:AV):DQ flat h v=ji flat h v:=by
 induction v with
 |func f a b JL JM=>show AV.func f (DQ flat h a) (DQ flat h b)=_;rw [JL,JM];rfl|agg l ih=>show AV.agg (DQ flat h l)=_;rw [ih];rfl|aO l ih=>show AV.aO (DQ flat h l)=_;rw [ih];rfl|cons a t JL JM=>show AV.cons (DQ flat h a) (DQ flat h t)=_;rw [JL,JM];rfl|_=>rfl
def acR (h:Heap) (v:AV):Bool:=
 AV.rec (motive:=λ_=>Bool) true (λb=>true) (λi n=>true) (λi a b=>true) (λs=>true) (λm=>true)
  (λp o=>true) (λl n r=>true) true (λp a b c d=>true) (λn l r=>true) (λp n sz=>match h.t.get p with|some (.gl l _)=>Nat.beq (Nat.mul n sz) l.len|_=>true) (λp a=>true) true
  (λp=>true) true (λf a b ra rb=>aF ra rb) (λp=>true) true (λt v r=>true) true (λl r=>r) (λl r=>r)
  true (λh t rh rt=>aF rh rt) v
theorem XO {h:Heap} (v:AV) (e:acR h v=true):ia h v:=by
 induction v with
 |func f a b JL JM=>exact⟨JL (aw.1 e).1,JM (aw.1 e).2⟩|agg l ih=>exact ih e|aO l ih=>exact ih e|cons a t JL JM=>exact⟨JL (aw.1 e).1,JM (aw.1 e).2⟩|gs p n sz=>
  have e:(match h.t.get p with|some (.gl l _)=>Nat.beq (Nat.mul n sz) l.len|_=>true)=true:=e;show(match h.t.get p with|some (.gl l _)=>n*sz=l.len|_=>True);split
  .rename_i l ro hg;rw [hg]at e;exact Nat.eq_of_beq_eq_true e
  .trivial
 |_=>trivial
def sS (v:AV):Bool:=
 AV.rec (motive:=λ_=>Bool) false (λb=>false) (λi n=>false) (λi a b=>false) (λs=>false) (λm=>false)
  (λp o=>true) (λl n r=>false) false (λp a b c d=>true) (λn l r=>false) (λp n sz=>true) (λp a=>false) false
  (λp=>false) false (λf a b ra rb=>Bool.rec (motive:=λ_=>Bool) rb true ra) (λp=>false) false (λt v r=>false) false (λl r=>r) (λl r=>r)
  false (λh t rh rt=>Bool.rec (motive:=λ_=>Bool) rt true rh) v
theorem SD {v:AV} (e:sS v=false):jj v=[]:=by
 induction v with
 |agg l ih=>exact ih e|aO l ih=>exact ih e|cons a t JL JM=>
  have e:Bool.rec (motive:=λ_=>Bool) (sS t) true (sS a)=false:=e;cases ha:sS a with
  |true=>rw [ha]at e;cases e|false=>
   rw [ha]at e;show jj a++jj t=[]
   rw [JL ha,JM e];rfl
 |func f a t JL JM=>
  have e:Bool.rec (motive:=λ_=>Bool) (sS t) true (sS a)=false:=e;cases ha:sS a with
  |true=>rw [ha]at e;cases e|false=>
   rw [ha]at e;show jj a++jj t=[]
   rw [JL ha,JM e];rfl
 |slice p a b c d=>cases e|gs p n sz=>cases e|ptr p o=>cases e|_=>rfl
structure Dc (P:Program) where
 c:Cn P
 dec:AV ->Option c.α
 okb:c.α ->Bool
 XP:∀l a,dec l=some a ->c.aZs a=l
 fY:∀a,okb a=true ->c.ok a
variable {P:Program}
def BT (v:AV):Bool:=
 AV.rec (motive:=λ_=>Bool) false (λb=>true) (λi n=>true) (λi a b=>false) (λs=>true) (λm=>false)
  (λp o=>false) (λl n r=>false) true (λp a b c d=>false) (λn l r=>true) (λp n sz=>false) (λp a=>false) false
  (λp=>false) false (λf a b ra rb=>false) (λp=>false) false (λt v r=>false) true (λl r=>r) (λl r=>r)
  true (λh t rh rt=>Bool.rec (motive:=λ_=>Bool) false rt rh) v
theorem SE {flat:Bool} {h:Heap} {v:AV} (e:BT v=true):ji flat h v=v/\ia h v/\jj v=[]:=by
 induction v with
 |agg l ih=>obtain⟨h1,h2,h3⟩:=ih e;exact⟨congrArg AV.agg h1,h2,h3⟩
 |aO l ih=>obtain⟨h1,h2,h3⟩:=ih e;exact⟨congrArg AV.aO h1,h2,h3⟩
 |cons a t JL JM=>
  have e:Bool.rec (motive:=λ_=>Bool) false (BT t) (BT a)=true:=e;cases ha:BT a with
  |false=>rw [ha]at e;cases e|true=>
   rw [ha]at e;obtain⟨h1,h2,h3⟩:=JL ha;obtain⟨h4,h5,h6⟩:=JM e;refine⟨?_,⟨h2,h5⟩,?_⟩
   .show AV.cons (ji flat h a) (ji flat h t)=_;rw [h1,h4]
   .show jj a++jj t=[];rw [h3,h6];rfl
 |bool b=>exact⟨rfl,aA,rfl⟩|int k n=>exact⟨rfl,aA,rfl⟩|str s=>exact⟨rfl,aA,rfl⟩|eZ=>exact⟨rfl,aA,rfl⟩|ro n l _=>exact⟨rfl,aA,rfl⟩|lK=>exact⟨rfl,aA,rfl⟩|nil=>exact⟨rfl,aA,rfl⟩|_=>cases e
def Dc.got (d:Dc P) (o:Option d.c.α) (h:Heap):Option CR:=
 Option.rec (motive:=λ_=>Option CR) none (λa=>Bool.rec (motive:=λ_=>Option CR) none (fAV (d.c.v a) λv=>some (.ret v h)) (d.okb a)) o
def Dc.acS (d:Dc P) (aZs:AV) (h:Heap):Option CR:=
 Bool.rec (motive:=λ_=>Option CR) none
  (fAV (DQ d.c.flat h aZs) λvk=>Option.rec (motive:=λ_=>Option CR) none
   (λa=>Bool.rec (motive:=λ_=>Option CR) none
    (fAV (d.c.v a) λv=>some (.ret v (Bool.rec (motive:=λ_=>Heap) (Bool.rec (motive:=λ_=>Heap) h (Fe h (jj aZs)) (sS aZs)) h d.c.flat))) (d.okb a)) (d.dec vk)) (acR h aZs)
theorem Dc.JN {d:Dc P} {aZs:AV} {h:Heap} {r:CR} (e:d.acS aZs h=some r):∃v h',r= .ret v h'/\d.c.meets d.c.f aZs h v h':=by
 unfold Dc.acS at e;cases hb:acR h aZs with
 |false=>rw [hb]at e;cases e|true=>
  rw [hb]at e;have e:(fAV (DQ d.c.flat h aZs) λvk=>Option.rec (motive:=λ_=>Option CR) none (λa=>Bool.rec (motive:=λ_=>Option CR) none (fAV (d.c.v a) λv=>some (.ret v (Bool.rec (motive:=λ_=>Heap) (Bool.rec (motive:=λ_=>Heap) h (Fe h (jj aZs)) (sS aZs)) h d.c.flat))) (d.okb a)) (d.dec vk))=some r:=e;rw [JK,XN]at e;cases hd:d.dec (ji d.c.flat h aZs)with
  |none=>rw [hd]at e;cases e|some a=>
   rw [hd]at e;cases ho:d.okb a with
   |false=>simp only [ho]at e;cases e|true=>
    simp only [ho,JK]at e;cases e;refine⟨_,_,rfl,rfl,XO _ hb,⟨a,d.fY a ho,d.XP _ a hd,rfl⟩,?_⟩;cases d.c.flat with
    |true=>rfl|false=>
     simp only [Bool.false_eq_true,if_false];cases hl:sS aZs with
     |true=>rfl|false=>rw [SD hl];rfl
def Dc.run (d:Dc P) (aZs:AV) (h:Heap):Option CR:=Bool.rec (motive:=λ_=>Option CR) (d.acS aZs h) (d.got (d.dec aZs) h) (BT aZs)
theorem Dc.Pv {d:Dc P} {aZs:AV} {h:Heap} {r:CR} (e:d.run aZs h=some r):∃v h',r= .ret v h'/\d.c.meets d.c.f aZs h v h':=by
 unfold Dc.run at e;cases hf:BT aZs with
 |false=>rw [hf]at e;exact Dc.JN e|true=>
  rw [hf]at e;have e:d.got (d.dec aZs) h=some r:=e;obtain⟨h1,h2,h3⟩:=SE (flat:=d.c.flat) (h:=h) hf;unfold Dc.got at e;cases hd:d.dec aZs with
  |none=>rw [hd]at e;cases e|some a=>
   rw [hd]at e;cases ho:d.okb a with
   |false=>simp only [ho]at e;cases e|true=>
    simp only [ho,JK]at e;cases e;refine⟨_,_,rfl,rfl,h2,⟨a,d.fY a ho,by rw [h1];exact d.XP _ a hd,rfl⟩,?_⟩;cases d.c.flat with
    |true=>rfl|false=>
     simp only [Bool.false_eq_true,if_false];rw [h3];rfl
def sU (l:List (Dc P)):Tr (AV ->Heap ->Option CR):=List.rec .leaf (λd _ t=>t.set d.run (pathOf d.c.f)) l
theorem Pw {l:List (Dc P)} {f:FuncId} {g:AV ->Heap ->Option CR} (e:(sU l).get (pathOf f)=some g):∃d:Dc P,d.c.f=f/\g=d.run:=by
 induction l with
 |nil=>cases e|cons d l ih=>
  change ((sU l).set d.run (pathOf d.c.f)).get (pathOf f)=some g at e;rw [Tr.bO]at e;split at e
  .rename_i h;cases e;exact⟨d,(dV h).symm,rfl⟩
  .exact ih e
def ovD (t:Tr (AV ->Heap ->Option CR)):dY ->AV ->Heap ->Option CR:=λg aZs h=>
 dY.casesOn (motive:=λ_=>Option CR) g (λf=>Option.casesOn (motive:=λ_=>Option CR) (t.get (pathOf f)) none (λd=>d aZs h)) (λ_=>none)
theorem zm (eG:eN P) (l:List (Dc P)) (B0:Nat):xB P B0 (ovD (sU l)):=by
 intro g aZs h v h' hc;cases g with
 |rd id=>cases hc|fn f=>
  change (Option.casesOn (motive:=λ_=>Option CR) ((sU l).get (pathOf f)) none (λd=>d aZs h)).getD CR.fail= .ret v h' at hc;cases hg:(sU l).get (pathOf f)with
  |none=>rw [hg]at hc;cases hc|some g=>
   rw [hg]at hc;obtain⟨d,hf,rfl⟩:=Pw hg;have hc:(d.run aZs h).getD CR.fail= .ret v h':=hc;cases hr:d.run aZs h with
   |none=>rw [hr]at hc;cases hc|some r=>
    rw [hr]at hc;obtain⟨v1,h1,rfl,hm⟩:=Dc.Pv hr;have hc:CR.ret v1 h1= .ret v h':=hc;cases hc;rw [hf]at hm;exact ay eG [d.c] B0 (.fn f) aZs h v h' (BN (l:=[d.c]) (List.pairwise_singleton _ _) (List.mem_singleton.2 rfl) hm)
structure bX.Rd {α:Type} (E:bX α) where
 rd:AV ->Option (α×AV)
 ok:∀l x t,rd l=some (x,t) ->l=E.c x t
def oB {α β:Type} (o:Option α) (f:α ->Option β):Option β:=Option.rec (motive:=λ_=>Option β) none f o
theorem du {α β:Type} {o:Option α} {f:α ->Option β} {y:β} (h:oB o f=some y):∃x,o=some x/\f x=some y:=by
 cases o with
 |none=>cases h|some x=>exact⟨x,rfl,h⟩
def bB {β:Type} (b:Bool) (o:Option β):Option β:=Bool.rec (motive:=λ_=>Option β) none o b
theorem nA {β:Type} {b:Bool} {o:Option β} {y:β} (h:bB b o=some y):b=true/\o=some y:=by
 cases b with
 |false=>cases h|true=>exact⟨rfl,h⟩
def JO (k:IntKind):(aq k).Rd where
 rd:=λl=>match l with| .cons (.int k' n) t=>bB (qp k k') (some (n,t))|_=>none
 ok:=λl x t h=>by
  split at h
  .obtain⟨h1,h2⟩:=nA h;cases h2;rw [iu.1 h1];rfl
  .cases h
def afC:bj.Rd where
 rd:=λl=>match l with| .cons (.bool b) t=>some (b,t)|_=>none
 ok:=λl x t h=>by
  split at h
  .cases h;rfl
  .cases h
def aiQ:aR.Rd where
 rd:=λl=>match l with| .cons (.str b) t=>some (b,t)|_=>none
 ok:=λl x t h=>by
  split at h
  .cases h;rfl
  .cases h
def Px (l:AV):Bool:=match l with| .nil=>true|_=>false
theorem DS {l:AV} (h:Px l=true):l= .nil:=by
 unfold Px at h;split at h
 .rfl
 .cases h
def rdN {α:Type} {E:bX α} (R:E.Rd) (n:Nat):AV ->Option (List α):=
 Nat.rec (motive:=λ_=>AV ->Option (List α)) (λl=>bB (Px l) (some [])) (λ_ ih l=>oB (R.rd l) λp=>oB (ih p.2) λr=>some (p.1::r)) n
theorem SF {α:Type} {E:bX α} (R:E.Rd):∀{n:Nat} {l:AV} {xs:List α},rdN R n l=some xs ->l=E.l xs/\xs.length=n
 |0,l,xs,h=>by
  change bB (Px l) (some [])=some xs at h;obtain⟨h1,h2⟩:=nA h;cases h2;exact⟨DS h1,rfl⟩
 |n+1,l,xs,h=>by
  change (oB (R.rd l) λp=>oB (rdN R n p.2) λr=>some (p.1::r))=some xs at h;obtain⟨⟨x,t⟩,h1,h⟩:=du h;obtain⟨r,h2,h3⟩:=du h;cases h3;obtain⟨h4,h5⟩:=SF R h2;exact⟨by rw [R.ok _ _ _ h1];show E.c x t=E.c x (E.l r);rw [<-h4],by simp [h5]⟩
def bX.Rd.list {α:Type} {E:bX α} (R:E.Rd):E.list.Rd where
 rd:=λl=>match l with| .cons (.ro n l) t=>oB (rdN R n l) λxs=>some (xs,t)|_=>none
 ok:=λl x t h=>by
  split at h
  .obtain⟨xs,h1,h2⟩:=du h;cases h2;obtain⟨h3,h4⟩:=SF R h1;show _=AV.cons (.ro x.length (E.l x)) t;rw [h3,h4]
  .cases h
theorem acT {α β:Type} {A:bX α} {B:bX β} (x:α) (y:β) (t:AV):(A.pair B).c (x,y) t=A.c x (B.c y t):=by
 show bV (A.cs x++B.cs y) t=bV (A.cs x) (bV (B.cs y) t);unfold bV;rw [List.foldr_append]
def bX.Rd.pair {α β:Type} {A:bX α} {B:bX β} (R:A.Rd) (S:B.Rd):(A.pair B).Rd where
 rd:=λl=>oB (R.rd l) λp=>oB (S.rd p.2) λq=>some ((p.1,q.1),q.2)
 ok:=λl x t h=>by
  obtain⟨p,h1,h⟩:=du h;obtain⟨q,h2,h3⟩:=du h;cases h3;rw [acT,R.ok _ p.1 p.2 h1,S.ok _ q.1 q.2 h2]
def bX.Rd.by {α β:Type} {E:bX α} (R:E.Rd) {f:β ->α} {hf:∀x y,f x=f y ->x=y} (g:α ->Option β) (hg:∀a b,g a=some b ->f b=a):(E.by f hf).Rd where
 rd:=λl=>oB (R.rd l) λp=>oB (g p.1) λb=>some (b,p.2)
 ok:=λl x t h=>by
  obtain⟨p,h1,h⟩:=du h;obtain⟨q,h2,h3⟩:=du h;cases h3;rw [R.ok _ p.1 p.2 h1,<-hg _ _ h2];rfl
def bX.Rd.v {α:Type} {E:bX α} (R:E.Rd) (a:AV):Option α:=
 Bool.rec (motive:=λ_=>Option α) (oB (R.rd (.cons a .nil)) λp=>bB (Px p.2) (some p.1)) (match a with| .agg l=>oB (R.rd l) λp=>bB (Px p.2) (some p.1)|_=>none) E.agg
theorem bX.Rd.XQ {α:Type} {E:bX α} (R:E.Rd) {a:AV} {x:α} (h:R.v a=some x):E.v x=a:=by
 unfold bX.Rd.v at h;have hwf:=E.wf;unfold bX.v;cases ha:E.agg with
 |true=>
  rw [ha]at h;simp only at h;split at h
  .obtain⟨p,h1,h⟩:=du h;obtain⟨h2,h3⟩:=nA h;cases h3;have:=R.ok _ p.1 p.2 h1;rw [this,DS h2]
  .cases h
 |false=>
  rw [ha]at h;simp only at h;obtain⟨p,h1,h⟩:=du h;obtain⟨h2,h3⟩:=nA h;cases h3;have:=R.ok _ p.1 p.2 h1;rw [DS h2]at this;cases he:E.cs p.1 with
  |nil=>exact absurd he (E.ne_nil _)|cons b l=>
   unfold bX.c at this;rw [he]at this;simp only;injection this with h3 h4;exact h3.symm
def zn {α:Type} {A:bX α} (R:A.Rd) (l:AV):Option α:=match l with| .cons a .nil=>R.v a|_=>none
theorem lP {α:Type} {A:bX α} {R:A.Rd} {l:AV} {x:α} (h:zn R l=some x):AV.cons (A.v x) .nil=l:=by
 unfold zn at h;split at h
 .rw [R.XQ h]
 .cases h
def mW {α β:Type} {A:bX α} {B:bX β} (R:A.Rd) (S:B.Rd) (l:AV):Option (α×β):=match l with| .cons a (.cons b .nil)=>oB (R.v a) λx=>oB (S.v b) λy=>some (x,y)|_=>none
theorem dS {α β:Type} {A:bX α} {B:bX β} {R:A.Rd} {S:B.Rd} {l:AV} {x:α×β} (h:mW R S l=some x):AV.cons (A.v x.1) (.cons (B.v x.2) .nil)=l:=by
 unfold mW at h;split at h
 .obtain⟨p,h1,h⟩:=du h;obtain⟨q,h2,h3⟩:=du h;cases h3;rw [R.XQ h1,S.XQ h2]
 .cases h
end
end
theorem PF.any (T:aY) {P:Program} {f:FuncId} {aZs v:AV} (h:@PF fe P f aZs v):@PF T P f aZs v:=λs w hs _ cargs hc=>(h s w hs (by
 intro i x hi;change ([]:List (AV×Nat))[i]?=some x at hi;simp at hi) cargs hc).mono λe w' ⟨cv,s',h1,h2,h3,h4,h5⟩=>⟨cv,s',h1,h2,h3,h4,Below.tabs (λ_=>rfl) h5⟩
def Cn.lift (T:aY) {P:Program} (c:@Cn fe P):@Cn T P:=
 @Cn.mk T P (@Cn.f fe P c) (@Cn.flat fe P c) (@Cn.α fe P c) (@Cn.aZs fe P c) (@Cn.v fe P c) (@Cn.ok fe P c) (@Cn.inj fe P c) (@Cn.dp fe P c) (@Cn.pv fe P c) (@Cn.fl fe P c) (λa h=>PF.any T (@Cn.pf fe P c a h)) (@Cn.bd fe P c)
def Dc.lift (T:aY) {P:Program} (d:@Dc fe P):@Dc T P:=
 @Dc.mk T P (Cn.lift T (@Dc.c fe P d)) (@Dc.dec fe P d) (@Dc.okb fe P d) (@Dc.XP fe P d) (@Dc.fY fe P d)
section
variable [aY] {P:Program} {B0:Nat}
section
def acU (id:Pos) (h:Heap) (k:Heap ->Prop):Prop:=
 match h.t.get id with
 |some (.loop true none fn r nt ps a b d)=>k ⟨h.t.set (.loop false none fn r nt ps a b d) id,h.n⟩|_=>False
def DT (id:Pos) (jump:Option (Option Nat)) (v:AV) (H:List (Pos×AO)) (N:Pos) (m:List Pos) (h:Heap):Prop:=
 match m with
 |[]=>(match jo id jump h with| .ret u h2=>u=v/\Nat.ble h2.n.toNat N.toNat=true/\JH h2 H| .fail=>False)
 |_::_=>False
end
theorem SG {id:Pos} {jump:Option (Option Nat)} {v:AV} {H:List (Pos×AO)} {N:Pos} {m:List Pos} {h:Heap} (hf:DT id jump v H N m h):m=[]/\∃h2,jo id jump h= .ret v h2/\h2.n.toNat<=N.toNat/\∀x∈H,h2.t.get x.1=some x.2:=by
 cases m with
 |cons _ _=>exact hf.elim|nil=>
  refine⟨rfl,?_⟩;unfold DT at hf;simp only at hf;cases e:jo id jump h with
  |fail=>rw [e]at hf;exact hf.elim|ret u h2=>
   rw [e]at hf;obtain⟨rfl,h1,h3⟩:=hf;exact⟨h2,rfl,Nat.le_of_ble_eq_true h1,zg h3⟩
def QJ (P:Program) (B0:Nat) (id:Pos) (fn:FuncId) (nt:Nat) (assign body:Code) (call:dY ->AV ->Heap ->CR) (r:Tr AV) (h0:Heap) (v:AV) (H:List (Pos×AO)) (N:Pos):Prop:=
 Cw P B0 ⟨P,fn,nt,some id,call,0⟩ assign r [] h0 (QK (λr1 m1 h1=>acU id h1 λh2=>Cw P B0 ⟨P,fn,nt,some id,call,0⟩ body r1 m1 h2
  (QK (λr m h=>DT id none v H N m h) (λr m h=>DT id (some none) v H N m h) (λi r m h=>DT id (some (some i)) v H N m h))) (λ_ _ _=>False) (λ_ _ _ _=>False))
theorem Py {call:dY ->AV ->Heap ->CR} {id:Pos} {xs:AV} {h0:Heap} {fn:FuncId} {im:Tr AV} {nt:Nat} {ps:Array Tmp} {assign body:Code} {wN:Pos} (hg:h0.t.get id=some (.loop true none fn im nt ps assign body wN)) {r:Tr AV} (FV:mn ps.toList xs nt im=some r)
  (hk:h0.n.toNat=64+aY.k) (hid:kept id=true) {v:AV} {H:List (Pos×AO)} {N:Pos} (hN:h0.n.toNat<=N.toNat) (hw:QJ P B0 id fn nt assign body call r h0 v H N) {μ:Mu} {w:World} (hr:HR μ B0 h0 w):
  ∀B,μ id=some B ->∀cargs:Array Value,cG μ xs cargs.toList ->∃fn tmps assign body,(Instr.yield B.b cargs).run P w= .ok (.round B.b fn tmps assign body) w/\
   ∀(c:Frame) (cs:List Frame),∃cv μ' w',dw μ' v cv/\bS μ B0 h0 w μ' ⟨bW H,N⟩ w'/\Steps P (lone (Frame.round B.b fn tmps assign body .normal) (c::cs) w) (lone (c.finish cv) cs w'):=by
 intro B hB cargs eO;obtain⟨l,h1,h2,_,h3,h4,h5,h6,h7,h8,h9,D,Iw,OD⟩:=hr.obj id B _ hB hg;obtain⟨g1,g2,g3⟩:=qR ps.toList FV eO h5 h6;subst h7;subst h8;subst h9;subst h4;have Jv:=run_yield (P:=P) (args:=cargs) h1 (by have:=g1;simp only [Array.length_toList]at this;omega);refine⟨_,_,_,_,Jv,?_⟩;intro c cs;have Sa:(l.params.zip cargs).foldl (λtmps (x:Tmp×Value)=>tmps.setIfInBounds x.1 x.2) l.tmps=(l.params.toList.zip cargs.toList).foldl (λtmps x=>tmps.setIfInBounds x.1 x.2) l.tmps:=by
  rw [<-Array.foldl_toList,Array.toList_zip]
 have OZ:AR μ nt r [] ⟨(l.params.zip cargs).foldl (λtmps (x:Tmp×Value)=>tmps.setIfInBounds x.1 x.2) l.tmps,[]⟩:=by rw [Sa];exact⟨g2,g3,aA⟩
 revert OZ;show AR μ nt r [] ⟨(l.params.zip cargs).foldl (λtmps (x:Tmp×Value)=>tmps.setIfInBounds x.1 x.2) l.tmps,[]⟩ ->∃cv μ' w',dw μ' v cv/\bS μ B0 h0 w μ' ⟨bW H,N⟩ w'/\Steps P (lone (Frame.round B.b l.fn ((l.params.zip cargs).foldl (λtmps (x:Tmp×Value)=>tmps.setIfInBounds x.1 x.2) l.tmps) l.assign l.body .normal) (c::cs) w) (lone (c.finish cv) cs w');generalize (l.params.zip cargs).foldl (λtmps (x:Tmp×Value)=>tmps.setIfInBounds x.1 x.2) l.tmps=T;intro OZ;have RZ:QI μ h0.n ⟨P,l.fn,nt,some id,call,0⟩ (Frame.round B.b l.fn T l.assign l.body .normal):=⟨⟨rfl,rfl,B,hB,rfl⟩,λid' e=>by cases e;exact⟨hid,by omega⟩⟩
 obtain⟨x,hq,hx⟩:=hw μ w (Frame.round B.b l.fn T l.assign l.body .normal) _ [.beginRound,.code l.body] (c::cs) hr OZ RZ;cases x with
 |fail=>exact hx.elim|exit i r1 m1 lj=>exact hq.elim|ret r1 m1 lj=>exact hq.elim|ok r1 m1 hh1=>
  obtain⟨μ1,a1,w1,oC,rS,dt⟩:=hx;have LX:=(oC.dF.xC (by omega)).1;have OY:μ1 id=some B:=(LX id hid).trans hB;have hq:acU id hh1 (λh2=>Cw P B0 ⟨P,l.fn,nt,some id,call,0⟩ l.body r1 m1 h2 (QK (λr m h=>DT id none v H N m h) (λr m h=>DT id (some none) v H N m h) (λi r m h=>DT id (some (some i)) v H N m h))):=hq;unfold acU at hq;split at hq
  .rename_i fn2 LL nt2 ps2 as2 bd2 Xy hg2;obtain⟨l2,k1,k2,_,k3,k4,k5,k6,k7,k8,k9,D2,k10,k11⟩:=oC.rel.obj id B _ OY hg2;have acE:=(Array.getElem?_eq_some_iff.1 k1).1;have Jw:=run_beginRound (P:=P) k1 k2;have lh:=Dz oC.rel id B OY _ (.loop false none fn2 LL nt2 ps2 as2 bd2 Xy) hg2 rfl gZ rfl (.loop {l2 with state:= .busy}) ⟨_,World.putObj_heap_same acE,rfl,(λ_ _=>trivial),k3,k4,k5,k6,k7,k8,k9,D2,k10,k11⟩;have aiR:=RZ.grow oC.dF;have aiS:QI μ1 hh1.n ⟨P,l.fn,nt,some id,call,0⟩ (Frame.round B.b l.fn T l.assign l.body .normal):=aiR;obtain⟨y,Xl,hy⟩:=hq μ1 _ (Frame.round B.b l.fn T l.assign l.body .normal) a1 [] (c::cs) lh.rel rS aiS;have kL:=(jt (round_eq B.b l.fn T l.assign l.body) dt).trans (.one (stepR_beginRound (P:=P) (b:=Frame.round B.b l.fn T l.assign l.body .normal) (a:=a1) (k:=[.code l.body]) (cs:=c::cs) rfl Jw));have fin:∀(jump:Option (Option Nat)) (m3:List Pos) (QG:Heap) (μ3:Mu) (w3:World),DT id jump v H N m3 QG ->XG μ1 hh1.n B0 (w1.putObj B.b (.loop {l2 with state:= .busy})) μ3 QG w3 ->
     ∃cv w4,(Instr.endRound B.b (tz jump)).run P w3= .ok cv w4/\dw μ3 v cv/\bS μ B0 h0 w μ3 ⟨bW H,N⟩ w4:=by
    intro jump m3 QG μ3 w3 hf ha;obtain⟨rfl,h5,he,hn5,hH⟩:=SG hf;have hn1:64+aY.k<=hh1.n.toNat:=(oC.dF.xC (by omega)).2;have hB3:μ3 id=some B:=((ha.dF.xC hn1).1 id hid).trans OY;obtain⟨cv,w4,bH,hv,Jx⟩:=jd (P:=P) (jump:=jump) hB3 ha.rel he;refine⟨cv,w4,bH,hv,⟨λq hq=>?_,hN,Jx.rel.aa8 _ _ hn5 (λq p e=>hH (q,p) (rW e)),((oC.below.trans lh.below).trans ha.below).trans Jx.below,((oC.dF.g.trans lh.dF).trans ha.dF.g).trans Jx.dF⟩⟩;have iw:kept q=true:=bC.2 (show q.toNat<64+aY.k by omega);exact((ha.dF.xC hn1).1 q iw).trans (LX q iw)
   cases y with
   |fail=>exact hy.elim|ok r3 m3 QG=>
    obtain⟨μ3,a3,w3,FX,ha3,BG⟩:=hy;obtain⟨cv,w4,bH,hv,Jx⟩:=fin none m3 QG μ3 w3 Xl FX;exact⟨cv,μ3,w4,hv,Jx,(kL.trans BG).trans (.one (stepR_round_end rfl rfl bH))⟩
   |exit i r3 m3 QG=>
    obtain⟨μ3,a3,w3,FX,ha3,k',vI,BG⟩:=hy;obtain⟨cv,w4,bH,hv,Jx⟩:=fin (some (some i)) m3 QG μ3 w3 Xl FX;exact⟨cv,μ3,w4,hv,Jx,(kL.trans BG).trans (.one (stepR_round_exit rfl rfl vI bH))⟩
   |ret r3 m3 QG=>
    obtain⟨μ3,a3,w3,FX,ha3,k',BG⟩:=hy;obtain⟨cv,w4,bH,hv,Jx⟩:=fin (some none) m3 QG μ3 w3 Xl FX;exact⟨cv,μ3,w4,hv,Jx,(kL.trans BG).trans (.one (stepR_round_ret rfl rfl bH))⟩
  .exact hq.elim
end
open Classical in
def mF {ι:Type} (id:Pos) (F:xf ι) (call:dY ->AV ->Heap ->CR):dY ->AV ->Heap ->CR:=λt xs h=>
 if hx:∃i,F.ok i/\t= .rd id/\xs=F.ar i/\h=F.h0 i then .ret (F.v hx.choose) ⟨bW (F.H hx.choose),F.N hx.choose⟩else call t xs h
section
variable {ι:Type} {F:xf ι} {call:dY ->AV ->Heap ->CR} {id:Pos}
theorem Pz (i:ι) (hi:F.ok i):mF id F call (.rd id) (F.ar i) (F.h0 i)= .ret (F.v i) ⟨bW (F.H i),F.N i⟩:=by
 have hx:∃j,F.ok j/\dY.rd id= .rd id/\F.ar i=F.ar j/\F.h0 i=F.h0 j:=⟨i,hi,rfl,rfl,rfl⟩
 unfold mF;rw [dif_pos hx];obtain⟨h1,_,h2,h3⟩:=hx.choose_spec;obtain⟨e1,e2,e3⟩:=F.inj _ _ h1 hi h2.symm h3.symm;rw [e1,e2,e3]
theorem XR (i:ι) (hi:F.ok i) {xs:AV} {h:Heap} (ea:xs=F.ar i:=by rfl) (eh:h=F.h0 i:=by rfl) {K:AV ->Heap ->Prop} (hk:K (F.v i) ⟨bW (F.H i),F.N i⟩):∃v h',mF id F call (.rd id) xs h= .ret v h'/\K v h':=by
 subst ea eh;exact⟨_,_,Pz i hi,hk⟩
theorem kN {f:FuncId} {xs:AV} {h:Heap} {K:AV ->Heap ->Prop} (hk:∃v h',call (.fn f) xs h= .ret v h'/\K v h'):∃v h',mF id F call (.fn f) xs h= .ret v h'/\K v h':=by
 obtain⟨v,h',e,k⟩:=hk;refine⟨v,h',?_,k⟩;unfold mF;rw [dif_neg]
 .exact e
 .rintro ⟨i,_,e,_⟩;cases e
end
theorem qY {ι:Type} {T:aY} {P:Program} {B0:Nat} (k:Nat) {call:dY ->AV ->Heap ->CR} (bl:@aW T P B0 call) {id:Pos} (F:xf ι) (hid:id.toNat<64+k)
  (hw:∀i,F.ok i ->∃(fn:FuncId) (im:Tr AV) (nt:Nat) (ps:Array Tmp) (assign body:Code) (wN:Pos) (r:Tr AV) (ib:dY ->AV ->Heap ->CR),(F.h0 i).t.get id=some (.loop true none fn im nt ps assign body wN)/\mn ps.toList (F.ar i) nt im=some r/\
   (F.h0 i).n.toNat=64+k/\(F.h0 i).n.toNat<=(F.N i).toNat/\ @QJ (qi T k) P B0 id fn nt assign body ib r (F.h0 i) (F.v i) (F.H i) (F.N i)):@aW T P B0 (mF id F call):=by
 intro t vk h v' h' e μ w hr;unfold mF at e;split at e
 .rename_i hx;obtain⟨hi,ht,ha,hh⟩:=hx.choose_spec;generalize hx.choose=i at*;subst ht ha hh;cases e;obtain⟨fn,im,nt,ps,assign,body,wN,r,ib,hg,FV,hk,hN,hw⟩:=hw i hi;intro B hB cargs eO;obtain⟨fn',tmps,asg,bd,h1,h2⟩:= @Py (qi T k) P B0 ib id (F.ar i) (F.h0 i) fn im nt ps assign body wN hg r FV hk (bC.2 (show id.toNat<64+k from hid)) (F.v i) (F.H i) (F.N i) hN hw μ w (HR.tabs T (qi T k) rfl hr) B hB cargs eO;refine⟨fn',tmps,asg,bd,h1,λc cs=>?_⟩;obtain⟨cv,μ',w',g1,g2,g3⟩:=h2 c cs;exact⟨cv,μ',w',g1,bS.tabs (qi T k) T rfl g2,g3⟩
 .exact bl t vk h v' h' e μ w hr
theorem Cw.range [aY] {P:Program} {B0:Nat} {cx:Cx} (hm:P.follows .mixedOrders=true) (hP:cx.P=P) (bl:aW P B0 cx.call) {f:Operand} {ps:Array Tmp} {assign body:Code} {r:Tr AV} {m:List Pos} {h:Heap} {Q:R ->Prop} (AY:cx.rd=none) {g:FuncId} {a b:AV} (hf:ev f r= .func (.func g) a b) {v:AV} {h2:Heap}
  (hc:cx.call (.fn g) (app a (.cons (.yield h.n.succ) b)) ⟨(h.t.set .marks h.n).set (.loop true none cx.fn r cx.nt ps assign body h.n) h.n.succ,h.n.succ.succ⟩= .ret v h2)
  {x:R} (hx:qx h.n.succ r (h.n::m) h2=x) (dE:x≠.fail) (hQ:Q x):Cw P B0 cx (.rangeFunc f ps assign body) r m h Q:=by
 refine Cw.of_run (fZ hm hP bl _) (x:=x) ?_ dE hQ;show ml f ps assign body cx r m h=x;unfold ml tu;rw [AY];simp only [hf];rw [hc];exact hx
theorem mX {q n:Nat} (h:q<n) (hn:n<=4611686018427387904):ah .i64 (Int.add (q:Int) 1)=((q+1:Nat):Int):=by
 show ah .i64 ((q:Int)+1)=_;rw [az (by omega) (by omega)];omega
theorem mY {q n:Nat} (h:dj (q:Int) (n:Int)=true):q<n:=Int.ofNat_lt.1 (aQ.1 h)
theorem ou {q n:Nat} (hq:q<=n) (h:dj (q:Int) (n:Int)=false):q=n:=by
 have:=bf.1 h;have this:((n:Nat):Int)<=(q:Int):=this;omega
section
def afD:Nat ->List AV ->List (Nat×AV)
 |_,[]=>[]
 |n,a::l=>(n,a)::afD (n+1) l
def cl (l:List AV):AO:= .cells (bm (afD 0 l)) l.length false
def hp (H:List (Nat×AO)) (n:Nat):Heap:=⟨bW (H.map λx=>(pathOf x.1,x.2)),pathOf n⟩
def pp (l:List (Nat×Nat)):RL:=l.map λx=>(pathOf x.1,Nat.casesOn (motive:=λ_=>Option Pos) x.2 none λk=>some (pathOf (k+1)))
def bor (a b:Bool):Bool:=Bool.casesOn (motive:=λ_=>Bool) a b true
def vp:Code ->Bool
 | .rangeFunc _ _ _ _=>true| .seq x y=>bor (vp x) (vp y)| .cond _ x y=>bor (vp x) (vp y)| .block _ x=>vp x| .loop x=>vp x| .scope x=>vp x|_=>false
def jO:Code ->Array Tmp×Code×Code
 | .rangeFunc _ ps x y=>(ps,x,y)
 | .seq x y=>Bool.casesOn (motive:=λ_=>Array Tmp×Code×Code) (vp x) (jO y) (jO x)| .cond _ x y=>Bool.casesOn (motive:=λ_=>Array Tmp×Code×Code) (vp x) (jO y) (jO x)| .block _ x=>jO x| .loop x=>jO x| .scope x=>jO x|_=>(#[],.skip,.skip)
end
theorem ap1 {q k:Nat} (hq:q<1048576) (hk:Nat.ble k 1048574=true:=by rfl):(q+1)*(k+1)<=1099511627776:=by
 have hk:=Nat.le_of_ble_eq_true hk;calc (q+1)*(k+1)<=1048576*1048575:=Nat.mul_le_mul (by omega) (by omega)
  _<=_:=by decide
section
variable [aY] {P:Program}
theorem bX.ap {α:Type} (E:bX α) {xs:List α} {q k:Nat} {new:AV} (hl:xs.length=q) (hq:q<1048576) (hk:Nat.ble k 1048574=true:=by rfl) (hc:dJ new=true:=by rfl):(q+1)*(k+1)<=1099511627776/\dJ new=true/\q*E.sz=(E.l xs).len:=⟨ap1 hq hk,hc,by rw [E.ep,hl]⟩
theorem bX.pH {α β:Type} (E:bX α) (f:β ->α) {l:List β} {q:Nat} (hq:q<l.length):app (E.l ((l.take q).map f)) (E.c (f l[q]) .nil)=E.l ((l.take (q+1)).map f):=by
 rw [List.take_succ_eq_append_getElem hq,List.map_append];exact E.oH _ [_]
theorem bX.wg {α:Type} (E:bX α) (xs:List α) (x:α):app (E.l xs) (E.c x .nil)=E.l (xs++[x]):=E.oH xs [x]
theorem gd {α β:Type} {f:α ->β} {l:List α} {q:Nat} (hq:q<=l.length):((l.take q).map f).length=q:=by
 rw [List.length_map,List.length_take,Nat.min_eq_left hq]
theorem nw {P Q:Prop} (q:Q) (p:P:=by first|exact⟨_,rfl,rfl⟩|exact aA|exact rfl|exact⟨_,bX.rd _ rfl (by assumption),bX.rd _ rfl (by assumption)⟩):P/\Q:=⟨p,q⟩
theorem aC {p q:Prop} (h:q) (e:(True ->q) ->p:=by intro hq;(conv=>whnf);(repeat(refine nw ?_;conv=>whnf));exact hq trivial):p:=e λ_=>h
theorem cg (l:List (Cn P)) (i:Nat) (c:Cn P) (a:c.α) (fY:c.ok a) {aZs:AV} {h:Heap} {K:AV ->Heap ->Prop} (hk:K (c.v a) (match c.flat with|true=>h|false=>Fe h (jj aZs)))
 (hl:(l.map Cn.f).Nodup:=by decide) (hc:l[i]?=some c:=by rfl) (hbor:ia h aZs:=by repeat' first|exact aA|exact rfl|refine And.intro ?_ ?_) (has:c.aZs a=ji c.flat h aZs:=by rfl):∃v h',aE l (.fn c.f) aZs h= .ret v h'/\K v h':=bI hl i hc a fY hbor has hk
theorem PF.go (hm:P.follows .mixedOrders=true) (eG:eN P) (T:List (Cn P)) {f:FuncId} {fn:Func} {c:Code} {aZs v:AV} {r:Tr AV} (hf:P.funcs[f]?=some fn) (hb:fn.body=some c) (gf:gH aZs 0 fn.ntmps .leaf=some r)
  (hw:∀B0,aW P B0 (aE T) ->wp P B0 ⟨P,f,fn.ntmps,none,aE T,0⟩ c (Fin P fn v) (Fin P fn v) (λ_ _ _ _=>False) r [] ⟨.leaf,pathOf 64⟩)
  (hlen:aY.l.length<=64:=by decide) (hpure:dh aZs:=by repeat' first|exact dh.nil|exact bX.ak _ _|exact cL.ro|exact cL.int|exact cL.fn|refine dh.cons ?_ ?_|refine cL.agg ?_):PF P f aZs v:=
 PF.of_wp hm hlen hf hb gf hpure (λB0=>ay eG T B0) λB0=>hw B0 (ay eG T B0)
theorem sb (L:List (Nat×Nat)) {B0 nt n:Nat} {r:Tr AV} {h:Heap} {R:List (Nat×AV)} {H:List (Nat×AO)} (hk:wb (pathOf n) (pp L)=true:=by rfl) (ho:qW [] (pp L)=true:=by rfl) (hn:bQ (Nat.add 63 aY.k) (pathOf n).toNat=true:=by rfl)
 (hR:St h (pp L) [] r R:=by repeat' first|exact aA|assumption|exact rfl|refine And.intro ?_ ?_)
 (hH:Su h (pp L) [] (H.map λx=>(pathOf x.1,x.2)):=by repeat' first|exact aA|assumption|exact rfl|exact bX.bh _ _|refine And.intro ?_ ?_):Sub B0 nt r [] h (bm R) [] (hp H n):=Sub.of (pp L) [] hk ho hn hR hH
theorem Cw.lp {B0:Nat} {cx:Cx} {body:Code} {Q:R ->Prop} {r:Tr AV} {m:List Pos} {h:Heap} {σ:Type} (hm:P.follows .mixedOrders=true) (hP:cx.P=P) (AY:cx.rd=none) (bl:aW P B0 cx.call)
  (N:Nat) (Rg:Nat ->σ ->List (Nat×AV)) (H:Nat ->σ ->Heap) (inv:Nat ->σ ->Prop) (s0:σ) (h0:inv 0 s0) (hs:Sub B0 cx.nt r m h (bm (Rg 0 s0)) [] (H 0 s0))
  (hb:∀q s,q<=N ->inv q s ->wp P B0 cx body (λr m h=>∃t,q+1<=N/\inv (q+1) t/\Sub B0 cx.nt r m h (bm (Rg (q+1) t)) [] (H (q+1) t)) (λr m h=>Q (.ret r m h)) (λi r m h=>Q (.exit i r m h)) (bm (Rg q s)) [] (H q s)):
  Cw P B0 cx (.loop body) r m h Q:=by
 refine Cw.loop (ι:=Nat×σ) (λz=>bm (Rg z.1 z.2)) (λ_=>[]) (λz=>H z.1 z.2) (λz=>z.1<=N/\inv z.1 z.2) (λz=>N - z.1) ?_ (0,s0) ⟨Nat.zero_le _,h0⟩ hs;rintro ⟨q,s⟩ ⟨h1,h2⟩;refine(aD hm hP AY bl body (hb q s h1 h2)).mono λx hx=>?_;cases x with
 |ok r m h=>
  obtain⟨t,g1,g2,g3⟩:=hx;exact⟨(q+1,t),⟨g1,g2⟩,by show N - (q+1)<N - q;omega,g3⟩
 |_=>exact hx
end
section
variable [aY] {P:Program} {κ β:Type} [DecidableEq κ] (A:bX κ) (B:bX β)
def mE (l:List (κ×β)):List (AV×AV):=l.map λx=>(A.v x.1,B.v x.2)
def wi (k:κ):List (κ×β) ->Nat ->Option (Nat×β)
 |[],_=>none|x::l,i=>match decide (k=x.1)with|true=>some (i,x.2)|false=>wi k l (i+1)
def nZ (k:κ) (v:β) (l:List (κ×β)):List (κ×β):=match wi k l 0 with|some x=>l.set x.1 (k,v)|none=>l++[(k,v)]
structure PA (P:Program) (kt:TypeId) (A:bX κ):Prop where
 eqv:∀a b,Ox P 40 kt (A.v a) (A.v b)=some (decide (a=b))
 key:∀a,su P 40 kt (A.v a)=true
 ke:∀a,qv (A.v a) (A.v a)=true
theorem je (l:List (κ×β)):LU (mE A B l):=λx hx=>by
 obtain⟨k,_,rfl⟩:=List.mem_map.1 hx;exact⟨A.ak _,B.ak _⟩
theorem JP (l:List (κ×β)):(mE A B l).length=l.length:=List.length_map ..
variable {A B}
theorem DU {kt:TypeId} (hk:PA P kt A) {k:κ}:∀{l:List (κ×β)} {i:Nat},dW P kt (A.v k) (mE A B l) i=some ((wi k l i).map λx=>(x.1,B.v x.2))
 |[],i=>rfl|x::l,i=>by
  have ih:=DU hk (k:=k) (l:=l) (i:=i+1);show(match Ox P 40 kt (A.v k) (A.v x.1)with|some true=>Bool.casesOn (motive:=λ_=>Option (Option (Nat×AV))) (qv (A.v x.1) (A.v k)) none (some (some (i,B.v x.2)))|some false=>dW P kt (A.v k) (mE A B l) (i+1)|none=>none)=_;rw [hk.eqv];unfold wi;by_cases h:k=x.1
  .rw [decide_eq_true h];subst h;show Bool.casesOn (motive:=λ_=>Option (Option (Nat×AV))) (qv (A.v x.1) (A.v x.1)) none (some (some (i,B.v x.2)))=_;rw [hk.ke];rfl
  .rw [decide_eq_false h];exact ih
theorem afE {kt et t:TypeId} (hk:PA P kt A) (ht:P.underlying t=some (.map kt et)) {m k:Operand} {b:Bool} {r:Tr AV} {h:Heap} {id:Pos} {key:κ} {l:List (κ×β)} {j:Nat} {v:β} (hf:wi key l 0=some (j,v)) (hm:ev m r= .map id) (QE:ev k r=A.v key) (hh:h.t.get id=some (.mp (mE A B l))):
  qm (.lookup t m k b) P r h= .val (pX b (B.v v) true) h:=by
 have e:fW t m k b P r h=some (pX b (B.v v) true):=by
  unfold fW vK;rw [ht,hm,QE];simp only [hk.key,hh,DU hk,hf,Option.map_some]
 show Option.casesOn (motive:=λ_=>Heap ->OR) (fW t m k b P r h) (λ_=> .fail) (λv h=> .val v h) h=_;rw [e]
theorem SI {kt et t:TypeId} (hk:PA P kt A) (ht:P.underlying t=some (.map kt et)) {m k:Operand} {b:Bool} {r:Tr AV} {h:Heap} {id:Pos} {key:κ} {l:List (κ×β)} {z:Value} (hf:wi key l 0=none) (hz:lA P et=some z) (hm:ev m r= .map id) (QE:ev k r=A.v key) (hh:h.t.get id=some (.mp (mE A B l))):
  qm (.lookup t m k b) P r h= .val (pX b (eY z) false) h:=by
 have e:fW t m k b P r h=some (pX b (eY z) false):=by
  unfold fW vK;rw [ht,hm,QE];simp only [hk.key,hh,DU hk,hf,hz,Option.map_none,Option.map_some]
 show Option.casesOn (motive:=λ_=>Heap ->OR) (fW t m k b P r h) (λ_=> .fail) (λv h=> .val v h) h=_;rw [e]
theorem PB {kt et t:TypeId} (hk:PA P kt A) (ht:P.underlying t=some (.map kt et)) {m k x:Operand} {r:Tr AV} {h:Heap} {id:Pos} {key:κ} {v:β} {l:List (κ×β)} (hm:ev m r= .map id) (QE:ev k r=A.v key) (hv:ev x r=B.v v) (hh:h.t.get id=some (.mp (mE A B l))):
  qm (.mapUpdate t m k x) P r h= .val (.aO .nil) ⟨h.t.set (.mp (mE A B (nZ key v l))) id,h.n⟩:=by
 show fq t m k x P r h=_;unfold fq;rw [ht,hm,QE,hv];simp only [hk.key,hh,DU hk];have e:mE A B (nZ key v l)=Lo (A.v key,B.v v) (mE A B l) ((wi key l 0).map λx=>(x.1,B.v x.2)):=by
  unfold nZ mE;cases wi key l 0 with
  |none=>exact List.map_append|some y=>exact List.map_set
 rw [e]
theorem wj {x:OR} {v:AV} {h:Heap} {k:VK} (e:x= .val v h) (hk:k v h):LN x k:=by subst e;exact hk
end
section
variable [aY]
theorem pE:∀{l:List AV} {t:AV},(bV l t).len=l.length+t.len
 |[],t=>by simp [bV]
 |a::l,t=>by
  show Nat.succ (bV l t).len=_;rw [pE,List.length_cons];omega
theorem mG:∀{l m:List AV} {t:AV},bV (l++m) t=bV l (bV m t)
 |[],_,_=>rfl|a::l,m,t=>congrArg (AV.cons a) mG
theorem PC {A N Z Y:List AV} (h:N.length=Z.length):gO A.length (bV (A++(Z++Y)) .nil) (bV N .nil)=bV (A++(N++Y)) .nil:=by
 have:=bX.tS (l:=A) (t:=bV (Z++Y) .nil) (p:=bV N .nil) (n:=0);rw [Nat.add_zero]at this;rw [mG,this,mG (l:=A),mG (l:=Z),bX.qX h.symm,mG (l:=N)]
def bX.fl {α:Type} (E:bX α) (xs:List α):List AV:=xs.flatMap E.cs
theorem bX.XS {α:Type} (E:bX α):∀xs:List α,E.l xs=bV (E.fl xs) .nil
 |[]=>rfl|x::xs=>by
  show bV (E.cs x) (E.l xs)=_;rw [E.XS xs,<-mG];rfl
theorem bX.SJ {α:Type} (E:bX α) (xs:List α):(E.fl xs).length=xs.length*E.sz:=by
 have h:=congrArg AV.len (E.XS xs);rw [E.ep,pE]at h;exact h.symm
theorem bX.acV {α:Type} (E:bX α) (xs ys:List α):E.fl (xs++ys)=E.fl xs++E.fl ys:=List.flatMap_append
theorem Gs:∀{l:List AV} {t:AV},app (bV l .nil) t=bV l t
 |[],_=>rfl|a::l,t=>congrArg (AV.cons a) Gs
theorem zo (Z:List AV):∀n,fQ n (bV Z .nil)=bV (List.replicate n Z).flatten .nil
 |0=>rfl|n+1=>by
  show app (bV Z .nil) (fQ n (bV Z .nil))=_;rw [zo Z n,Gs,<-mG];rfl
theorem afF {α:Type} (E:bX α) {by_:Nat} {x:AV} {id:Pos} {h:Heap} {xs ys:List α} {Z:List AV} {cap:Nat} (hg:h.t.get id=some (.gl (bV (E.fl xs++Z) .nil) false))
  (hb:(xs.length+ys.length)*(by_+1)<=1099511627776) (hc:xs.length+ys.length<=cap) (hz:ys.length*E.sz<=Z.length):
  iq E.sz by_ (.slice id 0 xs.length cap E.sz) x ys.length (E.l ys) h= .val (.slice id 0 (xs.length+ys.length) cap E.sz) ⟨h.t.set (.gl (bV (E.fl (xs++ys)++Z.drop (ys.length*E.sz)) .nil) false) id,h.n⟩:=by
 have e1:gG E.sz E.sz by_ (Nat.add xs.length ys.length) (E.l ys)=true:=aw.2 ⟨Nat.beq_refl _,aw.2 ⟨Nat.ble_eq_true_of_le hb,E.lu ys⟩⟩;have e2:Nat.ble (Nat.add xs.length ys.length) cap=true:=Nat.ble_eq_true_of_le hc;have hl1:=E.SJ xs;have hl2:=E.SJ ys;have e3:putAt id (Nat.add 0 (Nat.mul xs.length E.sz)) (Nat.mul ys.length E.sz) (E.l ys) h=some ⟨h.t.set (.gl (bV (E.fl (xs++ys)++Z.drop (ys.length*E.sz)) .nil) false) id,h.n⟩:=by
  unfold putAt;rw [hg];have f1:aF (Nat.ble (Nat.add (Nat.add 0 (Nat.mul xs.length E.sz)) (Nat.mul ys.length E.sz)) (bV (E.fl xs++Z) .nil).len) (aF (Nat.beq (E.l ys).len (Nat.mul ys.length E.sz)) (dJ (E.l ys)))=true:=by
   refine aw.2 ⟨Nat.ble_eq_true_of_le ?_,aw.2 ⟨?_,E.lu ys⟩⟩
   .show 0+xs.length*E.sz+ys.length*E.sz<=_;rw [pE,List.length_append,hl1];show _<=xs.length*E.sz+Z.length+0;omega
   .rw [E.ep];exact Nat.beq_refl _
  show Bool.casesOn (motive:=λ_=>Option Heap) false (Bool.casesOn (motive:=λ_=>Option Heap) _ none (some _)) none=_;rw [f1];show some (Heap.mk _ _)=_;congr 3;have hs:=PC (A:=E.fl xs) (N:=E.fl ys) (Z:=Z.take (ys.length*E.sz)) (Y:=Z.drop (ys.length*E.sz)) (by rw [List.length_take,hl2];omega);rw [List.take_append_drop]at hs;rw [E.XS ys,E.acV,List.append_assoc,<-hs,hl1];congr 2;exact Nat.zero_add _
 show Bool.casesOn (motive:=λ_=>OR) (gG E.sz E.sz by_ (Nat.add xs.length ys.length) (E.l ys)) .fail _=_;rw [e1];show Bool.casesOn (motive:=λ_=>OR) (Nat.ble (Nat.add xs.length ys.length) cap) _ _=_;rw [e2];show Option.casesOn (motive:=λ_=>OR) (putAt id (Nat.add 0 (Nat.mul xs.length E.sz)) (Nat.mul ys.length E.sz) (E.l ys) h) .fail _=_;rw [e3];rfl
theorem bX.src {α:Type} (E:bX α) (ys:List α):dQ (Nat.mul ys.length E.sz) (E.l ys)=some (E.l ys):=by
 rw [E.kM (Nat.le_refl _),List.take_length]
theorem PE {Z:List AV} (hZ:∀a∈Z,a.jB=true) (n:Nat):dJ (fQ n (bV Z .nil))=true:=by
 rw [zo];refine bX.zj (λa ha=>?_) rfl;obtain⟨l,hl,ha⟩:=List.mem_flatten.1 ha;rw [(List.mem_replicate.1 hl).2]at ha;exact hZ a ha
theorem afG {P:Program} {t u e:TypeId} {tl:List TypeId} {Z:List AV} {sz by_ n:Nat} {k:IntKind} {x:Int} {rest:AV} {h:Heap} (hx:x=(n:Int)) (he:iH P t=some e) (hs:fL P e=some sz) (hb:iI P e=some by_) (hz:dI P e=some (bV Z .nil)) (hl:Z.length=sz) (hu:nQ P u=true) (hu':nR P u=true)
  (fY:n*(by_+1)<=1099511627776) (hZ:∀a∈Z,a.jB=true) (h0:n≠0):
  kK (t::u::tl) (.cons .bA (.cons (.int k x) rest)) P h= .val (.slice h.n 0 n n sz) ⟨h.t.set (.gl (fQ n (bV Z .nil)) false) h.n,h.n.succ⟩:=by
 subst hx;show Option.casesOn (motive:=λ_=>OR) (iH P t) .fail (λe=>Option.casesOn (motive:=λ_=>OR) (fL P e) .fail (λsz=>Option.casesOn (motive:=λ_=>OR) (iI P e) .fail (λby_=>Option.casesOn (motive:=λ_=>OR) (dI P e) .fail (λz=>
  Bool.casesOn (motive:=λ_=>OR) (aF (Nat.beq z.len sz) (aU (nQ P u))) (lM sz by_ z .bA (.int k (n:Int)) (aF (Nat.beq z.len sz) (nR P u)) h) _))))=_
 rw [he];show Option.casesOn (motive:=λ_=>OR) (fL P e) .fail _=_;rw [hs];show Option.casesOn (motive:=λ_=>OR) (iI P e) .fail _=_;rw [hb];show Option.casesOn (motive:=λ_=>OR) (dI P e) .fail _=_;rw [hz];have HW:(bV Z .nil).len=sz:=by rw [pE,hl];rfl
 have e1:aF (Nat.beq (bV Z .nil).len sz) (aU (nQ P u))=false:=by rw [hu,HW,Nat.beq_refl];rfl
 have e2:aF (aF (Nat.beq (bV Z .nil).len sz) (nR P u)) (aF (gG sz sz by_ n (fQ n (bV Z .nil))) (aU (Nat.beq n 0)))=true:=by
  refine aw.2 ⟨aw.2 ⟨by rw [HW];exact Nat.beq_refl _,hu'⟩,aw.2 ⟨aw.2 ⟨Nat.beq_refl _,aw.2 ⟨Nat.ble_eq_true_of_le fY,PE hZ n⟩⟩,?_⟩⟩;cases n with
  |zero=>exact absurd rfl h0|succ n=>rfl
 show Bool.casesOn (motive:=λ_=>OR) (aF (Nat.beq (bV Z .nil).len sz) (aU (nQ P u))) (lM sz by_ (bV Z .nil) .bA (.int k (.ofNat n)) (aF (Nat.beq (bV Z .nil).len sz) (nR P u)) h) _=_;rw [e1];show Bool.casesOn (motive:=λ_=>OR) (aF (aF (Nat.beq (bV Z .nil).len sz) (nR P u)) (aF (gG sz sz by_ n (fQ n (bV Z .nil))) (aU (Nat.beq n 0)))) .fail _=_;rw [e2]
theorem afH {o:Option AV} {v:AV} {k:AV ->Prop} (e:o=some v) (hk:k v):vi o ⟨.leaf,.e⟩ (λv _=>k v):=by subst e;exact hk
theorem aiT {P:Program} {t e:TypeId} {x hi:Operand} {r:Tr AV} {h:Heap} {id:Pos} {n sz:Nat} {k:IntKind} (hu:P.underlying t=some (.slice e)) (hx:ev x r= .slice id 0 n n sz) (hz:fL P e=some sz) (hh:ev hi r= .int k (.ofNat 0)) (h0:n≠0):fk t x none (some hi) none P r h=some (.slice id 0 0 n sz):=by
 have e1:ko t x none (some hi) none P r=some (.slice id 0 0 n sz):=by
  unfold ko;simp only [hu,hx,hz,Nat.beq_refl,Option.map_some,Option.map_none,hh];have:Nat.beq 0 n=false:=by cases n with|zero=>exact absurd rfl h0|succ n=>rfl
  have e2:aF (Nat.beq 0 n) (bQ 0 n)=false:=by rw [this];rfl
  show Bool.casesOn (motive:=λ_=>Option AV) (Nat.ble 0 n) none (Bool.casesOn (motive:=λ_=>Option AV) (aF (Nat.beq 0 n) (bQ 0 n)) (some (.slice id (Nat.add 0 (Nat.mul 0 sz)) (0 - 0) (n - 0) sz)) (some (.sle id sz)))=_;rw [e2,Nat.ble_eq_true_of_le (Nat.zero_le n)];show some (AV.slice id (0+0*sz) 0 n sz)=_;rw [Nat.zero_mul]
 unfold fk;simp only [hu,hx];exact e1
end
section
variable [aY]
section
theorem aj.acW {h:Heap} {id:Pos} {n sz:Nat} {l l1 l':AV} {ro:Bool} (hg:h.t.get id=some (.gl l ro)) (ht:dQ (Nat.mul n sz) l=some l1) (hl:bE h l1 l'):aj h (.gs id n sz) (.ro n l'):=by
 intro μ B0 w cv hr hv;obtain⟨B,hB,hx⟩:=hv;have AF:=hr.obj id B _ hB hg;rcases AF with ⟨h1,rfl⟩|⟨xs,h1,h2,c,el,fz,h3,h4,h5,h6,h7⟩
 .obtain⟨g1,g2⟩:=cG.take (μ:=μ) (Nat.mul n sz) (vs:=[]) (show cG μ .nil []from rfl) ht;have h2:=hl μ B0 w [] hr (by simpa using g1);refine⟨[],h2,?_⟩;rcases hx with ⟨c,hx,uW,_⟩|⟨e0,hx⟩
  .exact .inl ⟨_,_,c,hx,uW,.inl rfl⟩
  .exact .inr ⟨e0,rfl,none,hx⟩
 .obtain⟨g1,g2⟩:=cG.take (Nat.mul n sz) h1 ht;have hp:=hl μ B0 w _ hr g1;refine⟨_,hp,?_⟩;rcases hx with ⟨c',hx,uW,_⟩|⟨e0,hx⟩
  .refine .inl ⟨_,_,c',hx,uW,?_⟩;by_cases dC:(AO.gl l ro).cT B
   .obtain⟨e1,_,e2⟩:=dC;refine .inl ?_;cases xs with
    |nil=>simp|cons _ _=>simp at h2;omega
   .refine .inr ⟨c,?_,λj v hj=>h7 j v ?_⟩
    .show ga μ.s B0 w B.b=some c;cases ro with
     |true=>exact(iy hr).le _ _ (h6 rfl)|false=>exact nu hr ((hr.own id B _ hB hg rfl).resolve_left dC) h3
    .rw [List.getElem?_take]at hj;split at hj
     .exact hj
     .cases hj
  .refine .inr ⟨e0,?_,none,hx⟩;subst e0;show xs.take (0*sz)=[]
   rw [Nat.zero_mul,List.take_zero]
def zp (d:Nat):Heap ->AV ->Option AV:=
 Nat.rec (motive:=λ_=>Heap ->AV ->Option AV) (λ_ _=>none)
  (λ_ ih h v=>match v with
   | .gs id n sz=>(match h.t.get id with|some (.gl l _)=>oB (dQ (Nat.mul n sz) l) λl1=>oB (ih h l1) λl'=>some (.ro n l')|_=>none)
   | .agg l=>oB (ih h l) λl'=>some (.agg l')
   | .aO l=>oB (ih h l) λl'=>some (.aO l')
   | .cons a t=>oB (ih h a) λa'=>oB (ih h t) λt'=>some (.cons a' t')
   | .nil=>some .nil| .bA=>some (.ro 0 .nil)| .int k n=>some (.int k n)| .bool b=>some (.bool b)| .str s=>some (.str s)| .ro n l=>some (.ro n l)| .lK=>some .lK| .eZ=>some .eZ|_=>none) d
theorem ie:∀(d:Nat) {h:Heap} {v v':AV},zp d h v=some v' ->aj h v v'/\bE h v v'
 |0,h,v,v',e=>by cases e
 |d+1,h,v,v',e=>by
  have WS:∀{a:AV},(∀μ xs,¬cG μ a xs) ->bE h a v':=λhn μ B0 w xs _ hv=>(hn μ xs hv).elim;cases v with
  |gs id n sz=>
   change (match h.t.get id with|some (.gl l _)=>oB (dQ (Nat.mul n sz) l) λl1=>oB (zp d h l1) λl'=>some (.ro n l')|_=>none)=some v' at e;cases hg:h.t.get id with
   |none=>rw [hg]at e;cases e|some o=>
    rw [hg]at e;cases o with
    |gl l ro=>
     simp only at e;obtain⟨l1,h1,e⟩:=du e;obtain⟨l',h2,h3⟩:=du e;cases h3;exact⟨aj.acW hg h1 (ie d h2).2,WS λ_ _ hv=>hv⟩
    |_=>cases e
  |agg l=>
   obtain⟨l',h2,h3⟩:=du (show oB (zp d h l) (λl'=>some (.agg l'))=some v' from e);cases h3;exact⟨aj.agg (ie d h2).2,WS λ_ _ hv=>hv⟩
  |aO l=>
   obtain⟨l',h2,h3⟩:=du (show oB (zp d h l) (λl'=>some (.aO l'))=some v' from e);cases h3;exact⟨aj.aO (ie d h2).2,WS λ_ _ hv=>hv⟩
  |cons a t=>
   obtain⟨a',h1,e⟩:=du (show oB (zp d h a) (λa'=>oB (zp d h t) λt'=>some (.cons a' t'))=some v' from e);obtain⟨t',h2,h3⟩:=du e;cases h3;exact⟨λμ B0 w cv _ hv=>hv.elim,bE.cons (ie d h1).1 (ie d h2).2⟩
  |nil=>cases e;exact⟨λμ B0 w cv _ hv=>hv.elim,bE.nil⟩|bA=>cases e;exact⟨aj.bA,WS λ_ _ hv=>hv⟩|int k n=>cases e;exact⟨aj.pure .int,WS λ_ _ hv=>hv⟩|bool b=>cases e;exact⟨aj.pure .bool,WS λ_ _ hv=>hv⟩|str s=>cases e;exact⟨aj.pure .str,WS λ_ _ hv=>hv⟩|ro n l=>cases e;exact⟨aj.pure .ro,WS λ_ _ hv=>hv⟩|lK=>cases e;exact⟨aj.pure (λ_ _ _ _ h=>h),WS λ_ _ hv=>hv⟩|eZ=>cases e;exact⟨aj.pure .eZ,WS λ_ _ hv=>hv⟩|_=>cases e
def WT (x:AV):AV ->Bool:=
 AV.rec (motive:=λ_=>AV ->Bool) (λ_=>false) (λb y=>match y with| .bool c=>Bool.rec (motive:=λ_=>Bool) (aU c) c b|_=>false) (λk n y=>match y with| .int l m=>aF (qp k l) (bG n m)|_=>false) (λ_ _ _ _=>false)
  (λs y=>match y with| .str u=>kq s u|_=>false) (λ_ _=>false) (λ_ _ _=>false) (λ_ _ _ _=>false) (λy=>match y with| .eZ=>true|_=>false) (λ_ _ _ _ _ _=>false)
  (λn l r y=>match y with| .ro m u=>aF (Nat.beq n m) (r u)|_=>false) (λ_ _ _ _=>false) (λ_ _ _=>false) (λ_=>false) (λ_ _=>false) (λ_=>false) (λ_ _ _ _ _ _=>false) (λ_ _=>false) (λ_=>false)
  (λ_ _ _ _=>false) (λy=>match y with| .lK=>true|_=>false) (λl r y=>match y with| .agg u=>r u|_=>false) (λl r y=>match y with| .aO u=>r u|_=>false)
  (λy=>match y with| .nil=>true|_=>false) (λa t ra rt y=>match y with| .cons b u=>aF (ra b) (rt u)|_=>false) x
theorem SK {a b:List Nat} (h:kq a b=true):a=b:=by
 rw [eM]at h;exact of_decide_eq_true h
theorem JQ {x:AV}:∀{y:AV},WT x y=true ->x=y:=by
 induction x with
 |bool b=>
  intro y h;cases y with
  |bool c=>cases b<;>cases c<;>first|rfl|cases h
  |_=>cases h
 |int k n=>
  intro y h;cases y with
  |int l m=>
   obtain⟨h1,h2⟩:=aw.1 (show aF (qp k l) (bG n m)=true from h);rw [iu.1 h1,bw.1 h2]
  |_=>cases h
 |str s=>
  intro y h;cases y with
  |str u=>rw [SK (show kq s u=true from h)]|_=>cases h
 |eZ=>intro y h;cases y<;>first|rfl|cases h
 |lK=>intro y h;cases y<;>first|rfl|cases h
 |nil=>intro y h;cases y<;>first|rfl|cases h
 |ro n l ih=>
  intro y h;cases y with
  |ro m u=>
   obtain⟨h1,h2⟩:=aw.1 (show aF (Nat.beq n m) (WT l u)=true from h);rw [Nat.eq_of_beq_eq_true h1,ih h2]
  |_=>cases h
 |agg l ih=>
  intro y h;cases y with
  |agg u=>rw [ih (show WT l u=true from h)]|_=>cases h
 |aO l ih=>
  intro y h;cases y with
  |aO u=>rw [ih (show WT l u=true from h)]|_=>cases h
 |cons a t Lx pb=>
  intro y h;cases y with
  |cons b u=>
   obtain⟨h1,h2⟩:=aw.1 (show aF (WT a b) (WT t u)=true from h);rw [Lx h1,pb h2]
  |_=>cases h
 |_=>intro y h;cases h
def dpB (x:AV):Bool:=
 AV.rec (motive:=λ_=>Bool) true (λ_=>true) (λ_ _=>true) (λ_ _ _=>true) (λ_=>true) (λ_=>true) (λ_ _=>false) (λ_ _ _=>false) true (λ_ _ _ _ _=>false) (λ_ _ r=>r) (λ_ _ _=>false) (λ_ _=>false) true (λ_=>false) true (λ_ _ _ _ _=>false)
  (λ_=>false) true (λ_ _ _=>false) true (λ_ r=>r) (λ_ r=>r) true (λ_ _ ra rt=>aF ra rt) x
theorem JR {x:AV} (h:dpB x=true):DP x/\dh x:=by
 have pl:∀{a:AV},(∀μ xs,¬cG μ a xs) ->dh a:=λhn μ μ' xs _ hv=>(hn μ xs hv).elim;induction x with
 |cons a t Lx pb=>
  obtain⟨h1,h2⟩:=aw.1 (show aF (dpB a) (dpB t)=true from h);exact⟨⟨(Lx h1).1,(pb h2).1⟩,.cons (aV (Lx h1).1) (pb h2).2⟩
 |agg l ih=>exact⟨(ih h).1,pl λ_ _ hv=>hv⟩|aO l ih=>exact⟨(ih h).1,pl λ_ _ hv=>hv⟩|ro n l ih=>exact⟨(ih h).2,pl λ_ _ hv=>hv⟩|nil=>exact⟨aA,.nil⟩|_=>first|exact⟨aA,pl λ_ _ hv=>hv⟩|cases h
variable {P:Program}
theorem PF.of_run (hm:P.follows .mixedOrders=true) (eG:eN P) {ov:dY ->AV ->Heap ->Option CR} (HX:∀B0,xB P B0 ov) {n fuel:Nat} {f:FuncId} {l v v':AV} {h':Heap} (hlen:aY.l.length<=64) (hpure:dh l)
  (bH:Ga P ov fuel n (.fn f) l (lX aY.l 64)= .ret v h') (Sl:aj h' v v'):PF P f l v':=by
 intro s w hs ht cargs eO;have hr:=FY hlen hs ht;refine((qT (B0:=w.heap.size) hm eG (HX _) fuel n (.fn f) l _ v h' bH (QH w s) w hr).2 cargs (hpure (tP s) (QH w s) _ (λ_ _ e=>e) eO)).mono λe w' ⟨cv,μ',he,hv,hp⟩=>?_;exact⟨cv,ga μ'.s w.heap.size w',he,hp.dF.trans (iy hp.rel),zd hp.rel,Sl μ' w.heap.size w' cv hp.rel hv,hp.below⟩
def sV (P:Program) (ov:dY ->AV ->Heap ->Option CR) (f:FuncId) (e:AV×AV):Bool:=
 match Ga P ov 1000 30 (.fn f) e.1 (lX aY.l 64)with
 | .ret v h=>(match zp 10000 h v with|some u=>WT u e.2|none=>false)
 | .fail=>false
def cP (P:Program) (ov:dY ->AV ->Heap ->Option CR) (f:FuncId) (l:List (AV×AV)):Bool:=List.rec true (λe _ r=>aF (aF (dpB e.1) (dpB e.2)) (aF (sV P ov f e) r)) l
theorem cm (hm:P.follows .mixedOrders=true) (eG:eN P) {ov:dY ->AV ->Heap ->Option CR} (HX:∀B0,xB P B0 ov) (hlen:aY.l.length<=64) {f:FuncId}:∀{l:List (AV×AV)},cP P ov f l=true ->∀e∈l,PF P f e.1 e.2/\DP e.1/\DP e.2
 |[],_,e,he=>by cases he
 |x::l,h,e,he=>by
  obtain⟨h1,h2⟩:=aw.1 (show aF (aF (dpB x.1) (dpB x.2)) (aF (sV P ov f x) (cP P ov f l))=true from h);obtain⟨h3,h4⟩:=aw.1 h1;obtain⟨h5,h6⟩:=aw.1 h2;rcases List.mem_cons.1 he with rfl|he
  .refine⟨?_,(JR h3).1,(JR h4).1⟩;unfold sV at h5;split at h5
   .rename_i v hh bH;split at h5
    .rename_i u hs;rw [<-JQ h5];exact PF.of_run hm eG HX hlen (JR h3).2 bH (ie _ hs).1
    .cases h5
   .cases h5
  .exact cm hm eG HX hlen h6 e he
def zq (l:List (AV×AV)) (x:AV):Nat ->Option Nat:=List.rec (motive:=λ_=>Nat ->Option Nat) (λ_=>none) (λe _ ih i=>Bool.rec (motive:=λ_=>Option Nat) (ih (Nat.succ i)) (some i) (WT e.1 x)) l
theorem Gt:∀{l:List (AV×AV)} {x:AV} {i j:Nat},zq l x i=some j ->∃k e,j=i+k/\l[k]?=some e/\e.1=x
 |[],x,i,j,h=>by cases h
 |e::l,x,i,j,h=>by
  change Bool.rec (motive:=λ_=>Option Nat) (zq l x (Nat.succ i)) (some i) (WT e.1 x)=some j at h;cases ha:WT e.1 x with
  |true=>rw [ha]at h;cases h;exact⟨0,e,rfl,rfl,JQ ha⟩|false=>
   rw [ha]at h;obtain⟨k,e',h1,h2,h3⟩:=Gt (h:zq l x (Nat.succ i)=some j);exact⟨k+1,e',by omega,by simpa using h2,h3⟩
def QL (l:List (AV×AV)) (i:Nat):AV×AV:=(l[i]?).getD (.nil,.nil)
def Cn.sw (f:FuncId) (l:List (AV×AV)) (h:∀e∈l,PF P f e.1 e.2/\DP e.1/\DP e.2) (hb:∃fn,P.funcs[f]?=some fn/\fn.body.isSome=true):Cn P:=
 have hat:∀i,DP (QL l i).1/\DP (QL l i).2:=λi=>by
  unfold QL;cases hg:l[i]? with
  |none=>exact⟨aA,aA⟩|some e=>exact(h e (List.mem_of_getElem? hg)).2
 Cn.mk f false Nat (λi=>(QL l i).1) (λi=>(QL l i).2) (λi=>i<l.length/\zq l (QL l i).1 0=some i)
  (λa b ha hb e=>by
   have h2:=hb.2;rw [<-e,ha.2]at h2;rw [Option.some.inj h2])
  (λi=>(hat i).1) (λi=>aV (hat i).2) (λh=>by cases h)
  (λi hi=>by
   have:l[i]?=some (QL l i):=(by unfold QL;rw [List.getElem?_eq_getElem hi.1];rfl);exact(h _ (List.mem_of_getElem? this)).1) hb
def Dc.sw (f:FuncId) (l:List (AV×AV)) (h:∀e∈l,PF P f e.1 e.2/\DP e.1/\DP e.2) (hb:∃fn,P.funcs[f]?=some fn/\fn.body.isSome=true):Dc P:=
 Dc.mk (Cn.sw f l h hb) (λx=>oB (zq l x 0) λi=>bB (Nat.ble (Nat.succ i) l.length) (some i)) (λi=>match zq l (QL l i).1 0 with|some j=>aF (Nat.beq i j) (Nat.ble (Nat.succ i) l.length)|none=>false)
  (λx i hx=>by
   obtain⟨j,h1,h2⟩:=du hx;obtain⟨h3,h4⟩:=nA h2;cases h4;obtain⟨k,e,e1,e2,e3⟩:=Gt h1;rw [Nat.zero_add]at e1;subst e1;show(QL l _).1=x;unfold QL;rw [e2];exact e3)
  (λi hi=>by
   have hi:(match zq l (QL l i).1 0 with|some j=>aF (Nat.beq i j) (Nat.ble (Nat.succ i) l.length)|none=>false)=true:=hi;split at hi
   .rename_i j hj;obtain⟨h1,h2⟩:=aw.1 hi;have:=Nat.eq_of_beq_eq_true h1;subst this;exact⟨Nat.le_of_ble_eq_true h2,hj⟩
   .cases hi)
end
end
end
end Go.Sy
