/- A piece of the proof, made small by a program of ours. -/
import Derived.Test.YtihglcfnelokaaaGreatDoorP08
import Derived.Test.YtihglcfnelokaaaGreatDoorSyShelf
import Derived.Shelf.Spec.SlicesInsertGrow
set_option linter.all false
set_option maxRecDepth 1000000
set_option maxHeartbeats 0
namespace Go.Sy
noncomputable section
open Go.RowKit Go.Proofs Go.Proofs.Tryz
section
attribute [local irreducible] Cw aj bE PF Sub
attribute [local instance] fe
def Tq:List (Cn prog):=[Ka,pM]
def Q.sub (p q:Q):Q:=Q.add p (Q.neg q)
def kg (p q:Q):Prop:=nD p (Q.neg q)
theorem Ts (p q:Q) (h:kg p q):dA 179 (.cons (aK.v p) (.cons (aK.v q) .nil)) (aK.v (Q.sub p q)):=by
 obtain⟨n,d⟩:=p;obtain⟨m,e⟩:=q;refine PF.of_wp (c:=_) af (by decide) (fn:=f179) rfl rfl rfl (.cons (aK.ak _) (.cons (aK.ak _) .nil)) (call:=aE Tq) (λB0=>ay ae _ B0) ?_;intro B0;conv=>whnf
 refine df Tq 0 Ka (m,e) aA (ew ?_);refine df Tq 1 pM ((n,d),Q.neg (m,e)) h (aB ?_);exact aj.same rfl (aK.ak (Q.add (n,d) (Q.neg (m,e))))
def tX:Cn prog:= .kz aK aK aK 179 false kg Q.sub (λe=>by cases e) Ts (au rfl rfl)
def wm:Cn prog:=Kc 98 Q.add nD To (au rfl rfl)
def me:Cn prog:=Kc 179 Q.sub kg Ts (au rfl rfl)
def Cg:Cn prog:=Kc 85 Q.mul oN Tp (au rfl rfl)
theorem Tt {h:Heap} {a b:Q3} {g:FuncId}:ia h (.cons (aN.v a) (.cons (aN.v b) (.cons (.func (.func g) .nil .nil) .nil))):=by
 obtain⟨⟨x0,y0⟩,⟨x1,y1⟩,⟨x2,y2⟩⟩:=a;obtain⟨⟨u0,v0⟩,⟨u1,v1⟩,⟨u2,v2⟩⟩:=b;exact⟨⟨aA,aA,aA,aA,aA,aA,aA,aA,aA,aA,aA,aA,aA⟩,⟨aA,aA,aA,aA,aA,aA,aA,aA,aA,aA,aA,aA,aA⟩,⟨aA,aA⟩,aA⟩
theorem adb (a b:Q3) (h:ri nD a b):dA 157 (.cons (aN.v a) (.cons (aN.v b) .nil)) (aN.v (jS Q.add a b)):=by
 obtain⟨⟨x0,y0⟩,⟨x1,y1⟩,⟨x2,y2⟩⟩:=a;obtain⟨⟨u0,v0⟩,⟨u1,v1⟩,⟨u2,v2⟩⟩:=b;refine PF.of_wp (c:=_) af (by decide) (fn:=f157) rfl rfl rfl (.cons (aN.ak _) (.cons (aN.ak _) .nil)) (call:=aE [wm]) (λB0=>ay ae _ B0) ?_;intro B0;conv=>whnf
 refine bI (l:=[wm]) (List.nodup_cons.2 ⟨List.not_mem_nil,List.nodup_nil⟩) 0 (c:=wm) rfl (((x0,y0),(x1,y1),(x2,y2)),((u0,v0),(u1,v1),(u2,v2))) h Tt rfl (aB ?_);exact aj.same rfl (aN.ak (jS Q.add ((x0,y0),(x1,y1),(x2,y2)) ((u0,v0),(u1,v1),(u2,v2))))
theorem ade (a b:Q3) (h:ri kg a b):dA 221 (.cons (aN.v a) (.cons (aN.v b) .nil)) (aN.v (jS Q.sub a b)):=by
 obtain⟨⟨x0,y0⟩,⟨x1,y1⟩,⟨x2,y2⟩⟩:=a;obtain⟨⟨u0,v0⟩,⟨u1,v1⟩,⟨u2,v2⟩⟩:=b;refine PF.of_wp (c:=_) af (by decide) (fn:=f221) rfl rfl rfl (.cons (aN.ak _) (.cons (aN.ak _) .nil)) (call:=aE [me]) (λB0=>ay ae _ B0) ?_;intro B0;conv=>whnf
 refine bI (l:=[me]) (List.nodup_cons.2 ⟨List.not_mem_nil,List.nodup_nil⟩) 0 (c:=me) rfl (((x0,y0),(x1,y1),(x2,y2)),((u0,v0),(u1,v1),(u2,v2))) h Tt rfl (aB ?_);exact aj.same rfl (aN.ak (jS Q.sub ((x0,y0),(x1,y1),(x2,y2)) ((u0,v0),(u1,v1),(u2,v2))))
def z3:Q3:=((0,0),(0,0),(0,0))
theorem adf (a:Q3) (h:ri kg z3 a):dA 173 (.cons (aN.v a) .nil) (aN.v (jS Q.sub z3 a)):=by
 obtain⟨⟨x0,y0⟩,⟨x1,y1⟩,⟨x2,y2⟩⟩:=a;refine PF.of_wp (c:=_) af (by decide) (fn:=f173) rfl rfl rfl (.cons (aN.ak _) .nil) (call:=aE [me]) (λB0=>ay ae _ B0) ?_;intro B0;conv=>whnf
 refine bI (l:=[me]) (List.nodup_cons.2 ⟨List.not_mem_nil,List.nodup_nil⟩) 0 (c:=me) rfl (z3,((x0,y0),(x1,y1),(x2,y2))) h ?_ ?_ ?_
 .repeat' first|exact aA|exact rfl|refine⟨?_,?_⟩
 .rfl
 conv=>whnf
 exact aj.same rfl (aN.ak (jS Q.sub z3 ((x0,y0),(x1,y1),(x2,y2))))
def Kg:Cn prog:= .kz aN aN aN 157 false (ri nD) (jS Q.add) (λe=>by cases e) adb (au rfl rfl)
def Kh:Cn prog:= .kz aN aN aN 221 false (ri kg) (jS Q.sub) (λe=>by cases e) ade (au rfl rfl)
def tY:Cn prog:= .lE aN aN 173 false (λa=>ri kg z3 a) (λa=>jS Q.sub z3 a) (λe=>by cases e) adf (au rfl rfl)
def eX:Cn prog:= .kz aN aN (aq .i64) 75 true (ri de) dH (cM _) Kf (au rfl rfl)
def oe:List (Cn prog):=[od,tX]
def crQ (p q r s:Q):Q:=Q.sub (Q.mul p q) (Q.mul r s)
def Tu (p q r s:Q):Prop:=oN p q/\oN r s/\kg (Q.mul p q) (Q.mul r s)
def aI (a b:Q3):Q3:=(crQ a.2.1 b.2.2 a.2.2 b.2.1,crQ a.2.2 b.1 a.1 b.2.2,crQ a.1 b.2.1 a.2.1 b.1)
def pN (a b:Q3):Prop:=Tu a.2.1 b.2.2 a.2.2 b.2.1/\Tu a.2.2 b.1 a.1 b.2.2/\Tu a.1 b.2.1 a.2.1 b.1
set_option maxHeartbeats 0 in
theorem Tv (a b:Q3) (h:pN a b):dA 176 (.cons (aN.v a) (.cons (aN.v b) .nil)) (aN.v (aI a b)):=by
 obtain⟨⟨x0,y0⟩,⟨x1,y1⟩,⟨x2,y2⟩⟩:=a;obtain⟨⟨u0,v0⟩,⟨u1,v1⟩,⟨u2,v2⟩⟩:=b;obtain⟨h0,h1,h2⟩:=h;refine PF.of_wp (c:=_) af (by decide) (fn:=f176) rfl rfl rfl (.cons (aN.ak _) (.cons (aN.ak _) .nil)) (call:=aE oe) (λB0=>ay ae _ B0) ?_;intro B0;conv=>whnf
 refine Cw.bL af rfl rfl (ay ae _ B0) 4 (aB ?_);refine⟨by decide,aB ?_⟩;refine⟨by decide,aB ?_⟩;refine df oe 0 od ((x1,y1),(u2,v2)) h0.1 (ew ?_);refine df oe 0 od ((x2,y2),(u1,v1)) h0.2.1 (ew ?_);refine df oe 1 tX (Q.mul (x1,y1) (u2,v2),Q.mul (x2,y2) (u1,v1)) h0.2.2 (ew ?_);refine⟨by decide,aB ?_⟩;refine⟨by decide,aB ?_⟩;refine df oe 0 od ((x2,y2),(u0,v0)) h1.1 (ew ?_);refine df oe 0 od ((x0,y0),(u2,v2)) h1.2.1 (ew ?_);refine df oe 1 tX (Q.mul (x2,y2) (u0,v0),Q.mul (x0,y0) (u2,v2)) h1.2.2 (ew ?_);refine⟨by decide,aB ?_⟩;refine⟨by decide,aB ?_⟩;refine df oe 0 od ((x0,y0),(u1,v1)) h2.1 (ew ?_);refine df oe 0 od ((x1,y1),(u0,v0)) h2.2.1 (ew ?_);refine df oe 1 tX (Q.mul (x0,y0) (u1,v1),Q.mul (x1,y1) (u0,v0)) h2.2.2 (ew ?_);exact aj.same rfl (aN.ak (aI ((x0,y0),(x1,y1),(x2,y2)) ((u0,v0),(u1,v1),(u2,v2))))
def rj:Cn prog:= .kz aN aN aN 176 false pN aI (λe=>by cases e) Tv (au rfl rfl)
end
section
attribute [local instance] fe
section
def adg:List Int ->List Int ->Bool:=List.rec (λm=>match m with|[]=>true|_=>false) (λx _ ih m=>match m with|y::t=>aF (bG x y) (ih t)|[]=>false)
theorem Mq:∀{l m:List Int},adg l m=true ->l=m
 |[],[],_=>rfl|[],_::_,h=>by cases h
 |_::_,[],h=>by cases h
 |x::l,y::m,h=>by
  obtain⟨h1,h2⟩:=aw.1 (h:aF (bG x y) (adg l m)=true);rw [bw.1 h1,Mq h2]
def ai5:aM.Rd:=(JO .u32).list.by (λl=>bB (adg (dg (val l)) l) (some (val l))) (λa b h=>by
 obtain⟨h1,h2⟩:=nA h;cases h2;exact Mq h1)
def qj:aX.Rd:=(afC.pair ai5).by (λp=>bB (Bool.rec (motive:=λ_=>Bool) true (aU (Nat.beq p.2 0)) p.1) (some (eU p.1 p.2))) (λa b h=>by
 obtain⟨s,m⟩:=a;obtain⟨h1,h2⟩:=nA h;cases h2;cases s with
 |false=>show(decide (((m:Nat):Int)<0),(((m:Nat):Int)).natAbs)=_;rw [decide_eq_false (by omega)];rfl|true=>
  have h1:aU (Nat.beq m 0)=true:=h1;have:m≠0:=λe=>by rw [e]at h1;cases h1
  show(decide (-((m:Nat):Int)<0),(-((m:Nat):Int)).natAbs)=_;rw [decide_eq_true (by omega),Int.natAbs_neg];rfl)
def tZ:aK.Rd:=qj.pair qj
def Mr (z:Int):Bool:=Nat.ble (Nat.succ (nd z.natAbs)) 134217728
def shB (z:Int):Bool:=Nat.ble (Nat.succ (nd z.natAbs)) 67108864
theorem kE {z:Int} (h:Mr z=true):SZ z:=Nat.le_of_ble_eq_true h
theorem wo {z:Int} (h:shB z=true):SH z:=Nat.le_of_ble_eq_true h
def PY (a b:Bool):Bool:=Bool.rec (motive:=λ_=>Bool) b true a
theorem Tw {a b:Bool}:PY a b=true↔a=true\/b=true:=by cases a<;>cases b<;>simp [PY]
def adh:Dc prog:=⟨eW,zn qj,λ_=>true,λ_ _ h=>lP h,λ_ _=>trivial⟩
def af4:Dc prog:=⟨sW,zn qj,λ_=>true,λ_ _ h=>lP h,λ_ _=>trivial⟩
def PZ:Dc prog:=⟨gy,mW qj qj,λa=>aF (Mr a.1) (Mr a.2),λ_ _ h=>dS h,λ_ h=>⟨kE (aw.1 h).1,kE (aw.1 h).2⟩⟩
def af5:Dc prog:=⟨sX,mW qj qj,λa=>aF (Mr a.1) (Mr a.2),λ_ _ h=>dS h,λ_ h=>⟨kE (aw.1 h).1,kE (aw.1 h).2⟩⟩
def af6:Dc prog:=⟨Mb,mW qj qj,λa=>aF (Mr a.1) (Mr a.2),λ_ _ h=>dS h,λ_ h=>⟨kE (aw.1 h).1,kE (aw.1 h).2⟩⟩
def af7:Dc prog:=⟨fP,mW qj qj,λa=>aF (shB a.1) (shB a.2),λ_ _ h=>dS h,λ_ h=>⟨wo (aw.1 h).1,wo (aw.1 h).2⟩⟩
def adi:Dc prog:=⟨iL,zn (JO .i64),λn=>aF (gg (-9223372036854775808) n) (dj n 9223372036854775808),λ_ _ h=>lP h,λ_ h=>⟨cA.1 (aw.1 h).1,aQ.1 (aw.1 h).2⟩⟩
def af8:Dc prog:=⟨mI,mW qj qj,λa=>aF (Mr a.1) (Mr a.2),λ_ _ h=>dS h,λ_ h=>⟨kE (aw.1 h).1,kE (aw.1 h).2⟩⟩
def Tx:Dc prog:=⟨iV,mW qj qj,λa=>aF (Mr a.1) (Mr a.2),λ_ _ h=>dS h,λ_ h=>⟨kE (aw.1 h).1,kE (aw.1 h).2⟩⟩
def Yw (n d:Int):Bool:=aF (aF (Mr n) (Mr d)) (aU (bG d 0))
theorem Ec {n d:Int} (h:Yw n d=true):qb n d:=by
 obtain⟨h1,h2⟩:=aw.1 h;obtain⟨h3,h4⟩:=aw.1 h1;exact⟨kE h3,kE h4,xR.1 h2⟩
def Qa:Dc prog:=⟨fE,mW qj qj,λa=>Yw a.1 a.2,λ_ _ h=>dS h,λ_ h=>Ec h⟩
def sh4 (p q:Q):Bool:=aF (aF (shB p.1) (shB p.2)) (aF (shB q.1) (shB q.2))
def whB (q:Q):Bool:=PY (bG q.2 0) (bG q.2 1)
theorem adj {q:Q}:whB q=Q.whole q:=by
 unfold whB Q.whole;rw [fX,fX];by_cases h1:q.2=0
 .rw [decide_eq_true h1,decide_eq_true (Or.inl h1)];rfl
 .by_cases h2:q.2=1
  .rw [decide_eq_false h1,decide_eq_true h2,decide_eq_true (Or.inr h2)];rfl
  .rw [decide_eq_false h1,decide_eq_false h2,decide_eq_false (λh=>h.elim h1 h2)];rfl
theorem Ki {p q:Q} {R:Q ->Q ->Prop} (h:sh4 p q=true) (hr:R p q):OK2 R p q:=by
 obtain⟨h1,h2⟩:=aw.1 h;exact⟨wo (aw.1 h1).1,wo (aw.1 h1).2,wo (aw.1 h2).1,wo (aw.1 h2).2,hr⟩
theorem Ty {p q:Q} (h:sh4 p q=true):de p q:=Ki (R:=λ_ _=>True) h trivial
def Kj:Dc prog:=⟨cn,mW tZ tZ,λa=>sh4 a.1 a.2,λ_ _ h=>dS h,λ_ h=>Ty h⟩
def adk:Dc prog:=⟨Ka,zn tZ,λ_=>true,λ_ _ h=>lP h,λ_ _=>trivial⟩
theorem abj {p q:Q} {b:Bool} {X:Prop} (h:PY (aF (whB p) (whB q)) b=true) (hb:b=true ->X):(Q.whole p &&Q.whole q)=false ->X:=by
 intro hw;rcases Tw.1 h with h|h
 .obtain⟨h1,h2⟩:=aw.1 h;rw [adj]at h1 h2;rw [h1,h2]at hw;cases hw
 .exact hb h
def Kk (p q:Q):Bool:=aF (sh4 p q) (PY (aF (whB p) (whB q)) (Yw (p.1*Q.dn q+q.1*Q.dn p) (Q.dn p*Q.dn q)))
theorem se {p q:Q} (h:Kk p q=true):nD p q:=Ki (R:=λp q=>(Q.whole p &&Q.whole q)=false ->qb (p.1*Q.dn q+q.1*Q.dn p) (Q.dn p*Q.dn q)) (aw.1 h).1 (abj (aw.1 h).2 Ec)
def rk (p q:Q):Bool:=aF (sh4 p q) (PY (aF (whB p) (whB q)) (Yw (p.1*q.1) (Q.dn p*Q.dn q)))
theorem pO {p q:Q} (h:rk p q=true):oN p q:=Ki (R:=λp q=>(Q.whole p &&Q.whole q)=false ->qb (p.1*q.1) (Q.dn p*Q.dn q)) (aw.1 h).1 (abj (aw.1 h).2 Ec)
def adl:Dc prog:=⟨pM,mW tZ tZ,λa=>Kk a.1 a.2,λ_ _ h=>dS h,λ_ h=>se h⟩
def adm:Dc prog:=⟨od,mW tZ tZ,λa=>rk a.1 a.2,λ_ _ h=>dS h,λ_ h=>pO h⟩
def Yx:Dc prog:=⟨iC,zn tZ,λ_=>true,λ_ _ h=>lP h,λ_ _=>trivial⟩
def Yy:Dc prog:=⟨jQ,zn (JO .i64),λn=>aF (gg (-9223372036854775808) n) (dj n 9223372036854775808),λ_ _ h=>lP h,λ_ h=>⟨cA.1 (aw.1 h).1,aQ.1 (aw.1 h).2⟩⟩
def Yz:Dc prog:=⟨jf,zn tZ,λa=>Mr a.2,λ_ _ h=>lP h,λ_ h=>kE h⟩
def af9:Dc prog:=⟨dU,zn tZ,λ_=>true,λ_ _ h=>lP h,λ_ _=>trivial⟩
def aga:List (Dc prog):=[adh,af4,PZ,af5,af6,af7,adi,af8,Tx,Qa,Kj,adk,adl,adm,Yx,Yy,Yz,af9]
end
section
def rV3:bR.Rd:=(JO .i64).pair ((JO .i64).pair (JO .i64))
def agb:Dc prog:=⟨nC,mW rV3 rV3,λ_=>true,λ_ _ h=>dS h,λ_ _=>trivial⟩
def agc:Dc prog:=⟨vy,mW rV3 rV3,λ_=>true,λ_ _ h=>dS h,λ_ _=>trivial⟩
def YA:Dc prog:=⟨pK,mW rV3 rV3,λ_=>true,λ_ _ h=>dS h,λ_ _=>trivial⟩
def Tz (a:AV):Option Nat:=match a with| .int .i64 (.ofNat n)=>some n|_=>none
theorem Ed {a:AV} {n:Nat} (h:Tz a=some n):(aq .i64).v (n:Int)=a:=by
 unfold Tz at h;split at h
 .cases h;rfl
 .cases h
def Ee (l:AV):Option (List V3×Nat×Nat×Nat):=match l with
 | .cons a (.cons b (.cons c (.cons d .nil)))=>oB (rV3.list.v a) λx=>oB (Tz b) λi=>oB (Tz c) λj=>oB (Tz d) λk=>some (x,i,j,k)
 |_=>none
theorem Kl {l:AV} {a:List V3×Nat×Nat×Nat} (h:Ee l=some a):AV.cons (bR.list.v a.1) (.cons ((aq .i64).v a.2.1) (.cons ((aq .i64).v a.2.2.1) (.cons ((aq .i64).v a.2.2.2) .nil)))=l:=by
 unfold Ee at h;split at h
 .obtain⟨x,h1,h⟩:=du h;obtain⟨i,h2,h⟩:=du h;obtain⟨j,h3,h⟩:=du h;obtain⟨k,h4,h⟩:=du h;cases h;rw [rV3.list.XQ h1,Ed h2,Ed h3,Ed h4]
 .cases h
def ltN (a b:Nat):Bool:=Nat.ble (Nat.succ a) b
def adn:Dc prog:=⟨JZ,Ee,λa=>aF (Nat.ble a.1.length 4294967296) (aF (ltN a.2.1 a.1.length) (aF (ltN a.2.2.1 a.1.length) (ltN a.2.2.2 a.1.length))),λ_ _ h=>Kl h,λ_ h=>by
 obtain⟨h1,h⟩:=aw.1 h;obtain⟨h2,h⟩:=aw.1 h;obtain⟨h3,h4⟩:=aw.1 h;exact⟨Nat.le_of_ble_eq_true h1,Nat.le_of_ble_eq_true h2,Nat.le_of_ble_eq_true h3,Nat.le_of_ble_eq_true h4⟩⟩
def ado:List (Dc prog):=[agb,agc,YA,adn]
end
end
end
end Go.Sy
namespace Go.Sy
noncomputable section
open Go.RowKit Go.Proofs Go.Proofs.Tryz
section
variable [aY]
variable {P:Program} {B0:Nat}
theorem HR.agd {μ:Mu} {h:Heap} {w:World} (hr:HR μ B0 h w) (t:Tr AO) (n':Pos) (hn:h.n.toNat<=n'.toNat)
  (key:∀q p,t.get q=some p ->∃o,h.t.get q=some o/\(∀B,AE μ w.heap B o ->AE μ w.heap B p)/\o.uK=p.uK/\∀B,o.cT B ->p.cT B):HR μ B0 ⟨t,n'⟩ w:=by
 refine⟨λid B e=>Nat.lt_of_lt_of_le (hr.fresh id B e) hn,λid o e=>?_,λid B p e1 e2=>?_,λi j A B o p pj e1 e2 e3 e4=>?_,λid B p e1 e2 e3=>?_,hr.dM,hr.size,hr.Aw,λid B p e1 e2 e3=>?_,hr.tab⟩
 .obtain⟨o',h1,_⟩:=key id o e;exact Nat.lt_of_lt_of_le (hr.live id o' h1) hn
 .obtain⟨o',h1,h2,_⟩:=key id p e2;exact h2 B (hr.obj id B o' e1 h1)
 .obtain⟨o',h1,_,_,h4⟩:=key i o e3;obtain⟨p',g1,_,_,g4⟩:=key j p e4;rcases hr.sep i j A B o' p' pj e1 e2 h1 g1 with h|h|h
  .exact .inl h
  .exact .inr (.inl (h4 A h))
  .exact .inr (.inr (g4 B h))
 .obtain⟨o',h1,_,h3,h4⟩:=key id p e2;exact(hr.own id B o' e1 h1 (h3.trans e3)).imp (h4 B) (λx=>x)
 .obtain⟨o',h1,_,h3,h4⟩:=key id p e2;exact(hr.apart id B o' e1 h1 (h3.trans e3)).imp (h4 B) (λx=>x)
section
end
end
section
variable [aY] {P:Program} {B0:Nat}
section
def GO (id:Pos) (h:Heap):Heap:=match h.t.get id with
 |some (.cells t n false)=>(match yn t n 0 with|some l=>⟨h.t.set (.gl l false) id,h.n⟩|none=>h)
 |_=>h
def Km:AV ->Heap ->Heap
 | .cons (.ptr id _) t,h=>Km t (GO id h)| .cons _ t,h=>Km t h|_,h=>h
def Qb:AV ->Heap ->Heap
 | .cons (.slice id _ _ _ _) t,h=>Qb t (GO id h)| .cons (.func _ _ c) t,h=>Qb t (Km c h)| .cons _ t,h=>Qb t h|_,h=>h
def zH (call:dY ->AV ->Heap ->CR):dY ->AV ->Heap ->CR:=λt vk h=>match t with| .fn f=>call (.fn f) vk (Qb vk h)| .rd id=>call (.rd id) vk h
end
theorem TA (id:Pos) (h:Heap):(GO id h).n=h.n:=by
 unfold GO;split
 .split<;>rfl
 .rfl
theorem adp:∀(a:AV) (h:Heap),(Km a h).n=h.n:=by
 intro a;induction a with
 |cons x t Iv pb=>
  intro h;cases x<;>first|exact pb h|(show(Km t (GO _ h)).n=h.n;rw [pb,TA])
 |_=>intro h;rfl
theorem age:∀(a:AV) (h:Heap),(Qb a h).n=h.n:=by
 intro a;induction a with
 |cons x t Iv pb=>
  intro h;cases x<;>first|exact pb h|(show(Qb t (GO _ h)).n=h.n;rw [pb,TA])|(show(Qb t (Km _ h)).n=h.n;rw [pb,adp])
 |_=>intro h;rfl
theorem Ms {μ:Mu} {h:Heap} {w:World} (hr:HR μ B0 h w) (id:Pos):HR μ B0 (GO id h) w:=by
 unfold GO;split
 .rename_i t n hg;split
  .rename_i l hc;refine HR.agd hr _ h.n (Nat.le_refl _) (λq p e=>?_);rw [Tr.bO]at e;by_cases hq:q=id
   .rw [if_pos hq]at e;cases e;subst hq;refine⟨_,hg,λB hB=>?_,rfl,λB hB=>absurd hB fg⟩;obtain⟨h0,c,el,fz,h1,h2,h3,h4⟩:=hB;obtain⟨xs,h5,h6,h7⟩:=lY (f:=λk=>c[B.base+k]?) (λk v e=>(h4 k v e).2) _ hc;refine .inr ⟨xs,h5,?_,c,el,fz,h1,h2,?_,(λe=>by cases e),λj v hj=>by simpa using h7 j v hj⟩
    .omega
    .exact h3.1 rfl
   .rw [if_neg hq]at e;exact⟨p,e,λB h=>h,rfl,λB h=>h⟩
  .exact hr
 .exact hr
theorem YC {μ:Mu} {w:World}:∀(a:AV) {h:Heap},HR μ B0 h w ->HR μ B0 (Km a h) w:=by
 intro a;induction a with
 |cons x t Iv pb=>
  intro h hr;cases x<;>first|exact pb hr|exact pb (Ms hr _)
 |_=>intro h hr;exact hr
theorem adq {μ:Mu} {w:World}:∀(a:AV) {h:Heap},HR μ B0 h w ->HR μ B0 (Qb a h) w:=by
 intro a;induction a with
 |cons x t Iv pb=>
  intro h hr;cases x<;>first|exact pb hr|exact pb (Ms hr _)|exact pb (YC _ hr)
 |_=>intro h hr;exact hr
theorem rl {call:dY ->AV ->Heap ->CR} (hc:aW P B0 call):aW P B0 (zH call):=by
 intro t a h v h' e μ w hr;cases t with
 |rd id=>exact hc (.rd id) a h v h' e μ w hr|fn f=>
  obtain⟨h1,h2⟩:=hc (.fn f) a (Qb a h) v h' e μ w (adq a hr);refine⟨h1,λcargs eO=>(h2 cargs eO).mono λe' w' ⟨cv,μ',g1,g2,g3⟩=>⟨cv,μ',g1,g2,?_⟩⟩;have hn:=age a h;exact⟨λid hid=>g3.ext id (by rw [hn];exact hid),by rw [<-hn];exact g3.le,g3.rel,g3.below,g3.dF⟩
theorem oO {l:List (Cn P)} (hl:(l.map Cn.f).Nodup) (i:Nat) {c:Cn P} (hc:l[i]?=some c) (a:c.α) (fY:c.ok a) {vk:AV} {h:Heap} (hbor:ia (Qb vk h) vk) (has:c.aZs a=ji c.flat (Qb vk h) vk) {K:AV ->Heap ->Prop}
  (hk:K (c.v a) (match c.flat with|true=>Qb vk h|false=>Fe (Qb vk h) (jj vk))):∃v h',zH (aE l) (.fn c.f) vk h= .ret v h'/\K v h':=
 bI hl i hc a fY hbor has hk
end
section
open Go.RowKit Go.Proofs Go.Shelf
attribute [local instance] fe
theorem rm {f:FuncId} {fn:Func} (h:prog.funcs[f]?=some fn) (hb:fn.body.isSome=true):∃fn,prog.funcs[f]?=some fn/\fn.body.isSome=true:=⟨fn,h,hb⟩
theorem zI {s:List Nat} {bs:ByteArray} (hb:bs.data.toList.map UInt8.toNat=s):s.map Nat.toUInt8=bs.data.toList:=by
 rw [<-hb,List.map_map];conv=>rhs;rw [<-List.map_id bs.data.toList]
 apply List.map_congr_left;intro x _;exact UInt8.ofNat_toNat
theorem zJ {μ:Mu} {s:List Nat} {a:Value} (h:dw μ (.str s) a):∃bs:ByteArray,a= .string bs/\bs.data.toList.map UInt8.toNat=s:=by
 obtain⟨bs,ha,hb⟩:=h;exact⟨bs,by simpa using ha,hb⟩
theorem zK {μ:Mu} {k:IntKind} {n:Int} {a:Value} (h:dw μ (.int k n) a):a= .int k n:=by
 have h:[a]=[Value.int k n]:=h;simpa using h
def Kn (s:List Nat) (c:Int):Int:=Lib.indexByte (s.map Nat.toUInt8) c.toNat.toUInt8
theorem GQ (s:List Nat) (c:Int):dA 324 (.cons (aR.v s) (.cons ((aq .u8).v c) .nil)) ((aq .i64).v (Kn s c)):=by
 intro sl w hs _ cargs hv;obtain⟨a,r,h1,h2,b,q,h3,h4,h5⟩:=hv;obtain⟨bs,rfl,hb⟩:=zJ h2;have h4:=zK h4;have h5:q=[]:=h5;subst h5 h4 h3;have hc:cargs=#[.string bs,.int .u8 c]:=by cases cargs;simp at h1;rw [h1]
 subst hc;refine(stringslite_IndexByte bs c w).mono λe w' ⟨he,hw⟩=>?_;subst hw;refine⟨_,sl,he,Grow.refl _ _,hs,?_,Below.refl _ _⟩;show [_]=[_]
 unfold Kn;rw [zI hb]
def GR:Cn prog:= .kz aR (aq .u8) (aq .i64) 324 true (λ_ _=>True) Kn (λ_ y x hx=>by rw [List.mem_singleton.1 hx];rfl) (λs c _=>GQ s c) (rm rfl rfl)
def GU:Dc prog:=⟨GR,mW aiQ (JO .u8),λ_=>true,λ_ _ h=>dS h,λ_ _=>trivial⟩
def Qc (s:List Nat):Option Nat:=match Lib.parseUintB 32 (s.map Nat.toUInt8)with| .ok u=>some u|_=>none
theorem TB (s:List Nat) (u:Nat) (hn:s.length<=9223372036854775806) (h:Qc s=some u):dA 244 (.cons (.str s) (.cons (.int .i64 10) (.cons (.int .i64 32) .nil))) (.aO (.cons (.int .u64 u) (.cons .lK .nil))):=by
 intro sl w hs _ cargs hv;obtain⟨a,r,h1,h2,b,q,h3,h4,c,p,h5,h6,h7⟩:=hv;obtain⟨bs,rfl,hb⟩:=zJ h2;have h4:=zK h4;have h6:=zK h6;have h7:p=[]:=h7;subst h7 h6 h5 h4 h3;have hc:cargs=#[.string bs,.int .i64 10,.int .i64 32]:=by cases cargs;simp at h1;rw [h1]
 subst hc;have hp:Lib.parseUintB 32 bs.data.toList= .ok u:=by
  unfold Qc at h;rw [zI hb]at h;split at h
  .rename_i v hv;cases h;exact hv
  .cases h
 have hsz:bs.size<=9223372036854775806:=by
  rw [<-hb]at hn;simpa using hn
 refine(strconv_ParseUint_10_at32_ok bs hsz u hp w).mono λe w' ⟨he,hw⟩=>?_;have rO:Below w.heap.size w w':=by
  rcases hw with rfl|rfl
  .exact Below.refl _ _
  .exact⟨Lib.bytesWorld_below _ _ _,λ_=>Nat.le_succ _⟩
 refine⟨_,sl,he,Grow.refl _ _,λb x e=>?_,⟨_,rfl,_,_,rfl,rfl,_,_,rfl,rfl,rfl⟩,rO⟩;obtain⟨el,fz,h1⟩:=hs b x e;exact⟨el,fz,(rO.block b (Array.getElem?_eq_some_iff.1 h1).1).trans h1⟩
def TC:Cn prog where
 f:=244
 flat:=false
 α:=List Nat×Nat
 aZs:=λs=> .cons (.str s.1) (.cons (.int .i64 10) (.cons (.int .i64 32) .nil))
 v:=λs=> .aO (.cons (.int .u64 s.2) (.cons .lK .nil))
 ok:=λs=>s.1.length<=9223372036854775806/\Qc s.1=some s.2
 inj:=λa b ha hb h=>by
  injection h with h _;injection h with h;have h2:=hb.2;rw [<-h,ha.2]at h2;rw [Option.some.inj h2]
 dp:=λa=>⟨aA,aA,aA,aA⟩
 pv:=λa=> .aO (.cons .int (.cons (λ_ _ _ _ h=>h) .nil))
 fl:=λh=>by cases h
 pf:=λa h=>TB a.1 a.2 h.1 h.2
 bd:=rm rfl rfl
def TD (l:AV):Option (List Nat×Nat):=match l with| .cons (.str s) (.cons (.int .i64 n) (.cons (.int .i64 m) .nil))=>bB (aF (bG n 10) (bG m 32)) (oB (Qc s) λu=>some (s,u))|_=>none
theorem TE {l:AV} {a:List Nat×Nat} (h:TD l=some a):AV.cons (.str a.1) (.cons (.int .i64 10) (.cons (.int .i64 32) .nil))=l/\Qc a.1=some a.2:=by
 unfold TD at h;split at h
 .obtain⟨h1,h⟩:=nA h;obtain⟨u,h2,h3⟩:=du h;cases h3;obtain⟨h4,h5⟩:=aw.1 h1;rw [bw.1 h4,bw.1 h5];exact⟨rfl,h2⟩
 .cases h
def TF:Dc prog:=⟨TC,TD,λa=>aF (Nat.ble a.1.length 9223372036854775806) (match Qc a.1 with|some u=>Nat.beq u a.2|none=>false),λ_ _ h=>(TE h).1,λa h=>by
 obtain⟨h1,h2⟩:=aw.1 h;refine⟨Nat.le_of_ble_eq_true h1,?_⟩;split at h2
 .rename_i u hu;rw [hu,Nat.eq_of_beq_eq_true h2]
 .cases h2⟩
end
section
open Go.Shelf Go.RowKit Go.Lib Go.Proofs
theorem pP {P:Program} (z:Nat) (w:World) (dT sT ty elem:TypeId) (b o adr ai6:Nat) (a:Addr) (gW pq:Nat) (cs:List Value)
  (hu:P.underlying dT=some (.slice elem)) (hs:(P.info? elem).map (·.size)=some z) (hn:cs.length=Nat.min gW adr*z)
  (ai7:∀j v,cs[j]?=some v ->w.cell? (a.add j)=some v) (hc:∀j,j<cs.length ->(w.cell? ⟨b,o+j,none⟩).isSome=true) (hf:∀j,j<cs.length ->w.frozen? ⟨b,o+j,none⟩=false) (h1:∀v∈cs,v.oneCell'=true):
  (Builtin.copy_ #[dT,sT] ty #[.slice (some ⟨b,o,none⟩) adr ai6,.slice (some a) gW pq]).run P w= .ok (goInt (Nat.min gW adr)) (w.setCells b o cs):=by
 have hl:=run_loadCells_list (P:=P) w a cs ai7;have mw:=run_storeCells_cells (P:=P) b o cs 0 w (by simpa using hc) (by simpa using hf) h1;cases hq:P.info? elem with
 |none=>simp [hq]at hs|some i=>
  have hi:i.size=z:=by simpa [hq]using hs
  simp [Builtin.copy_,run_underlying hu,Builtin.lenOf,Builtin.firstCells,sizeOf,typeInfo,hq,hi,<-hn,hl,mw]
set_option maxHeartbeats 4000000 in
set_option maxRecDepth 100000 in
theorem Qd (b off n c i vb:Nat) (ua vc:Nat) (cs vs:List Value) (w:World) (hi:i<n) (pZ:n+1<=c) (ai8:n<4611686018427387904) (hvb:vb≠b)
  (eG:cs.length=n*12) (QN:vs.length=12)
  (mU:∀j v,cs[j]?=some v ->w.cell? ⟨b,off+j,none⟩=some v) (cS:∀j,j<(n+1)*12 ->(w.cell? ⟨b,off+j,none⟩).isSome=true) (XW:∀j,j<(n+1)*12 ->w.frozen? ⟨b,off+j,none⟩=false)
  (xM:∀j v,vs[j]?=some v ->w.cell? ⟨vb,ua+j,none⟩=some v) (h1c:∀v∈cs,v.oneCell'=true) (h1v:∀v∈vs,v.oneCell'=true)
  (tA tB:TypeId) (kA kB:Nat) (hsa:w.shape? vb=some (tA,kA)) (Xm:w.shape? b=some (tB,kB)) (hkB:kB≠0) (hfa:w.frozen? ⟨vb,ua,none⟩=false) (hfe:w.frozen? ⟨vb,kA,none⟩=false):
  Calls prog 223 #[.slice (some ⟨b,off,none⟩) n c,.int .i64 i,.slice (some ⟨vb,ua,none⟩) 1 vc] w λe w'=>
   e= .returned (.slice (some ⟨b,off,none⟩) (n+1) c)/\w'=(w.drew.setCells b (off+(i+1)*12) (cs.drop (i*12))).setCells b (off+i*12) vs:=by
 have mixed:prog.follows .mixedOrders=true:=af;have t3:prog.underlying 3=some (.int .i64):=rfl;have a3:∀w,(isAgg 3).run prog w= .ok false w:=λw=>rfl;have z3:∀w,(Go.sizeOf 3).run prog w= .ok 1 w:=λw=>rfl;have v3:∀w,(zeroValue 3).run prog w= .ok (.int .i64 0) w:=λw=>rfl;have t4:prog.underlying 4=some .bool:=rfl;have a4:∀w,(isAgg 4).run prog w= .ok false w:=λw=>rfl;have z4:∀w,(Go.sizeOf 4).run prog w= .ok 1 w:=λw=>rfl;have v4:∀w,(zeroValue 4).run prog w= .ok (.bool false) w:=λw=>rfl;have z9:∀w,(Go.sizeOf 44).run prog w= .ok 12 w:=λw=>rfl;have t24:prog.underlying 156=some (.slice 44):=rfl;have a24:∀w,(isAgg 156).run prog w= .ok false w:=λw=>rfl;have z24:∀w,(Go.sizeOf 156).run prog w= .ok 1 w:=λw=>rfl;have v24:∀w,(zeroValue 156).run prog w= .ok (.slice none 0 0) w:=λw=>rfl;have u3:=run_underlying t3;have u4:=run_underlying t4;have u24:=run_underlying t24;have hsz:(prog.info? 44).map (·.size)=some 12:=rfl;have IB:¬((1:Int)=0):=by omega
 have Br:¬((i:Int)=(n:Int)):=by omega
 have HX:∀lb cb,(callFunc 271 #[.slice (some ⟨vb,ua,none⟩) 1 vc,.slice (some ⟨b,off+(i+1)*12,none⟩) lb cb]).run prog w= .ok (.value (.bool false)) w:=λlb cb=>by
  rw [run_callFunc_extern (fn:=f271) rfl (by kernel_rfl) (by kernel_rfl) (by kernel_rfl) (e:=Extern.SlicesOverlaps.overlaps #[156,156] #[4]) (by kernel_rfl),
   Lib.run_overlaps_apart w 156 4 44 t24 12 z9 ⟨vb,ua,none⟩ ⟨b,off+(i+1)*12,none⟩ 1 vc lb cb hvb tA tB kA kB hsa Xm hkB hfa hfe]
  rfl
 have hdl:(cs.drop (i*12)).length=(n - i)*12:=by rw [List.length_drop,eG];omega
 have hw1:IntKind.i64.wrap ((i:Int)+1)=(i:Int)+1:=by rw [IntKind.wrap_i64];omega
 have ot:(0:Int)<=(i:Int)+1:=by omega
 have dC:i<=n:=by omega
 have htn:((i:Int)+1).toNat=i+1:=by omega
 have rM:¬(c=i+1):=by omega
 have Xo:(i:Int)<=(n:Int)+1:=by omega
 have hb4:¬(c=i):=by omega
 have agf:∀ty dc sc,(Builtin.copy_ #[156,156] ty #[.slice (some ⟨b,off+(i+1)*12,none⟩) (n - i) dc,.slice (some ⟨b,off+i*12,none⟩) (n+1 - i) sc]).run prog w.drew= .ok (goInt (Nat.min (n+1 - i) (n - i))) (w.drew.setCells b (off+(i+1)*12) (cs.drop (i*12))):=λty dc sc=>
  pP 12 w.drew _ _ ty 44 b (off+(i+1)*12) (n - i) dc ⟨b,off+i*12,none⟩ (n+1 - i) sc (cs.drop (i*12)) t24 hsz (by rw [hdl];simp only [Nat.min_def];split<;>omega)
   (λj v hj=>by rw [Addr.add_lit,Nat.add_assoc];exact mU (i*12+j) v (by rwa [List.getElem?_drop]at hj))
   (λj hj=>by rw [Nat.add_assoc];exact cS _ (by omega)) (λj hj=>by rw [Nat.add_assoc];exact XW _ (by omega)) (λv hv=>h1c v (List.mem_of_mem_drop hv))
 obtain⟨W1,QP⟩:∃W1,W1=w.drew.setCells b (off+(i+1)*12) (cs.drop (i*12)):=⟨_,rfl⟩
 have ai9:∀k,k<(n+1)*12 ->(W1.cell? ⟨b,off+k,none⟩).isSome=true:=λk hk=>by
  rw [QP];exact isSome_setCells b _ _ _ (λj hj=>by rw [Nat.add_assoc];exact cS _ (by omega)) _ (cS k hk)
 have aja:∀(W:World),(∀x,W.cell? x=W1.cell? x) ->(∀x,W.frozen? x=W1.frozen? x) ->∀ty dc,(Builtin.copy_ #[156,156] ty #[.slice (some ⟨b,off+i*12,none⟩) (n+1 - i) dc,.slice (some ⟨vb,ua,none⟩) 1 vc]).run prog W= .ok (goInt (Nat.min 1 (n+1 - i))) (W.setCells b (off+i*12) vs):=λW hWc hWf ty dc=>
  pP 12 W _ _ ty 44 b (off+i*12) (n+1 - i) dc ⟨vb,ua,none⟩ 1 vc vs t24 hsz (by rw [QN];simp only [Nat.min_def];split<;>omega)
   (λj v hj=>by
    rw [Addr.add_lit,hWc,QP,World.cell?_setCells_out b _ _ _ _ (λh _=>absurd h hvb)];exact xM j v hj)
   (λj hj=>by rw [hWc,Nat.add_assoc];exact ai9 _ (by omega)) (λj hj=>by rw [hWf,QP,World.frozen?_setCells,Nat.add_assoc];exact XW _ (by omega)) h1v
 rw [<-QP]at agf
 go_enter (show prog.funcs[223]?=some f223 from rfl),(show f223.ntmps=95 from rfl)
 go_wp2_with (simp only [HX])
 go_region_law_o (refine step_copy_runI rfl _ _ 156 156 rfl _ _ (by simp [Act.eval,Act.put]) (by simp [Act.eval,Act.put]) (agf _ _ _) ?_)
 go_wp2_with (at_builtin;refine wpList_copy_runI _ rfl _ _ 156 156 rfl _ _ rfl rfl (aja _ (λ_=>rfl) (λ_=>rfl) _ _) ?_)
 go_ret
 first|exact⟨rfl,rfl⟩|exact⟨rfl,by rw [QP]⟩
end
section
open Go.Shelf Go.RowKit Go.Lib Go.Proofs
set_option maxHeartbeats 4000000 in
set_option maxRecDepth 100000 in
theorem TG (b off n c i vb ua vc:Nat) (cs vs:List Value) (w:World) (i0:TypeInfo) (zv:Value) (hi0:prog.info? 44=some i0) (Xr:i0.zero=some zv) (iJ:i0.size=12) (HW:zv.cells.size=12) (hi:i<n) (uW:n<=c) (pZ:c<n+1) (IV:(n+1)*i0.bytes<=140737488355328) (ai8:n<4611686018427387904)
  (eG:cs.length=n*12) (QN:vs.length=12)
  (mU:∀j v,cs[j]?=some v ->w.cell? ⟨b,off+j,none⟩=some v)
  (xM:∀j v,vs[j]?=some v ->w.cell? ⟨vb,ua+j,none⟩=some v) (h1c:∀v∈cs,v.oneCell'=true) (h1v:∀v∈vs,v.oneCell'=true):
  Calls prog 223 #[.slice (some ⟨b,off,none⟩) n c,.int .i64 i,.slice (some ⟨vb,ua,none⟩) 1 vc] w λe w'=>
   e= .returned (.slice (some ⟨w.heap.size,0,none⟩) (n+1) (grownCap w (n+1) c 44))/\
   w'=(((w.alloc (.cells ((cs.take (i*12)).toArray++Builtin.zeroCells zv.cells (n+1 - i)++Builtin.zeroCells zv.cells (grownCap w (n+1) c 44 - (n+1))) 44)).drew.setCells w.heap.size (i*12) vs).drew).setCells w.heap.size ((i+1)*12) (cs.drop (i*12)):=by
 have mixed:prog.follows .mixedOrders=true:=af;have t3:prog.underlying 3=some (.int .i64):=rfl;have a3:∀w,(isAgg 3).run prog w= .ok false w:=λw=>rfl;have z3:∀w,(Go.sizeOf 3).run prog w= .ok 1 w:=λw=>rfl;have v3:∀w,(zeroValue 3).run prog w= .ok (.int .i64 0) w:=λw=>rfl;have t4:prog.underlying 4=some .bool:=rfl;have a4:∀w,(isAgg 4).run prog w= .ok false w:=λw=>rfl;have z4:∀w,(Go.sizeOf 4).run prog w= .ok 1 w:=λw=>rfl;have v4:∀w,(zeroValue 4).run prog w= .ok (.bool false) w:=λw=>rfl;have z9:∀w,(Go.sizeOf 44).run prog w= .ok 12 w:=λw=>rfl;have t24:prog.underlying 156=some (.slice 44):=rfl;have a24:∀w,(isAgg 156).run prog w= .ok false w:=λw=>rfl;have z24:∀w,(Go.sizeOf 156).run prog w= .ok 1 w:=λw=>rfl;have v24:∀w,(zeroValue 156).run prog w= .ok (.slice none 0 0) w:=λw=>rfl;have u3:=run_underlying t3;have u4:=run_underlying t4;have u24:=run_underlying t24;have hsz:(prog.info? 44).map (·.size)=some 12:=rfl;have IB:¬((1:Int)=0):=by omega
 have Br:¬((i:Int)=(n:Int)):=by omega
 have hz3:(c:Int)<(n:Int)+1:=by omega
 have hbw:b<w.heap.size:=block_lt_of_cell (mU 0 _ (List.getElem?_eq_getElem (by omega)));have hvw:vb<w.heap.size:=block_lt_of_cell (xM 0 _ (List.getElem?_eq_getElem (by omega)));have QE:(n:Int)+1 - (i:Int)=((n+1 - i:Nat):Int):=by omega
 have hik:i+(n+1 - i)=n+1:=by omega
 have hold:(Builtin.firstCells i0.size i (.slice (some ⟨b,off,none⟩) i c)).run prog w.drew= .ok (cs.take (i*12)).toArray w.drew:=by
  rw [iJ];exact run_firstCells_some w.drew 12 i ⟨b,off,none⟩ i c (cs.take (i*12)) (by rw [List.length_take];omega) (λj v hj=>by
   rw [Addr.add_lit];rw [List.getElem?_take]at hj;split at hj
   .exact mU j v hj
   .cases hj)
 have hrz:∀ty,(Builtin.append_ #[156,3] ty #[.slice (some ⟨b,off,none⟩) i c,.int .i64 ((n:Int)+1 - (i:Int))]).run prog w=
   .ok (.slice (some ⟨w.heap.size,0,none⟩) (n+1) (grownCap w (n+1) c 44)) (w.drew.alloc (.cells ((cs.take (i*12)).toArray++Builtin.zeroCells zv.cells (n+1 - i)++Builtin.zeroCells zv.cells (grownCap w (n+1) c 44 - (n+1))) 44)):=λty=>by
  have h:=Lib.run_append_grow_zeros w 156 3 ty 44 i0 _ .i64 .i64 t24 t3 hi0 Xr (some ⟨b,off,none⟩) i c (cs.take (i*12)) hold (n+1 - i) (by omega) (by omega) (by omega) (by omega) (by
   have:(n+1 - i)*i0.bytes<=(n+1)*i0.bytes:=Nat.mul_le_mul_right _ (by omega);omega) (by rw [hik];exact growslice_fits pZ IV)
  rw [hik]at h;rw [QE];exact h
 obtain⟨G,hG⟩:∃G,G=grownCap w (n+1) c 44:=⟨_,rfl⟩
 obtain⟨Mt,ads⟩:∃Mt:Array Value,Mt=(cs.take (i*12)).toArray++Builtin.zeroCells zv.cells (n+1 - i)++Builtin.zeroCells zv.cells (G - (n+1)):=⟨_,rfl⟩
 rw [<-hG]at hrz ⊢;rw [<-ads]at hrz ⊢;have hRl:(n+1)*12<=Mt.size:=by
  rw [ads];simp [Builtin.zeroCells,HW];omega
 obtain⟨W1,QP⟩:∃W1,W1=w.drew.alloc (.cells Mt 44):=⟨_,rfl⟩
 rw [<-QP]at hrz;have hN:∀j,j<(n+1)*12 ->(W1.cell? ⟨w.heap.size,j,none⟩).isSome=true:=λj hj=>by
  rw [QP,World.cell?_alloc_at (w:=w.drew) Mt _ w.heap.size j rfl,Array.getElem?_eq_getElem (by omega)];rfl
 have hNf:∀j,W1.frozen? ⟨w.heap.size,j,none⟩=false:=λj=>by rw [QP];exact World.frozen?_alloc_at (w:=w.drew) Mt _ w.heap.size j rfl
 have hOb:∀j v,w.cell? ⟨b,j,none⟩=some v ->W1.cell? ⟨b,j,none⟩=some v:=λj v h=>by rw [QP,World.cell?_alloc_past (w:=w.drew) _ b j hbw];exact h
 have hOv:∀j v,w.cell? ⟨vb,j,none⟩=some v ->W1.cell? ⟨vb,j,none⟩=some v:=λj v h=>by rw [QP,World.cell?_alloc_past (w:=w.drew) _ vb j hvw];exact h
 have ajb:∀(W:World),(∀x,W.cell? x=W1.cell? x) ->(∀x,W.frozen? x=W1.frozen? x) ->∀ty dc,(Builtin.copy_ #[156,156] ty #[.slice (some ⟨w.heap.size,i*12,none⟩) (n+1 - i) dc,.slice (some ⟨vb,ua,none⟩) 1 vc]).run prog W= .ok (goInt (Nat.min 1 (n+1 - i))) (W.setCells w.heap.size (i*12) vs):=λW hWc hWf ty dc=>
  pP 12 W _ _ ty 44 w.heap.size (i*12) (n+1 - i) dc ⟨vb,ua,none⟩ 1 vc vs t24 hsz (by rw [QN];simp only [Nat.min_def];split<;>omega)
   (λj v hj=>by rw [Addr.add_lit,hWc];exact hOv _ v (xM j v hj))
   (λj hj=>by rw [hWc];exact hN _ (by omega)) (λj hj=>by rw [hWf];exact hNf _) h1v
 have hGn:n+1<=G:=by rw [hG];exact grownCap_ge w _ _ _
 have akk:G<=9223372036854775807:=by
  have:=grownCap_le_maxLen w (n+1) c 44 (by unfold maxLen;omega);rw [<-hG]at this;unfold maxLen at this;omega
 have hGi:¬(G=i):=by omega
 have akl:¬(G=i+1):=by omega
 have hci:¬(c=i):=by omega
 have hbN:b≠w.heap.size:=by omega
 have hdl:(cs.drop (i*12)).length=(n - i)*12:=by rw [List.length_drop,eG];omega
 have agh:∀(W:World),(∀x,W.cell? x=(W1.setCells w.heap.size (i*12) vs).cell? x) ->(∀x,W.frozen? x=(W1.setCells w.heap.size (i*12) vs).frozen? x) ->∀ty dc sc,(Builtin.copy_ #[156,156] ty #[.slice (some ⟨w.heap.size,(i+1)*12,none⟩) (n - i) dc,.slice (some ⟨b,off+i*12,none⟩) (n - i) sc]).run prog W= .ok (goInt (Nat.min (n - i) (n - i))) (W.setCells w.heap.size ((i+1)*12) (cs.drop (i*12))):=λW hWc hWf ty dc sc=>
  pP 12 W _ _ ty 44 w.heap.size ((i+1)*12) (n - i) dc ⟨b,off+i*12,none⟩ (n - i) sc (cs.drop (i*12)) t24 hsz (by rw [hdl];simp only [Nat.min_def];split<;>omega)
   (λj v hj=>by
    rw [Addr.add_lit,hWc,World.cell?_setCells_out _ _ _ _ _ (λh _=>absurd h hbN),Nat.add_assoc];exact hOb _ v (mU (i*12+j) v (by rwa [List.getElem?_drop]at hj)))
   (λj hj=>by rw [hWc];exact isSome_setCells _ _ _ _ (λt ht=>hN _ (by omega)) _ (hN _ (by omega)))
   (λj hj=>by rw [hWf,World.frozen?_setCells];exact hNf _) (λv hv=>h1c v (List.mem_of_mem_drop hv))
 subst QP;have hE1:∀x,((w.alloc (.cells Mt 44)).drew).cell? x=(w.drew.alloc (.cells Mt 44)).cell? x:=λx=>rfl;have hE2:∀x,((w.alloc (.cells Mt 44)).drew).frozen? x=(w.drew.alloc (.cells Mt 44)).frozen? x:=λx=>rfl;have Qe:∀x,(((w.alloc (.cells Mt 44)).drew.setCells w.heap.size (i*12) vs).drew).cell? x=((w.drew.alloc (.cells Mt 44)).setCells w.heap.size (i*12) vs).cell? x:=λx=>rfl;have hF2:∀x,(((w.alloc (.cells Mt 44)).drew.setCells w.heap.size (i*12) vs).drew).frozen? x=((w.drew.alloc (.cells Mt 44)).setCells w.heap.size (i*12) vs).frozen? x:=λx=>rfl;have hw1:IntKind.i64.wrap ((i:Int)+1)=(i:Int)+1:=by rw [IntKind.wrap_i64];omega
 have ot:(0:Int)<=(i:Int)+1:=by omega
 have dC:i<=n:=by omega
 have htn:((i:Int)+1).toNat=i+1:=by omega
 have Xo:(i:Int)<=(n:Int):=by omega
 clear QE hik hold ads hG hRl
 go_enter (show prog.funcs[223]?=some f223 from rfl),(show f223.ntmps=95 from rfl)
 go_wp2_with (first
  |(at_builtin;refine Lib.wpList_append_run _ rfl _ _ _ _ rfl _ _ rfl rfl _ _ (hrz _) ?_)
  |(at_builtin;refine wpList_copy_runI _ rfl _ _ 156 156 rfl _ _ rfl rfl (ajb _ hE1 hE2 _ _) ?_)
  |(at_builtin;refine wpList_copy_runI _ rfl _ _ 156 156 rfl _ _ rfl rfl (agh _ (λ_=>rfl) (λ_=>rfl) _ _ _) ?_))
 go_region_law_o (refine step_copy_runI rfl _ _ 156 156 rfl (.slice (some ⟨w.heap.size,(i+1)*12,none⟩) (n - i) (G - (i+1))) (.slice (some ⟨b,off+i*12,none⟩) (n - i) (c - i)) (by simp [Act.eval,Act.put]) (by simp [Act.eval,Act.put]) (agh _ Qe hF2 3 (G - (i+1)) (c - i)) ?_)
 go_wp2
 go_ret
 exact⟨rfl,rfl⟩
end
section
open Go.Shelf Go.RowKit Go.Lib Go.Proofs
set_option maxHeartbeats 4000000 in
set_option maxRecDepth 100000 in
theorem Mv (base:Option Addr) (n c vb ua vc:Nat) (w w':World) (cv:Value) (uW:n<=c) (Jo:base=none ->n=0/\c=0)
  (bH:(Builtin.append_ #[156,156] 156 #[.slice base n c,.slice (some ⟨vb,ua,none⟩) 1 vc]).run prog w= .ok cv w'):
  Calls prog 223 #[.slice base n c,.int .i64 n,.slice (some ⟨vb,ua,none⟩) 1 vc] w λe w2=>e= .returned cv/\w2=w':=by
 have mixed:prog.follows .mixedOrders=true:=af;have t3:prog.underlying 3=some (.int .i64):=rfl;have a3:∀w,(isAgg 3).run prog w= .ok false w:=λw=>rfl;have z3:∀w,(Go.sizeOf 3).run prog w= .ok 1 w:=λw=>rfl;have v3:∀w,(zeroValue 3).run prog w= .ok (.int .i64 0) w:=λw=>rfl;have t4:prog.underlying 4=some .bool:=rfl;have a4:∀w,(isAgg 4).run prog w= .ok false w:=λw=>rfl;have z4:∀w,(Go.sizeOf 4).run prog w= .ok 1 w:=λw=>rfl;have v4:∀w,(zeroValue 4).run prog w= .ok (.bool false) w:=λw=>rfl;have z9:∀w,(Go.sizeOf 44).run prog w= .ok 12 w:=λw=>rfl;have t24:prog.underlying 156=some (.slice 44):=rfl;have a24:∀w,(isAgg 156).run prog w= .ok false w:=λw=>rfl;have z24:∀w,(Go.sizeOf 156).run prog w= .ok 1 w:=λw=>rfl;have v24:∀w,(zeroValue 156).run prog w= .ok (.slice none 0 0) w:=λw=>rfl;have u3:=run_underlying t3;have u4:=run_underlying t4;have u24:=run_underlying t24;have hsz:(prog.info? 44).map (·.size)=some 12:=rfl;have IB:¬((1:Int)=0):=by omega
 go_enter (show prog.funcs[223]?=some f223 from rfl),(show f223.ntmps=95 from rfl)
 cases base with
 |none=>
  obtain⟨h0,h1⟩:=Jo rfl;subst h0 h1
  go_wp2_with (at_builtin;refine Lib.wpList_append_run _ rfl _ _ _ _ rfl _ _ rfl rfl _ _ bH ?_)
  go_ret
  exact⟨rfl,rfl⟩
 |some a=>
  obtain⟨ab,ao,asp⟩:=a
  go_wp2_with (at_builtin;refine Lib.wpList_append_run _ rfl _ _ _ _ rfl _ _ rfl rfl _ _ bH ?_)
  all_goals (go_ret;exact⟨rfl,rfl⟩)
def wq {α:Type} (xs:List α) (i:Nat) (d:α):List α:=xs.take i++d::xs.drop i
theorem zM {α:Type} {xs:List α} {i:Nat} {d:α} (hi:i<=xs.length):(wq xs i d).length=xs.length+1:=by
 unfold wq;rw [List.length_append,List.length_cons,List.length_take,List.length_drop,Nat.min_eq_left hi];omega
structure Ko where
 id:Pos
 iv:Pos
 xs:List Q3
 i:Nat
 d:Q3
 ro:Bool
def Ko.ok (p:Ko) (h:Heap):Prop:=p.i<=p.xs.length/\p.xs.length<=1048575/\p.id≠p.iv/\h.t.get p.id=some (.gl (aN.l p.xs) false)/\h.t.get p.iv=some (.gl (aN.l [p.d]) p.ro)
def Ko.ar (p:Ko):AV:= .cons (.gs p.id p.xs.length 12) (.cons (.int .i64 (p.i:Int)) (.cons (.gs p.iv 1 12) .nil))
open Classical in
def Ch (call:dY ->AV ->Heap ->CR):dY ->AV ->Heap ->CR:=λt a h=>
 if hx:∃p:Ko,p.ok h/\t= .fn 223/\a=p.ar then .ret (.gs h.n (hx.choose.xs.length+1) 12) ⟨(h.t.del hx.choose.id).set (.gl (aN.l (wq hx.choose.xs hx.choose.i hx.choose.d)) false) h.n,h.n.succ⟩else call t a h
theorem Mw {call:dY ->AV ->Heap ->CR} (p:Ko) {h:Heap} (hp:p.ok h) {vk:AV} (ha:vk=p.ar) {K:AV ->Heap ->Prop} (hk:K (.gs h.n (p.xs.length+1) 12) ⟨(h.t.del p.id).set (.gl (aN.l (wq p.xs p.i p.d)) false) h.n,h.n.succ⟩):
  ∃v h',Ch call (.fn 223) vk h= .ret v h'/\K v h':=by
 subst ha;have hx:∃q:Ko,q.ok h/\dY.fn 223= .fn 223/\p.ar=q.ar:=⟨p,hp,rfl,rfl⟩
 refine⟨_,_,dif_pos hx,?_⟩;obtain⟨⟨_,_,_,h1,h2⟩,_,h3⟩:=hx.choose_spec;generalize hx.choose=q at*;obtain⟨id,iv,xs,i,d,ro⟩:=p;obtain⟨id',iv',xs',i',d',Xg⟩:=q;obtain⟨_,_,_,k1,k2⟩:=hp;injection h3 with a1 a2;injection a1 with a1 _ _;injection a2 with a2 a3;injection a2 with _ a2;injection a3 with a3 _;injection a3 with a3 _ _;have b1:id=id':=a1;have b3:iv=iv':=a3;have b2:i=i':=Int.ofNat.inj a2;clear a1 a2 a3;subst b1 b3 b2;have e1:aN.l xs=aN.l xs':=by
  have:=k1.symm.trans h1;injection this with this;injection this
 have e2:aN.l [d]=aN.l [d']:=by
  have:=k2.symm.trans h2;injection this with this;injection this
 have e1:= @bX.vl fe _ aN _ _ e1;have e2:= @bX.vl fe _ aN _ _ e2;injection e2 with e2 _;subst e1 e2;exact hk
theorem sf {call:dY ->AV ->Heap ->CR} {f':FuncId} (dE:f'≠223) {a:AV} {h:Heap} {K:AV ->Heap ->Prop} (hk:∃v h',call (.fn f') a h= .ret v h'/\K v h'):∃v h',Ch call (.fn f') a h= .ret v h'/\K v h':=by
 obtain⟨v,h',e,k⟩:=hk;refine⟨v,h',?_,k⟩;unfold Ch;rw [dif_neg]
 .exact e
 .rintro ⟨p,_,e,_⟩;exact dE (by injection e)
theorem TH {α:Type} (xs:List α) (d:α):wq xs xs.length d=xs++[d]:=by
 unfold wq;rw [List.take_length,List.drop_length]
theorem Qf {μ:Mu} {xs:List Q3} {d:Q3} {i:Nat} {gD vs:List Value} (hi:i<=xs.length) (hv:cG μ (aN.l xs) gD) (hd:cG μ (aN.l [d]) vs):cG μ (aN.l (wq xs i d)) (gD.take (i*12)++(vs++gD.drop (i*12))):=by
 have hlen:gD.length=xs.length*12:=by rw [<-hv.len];exact @bX.ep fe _ aN xs
 have h1:=(cG.take (i*12) hv (@bX.kM fe _ aN xs i hi)).1;have h2:=cG.drop (i*12) hv (by omega);rw [show cX (i*12) (aN.l xs)=aN.l (xs.drop i)from @bX.xP fe _ aN xs i hi]at h2;have e:aN.l (wq xs i d)=app (aN.l (xs.take i)) (app (aN.l [d]) (aN.l (xs.drop i))):=by
  rw [@bX.oH fe _ aN,@bX.oH fe _ aN];rfl
 rw [e];exact cG.app (cG.app h2 hd) h1
theorem GV {T:aY} {B0:Nat} {call:dY ->AV ->Heap ->CR} (bl:@aW T prog B0 call):@aW T prog B0 (Ch call):=by
 letI:aY:=T
 intro t a h v h' e μ w hr;unfold Ch at e;split at e
 .rename_i hx;obtain⟨fY,ht,ha⟩:=hx.choose_spec;generalize hx.choose=p at*;obtain⟨Bd,iv,xs,i,d,ro⟩:=p;obtain⟨hi,hl,dE,hg,hgv⟩:=fY;have hi:i<=xs.length:=hi;have hl:xs.length<=1048575:=hl;have dE:Bd≠iv:=dE;have hg:h.t.get Bd=some (.gl (aN.l xs) false):=hg;have hgv:h.t.get iv=some (.gl (aN.l [d]) ro):=hgv;subst ht ha;cases e;refine⟨λcargs=>ae _ f223 cargs w rfl rfl,λcargs eO=>?_⟩;obtain⟨v0,r,e1,hv0,v1,r1,e2,hv1,v2,r2,e3,hv2,h4⟩:=eO;have h4:r2=[]:=h4;have hv1:[v1]=[.int .i64 (i:Int)]:=hv1;injection hv1 with hv1 _;subst h4 e3 e2 hv1;have hca:cargs=#[v0,.int .i64 (i:Int),v2]:=by cases cargs;simp at e1;rw [e1]
  subst hca;obtain⟨i0,zv,hi0,Xr,iJ,HW,hib⟩:∃(i0:TypeInfo) (zv:Value),prog.info? 44=some i0/\i0.zero=some zv/\i0.size=12/\zv.cells.size=12/\i0.bytes<=1024:=⟨_,_,rfl,rfl,rfl,rfl,by decide⟩
  have ajc:=hv0;obtain⟨B,hB,wS⟩:=hv0;have akm:=hv2;obtain⟨Bv,hBv,ajd⟩:=hv2;obtain⟨cv,rfl,akn⟩:∃c,v2= .slice (some ⟨Bv.b,Bv.base,none⟩) 1 c/\1<=c:=by
   rcases ajd with ⟨c,hc,h4,_⟩|⟨h0,_⟩
   .exact⟨c,by injection hc,h4⟩
   .cases h0
  have hinv:¬(AO.gl (aN.l [d]) ro).cT Bv:=λ⟨_,r,e⟩=>by injection e with e _;cases e
  rcases hr.obj iv Bv _ hBv hgv with ⟨_,h0⟩|⟨vs,xM,ako,c2,el2,fz2,hh2,akp,agi,_,aje⟩
  .cases h0
  have QN:vs.length=12:=by rw [<-xM.len];rfl
  have h1v:∀v∈vs,v.oneCell'=true:=eI xM (@bX.lu fe _ aN [d]);have Kp:∀j v,vs[j]?=some v ->w.cell? ⟨Bv.b,Bv.base+j,none⟩=some v:=λj v hj=>by
   simp only [World.cell?,hh2];exact aje j v hj
  have hfr:∀{b off:Nat} {c:Array Value} {el:TypeId} {fz:Nat×Nat},w.heap[b]?=some (.cells c el fz) ->Xi fz c.size ->off<=c.size ->w.frozen? ⟨b,off,none⟩=false:=λ{b off c el fz} h1 h2 h3=>by
   have hu:=h2 off h3;obtain⟨f1,f2⟩:=fz;simp [World.frozen?,h1];intro e;simp at hu;exact hu e
  by_cases dC:i=xs.length
  .subst dC;have hlx:(aN.l xs).len=xs.length*12:= @bX.ep fe _ aN xs;have cV:iq 12 i0.bytes (.gs Bd xs.length 12) (.gs iv 1 12) 1 (aN.l [d]) h= .val (.gs h.n (xs.length+1) 12) ⟨(h.t.del Bd).set (.gl (aN.l (wq xs xs.length d)) false) h.n,h.n.succ⟩:=by
    have fY:gG 12 12 i0.bytes (xs.length+1) (aN.l [d])=true:=by
     unfold gG;refine aw.2 ⟨rfl,aw.2 ⟨?_,@bX.lu fe _ aN [d]⟩⟩;refine Nat.ble_eq_true_of_le (show(xs.length+1)*(i0.bytes+1)<=1099511627776 from ?_);calc (xs.length+1)*(i0.bytes+1)<=1048576*1025:=Nat.mul_le_mul (by omega) (by omega)
      _<=_:=by decide
    show Bool.casesOn (motive:=λ_=>OR) (gG 12 12 i0.bytes (xs.length+1) (aN.l [d])) .fail (match h.t.get Bd with
     |some (.gl l ro)=>Bool.casesOn (motive:=λ_=>OR) (aF (aU ro) (Nat.beq (Nat.mul xs.length 12) l.len))
      (Bool.casesOn (motive:=λ_=>OR) ro (Option.casesOn (motive:=λ_=>OR) (dQ (Nat.mul xs.length 12) l) .fail (λold=>gR old (aN.l [d]) (some Bd) (xs.length+1) 12 h)) .fail)
      (gR l (aN.l [d]) (some Bd) (xs.length+1) 12 h)
     |_=> .fail)=_
    rw [fY,hg];show Bool.casesOn (motive:=λ_=>OR) (aF (aU false) (Nat.beq (Nat.mul xs.length 12) (aN.l xs).len)) _ (gR (aN.l xs) (aN.l [d]) (some Bd) (xs.length+1) 12 h)=_;rw [hlx,show Nat.beq (Nat.mul xs.length 12) (xs.length*12)=true from Nat.beq_refl _,TH,<-@bX.oH fe _ aN];rfl
   have agj:∀w,(Builtin.lenOf (.slice (some ⟨Bv.b,Bv.base,none⟩) 1 cv)).run prog w= .ok 1 w:=λw=>by simp [Builtin.lenOf]
   obtain⟨c',μ',w',bH,hvv,hp⟩:=sL (P:=prog) hr (ts:=#[156,156]) (ty:=156) (aZs:=#[v0,.slice (some ⟨Bv.b,Bv.base,none⟩) 1 cv]) (t:=156) (u:=156) (e:=44) (zv:=zv) (sz:=12) (by_:=i0.bytes) rfl rfl rfl rfl rfl rfl (by unfold iI;rw [hi0];rfl) (by unfold lA;rw [hi0];exact Xr) HW (dx:= .slice 44) rfl (λk e=>by cases e) agj ajc xM (by rw [QN]) (λw' hw=>run_firstCells_some (P:=prog) w' 12 1 ⟨Bv.b,Bv.base,none⟩ 1 cv vs (by rw [QN]) (λj v hj=>by
    rw [Addr.add_lit];have:=Kp j v hj;simp only [World.cell?,hw]at this ⊢;exact this)) cV
   rcases wS with ⟨c,hc,uW,_⟩|⟨h0,hc⟩
   .injection hc with hc _;subst hc;exact(Mv (some ⟨B.b,B.base,none⟩) xs.length c Bv.b Bv.base cv w w' c' uW (λe=>by cases e) bH).mono λe w2 ⟨he,hw⟩=>⟨c',μ',he,hvv,by rw [hw];exact hp⟩
   .injection hc with hc _;subst hc;have h0:xs.length=0:=h0;obtain rfl:=List.length_eq_zero_iff.1 h0;exact(Mv none 0 0 Bv.b Bv.base cv w w' c' (Nat.le_refl _) (λ_=>⟨rfl,rfl⟩) bH).mono λe w2 ⟨he,hw⟩=>⟨c',μ',he,hvv,by rw [hw];exact hp⟩
  .have agk:i<xs.length:=(by omega);obtain⟨c0,rfl,xE,ajf⟩:∃c,v0= .slice (some ⟨B.b,B.base,none⟩) xs.length c/\xs.length<=c/\c*12<=B.n:=by
    rcases wS with ⟨c,hc,h4,h5⟩|⟨h0,_⟩
    .exact⟨c,by injection hc,h4,h5⟩
    .have h0:xs.length=0:=h0;omega
   have Dn:aN.l xs≠.nil:=λh0=>by
    have:= @bX.ep fe _ aN xs;rw [h0]at this;have this:0=xs.length*12:=this;omega
   have adt:¬(AO.gl (aN.l xs) false).cT B:=λ⟨_,ro,e⟩=>by injection e with e _;exact Dn e
   rcases hr.obj Bd B _ hB hg with ⟨_,h0⟩|⟨gD,hv,akq,c,el,fz,hh,WO,XW,_,CT⟩
   .exact absurd h0 Dn
   have hlen:gD.length=xs.length*12:=(by rw [<-hv.len];exact @bX.ep fe _ aN xs);have hbb:Bv.b≠B.b:=λe=>by
    rcases hr.sep Bd iv B Bv _ _ dE hB hBv hg hgv with h5|h5|h5
    .exact h5 e.symm
    .exact adt h5
    .exact hinv h5
   have abk:∀j v,gD[j]?=some v ->w.cell? ⟨B.b,B.base+j,none⟩=some v:=λj v hj=>by
    simp only [World.cell?,hh];exact CT j v hj
   have h1c:∀v∈gD,v.oneCell'=true:=eI hv (@bX.lu fe _ aN xs);have afL:B.b<w.heap.size:=(Array.getElem?_eq_some_iff.1 hh).1;have Rz:=(hr.own Bd B _ hB hg rfl).resolve_left adt;have hVR:=Qf hi hv xM;have hNL:(gD.take (i*12)++(vs++gD.drop (i*12))).length=(xs.length+1)*12:=by
    rw [List.length_append,List.length_append,List.length_take,List.length_drop];omega
   have mo:∀k v,(gD.take (i*12)++(vs++gD.drop (i*12)))[k]?=some v ->(k<i*12/\gD[k]?=some v)\/(i*12<=k/\k<(i+1)*12/\vs[k - i*12]?=some v)\/((i+1)*12<=k/\(gD.drop (i*12))[k - (i+1)*12]?=some v):=λk v hk=>by
    have cJ:(gD.take (i*12)).length=i*12:=(by rw [List.length_take];omega);by_cases h1:k<i*12
    .rw [List.getElem?_append_left (by omega),List.getElem?_take,if_pos h1]at hk;exact .inl ⟨h1,hk⟩
    .rw [List.getElem?_append_right (by omega),cJ]at hk;by_cases h2:k<(i+1)*12
     .rw [List.getElem?_append_left (by omega)]at hk;exact .inr (.inl ⟨by omega,h2,hk⟩)
     .rw [List.getElem?_append_right (by omega),QN]at hk;exact .inr (.inr ⟨by omega,by rw [show k - (i+1)*12=k - i*12 - 12 by omega];exact hk⟩)
   have IW:∀(X:nS) (q:Pos),q.toNat<h.n.toNat ->(μ.put h.n X) q=μ q:=λX q hq=>Mu.bq _ _ _ (λe'=>by subst e';omega);by_cases pZ:xs.length+1<=c0
   .refine(Qd B.b B.base xs.length c0 i Bv.b Bv.base cv gD vs w agk pZ (by omega) hbb hlen QN abk (λj hj=>?_) (λj hj=>hfr hh XW (by omega)) Kp h1c h1v el2 el c2.size c.size (by simp only [World.shape?,hh2]) (by simp only [World.shape?,hh]) (by omega) (hfr hh2 agi (by omega)) (hfr hh2 agi (Nat.le_refl _))).mono λe w' ⟨he,hw⟩=>?_
    .simp only [World.cell?,hh];rw [Array.getElem?_eq_getElem (by omega)];rfl
    obtain⟨c1,a1,a2,a3,a4,a5,a6,a7,a8⟩:=eH B.b el fz (gD.drop (i*12)) (B.base+(i+1)*12) w.drew c hh (by rw [List.length_drop];omega);obtain⟨c3,b1,b2,b3,b4,b5,b6,b7,b8⟩:=eH B.b el fz vs (B.base+i*12) (w.drew.setCells B.b (B.base+(i+1)*12) (gD.drop (i*12))) c1 a1 (by omega);rw [<-hw]at b1 b4 b5 b6 b7 b8;refine⟨_,μ.put h.n B,he,⟨B,Mu.cz _ _ _,.inl ⟨c0,rfl,pZ,ajf⟩⟩,IW _,by show h.n.toNat<=h.n.succ.toNat;rw [Pos.cU];omega,?_,?_,Grow.refl _ _⟩
    .refine hr.afd Bd B B hB _ hg rfl adt rfl (.gl (aN.l (wq xs i d)) false) (λk hk=>(b4 k hk).trans (a4 k hk)) (by rw [b5,a5];exact Nat.le_refl _) (.inr ⟨_,hVR.mono (Mu.po hr.nT _),by rw [hNL];omega,c3,el,fz,b1,by omega,by rw [b2,a2];exact XW,(λe=>by cases e),λk v hk=>?_⟩) _ (λq p e=>?_)
     .rw [b3,a3];have hdl:(gD.drop (i*12)).length=(xs.length - i)*12:=(by rw [List.length_drop];omega);rcases mo k v hk with ⟨h1,h2⟩|⟨h1,h2,h3⟩|⟨h1,h2⟩
      .rw [if_neg (by omega),if_neg (by omega)];exact CT k v h2
      .rw [if_pos (by omega),show B.base+k - (B.base+i*12)=k - i*12 by omega];exact h3
      .have hkl:=(List.getElem?_eq_some_iff.1 h2).1;rw [if_neg (by omega),if_pos (by omega),show B.base+k - (B.base+(i+1)*12)=k - (i+1)*12 by omega];exact h2
     .rw [Tr.bO]at e;by_cases hq:q=h.n
      .rw [if_pos hq]at e;cases e;exact .inl ⟨hq,rfl⟩
      .rw [if_neg hq,Tr.rH]at e;by_cases hqi:q=Bd
       .rw [if_pos hqi]at e;cases e
       .rw [if_neg hqi]at e;exact .inr ⟨hq,hqi,e⟩
    .refine⟨⟨b6.trans a6,b7.trans a7,b8.trans a8,by rw [b5,a5];exact Nat.le_refl _,λk hk=>(b4 k (by omega)).trans (a4 k (by omega))⟩,λ_=>?_⟩;rw [hw,dN,dN];exact Nat.le_succ _
   .obtain rfl:c0=xs.length:=by omega
    have IV:(xs.length+1)*i0.bytes<=140737488355328:=
     calc (xs.length+1)*i0.bytes<=1048576*1024:=Nat.mul_le_mul (by omega) hib
      _<=_:=by decide
    refine(TG B.b B.base xs.length xs.length i Bv.b Bv.base cv gD vs w i0 zv hi0 Xr iJ HW agk (Nat.le_refl _) (by omega) IV (by omega) hlen QN abk Kp h1c h1v).mono λe w' ⟨he,hw⟩=>?_;have hG:=grownCap_ge w (xs.length+1) xs.length 44;generalize grownCap w (xs.length+1) xs.length 44=G at he hw hG;have Xq:zv.cells.size=12:=HW;obtain⟨C,hC⟩:∃C,C=(gD.take (i*12)).toArray++Builtin.zeroCells zv.cells (xs.length+1 - i)++Builtin.zeroCells zv.cells (G - (xs.length+1)):=⟨_,rfl⟩
    rw [<-hC]at hw;have hCs:C.size=G*12:=by
     rw [hC,Array.size_append,Array.size_append,size_zeroCells,size_zeroCells,Xq,List.size_toArray,List.length_take];omega
    have hC0:∀k,k<i*12 ->C[k]?=gD[k]?:=λk hk=>by
     have cJ:(gD.take (i*12)).toArray.size=i*12:=(by rw [List.size_toArray,List.length_take];omega);rw [hC,Array.getElem?_append_left (by rw [Array.size_append];omega),Array.getElem?_append_left (by omega),List.getElem?_toArray,List.getElem?_take,if_pos hk]
    have AJ:(w.alloc (.cells C 44)).drew.heap[w.heap.size]?=some (.cells C 44 (0,0)):=by
     show(w.heap.push _)[w.heap.size]?=_;rw [Array.getElem?_push_size]
    obtain⟨c1,a1,a2,a3,a4,a5,a6,a7,a8⟩:=eH w.heap.size 44 (0,0) vs (i*12) (w.alloc (.cells C 44)).drew C AJ (by omega);obtain⟨c3,b1,b2,b3,b4,b5,b6,b7,b8⟩:=eH w.heap.size 44 (0,0) (gD.drop (i*12)) ((i+1)*12) ((w.alloc (.cells C 44)).drew.setCells w.heap.size (i*12) vs).drew c1 a1 (by rw [List.length_drop];omega);rw [<-hw]at b1 b4 b5 b6 b7 b8;have akr:w'.heap.size=w.heap.size+1:=by
     rw [b5];show(World.heap _).size=_;rw [show((w.alloc (.cells C 44)).drew.setCells w.heap.size (i*12) vs).drew.heap.size=((w.alloc (.cells C 44)).drew.setCells w.heap.size (i*12) vs).heap.size from rfl,a5];exact Array.size_push _
    have abl:w'.heap=(w.alloc (.cells c3 44)).heap:=by
     apply Array.ext_getElem?;intro k;by_cases h1:k=w.heap.size
     .subst h1;rw [b1];show _=(w.heap.push _)[w.heap.size]?;rw [Array.getElem?_push_size]
     .rw [b4 k h1,show((w.alloc (.cells C 44)).drew.setCells w.heap.size (i*12) vs).drew.heap[k]?=((w.alloc (.cells C 44)).drew.setCells w.heap.size (i*12) vs).heap[k]? from rfl,a4 k h1];show(w.heap.push _)[k]?=(w.heap.push _)[k]?;rw [Array.getElem?_push,Array.getElem?_push,if_neg h1,if_neg h1]
    have ajg:c3.size=G*12:=(by rw [b2,a2,hCs]);have hN:=Dj (n:=(xs.length+1)*12) (k:= .slice (xs.length+1) 12 12) (hr.kill Bd) hVR rfl c3 44 (λk v hk=>by
     have hdl:(gD.drop (i*12)).length=(xs.length - i)*12:=(by rw [List.length_drop];omega);rw [b3,a3];rcases mo k v hk with ⟨h1,h2⟩|⟨h1,h2,h3⟩|⟨h1,h2⟩
     .rw [if_neg (by omega),if_neg (by omega),hC0 k h1];exact h2
     .rw [if_neg (by omega),if_pos (by omega)];exact h3
     .have hkl:=(List.getElem?_eq_some_iff.1 h2).1;rw [if_pos (by omega)];exact h2) (by rw [ajg];omega)
    refine⟨_,μ.put h.n ⟨w.heap.size,0,c3.size⟩,he,⟨⟨w.heap.size,0,c3.size⟩,Mu.cz _ _ _,.inl ⟨G,rfl,hG,by show G*12<=c3.size;omega⟩⟩,IW _,by show h.n.toNat<=h.n.succ.toNat;rw [Pos.cU];omega,HR.yx abl hN,?_,Grow.refl _ _⟩;refine⟨⟨b6.trans a6,b7.trans a7,b8.trans a8,by omega,λk hk=>?_⟩,λ_=>?_⟩
    .have vI:k<w.heap.size:=Nat.lt_of_lt_of_le hk hr.size;rw [abl];show(w.heap.push _)[k]?=w.heap[k]?;rw [Array.getElem?_push_lt vI,Array.getElem?_eq_getElem vI]
    .rw [hw,dN];show _<=(World.drawn _)+1;rw [dN];exact Nat.le_succ_of_le (Nat.le_succ _)
 .exact bl t a h v h' e μ w hr
end
section
attribute [local irreducible] Cw aj bE PF Sub
attribute [local instance] fe
def YD:List (Cn prog):=[pM]
def lQ3 (a:Q3):AV:=match aN.v a with| .agg l=>l|_=> .nil
theorem abm (a:Q3):aN.v a= .agg (lQ3 a):=rfl
theorem TI (a:Q3):dh (lQ3 a):=aN.bh [a]
def YE (a:Q3):Q:=Q.add (Q.add (Q.add (0,0) a.1) a.2.1) a.2.2
def Mx (a:Q3):Prop:=nD (0,0) a.1/\nD (Q.add (0,0) a.1) a.2.1/\nD (Q.add (Q.add (0,0) a.1) a.2.1) a.2.2
set_option maxHeartbeats 0 in
theorem adu (a:Q3) (h:Mx a):dA 215 (.cons (.ro 3 (lQ3 a)) .nil) (aK.v (YE a)):=by
 obtain⟨⟨x0,y0⟩,⟨x1,y1⟩,⟨x2,y2⟩⟩:=a;obtain⟨h0,h1,h2⟩:=h;refine PF.of_wp (c:=_) af (by decide) (fn:=f215) rfl rfl rfl (.cons .ro .nil) (call:=aE YD) (λB0=>ay ae _ B0) ?_;intro B0;conv=>whnf
 refine Cw.bL af rfl rfl (ay ae _ B0) 4 (aB ?_);refine aG.go 0 rfl (by decide) (aB ?_);refine⟨_,rfl,aB ?_⟩;refine df YD 0 pM ((0,0),(x0,y0)) h0 (ew ?_);refine aG.go 1 rfl (by decide) (aB ?_);refine⟨_,rfl,aB ?_⟩;refine df YD 0 pM (Q.add (0,0) (x0,y0),(x1,y1)) h1 (ew ?_);refine aG.go 2 rfl (by decide) (aB ?_);refine⟨_,rfl,aB ?_⟩;refine df YD 0 pM (Q.add (Q.add (0,0) (x0,y0)) (x1,y1),(x2,y2)) h2 (ew ?_);exact aj.same rfl (aK.ak (YE ((x0,y0),(x1,y1),(x2,y2))))
def TJ:Cn prog:=
 Cn.mk 215 false Q3 (λa=> .cons (.ro 3 (lQ3 a)) .nil) (λa=>aK.v (YE a)) Mx
  (λa b _ _ h=>by
   injection h with h1 _;injection h1 with _ h2;have:aN.v a=aN.v b:=(by rw [abm,abm,h2]);rw [aN.aZ this])
  (λa=>⟨TI a,aA⟩) (λa=>aK.ak _) (λh=>by cases h) (λa h=>adu a h) (au rfl rfl)
def adv:List (Cn prog):=[Cg,TJ]
def cQ (a b:Q3):Q:=YE (jS Q.mul a b)
def oP (a b:Q3):Prop:=ri oN a b/\Mx (jS Q.mul a b)
theorem adw (a b:Q3) (h:oP a b):dA 163 (.cons (aN.v a) (.cons (aN.v b) .nil)) (aK.v (cQ a b)):=by
 obtain⟨⟨x0,y0⟩,⟨x1,y1⟩,⟨x2,y2⟩⟩:=a;obtain⟨⟨u0,v0⟩,⟨u1,v1⟩,⟨u2,v2⟩⟩:=b;obtain⟨h1,h2⟩:=h;refine PF.of_wp (c:=_) af (by decide) (fn:=f163) rfl rfl rfl (.cons (aN.ak _) (.cons (aN.ak _) .nil)) (call:=zH (aE adv)) (λB0=>rl (ay ae _ B0)) ?_;intro B0;conv=>whnf
 refine oO (l:=adv) (by decide) 0 (c:=Cg) rfl (((x0,y0),(x1,y1),(x2,y2)),((u0,v0),(u1,v1),(u2,v2))) h1 Tt rfl (aB ?_);refine oO (l:=adv) (by decide) 1 (c:=TJ) rfl (jS Q.mul ((x0,y0),(x1,y1),(x2,y2)) ((u0,v0),(u1,v1),(u2,v2))) h2 ?_ ?_ ?_
 .repeat' first|exact aA|exact rfl|refine⟨?_,?_⟩
 .rfl
 conv=>whnf
 exact aj.same rfl (aK.ak (cQ ((x0,y0),(x1,y1),(x2,y2)) ((u0,v0),(u1,v1),(u2,v2))))
def kF:Cn prog:= .kz aN aN aK 163 false oP cQ (λe=>by cases e) adw (au rfl rfl)
end
section
attribute [local instance] fe
section
def TK:aN.Rd:=tZ.pair (tZ.pair tZ)
def b3 (f:Q ->Q ->Bool) (a b:Q3):Bool:=aF (f a.1 b.1) (aF (f a.2.1 b.2.1) (f a.2.2 b.2.2))
theorem GX {f:Q ->Q ->Bool} {R:Q ->Q ->Prop} (hf:∀{p q},f p q=true ->R p q) {a b:Q3} (h:b3 f a b=true):ri R a b:=by
 obtain⟨h1,h2⟩:=aw.1 h;obtain⟨h2,h3⟩:=aw.1 h2;exact⟨hf h1,hf h2,hf h3⟩
def TL (p q:Q):Bool:=Kk p (Q.neg q)
theorem xX {p q:Q} (h:TL p q=true):kg p q:=se h
def crB (p q r s:Q):Bool:=aF (rk p q) (aF (rk r s) (TL (Q.mul p q) (Q.mul r s)))
theorem Kq {p q r s:Q} (h:crB p q r s=true):Tu p q r s:=by
 obtain⟨h1,h2⟩:=aw.1 h;obtain⟨h2,h3⟩:=aw.1 h2;exact⟨pO h1,pO h2,xX h3⟩
def TM (a b:Q3):Bool:=aF (crB a.2.1 b.2.2 a.2.2 b.2.1) (aF (crB a.2.2 b.1 a.1 b.2.2) (crB a.1 b.2.1 a.2.1 b.1))
theorem Qg {a b:Q3} (h:TM a b=true):pN a b:=by
 obtain⟨h1,h2⟩:=aw.1 h;obtain⟨h2,h3⟩:=aw.1 h2;exact⟨Kq h1,Kq h2,Kq h3⟩
def agl (a:Q3):Bool:=aF (Kk (0,0) a.1) (aF (Kk (Q.add (0,0) a.1) a.2.1) (Kk (Q.add (Q.add (0,0) a.1) a.2.1) a.2.2))
theorem YF {a:Q3} (h:agl a=true):Mx a:=by
 obtain⟨h1,h2⟩:=aw.1 h;obtain⟨h2,h3⟩:=aw.1 h2;exact⟨se h1,se h2,se h3⟩
def agm (a b:Q3):Bool:=aF (b3 rk a b) (agl (jS Q.mul a b))
theorem YG {a b:Q3} (h:agm a b=true):oP a b:=by
 obtain⟨h1,h2⟩:=aw.1 h;exact⟨GX pO h1,YF h2⟩
def ajh (p q:Q):Bool:=sh4 p q
def adx:Dc prog:=⟨tX,mW tZ tZ,λa=>TL a.1 a.2,λ_ _ h=>dS h,λ_ h=>xX h⟩
def Kr:Dc prog:=⟨eX,mW TK TK,λa=>b3 ajh a.1 a.2,λ_ _ h=>dS h,λ_ h=>GX Ty h⟩
def ady:Dc prog:=⟨Kg,mW TK TK,λa=>b3 Kk a.1 a.2,λ_ _ h=>dS h,λ_ h=>GX se h⟩
def adz:Dc prog:=⟨Kh,mW TK TK,λa=>b3 TL a.1 a.2,λ_ _ h=>dS h,λ_ h=>GX xX h⟩
def adA:Dc prog:=⟨tY,zn TK,λa=>b3 TL z3 a,λ_ _ h=>lP h,λ_ h=>GX xX h⟩
def TN:Dc prog:=⟨rj,mW TK TK,λa=>TM a.1 a.2,λ_ _ h=>dS h,λ_ h=>Qg h⟩
def adB:Dc prog:=⟨kF,mW TK TK,λa=>agm a.1 a.2,λ_ _ h=>dS h,λ_ h=>YG h⟩
def agn:List (Dc prog):=[adx,Kr,ady,adz,adA,TN,adB]
end
end
def xl:List Int:=[1,10,100,1000,10000,100000,1000000,10000000,100000000,1000000000,10000000000,100000000000,1000000000000,10000000000000,100000000000000,1000000000000000,10000000000000000,100000000000000000,1000000000000000000,10000000000000000000]
def abn:List Int:=[0,1,56,2,57,49,28,3,61,58,42,50,38,29,17,4,62,47,59,36,45,43,51,22,53,39,33,30,24,18,12,5,63,55,48,27,60,41,37,16,46,35,44,21,52,32,23,11,54,26,40,15,34,20,31,10,25,14,19,9,13,8,7,6]
def abo:List Int:=[0,1,28,2,29,14,24,3,30,22,20,15,25,17,4,8,31,27,13,23,21,19,16,7,26,12,18,6,11,5,10,9]
instance bJ:aY:=⟨[(tx .u64 xl,20),(.undef,0),(tx .u8 abn,64),(tx .u8 abo,32)],0⟩
def dc0:List (Dc prog):=(GU::TF::(agn++(ado++aga))).map (Dc.lift bJ)
def uy:dY ->AV ->Heap ->Option CR:=ovD (sU dc0)
theorem ik (B0:Nat):xB prog B0 uy:=zm ae _ B0
section
attribute [local irreducible] Cw aj bE PF Sub
attribute [local instance] fe
abbrev lQ:=Q3×Q×List Int
abbrev WV:=Int×Int×Int×Int
abbrev cW:=List Q3×List lQ×List WV
abbrev fi:=Int×List cW
abbrev Ef:=(Q3×Q3×Q3)×Q3
def bK:bX lQ:=aN.pair (aK.pair (aq .i64).list)
def jy:bX WV:=(aq .i64).pair ((aq .i64).pair ((aq .i64).pair (aq .i64)))
def aL:bX cW:=aN.list.pair (bK.list.pair jy.list)
def bc:bX fi:=(aq .i64).pair aL.list
def lR:bX Ef:=(aN.pair (aN.pair aN)).pair aN
def tM1:List (Cn prog):=[eX]
def dP (a:Q3):Bool:=bG (dH a z3) 0
theorem TO (a:Q3) (h:ri de a z3):dA 37 (.cons (aN.v a) .nil) (bj.v (dP a)):=by
 refine PF.go af ae tM1 (fn:=f37) rfl rfl rfl λB0 hc=>?_;conv=>whnf
 refine cg tM1 0 eX (a,z3) h (aC ?_);exact aj.same rfl .bool
def iX:Cn prog:= .lE aN bj 37 true (λa=>ri de a z3) dP fh TO (au rfl rfl)
def tM2:List (Cn prog):=[jQ]
def Ay (n:Int):Prop:= -9223372036854775808<=n/\n<9223372036854775808
def fJ (v:V3):Q3:=((v.1,0),(v.2.1,0),(v.2.2,0))
theorem ago (v:V3) (h:Ay v.1/\Ay v.2.1/\Ay v.2.2):dA 19 (.cons (bR.v v) .nil) (aN.v (fJ v)):=by
 refine PF.go af ae tM2 (fn:=f19) rfl rfl rfl λB0 hc=>?_;conv=>whnf
 refine Cw.bL af rfl rfl hc 4 (aB ?_);refine cg tM2 0 jQ v.1 h.1 (aC ?_);refine cg tM2 0 jQ v.2.1 h.2.1 (aC ?_);refine cg tM2 0 jQ v.2.2 h.2.2 (aC ?_);exact aj.same rfl (aN.ak (fJ v))
def rn:Cn prog:= .lE bR aN 19 false (λv=>Ay v.1/\Ay v.2.1/\Ay v.2.2) fJ (λe=>by cases e) ago (au rfl rfl)
def tM3:List (Cn prog):=[od]
theorem agp (x y k:Q) (h:oN k x):dA 84 (.cons (aK.v x) (.cons (aK.v y) (.cons (.cR (aK.l [k]) 0) .nil))) (aK.v (Q.mul k x)):=by
 refine PF.go af ae tM3 (fn:=f84) rfl rfl rfl (hpure:= .cons (aK.ak _) (.cons (aK.ak _) (.cons .cR .nil))) λB0 hc=>?_;conv=>whnf
 refine⟨_,rfl,aB ?_⟩;refine cg tM3 0 od (k,x) h (aC ?_);exact aj.same rfl (aK.ak (Q.mul k x))
def My:Cn prog:=
 Cn.mk 84 false (Q×Q×Q) (λp=> .cons (aK.v p.1) (.cons (aK.v p.2.1) (.cons (.cR (aK.l [p.2.2]) 0) .nil))) (λp=>aK.v (Q.mul p.2.2 p.1)) (λp=>oN p.2.2 p.1)
  (λa b _ _ h=>by injection h with h1 h2;injection h2 with _ h2;injection h2 with h2 _;injection h2 with h2 _;injection aK.vl h2 with h2 _;rw [aK.aZ h1,h2])
  (λp=>⟨aK.eK _,aK.eK _,aK.bh _,aA⟩) (λp=>aK.ak _) (λh=>by cases h) (λp h=>agp _ _ _ h) (au rfl rfl)
def tM4:List (Cn prog):=[My]
def xY (a:Q3) (k:Q):Q3:=(Q.mul k a.1,Q.mul k a.2.1,Q.mul k a.2.2)
def GY (a:Q3) (k:Q):Prop:=oN k a.1/\oN k a.2.1/\oN k a.2.2
def fSc (k:Q):AV:= .func (.func 84) .nil (.cons (.cR (aK.l [k]) 0) .nil)
theorem TP (k:Q):DP (fSc k):=⟨aA,aK.bh [k],aA⟩
theorem YH (a b:Q3) (k:Q) (h:GY a k):dA 83 (.cons (aN.v a) (.cons (aN.v b) (.cons (fSc k) .nil))) (aN.v (xY a k)):=by
 refine PF.go af ae tM4 (fn:=f83) rfl rfl rfl (hpure:= .cons (aN.ak _) (.cons (aN.ak _) (.cons (aV (TP k)) .nil))) λB0 hc=>?_;conv=>whnf
 refine Cw.bL af rfl rfl hc 4 (aB ?_);refine cg tM4 0 My (a.1,b.1,k) h.1 (aC ?_);refine cg tM4 0 My (a.2.1,b.2.1,k) h.2.1 (aC ?_);refine cg tM4 0 My (a.2.2,b.2.2,k) h.2.2 (aC ?_);exact aj.same rfl (aN.ak (xY a k))
def Mz:Cn prog:=
 Cn.mk 83 false (Q3×Q3×Q) (λp=> .cons (aN.v p.1) (.cons (aN.v p.2.1) (.cons (fSc p.2.2) .nil))) (λp=>aN.v (xY p.1 p.2.2)) (λp=>GY p.1 p.2.2)
  (λa b _ _ h=>by injection h with h1 h2;injection h2 with _ h2;injection h2 with h2 _;injection h2 with _ _ h2;injection h2 with h2 _;injection h2 with h2 _;injection aK.vl h2 with h2 _;rw [aN.aZ h1,h2])
  (λp=>⟨aN.eK _,aN.eK _,TP _,aA⟩) (λp=>aN.ak _) (λh=>by cases h) (λp h=>YH _ _ _ h) (au rfl rfl)
def tM5:List (Cn prog):=[Mz]
theorem YI (a:Q3) (k:Q) (h:GY a k):dA 44 (.cons (aN.v a) (.cons (aK.v k) .nil)) (aN.v (xY a k)):=by
 refine PF.of_wp (c:=_) af (by decide) (fn:=f44) rfl rfl rfl (.cons (aN.ak _) (.cons (aK.ak _) .nil)) (call:=zH (aE tM5)) (λB0=>rl (ay ae _ B0)) ?_;intro B0;conv=>whnf
 refine oO (l:=tM5) (by decide) 0 (c:=Mz) rfl (a,a,k) h ?_ ?_ ?_
 .repeat' first|exact aA|exact rfl|refine⟨?_,?_⟩
 .rfl
 conv=>whnf
 exact aj.same rfl (aN.ak (xY a k))
def pQ:Cn prog:= .kz aN aK aN 44 false GY xY (λe=>by cases e) YI (au rfl rfl)
theorem MA {h:Heap} {t u:AV} (k:bE h t u):bE h (.cons (.bool false) (.cons .bA (.cons (.bool false) (.cons .bA t)))) (.cons (.bool false) (.cons (aM.v 0) (.cons (.bool false) (.cons (aM.v 0) u)))):=
 .cons (.pure .bool) (.cons .bA (.cons (.pure .bool) (.cons .bA k)))
theorem agq (q:Q):dA 45 (.cons (aK.v q) .nil) (aX.v q.1):=by
 refine PF.go af ae [] (fn:=f45) rfl rfl rfl λB0 hc=>?_;conv=>whnf
 exact aj.same rfl (aX.ak q.1)
def xm:Cn prog:= .lE aK aX 45 false (λ_=>True) (λq=>q.1) (λe=>by cases e) (λq _=>agq q) (au rfl rfl)
def tMk:List (Cn prog):=[eW,fE]
theorem MB {d:Int} (h:d≠0):bG d.sign 0=false:=nY.2 λe=>h (Int.sign_eq_zero_iff_zero.1 e)
theorem adC (n d:Int) (h:qb n d):dA 43 (.cons (aX.v n) (.cons (aX.v d) .nil)) (.aO (.cons (aK.v (ft n d)) (.cons ((aq .i64).v 0) .nil))):=by
 refine PF.go af ae tMk (fn:=f43) rfl rfl rfl λB0 hc=>?_;conv=>whnf
 refine cg tMk 0 eW d aA (aC ?_);refine vJ (MB h.2.2) (aB ?_);refine cg tMk 1 fE (n,d) h (aC ?_);exact aj.same rfl (.aO (.cons (aK.ak (ft n d)) (.cons .int .nil)))
def Ks:Cn prog:= .Gr aX aX aK (aq .i64) 43 qb ft (λ_ _=>0) adC (au rfl rfl)
def GZ:List (Cn prog):=[iC,dU,fP,fE]
def Q.div (a b:Q):Q:=if b.1=0 then(0,0)else ft (a.1*Q.dn b) (Q.dn a*b.1)
def Q.adD (a b:Q):Int:=if b.1=0 then 19 else 0
def Qh (a b:Q):Prop:=b.1≠0 ->SH a.1/\SH b.1/\SH (Q.dn a)/\SH (Q.dn b)/\qb (a.1*Q.dn b) (Q.dn a*b.1)
theorem adE (a b:Q) (h:Qh a b):dA 100 (.cons (aK.v a) (.cons (aK.v b) .nil)) (.aO (.cons (aK.v (Q.div a b)) (.cons ((aq .i64).v (Q.adD a b)) .nil))):=by
 refine PF.go af ae GZ (fn:=f100) rfl rfl rfl λB0 hc=>?_;unfold Q.div Q.adD;by_cases h0:b.1=0
 .rw [if_pos h0,if_pos h0];conv=>whnf
  refine cg GZ 0 iC b aA (aC ?_);refine bT (show bG b.1.sign 0=true by rw [h0];rfl) (aB ?_);exact .aO (.cons (.agg (MA .nil)) (.cons (.pure .int) .nil))
 .rw [if_neg h0,if_neg h0];obtain⟨h1,h2,h3,h4,h5⟩:=h h0;conv=>whnf
  refine cg GZ 0 iC b aA (aC ?_);refine vJ (MB h0) (aC ?_);refine cg GZ 1 dU b aA (aC ?_);refine cg GZ 2 fP (a.1,Q.dn b) ⟨h1,h4⟩ (aC ?_);refine cg GZ 1 dU a aA (aC ?_);refine cg GZ 2 fP (Q.dn a,b.1) ⟨h3,h2⟩ (aC ?_);refine cg GZ 3 fE (a.1*Q.dn b,Q.dn a*b.1) h5 (aC ?_);exact aj.same rfl (.aO (.cons (aK.ak (ft (a.1*Q.dn b) (Q.dn a*b.1))) (.cons .int .nil)))
def uc:Cn prog:= .Gr aK aK aK (aq .i64) 100 Qh Q.div Q.adD adE (au rfl rfl)
def YJ:List (Cn prog):=[cn]
def Q.max (a b:Q):Q:=match dj 0 (Q.cmp b a)with|true=>b|false=>a
def Q.min (a b:Q):Q:=match dj (Q.cmp b a) 0 with|true=>b|false=>a
theorem adF (a b:Q) (h:de b a):dA 99 (.cons (aK.v a) (.cons (aK.v b) .nil)) (aK.v (Q.max a b)):=by
 refine PF.go af ae YJ (fn:=f99) rfl rfl rfl λB0 hc=>?_;unfold Q.max;conv=>whnf
 refine cg YJ 0 cn (b,a) h (aC ?_);refine an (λh1=>?_) (λh1=>?_);all_goals (rw [show dj 0 (Q.cmp b a)=_ from h1];conv=>whnf)
 .exact aj.same rfl (aK.ak b)
 .exact aj.same rfl (aK.ak a)
theorem adG (a b:Q) (h:de b a):dA 195 (.cons (aK.v a) (.cons (aK.v b) .nil)) (aK.v (Q.min a b)):=by
 refine PF.go af ae YJ (fn:=f195) rfl rfl rfl λB0 hc=>?_;unfold Q.min;conv=>whnf
 refine cg YJ 0 cn (b,a) h (aC ?_);refine an (λh1=>?_) (λh1=>?_);all_goals (rw [show dj (Q.cmp b a) 0=_ from h1];conv=>whnf)
 .exact aj.same rfl (aK.ak b)
 .exact aj.same rfl (aK.ak a)
def Eg:Cn prog:= .kz aK aK aK 99 false (λa b=>de b a) Q.max (λe=>by cases e) adF (au rfl rfl)
def TQ:Cn prog:= .kz aK aK aK 195 false (λa b=>de b a) Q.min (λe=>by cases e) adG (au rfl rfl)
def nE (x:Q3):List AV:=[.bool (decide (x.1.1<0)),aM.v x.1.1.natAbs,.bool (decide (x.1.2<0)),aM.v x.1.2.natAbs,.bool (decide (x.2.1.1<0)),aM.v x.2.1.1.natAbs,.bool (decide (x.2.1.2<0)),aM.v x.2.1.2.natAbs,.bool (decide (x.2.2.1<0)),aM.v x.2.2.1.natAbs,.bool (decide (x.2.2.2<0)),aM.v x.2.2.2.natAbs]
def gQ (s:List Q3) (i:Nat):Q3:=s.getD i z3
def YK (s:List Q3) (x:Q3):Nat ->Nat ->Nat ->Nat
 |0,i,_=>i|f+1,i,j=>match bQ i j with
  |true=>(match dj (dH (gQ s ((i+j)/2)) x) 0 with|true=>YK s x f ((i+j)/2+1) j|false=>YK s x f i ((i+j)/2))
  |false=>i
def Qi (s:List Q3) (x:Q3):Nat:=YK s x s.length 0 s.length
def Ha (s:List Q3) (x:Q3):Bool:=match bQ (Qi s x) s.length with|true=>bG (dH (gQ s (Qi s x)) x) 0|false=>false
def tBq:List (Cn prog):=[eX]
def adH:AV:= .func (.func 75) .nil .nil
theorem agr (s:List Q3) (x:Q3) (hn:s.length<=1000000) (hk:∀i (h:i<s.length),ri de s[i] x):dA 222 (.cons (aN.list.v s) (.cons (aN.v x) (.cons adH .nil))) (.aO (.cons ((aq .i64).v (Qi s x:Nat)) (.cons (bj.v (Ha s x)) .nil))):=by
 refine PF.go af ae tBq (fn:=f222) rfl rfl rfl λB0 hc=>?_;have gz:∀k (hk:k<s.length),gQ s k=s[k]:=λk hk=>by
  unfold gQ;rw [List.getD_eq_getElem?_getD,List.getElem?_eq_getElem hk];rfl
 conv=>whnf
 refine Cw.loop (ι:=Nat×Nat×Nat) (λq=>bm [(0,aN.list.v s),(2,adH),(4,.ptr (pathOf 64) 0),(8,.int .i64 (s.length:Int)),(9,.int .i64 (q.2.1:Int)),(10,.int .i64 (q.2.2:Int))]) (λ_=>[]) (λ_=>hp [(64,cl (nE x))] 65)
  (λq=>q.2.1<=q.2.2/\q.2.2<=s.length/\q.2.2 - q.2.1<=q.1/\YK s x q.1 q.2.1 q.2.2=Qi s x) (λq=>q.1) ?_ (s.length,0,s.length) ⟨Nat.zero_le _,Nat.le_refl _,Nat.sub_le _ _,rfl⟩ ?_
 .intro q hq;obtain⟨f,i,j⟩:=q;obtain⟨h1,h2,h3,h4⟩:=hq;have h1:i<=j:=h1;have h2:j<=s.length:=h2;have h3:j - i<=f:=h3;have h4:YK s x f i j=Qi s x:=h4;refine aD af rfl rfl hc _ (aB ?_);refine an (λh5=>?_) (λh5=>?_)
  .have pj:i<j:=Int.ofNat_lt.1 (aQ.1 h5);obtain⟨f,rfl⟩:∃g,f=g+1:=⟨f - 1,by omega⟩
   have xF:ah .i64 (Int.add (i:Int) (j:Int))=((i+j:Nat):Int):=by
    show ah .i64 ((i:Int)+(j:Int))=_;rw [az (by omega) (by omega)];omega
   have hu:ah .u64 ((i+j:Nat):Int)=((i+j:Nat):Int):=aJ (by omega) (by omega);have hh:ah .i64 (Int.ofNat (Nat.div (Int.toNat (ah .u64 (ah .i64 (Int.add (i:Int) (j:Int))))) 2))=(((i+j)/2:Nat):Int):=by
    rw [xF,hu,Int.toNat_natCast];show ah .i64 (((i+j)/2:Nat):Int)=_;rw [az (by omega) (by omega)]
   have akf:ah .i64 (Int.add (ah .i64 (Int.ofNat (Nat.div (Int.toNat (ah .u64 (ah .i64 (Int.add (i:Int) (j:Int))))) 2))) 1)=(((i+j)/2+1:Nat):Int):=(by rw [hh];exact mX (n:=(i+j)/2+1) (by omega) (by omega));conv=>whnf
   refine⟨⟨?_,by decide⟩,?_⟩
   .show 0<=ah .u64 (ah .i64 (Int.add (i:Int) (j:Int)));rw [xF,hu];omega
   conv=>whnf
   refine aG.go ((i+j)/2) hh (by omega) (aB ?_);refine⟨_,aN.rd rfl (i:=(i+j)/2) (by omega),aB ?_⟩;refine cg tBq 0 eX (s[(i+j)/2],x) (hk _ (by omega)) (aB ?_);refine an (λh6=>?_) (λh6=>?_)
   .have h6:dj (dH s[(i+j)/2] x) 0=true:=h6;conv=>whnf
    refine⟨(f,(i+j)/2+1,j),⟨by show(i+j)/2+1<=j;omega,h2,by show j - ((i+j)/2+1)<=f;omega,?_⟩,Nat.lt_succ_self _,sb [(64,64)]⟩;rw [<-h4];show _=(match bQ i j with|true=>(match dj (dH (gQ s ((i+j)/2)) x) 0 with|true=>YK s x f ((i+j)/2+1) j|false=>_)|false=>_)
    rw [bC.2 pj,gz _ (by omega),h6]
   .have h6:dj (dH s[(i+j)/2] x) 0=false:=h6;conv=>whnf
    refine⟨(f,i,(i+j)/2),⟨by show i<=(i+j)/2;omega,by show(i+j)/2<=s.length;omega,by show(i+j)/2 - i<=f;omega,?_⟩,Nat.lt_succ_self _,sb [(64,64)]⟩;rw [<-h4];show _=(match bQ i j with|true=>(match dj (dH (gQ s ((i+j)/2)) x) 0 with|true=>_|false=>YK s x f i ((i+j)/2))|false=>_)
    rw [bC.2 pj,gz _ (by omega),h6]
  .have h5:(j:Int)<=(i:Int):=bf.1 h5;have h5:i=j:=(by omega);have e:Qi s x=i:=by
    rw [<-h4];cases f with
    |zero=>rfl|succ f=>
     show(match bQ i j with|true=>_|false=>i)=i;rw [show bQ i j=false by rw [kr,decide_eq_false (by omega)]]
   have eB:Ha s x=(match bQ i s.length with|true=>bG (dH (gQ s i) x) 0|false=>false):=(by unfold Ha;rw [e]);rw [e,eB];conv=>whnf
   refine an (λh6=>?_) (λh6=>?_)
   .have h6:i<s.length:=Int.ofNat_lt.1 (aQ.1 h6);rw [bC.2 h6,gz i h6];conv=>whnf
    refine aG.go i rfl h6 (aB ?_);refine⟨_,aN.rd rfl h6,aB ?_⟩;refine cg tBq 0 eX (s[i],x) (hk _ h6) (aC ?_);exact aj.same rfl (.aO (.cons .int (.cons .bool .nil)))
   .have h6:(s.length:Int)<=(i:Int):=bf.1 h6;rw [show bQ i s.length=false by rw [kr,decide_eq_false (by omega)]];refine aC ?_;exact aj.same rfl (.aO (.cons .int (.cons .bool .nil)))
 .exact sb [(64,64)]
theorem Kt (s:List Q3) (x:Q3):∀(f i j:Nat),i<=j ->YK s x f i j<=j
 |0,i,j,h=>h|f+1,i,j,h=>by
  unfold YK;split
  .rename_i h1;have h1:=bC.1 h1;split
   .exact Kt s x f _ _ (by omega)
   .exact Nat.le_trans (Kt s x f _ _ (by omega)) (by omega)
  .exact h
theorem zN (s:List Q3) (x:Q3):Qi s x<=s.length:=Kt s x _ _ _ (Nat.zero_le _)
def TR:Cn prog:=
 ⟨222,true,List Q3×Q3,λa=> .cons (aN.list.v a.1) (.cons (aN.v a.2) (.cons adH .nil)),λa=> .aO (.cons ((aq .i64).v (Qi a.1 a.2:Nat)) (.cons (bj.v (Ha a.1 a.2)) .nil)),λa=>a.1.length<=1000000/\∀i (h:i<a.1.length),ri de a.1[i] a.2,
  λa b _ _ h=>by injection h with h1 h;injection h with h2 _;rw [aN.list.aZ h1,aN.aZ h2],λa=>⟨aN.list.eK _,aN.eK _,⟨aA,aA⟩,aA⟩,λa=> .aO (.cons .int (.cons .bool .nil)),λ_ _ _ _ _ h=>h,λa h=>agr a.1 a.2 h.1 h.2,au rfl rfl⟩
def eJ:List (Cn prog):=[iX,iL,dU,mI,iV,fP,Ks,pQ,xm]
def nF (a b:Int):Int:=(Nat.gcd a.natAbs b.natAbs:Nat)
def pD (d:Int) (x:Q):Int:=sy d (nF d (Q.dn x))*Q.dn x
def ud (a:Q3):Int:=pD (pD (pD 1 a.1) a.2.1) a.2.2
def xG (a:Q3):Int:=nF (nF (nF 0 a.1.1) a.2.1.1) a.2.2.1
def aP (a:Q3):Q3:=match dP a with|true=>z3|false=>xY (xY a (ft (ud a) 1)) (ft 1 (xG (xY a (ft (ud a) 1))))
def kh (a:Q3):Int:=match dP a with|true=>19|false=>0
def PD (d:Int) (x:Q):Prop:=xj d (Q.dn x)/\zD d (nF d (Q.dn x))/\SH (sy d (nF d (Q.dn x)))/\SH (Q.dn x)
def ags (b:Q3):Prop:=xj 0 b.1.1/\xj (nF 0 b.1.1) b.2.1.1/\xj (nF (nF 0 b.1.1) b.2.1.1) b.2.2.1/\qb 1 (xG b)/\GY b (ft 1 (xG b))
def jl (a:Q3):Prop:=ri de a z3/\(dP a=false ->PD 1 a.1/\PD (pD 1 a.1) a.2.1/\PD (pD (pD 1 a.1) a.2.1) a.2.2/\qb (ud a) 1/\GY a (ft (ud a) 1)/\ags (xY a (ft (ud a) 1)))
theorem Hb (a:Q3) (h:jl a):dA 17 (.cons (aN.v a) .nil) (.aO (.cons (aN.v (aP a)) (.cons ((aq .i64).v (kh a)) .nil))):=by
 obtain⟨hz,h⟩:=h;unfold aP kh;cases hb:dP a with
 |true=>
  refine PF.go af ae eJ (fn:=f17) rfl rfl rfl λB0 hc=>?_;conv=>whnf
  refine cg eJ 0 iX a hz (aC ?_);refine bT hb (aB ?_);exact .aO (.cons (.agg (MA (MA (MA .nil)))) (.cons (.pure .int) .nil))
 |false=>
  obtain⟨h1,h2,h3,h4,h5,h6⟩:=h hb;unfold ud at*;refine PF.go af ae eJ (fn:=f17) rfl rfl rfl λB0 hc=>?_;conv=>whnf
  refine cg eJ 0 iX a hz (aC ?_);refine vJ hb (aB ?_);refine cg eJ 1 iL (1:Int) ⟨by decide,by decide⟩ (aC ?_);refine Cw.bL af rfl rfl hc 4 (aC ?_);refine cg eJ 2 dU a.1 aA (aC ?_);refine cg eJ 3 mI ((1:Int),Q.dn a.1) h1.1 (aC ?_);refine cg eJ 4 iV ((1:Int),nF 1 (Q.dn a.1)) h1.2.1 (aC ?_);refine cg eJ 2 dU a.1 aA (aC ?_);refine cg eJ 5 fP (sy 1 (nF 1 (Q.dn a.1)),Q.dn a.1) h1.2.2 (aC ?_);refine cg eJ 2 dU a.2.1 aA (aC ?_);refine cg eJ 3 mI (pD 1 a.1,Q.dn a.2.1) h2.1 (aC ?_);refine cg eJ 4 iV (pD 1 a.1,nF (pD 1 a.1) (Q.dn a.2.1)) h2.2.1 (aC ?_);refine cg eJ 2 dU a.2.1 aA (aC ?_);refine cg eJ 5 fP (sy (pD 1 a.1) (nF (pD 1 a.1) (Q.dn a.2.1)),Q.dn a.2.1) h2.2.2 (aC ?_);refine cg eJ 2 dU a.2.2 aA (aC ?_);refine cg eJ 3 mI (pD (pD 1 a.1) a.2.1,Q.dn a.2.2) h3.1 (aC ?_);refine cg eJ 4 iV (pD (pD 1 a.1) a.2.1,nF (pD (pD 1 a.1) a.2.1) (Q.dn a.2.2)) h3.2.1 (aC ?_);refine cg eJ 2 dU a.2.2 aA (aC ?_);refine cg eJ 5 fP (sy (pD (pD 1 a.1) a.2.1) (nF (pD (pD 1 a.1) a.2.1) (Q.dn a.2.2)),Q.dn a.2.2) h3.2.2 (aC ?_);refine cg eJ 1 iL (1:Int) ⟨by decide,by decide⟩ (aC ?_);refine cg eJ 6 Ks (pD (pD (pD 1 a.1) a.2.1) a.2.2,(1:Int)) h4 (aC ?_);refine cg eJ 7 pQ (a,ft (pD (pD (pD 1 a.1) a.2.1) a.2.2) 1) h5 (aC ?_);generalize xY a (ft (pD (pD (pD 1 a.1) a.2.1) a.2.2) 1)=b at*;obtain⟨k1,k2,k3,k4,k5⟩:=h6;refine Cw.bL af rfl rfl hc 4 (aC ?_);refine cg eJ 8 xm b.1 aA (aC ?_);refine cg eJ 3 mI ((0:Int),b.1.1) k1 (aC ?_);refine cg eJ 8 xm b.2.1 aA (aC ?_);refine cg eJ 3 mI (nF 0 b.1.1,b.2.1.1) k2 (aC ?_);refine cg eJ 8 xm b.2.2 aA (aC ?_);refine cg eJ 3 mI (nF (nF 0 b.1.1) b.2.1.1,b.2.2.1) k3 (aC ?_);refine cg eJ 1 iL (1:Int) ⟨by decide,by decide⟩ (aC ?_);refine cg eJ 6 Ks ((1:Int),xG b) k4 (aC ?_);refine cg eJ 7 pQ (b,ft 1 (xG b)) k5 (aC ?_);exact aj.same rfl (.aO (.cons (aN.ak (xY b (ft 1 (xG b)))) (.cons .int .nil)))
def lv:Cn prog:=Cn.mk 17 false Q3 (λa=> .cons (aN.v a) .nil) (λa=> .aO (.cons (aN.v (aP a)) (.cons ((aq .i64).v (kh a)) .nil))) jl
 (λa b _ _ h=>by injection h with h _;rw [aN.aZ h]) (λa=>⟨aN.eK a,aA⟩) (λa=> .aO (.cons (aN.ak _) (.cons .int .nil))) (λh=>by cases h) Hb (au rfl rfl)
def MC:List (Cn prog):=[kF]
def iY (m:Ef) (v:Q3):Q3:=(cQ m.1.1 v,cQ m.1.2.1 v,cQ m.1.2.2 v)
def uf (m:Ef) (v:Q3):Prop:=oP m.1.1 v/\oP m.1.2.1 v/\oP m.1.2.2 v
theorem adI (m:Ef) (v:Q3) (h:uf m v):dA 170 (.cons (lR.v m) (.cons (aN.v v) .nil)) (aN.v (iY m v)):=by
 refine PF.go af ae MC (fn:=f170) rfl rfl rfl λB0 hc=>?_;conv=>whnf
 refine Cw.bL af rfl rfl hc 4 (aC ?_);refine cg MC 0 kF (m.1.1,v) h.1 (aC ?_);refine cg MC 0 kF (m.1.2.1,v) h.2.1 (aC ?_);refine cg MC 0 kF (m.1.2.2,v) h.2.2 (aC ?_);exact aj.same rfl (aN.ak (iY m v))
def Eh:Cn prog:= .kz lR aN aN 170 false uf iY (λe=>by cases e) adI (au rfl rfl)
def adJ:List (Cn prog):=[Eh,Kg]
def oQ (m:Ef) (v:Q3):Q3:=jS Q.add (iY m v) m.2
def MD (m:Ef) (v:Q3):Prop:=uf m v/\ri nD (iY m v) m.2
theorem YL (m:Ef) (v:Q3) (h:MD m v):dA 169 (.cons (lR.v m) (.cons (aN.v v) .nil)) (aN.v (oQ m v)):=by
 refine PF.go af ae adJ (fn:=f169) rfl rfl rfl λB0 hc=>?_;refine aC ?_;refine cg adJ 0 Eh (m,v) h.1 (aC ?_);refine cg adJ 1 Kg (iY m v,m.2) h.2 (aC ?_);exact aj.same rfl (aN.ak (oQ m v))
def ME:Cn prog:= .kz lR aN aN 169 false MD oQ (λe=>by cases e) YL (au rfl rfl)
def kV (vs:List Q3) (e:WV):Q3:=match dj (dH (aP (jS Q.sub (gQ vs e.2.1.toNat) (gQ vs e.1.toNat))) z3) 0 with
 |true=>jS Q.sub z3 (aP (jS Q.sub (gQ vs e.2.1.toNat) (gQ vs e.1.toNat)))|false=>aP (jS Q.sub (gQ vs e.2.1.toNat) (gQ vs e.1.toNat))
def fo (vs:List Q3) (xs:List Q3) (e:WV):List Q3:=match Ha xs (kV vs e)with|true=>xs|false=>wq xs (Qi xs (kV vs e)) (kV vs e)
def dK (s:cW):List Q3:=s.2.2.foldl (fo s.1) []
structure MF (vs:List Q3) (e:WV):Prop where
 i:∃i:Nat,e.1=(i:Int)/\i<vs.length
 j:∃j:Nat,e.2.1=(j:Int)/\j<vs.length
 sub:ri kg (gQ vs e.2.1.toNat) (gQ vs e.1.toNat)
 aks:jl (jS Q.sub (gQ vs e.2.1.toNat) (gQ vs e.1.toNat))
 cmp:ri de (aP (jS Q.sub (gQ vs e.2.1.toNat) (gQ vs e.1.toNat))) z3
 neg:ri kg z3 (aP (jS Q.sub (gQ vs e.2.1.toNat) (gQ vs e.1.toNat)))
structure zO (s:cW):Prop where
 n:s.2.2.length<=1000
 e:∀q (h:q<s.2.2.length),MF s.1 s.2.2[q]
 c:∀p q (h:p<s.2.2.length) (k:q<s.2.2.length),ri de (kV s.1 s.2.2[p]) (kV s.1 s.2.2[q])
theorem TS {α:Type} {xs:List α} {i:Nat} {d x:α} (h:x∈wq xs i d):x=d\/x∈xs:=by
 unfold wq at h;rcases List.mem_append.1 h with h|h
 .exact .inr (List.mem_of_mem_take h)
 .rcases List.mem_cons.1 h with h|h
  .exact .inl h
  .exact .inr (List.mem_of_mem_drop h)
theorem mf (vs:List Q3):∀(es:List WV) (xs:List Q3),(∀x∈es.foldl (fo vs) xs,x∈xs\/∃e∈es,x=kV vs e)/\(es.foldl (fo vs) xs).length<=xs.length+es.length
 |[],xs=>⟨λx h=> .inl h,Nat.le_refl _⟩
 |e::es,xs=>by
  obtain⟨h1,h2⟩:=mf vs es (fo vs xs e);have h3:(∀x∈fo vs xs e,x=kV vs e\/x∈xs)/\(fo vs xs e).length<=xs.length+1:=by
   unfold fo;split
   .exact⟨λx h=> .inr h,Nat.le_succ _⟩
   .exact⟨λx h=>TS h,Nat.le_of_eq (zM (zN _ _))⟩
  refine⟨λx hx=>?_,by rw [List.length_cons];exact Nat.le_trans h2 (by omega)⟩;rcases h1 x hx with h|⟨e',h,h'⟩
  .rcases h3.1 x h with h|h
   .exact .inr ⟨e,List.mem_cons_self ..,h⟩
   .exact .inl h
  .exact .inr ⟨e',List.mem_cons_of_mem _ h,h'⟩
def Ei:List (Cn prog):=[Kh,lv,eX,tY,TR]
theorem adK (s:cW) (h:zO s):dA 175 (.cons (aL.v s) .nil) (aN.list.v (dK s)):=by
 obtain⟨vs,fs,es⟩:=s;obtain⟨hn,he,hcc⟩:=h;have hn:es.length<=1000:=hn;have he:∀q (h:q<es.length),MF vs es[q]:=he;have hcc:∀p q (h:p<es.length) (k:q<es.length),ri de (kV vs es[p]) (kV vs es[q]):=hcc;refine PF.of_wp af (by decide) (fn:=f175) rfl rfl rfl (.cons (aL.ak _) .nil) (call:=Ch (aE Ei)) (λB0=>GV (ay ae Ei B0)) λB0=>?_;have hc:=GV (ay ae Ei B0);conv=>whnf
 refine Cw.lp (σ:=Unit) af rfl rfl hc es.length (λq _=>[(1,.ptr (pathOf 64) 0),(3,.gs (pathOf 65) ((es.take q).foldl (fo vs) []).length 12),(11,jy.list.v es),(12,.int .i64 (es.length:Int)),(13,.int .i64 (q:Int))])
  (λq _=>hp [(64,cl [aN.list.v vs,bK.list.v fs,jy.list.v es]),(65,.gl (aN.l ((es.take q).foldl (fo vs) [])) false)] 66) (λ_ _=>True) () trivial (sb [(64,64),(65,0)]) (λq _ hq _=>?_)
 conv=>whnf
 refine an (λh1=>?_) (λh1=>?_)
 .have hq:=mY h1;have bM:=mX hq (by omega);obtain⟨⟨i,hi,fw⟩,⟨j,hj,SU⟩,g1,g2,g3,g4⟩:=he q hq;have gi:gQ vs es[q].1.toNat=vs[i]:=by
   rw [hi];unfold gQ;rw [List.getD_eq_getElem?_getD,Int.toNat_natCast,List.getElem?_eq_getElem fw];rfl
  have gj:gQ vs es[q].2.1.toNat=vs[j]:=by
   rw [hj];unfold gQ;rw [List.getD_eq_getElem?_getD,Int.toNat_natCast,List.getElem?_eq_getElem SU];rfl
  have hD:kV vs es[q]=match dj (dH (aP (jS Q.sub vs[j] vs[i])) z3) 0 with|true=>jS Q.sub z3 (aP (jS Q.sub vs[j] vs[i]))|false=>aP (jS Q.sub vs[j] vs[i]):=by unfold kV;rw [gi,gj]
  rw [gi,gj]at g1 g2 g3 g4;have mw:(es.take (q+1)).foldl (fo vs) []=fo vs ((es.take q).foldl (fo vs) []) es[q]:=by
   rw [List.take_succ_eq_append_getElem hq,List.foldl_append];rfl
  obtain⟨f1,f2⟩:=mf vs (es.take q) [];have fY:∀x∈(es.take q).foldl (fo vs) [],ri de x (kV vs es[q]):=λx hx=>by
   rcases f1 x hx with h|⟨e,h,rfl⟩
   .cases h
   .obtain⟨p,hp,rfl⟩:=List.mem_iff_getElem.1 (List.mem_of_mem_take h);exact hcc p q hp hq
  have hlen:((es.take q).foldl (fo vs) []).length<=1000:=by
   rw [List.length_take]at f2;have f2:((es.take q).foldl (fo vs) []).length<=0+min q es.length:=f2;omega
  generalize (es.take q).foldl (fo vs) []=xs at*;rw [mw];unfold fo;conv=>whnf
  refine aG.go q rfl hq (aB ?_);refine⟨_,jy.rd rfl hq,aC ?_⟩;refine aG.go j hj SU (aB ?_);refine⟨_,aN.rd rfl SU,aC ?_⟩;refine aG.go i hi fw (aB ?_);refine⟨_,aN.rd rfl fw,aC ?_⟩;refine sf (by decide) (cg Ei 0 Kh (vs[j],vs[i]) g1 (aB ?_));repeat(first|(refine nw ?_;conv=>whnf)|(refine nw ?_ ⟨_,aN.rd (P:=prog) (t:=44) rfl SU,aN.rd (P:=prog) (t:=44) rfl SU⟩;conv=>whnf)|(refine nw ?_ ⟨_,aN.rd (P:=prog) (t:=44) rfl fw,aN.rd (P:=prog) (t:=44) rfl fw⟩;conv=>whnf))
  refine sf (by decide) (cg Ei 1 lv (jS Q.sub vs[j] vs[i]) g2 (aC ?_));refine sf (by decide) (cg Ei 2 eX (aP (jS Q.sub vs[j] vs[i]),z3) g3 (aC ?_));refine an (λh2=>?_) (λh2=>?_)
  .have h2:dj (dH (aP (jS Q.sub vs[j] vs[i])) z3) 0=true:=h2;rw [h2]at hD;have hD:kV vs es[q]=jS Q.sub z3 (aP (jS Q.sub vs[j] vs[i])):=hD;rw [hD]at fY ⊢;refine aC ?_;refine sf (by decide) (cg Ei 3 tY (aP (jS Q.sub vs[j] vs[i])) g4 (aC ?_));refine sf (by decide) (cg Ei 4 TR (xs,jS Q.sub z3 (aP (jS Q.sub vs[j] vs[i]))) ⟨Nat.le_trans hlen (by decide),λi h=>fY _ (List.getElem_mem h)⟩ (hbor:=?_) (has:=?_) ?_);rotate_left
   .repeat' first|exact aA|exact(aN.ep _).symm|exact rfl|refine And.intro ?_ ?_
   .rfl
   refine aC ?_;refine an (λh3=>?_) (λh3=>?_)
   .have h3:Ha xs (jS Q.sub z3 (aP (jS Q.sub vs[j] vs[i])))=false:=(by have h3:aU (Ha xs (jS Q.sub z3 (aP (jS Q.sub vs[j] vs[i]))))=true:=h3;cases hb:Ha xs (jS Q.sub z3 (aP (jS Q.sub vs[j] vs[i])))with|true=>rw [hb]at h3;cases h3|false=>rfl);rw [h3];refine aC ?_;refine Mw ⟨pathOf 65,pathOf 68,xs,Qi xs (jS Q.sub z3 (aP (jS Q.sub vs[j] vs[i]))),jS Q.sub z3 (aP (jS Q.sub vs[j] vs[i])),false⟩ ?_ rfl ?_
    .exact⟨zN _ _,Nat.le_trans hlen (by decide),(by decide:pathOf 65≠pathOf 68),rfl,rfl⟩
    have hI:=zM (xs:=xs) (i:=Qi xs (jS Q.sub z3 (aP (jS Q.sub vs[j] vs[i])))) (d:=(jS Q.sub z3 (aP (jS Q.sub vs[j] vs[i])))) (zN _ _);have hI:=hI.symm;refine aC ?_;exact⟨(),hq,aA,sb [(64,64),(65,69)]⟩
   .have h3:Ha xs (jS Q.sub z3 (aP (jS Q.sub vs[j] vs[i])))=true:=(by have h3:aU (Ha xs (jS Q.sub z3 (aP (jS Q.sub vs[j] vs[i]))))=false:=h3;cases hb:Ha xs (jS Q.sub z3 (aP (jS Q.sub vs[j] vs[i])))with|false=>rw [hb]at h3;cases h3|true=>rfl);rw [h3];refine aC ?_;exact⟨(),hq,aA,sb [(64,64),(65,65)]⟩
  .have h2:dj (dH (aP (jS Q.sub vs[j] vs[i])) z3) 0=false:=h2;rw [h2]at hD;have hD:kV vs es[q]=aP (jS Q.sub vs[j] vs[i]):=hD;rw [hD]at fY ⊢;refine aC ?_;generalize aP (jS Q.sub vs[j] vs[i])=d at*;refine sf (by decide) (cg Ei 4 TR (xs,d) ⟨Nat.le_trans hlen (by decide),λi h=>fY _ (List.getElem_mem h)⟩ (hbor:=?_) (has:=?_) ?_);rotate_left
   .repeat' first|exact aA|exact(aN.ep _).symm|exact rfl|refine And.intro ?_ ?_
   .rfl
   refine aC ?_;refine an (λh3=>?_) (λh3=>?_)
   .have h3:Ha xs d=false:=(by have h3:aU (Ha xs d)=true:=h3;cases hb:Ha xs d with|true=>rw [hb]at h3;cases h3|false=>rfl);rw [h3];refine aC ?_;refine Mw ⟨pathOf 65,pathOf 68,xs,Qi xs d,d,false⟩ ?_ rfl ?_
    .exact⟨zN _ _,Nat.le_trans hlen (by decide),(by decide:pathOf 65≠pathOf 68),rfl,rfl⟩
    have hI:=zM (xs:=xs) (i:=Qi xs d) (d:=d) (zN _ _);have hI:=hI.symm;refine aC ?_;exact⟨(),hq,aA,sb [(64,64),(65,69)]⟩
   .have h3:Ha xs d=true:=(by have h3:aU (Ha xs d)=false:=h3;cases hb:Ha xs d with|false=>rw [hb]at h3;cases h3|true=>rfl);rw [h3];refine aC ?_;exact⟨(),hq,aA,sb [(64,64),(65,65)]⟩
 .obtain rfl:=ou hq h1;rw [List.take_length];refine aC ?_;exact aN.gk rfl rfl rfl
def wt:Cn prog:= .lE aL aN.list 175 false zO dK (λe=>by cases e) adK (au rfl rfl)
end
end
end Go.Sy
