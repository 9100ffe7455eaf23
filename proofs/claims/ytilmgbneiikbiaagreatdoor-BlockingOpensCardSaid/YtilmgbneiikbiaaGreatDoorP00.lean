/- A piece of the proof, made small by a program of ours. -/
import GoSem.Step
import Derived.AtR
import Derived.Below
import Derived.RangeFuncLeaves
import Derived.Laws.Cells
import Derived.Laws.IdiomCopy
set_option linter.all false
set_option maxRecDepth 1000000
set_option maxHeartbeats 0
namespace Go.RowKit
end Go.RowKit
namespace Go.Proofs.Tryz
end Go.Proofs.Tryz
namespace Go.Sy
theorem aB:True:=trivial
theorem oR {p:Prop} (h:p:=by repeat' first|exact trivial|exact rfl|refine And.intro ?_ ?_):p:=h
theorem Ap {p:Prop} (h:p:=by repeat' first|exact trivial|exact rfl|assumption|refine And.intro ?_ ?_):p:=h
theorem aC {p q:Prop} (h:q) (e:q ->p:=by intro hq;(conv=>whnf);exact hq):p:=e h
theorem eD {p q:Prop} (h:q) (e:q ->p:=by intro hq;(conv=>whnf);(repeat first|refine⟨⟨_,rfl,rfl⟩,?_⟩|refine⟨trivial,?_⟩);(conv=>whnf);exact hq):p:=e h
theorem kj {p q:Prop} (h:q) (e:q ->p:=by intro hq;(conv=>whnf);(repeat refine⟨⟨_,rfl,rfl⟩,?_⟩);(conv=>whnf);exact hq):p:=e h
noncomputable section
inductive Pos where
 |e
 |o (p:Pos)
 |i (p:Pos)
 deriving DecidableEq
def Pos.succ (p:Pos):Pos:=Pos.rec (.i .e) (λp _=> .i p) (λ_ ih=> .o ih) p
def Pos.toNat (p:Pos):Nat:=Pos.rec 0 (λ_ n=>2*n) (λ_ n=>2*n+1) p
def pathOf (n:Nat):Pos:=Nat.rec .e (λ_ p=>p.succ) n
def gU (l:List Nat):List (Pos×Option Pos):=l.map λk=>(pathOf k,some (pathOf k))
def Pos.beq (p:Pos):Pos ->Bool:=
 Pos.rec (λq=>Pos.casesOn q true (λ_=>false) (λ_=>false))
  (λ_ ih q=>Pos.casesOn q false ih (λ_=>false))
  (λ_ ih q=>Pos.casesOn q false (λ_=>false) ih) p
theorem Pos.cV (p:Pos):p.succ.toNat=p.toNat+1:=by
 induction p with
 |e=>rfl|o p ih=>rfl|i p ih=>show 2*(Pos.succ p).toNat=2*p.toNat+1+1;omega
theorem eE (n:Nat):(pathOf n).toNat=n:=by
 induction n with
 |zero=>rfl|succ n ih=>show(Pos.succ (pathOf n)).toNat=_;rw [Pos.cV,ih]
theorem dJ {m n:Nat} (h:pathOf m=pathOf n):m=n:=by
 rw [<-eE m,<-eE n,h]
theorem Pos.beq_eq:∀(p q:Pos),p.beq q=true ->p=q:=by
 intro p;induction p with
 |e=>intro q h;cases q<;>first|rfl|exact absurd h (by simp [Pos.beq])
 |o p ih=>intro q h;cases q with
  |o q=>exact congrArg _ (ih q h)|e=>exact absurd h (by simp [Pos.beq])|i q=>exact absurd h (by simp [Pos.beq])
 |i p ih=>intro q h;cases q with
  |i q=>exact congrArg _ (ih q h)|e=>exact absurd h (by simp [Pos.beq])|o q=>exact absurd h (by simp [Pos.beq])
inductive Tr (α:Type) where
 |leaf
 |node (l:Tr α) (v:Option α) (r:Tr α)
 deriving DecidableEq
namespace Tr
variable {α:Type}
def get (t:Tr α):Pos ->Option α:=
 Tr.rec (λ_=>none) (λ_ v _ gl gr p=>Pos.casesOn p v gl gr) t
def Ax (x:α) (p:Pos):Tr α:=Pos.rec (.node .leaf (some x) .leaf) (λ_ t=> .node t none .leaf) (λ_ t=> .node .leaf none t) p
def set (x:α) (t:Tr α):Pos ->Tr α:=
 Tr.rec (λp=>Ax x p) (λl v r sl sr p=>Pos.casesOn p (.node l (some x) r) (λq=> .node (sl q) v r) (λq=> .node l v (sr q))) t
def del (t:Tr α):Pos ->Tr α:=
 Tr.rec (λ_=> .leaf) (λl v r sl sr p=>Pos.casesOn p (.node l none r) (λq=> .node (sl q) v r) (λq=> .node l v (sr q))) t
theorem Rl (p:Pos):(leaf:Tr α).get p=none:=rfl
theorem Rm (x:α):∀(p q:Pos),(Ax x p).get q=if q=p then some x else none:=by
 intro p;induction p with
 |e=>intro q;cases q<;>simp [Ax,get]|o p ih=>
  intro q;cases q with
  |e=>simp [Ax,get]|o q=>show(Ax x p).get q=_;rw [ih];simp|i q=>simp [Ax,get]
 |i p ih=>
  intro q;cases q with
  |e=>simp [Ax,get]|i q=>show(Ax x p).get q=_;rw [ih];simp|o q=>simp [Ax,get]
theorem bE (x:α):∀(t:Tr α) (p q:Pos),(set x t p).get q=if q=p then some x else t.get q:=by
 intro t;induction t with
 |leaf=>intro p q;exact Rm x p q|node l v r ihl ihr=>
  intro p q;cases p with
  |e=>cases q<;>simp [set,get]|o p=>
   cases q with
   |e=>simp [set,get]|o q=>show(set x l p).get q=_;rw [ihl];simp [get]|i q=>simp [set,get]
  |i p=>
   cases q with
   |e=>simp [set,get]|i q=>show(set x r p).get q=_;rw [ihr];simp [get]|o q=>simp [set,get]
theorem rn:∀(t:Tr α) (p q:Pos),(del t p).get q=if q=p then none else t.get q:=by
 intro t;induction t with
 |leaf=>intro p q;show none=_;split<;>rfl|node l v r ihl ihr=>
  intro p q;cases p with
  |e=>cases q<;>simp [del,get]|o p=>
   cases q with
   |e=>simp [del,get]|o q=>show(del l p).get q=_;rw [ihl];simp [get]|i q=>simp [del,get]
  |i p=>
   cases q with
   |e=>simp [del,get]|i q=>show(del r p).get q=_;rw [ihr];simp [get]|o q=>simp [del,get]
end Tr
inductive AV where
 |undef
 |bool (b:Bool)
 |int (k:IntKind) (n:Int)
 |xp (k:IntKind) (lo hi:Int)
 |str (s:List Nat)
 |pZ (m:Nat)
 |ptr (id:Pos) (off:Nat)
 |dq (l:AV) (k:Nat)
 |fy
 |slice (id:Pos) (off len cap sz:Nat)
 |ro (n:Nat) (l:AV)
 |gs (id:Pos) (n sz:Nat)
 |sle (id:Pos) (sz:Nat)
 |bt
 |map (id:Pos)
 |qa
 |func (fn:Fn) (first captured:AV)
 |yield (id:Pos)
 |kR
 |iface (t:TypeId) (v:AV)
 |lM
 |agg (l:AV)
 |aS (l:AV)
 |nil
 |cons (h t:AV)
 deriving DecidableEq
def AV.fold {β:Type} (other nil:β) (cons:AV ->AV ->β ->β) (v:AV):β:=
 AV.rec (motive:=λ_=>β) other (λ_=>other) (λ_ _=>other) (λ_ _ _=>other) (λ_=>other) (λ_=>other) (λ_ _=>other) (λ_ _ _=>other) other (λ_ _ _ _ _=>other)
  (λ_ _ _=>other) (λ_ _ _=>other) (λ_ _=>other) other (λ_=>other) other (λ_ _ _ _ _=>other) (λ_=>other) other (λ_ _ _=>other) other (λ_ _=>other) (λ_ _=>other) nil
  (λh t _ r=>cons h t r) v
inductive AO where
 |cells (t:Tr AV) (n:Nat) (ro:Bool)
 |gl (l:AV) (ro:Bool)
 |mp (es:List (AV×AV))
 |si (s:List Nat) (pos:Nat)
 |mi (m:Pos) (n:Nat) (seen:List Nat)
 |loop (ready:Bool) (gC:Option (Option Nat)) (fn:FuncId) (kl:Tr AV) (nt:Nat) (params:Array Tmp) (assign body:Code) (Aq:Pos)
 |marks
class aT where
 l:List (AV×Nat)
 k:Nat
structure Heap where
 t:Tr AO
 n:Pos
inductive OR where
 |fail
 |val (v:AV) (h:Heap)
 |enter (f:FuncId) (args:AV) (h:Heap)
 |round (id:Pos) (args:AV) (h:Heap)
inductive CR where
 |fail
 |ret (v:AV) (h:Heap)
inductive R where
 |fail
 |ok (r:Tr AV) (m:List Pos) (h:Heap)
 |exit (id:Nat) (r:Tr AV) (m:List Pos) (h:Heap)
 |ret (r:Tr AV) (m:List Pos) (h:Heap)
end
end Go.Sy
namespace Go.Sy
noncomputable section
def bJ (a b:Nat):Bool:=Nat.ble (Nat.succ a) b
def cQ (x y:Int):Bool:=
 Int.casesOn x (λa=>Int.casesOn y (λb=>bJ a b) (λ_=>false)) (λa=>Int.casesOn y (λ_=>true) (λb=>bJ b a))
def gD (x y:Int):Bool:=Bool.casesOn (cQ y x) true false
def bD (x y:Int):Bool:=
 Int.casesOn x (λa=>Int.casesOn y (λb=>Nat.beq a b) (λ_=>false)) (λa=>Int.casesOn y (λ_=>false) (λb=>Nat.beq a b))
def aY (b:Bool):Bool:=Bool.casesOn b true false
def aF (a b:Bool):Bool:=Bool.casesOn a false b
def Ft (k:IntKind):Nat:=IntKind.casesOn k 128 32768 2147483648 9223372036854775808 0 0 0 0
def yf (k:IntKind):Nat:=IntKind.casesOn k 128 32768 2147483648 9223372036854775808 256 65536 4294967296 18446744073709551616
def Rn (k:IntKind):Nat:=IntKind.casesOn k 0 1 2 3 4 5 6 7
def qb (k l:IntKind):Bool:=Nat.beq (Rn k) (Rn l)
def fits (k:IntKind) (n:Int):Bool:=Int.casesOn n (λa=>bJ a (yf k)) (λa=>bJ a (Ft k))
def aj (k:IntKind) (n:Int):Int:=Bool.casesOn (fits k n) (IntKind.wrap k n) n
def ofL (l:List AV):AV:=List.rec .nil (λa _ t=> .cons a t) l
def bytesOf (s:ByteArray):List Nat:=s.data.toList.map UInt8.toNat
def Ro (l c:Nat):AV:=Bool.casesOn (Nat.beq l 0) .undef (Bool.casesOn (Nat.beq c 0) .undef .bt)
def aa2 (fn:Fn) (f c:List Value):AV:=
 List.casesOn f (List.casesOn c (Fn.casesOn fn (λg=> .func (.func g) .nil .nil) (λ_=> .undef) (λ_ _=> .undef) (λ_ _ _ _=> .undef) (λ_=> .undef)) (λ_ _=> .undef)) (λ_ _=> .undef)
def CL (v:Value):AV:=
 match v with
 | .bool b=> .bool b| .int k n=> .int k n| .string s=> .str (bytesOf s)| .pointer none=> .fy| .slice none l c=>Ro l c| .map none=> .qa| .func fn f c=>aa2 fn f.toList c.toList| .nilFunc=> .kR| .nilIface=> .lM|_=> .undef
def fc (v:Value):AV:=
 match v with
 | .agg cs=> .agg (ofL (cs.toList.map CL))| .tuple vs=>List.casesOn vs.toList (.aS .nil) (λ_ _=> .undef)|v=>CL v
def gv (o:Option AV):AV:=Option.casesOn (motive:=λ_=>AV) o .undef (λv=>v)
def ev (x:Operand):Tr AV ->AV:=
 Operand.casesOn (motive:=λ_=>Tr AV ->AV) x (λt r=>gv (r.get (pathOf t))) (λv _=>fc v) (λg _=>Bool.casesOn (motive:=λ_=>AV) (bJ g 64) .undef (.ptr (pathOf g) 0))
  (λf _=> .func (.func f) .nil .nil)
def qc (l:List Operand):Tr AV ->AV:=List.rec (motive:=λ_=>Tr AV ->AV) (λ_=> .nil) (λx _ ih r=> .cons (ev x r) (ih r)) l
def AV.jG (v:AV):Bool:=
 match v with| .undef=>false| .agg _=>false| .aS _=>false| .nil=>false| .cons _ _=>false|_=>true
def AV.cells (v:AV):AV:=
 match v with| .undef=> .cons .undef .nil| .agg l=>l| .aS _=> .cons .undef .nil| .nil=> .cons .undef .nil| .cons _ _=> .cons .undef .nil|v=> .cons v .nil
def AV.len (v:AV):Nat:=AV.fold 0 0 (λ_ _ n=>Nat.succ n) v
def Ay (c:Tr AV) (n:Nat):Nat ->Option AV:=
 Nat.rec (motive:=λ_=>Nat ->Option AV) (λ_=>some .nil)
  (λ_ ih off=>Option.casesOn (motive:=λ_=>Option AV) (c.get (pathOf off)) none (λv=>Option.casesOn (motive:=λ_=>Option AV) (ih (Nat.succ off)) none (λl=>some (.cons v l)))) n
def lay (n:Nat):AV ->Nat ->Tr AV ->Option (Tr AV):=
 Nat.rec (motive:=λ_=>AV ->Nat ->Tr AV ->Option (Tr AV))
  (λl _ c=>match l with| .nil=>some c|_=>none)
  (λ_ ih l off c=>match l with
   | .cons a t=>Bool.casesOn (motive:=λ_=>Option (Tr AV)) a.jG none (ih t (Nat.succ off) (c.set a (pathOf off)))|_=>none) n
def app (a:AV):AV ->AV:=AV.fold (λb=>b) (λb=>b) (λh _ ih b=> .cons h (ih b)) a
def fW (n:Nat) (z:AV):AV:=Nat.rec .nil (λ_ t=>app z t) n
def dS (n:Nat):AV ->Option AV:=
 Nat.rec (motive:=λ_=>AV ->Option AV) (λ_=>some .nil)
  (λ_ ih l=>match l with
   | .cons a t=>Option.casesOn (motive:=λ_=>Option AV) (ih t) none (λl=>some (.cons a l))|_=>none) n
def cZ (n:Nat):AV ->AV:=
 Nat.rec (motive:=λ_=>AV ->AV) (λl=>l) (λ_ ih l=>match l with| .cons _ t=>ih t|_=> .undef) n
def gV (off:Nat):AV ->AV ->AV:=
 Nat.rec (motive:=λ_=>AV ->AV ->AV)
  (λl p=>AV.fold (β:=AV ->AV) (λ_=> .undef) (λl=>l) (λh _ ih l=>match l with| .cons _ t=> .cons h (ih t)|_=> .undef) p l)
  (λ_ ih l p=>match l with| .cons a t=> .cons a (ih t p)|_=> .undef) off
def fN (P:Program) (t:TypeId):Option Nat:=(P.info? t).map (·.size)
def lD (P:Program) (t:TypeId):Option Value:=(P.info? t).bind (·.zero)
def iM (P:Program) (t:TypeId):Option Nat:=(P.info? t).map (·.bytes)
def ss (P:Program) (t:TypeId):Option (Option Nat):=
 match P.underlying t with
 |some (.struct _)|some (.array _ _)=>(fN P t).map some|some _=>some none|none=>none
def iG (P:Program) (t:TypeId):Option TypeId:=match P.underlying t with|some (.slice e)=>some e|_=>none
def okV (v:AV):Bool:=
 match v with| .undef=>false| .aS _=>false| .nil=>false| .cons _ _=>false|_=>true
def dM (P:Program) (t:TypeId):Option AV:=(lD P t).bind λv=>Bool.casesOn (motive:=λ_=>Option AV) (okV (fc v)) none (some (fc v).cells)
inductive MK where
 |ptr
 |slice (len cap sz:Nat)
def MK.av (m:MK):Pos ->AV:=MK.casesOn (motive:=λ_=>Pos ->AV) m (λid=> .ptr id 0) (λl _ z id=> .gs id l z)
structure AL where
 l:AV
 n:Nat
 k:MK
inductive OC where
 |bad
 |pure (f:Program ->Tr AV ->Option AV)
 |load (f:Program ->Tr AV ->Heap ->Option AV)
 |alloc (f:Program ->Tr AV ->Option AL)
 |lE (f:Program ->Tr AV ->Heap ->OR)
def je (h:Heap) (id:Pos):Option (Tr AV×Nat×Bool):=
 Option.casesOn (motive:=λ_=>Option (Tr AV×Nat×Bool)) (h.t.get id) none
  (λo=>AO.casesOn (motive:=λ_=>Option (Tr AV×Nat×Bool)) o (λt n ro=>some (t,n,ro)) (λ_ _=>none) (λ_=>none) (λ_ _=>none) (λ_ _ _=>none) (λ_ _ _ _ _ _ _ _ _=>none) none)
def uq (l:AV) (n:Nat) (k:MK):Option AO:=
 MK.casesOn (motive:=λ_=>Option AO) k (Option.casesOn (motive:=λ_=>Option AO) (lay n l 0 .leaf) none (λt=>some (.cells t n false))) (λ_ _ _=>some (.gl l false))
def iU (l:AV) (n:Nat) (h:Heap) (k:MK):OR:=
 Option.casesOn (motive:=λ_=>OR) (uq l n k) .fail (λo=> .val (k.av h.n) ⟨h.t.set o h.n,h.n.succ⟩)
def gW (h:Heap) (id:Pos) (off n:Nat):Option AV:=
 match h.t.get id with
 |some (.cells t _ _)=>Ay t n off|some (.gl l _)=>dS n (cZ off l)|_=>none
def Fu (h:Heap) (id:Pos):Bool:=match h.t.get id with|some (.cells _ _ ro)=>Bool.casesOn ro true false|some (.gl _ ro)=>Bool.casesOn ro true false|_=>false
def dN (l:AV):Bool:=AV.fold false true (λa _ r=>Bool.casesOn (motive:=λ_=>Bool) a.jG false r) l
def Rp:Nat:=1099511627776
def CM (P:Program) (t:TypeId) (c:Tr AV) (off:Nat):Option AV:=
 Option.casesOn (motive:=λ_=>Option AV) (ss P t) none (λm=>
  Option.casesOn (motive:=λ_=>Option AV) m (c.get (pathOf off)) (λn=>(Ay c n off).map .agg))
def gM (P:Program) (t:TypeId) (l:AV):Option AV:=
 Option.casesOn (motive:=λ_=>Option AV) (ss P t) none (λm=>
  Option.casesOn (motive:=λ_=>Option AV) m (match l with| .cons a _=>some a|_=>none) (λn=>(dS n l).map .agg))
def wL (P:Program) (t:TypeId) (a:AV) (h:Heap):Option AV:=
 match a with
 | .dq l k=>gM P t (cZ k l)| .ptr id off=>(match h.t.get id with
  |some (.cells c _ _)=>CM P t c off|some (.gl l _)=>gM P t (cZ off l)|_=>none)
 |_=>none
def su (t:TypeId) (a:Operand) (P:Program) (r:Tr AV) (h:Heap):Option AV:=wL P t (ev a r) h
def putAt (id:Pos) (off n:Nat) (l:AV) (h:Heap):Option Heap:=
 match h.t.get id with
 |some (.cells t m ro)=>
  Bool.casesOn (motive:=λ_=>Option Heap) ro
   (Bool.casesOn (motive:=λ_=>Option Heap) (Nat.ble (Nat.add off n) m) none
    (Option.casesOn (motive:=λ_=>Option Heap) (lay n l off t) none (λt'=>some ⟨h.t.set (.cells t' m false) id,h.n⟩)))
   none
 |some (.gl g ro)=>
  Bool.casesOn (motive:=λ_=>Option Heap) ro
   (Bool.casesOn (motive:=λ_=>Option Heap) (aF (Nat.ble (Nat.add off n) g.len) (aF (Nat.beq l.len n) (dN l))) none (some ⟨h.t.set (.gl (gV off g l) false) id,h.n⟩))
   none
 |_=>none
def sY (t:TypeId) (a x:Operand) (P:Program) (r:Tr AV) (h:Heap):OR:=
 match ev a r with
 | .ptr id off=>Option.casesOn (motive:=λ_=>OR) (fN P t) .fail (λn=>Option.casesOn (motive:=λ_=>OR) (putAt id off n (ev x r).cells h) .fail (λh'=> .val (.aS .nil) h'))|_=> .fail
def acm (_:TypeId) (x:Operand) (_:Program) (r:Tr AV):Option AL:=some ⟨(ev x r).cells,(ev x r).cells.len,.ptr⟩
def IC (t:TypeId) (P:Program) (_:Tr AV):Option AL:=Option.casesOn (motive:=λ_=>Option AL) (dM P t) none (λz=>some ⟨z,z.len,.ptr⟩)
def places (P:Program) (t:TypeId):Option (Nat ->Option (Nat×Nat)):=
 match P.underlying t with
 |some (.struct fs)=>Bool.casesOn (motive:=λ_=>Option (Nat ->Option (Nat×Nat))) (fs.toList.all λf=>(fN P f.type).isSome) none (some λi=>(fs[i]?).bind λf=>(fN P f.type).map λn=>(f.offset,n))|some (.array _ e)=>(fN P e).map λn=>λi=>some (i*n,n)
 |_=>none
def sv (place:Nat ->Option (Nat×Nat)) (xq:Nat) (ps:List (Nat×Operand)):Tr AV ->AV ->Option AV:=
 List.rec (motive:=λ_=>Tr AV ->AV ->Option AV) (λ_ l=>some l)
  (λp _ ih r l=>Option.casesOn (motive:=λ_=>Option AV) (place p.1) none (λq=>
   Bool.casesOn (motive:=λ_=>Option AV) (aF (aF (okV (ev p.2 r)) (Nat.beq (ev p.2 r).cells.len q.2)) (Nat.ble (Nat.add q.1 q.2) xq)) none (ih r (gV q.1 l (ev p.2 r).cells)))) ps
def CN (t:TypeId) (ps:Array (Nat×Operand)) (P:Program) (r:Tr AV):Option AV:=
 Option.casesOn (motive:=λ_=>Option AV) (dM P t) none (λz=>
  Option.casesOn (motive:=λ_=>Option AV) (places P t) none (λpl=>(sv pl z.len ps.toList r z).map .agg))
def mY (t:TypeId) (len:Nat) (ps:Array (Nat×Operand)) (P:Program) (r:Tr AV):Option AL:=
 Option.casesOn (motive:=λ_=>Option AL) (iG P t) none (λe=>
  Option.casesOn (motive:=λ_=>Option AL) (dM P e) none (λz=>
   Option.casesOn (motive:=λ_=>Option AL) (fN P e) none (λsz=>
    Bool.casesOn (motive:=λ_=>Option AL) (aF (Nat.beq z.len sz) (Nat.ble (Nat.mul len sz) 16777216)) none
     (Option.casesOn (motive:=λ_=>Option AL) (sv (λi=>some (i*sz,sz)) (Nat.mul len sz) ps.toList r (fW len z)) none
      (λl=>some ⟨l,Nat.mul len sz,.slice len len sz⟩)))))
def mj (P:Program) (s:TypeId) (f:Nat):Option (Nat×TypeId):=
 match P.underlying s with
 |some (.struct fs)=>(fs[f]?).map λf=>(f.offset,f.type)
 |_=>none
def kx (P:Program) (s:TypeId) (f:Nat):Option Nat:=
 (mj P s f).bind λq=>(fN P q.2).bind λn=>if n=0 then none else some q.1
def oS (s:TypeId) (x:Operand) (f:Nat) (P:Program) (r:Tr AV):Option AV:=
 match ev x r with
 | .ptr id off=>Option.casesOn (motive:=λ_=>Option AV) (kx P s f) none (λk=>some (.ptr id (Nat.add off k)))| .dq l j=>Option.casesOn (motive:=λ_=>Option AV) (kx P s f) none (λk=>some (.dq l (Nat.add j k)))|_=>none
def sw (P:Program) (t:TypeId) (l:AV) (off:Nat):Option AV:=
 Option.casesOn (motive:=λ_=>Option AV) (ss P t) none (λm=>
  Option.casesOn (motive:=λ_=>Option AV) m (match cZ off l with| .cons a _=>some a|_=>none) (λn=>(dS n (cZ off l)).map .agg))
def CO (t:TypeId) (x:Operand) (f:Nat) (P:Program) (r:Tr AV):Option AV:=
 match ev x r with
 | .agg l=>Option.casesOn (motive:=λ_=>Option AV) (mj P t f) none (λq=>sw P q.2 l q.1)|_=>none
def ur (x:Operand) (i:Nat) (_:Program) (r:Tr AV):Option AV:=
 match ev x r with
 | .aS l=>(match cZ i l with| .cons a _=>some a|_=>none)
 |_=>none
def idx (v:AV) (len:Nat) (k:Nat ->Option AV):Option AV:=
 match v with
 | .int _ (.ofNat i)=>Bool.casesOn (motive:=λ_=>Option AV) (bJ i len) none (k i)|_=>none
def fX (t:TypeId) (x ix:Operand) (P:Program) (r:Tr AV):Option AV:=
 match P.underlying t,ev x r with
 |some (.slice e),.slice id off len cap sz=>Option.casesOn (motive:=λ_=>Option AV) (fN P e) none (λz=>
  Bool.casesOn (motive:=λ_=>Option AV) (Nat.beq z sz) none (idx (ev ix r) len (λi=>some (.ptr id (Nat.add off (Nat.mul i sz))))))
 |some (.slice e),.ro n l=>Option.casesOn (motive:=λ_=>Option AV) (fN P e) none (λsz=>idx (ev ix r) n (λi=>some (.dq l (Nat.mul i sz))))|some (.slice e),.gs id n sz=>Option.casesOn (motive:=λ_=>Option AV) (fN P e) none (λz=>
  Bool.casesOn (motive:=λ_=>Option AV) (Nat.beq z sz) none (idx (ev ix r) n (λi=>some (.ptr id (Nat.mul i sz)))))
 |some (.array len e),.ptr id off=>Option.casesOn (motive:=λ_=>Option AV) (fN P e) none (λsz=>idx (ev ix r) len (λi=>some (.ptr id (Nat.add off (Nat.mul i sz)))))|some (.array len e),.dq l k=>Option.casesOn (motive:=λ_=>Option AV) (fN P e) none (λsz=>idx (ev ix r) len (λi=>some (.dq l (Nat.add k (Nat.mul i sz)))))|_,_=>none
def uu (t:TypeId) (x:Operand) (P:Program) (r:Tr AV):Option AV:=
 match P.underlying t with
 |some (.array n _)=>(match ev x r with
  | .gs id m _=>Bool.casesOn (motive:=λ_=>Option AV) (aF (bJ 0 n) (Nat.ble n m)) none (some (.ptr id 0))| .slice id off m _ _=>Bool.casesOn (motive:=λ_=>Option AV) (aF (bJ 0 n) (Nat.ble n m)) none (some (.ptr id off))| .ro m l=>Bool.casesOn (motive:=λ_=>Option AV) (aF (bJ 0 n) (Nat.ble n m)) none (some (.dq l 0))|_=>none)
 |_=>none
def Rq (s:List Nat):Nat ->Option Nat:=List.rec (motive:=λ_=>Nat ->Option Nat) (λ_=>none) (λa _ ih n=>Nat.casesOn (motive:=λ_=>Option Nat) n (some a) ih) s
def sZ (t:TypeId) (x ix:Operand) (P:Program) (r:Tr AV):Option AV:=
 match P.underlying t,ev x r with
 |some .string,.str s=>(match ev ix r with
  | .int _ (.ofNat i)=>Option.casesOn (motive:=λ_=>Option AV) (Rq s i) none (λb=>some (.int .u8 (.ofNat b)))|_=>none)
 |some (.array len e),.agg l=>Option.casesOn (motive:=λ_=>Option AV) (fN P e) none (λsz=>idx (ev ix r) len (λi=>sw P e l (Nat.mul i sz)))|_,_=>none
def bound (v:Option AV) (acn most:Nat) (k:Nat ->Option AV):Option AV:=
 match v with
 |none=>k acn|some (.int _ (.ofNat i))=>Bool.casesOn (motive:=λ_=>Option AV) (Nat.ble i most) none (k i)|some _=>none
def Xo (s:List Nat) (l n:Nat):List Nat:=(s.drop l).take n
def Rr (P:Program) (t:TypeId) (x:AV) (lo hi:Option AV) (m:AV):Option AV:=
 match lo,hi,P.underlying t,x with
 |none,some z,some (.slice e),.gs id n sz=>
  Option.casesOn (motive:=λ_=>Option AV) (fN P e) none λq=>Bool.casesOn (motive:=λ_=>Option AV) (Nat.beq q sz) none
   (bound (some m) 0 n λmm=>bound (some z) 0 mm λhh=>some (.gs id hh sz))
 |_,_,_,_=>none
def ky (t:TypeId) (x:Operand) (lo hi mx:Option Operand) (P:Program) (r:Tr AV):Option AV:=
 match mx with
 |some y=>Rr P t (ev x r) (lo.map (ev · r)) (hi.map (ev · r)) (ev y r)|none=>
  match P.underlying t,ev x r with
  |some .string,.str s=>
   bound (hi.map (ev · r)) s.length s.length λhh=>bound (lo.map (ev · r)) 0 hh λll=>some (.str (Xo s ll (hh - ll)))
  |some (.slice e),.slice id off len cap sz=>
   Option.casesOn (motive:=λ_=>Option AV) (fN P e) none λz=>Bool.casesOn (motive:=λ_=>Option AV) (Nat.beq z sz) none
   (bound (hi.map (ev · r)) len cap λhh=>bound (lo.map (ev · r)) 0 hh λll=>
    Bool.casesOn (motive:=λ_=>Option AV) (aF (Nat.beq ll cap) (bJ 0 cap)) (some (.slice id (Nat.add off (Nat.mul ll sz)) (hh - ll) (cap - ll) sz)) (some (.sle id sz)))
  |some (.slice e),.ro n l=>
   Option.casesOn (motive:=λ_=>Option AV) (fN P e) none λz=>
   (bound (hi.map (ev · r)) n n λhh=>bound (lo.map (ev · r)) 0 hh λll=>(dS (Nat.mul (hh - ll) z) (cZ (Nat.mul ll z) l)).map (.ro (hh - ll)))
  |some (.slice e),.gs id n sz=>
   Option.casesOn (motive:=λ_=>Option AV) (fN P e) none λz=>Bool.casesOn (motive:=λ_=>Option AV) (Nat.beq z sz) none
   (bound (hi.map (ev · r)) n n λhh=>bound (lo.map (ev · r)) 0 hh λll=>
    Bool.casesOn (motive:=λ_=>Option AV) (Nat.beq ll 0)
     (Bool.casesOn (motive:=λ_=>Option AV) (bJ ll hh) (some (.ro 0 .nil)) (some (.slice id (Nat.mul ll sz) (hh - ll) (n - ll) sz)))
     (some (.gs id hh sz)))
  |some (.slice e),.bt=>Option.casesOn (motive:=λ_=>Option AV) (fN P e) none λ_=>bound (hi.map (ev · r)) 0 0 λhh=>bound (lo.map (ev · r)) 0 hh λ_=>some .bt
  |_,_=>none
def fq (t:TypeId) (x:Operand) (lo hi mx:Option Operand) (P:Program) (r:Tr AV) (h:Heap):Option AV:=
 match P.underlying t,ev x r with
 |some (.array n e),.ptr id off=>
  (match mx with
   |some _=>none|none=>Option.casesOn (motive:=λ_=>Option AV) (fN P e) none λsz=>Option.casesOn (motive:=λ_=>Option AV) (je h id) none λq=>
    Bool.casesOn (motive:=λ_=>Option AV) (Nat.ble (Nat.add off (Nat.mul n sz)) q.2.1) none
     (bound (hi.map (ev · r)) n n λhh=>bound (lo.map (ev · r)) 0 hh λll=>
      Bool.casesOn (motive:=λ_=>Option AV) (bJ ll n) none (some (.slice id (Nat.add off (Nat.mul ll sz)) (hh - ll) (n - ll) sz))))
 |_,_=>ky t x lo hi mx P r
def jj (t:TypeId) (l c:Operand) (P:Program) (r:Tr AV):Option AL:=
 Option.casesOn (motive:=λ_=>Option AL) (iG P t) none (λe=>
  Option.casesOn (motive:=λ_=>Option AL) (dM P e) none (λz=>
   Option.casesOn (motive:=λ_=>Option AL) (fN P e) none (λsz=>
    Option.casesOn (motive:=λ_=>Option AL) (iM P e) none (λby_=>
     match ev l r,ev c r with
     | .int _ (.ofNat ln),.int _ (.ofNat cp)=>
      Bool.casesOn (motive:=λ_=>Option AL) (aF (Nat.beq z.len sz) (aF (Nat.ble ln cp) (Nat.ble (Nat.mul cp (Nat.succ by_)) Rp))) none
       (some ⟨fW ln z,Nat.mul cp sz,.slice ln cp sz⟩)
     |_,_=>none))))
def ah2 (f:Nat ->Nat ->Nat) (k:IntKind) (a b:Int):Option AV:=
 match a,b with
 | .ofNat x,.ofNat y=>some (.int k (.ofNat (f x y)))|_,_=>none
def kz (a:List Nat):List Nat ->Bool:=
 List.rec (motive:=λ_=>List Nat ->Bool) (λb=>List.casesOn (motive:=λ_=>Bool) b true (λ_ _=>false))
  (λx _ ih b=>List.casesOn (motive:=λ_=>Bool) b false (λy t=>Bool.casesOn (motive:=λ_=>Bool) (Nat.beq x y) false (ih t))) a
def llt (a:List Nat):List Nat ->Bool:=
 List.rec (motive:=λ_=>List Nat ->Bool) (λb=>List.casesOn (motive:=λ_=>Bool) b false (λ_ _=>true))
  (λx _ ih b=>List.casesOn (motive:=λ_=>Bool) b false (λy t=>Bool.casesOn (motive:=λ_=>Bool) (bJ x y) (Bool.casesOn (motive:=λ_=>Bool) (Nat.beq x y) false (ih t)) true)) a
def oe (op:BinOp):IntKind ->Int ->Int ->Option AV:=
 BinOp.casesOn (motive:=λ_=>IntKind ->Int ->Int ->Option AV) op
  (λk a b=>some (.int k (aj k (Int.add a b))))
  (λk a b=>some (.int k (aj k (Int.sub a b))))
  (λk a b=>some (.int k (aj k (Int.mul a b))))
  (λk a b=>Bool.casesOn (motive:=λ_=>Option AV) (bD b 0) (some (.int k (aj k (Int.tdiv a b)))) none)
  (λk a b=>Bool.casesOn (motive:=λ_=>Option AV) (bD b 0) (some (.int k (Int.tmod a b))) none)
  (λk a b=>match a,b with
   | .ofNat x,.ofNat y=>Bool.casesOn (motive:=λ_=>Option AV) (aF (fits k a) (fits k b)) none (some (.int k (.ofNat (Nat.land x y))))|_,_=>none)
  (λk a b=>match a,b with
   | .ofNat x,.ofNat y=>Bool.casesOn (motive:=λ_=>Option AV) (aF (fits k a) (fits k b)) none (some (.int k (.ofNat (Nat.lor x y))))|_,_=>none)
  (λk a b=>match a,b with
   | .ofNat x,.ofNat y=>Bool.casesOn (motive:=λ_=>Option AV) (aF (fits k a) (fits k b)) none (some (.int k (.ofNat (Nat.xor x y))))|_,_=>none)
  (λ_ _ _=>none) (λ_ _ _=>none)
  (λk a b=>match a,b with
   | .ofNat x,.ofNat y=>Bool.casesOn (motive:=λ_=>Option AV) (aF (fits k a) (fits k b)) none (some (.int k (.ofNat (Nat.xor x (Nat.land x y)))))|_,_=>none)
  (λ_ a b=>some (.bool (bD a b)))
  (λ_ a b=>some (.bool (aY (bD a b))))
  (λ_ a b=>some (.bool (cQ a b)))
  (λ_ a b=>some (.bool (gD a b)))
  (λ_ a b=>some (.bool (cQ b a)))
  (λ_ a b=>some (.bool (gD b a)))
def fP (k:IntKind):Nat:=IntKind.casesOn k 8 16 32 64 8 16 32 64
def qe (op:BinOp) (k:IntKind) (a:Int) (b:Int):Option AV:=
 match b with
 | .ofNat n=>(match op with
  | .shl=>some (.int k (aj k (Int.mul a (.ofNat (Nat.pow 2 (Nat.min n (fP k)))))))| .shr=>(match a with
   | .ofNat x=>some (.int k (.ofNat (Nat.div x (Nat.pow 2 (Nat.min n (fP k))))))|_=>none)
  |_=>none)
 |_=>none
def aco (op:BinOp) (lo hi sx iu:Int):Option AV:=
 match op with
 | .lss=>if cQ hi sx then some (.bool true)else if gD iu lo then some (.bool false)else none
 | .leq=>if gD hi sx then some (.bool true)else if cQ iu lo then some (.bool false)else none
 | .gtr=>if cQ iu lo then some (.bool true)else if gD hi sx then some (.bool false)else none
 | .geq=>if gD iu lo then some (.bool true)else if cQ hi sx then some (.bool false)else none
 | .eql=>if cQ hi sx then some (.bool false)else if cQ iu lo then some (.bool false)else none
 | .neq=>if cQ hi sx then some (.bool true)else if cQ iu lo then some (.bool true)else none
 |_=>none
def yg (k:IntKind) (lo hi:Int):Option AV:=Bool.casesOn (motive:=λ_=>Option AV) (aF (fits k lo) (fits k hi)) none (some (.xp k lo hi))
def Fv (a b:Int):Int:=Bool.casesOn (motive:=λ_=>Int) (cQ a b) b a
def imax (a b:Int):Int:=Bool.casesOn (motive:=λ_=>Int) (cQ a b) a b
def LH (op:BinOp) (k:IntKind) (lo hi sx iu:Int):Option AV:=
 match op with
 | .add=>yg k (Int.add lo sx) (Int.add hi iu)| .sub=>yg k (Int.sub lo iu) (Int.sub hi sx)| .mul=>yg k (Fv (Fv (Int.mul lo sx) (Int.mul lo iu)) (Fv (Int.mul hi sx) (Int.mul hi iu))) (imax (imax (Int.mul lo sx) (Int.mul lo iu)) (imax (Int.mul hi sx) (Int.mul hi iu)))|op=>aco op lo hi sx iu
def Fw (op:BinOp) (a b:List Nat):Option AV:=
 match op with
 | .add=>Bool.casesOn (motive:=λ_=>Option AV) (Nat.ble (Nat.add a.length b.length) 9223372036854775807) none (some (.str (a++b)))| .eql=>some (.bool (kz a b))| .neq=>some (.bool (aY (kz a b)))| .lss=>some (.bool (llt a b))| .gtr=>some (.bool (aY (llt a b||kz a b)))| .leq=>some (.bool (llt a b||kz a b))| .geq=>some (.bool (aY (llt a b)))|_=>none
def Rs (x y:AV):Option Bool:=
 match x,y with
 | .fy,.fy=>some true| .fy,.ptr _ _=>some false| .ptr _ _,.fy=>some false| .dq _ _,.fy=>some false| .ptr i a,.ptr j b=>Bool.casesOn (motive:=λ_=>Option Bool) (i.beq j) none (some (Nat.beq a b))| .bt,.bt=>some true| .slice _ _ _ _ _,.bt=>some false| .sle _ _,.bt=>some false| .kR,.kR=>some true| .kR,.func _ _ _=>some false| .func _ _ _,.kR=>some false| .yield _,.kR=>some false| .bool a,.bool b=>some (Bool.casesOn (motive:=λ_=>Bool) a (aY b) b)| .int k a,.int l b=>Bool.casesOn (motive:=λ_=>Option Bool) (qb k l) none (some (bD a b))| .str a,.str b=>some (kz a b)|_,_=>none
def ID (P:Program) (ih:TypeId ->AV ->AV ->Option Bool) (t:TypeId) (x y:AV):Option Bool:=
 match P.underlying t,x,y with
 |some (.struct fs),.agg xs,.agg ys=>
  if P.stoodInHeld t then none else
  List.rec (motive:=λ_=>Option Bool) (some true)
   (λf _ rest=>if f.name= "_" then none else
    match sw P f.type xs f.offset,sw P f.type ys f.offset with
    |some a,some b=>(match ih f.type a b,rest with
     |some q,some r=>some (aF q r)|_,_=>none)
    |_,_=>none) fs.toList
 |some (.array len e),.agg xs,.agg ys=>
  match fN P e with
  |none=>none|some n=>
   List.rec (motive:=λ_=>Option Bool) (some true)
    (λi _ rest=>
     match sw P e xs (Nat.mul i n),sw P e ys (Nat.mul i n)with
     |some a,some b=>(match ih e a b,rest with
      |some q,some r=>some (aF q r)|_,_=>none)
     |_,_=>none) (List.range len)
 |some .bool,.bool a,.bool b=>some (Bool.casesOn (motive:=λ_=>Bool) a (aY b) b)|some (.int _),.int k a,.int l b=>Bool.casesOn (motive:=λ_=>Option Bool) (qb k l) none (some (bD a b))|some .string,.str a,.str b=>some (kz a b)|_,_,_=>none
def OQ (P:Program) (d:Nat):TypeId ->AV ->AV ->Option Bool:=
 Nat.rec (motive:=λ_=>TypeId ->AV ->AV ->Option Bool) (λ_ _ _=>none) (λ_ ih=>ID P ih) d
def CP (P:Program) (t:TypeId):Bool:=aY (P.eqGuardType P.depth t)
def OS (P:Program) (t:TypeId) (x y:AV):Option Bool:=
 match x,y with
 | .agg _,.agg _=>Bool.casesOn (motive:=λ_=>Option Bool) (CP P t) none (OQ P 40 t x y)| .bool a,.bool b=>(match P.underlying t with|some .bool=>some (Bool.casesOn (motive:=λ_=>Bool) a (aY b) b)|_=>none)
 | .fy,.fy| .fy,.ptr _ _| .ptr _ _,.fy| .ptr _ _,.ptr _ _| .dq _ _,.fy=>
  (match P.underlying t with
   |some (.pointer e)=>(match fN P e with|some 0=>none|some _=>Rs x y|none=>none)
   |_=>none)
 | .bt,.bt| .slice _ _ _ _ _,.bt| .sle _ _,.bt=>(match P.underlying t with|some (.slice _)=>Rs x y|_=>none)
 | .ro n _,.bt=>(match P.underlying t with|some (.slice _)=>Nat.casesOn (motive:=λ_=>Option Bool) n none (λ_=>some false)|_=>none)
 | .gs _ n _,.bt=>(match P.underlying t with|some (.slice _)=>Nat.casesOn (motive:=λ_=>Option Bool) n none (λ_=>some false)|_=>none)
 | .kR,.kR| .kR,.func _ _ _| .func _ _ _,.kR| .yield _,.kR=>(match P.underlying t with|some (.func _ _ _)=>Rs x y|_=>none)
 |_,_=>none
def Fx (op:BinOp) (P:Program) (t:TypeId) (x y:AV):Option AV:=
 match op with
 | .eql=>(OS P t x y).map .bool| .neq=>(OS P t x y).map λb=> .bool (aY b)
 |_=>none
def fY (op:BinOp):Bool:=BinOp.casesOn op false false false false false false false false true true false false false false false false false
def IE (op:BinOp) (k:IntKind) (a b:Int) (l:IntKind) (c:Int):Option AV:=
 match op with
 | .rem=>Bool.casesOn (motive:=λ_=>Option AV) (aF (qb k l) (aF (cQ b a) (aF (cQ 0 a) (aF (gD a c) (gD c a))))) none (some (.int k (Int.add b a)))|_=>none
def IF (op:BinOp) (P:Program) (t:TypeId) (x y:AV):Option AV:=
 match x,y with
 | .int k a,.int l b=>Bool.casesOn (motive:=λ_=>Option AV) (fY op) (Bool.casesOn (motive:=λ_=>Option AV) (qb k l) none (oe op k a b)) (qe op k a b)| .xp k a b,.int l c=>Bool.casesOn (motive:=λ_=>Option AV) (aF (gD a b) (qb k l)) (IE op k a b l c) (LH op k a b c c)| .int k a,.xp l b c=>Bool.casesOn (motive:=λ_=>Option AV) (aF (gD b c) (qb k l)) none (LH op k a a b c)| .xp k a b,.xp l c d=>Bool.casesOn (motive:=λ_=>Option AV) (aF (gD a b) (aF (gD c d) (qb k l))) none (LH op k a b c d)| .str a,.str b=>Fw op a b|x,y=>Fx op P t x y
def Rt (op:BinOp) (t:TypeId) (x y:Operand) (_:TypeId) (P:Program) (r:Tr AV):Option AV:=IF op P t (ev x r) (ev y r)
def unA (op:UnOp) (x:AV):Option AV:=
 match op,x with
 | .neg,.int k n=>some (.int k (aj k (Int.sub 0 n)))| .neg,.xp k a b=>Bool.casesOn (motive:=λ_=>Option AV) (gD a b) none (yg k (Int.sub 0 b) (Int.sub 0 a))| .not,.bool b=>some (.bool (aY b))|_,_=>none
def xUn (op:UnOp) (_:TypeId) (x:Operand) (_:Program) (r:Tr AV):Option AV:=unA op (ev x r)
def Fy (P:Program) (src dst:TypeId) (x:AV):Option AV:=
 match P.underlying src,P.underlying dst with
 |some _,some (.int k)=>(match x with
  | .int _ n=>some (.int k (aj k n))| .xp _ a b=>Bool.casesOn (motive:=λ_=>Option AV) (gD a b) (Bool.casesOn (motive:=λ_=>Option AV) (aF (fits k 0) (fits k 255)) none (some (.xp k a b))) (yg k a b)|_=>none)
 |some _,some .string=>(match x with| .str s=>some (.str s)| .pZ m=>some (.pZ m)|_=>none)
 |_,_=>none
def IG (h:AV) (ih:Option (List Nat)):Option (List Nat):=
 match h with
 | .int .u8 (.ofNat b)=>Bool.casesOn (motive:=λ_=>Option (List Nat)) (bJ b 256) none (Option.casesOn (motive:=λ_=>Option (List Nat)) ih none (λs=>some (b::s)))|_=>none
def ml (l:AV):Option (List Nat):=AV.fold none (some []) (λh _ ih=>IG h ih) l
def gp (src dst:TypeId) (x:Operand) (P:Program) (r:Tr AV) (h:Heap):Option AV:=
 match ev x r with
 | .slice id off len cap sz=>(match P.underlying src,P.underlying dst with
  |some (.slice e),some .string=>(match P.underlying e with
   |some (.int .u8)=>Option.casesOn (motive:=λ_=>Option AV) (gW h id off len) none (λl=>(ml l).map .str)|_=>none)
  |_,_=>none)
 | .gs id len _=>(match P.underlying src,P.underlying dst with
  |some (.slice e),some .string=>(match P.underlying e with
   |some (.int .u8)=>Option.casesOn (motive:=λ_=>Option AV) (gW h id 0 len) none (λl=>(ml l).map .str)|_=>none)
  |_,_=>none)
 | .ro n l=>(match P.underlying src,P.underlying dst with
  |some (.slice e),some .string=>(match P.underlying e with
   |some (.int .u8)=>Option.casesOn (motive:=λ_=>Option AV) (dS n l) none (λl=>(ml l).map .str)|_=>none)
  |_,_=>none)
 |v=>Fy P src dst v
def LJ (x:Operand) (_:Program) (r:Tr AV):Option AV:=some (ev x r)
def yh (c a b:Operand) (_:Program) (r:Tr AV):Option AV:=
 match ev c r with
 | .bool t=>some (Bool.casesOn (motive:=λ_=>AV) t (ev b r) (ev a r))|_=>none
def ru (x:Operand) (_:Program) (r:Tr AV):Option AV:=
 match ev x r with
 | .ptr id off=>some (.ptr id off)| .dq l k=>some (.dq l k)| .func (.func f) a b=>some (.func (.func f) a b)| .yield id=>some (.yield id)| .iface t v=>some (.iface t v)|_=>none
def CQ (fn:Fn):Bool:=Fn.casesOn fn (λ_=>false) (λ_=>false) (λ_ _=>false) (λ_ _ _ _=>false) (λ_=>true)
def rv (fn:Fn) (f c:Array Operand) (_:Program) (r:Tr AV):Option AV:=
 Bool.casesOn (motive:=λ_=>Option AV) (CQ fn) (some (.func fn (qc f.toList r) (qc c.toList r))) none
def jH (t:TypeId) (x:Operand) (P:Program) (r:Tr AV):Option AV:=
 match P.underlying t with
 |some (.interface _)=>none|some _=>some (.iface t (ev x r))|none=>none
def Xp (P:Program) (t:TypeId) (x:AV):Option Nat:=
 match P.underlying t with
 |some .string=>(match x with| .str s=>some s.length|_=>none)
 |some (.slice _)=>(match x with| .slice _ _ n _ _=>some n| .ro n _=>some n| .gs _ n _=>some n| .sle _ _=>some 0| .bt=>some 0|_=>none)
 |some (.array n _)=>some n|some (.pointer a)=>(match P.underlying a with|some (.array n _)=>some n|_=>none)
 |some (.map _ _)=>(match x with| .qa=>some 0|_=>none)
 |_=>none
def acp (ts:List TypeId) (aZs:AV) (P:Program):Option AV:=
 match ts,aZs with
 |t::_,.cons x _=>(Xp P t x).map λn=> .int .i64 (.ofNat n)
 |_,_=>none
def acq (ts:List TypeId) (aZs:AV) (P:Program):Option AV:=
 match ts,aZs with
 |t::_,.cons .bt _=>(match P.underlying t with|some (.slice _)=>some (.int .i64 (.ofNat 0))|_=>none)
 |_,_=>none
def LK (s:List Nat):AV:=List.rec .nil (λb _ t=> .cons (.int .u8 (.ofNat b)) t) s
def se (x:AV):Option Nat:=
 match x with
 | .slice _ _ n _ _=>some n| .ro n _=>some n| .gs _ n _=>some n| .sle _ _=>some 0| .bt=>some 0| .str s=>some s.length|_=>none
def CS (x:AV) (n sz:Nat) (h:Heap):Option AV:=
 match x with
 | .slice id off _ _ _=>gW h id off (Nat.mul n sz)| .gs id _ nY=>Bool.casesOn (motive:=λ_=>Option AV) (Nat.beq sz nY) none (gW h id 0 (Nat.mul n sz))| .ro _ l=>dS (Nat.mul n sz) l| .sle _ _=>some .nil| .bt=>some .nil| .str s=>Bool.casesOn (motive:=λ_=>Option AV) (Nat.beq sz 1) none (some (LK (s.take n)))|_=>none
def kill (id:Pos) (h:Heap):Heap:=⟨h.t.del id,h.n⟩
def gX (old new:AV) (id:Option Pos) (OT sz:Nat) (h:Heap):OR:=
 iU (app old new) (Nat.mul OT sz) (Option.casesOn (motive:=λ_=>Heap) id h (λi=>kill i h)) (.slice OT OT sz)
def gN (sz nY by_ xq:Nat) (new:AV):Bool:=aF (Nat.beq sz nY) (aF (Nat.ble (Nat.mul xq (Nat.succ by_)) Rp) (dN new))
def iw (sz by_:Nat) (s x:AV) (n:Nat) (new:AV) (h:Heap):OR:=
 match s with
 | .bt=>Bool.casesOn (motive:=λ_=>OR) (gN sz sz by_ n new) .fail (gX .nil new none n sz h)| .gs id len nY=>
  Bool.casesOn (motive:=λ_=>OR) (gN sz nY by_ (Nat.add len n) new) .fail
   (match h.t.get id with
   |some (.gl l ro)=>Bool.casesOn (motive:=λ_=>OR) (aF (aY ro) (Nat.beq (Nat.mul len sz) l.len))
    (Bool.casesOn (motive:=λ_=>OR) ro (Option.casesOn (motive:=λ_=>OR) (dS (Nat.mul len sz) l) .fail (λold=>gX old new (some id) (Nat.add len n) sz h)) .fail)
    (gX l new (some id) (Nat.add len n) sz h)
   |_=> .fail)
 | .slice id off len cap nY=>
  Bool.casesOn (motive:=λ_=>OR) (gN sz nY by_ (Nat.add len n) new) .fail
   (Bool.casesOn (motive:=λ_=>OR) (Nat.ble (Nat.add len n) cap)
    (Bool.casesOn (motive:=λ_=>OR) (Fu h id) .fail
     (Option.casesOn (motive:=λ_=>OR) (gW h id off (Nat.mul len sz)) .fail (λold=>gX old new (some id) (Nat.add len n) sz h)))
    (Option.casesOn (motive:=λ_=>OR) (putAt id (Nat.add off (Nat.mul len sz)) (Nat.mul n sz) new h) .fail (λh'=> .val (.slice id off (Nat.add len n) cap sz) h')))
 |_=> .fail
def nH (P:Program) (t:TypeId):Bool:=match P.underlying t with|some (.int _)=>true|some _=>false|none=>true
def nI (P:Program) (t:TypeId):Bool:=match P.underlying t with|some (.int _)=>true|_=>false
def lN (sz by_:Nat) (z s x:AV) (ok:Bool) (h:Heap):OR:=
 match s,x with
 | .bt,.int _ (.ofNat n)=>Bool.casesOn (motive:=λ_=>OR) (aF ok (aF (gN sz sz by_ n (fW n z)) (aY (Nat.beq n 0)))) .fail (.val (.slice h.n 0 n n sz) ⟨h.t.set (.gl (fW n z) false) h.n,h.n.succ⟩)|_,_=> .fail
def kN (ts:List TypeId) (aZs:AV) (P:Program) (h:Heap):OR:=
 match ts,aZs with
 |t::u::_,.cons s (.cons x _)=>
  Option.casesOn (motive:=λ_=>OR) (iG P t) .fail (λe=>
   Option.casesOn (motive:=λ_=>OR) (fN P e) .fail (λsz=>
    Option.casesOn (motive:=λ_=>OR) (iM P e) .fail (λby_=>
     Option.casesOn (motive:=λ_=>OR) (dM P e) .fail (λz=>
      Bool.casesOn (motive:=λ_=>OR) (aF (Nat.beq z.len sz) (aY (nH P u))) (lN sz by_ z s x (aF (Nat.beq z.len sz) (nI P u)) h)
       (Option.casesOn (motive:=λ_=>OR) (se x) .fail (λn=>
        Option.casesOn (motive:=λ_=>OR) (CS x n sz h) .fail (λnew=>iw sz by_ s x n new h)))))))
 |_,_=> .fail
def Ru (ts:List TypeId) (aZs:AV) (P:Program) (h:Heap):OR:=
 match ts,aZs with
 |t::_,.cons d (.cons x _)=>
  Option.casesOn (motive:=λ_=>OR) (iG P t) .fail (λe=>
   Option.casesOn (motive:=λ_=>OR) (fN P e) .fail (λsz=>
    match d with
    | .gs id dl nY=>Bool.casesOn (motive:=λ_=>OR) (Nat.beq sz nY) .fail
     (Option.casesOn (motive:=λ_=>OR) (se x) .fail (λsn=>
      Option.casesOn (motive:=λ_=>OR) (CS x (Nat.min sn dl) sz h) .fail (λnew=>
       Option.casesOn (motive:=λ_=>OR) (putAt id 0 (Nat.mul (Nat.min sn dl) sz) new h) .fail (λh'=> .val (.int .i64 (.ofNat (Nat.min sn dl))) h'))))
    | .slice id off dl _ nY=>Bool.casesOn (motive:=λ_=>OR) (Nat.beq sz nY) .fail
     (Option.casesOn (motive:=λ_=>OR) (se x) .fail (λsn=>
      Option.casesOn (motive:=λ_=>OR) (CS x (Nat.min sn dl) sz h) .fail (λnew=>
       Option.casesOn (motive:=λ_=>OR) (putAt id off (Nat.mul (Nat.min sn dl) sz) new h) .fail (λh'=> .val (.int .i64 (.ofNat (Nat.min sn dl))) h'))))
    | .bt=>Option.casesOn (motive:=λ_=>OR) (se x) .fail (λ_=> .val (.int .i64 0) h)| .sle _ _=>Option.casesOn (motive:=λ_=>OR) (se x) .fail (λ_=> .val (.int .i64 0) h)|_=> .fail))
 |_,_=> .fail
def oT (ts:List TypeId) (aZs:AV) (P:Program) (h:Heap):OR:=
 match ts,aZs with
 |t::_,.cons d _=>
  Option.casesOn (motive:=λ_=>OR) (iG P t) .fail (λe=>
   Option.casesOn (motive:=λ_=>OR) (fN P e) .fail (λsz=>
    Option.casesOn (motive:=λ_=>OR) (dM P e) .fail (λz=>
     match d with
     | .slice id off n _ nY=>Bool.casesOn (motive:=λ_=>OR) (aF (Nat.beq sz nY) (aF (Nat.beq z.len sz) (bJ 0 n))) .fail
      (Option.casesOn (motive:=λ_=>OR) (putAt id off (Nat.mul n sz) (fW n z) h) .fail (λh'=> .val (.aS .nil) h'))
     |_=> .fail)))
 |_,_=> .fail
def OU (lt:Int ->Int ->Bool) (aZs:AV):Option AV:=
 match aZs with
 | .cons (.int k a) (.cons (.int l b) .nil)=>Bool.casesOn (motive:=λ_=>Option AV) (qb k l) none (some (.int k (Bool.casesOn (motive:=λ_=>Int) (lt b a) a b)))|_=>none
def uv (P:Program) (ih:TypeId ->AV ->Bool) (t:TypeId) (x:AV):Bool:=
 match P.underlying t,x with
 |some (.struct fs),.agg xs=>List.rec (motive:=λ_=>Bool) true (λf _ rest=>if f.name= "_" then false else match sw P f.type xs f.offset with|some a=>aF (ih f.type a) rest|none=>false) fs.toList|some (.array len e),.agg xs=>
  match fN P e with
  |none=>false|some n=>List.rec (motive:=λ_=>Bool) true (λi _ rest=>match sw P e xs (Nat.mul i n)with|some a=>aF (ih e a) rest|none=>false) (List.range len)
 |some .bool,.bool _=>true|some (.int _),.int _ _=>true|some .string,.str _=>true|_,_=>false
def sf (P:Program) (d:Nat):TypeId ->AV ->Bool:=Nat.rec (motive:=λ_=>TypeId ->AV ->Bool) (λ_ _=>false) (λ_ ih=>uv P ih) d
def Rv (x y:AV):Bool:=
 match x,y with
 | .int k n,.int l m=>aF (qb k l) (bD n m)| .str a,.str b=>kz a b| .bool a,.bool b=>Bool.casesOn (motive:=λ_=>Bool) a (aY b) b|_,_=>false
def acr (x:AV):AV ->Bool:=AV.fold (λ_=>false) (λy=>match y with| .nil=>true|_=>false) (λa _ ih y=>match y with| .cons b t=>aF (Rv a b) (ih t)|_=>false) x
def qf (x y:AV):Bool:=
 match x,y with
 | .agg l,.agg m=>acr l m|x,y=>Rv x y
def dZ (P:Program) (kt:TypeId) (k:AV) (l:List (AV×AV)):Nat ->Option (Option (Nat×AV)):=
 List.rec (motive:=λ_=>Nat ->Option (Option (Nat×AV))) (λ_=>some none)
  (λe _ ih i=>match OQ P 40 kt k e.1 with
   |some true=>Bool.casesOn (motive:=λ_=>Option (Option (Nat×AV))) (qf e.1 k) none (some (some (i,e.2)))|some false=>ih (Nat.succ i)|none=>none) l
def vM (h:Heap) (m:AV):Option (List (AV×AV)):=
 match m with
 | .qa=>some []| .map id=>(match h.t.get id with|some (.mp l)=>some l|_=>none)
 |_=>none
def pI (ok:Bool) (v:AV) (b:Bool):AV:=Bool.casesOn (motive:=λ_=>AV) ok v (.aS (.cons v (.cons (.bool b) .nil)))
def fZ (t:TypeId) (m k:Operand) (ok:Bool) (P:Program) (r:Tr AV) (h:Heap):Option AV:=
 match P.underlying t with
 |some (.map kt et)=>
  Bool.casesOn (motive:=λ_=>Option AV) (sf P 40 kt (ev k r)) none
   (Option.casesOn (motive:=λ_=>Option AV) (vM h (ev m r)) none λl=>
    match dZ P kt (ev k r) l 0 with
    |some (some q)=>some (pI ok q.2 true)|some none=>(lD P et).map λz=>pI ok (fc z) false
    |none=>none)
 |_=>none
def LL (x:AV×AV) (l:List (AV×AV)) (f:Option (Nat×AV)):List (AV×AV):=Option.casesOn (motive:=λ_=>List (AV×AV)) f (l++[x]) (λq=>l.set q.1 x)
def fu (t:TypeId) (m k v:Operand) (P:Program) (r:Tr AV) (h:Heap):OR:=
 match P.underlying t with
 |some (.map kt _)=>
  Bool.casesOn (motive:=λ_=>OR) (sf P 40 kt (ev k r)) .fail
   (match ev m r with
    | .map id=>(match h.t.get id with
     |some (.mp l)=>Option.casesOn (motive:=λ_=>OR) (dZ P kt (ev k r) l 0) .fail λf=> .val (.aS .nil) ⟨h.t.set (.mp (LL (ev k r,ev v r) l f)) id,h.n⟩
     |_=> .fail)
    |_=> .fail)
 |_=> .fail
def CT (P:Program) (et:TypeId) (id:Pos) (k:AV) (l:List (AV×AV)) (h:Heap) (f:Option (Nat×AV)):OR:=
 match f with
 |some q=> .val (.aS (.cons q.2 (.cons (.int .i64 (.ofNat q.1)) .nil))) ⟨h.t.set (.mp (l.set q.1 (k,q.2))) id,h.n⟩|none=>(match lD P et with
  |some z=> .val (.aS (.cons (fc z) (.cons (.int .i64 (.ofNat l.length)) .nil))) ⟨h.t.set (.mp (l++[(k,fc z)])) id,h.n⟩|none=> .fail)
def ry (t:TypeId) (m k:Operand) (P:Program) (r:Tr AV) (h:Heap):OR:=
 match P.underlying t with
 |some (.map kt et)=>
  Bool.casesOn (motive:=λ_=>OR) (sf P 40 kt (ev k r)) .fail
   (match ev m r with
    | .map id=>(match h.t.get id with
     |some (.mp l)=>Option.casesOn (motive:=λ_=>OR) (dZ P kt (ev k r) l 0) .fail λf=>CT P et id (ev k r) l h f
     |_=> .fail)
    |_=> .fail)
 |_=> .fail
def mZ (m s x:Operand) (P:Program) (r:Tr AV) (h:Heap):OR:=
 match ev m r,ev s r with
 | .map id,.int _ (.ofNat i)=>(match h.t.get id with
  |some (.mp l)=>(match l[i]? with
   |some e=> .val (.aS .nil) ⟨h.t.set (.mp (l.set i (e.1,ev x r))) id,h.n⟩|none=> .fail)
  |_=> .fail)
 |_,_=> .fail
def uw (t:TypeId) (n:Option Operand) (P:Program) (r:Tr AV) (h:Heap):OR:=
 match n with
 |none=> .val (.map h.n) ⟨h.t.set (.mp []) h.n,h.n.succ⟩|some x=>(match P.underlying t,ev x r with
  |some (.map _ _),.int _ _=> .val (.map h.n) ⟨h.t.set (.mp []) h.n,h.n.succ⟩|_,_=> .fail)
def CU (t:TypeId) (x:Operand) (P:Program) (r:Tr AV) (h:Heap):OR:=
 match P.underlying t,ev x r with
 |some .string,.str s=> .val (.ptr h.n 0) ⟨h.t.set (.si s 0) h.n,h.n.succ⟩|some (.map _ _),.map id=>(match h.t.get id with|some (.mp l)=> .val (.ptr h.n 0) ⟨h.t.set (.mi id l.length []) h.n,h.n.succ⟩|_=> .fail)
 |_,_=> .fail
def aa3 (id:Pos) (s:List Nat) (pos:Nat) (h:Heap):OR:=
 match s[pos]? with
 |none=> .val (.aS (.cons (.bool false) .nil)) h|some b=>Bool.casesOn (motive:=λ_=>OR) (bJ b 128) .fail (.val (.aS (.cons (.bool true) (.cons (.int .i64 (.ofNat pos)) (.cons (.int .i32 (.ofNat b)) .nil)))) ⟨h.t.set (.si s (Nat.succ pos)) id,h.n⟩)
def LM (x:Operand) (isString:Bool) (P:Program) (r:Tr AV) (h:Heap):OR:=
 match isString,ev x r with
 |true,.ptr id 0=>(match h.t.get id with|some (.si s pos)=>aa3 id s pos h|_=> .fail)
 |_,_=> .fail
def oU (x:Operand) (P:Program) (r:Tr AV) (h:Heap):Option AV:=
 match ev x r with
 | .ptr id 0=>(match h.t.get id with
  |some (.mi m n (j::_))=>(match h.t.get m with
   |some (.mp l)=>Bool.casesOn (motive:=λ_=>Option AV) (Nat.beq l.length n) none (match l[j]? with|some e=>some (.aS (.cons e.1 (.cons e.2 .nil)))|none=>none)|_=>none)
  |_=>none)
 |_=>none
def LN (f args:AV) (h:Heap):OR:=
 match f with
 | .func (.func g) a b=> .enter g (app a (app args b)) h| .yield id=> .round id args h|_=> .fail
def ux (b:Builtin) (ts:List TypeId) (aZs:List Operand):OC:=
 match b with
 | .append=> .lE λP r h=>kN ts (qc aZs r) P h
 | .len=> .pure λP r=>acp ts (qc aZs r) P
 | .cap=> .pure λP r=>acq ts (qc aZs r) P
 | .copy=> .lE λP r h=>Ru ts (qc aZs r) P h
 | .clear=> .lE λP r h=>oT ts (qc aZs r) P h
 | .min=> .pure λ_ r=>OU cQ (qc aZs r)
 | .max=> .pure λ_ r=>OU (λb a=>cQ a b) (qc aZs r)
 |_=> .bad
def LO (c:Call):OC:=
 match c.callee with
 | .value f=> .lE λ_ r h=>LN (ev f r) (qc c.args.toList r) h
 | .invoke _ _=> .bad| .builtin b=>ux b c.argTypes.toList c.args.toList
def cls (o:Op):OC:=
 match o with
 | .move x| .assign x=> .pure (LJ x)| .pick c a b=> .pure (yh c a b)| .alloc t=> .alloc (IC t)| .box t x=> .alloc (acm t x)| .build t ps=> .pure (CN t ps)| .buildSlice t n ps=> .alloc (mY t n ps)| .load t a=> .load (su t a)| .store t a x=> .lE (sY t a x)| .nilCheck x=> .pure (ru x)| .binOp op t x y u=> .pure (Rt op t x y u)| .unOp op t x=> .pure (xUn op t x)| .convert a b x=> .load (gp a b x)| .makeInterface t x=> .pure (jH t x)| .makeFunc f a c=> .pure (rv f a c)| .makeSlice t l c=> .alloc (jj t l c)| .slice t x lo hi mx=> .load (fq t x lo hi mx)| .fieldAddr t x f=> .pure (oS t x f)| .field t x f=> .pure (CO t x f)| .sliceToArrayPointer t x=> .pure (uu t x)| .indexAddr t x i=> .pure (fX t x i)| .index t x i=> .pure (sZ t x i)| .extract x i=> .pure (ur x i)| .call c=>LO c| .lookup t m k ok=> .load (fZ t m k ok)| .mapUpdate t m k v=> .lE (fu t m k v)| .insert t m k v=> .lE (fu t m k v)| .mapEntry t m k=> .lE (ry t m k)| .entryStore _ m s x=> .lE (mZ m s x)| .makeMap t n=> .lE (uw t n)| .range t x=> .lE (CU t x)| .next x b=> .lE (LM x b)| .entry x=> .load (oU x)|_=> .bad
def pY (o:Op) (P:Program) (r:Tr AV) (h:Heap):OR:=
 OC.casesOn (motive:=λ_=>Program ->Tr AV ->Heap ->OR) (cls o) (λ_ _ _=> .fail)
  (λf P r h=>Option.casesOn (motive:=λ_=>Heap ->OR) (f P r) (λ_=> .fail) (λv h=> .val v h) h)
  (λf P r h=>Option.casesOn (motive:=λ_=>Heap ->OR) (f P r h) (λ_=> .fail) (λv h=> .val v h) h)
  (λf P r h=>Option.casesOn (motive:=λ_=>Heap ->OR) (f P r) (λ_=> .fail) (λa h=>iU a.l a.n h a.k) h)
  (λf=>f) P r h
inductive eL where
 |fn (f:FuncId)
 |rd (id:Pos)
structure Cx where
 P:Program
 fn:FuncId
 nt:Nat
 rd:Option Pos
 call:eL ->AV ->Heap ->CR
 fuel:Nat
def oV (d:Option Tmp) (nt:Nat) (v:AV) (r:Tr AV):Option (Tr AV):=
 Option.casesOn (motive:=λ_=>Option (Tr AV)) d (some r) (λd=>Bool.casesOn (motive:=λ_=>Option (Tr AV)) (bJ d nt) none (some (r.set v (pathOf d))))
def crK (c:CR) (d:Option Tmp) (nt:Nat) (r:Tr AV) (m:List Pos):(Tr AV ->List Pos ->Heap ->R) ->R:=
 CR.casesOn (motive:=λ_=>Option Tmp ->Nat ->Tr AV ->List Pos ->(Tr AV ->List Pos ->Heap ->R) ->R) c (λ_ _ _ _ _=> .fail)
  (λv h d nt r m k=>Option.casesOn (motive:=λ_=>R) (oV d nt v r) .fail (λr'=>k r' m h)) d nt r m
def Xq (o:Oper) (cx:Cx) (r:Tr AV) (m:List Pos) (h:Heap) (k:Tr AV ->List Pos ->Heap ->R):R:=
 OR.casesOn (motive:=λ_=>Oper ->Cx ->Tr AV ->List Pos ->(Tr AV ->List Pos ->Heap ->R) ->R) (pY o.op cx.P r h) (λ_ _ _ _ _=> .fail)
  (λv h o cx r m k=>Option.casesOn (motive:=λ_=>R) (oV o.dst cx.nt v r) .fail (λr'=>k r' m h))
  (λf a h o cx r m k=>crK (cx.call (.fn f) a h) o.dst cx.nt r m k)
  (λid a h o cx r m k=>crK (cx.call (.rd id) a h) o.dst cx.nt r m k) o cx r m k
inductive yi where
 |yes|no|unknown
def uy (ops:Array Oper) (j:Nat):Option Tmp:=(ops[j]?).bind (·.dst)
def yj (v:AV) (want:Bool):yi:=
 match v with
 | .bool b=>Bool.casesOn b (Bool.casesOn want .yes .no) (Bool.casesOn want .no .yes)| .aS _=> .no|_=> .unknown
def cX (ops:Array Oper) (o:Oper) (r:Tr AV):yi:=
 Option.casesOn (motive:=λ_=>yi) o.guard .yes (λg=>Option.casesOn (motive:=λ_=>yi) (uy ops g.1) .unknown (λs=>yj (gv (r.get (pathOf s))) g.2))
def tc (ops:Array Oper) (o:Oper) (cx:Cx) (r:Tr AV) (m:List Pos) (h:Heap) (k:Tr AV ->List Pos ->Heap ->R):R:=
 yi.casesOn (motive:=λ_=>R) (cX ops o r) (Xq o cx r m h k)
  (Option.casesOn (motive:=λ_=>R) (oV o.dst cx.nt (.aS .nil) r) .fail (λr'=>k r' m h)) .fail
def wM (ops:Array Oper) (l:List Oper):Cx ->Tr AV ->List Pos ->Heap ->R:=
 List.rec (motive:=λ_=>Cx ->Tr AV ->List Pos ->Heap ->R) (λ_ r m h=> .ok r m h) (λo _ ih cx r m h=>tc ops o cx r m h (λr m h=>ih cx r m h)) l
structure PI where
 i:Nat
 o:Oper
 lE:Bool
 gC:List (Nat×Oper)
def bit (t:Nat):Nat:=Nat.shiftLeft 1 t
def IH (m t:Nat):Bool:=Nat.beq (Nat.land (Nat.shiftRight m t) 1) 1
def Xr (x:Operand):Nat:=match x with| .tmp t=>bit t|_=>0
def Bm (ops:Array Oper) (o:Oper):Nat:=
 Nat.lor (o.op.operands.toList.foldr (λx m=>Nat.lor (Xr x) m) 0) (match o.guard with|some g=>(match uy ops g.1 with|some s=>bit s|none=>0)|none=>0)
def wN (o:Oper):Nat:=match o.dst with|some d=>bit d|none=>0
def uz (o:Oper):Bool:=match cls o.op with| .lE _=>true| .bad=>true|_=>false
def Bn (o:Oper):Bool:=match cls o.op with| .load _=>true| .alloc _=>true|_=>false
def vN (ms:Tr Nat) (es:List Edge):Nat:=
 es.foldr (λe a=>Bool.casesOn (motive:=λ_=>Nat) (Region.binds .any e) a (Nat.lor (Nat.lor (bit e.on) ((ms.get (pathOf e.on)).getD 0)) a)) 0
def II (l:List Oper):Nat ->Tr Nat ->Tr Nat:=
 List.rec (motive:=λ_=>Nat ->Tr Nat ->Tr Nat) (λ_ ms=>ms) (λo _ ih i ms=>ih (Nat.succ i) (ms.set (vN ms o.after.toList) (pathOf i))) l
def pre (ms:Tr Nat) (j i:Nat):Bool:=IH ((ms.get (pathOf i)).getD 0) j
def Xs (a b:Nat):Bool:=Nat.beq (Nat.land a b) a
def wO (ms:Tr Nat) (done:Nat) (Rw:Bool):List (Nat×Oper) ->Option ((Nat×Oper)×List (Nat×Oper))
 |[]=>none|x::t=>if Xs ((ms.get (pathOf x.1)).getD 0) done &&(Rw||!uz x.2)then some (x,t)else(wO ms done Rw t).map λq=>(q.1,x::q.2)
def Rx (ms:Tr Nat) (i:Nat) (acc:List PI):List (Nat×Oper):=
 (acc.filter λp=>Bn p.o &&!pre ms p.i i).map λp=>(p.i,p.o)
def yk (ms:Tr Nat):Nat ->Nat ->List (Nat×Oper) ->List PI ->List PI
 |0,_,_,acc=>acc.reverse|n+1,done,rem,acc=>
  match (match wO ms done false rem with|some q=>some q|none=>wO ms done true rem)with
  |none=>acc.reverse|some (x,rest)=>yk ms n (Nat.lor done (bit x.1)) rest (⟨x.1,x.2,uz x.2,if uz x.2 then Rx ms x.1 acc else []⟩::acc)
def fi (ops:Array Oper) (ms:Tr Nat) (x y:PI):Bool:=
 !Nat.beq x.i y.i &&!pre ms y.i x.i &&Nat.beq (Nat.land (wN x.o) (wN y.o)) 0 &&
 (pre ms x.i y.i||(Nat.beq (Nat.land (wN x.o) (Bm ops y.o)) 0 &&Nat.beq (Nat.land (Bm ops x.o) (wN y.o)) 0 &&!x.lE &&(!y.lE||!Bn x.o||y.gC.any (λp=>Nat.beq p.1 x.i))))
def IJ (ops:Array Oper) (ms:Tr Nat) (acc:List PI) (p:Nat×Oper):Bool:=
 acc.all λx=>Nat.beq (Nat.land (wN x.o) (Bm ops p.2)) 0||pre ms x.i p.1
def OV (ops:Array Oper) (ms:Tr Nat):List PI ->List PI ->Bool
 |_,[]=>true|acc,y::t=>acc.all (fi ops ms · y) &&y.gC.all (IJ ops ms acc) &&!pre ms y.i y.i &&OV ops ms (y::acc) t
def ae6 (ops:Array Oper) (pl:List PI):Bool:=
 (List.range ops.size).all λi=>pl.any λx=>Nat.beq x.i i
def Ry (ops:Array Oper) (ms:Tr Nat):Bool:=
 (List.range ops.size).all λi=>match ops[i]? with
  |some o=>o.after.toList.all λe=>!Region.binds .any e||(pre ms e.on i &&bJ e.on ops.size)
  |none=>true
def td (ops:Array Oper):Option (List PI):=
 let l:=ops.toList.zipIdx.map λx=>(x.2,x.1)
 let ms:=II ops.toList 0 .leaf;let pl:=yk ms ops.size 0 l []
 if OV ops ms [] pl &&ae6 ops pl &&Ry ops ms then some pl else none
def sameAt (h h':Heap) (id:Pos):Bool:=
 match h.t.get id,h'.t.get id with
 |some (.cells t n ro),some (.cells t' n' Xt)=>decide (t=t'/\n=n'/\ro=Xt)|some (.gl l ro),some (.gl l' Xt)=>decide (l=l'/\ro=Xt)|_,_=>false
def qg (ops:Array Oper) (P:Program) (o:Oper) (r:Tr AV) (h h':Heap):Bool:=
 match cX ops o r with
 | .no=>true| .unknown=>false| .yes=>
  match cls o.op with
  | .load f=>(match f P r h,f P r h' with|some a,some b=>decide (a=b)|_,_=>false)
  | .alloc _=>(match o.dst with
   |some d=>(match gv (r.get (pathOf d))with
    | .ptr id _=>sameAt h h' id| .gs id _ _=>sameAt h h' id|_=>false)
   |none=>false)
  |_=>true
def recheck (ops:Array Oper) (P:Program) (l:List (Nat×Oper)) (r:Tr AV) (h h':Heap):Bool:=l.all λp=>qg ops P p.2 r h h'
def lu (ops:Array Oper) (l:List PI):Cx ->Tr AV ->List Pos ->Heap ->R:=
 List.rec (motive:=λ_=>Cx ->Tr AV ->List Pos ->Heap ->R) (λ_ r m h=> .ok r m h)
  (λy _ ih cx r m h=>tc ops y.o cx r m h (λr' m h'=>Bool.casesOn (motive:=λ_=>R) (recheck ops cx.P y.gC r h h') .fail (ih cx r' m h'))) l
def xE (ops:Array Oper) (draw:Bool) (cx:Cx) (r:Tr AV) (m:List Pos) (h:Heap):R:=
 Bool.casesOn (motive:=λ_=>R) draw (wM ops ops.toList cx r m h)
  (Option.casesOn (motive:=λ_=>R) (td ops) .fail (λpl=>lu ops pl cx r m h))
abbrev IK:=Cx ->Tr AV ->List Pos ->Heap ->R
def acs (ra rb:IK) (cx:Cx) (r:Tr AV) (m:List Pos) (h:Heap):R:=
 R.casesOn (motive:=λ_=>IK ->Cx ->R) (ra cx r m h) (λ_ _=> .fail) (λr m h rb cx=>rb cx r m h) (λi r m h _ _=> .exit i r m h) (λr m h _ _=> .ret r m h) rb cx
def Rz (c:Operand) (ra rb:IK) (cx:Cx) (r:Tr AV) (m:List Pos) (h:Heap):R:=
 match ev c r with
 | .bool b=>Bool.casesOn (motive:=λ_=>R) b (rb cx r m h) (ra cx r m h)|_=> .fail
def IL (id:Nat) (ra:IK) (cx:Cx) (r:Tr AV) (m:List Pos) (h:Heap):R:=
 R.casesOn (motive:=λ_=>Nat ->R) (ra cx r m h) (λ_=> .fail) (λr m h _=> .ok r m h)
  (λi r m h id=>Bool.casesOn (motive:=λ_=>R) (Nat.beq i id) (.exit i r m h) (.ok r m h)) (λr m h _=> .ret r m h) id
def iter (body:IK) (n:Nat):Cx ->Tr AV ->List Pos ->Heap ->R:=
 Nat.rec (motive:=λ_=>Cx ->Tr AV ->List Pos ->Heap ->R) (λ_ _ _ _=> .fail)
  (λ_ ih cx r m h=>R.casesOn (motive:=λ_=>(Cx ->Tr AV ->List Pos ->Heap ->R) ->Cx ->R) (body cx r m h) (λ_ _=> .fail) (λr m h ih cx=>ih cx r m h)
   (λi r m h _ _=> .exit i r m h) (λr m h _ _=> .ret r m h) ih cx) n
def aa4 (ra:IK) (cx:Cx) (r:Tr AV) (m:List Pos) (h:Heap):R:=iter ra cx.fuel cx r m h
def RA (h:Heap) (id:Pos):Option Pos:=
 match h.t.get id with
 |some (.loop _ _ _ _ _ _ _ _ d)=>some d|_=>none
def te (cx:Cx) (ps:Array Tmp) (assign body:Code) (r:Tr AV) (m:List Pos) (h:Heap) (k:Pos ->List Pos ->Heap ->R):R:=
 Option.casesOn (motive:=λ_=>R) cx.rd
  (k h.n.succ (h.n::m) ⟨(h.t.set .marks h.n).set (.loop true none cx.fn r cx.nt ps assign body h.n) h.n.succ,h.n.succ.succ⟩)
  (λl=>Option.casesOn (motive:=λ_=>R) (RA h l) .fail (λd=>k h.n m ⟨h.t.set (.loop true none cx.fn r cx.nt ps assign body d) h.n,h.n.succ⟩))
def qh (id:Pos) (r:Tr AV) (m:List Pos) (h:Heap):R:=
 match h.t.get id with
 |some (.loop ready gC _ _ _ _ _ _ _)=>
  Bool.casesOn (motive:=λ_=>R) (Bool.casesOn (motive:=λ_=>Bool) ready (Option.casesOn (motive:=λ_=>Bool) gC false (λ_=>true)) true) .fail
   (match gC with
    |none=> .ok r m (kill id h)|some none=> .ret r m (kill id h)|some (some i)=> .exit i r m (kill id h))
 |_=> .fail
def mn (f:Operand) (ps:Array Tmp) (assign body:Code) (cx:Cx) (r:Tr AV) (m:List Pos) (h:Heap):R:=
 te cx ps assign body r m h (λid m h=>
  match ev f r with
  | .func (.func g) a b=>
   CR.casesOn (motive:=λ_=>Pos ->Tr AV ->List Pos ->R) (cx.call (.fn g) (app a (.cons (.yield id) b)) h) (λ_ _ _=> .fail) (λ_ h id r m=>qh id r m h) id r m
  |_=> .fail)
def sA (c:Code):IK:=
 Code.rec (motive:=λ_=>IK)
  (λ_ r m h=> .ok r m h)
  (λ_ ops draw cx r m h=>xE ops draw cx r m h)
  (λ_ _ ra rb=>acs ra rb)
  (λc _ _ ra rb=>Rz c ra rb)
  (λid _ ra=>IL id ra)
  (λ_ ra=>aa4 ra)
  (λf ps a b _ _=>mn f ps a b)
  (λid _ r m h=> .exit id r m h)
  (λ_ ra=>ra)
  (λ_ _ r m h=> .ok r m h)
  (λ_ _ _ _ _=> .fail)
  (λ_ r m h=> .ret r m h)
  (λ_ _ _ _ _=> .fail) c
def iH (aZs:AV):Nat ->Nat ->Tr AV ->Option (Tr AV):=
 AV.fold (λ_ _ _=>none) (λ_ _ r=>some r) (λa _ ih i nt r=>Bool.casesOn (motive:=λ_=>Option (Tr AV)) (bJ i nt) none (ih (Nat.succ i) nt (r.set a (pathOf i)))) aZs
def gu (m:List Pos):Heap ->Option Heap:=
 List.rec (motive:=λ_=>Heap ->Option Heap) (λh=>some h) (λid _ ih h=>match h.t.get id with|some .marks=>ih (kill id h)|_=>none) m
def RB (P:Program) (x:ResultVar) (r:Tr AV) (h:Heap):Option AV:=
 match x with
 | .tmp t=>some (gv (r.get (pathOf t)))| .cell a t=>wL P t (gv (r.get (pathOf a))) h
def pP (P:Program) (l:List ResultVar) (r:Tr AV) (h:Heap):Option AV:=
 List.rec (motive:=λ_=>Option AV) (some .nil) (λx _ ih=>Option.casesOn (motive:=λ_=>Option AV) (RB P x r h) none (λv=>Option.casesOn (motive:=λ_=>Option AV) ih none (λl=>some (.cons v l)))) l
def yl (l:AV):AV:=match l with| .cons v .nil=>v|l=> .aS l
def CV (P:Program) (fn:Func) (r:Tr AV) (m:List Pos) (h:Heap):CR:=
 Option.casesOn (motive:=λ_=>CR) (gu m h) .fail (λh=>Option.casesOn (motive:=λ_=>CR) (pP P fn.results.toList r h) .fail (λl=> .ret (yl l) h))
def ah3 (x:R) (P:Program) (fn:Func):CR:=
 R.casesOn (motive:=λ_=>Program ->Func ->CR) x (λ_ _=> .fail) (λr m h P fn=>CV P fn r m h) (λ_ _ _ _ _ _=> .fail) (λr m h P fn=>CV P fn r m h) P fn
def xF (P:Program) (f:FuncId) (aZs:AV) (h:Heap) (call:eL ->AV ->Heap ->CR) (fuel:Nat):CR:=
 Option.casesOn (motive:=λ_=>CR) (P.funcs[f]?) .fail (λfn=>
  Option.casesOn (motive:=λ_=>CR) fn.body .fail (λc=>
   Option.casesOn (motive:=λ_=>CR) (iH aZs 0 fn.ntmps .leaf) .fail (λr=>
    ah3 (sA c ⟨P,f,fn.ntmps,none,call,fuel⟩ r [] h) P fn)))
def oW (ps:List Tmp):AV ->Nat ->Tr AV ->Option (Tr AV):=
 List.rec (motive:=λ_=>AV ->Nat ->Tr AV ->Option (Tr AV)) (λaZs _ r=>match aZs with| .nil=>some r|_=>none)
  (λp _ ih aZs nt r=>match aZs with
   | .cons a t=>Bool.casesOn (motive:=λ_=>Option (Tr AV)) (bJ p nt) none (ih t nt (r.set a (pathOf p)))|_=>none) ps
def jt (id:Pos) (jump:Option (Option Nat)) (h:Heap):CR:=
 match h.t.get id with
 |some (.loop _ _ fn r nt ps a b d)=> .ret (.bool (Option.casesOn (motive:=λ_=>Bool) jump true (λ_=>false)))
  ⟨h.t.set (.loop (Option.casesOn (motive:=λ_=>Bool) jump true (λ_=>false)) jump fn r nt ps a b d) id,h.n⟩
 |_=> .fail
def qi (id:Pos) (h:Heap) (k:Heap ->R):R:=
 match h.t.get id with
 |some (.loop ready gC fn r nt ps a b d)=>Bool.casesOn (motive:=λ_=>R) ready .fail (Option.casesOn (motive:=λ_=>R) gC (k ⟨h.t.set (.loop false none fn r nt ps a b d) id,h.n⟩) (λ_=> .fail))|_=> .fail
def Bo (x:R) (id:Pos):CR:=
 R.casesOn (motive:=λ_=>Pos ->CR) x (λ_=> .fail)
  (λ_ m h id=>List.casesOn (motive:=λ_=>CR) m (jt id none h) (λ_ _=> .fail))
  (λi _ m h id=>List.casesOn (motive:=λ_=>CR) m (jt id (some (some i)) h) (λ_ _=> .fail))
  (λ_ m h id=>List.casesOn (motive:=λ_=>CR) m (jt id (some none) h) (λ_ _=> .fail)) id
def CW (P:Program) (id:Pos) (aZs:AV) (h:Heap) (call:eL ->AV ->Heap ->CR) (fuel:Nat):CR:=
 match h.t.get id with
 |some (.loop ready _ fn kl nt ps assign body _)=>
  Bool.casesOn (motive:=λ_=>CR) ready .fail
   (Option.casesOn (motive:=λ_=>CR) (oW ps.toList aZs nt kl) .fail (λr=>
    Bo (R.casesOn (motive:=λ_=>Pos ->Cx ->Code ->R) (sA assign ⟨P,fn,nt,some id,call,fuel⟩ r [] h) (λ_ _ _=> .fail)
     (λr m h id cx body=>qi id h (λh=>sA body cx r m h)) (λ_ _ _ _ _ _ _=> .fail) (λ_ _ _ _ _ _=> .fail) id ⟨P,fn,nt,some id,call,fuel⟩ body) id))
 |_=> .fail
end
end Go.Sy
namespace Go.Sy
noncomputable section
def vO (l:List (AV×Nat)):Nat ->Tr AO ->Tr AO:=
 List.rec (motive:=λ_=>Nat ->Tr AO ->Tr AO) (λ_ t=>t)
  (λx _ ih i t=>ih (Nat.succ i) (Option.casesOn (motive:=λ_=>Tr AO) (lay x.2 x.1 0 .leaf) t (λc=>t.set (.cells c x.2 true) (pathOf i)))) l
def lW (l:List (AV×Nat)) (g:Nat):Heap:=⟨vO l 0 .leaf,pathOf g⟩
def tf (k:IntKind) (l:List Int):AV:=ofL (l.map (AV.int k))
end
end Go.Sy
namespace Go.Sy
noncomputable section
open Go.RowKit Go.Proofs Go.Proofs.Tryz
section
structure nJ where
 b:Nat
 base:Nat
 n:Nat
structure Mu where
 m:Pos ->Option nJ
 s:Nat ->Option (Array Value)
instance:CoeFun Mu (λ_=>Pos ->Option nJ):=⟨Mu.m⟩
def Mu.put (μ:Mu) (id:Pos) (B:nJ):Mu:=⟨λq=>if q=id then some B else μ.m q,μ.s⟩
theorem Mu.ct (μ:Mu) (id:Pos) (B:nJ):(μ.put id B) id=some B:=if_pos rfl
theorem Mu.bc (μ:Mu) (id:Pos) (B:nJ) {q:Pos} (h:q≠id):(μ.put id B) q=μ q:=if_neg h
def Mu.pure (μ:Mu):Mu:=⟨λ_=>none,μ.s⟩
def jJ (s:Nat ->Option (Array Value)) (b o:Nat) (xs:List Value):Prop:=xs=[]\/∃arr,s b=some arr/\∀j v,xs[j]?=some v ->arr[o+j]?=some v
def Xu (lo hi n:Int):Prop:=(lo<=hi ->lo<=n/\n<=hi)/\(hi<lo ->0<=n/\n<=255/\n % lo=hi+lo)
theorem Xu.of {lo hi n:Int} (h:lo<=n/\n<=hi):Xu lo hi n:=⟨λ_=>h,λe=>by omega⟩
def VR:Mu ->AV ->Bool ->List Value ->Prop
 |_,.nil,true,vs=>vs=[]
 |μ,.cons h t,true,vs=>∃v r,vs=v::r/\VR μ h false [v]/\VR μ t true r|_,_,true,_=>False|_,.nil,false,_=>False|_,.cons _ _,false,_=>False|_,.undef,false,vs=>∃v,vs=[v]
 |_,.bool b,false,vs=>vs=[.bool b]
 |_,.int k n,false,vs=>vs=[.int k n]
 |_,.xp k lo hi,false,vs=>∃n,vs=[.int k n]/\Xu lo hi n|_,.str s,false,vs=>∃bs,vs=[.string bs]/\bs.data.toList.map UInt8.toNat=s|_,.pZ m,false,vs=>∃bs,vs=[.string bs]/\bs.size<=m|μ,.ptr id off,false,vs=>∃B,μ id=some B/\vs=[.pointer (some ⟨B.b,B.base+off,none⟩)]
 |μ,.dq l k,false,vs=>∃b o xs,vs=[.pointer (some ⟨b,o+k,none⟩)]/\VR μ.pure l true xs/\jJ μ.s b o xs|_,.fy,false,vs=>vs=[.pointer none]
 |μ,.slice id off len cap sz,false,vs=>∃B c,μ id=some B/\vs=[.slice (some ⟨B.b,B.base+off,none⟩) len c]/\cap<=c/\len<=cap/\off+c*sz<=B.n|μ,.ro n l,false,vs=>∃xs,VR μ.pure l true xs/\((∃b o c,vs=[.slice (some ⟨b,o,none⟩) n c]/\n<=c/\jJ μ.s b o xs)\/(n=0/\xs=[]/\∃q,vs=[.slice q 0 0]))
 |μ,.gs id n sz,false,vs=>∃B,μ id=some B/\((∃c,vs=[.slice (some ⟨B.b,B.base,none⟩) n c]/\n<=c/\c*sz<=B.n)\/(n=0/\vs=[.slice none 0 0]))
 |_,.sle _ _,false,vs=>∃a c,vs=[.slice (some a) 0 c]
 |_,.bt,false,vs=>vs=[.slice none 0 0]
 |μ,.map id,false,vs=>∃B,μ id=some B/\vs=[.map (some B.b)]
 |_,.qa,false,vs=>vs=[.map none]
 |μ,.func fn f c,false,vs=>∃F C,vs=[.func fn F C]/\CQ fn=false/\VR μ f true F.toList/\VR μ c true C.toList|μ,.yield id,false,vs=>∃B,μ id=some B/\vs=[.func (.yield B.b) #[] #[]]
 |_,.kR,false,vs=>vs=[.nilFunc]
 |μ,.iface t a,false,vs=>∃v,vs=[.iface t v]/\VR μ a false [v]|_,.lM,false,vs=>vs=[.nilIface]
 |μ,.agg l,false,vs=>∃c,vs=[.agg c]/\VR μ l true c.toList|μ,.aS l,false,vs=>∃c,vs=[.tuple c]/\VR μ l true c.toList
abbrev dC (μ:Mu) (a:AV) (v:Value):Prop:=VR μ a false [v]
abbrev cJ (μ:Mu) (a:AV) (vs:List Value):Prop:=VR μ a true vs
structure Mu.le (μ μ':Mu):Prop where
 m:∀id B,μ id=some B ->μ' id=some B
 s:∀b c,μ.s b=some c ->μ'.s b=some c
theorem Mu.le_refl (μ:Mu):μ.le μ:=⟨λ_ _ h=>h,λ_ _ h=>h⟩
theorem Mu.le_trans {a b c:Mu} (h:a.le b) (k:b.le c):a.le c:=⟨λid B e=>k.m id B (h.m id B e),λx y e=>k.s x y (h.s x y e)⟩
theorem Mu.le.pure {μ μ':Mu} (h:μ.le μ'):μ.pure.le μ'.pure:=⟨(λ_ _ e=>by cases e),h.s⟩
theorem jJ.mono {s s':Nat ->Option (Array Value)} (h:∀b c,s b=some c ->s' b=some c) {b o:Nat} {xs:List Value} (hx:jJ s b o xs):jJ s' b o xs:=by
 rcases hx with e|⟨arr,h1,h2⟩
 .exact .inl e
 .exact .inr ⟨arr,h _ _ h1,h2⟩
theorem VR.mono {a:AV}:∀{μ μ':Mu} (h:μ.le μ') {l:Bool} {vs:List Value},VR μ a l vs ->VR μ' a l vs:=by
 induction a with
 |cons x t IM oQ=>
  intro μ μ' h l vs hv;cases l with
  |false=>exact hv|true=>obtain⟨v,r,e,h1,h2⟩:=hv;exact⟨v,r,e,IM h h1,oQ h h2⟩
 |func fn f c ihf ihc=>
  intro μ μ' h l vs hv;cases l with
  |true=>exact hv|false=>obtain⟨F,C,e,h0,h1,h2⟩:=hv;exact⟨F,C,e,h0,ihf h h1,ihc h h2⟩
 |iface t x ih=>
  intro μ μ' h l vs hv;cases l with
  |true=>exact hv|false=>obtain⟨v,e,h1⟩:=hv;exact⟨v,e,ih h h1⟩
 |agg x ih=>
  intro μ μ' h l vs hv;cases l with
  |true=>exact hv|false=>obtain⟨c,e,h1⟩:=hv;exact⟨c,e,ih h h1⟩
 |aS x ih=>
  intro μ μ' h l vs hv;cases l with
  |true=>exact hv|false=>obtain⟨c,e,h1⟩:=hv;exact⟨c,e,ih h h1⟩
 |ptr id off=>
  intro μ μ' h l vs hv;cases l with
  |true=>exact hv|false=>obtain⟨B,e,h1⟩:=hv;exact⟨B,h.m _ _ e,h1⟩
 |dq x k ih=>
  intro μ μ' h l vs hv;cases l with
  |true=>exact hv|false=>obtain⟨b,o,xs,e,h1,h2⟩:=hv;exact⟨b,o,xs,e,ih h.pure h1,h2.mono h.s⟩
 |ro n x ih=>
  intro μ μ' h l vs hv;cases l with
  |true=>exact hv|false=>
   obtain⟨xs,h1,h2⟩:=hv;refine⟨xs,ih h.pure h1,?_⟩;rcases h2 with ⟨b,o,c,e,hn,h3⟩|h2
   .exact .inl ⟨b,o,c,e,hn,h3.mono h.s⟩
   .exact .inr h2
 |gs id n sz=>
  intro μ μ' h l vs hv;cases l with
  |true=>exact hv|false=>obtain⟨B,e,h1⟩:=hv;exact⟨B,h.m _ _ e,h1⟩
 |slice id off len cap sz=>
  intro μ μ' h l vs hv;cases l with
  |true=>exact hv|false=>obtain⟨B,c,e,h1⟩:=hv;exact⟨B,c,h.m _ _ e,h1⟩
 |sle id sz=>
  intro μ μ' h l vs hv;cases l with
  |true=>exact hv|false=>exact hv
 |map id=>
  intro μ μ' h l vs hv;cases l with
  |true=>exact hv|false=>obtain⟨B,e,h1⟩:=hv;exact⟨B,h.m _ _ e,h1⟩
 |yield id=>
  intro μ μ' h l vs hv;cases l with
  |true=>exact hv|false=>obtain⟨B,e,h1⟩:=hv;exact⟨B,h.m _ _ e,h1⟩
 |_=>intro μ μ' h l vs hv;cases l<;>exact hv
theorem LP (μ:Mu):∀(l:List AV) (vs:List Value),l.length=vs.length ->(∀(i:Nat) (a:AV) (v:Value),l[i]?=some a ->vs[i]?=some v ->dC μ a v) ->cJ μ (ofL l) vs
 |[],[],_,_=>rfl|a::l,v::vs,hl,h=>⟨v,vs,rfl,h 0 a v rfl rfl,LP μ l vs (by simpa using hl) (λi a v h1 h2=>h (i+1) a v (by simpa using h1) (by simpa using h2))⟩
 |[],_::_,hl,_=>absurd hl (by simp)|_::_,[],hl,_=>absurd hl (by simp)
theorem uA (μ:Mu) (v:Value):dC μ (CL v) v:=by
 unfold CL;split
 .rfl
 .rfl
 .exact⟨_,rfl,rfl⟩
 .rfl
 .rename_i l c;unfold Ro;cases hl:Nat.beq l 0 with
  |false=>exact⟨_,rfl⟩|true=>
   cases hc:Nat.beq c 0 with
   |false=>exact⟨_,rfl⟩|true=>
    have h1:=Nat.eq_of_beq_eq_true hl;have h2:=Nat.eq_of_beq_eq_true hc;subst h1;subst h2;rfl
 .rfl
 .rename_i fn f c;unfold aa2;cases hf:f.toList with
  |cons _ _=>exact⟨_,rfl⟩|nil=>
   cases hc:c.toList with
   |cons _ _=>exact⟨_,rfl⟩|nil=>cases fn with
    |func g=>exact⟨f,c,rfl,rfl,hf,hc⟩|_=>exact⟨_,rfl⟩
 .rfl
 .rfl
 .exact⟨_,rfl⟩
theorem iV (μ:Mu) (v:Value):dC μ (fc v) v:=by
 unfold fc;split
 .rename_i cs;refine⟨cs,rfl,LP μ _ _ (by simp) ?_⟩;intro i a v h1 h2;simp only [List.getElem?_map,h2,Option.map_some,Option.some.injEq]at h1;exact h1 ▸ uA μ v
 .rename_i vs;cases h:vs.toList with
  |nil=>exact⟨vs,rfl,h⟩|cons _ _=>exact⟨_,rfl⟩
 .exact uA μ v
def RR (μ:Mu) (r:Tr AV) (tmps:Array Value):Prop:=∀k v,r.get (pathOf k)=some v ->∃cv,tmps[k]?=some cv/\dC μ v cv
theorem RR.mono {μ μ':Mu} (h:μ.le μ') {r:Tr AV} {t:Array Value} (hr:RR μ r t):RR μ' r t:=
 λq v e=>let ⟨cv,h1,h2⟩:=hr q v e;⟨cv,h1,h2.mono h⟩
def ym (μ:Mu):Prop:=∀g,g<64 ->∃n,μ (pathOf g)=some ⟨g,0,n⟩
theorem ym.mono {μ μ':Mu} (h:μ.le μ') (hg:ym μ):ym μ':=λg hl=>let ⟨n,e⟩:=hg g hl;⟨n,h.m _ _ e⟩
theorem bz {a b:Nat}:bJ a b=true↔a<b:=by
 unfold bJ;rw [Nat.ble_eq];exact Iff.rfl
theorem aP {μ:Mu} (hg:ym μ) {r:Tr AV} {a:Act} (hr:RR μ r a.tmps) (x:Operand):dC μ (ev x r) (a.eval x):=by
 cases x with
 |tmp t=>
  show dC μ (gv (r.get (pathOf t))) (a.tmps.getD t undef);cases h:r.get (pathOf t)with
  |none=>exact⟨_,rfl⟩|some v=>
   obtain⟨cv,h1,h2⟩:=hr _ _ h;have:a.tmps.getD t undef=cv:=by
    obtain⟨cR,he⟩:=Array.getElem?_eq_some_iff.1 h1;simp [Array.getD,cR,he]
   rw [this];exact h2
 |const v=>exact iV μ v|global g=>
  show dC μ (Bool.casesOn (bJ g 64) .undef (.ptr (pathOf g) 0)) _;cases h:bJ g 64 with
  |false=>exact⟨_,rfl⟩|true=>
   obtain⟨n,e⟩:=hg g (bz.1 h);exact⟨_,e,rfl⟩
 |func f=>exact⟨#[],#[],rfl,rfl,rfl,rfl⟩
theorem fB {μ:Mu} (hg:ym μ) {r:Tr AV} {a:Act} (hr:RR μ r a.tmps):∀(l:List Operand),cJ μ (qc l r) (l.map a.eval)
 |[]=>rfl|x::l=>⟨_,_,rfl,aP hg hr x,fB hg hr l⟩
theorem cJ.len {μ:Mu}:∀{l:AV} {vs:List Value},cJ μ l vs ->l.len=vs.length:=by
 intro l;induction l with
 |nil=>intro vs h;cases (show vs=[]from h);rfl|cons x t IM oQ=>intro vs h;obtain⟨v,r,rfl,h1,h2⟩:=h;show Nat.succ t.len=_;rw [oQ h2];rfl
 |_=>intro vs h;exact h.elim
theorem cJ.app {μ:Mu} {b:AV} {ys:List Value} (hb:cJ μ b ys):∀{l:AV} {vs:List Value},cJ μ l vs ->cJ μ (app l b) (vs++ys):=by
 intro l;induction l with
 |nil=>intro vs h;cases (show vs=[]from h);exact hb|cons x t IM oQ=>intro vs h;obtain⟨v,r,rfl,h1,h2⟩:=h;exact⟨v,r++ys,rfl,h1,oQ h2⟩
 |_=>intro vs h;exact h.elim
theorem cJ.take {μ:Mu}:∀(n:Nat) {l l':AV} {vs:List Value},cJ μ l vs ->dS n l=some l' ->cJ μ l' (vs.take n)/\n<=vs.length
 |0,l,l',vs,h,e=>by cases (show AV.nil=l' from Option.some.inj e);exact⟨by simp [cJ,VR],by simp⟩
 |n+1,l,l',vs,h,e=>by
  cases l with
  |cons a t=>
   obtain⟨v,r,rfl,h1,h2⟩:=h;change Option.casesOn (motive:=λ_=>Option AV) (dS n t) none (λl=>some (.cons a l))=some l' at e;cases ht:dS n t with
   |none=>rw [ht]at e;cases e|some l2=>
    rw [ht]at e;cases Option.some.inj e;have:=cJ.take n h2 ht;exact⟨⟨v,r.take n,by simp,h1,this.1⟩,by simp;exact this.2⟩
  |_=>cases e
theorem cJ.drop {μ:Mu}:∀(n:Nat) {l:AV} {vs:List Value},cJ μ l vs ->n<=vs.length ->cJ μ (cZ n l) (vs.drop n)
 |0,l,vs,h,_=>h|n+1,l,vs,h,hn=>by
  cases l with
  |cons a t=>
   obtain⟨v,r,rfl,h1,h2⟩:=h;exact cJ.drop n h2 (by simpa using hn)
  |nil=>cases (show vs=[]from h);simp at hn|_=>exact h.elim
theorem aa5:∀(n:Nat),cZ n .undef= .undef
 |0=>rfl|n+1=>rfl
theorem cJ.drop_cons {μ:Mu}:∀(n:Nat) {l a t:AV} {vs:List Value},cJ μ l vs ->cZ n l= .cons a t ->∃v,vs[n]?=some v/\dC μ a v
 |0,l,a,t,vs,h,e=>by
  change l= .cons a t at e;subst e;obtain⟨v,r,rfl,h1,h2⟩:=h;exact⟨v,rfl,h1⟩
 |n+1,l,a,t,vs,h,e=>by
  cases l with
  |cons x y=>
   obtain⟨v,r,rfl,h1,h2⟩:=h;obtain⟨u,hu,hv⟩:=cJ.drop_cons n h2 e;exact⟨u,by simpa using hu,hv⟩
  |_=>cases e
theorem cJ.take_drop {μ:Mu} (n k:Nat) {l l':AV} {vs:List Value} (h:cJ μ l vs) (e:dS n (cZ k l)=some l'):cJ μ l' ((vs.drop k).take n)/\n<=(vs.drop k).length:=by
 by_cases hk:k<=vs.length
 .exact cJ.take n (cJ.drop k h hk) e
 .have key:∀(k:Nat) (l:AV) (vs:List Value),cJ μ l vs ->vs.length<k ->cZ k l= .undef:=by
   intro k;induction k with
   |zero=>intro l vs _ h;omega|succ k ih=>
    intro l vs h hk;cases l with
    |cons y u=>obtain⟨v,r,rfl,_,h2⟩:=h;exact ih u r h2 (by simpa using hk)
    |nil=>rfl|_=>exact h.elim
  rw [key k l vs h (by omega)]at e;cases n with
  |zero=>cases (show some AV.nil=some l' from e);exact⟨by simp [cJ,VR],by simp⟩|succ n=>cases e
theorem cJ.fW {μ:Mu} {z:AV} {zs:List Value} (hz:cJ μ z zs):∀(n:Nat),cJ μ (fW n z) ((List.replicate n zs).flatten)
 |0=>rfl|n+1=>by rw [List.replicate_succ,List.flatten_cons];exact cJ.app (cJ.fW hz n) hz
theorem CX {μ:Mu}:∀{p l:AV} {vs ps:List Value},cJ μ l vs ->cJ μ p ps ->ps.length<=vs.length ->cJ μ (gV 0 l p) (ps++vs.drop ps.length):=by
 intro p;induction p with
 |nil=>intro l vs ps hl hp hn;cases (show ps=[]from hp);exact hl|cons x t IM oQ=>
  intro l vs ps hl hp hn;obtain⟨v,r,rfl,h1,h2⟩:=hp;cases l with
  |cons a u=>
   obtain⟨w,s,rfl,h3,h4⟩:=hl;exact⟨v,r++s.drop r.length,by simp,h1,oQ h4 h2 (by simp at hn ⊢;omega)⟩
  |nil=>cases (show vs=[]from hl);simp at hn|_=>exact hl.elim
 |_=>intro l vs ps hl hp hn;exact hp.elim
theorem qj {μ:Mu}:∀(off:Nat) {l p:AV} {vs ps:List Value},cJ μ l vs ->cJ μ p ps ->off+ps.length<=vs.length ->cJ μ (gV off l p) (vs.take off++ps++vs.drop (off+ps.length))
 |0,l,p,vs,ps,hl,hp,hn=>by
  have:=CX hl hp (by omega);simpa using this
 |off+1,l,p,vs,ps,hl,hp,hn=>by
  cases l with
  |cons a u=>
   obtain⟨w,s,rfl,h3,h4⟩:=hl;have:=qj off h4 hp (by simp at hn;omega);refine⟨w,s.take off++ps++s.drop (off+ps.length),?_,h3,this⟩;rw [show off+1+ps.length=(off+ps.length)+1 by omega];simp
  |nil=>cases (show vs=[]from hl);simp at hn|_=>exact hl.elim
theorem Mu.LQ (μ:Mu):μ.pure.le μ:=⟨(λ_ _ e=>by cases e),λ_ _ e=>e⟩
theorem jJ.drop {s:Nat ->Option (Array Value)} {b o:Nat} {xs:List Value} (h:jJ s b o xs) (n:Nat):jJ s b (o+n) (xs.drop n):=by
 rcases h with e|⟨arr,h1,h2⟩
 .exact .inl (by rw [e];simp)
 .exact .inr ⟨arr,h1,λj v hj=>by
   rw [List.getElem?_drop]at hj;have:=h2 _ _ hj;rwa [show o+(n+j)=o+n+j by omega]at this⟩
theorem jJ.take {s:Nat ->Option (Array Value)} {b o:Nat} {xs:List Value} (h:jJ s b o xs) (n:Nat):jJ s b o (xs.take n):=by
 rcases h with e|⟨arr,h1,h2⟩
 .exact .inl (by rw [e];simp)
 .exact .inr ⟨arr,h1,λj v hj=>h2 j v (by
   rw [List.getElem?_take]at hj;split at hj
   .exact hj
   .cases hj)⟩
theorem dC.cells {μ:Mu} {a:AV} {v:Value} (h:dC μ a v) (ha:a≠.undef) (ht:∀l,a≠.aS l):cJ μ a.cells v.cells.toList:=by
 cases a with
 |agg l=>obtain⟨c,e,h1⟩:=h;cases e;exact h1
 |undef=>exact absurd rfl ha|aS l=>exact absurd rfl (ht l)|nil=>exact h.elim|cons _ _=>exact h.elim|bool b=>cases (show _=[_]from h);exact⟨_,[],rfl,rfl,rfl⟩|int k n=>cases (show _=[_]from h);exact⟨_,[],rfl,rfl,rfl⟩|fy=>cases (show _=[_]from h);exact⟨_,[],rfl,rfl,rfl⟩|bt=>cases (show _=[_]from h);exact⟨_,[],rfl,rfl,rfl⟩|qa=>cases (show _=[_]from h);exact⟨_,[],rfl,rfl,rfl⟩|kR=>cases (show _=[_]from h);exact⟨_,[],rfl,rfl,rfl⟩|lM=>cases (show _=[_]from h);exact⟨_,[],rfl,rfl,rfl⟩|xp k a b=>obtain⟨n,e,h1⟩:=h;cases e;exact⟨_,[],rfl,⟨n,rfl,h1⟩,rfl⟩
 |str s=>obtain⟨n,e,h1⟩:=h;cases e;exact⟨_,[],rfl,⟨n,rfl,h1⟩,rfl⟩
 |pZ s=>obtain⟨n,e,h1⟩:=h;cases e;exact⟨_,[],rfl,⟨n,rfl,h1⟩,rfl⟩
 |ptr id off=>obtain⟨B,e,h1⟩:=h;cases h1;exact⟨_,[],rfl,⟨B,e,rfl⟩,rfl⟩
 |map id=>obtain⟨B,e,h1⟩:=h;cases h1;exact⟨_,[],rfl,⟨B,e,rfl⟩,rfl⟩
 |yield id=>obtain⟨B,e,h1⟩:=h;cases h1;exact⟨_,[],rfl,⟨B,e,rfl⟩,rfl⟩
 |slice id off len cap sz=>obtain⟨B,c,e,h1,h2⟩:=h;cases h1;exact⟨_,[],rfl,⟨B,c,e,rfl,h2⟩,rfl⟩
 |sle id sz=>obtain⟨a,c,h1⟩:=h;cases h1;exact⟨_,[],rfl,⟨a,c,rfl⟩,rfl⟩
 |dq l k=>
  have h0:=h;obtain⟨b,o,xs,e,h1⟩:=h;cases e;exact⟨_,[],rfl,h0,rfl⟩
 |ro n l=>
  have h0:=h;obtain⟨xs,h1,h2⟩:=h;rcases h2 with ⟨b,o,c,e,h3⟩|⟨e1,e2,q,e⟩
  .cases e;exact⟨_,[],rfl,h0,rfl⟩
  .cases e;exact⟨_,[],rfl,h0,rfl⟩
 |gs id n sz=>
  have h0:=h;obtain⟨B,h1,h2⟩:=h;rcases h2 with ⟨c,e,h3⟩|⟨e1,e⟩
  .cases e;exact⟨_,[],rfl,h0,rfl⟩
  .cases e;exact⟨_,[],rfl,h0,rfl⟩
 |func fn f c=>obtain⟨F,C,e,h1⟩:=h;cases e;exact⟨_,[],rfl,⟨F,C,rfl,h1⟩,rfl⟩
 |iface t x=>obtain⟨u,e,h1⟩:=h;cases e;exact⟨_,[],rfl,⟨u,rfl,h1⟩,rfl⟩
theorem yn {μ:Mu} {a:AV} {v:Value} (h:dC μ a v) (hc:a.jG=true):v.oneCell'=true:=by
 cases a with
 |agg l=>cases hc|undef=>cases hc|aS l=>cases hc|nil=>exact h.elim|cons _ _=>exact h.elim|xp k a b=>obtain⟨n,e,h1⟩:=h;cases e;rfl
 |str s=>obtain⟨n,e,h1⟩:=h;cases e;rfl
 |pZ s=>obtain⟨n,e,h1⟩:=h;cases e;rfl
 |ptr id off=>obtain⟨B,e,h1⟩:=h;cases h1;rfl
 |map id=>obtain⟨B,e,h1⟩:=h;cases h1;rfl
 |yield id=>obtain⟨B,e,h1⟩:=h;cases h1;rfl
 |slice id off len cap sz=>obtain⟨B,c,e,h1,h2⟩:=h;cases h1;rfl
 |sle id sz=>obtain⟨a,c,h1⟩:=h;cases h1;rfl
 |dq l k=>obtain⟨b,o,xs,e,h1⟩:=h;cases e;rfl
 |ro n l=>obtain⟨xs,h1,⟨b,o,c,e,h3⟩|⟨e1,e2,q,e⟩⟩:=h<;>(cases e;rfl)
 |gs id n sz=>obtain⟨B,h1,⟨c,e,h3⟩|⟨e1,e⟩⟩:=h<;>(cases e;rfl)
 |func fn f c=>obtain⟨F,C,e,h1⟩:=h;cases e;rfl
 |iface t x=>obtain⟨u,e,h1⟩:=h;cases e;rfl
 |_=>cases (show _=[_]from h);rfl
theorem uB {μ:Mu}:∀(n:Nat) {l:AV} {off:Nat} {c c':Tr AV} {vs:List Value},lay n l off c=some c' ->cJ μ l vs ->
  vs.length=n/\(∀v∈vs,v.oneCell'=true)/\∀k v,c'.get (pathOf k)=some v ->(off<=k/\k<off+n/\∃cv,vs[k - off]?=some cv/\dC μ v cv)\/((k<off\/off+n<=k)/\c.get (pathOf k)=some v)
 |0,l,off,c,c',vs,h,hl=>by
  cases l with
  |nil=>
   cases (show vs=[]from hl);cases (show some c=some c' from h);exact⟨rfl,by simp,λq v hq=> .inr ⟨by omega,hq⟩⟩
  |_=>cases h
 |n+1,l,off,c,c',vs,h,hl=>by
  cases l with
  |cons a t=>
   change Bool.casesOn (motive:=λ_=>Option (Tr AV)) a.jG none (lay n t (Nat.succ off) (c.set a (pathOf off)))=some c' at h;obtain⟨v,r,rfl,h1,h2⟩:=hl;cases hc:a.jG with
   |false=>rw [hc]at h;cases h|true=>
    rw [hc]at h;obtain⟨hlen,Fz,mo⟩:=uB n h h2;refine⟨by simp [hlen],?_,?_⟩
    .intro u hu;rcases List.mem_cons.1 hu with e|e
     .subst e;exact yn h1 hc
     .exact Fz u e
    .intro k u hq;rcases mo k u hq with ⟨ha,hb,cv,Az,hv⟩|⟨ha,hb⟩
     .refine .inl ⟨by omega,by omega,cv,?_,hv⟩;rw [show k - off=(k - Nat.succ off)+1 by omega];simpa using Az
     .rw [Tr.bE]at hb;by_cases hqo:k=off
      .subst hqo;rw [if_pos rfl]at hb;cases hb;exact .inl ⟨by omega,by omega,v,by simp,h1⟩
      .rw [if_neg (λe=>hqo (dJ e))]at hb;exact .inr ⟨by omega,hb⟩
  |_=>cases h
theorem lX {μ:Mu} {c:Tr AV} {f:Nat ->Option Value} (hf:∀k v,c.get (pathOf k)=some v ->∃cv,f k=some cv/\dC μ v cv):
  ∀(n:Nat) {off:Nat} {l:AV},Ay c n off=some l ->∃vs,cJ μ l vs/\vs.length=n/\∀j v,vs[j]?=some v ->f (off+j)=some v
 |0,off,l,h=>by cases (show some AV.nil=some l from h);exact⟨[],rfl,rfl,by simp⟩
 |n+1,off,l,h=>by
  change Option.casesOn (motive:=λ_=>Option AV) (c.get (pathOf off)) none (λv=>Option.casesOn (motive:=λ_=>Option AV) (Ay c n (Nat.succ off)) none (λl=>some (.cons v l)))=some l at h;cases hg:c.get (pathOf off)with
  |none=>rw [hg]at h;cases h|some v=>
   rw [hg]at h;cases hc:Ay c n (Nat.succ off)with
   |none=>simp only [hc]at h;cases h|some l2=>
    simp only [hc]at h;cases h;obtain⟨vs,h1,h2,h3⟩:=lX hf n hc;obtain⟨cv,h4,h5⟩:=hf off v hg;refine⟨cv::vs,⟨cv,vs,rfl,h5,h1⟩,by simp [h2],?_⟩;intro j u hj;cases j with
    |zero=>simp at hj;subst hj;exact h4|succ j=>have:=h3 j u (by simpa using hj);rwa [show off+(j+1)=Nat.succ off+j by omega]
def Xv (fz:Nat×Nat) (n:Nat):Prop:=∀o,o<=n ->¬(fz.1<=o/\o<fz.2)
def ah4 (ro:Bool) (m:Nat) (fz:Nat×Nat) (n:Nat):Prop:=(ro=false ->Xv fz n)/\(ro=true ->n=m)
def AA (s:Nat ->Option (Array Value)) (l:List (AV×Nat)):Prop:=
 ∀(i:Nat) (x:AV×Nat),l[i]?=some x ->x.1≠.undef ->∃(c:Array Value) (vs:List Value),s i=some c/\c.size=x.2/\(∀μ,cJ μ x.1 vs)/\∀(k:Nat) (v:Value),vs[k]?=some v ->c[k]?=some v
theorem AA.mono {s s':Nat ->Option (Array Value)} (h:∀b c,s b=some c ->s' b=some c) {l:List (AV×Nat)} (ht:AA s l):AA s' l:=
 λi x hi hu=>let ⟨c,vs,h1,h2⟩:=ht i x hi hu;⟨c,vs,h _ _ h1,h2⟩
def tg:Option (Option Nat) ->Option Code
 |none=>none|some none=>some .ret|some (some i)=>some (.exit i)
def Xw (ready:Bool) (p:Option (Option Nat)):LoopState:=if ready then .ready else match p with|none=> .busy|some _=> .done
def MR (μ:Mu):Nat ->List (AV×AV) ->List MapEntry ->Prop
 |_,[],[]=>True|i,x::l,e::es=>dC μ x.1 e.key/\dC μ x.2 e.val/\e.born=i/\MR μ (i+1) l es|_,_,_=>False
theorem MR.mono {μ μ':Mu} (h:μ.le μ'):∀{i:Nat} {l:List (AV×AV)} {es:List MapEntry},MR μ i l es ->MR μ' i l es
 |_,[],[],_=>trivial|_,x::l,e::es,hm=>⟨hm.1.mono h,hm.2.1.mono h,hm.2.2.1,hm.2.2.2.mono h⟩
 |_,[],_::_,hm=>hm.elim|_,_::_,[],hm=>hm.elim
def AB (μ:Mu) (heap:Array Obj) (B:nJ):AO ->Prop
 | .cells t n ro=>n<=B.n/\∃c el fz,heap[B.b]?=some (.cells c el fz)/\B.base+B.n<=c.size/\ah4 ro n fz c.size/\
  ∀k v,t.get (pathOf k)=some v ->k<B.n/\∃cv,c[B.base+k]?=some cv/\dC μ v cv
 | .gl l ro=>(B.n=0/\l= .nil)\/∃xs,cJ μ l xs/\xs.length<=B.n/\∃c el fz,heap[B.b]?=some (.cells c el fz)/\B.base+B.n<=c.size/\Xv fz c.size/\(ro=true ->μ.s B.b=some c)/\
  ∀k v,xs[k]?=some v ->c[B.base+k]?=some v
 | .mp l=>∃(es:Array MapEntry),heap[B.b]?=some (.map es es.size)/\MR μ 0 l es.toList| .si s pos=>B.base=0/\∃bs:ByteArray,heap[B.b]?=some (.stringIter bs pos)/\bs.data.toList.map UInt8.toNat=s| .mi m n seen=>B.base=0/\∃M sn,μ m=some M/\heap[B.b]?=some (.mapIter (some M.b) n sn n)/\sn.toList=seen.reverse| .loop ready gC fn kl nt params assign body Aq=>∃l:Loop,heap[B.b]?=some (.loop l)/\l.state=Xw ready gC/\(ready=false ->gC=none ->True)/\l.pending=tg gC/\l.fn=fn/\RR μ kl l.tmps/\l.tmps.size=nt/\
  l.params=params/\l.assign=assign/\l.body=body/\∃D,μ Aq=some D/\l.defers=D.b
 | .marks=>heap[B.b]?=some (.deferred (some []))
def AO.uC:AO ->Bool
 | .cells _ _ ro=>ro| .gl _ ro=>ro|_=>false
def AO.cU (o:AO) (B:nJ):Prop:=B.n=0/\∃ro,o= .gl .nil ro
theorem AB.mono {μ μ':Mu} (h:μ.le μ') {heap:Array Obj} {B:nJ} {o:AO} (ho:AB μ heap B o):AB μ' heap B o:=by
 cases o with
 |cells t n ro=>
  obtain⟨h0,c,el,fz,h1,h2,h3,h4⟩:=ho;exact⟨h0,c,el,fz,h1,h2,h3,λk v e=>let ⟨a,cv,b,d⟩:=h4 k v e;⟨a,cv,b,d.mono h⟩⟩
 |gl l ro=>
  rcases ho with ho|⟨xs,h1,h2,c,el,fz,h3,h4,h5,h6,h7⟩
  .exact .inl ho
  .exact .inr ⟨xs,h1.mono h,h2,c,el,fz,h3,h4,h5,λe=>h.s _ _ (h6 e),h7⟩
 |mp l=>obtain⟨es,h1,h2⟩:=ho;exact⟨es,h1,h2.mono h⟩
 |si s pos=>exact ho|mi m n seen=>obtain⟨h0,M,sn,h1,h2⟩:=ho;exact⟨h0,M,sn,h.m _ _ h1,h2⟩
 |loop _ _ _ _ _ _ _ _ _=>
  obtain⟨l,h1,h2,h3,h4,h5,h6,h7,h8,h9,IP,D,RC,h12⟩:=ho;exact⟨l,h1,h2,h3,h4,h5,h6.mono h,h7,h8,h9,IP,D,h.m _ _ RC,h12⟩
 |marks=>exact ho
theorem AB.lt {μ:Mu} {heap:Array Obj} {B:nJ} {o:AO} (ho:AB μ heap B o):o.cU B\/B.b<heap.size:=by
 cases o with
 |cells t n ro=>obtain⟨h0,c,el,fz,h1,_⟩:=ho;exact .inr (Array.getElem?_eq_some_iff.1 h1).1
 |gl l ro=>
  rcases ho with ⟨h1,rfl⟩|⟨xs,h1,h2,c,el,fz,h3,_⟩
  .exact .inl ⟨h1,ro,rfl⟩
  .exact .inr (Array.getElem?_eq_some_iff.1 h3).1
 |mp l=>obtain⟨es,h1,h2⟩:=ho;exact .inr (Array.getElem?_eq_some_iff.1 h1).1
 |si s pos=>obtain⟨_,bs,h1,h2⟩:=ho;exact .inr (Array.getElem?_eq_some_iff.1 h1).1
 |mi m n seen=>obtain⟨_,M,sn,_,h1,_⟩:=ho;exact .inr (Array.getElem?_eq_some_iff.1 h1).1
 |loop _ _ _ _ _ _ _ _ _=>obtain⟨l,h1,_⟩:=ho;exact .inr (Array.getElem?_eq_some_iff.1 h1).1
 |marks=>exact .inr (Array.getElem?_eq_some_iff.1 (show heap[B.b]?=_ from ho)).1
theorem AB.heap {μ:Mu} {heap aa6:Array Obj} {B:nJ} {o:AO} (e:o.cU B\/aa6[B.b]?=heap[B.b]?) (ho:AB μ heap B o):AB μ aa6 B o:=by
 rcases e with ⟨e1,ro,rfl⟩|e
 .exact .inl ⟨e1,rfl⟩
 cases o with
 |cells t n ro=>obtain⟨h0,c,el,fz,h1,h2⟩:=ho;exact⟨h0,c,el,fz,e.trans h1,h2⟩
 |gl l ro=>
  rcases ho with ho|⟨xs,h1,h2,c,el,fz,h3,h4⟩
  .exact .inl ho
  .exact .inr ⟨xs,h1,h2,c,el,fz,e.trans h3,h4⟩
 |mp l=>obtain⟨es,h1,h2⟩:=ho;exact⟨es,e.trans h1,h2⟩
 |si s pos=>obtain⟨h0,bs,h1,h2⟩:=ho;exact⟨h0,bs,e.trans h1,h2⟩
 |mi m n seen=>obtain⟨h0,M,sn,h1,h2,h3⟩:=ho;exact⟨h0,M,sn,h1,e.trans h2,h3⟩
 |loop _ _ _ _ _ _ _ _ _=>obtain⟨l,h1,h2⟩:=ho;exact⟨l,e.trans h1,h2⟩
 |marks=>exact e.trans ho
variable [aT]
structure Grow (B0:Nat) (s s':Nat ->Option (Array Value)):Prop where
 le:∀b c,s b=some c ->s' b=some c
 new:∀b c,s' b=some c ->s b=some c\/B0<=b
omit [aT]in
theorem Grow.refl (B0:Nat) (s:Nat ->Option (Array Value)):Grow B0 s s:=⟨λ_ _ e=>e,λ_ _ e=> .inl e⟩
omit [aT]in
theorem Grow.trans {B0:Nat} {a b c:Nat ->Option (Array Value)} (h:Grow B0 a b) (k:Grow B0 b c):Grow B0 a c:=
 ⟨λx y e=>k.le x y (h.le x y e),λx y e=>(k.new x y e).elim (λe=>h.new x y e) .inr⟩
structure Below (B:Nat) (w w':World):Prop extends Go.RowKit.Below B w w' where
 drawn:aT.l=[] ->w.drawn<=w'.drawn
theorem Below.refl (B:Nat) (w:World):Below B w w:=⟨.refl _ _,λ_=>Nat.le_refl _⟩
theorem Below.trans {B:Nat} {a b c:World} (h:Below B a b) (k:Below B b c):Below B a c:=⟨h.toBelow.trans k.toBelow,λe=>Nat.le_trans (h.drawn e) (k.drawn e)⟩
theorem Below.mono {B B':Nat} {w w':World} (h:Below B w w') (hB:B'<=B):Below B' w w':=⟨h.toBelow.mono hB,h.drawn⟩
theorem Below.drew {B:Nat} {a w:World} (h:Below B a w):Below B a w.drew:=⟨h.toBelow.drew,λe=>Nat.le_succ_of_le (h.drawn e)⟩
theorem Below.alloc {B:Nat} {a w:World} (h:Below B a w) (hB:B<=w.heap.size) (o:Obj):Below B a (w.alloc o):=⟨h.toBelow.alloc hB o,h.drawn⟩
omit [aT]in
theorem Below.tabs {T T':aT} (e:T'.l=[] ->T.l=[]) {B:Nat} {w w':World} (h:@Below T B w w'):@Below T' B w w':= @Below.mk T' B w w' (@Below.toBelow T B w w' h) λk=> @Below.drawn T B w w' h (e k)
structure HR (μ:Mu) (B0:Nat) (h:Heap) (w:World):Prop where
 fresh:∀id B,μ id=some B ->id.toNat<h.n.toNat
 live:∀id o,h.t.get id=some o ->id.toNat<h.n.toNat
 obj:∀id B o,μ id=some B ->h.t.get id=some o ->AB μ w.heap B o
 sep:∀i j A B o p,i≠j ->μ i=some A ->μ j=some B ->h.t.get i=some o ->h.t.get j=some p ->A.b≠B.b\/o.cU A\/p.cU B
 own:∀id B o,μ id=some B ->h.t.get id=some o ->o.uC=false ->o.cU B\/B0<=B.b
 dO:ym μ
 size:B0<=w.heap.size
 Ar:∀b c,μ.s b=some c ->∃el fz,w.heap[b]?=some (.cells c el fz)
 apart:∀id B o,μ id=some B ->h.t.get id=some o ->o.uC=false ->o.cU B\/μ.s B.b=none
 tab:AA μ.s aT.l
structure bP (μ:Mu) (B0:Nat) (h:Heap) (w:World) (μ':Mu) (h':Heap) (w':World):Prop where
 ext:∀id,id.toNat<h.n.toNat ->μ' id=μ id
 le:h.n.toNat<=h'.n.toNat
 rel:HR μ' B0 h' w'
 below:Below B0 w w'
 dK:Grow B0 μ.s μ'.s
theorem bP.mu {μ:Mu} {B0:Nat} {h:Heap} {w:World} {μ':Mu} {h':Heap} {w':World} (hr:HR μ B0 h w) (p:bP μ B0 h w μ' h' w'):μ.le μ':=
 ⟨λid B e=>(p.ext id (hr.fresh id B e)).trans e,p.dK.le⟩
theorem bP.refl {μ:Mu} {B0:Nat} {h:Heap} {w:World} (hr:HR μ B0 h w):bP μ B0 h w μ h w:=⟨λ_ _=>rfl,Nat.le_refl _,hr,Below.refl _ _,Grow.refl _ _⟩
theorem bP.trans {μ:Mu} {B0:Nat} {h:Heap} {w:World} {μ':Mu} {h':Heap} {w':World} {μ'':Mu} {h'':Heap} {w'':World}
  (p:bP μ B0 h w μ' h' w') (q:bP μ' B0 h' w' μ'' h'' w''):bP μ B0 h w μ'' h'' w'':=
 ⟨λid e=>(q.ext id (Nat.lt_of_lt_of_le e p.le)).trans (p.ext id e),Nat.le_trans p.le q.le,q.rel,p.below.trans q.below,p.dK.trans q.dK⟩
theorem HR.yo {μ:Mu} {B0:Nat} {h:Heap} {w w':World} (e:w'.heap=w.heap) (hr:HR μ B0 h w):HR μ B0 h w':=
 ⟨hr.fresh,hr.live,λid B o a b=>by rw [e];exact hr.obj id B o a b,hr.sep,hr.own,hr.dO,by rw [e];exact hr.size,by rw [e];exact hr.Ar,hr.apart,hr.tab⟩
theorem HR.je {μ:Mu} {B0:Nat} {h:Heap} {w:World} {id:Pos} {x:Tr AV×Nat×Bool} (e:je h id=some x):h.t.get id=some (.cells x.1 x.2.1 x.2.2):=by
 unfold Sy.je at e;cases hg:h.t.get id with
 |none=>rw [hg]at e;cases e|some o=>
  rw [hg]at e;cases o with
  |cells t n ro=>cases e;rfl|gl _ _=>cases e|mp _=>cases e|si _ _=>cases e|mi _ _ _=>cases e|loop _ _ _ _ _ _ _ _ _=>cases e|marks=>cases e
theorem fo {t:Tr AV} {n:Nat} {ro:Bool} {B:nJ}:¬(AO.cells t n ro).cU B:=λ⟨_,_,e⟩=>by cases e
theorem HR.new {μ:Mu} {B0:Nat} {h:Heap} {w:World} (hr:HR μ B0 h w) (id:Pos) (hid:μ id=none) (o:AO) (B:nJ) (ob:Obj) (n':Pos) (hn:h.n.toNat<=n'.toNat) (cR:id.toNat<n'.toNat)
  (hB:B.b=w.heap.size) (t:Tr AO) (ht:∀q p,t.get q=some p ->(q=id/\p=o)\/(q≠id/\h.t.get q=some p))
  (ho:AB (μ.put id B) (w.heap.push ob) B o):
  HR (μ.put id B) B0 ⟨t,n'⟩ (w.alloc ob):=by
 have hle:μ.le (μ.put id B):=⟨λq C e=>by
  rw [Mu.bc _ _ _ (λe'=>by subst e';rw [hid]at e;cases e)];exact e,λ_ _ e=>e⟩
 have mo:∀k,k<w.heap.size ->(w.heap.push ob)[k]?=w.heap[k]?:=λk hk=>by rw [Array.getElem?_push,if_neg (by omega)]
 have wP:∀b c,μ.s b=some c ->b<w.heap.size:=λb c e=>let ⟨_,_,h1⟩:=hr.Ar b c e;(Array.getElem?_eq_some_iff.1 h1).1;refine⟨?_,?_,?_,?_,?_,hr.dO.mono hle,Nat.le_trans hr.size (by show w.heap.size<=(w.heap.push ob).size;simp),?_,?_,hr.tab⟩
 .intro q C e;by_cases hq:q=id
  .subst hq;exact cR
  .rw [Mu.bc _ _ _ hq]at e;exact Nat.lt_of_lt_of_le (hr.fresh q C e) hn
 .intro q p e;rcases ht q p e with ⟨h1,h2⟩|⟨h1,h2⟩
  .subst h1;exact cR
  .exact Nat.lt_of_lt_of_le (hr.live q p h2) hn
 .intro q C p e1 e2;rcases ht q p e2 with ⟨h1,h2⟩|⟨h1,h2⟩
  .subst h1;subst h2;rw [Mu.ct]at e1;cases e1;exact ho
  .rw [Mu.bc _ _ _ h1]at e1;have AD:=hr.obj q C p e1 h2;exact(AD.heap (AD.lt.imp (λh=>h) (mo _))).mono hle
 .intro i j A C p q pQ e1 e2 e3 e4;rcases ht i p e3 with ⟨h1,h2⟩|⟨h1,h2⟩
  .rcases ht j q e4 with ⟨h3,h4⟩|⟨h3,h4⟩
   .exact absurd (h1.trans h3.symm) pQ
   .subst h1;rw [Mu.ct]at e1;rw [Mu.bc _ _ _ h3]at e2;cases e1;rcases(hr.obj j C q e2 h4).lt with hi|hl
    .exact .inr (.inr hi)
    .exact .inl (by omega)
  .rcases ht j q e4 with ⟨h3,h4⟩|⟨h3,h4⟩
   .subst h3;rw [Mu.ct]at e2;rw [Mu.bc _ _ _ h1]at e1;cases e2;rcases(hr.obj i A p e1 h2).lt with hi|hl
    .exact .inr (.inl hi)
    .exact .inl (by omega)
   .rw [Mu.bc _ _ _ h1]at e1;rw [Mu.bc _ _ _ h3]at e2;exact hr.sep i j A C p q pQ e1 e2 h2 h4
 .intro q C p e1 e2 e3;rcases ht q p e2 with ⟨h1,h2⟩|⟨h1,h2⟩
  .subst h1;rw [Mu.ct]at e1;cases e1;rw [hB];exact .inr hr.size
  .rw [Mu.bc _ _ _ h1]at e1;exact hr.own q C p e1 h2 e3
 .intro b c e;obtain⟨el,fz,h1⟩:=hr.Ar b c e;exact⟨el,fz,(mo b (wP b c e)).trans h1⟩
 .intro q C p e1 e2 e3;rcases ht q p e2 with ⟨h1,h2⟩|⟨h1,h2⟩
  .subst h1;rw [Mu.ct]at e1;cases e1;refine .inr ?_;show μ.s B.b=none;cases hs:μ.s B.b with
   |none=>rfl|some c=>have:=wP _ _ hs;omega
  .rw [Mu.bc _ _ _ h1]at e1;exact hr.apart q C p e1 h2 e3
theorem HR.chg {μ:Mu} {B0:Nat} {h:Heap} {w w':World} (hr:HR μ B0 h w) (id:Pos) (B:nJ) (hid:μ id=some B) (o:AO) (IQ:o.uC=false) (o0:AO) (h0:h.t.get id=some o0) (vP:o0.uC=false) (dF:¬o0.cU B)
  (hb:∀k,k≠B.b ->w'.heap[k]?=w.heap[k]?) (hs:w.heap.size<=w'.heap.size) (ho:AB μ w'.heap B o) (t:Tr AO)
  (ht:∀q p,t.get q=some p ->(q=id/\p=o)\/(q≠id/\h.t.get q=some p)):HR μ B0 ⟨t,h.n⟩ w':=by
 refine⟨hr.fresh,?_,?_,?_,?_,hr.dO,Nat.le_trans hr.size hs,?_,?_,hr.tab⟩
 .intro q p e;rcases ht q p e with ⟨h1,h2⟩|⟨h1,h2⟩
  .subst h1;exact hr.live _ _ h0
  .exact hr.live q p h2
 .intro q C p e1 e2;rcases ht q p e2 with ⟨h1,h2⟩|⟨h1,h2⟩
  .subst h1;subst h2;rw [hid]at e1;cases e1;exact ho
  .refine(hr.obj q C p e1 h2).heap ?_;rcases hr.sep q id C B p o0 h1 e1 hid h2 h0 with h3|h3|h3
   .exact .inr (hb _ h3)
   .exact .inl h3
   .exact absurd h3 dF
 .intro i j A C p q pQ e1 e2 e3 e4;rcases ht i p e3 with ⟨h1,h2⟩|⟨h1,h2⟩
  .rcases ht j q e4 with ⟨h3,h4⟩|⟨h3,h4⟩
   .exact absurd (h1.trans h3.symm) pQ
   .subst h1;rw [hid]at e1;cases e1;rcases hr.sep i j B C o0 q pQ hid e2 h0 h4 with h5|h5|h5
    .exact .inl h5
    .exact absurd h5 dF
    .exact .inr (.inr h5)
  .rcases ht j q e4 with ⟨h3,h4⟩|⟨h3,h4⟩
   .subst h3;rw [hid]at e2;cases e2;rcases hr.sep i j A B p o0 pQ e1 hid h2 h0 with h5|h5|h5
    .exact .inl h5
    .exact .inr (.inl h5)
    .exact absurd h5 dF
   .exact hr.sep i j A C p q pQ e1 e2 h2 h4
 .intro q C p e1 e2 e3;rcases ht q p e2 with ⟨h1,h2⟩|⟨h1,h2⟩
  .subst h1;rw [hid]at e1;cases e1;exact .inr ((hr.own _ _ _ hid h0 vP).resolve_left dF)
  .exact hr.own q C p e1 h2 e3
 .intro b c e;obtain⟨el,fz,h1⟩:=hr.Ar b c e;have dD:b≠B.b:=λe'=>by
   have:=(hr.apart id B o0 hid h0 vP).resolve_left dF;rw [e',this]at e;cases e
  exact⟨el,fz,(hb b dD).trans h1⟩
 .intro q C p e1 e2 e3;rcases ht q p e2 with ⟨h1,h2⟩|⟨h1,h2⟩
  .subst h1;rw [hid]at e1;cases e1;exact .inr ((hr.apart _ _ _ hid h0 vP).resolve_left dF)
  .exact hr.apart q C p e1 h2 e3
theorem HR.less {μ:Mu} {B0:Nat} {h:Heap} {w:World} (hr:HR μ B0 h w) (t:Tr AO) (key:∀q p,t.get q=some p ->h.t.get q=some p):HR μ B0 ⟨t,h.n⟩ w:=
 ⟨hr.fresh,λq o e=>hr.live q o (key q o e),λq B o e1 e2=>hr.obj q B o e1 (key q o e2),λi j A C p q pQ e1 e2 e3 e4=>hr.sep i j A C p q pQ e1 e2 (key _ _ e3) (key _ _ e4),
  λq B o e1 e2 e3=>hr.own q B o e1 (key _ _ e2) e3,hr.dO,hr.size,hr.Ar,λq B o e1 e2 e3=>hr.apart q B o e1 (key _ _ e2) e3,hr.tab⟩
theorem HR.kill {μ:Mu} {B0:Nat} {h:Heap} {w:World} (hr:HR μ B0 h w) (id:Pos):HR μ B0 (kill id h) w:=
 hr.less _ (λq p e=>by
  rw [Tr.rn]at e;by_cases hq:q=id
  .rw [if_pos hq]at e;cases e
  .rwa [if_neg hq]at e)
end
section
variable [aT]
theorem ah {P:Program} {w:World} {t:TypeId} {d:TypeDesc} (h:P.underlying t=some d):(underlying t).run P w= .ok d w:=by
 simp [underlying,h]
theorem iW {P:Program} {w:World} {t:TypeId} {i:TypeInfo} (h:P.info? t=some i):(typeInfo t).run P w= .ok i w:=by
 simp [typeInfo,h]
theorem uD {P:Program} {t:TypeId} {n:Nat} (h:fN P t=some n):∃i,P.info? t=some i/\i.size=n:=by
 unfold fN at h;cases hi:P.info? t with
 |none=>rw [hi]at h;cases h|some i=>rw [hi]at h;exact⟨i,rfl,Option.some.inj h⟩
theorem aJ {P:Program} {w:World} {t:TypeId} {n:Nat} (h:fN P t=some n):(sizeOf t).run P w= .ok n w:=by
 obtain⟨i,hi,hn⟩:=uD h;simp [sizeOf,iW hi,hn]
theorem gx {P:Program} {w:World} {t:TypeId} {v:Value} (h:lD P t=some v):(zeroValue t).run P w= .ok v w:=by
 unfold lD at h;cases hi:P.info? t with
 |none=>rw [hi]at h;cases h|some i=>rw [hi]at h;simp at h;simp [zeroValue,iW hi,h]
theorem qk {P:Program} {w:World} {t:TypeId} {n:Nat} (h:iM P t=some n):∃i,(typeInfo t).run P w= .ok i w/\i.bytes=n:=by
 unfold iM at h;cases hi:P.info? t with
 |none=>rw [hi]at h;cases h|some i=>rw [hi]at h;exact⟨i,iW hi,Option.some.inj h⟩
theorem ql {P:Program} {t:TypeId} {m:Option Nat} (h:ss P t=some m):
  (m=none/\∀w,(isAgg t).run P w= .ok false w)\/(∃n,m=some n/\fN P t=some n/\∀w,(isAgg t).run P w= .ok true w):=by
 unfold ss at h;cases hu:P.underlying t with
 |none=>rw [hu]at h;cases h|some d=>
  rw [hu]at h;cases d with
  |struct fs=>
   right;cases hs:fN P t with
   |none=>simp [hs]at h|some n=>simp [hs]at h;exact⟨n,h.symm,rfl,λw=>by simp [isAgg,ah hu]⟩
  |array k e=>
   right;cases hs:fN P t with
   |none=>simp [hs]at h|some n=>simp [hs]at h;exact⟨n,h.symm,rfl,λw=>by simp [isAgg,ah hu]⟩
  |_=>left;simp at h;exact⟨h.symm,λw=>by simp [isAgg,ah hu]⟩
theorem cell_of {w:World} {b off:Nat} {c:Array Value} {el:TypeId} {fz:Nat×Nat} {v:Value} (hb:w.heap[b]?=some (.cells c el fz)) (hv:c[off]?=some v):w.cell? ⟨b,off,none⟩=some v:=by
 simp [World.cell?,hb,hv]
theorem addr_add (b o n:Nat):(⟨b,o,none⟩:Addr).add n=⟨b,o+n,none⟩:=by
 unfold Addr.add;split<;>simp_all
theorem uE {P:Program} {μ:Mu} {B0:Nat} {h:Heap} {w:World} (hr:HR μ B0 h w) {t:TypeId} {id:Pos} {off:Nat} {x:Tr AV×Nat×Bool} {v:AV}
  (hx:h.t.get id=some (.cells x.1 x.2.1 x.2.2)) (hv:CM P t x.1 off=some v) {B:nJ} (hB:μ id=some B):
  ∃cv,(loadVar t ⟨B.b,B.base+off,none⟩).run P w= .ok cv w/\dC μ v cv:=by
 have ho:=hr.obj id B _ hB hx;obtain⟨h0,c,el,fz,h1,h2,h3,h4⟩:=ho;unfold CM at hv;cases hl:ss P t with
 |none=>rw [hl]at hv;cases hv|some m=>
  rw [hl]at hv;rcases ql hl with ⟨rfl,ha⟩|⟨n,rfl,hs,ha⟩
  .obtain⟨hk,cv,h5,h6⟩:=h4 off v hv;refine⟨cv,?_,h6⟩;simp [loadVar,ha,World.cell?,h1,h5]
  .change (Ay x.1 n off).map .agg=some v at hv;cases hc:Ay x.1 n off with
   |none=>rw [hc]at hv;cases hv|some l=>
    rw [hc]at hv;cases hv;obtain⟨vs,h5,h6,h7⟩:=lX (f:=λk=>c[B.base+k]?) (λk v e=>(h4 k v e).2) n hc;refine⟨.agg vs.toArray,?_,vs.toArray,rfl,by simpa using h5⟩;have:=run_loadCells_list (P:=P) w ⟨B.b,B.base+off,none⟩ vs (λj v hj=>by
     rw [addr_add];exact cell_of h1 (by have:=h7 j v hj;rwa [show B.base+off+j=B.base+(off+j) by omega]))
    simp [loadVar,ha,aJ hs,<-h6,this]
theorem qm {μ:Mu} {B0:Nat} {h:Heap} {w:World} (hr:HR μ B0 h w) {b o:Nat} {xs:List Value} (hs:jJ μ.s b o xs) (j:Nat) (v:Value) (hj:xs[j]?=some v):w.cell? ⟨b,o+j,none⟩=some v:=by
 rcases hs with e|⟨arr,h1,h2⟩
 .rw [e]at hj;cases hj
 .obtain⟨el,fz,h3⟩:=hr.Ar b arr h1;exact cell_of h3 (h2 j v hj)
theorem qn {P:Program} {μ:Mu} {w:World} {t:TypeId} {l v:AV} {k:Nat} (hv:gM P t (cZ k l)=some v) {b o:Nat} {xs:List Value} (hl:cJ μ l xs) (hs:∀j v,xs[j]?=some v ->w.cell? ⟨b,o+j,none⟩=some v):
  ∃cv,(loadVar t ⟨b,o+k,none⟩).run P w= .ok cv w/\dC μ v cv:=by
 unfold gM at hv;cases ht:ss P t with
 |none=>rw [ht]at hv;cases hv|some m=>
  rw [ht]at hv;rcases ql ht with ⟨rfl,ha⟩|⟨n,rfl,hn,ha⟩
  .simp only at hv;split at hv
   .rename_i a t' hd;cases hv;obtain⟨cv,h1,h2⟩:=cJ.drop_cons k hl hd;have:=hs k cv h1;exact⟨cv,by simp [loadVar,ha,this],h2⟩
   .cases hv
  .change (dS n (cZ k l)).map .agg=some v at hv;cases hc:dS n (cZ k l)with
   |none=>rw [hc]at hv;cases hv|some l'=>
    rw [hc]at hv;cases hv;obtain⟨h1,h2⟩:=cJ.take_drop n k hl hc;have h3:((xs.drop k).take n).length=n:=(by rw [List.length_take];omega);refine⟨.agg ((xs.drop k).take n).toArray,?_,((xs.drop k).take n).toArray,rfl,by simpa using h1⟩;have:=run_loadCells_list (P:=P) w ⟨b,o+k,none⟩ ((xs.drop k).take n) (λj v hj=>by
     rw [addr_add];rw [List.getElem?_take]at hj;split at hj
     .rw [List.getElem?_drop]at hj;have:=hs _ v hj;rwa [show o+(k+j)=o+k+j by omega]at this
     .cases hj)
    rw [h3]at this;simp [loadVar,ha,aJ hn,this]
theorem sB {P:Program} {μ:Mu} {B0:Nat} {h:Heap} {w:World} (hr:HR μ B0 h w) {t:TypeId} {l v:AV} {k:Nat} (hv:gM P t (cZ k l)=some v) {b o:Nat} {xs:List Value} (hl:cJ μ.pure l xs) (hs:jJ μ.s b o xs):
  ∃cv,(loadVar t ⟨b,o+k,none⟩).run P w= .ok cv w/\dC μ v cv:=
 qn hv (hl.mono μ.LQ) (λj v hj=>qm hr hs j v hj)
theorem qo {μ:Mu} {B0:Nat} {h:Heap} {w:World} (hr:HR μ B0 h w) {id:Pos} {l:AV} {ro:Bool} (hg:h.t.get id=some (.gl l ro)) {B:nJ} (hB:μ id=some B):
  ∃xs,cJ μ l xs/\xs.length<=B.n/\∀j v,xs[j]?=some v ->w.cell? ⟨B.b,B.base+j,none⟩=some v:=by
 rcases hr.obj id B _ hB hg with ⟨h1,rfl⟩|⟨xs,h1,h2,c,el,fz,h3,h4,h5,_,h6⟩
 .exact⟨[],rfl,by simp,by simp⟩
 .exact⟨xs,h1,h2,λj v hj=>cell_of h3 (h6 j v hj)⟩
theorem jK {μ:Mu} {B0:Nat} {h:Heap} {w:World} (hr:HR μ B0 h w) {id:Pos} {off n:Nat} {l:AV} (hc:gW h id off n=some l) {B:nJ} (hB:μ id=some B):
  ∃vs,cJ μ l vs/\vs.length=n/\∀j v,vs[j]?=some v ->w.cell? ⟨B.b,B.base+off+j,none⟩=some v:=by
 unfold gW at hc;split at hc
 .rename_i t m ro hg;obtain⟨h0,c,el,fz,h1,h2,h3,h4⟩:=hr.obj id B _ hB hg;obtain⟨vs,h5,h6,h7⟩:=lX (f:=λk=>c[B.base+k]?) (λk v e=>(h4 k v e).2) _ hc;exact⟨vs,h5,h6,λj v hj=>cell_of h1 (by have:=h7 j v hj;rwa [show B.base+off+j=B.base+(off+j) by omega])⟩
 .rename_i g ro hg;obtain⟨xs,h1,h2,h3⟩:=qo hr hg hB;obtain⟨h4,h5⟩:=cJ.take_drop n off h1 hc;refine⟨_,h4,by rw [List.length_take];omega,λj v hj=>?_⟩;rw [List.getElem?_take]at hj;split at hj
  .rw [List.getElem?_drop]at hj;have:=h3 _ v hj;rwa [show B.base+(off+j)=B.base+off+j by omega]at this
  .cases hj
 .cases hc
def fC (f:Program ->Tr AV ->Option AV) (o:Oper):Prop:=
 ∀(P:Program) (r:Tr AV) (μ:Mu) (a:Act) (v:AV),ym μ ->RR μ r a.tmps ->f P r=some v ->∃cv,(∀w,(execOp a.eval o).run P w= .ok (.value cv) w)/\dC μ v cv
def vQ (f:Program ->Tr AV ->Heap ->Option AV) (o:Oper):Prop:=
 ∀(P:Program) (r:Tr AV) (μ:Mu) (B0:Nat) (h:Heap) (w:World) (a:Act) (v:AV),HR μ B0 h w ->RR μ r a.tmps ->f P r h=some v ->∃cv,(execOp a.eval o).run P w= .ok (.value cv) w/\dC μ v cv
def MK.val (k:MK) (b:Nat):Value:=match k with| .ptr=> .pointer (some ⟨b,0,none⟩)| .slice l c _=> .slice (some ⟨b,0,none⟩) l c
def MK.ok (k:MK) (n:Nat):Prop:=match k with| .ptr=>True| .slice l c z=>l<=c/\c*z<=n
def uF (f:Program ->Tr AV ->Option AL) (o:Oper):Prop:=
 ∀(P:Program) (r:Tr AV) (μ:Mu) (a:Act) (A:AL) (ao:AO),ym μ ->RR μ r a.tmps ->f P r=some A ->uq A.l A.n A.k=some ao ->
  A.k.ok A.n/\∃arr el xs,cJ μ A.l xs/\arr.size=A.n/\(∀(k:Nat) (v:Value),xs[k]?=some v ->arr[k]?=some v)/\∀w,(execOp a.eval o).run P w= .ok (.value (A.k.val w.heap.size)) (w.alloc (.cells arr el))
theorem Bp {o:Oper} {x:Operand} (ho:o.op= .move x\/o.op= .assign x):fC (LJ x) o:=by
 intro P r μ a v hg hr hv;cases hv;refine⟨a.eval x,λw=>?_,aP hg hr x⟩;rcases ho with ho|ho<;>simp [execOp,ho]
theorem OW {o:Oper} {c x y:Operand} (ho:o.op= .pick c x y):fC (yh c x y) o:=by
 intro P r μ a v hg hr hv;unfold yh at hv;have hc:=aP hg hr c;split at hv
 .rename_i t ht;rw [ht]at hc;have hc:a.eval c= .bool t:=by simpa [VR]using hc
  cases hv;cases t with
  |true=>exact⟨a.eval x,λw=>by simp [execOp,ho,hc,asBool],aP hg hr x⟩|false=>exact⟨a.eval y,λw=>by simp [execOp,ho,hc,asBool],aP hg hr y⟩
 .cases hv
theorem OX {o:Oper} {t:TypeId} {x:Operand} (ho:o.op= .load t x):vQ (su t x) o:=by
 intro P r μ B0 h w a v hh hr hv;unfold su wL at hv;have hx:=aP hh.dO hr x;split at hv
 .rename_i l k he;rw [he]at hx;obtain⟨b,o',xs,hx,hl,hs⟩:=hx;have hx:a.eval x= .pointer (some ⟨b,o'+k,none⟩):=by simpa using hx
  obtain⟨cv,h3,h4⟩:=sB hh hv hl hs;exact⟨cv,by simp [execOp,ho,Instr.loadAt,hx,Instr.sureAddr,h3],h4⟩
 .rename_i id off he;rw [he]at hx;obtain⟨B,hB,hx⟩:=hx;have hx:a.eval x= .pointer (some ⟨B.b,B.base+off,none⟩):=by simpa using hx
  split at hv
  .rename_i c n ro hg;obtain⟨cv,h1,h2⟩:=uE (x:=(c,n,ro)) hh hg hv hB;exact⟨cv,by simp [execOp,ho,Instr.loadAt,hx,Instr.sureAddr,h1],h2⟩
  .rename_i l ro hg;obtain⟨xs,g1,g2,g3⟩:=qo hh hg hB;obtain⟨cv,h1,h2⟩:=qn (P:=P) hv g1 g3;exact⟨cv,by simp [execOp,ho,Instr.loadAt,hx,Instr.sureAddr,h1],h2⟩
  .cases hv
 .cases hv
theorem CY {o:Oper} {x:Operand} {i:Nat} (ho:o.op= .extract x i):fC (ur x i) o:=by
 intro P r μ a v hg hr hv;unfold ur at hv;have hx:=aP hg hr x;split at hv
 .rename_i l he;rw [he]at hx;obtain⟨c,hc,hl⟩:=hx;have hc:a.eval x= .tuple c:=by simpa using hc
  split at hv
  .rename_i y t hd;cases hv;obtain⟨u,hu,hv⟩:=cJ.drop_cons i hl hd;have hu:c[i]?=some u:=(by simpa using hu);exact⟨u,λw=>by simp [execOp,ho,hc,Instr.extract,hu],hv⟩
  .cases hv
 .cases hv
theorem AE {o:Oper} {x:Operand} (ho:o.op= .nilCheck x):fC (ru x) o:=by
 intro P r μ a v hg hr hv;unfold ru at hv;have hx:=aP hg hr x;split at hv
 .rename_i id off he;rw [he]at hx;cases hv;have h2:=hx;obtain⟨B,hB,hx⟩:=hx;have hx:a.eval x= .pointer (some ⟨B.b,B.base+off,none⟩):=by simpa using hx
  exact⟨a.eval x,λw=>by simp [execOp,ho,hx],h2⟩
 .rename_i l k he;rw [he]at hx;cases hv;have h2:=hx;obtain⟨b,o',xs,hx,_⟩:=hx;have hx:a.eval x= .pointer (some ⟨b,o'+k,none⟩):=by simpa using hx
  exact⟨a.eval x,λw=>by simp [execOp,ho,hx],h2⟩
 .rename_i f p q he;rw [he]at hx;cases hv;have h2:=hx;obtain⟨F,C,hx,_⟩:=hx;have hx:a.eval x= .func (.func f) F C:=by simpa using hx
  exact⟨a.eval x,λw=>by simp [execOp,ho,hx],h2⟩
 .rename_i id he;rw [he]at hx;cases hv;have h2:=hx;obtain⟨B,hB,hx⟩:=hx;have hx:a.eval x= .func (.yield B.b) #[] #[]:=by simpa using hx
  exact⟨a.eval x,λw=>by simp [execOp,ho,hx],h2⟩
 .rename_i t u he;rw [he]at hx;cases hv;have h2:=hx;obtain⟨y,hx,_⟩:=hx;have hx:a.eval x= .iface t y:=by simpa using hx
  exact⟨a.eval x,λw=>by simp [execOp,ho,hx],h2⟩
 .cases hv
theorem AF {o:Oper} {fn:Fn} {f c:Array Operand} (ho:o.op= .makeFunc fn f c):fC (rv fn f c) o:=by
 intro P r μ a v hg hr hv;unfold rv at hv;cases hy:CQ fn with
 |true=>rw [hy]at hv;cases hv|false=>
  rw [hy]at hv;cases hv;refine⟨.func fn (f.map a.eval) (c.map a.eval),λw=>by simp [execOp,ho,Instr.makeFunc],_,_,rfl,hy,?_,?_⟩
  .simpa using fB hg hr f.toList
  .simpa using fB hg hr c.toList
theorem tj {o:Oper} {t:TypeId} {x:Operand} (ho:o.op= .makeInterface t x):fC (jH t x) o:=by
 intro P r μ a v hg hr hv;unfold jH at hv;cases hu:P.underlying t with
 |none=>rw [hu]at hv;cases hv|some d=>
  rw [hu]at hv;cases d<;>first
   |(cases hv;done)
   |(cases hv;exact⟨.iface t (a.eval x),λw=>by simp [execOp,ho,Instr.makeInterface,ah hu],_,rfl,aP hg hr x⟩)
theorem Br {μ:Mu} {a:AV} {v:Value} (h:dC μ a v) (hk:okV a=true):cJ μ a.cells v.cells.toList:=
 h.cells (λe=>by subst e;cases hk) (λl e=>by subst e;cases hk)
theorem RD {n:Nat} {a:AV} {off:Nat} {c t:Tr AV} (h:lay n a.cells off c=some t):a≠.undef/\∀l,a≠.aS l:=by
 have key:∀n,lay n (.cons .undef .nil) off c≠some t:=by
  intro n hn;cases n with
  |zero=>cases hn|succ n=>cases hn
 exact⟨λe=>by subst e;exact key n h,λl e=>by subst e;exact key n h⟩
theorem mq {P:Program} {t:TypeId} {z:AV} (μ:Mu) (h:dM P t=some z):∃v,lD P t=some v/\cJ μ z v.cells.toList:=by
 unfold dM at h;cases hz:lD P t with
 |none=>rw [hz]at h;cases h|some v=>
  rw [hz]at h;change Bool.casesOn (motive:=λ_=>Option AV) (okV (fc v)) none (some (fc v).cells)=some z at h;cases hk:okV (fc v)with
  |false=>rw [hk]at h;cases h|true=>rw [hk]at h;cases h;exact⟨v,rfl,Br (iV μ v) hk⟩
theorem lv (cs:List (Value×Nat)) (off:Nat):∀(c:Array Value) (k:Nat) (s:Nat),(∀i v j,cs[i]?=some (v,j) ->j=s+i) ->off+s+cs.length<=c.size ->
  (cs.foldl (λa x=>a.setIfInBounds (off+x.2) x.1) c)[k]?=if off+s<=k/\k<off+s+cs.length then(cs[k - (off+s)]?).map (·.1)else c[k]?:=by
 induction cs with
 |nil=>intro c k s _ _;simp;omega|cons x t ih=>
  intro c k s hj hs;obtain⟨v,j⟩:=x;have hj0:j=s:=by have:=hj 0 v j rfl;omega
  subst hj0;simp only [List.foldl_cons];rw [ih _ k (j+1) (λi v' j' e=>by have:=hj (i+1) v' j' (by simpa using e);omega) (by simp at hs ⊢;omega)];simp only [List.length_cons]at hs ⊢;by_cases h1:off+(j+1)<=k/\k<off+(j+1)+t.length
  .rw [if_pos h1,if_pos (by omega)];rw [show k - (off+j)=(k - (off+(j+1)))+1 by omega];simp
  .rw [if_neg h1];by_cases h2:k=off+j
   .subst h2;rw [if_pos (by omega)];rw [Array.getElem?_setIfInBounds_self_of_lt (by omega)];simp
   .rw [if_neg (by omega),Array.getElem?_setIfInBounds_ne (by omega)]
theorem RE (cells:Array Value) (v:Value) (off:Nat) (h:off+v.cells.size<=cells.size):
  (v.cells.zipIdx.foldl (λcs x=>cs.setIfInBounds (off+x.2) x.1) cells).toList=cells.toList.take off++v.cells.toList++cells.toList.drop (off+v.cells.toList.length):=by
 apply List.ext_getElem?;intro k;rw [Array.getElem?_toList,<-Array.foldl_toList,lv _ off cells k 0 (by
  intro i v' j e;simp at e;obtain⟨h1,h2,h3⟩:=e;omega) (by simpa using h)]
 have e1:v.cells.zipIdx.toList.length=v.cells.size:=by simp
 rw [e1];simp only [Nat.add_zero];by_cases h1:off<=k/\k<off+v.cells.size
 .rw [if_pos h1,List.append_assoc,List.getElem?_append_right (by simp;omega),List.getElem?_append_left (by simp;omega)];have:min off cells.size=off:=by omega
  simp [this];cases v.cells[k - off]?<;>simp
 .rw [if_neg h1];by_cases h2:k<off
  .rw [List.append_assoc,List.getElem?_append_left (by simp;omega),List.getElem?_take_of_lt h2,Array.getElem?_toList]
  .rw [List.append_assoc,List.getElem?_append_right (by simp;omega),List.getElem?_append_right (by simp;omega)];simp only [List.length_take,Array.length_toList,List.getElem?_drop,Array.getElem?_toList];congr 1;have:min off cells.size=off:=(by omega);omega
theorem aq {a b:Bool}:aF a b=true↔a=true/\b=true:=by cases a<;>cases b<;>simp [aF]
theorem qp {μ:Mu} {a:Act} {r:Tr AV} (hg:ym μ) (hr:RR μ r a.tmps) (place IU:Nat ->Option (Nat×Nat)) (hp:∀i q,place i=some q ->IU i=some q) (xq:Nat):
  ∀(ps:List (Nat×Operand)) {l l':AV} {cells:Array Value},cJ μ l cells.toList ->cells.size=xq ->sv place xq ps r l=some l' ->
   ∃IV,Instr.fill IU cells (ps.map λx=>(x.1,a.eval x.2))=some IV/\cJ μ l' IV.toList/\IV.size=xq
 |[],l,l',cells,hl,hs,h=>by cases (show some l=some l' from h);exact⟨cells,rfl,hl,hs⟩
 |p::ps,l,l',cells,hl,hs,h=>by
  change Option.casesOn (motive:=λ_=>Option AV) (place p.1) none (λq=>
   Bool.casesOn (motive:=λ_=>Option AV) (aF (aF (okV (ev p.2 r)) (Nat.beq (ev p.2 r).cells.len q.2)) (Nat.ble (Nat.add q.1 q.2) xq)) none (sv place xq ps r (gV q.1 l (ev p.2 r).cells)))=some l' at h
  cases hq:place p.1 with
  |none=>rw [hq]at h;cases h|some q=>
   rw [hq]at h;obtain⟨off,sz⟩:=q;simp only at h;cases hb:aF (aF (okV (ev p.2 r)) (Nat.beq (ev p.2 r).cells.len sz)) (Nat.ble (Nat.add off sz) xq)with
   |false=>rw [hb]at h;cases h|true=>
    rw [hb]at h;obtain⟨nZ,rz⟩:=aq.1 hb;obtain⟨AG,nZ⟩:=aq.1 nZ;have hv:=Br (aP hg hr p.2) AG;have hlen:=hv.len;have e1:=Nat.eq_of_beq_eq_true nZ;have e2:=Nat.le_of_ble_eq_true rz;change off+sz<=xq at e2;have e3:(a.eval p.2).cells.size=sz:=(by rw [<-e1,hlen];simp);have fw:=qj off hl hv (by simp;omega);have hfo:=RE cells (a.eval p.2) off (by omega);rw [<-hfo]at fw;obtain⟨c',h1,h2,h3⟩:=qp hg hr place IU hp xq ps fw (by
     have:=congrArg List.length hfo;rw [Array.length_toList]at this;rw [this];simp;omega) h
    refine⟨c',?_,h2,h3⟩;simp only [List.map_cons,Instr.fill,hp _ _ hq];rw [if_neg]
    .exact h1
    .simp;omega
theorem uG {α β:Type} {P:Program} {w:World} (f:α ->Sem β):∀(xs:List α) (ys:List β),xs.length=ys.length ->(∀(i:Nat) (x:α) (y:β),xs[i]?=some x ->ys[i]?=some y ->(f x).run P w= .ok y w) ->(xs.mapM f).run P w= .ok ys w
 |[],[],_,_=>rfl|x::xs,y::ys,hl,h=>by
  have h1:=h 0 x y rfl rfl;have h2:=uG f xs ys (by simpa using hl) (λi a b ha hb=>h (i+1) a b (by simpa using ha) (by simpa using hb));simp [List.mapM_cons,h1,h2]
 |[],_::_,hl,_=>absurd hl (by simp)|_::_,[],hl,_=>absurd hl (by simp)
theorem sC {α β:Type} {P:Program} {w:World} (f:α ->Sem β) (xs:Array α) (ys:Array β) (hl:xs.size=ys.size) (h:∀(i:Nat) (x:α) (y:β),xs[i]?=some x ->ys[i]?=some y ->(f x).run P w= .ok y w):(xs.mapM f).run P w= .ok ys w:=by
 rw [Array.mapM_eq_mapM_toList];simp [uG f xs.toList ys.toList (by simpa using hl) (λi x y h1 h2=>h i x y (by simpa using h1) (by simpa using h2))]
theorem IW {o:Oper} {t:TypeId} {ps:Array (Nat×Operand)} (ho:o.op= .build t ps):fC (CN t ps) o:=by
 intro P r μ a v hg hr hv;unfold CN at hv;cases hz:dM P t with
 |none=>rw [hz]at hv;cases hv|some z=>
  rw [hz]at hv;cases nK:places P t with
  |none=>simp only [nK]at hv;cases hv|some pl=>
   simp only [nK]at hv;obtain⟨zv,IX,Bs⟩:=mq μ hz;cases hf:sv pl z.len ps.toList r z with
   |none=>rw [hf]at hv;cases hv|some l=>
    rw [hf]at hv;cases hv;have Io:=Bs.len;have key:∀pl',(∀i q,pl i=some q ->pl' i=some q) ->∃c:Array Value,Instr.fill pl' zv.cells (ps.toList.map λx=>(x.1,a.eval x.2))=some c/\cJ μ l c.toList:=
     λpl' hpp=>by
      obtain⟨c,h1,h2,_⟩:=qp hg hr pl pl' hpp z.len ps.toList Bs (by rw [Io];simp) hf;exact⟨c,h1,h2⟩
    unfold places at nK;cases hu:P.underlying t with
    |none=>rw [hu]at nK;cases nK|some d=>
     rw [hu]at nK;cases d with
     |struct fs=>
      change Bool.casesOn (motive:=λ_=>Option (Nat ->Option (Nat×Nat))) (fs.toList.all λf=>(fN P f.type).isSome) none (some λi=>(fs[i]?).bind λf=>(fN P f.type).map λn=>(f.offset,n))=some pl at nK;cases AH:fs.toList.all λf=>(fN P f.type).isSome with
      |false=>rw [AH]at nK;cases nK|true=>
       rw [AH]at nK;cases nK;have ae7:∀f∈fs.toList,∃n,fN P f.type=some n:=λf hf=>by
        have:=List.all_eq_true.1 AH f hf;exact Option.isSome_iff_exists.1 this
       obtain⟨c,h1,h2⟩:=key (λi=>(fs.map λf=>(f.offset,(fN P f.type).getD 0))[i]?) (by
        intro i q e;cases hfi:fs[i]? with
        |none=>simp [hfi]at e|some f=>
         simp only [hfi,Option.bind_some]at e;cases hn:fN P f.type with
         |none=>rw [hn]at e;cases e|some n=>rw [hn]at e;cases e;simp [hfi,hn])
       refine⟨.agg c,λw=>?_,c,rfl,h2⟩;have hm:(fs.mapM λf=>Functor.map (Prod.mk f.offset) (sizeOf f.type):Sem _).run P w= .ok (fs.map λf=>(f.offset,(fN P f.type).getD 0)) w:=by
        apply sC
        .simp
        .intro i f y h3 h4;obtain⟨n,hn⟩:=ae7 f (by simpa using Array.mem_of_getElem? h3);simp [h3,hn]at h4;simp [aJ hn,<-h4]
       simp only [execOp,ho,Instr.build];simp [gx IX,ah hu];rw [hm];simp only [Array.getElem?_map]at h1;simp [h1]
     |array n e=>
      cases hs:fN P e with
      |none=>simp [hs]at nK|some sz=>
       simp [hs]at nK;obtain⟨c,h1,h2⟩:=key (λi=>some (i*sz,sz)) (by intro i q e;rw [<-nK]at e;exact e);refine⟨.agg c,λw=>?_,c,rfl,h2⟩;simp [execOp,ho,Instr.build,gx IX,ah hu,aJ hs,h1]
     |_=>cases nK
theorem mr {P:Program} {s:TypeId} {f:Nat} {q:Nat×TypeId} (h:mj P s f=some q):∃fs fd,P.underlying s=some (.struct fs)/\fs[f]?=some fd/\fd.offset=q.1/\fd.type=q.2:=by
 unfold mj at h;cases hu:P.underlying s with
 |none=>rw [hu]at h;cases h|some d=>
  rw [hu]at h;cases d with
  |struct fs=>
   cases hf:fs[f]? with
   |none=>simp [hf]at h|some fd=>simp [hf]at h;exact⟨fs,fd,rfl,hf,by rw [<-h],by rw [<-h]⟩
  |_=>cases h
theorem CZ {o:Oper} {t:TypeId} {x:Operand} (ho:o.op= .sliceToArrayPointer t x):fC (uu t x) o:=by
 intro P r μ a v hg hr hv;unfold uu at hv;have hx:=aP hg hr x;split at hv
 .rename_i n e hu;split at hv
  .rename_i id m sz he;rw [he]at hx;obtain⟨B,hB,hx⟩:=hx;cases hb:aF (bJ 0 n) (Nat.ble n m)with
   |false=>rw [hb]at hv;cases hv|true=>
    rw [hb]at hv;cases hv;obtain⟨b1,b2⟩:=aq.1 hb;have b1:0<n:=Nat.le_of_ble_eq_true b1;have b2:=Nat.le_of_ble_eq_true b2;rcases hx with ⟨c,hx,_⟩|⟨e0,_⟩
    .have hx:=(List.cons.inj hx).1;refine⟨.pointer (some ⟨B.b,B.base+0,none⟩),λw=>?_,B,hB,rfl⟩;simp only [execOp,ho,hx,Instr.arrayAt,Sem.run_bind,ah hu,Result.andThen_ok];rw [if_neg (by omega)];rfl
    .omega
  .rename_i id off m cap sz he;rw [he]at hx;obtain⟨B,c,hB,hx,_⟩:=hx;cases hb:aF (bJ 0 n) (Nat.ble n m)with
   |false=>rw [hb]at hv;cases hv|true=>
    rw [hb]at hv;cases hv;obtain⟨b1,b2⟩:=aq.1 hb;have b2:=Nat.le_of_ble_eq_true b2;have hx:=(List.cons.inj hx).1;refine⟨.pointer (some ⟨B.b,B.base+off,none⟩),λw=>?_,B,hB,rfl⟩;simp only [execOp,ho,hx,Instr.arrayAt,Sem.run_bind,ah hu,Result.andThen_ok];rw [if_neg (by omega)];rfl
  .rename_i m l he;rw [he]at hx;obtain⟨xs,h1,hx⟩:=hx;cases hb:aF (bJ 0 n) (Nat.ble n m)with
   |false=>rw [hb]at hv;cases hv|true=>
    rw [hb]at hv;cases hv;obtain⟨b1,b2⟩:=aq.1 hb;have b1:0<n:=Nat.le_of_ble_eq_true b1;have b2:=Nat.le_of_ble_eq_true b2;rcases hx with ⟨b,o',c,hx,_,hs⟩|⟨e0,_⟩
    .have hx:=(List.cons.inj hx).1;refine⟨.pointer (some ⟨b,o'+0,none⟩),λw=>?_,b,o',xs,rfl,h1,hs⟩;simp only [execOp,ho,hx,Instr.arrayAt,Sem.run_bind,ah hu,Result.andThen_ok];rw [if_neg (by omega)];rfl
    .omega
  .cases hv
 .cases hv
theorem yp {o:Oper} {s:TypeId} {x:Operand} {f:Nat} (ho:o.op= .fieldAddr s x f):fC (oS s x f) o:=by
 intro P r μ a v hg hr hv;unfold oS at hv;have hx:=aP hg hr x;split at hv
 .rename_i id off he;rw [he]at hx;obtain⟨B,hB,hx⟩:=hx;have hx:a.eval x= .pointer (some ⟨B.b,B.base+off,none⟩):=by simpa using hx
  cases hk:kx P s f with
  |none=>rw [hk]at hv;cases hv|some k=>
   rw [hk]at hv;cases hv;unfold kx at hk;cases hq:mj P s f with
   |none=>rw [hq]at hk;cases hk|some q=>
    rw [hq]at hk;obtain⟨fs,fd,h1,h2,h3,h4⟩:=mr hq;cases hn:fN P q.2 with
    |none=>simp [hn]at hk|some n=>
     simp [hn]at hk;obtain⟨IY,hk⟩:=hk;refine⟨.pointer (some ⟨B.b,B.base+(off+k),none⟩),λw=>?_,B,hB,rfl⟩;have hs:(sizeOf fd.type).run P w= .ok n w:=aJ (by rw [h4];exact hn);simp [execOp,ho,hx,Instr.fieldAt,ah h1,h2,Instr.sureAddr,fieldPlace,hs,IY,addr_add,h3,hk];omega
 .rename_i l j he;rw [he]at hx;obtain⟨b,o',xs,hx,hl,wP⟩:=hx;have hx:a.eval x= .pointer (some ⟨b,o'+j,none⟩):=by simpa using hx
  cases hk:kx P s f with
  |none=>rw [hk]at hv;cases hv|some k=>
   rw [hk]at hv;cases hv;unfold kx at hk;cases hq:mj P s f with
   |none=>rw [hq]at hk;cases hk|some q=>
    rw [hq]at hk;obtain⟨fs,fd,h1,h2,h3,h4⟩:=mr hq;cases hn:fN P q.2 with
    |none=>simp [hn]at hk|some n=>
     simp [hn]at hk;obtain⟨IY,hk⟩:=hk;refine⟨.pointer (some ⟨b,o'+(j+k),none⟩),λw=>?_,b,o',xs,rfl,hl,wP⟩;have hs:(sizeOf fd.type).run P w= .ok n w:=aJ (by rw [h4];exact hn);simp [execOp,ho,hx,Instr.fieldAt,ah h1,h2,Instr.sureAddr,fieldPlace,hs,IY,addr_add,h3,hk];omega
 .cases hv
theorem gY {P:Program} {μ:Mu} {t:TypeId} {l:AV} {cs:Array Value} {off:Nat} {v:AV} (hl:cJ μ l cs.toList) (hv:sw P t l off=some v):
  ∃cv,(∀w,(part t cs off).run P w= .ok cv w)/\dC μ v cv:=by
 unfold sw at hv;cases ht:ss P t with
 |none=>rw [ht]at hv;cases hv|some m=>
  rw [ht]at hv;rcases ql ht with ⟨rfl,ha⟩|⟨n,rfl,hs,ha⟩
  .simp only at hv;split at hv
   .rename_i y u hd;cases hv;obtain⟨cv,h1,h2⟩:=cJ.drop_cons off hl hd;have h1:cs[off]?=some cv:=(by simpa using h1);exact⟨cv,λw=>by simp [part,ha,h1],h2⟩
   .cases hv
  .change (dS n (cZ off l)).map .agg=some v at hv;cases htk:dS n (cZ off l)with
   |none=>rw [htk]at hv;cases hv|some l'=>
    rw [htk]at hv;cases hv;refine⟨.agg (cs.extract off (off+n)),λw=>by simp [part,ha,aJ hs],_,rfl,?_⟩;by_cases hle:off<=cs.toList.length\/n=0
    .by_cases Xx:n=0
     .subst Xx;cases (show some AV.nil=some l' from htk);have:(cs.extract off (off+0)).toList=[]:=(by simp);rw [this];rfl
     have hle:=hle.resolve_right Xx;have h1:=cJ.drop off hl hle;have h2:=cJ.take n h1 htk;have:(cs.extract off (off+n)).toList=(cs.toList.drop off).take n:=by
      rw [Array.toList_extract,List.extract_eq_take_drop,Nat.add_sub_cancel_left]
     rw [this];exact h2.1
    .exfalso;have h0:¬off<=cs.toList.length:=λe=>hle (.inl e);have IY:n≠0:=λe=>hle (.inr e);have h3:=hl.len;have key:∀(k:Nat) (l:AV) (vs:List Value),cJ μ l vs ->vs.length<k ->cZ k l= .undef:=by
      intro k;induction k with
      |zero=>intro l vs _ h;omega|succ k ih=>
       intro l vs h hk;cases l with
       |cons y u=>obtain⟨v,r,rfl,_,h2⟩:=h;exact ih u r h2 (by simpa using hk)
       |nil=>rfl|_=>exact h.elim
     rw [key off l _ hl (by omega)]at htk;cases n with
     |zero=>exact IY rfl|succ n=>cases htk
theorem IZ {o:Oper} {t:TypeId} {x:Operand} {f:Nat} (ho:o.op= .field t x f):fC (CO t x f) o:=by
 intro P r μ a v hg hr hv;unfold CO at hv;have hx:=aP hg hr x;split at hv
 .rename_i l he;rw [he]at hx;obtain⟨c,hc,hl⟩:=hx;have hc:a.eval x= .agg c:=by simpa using hc
  cases hq:mj P t f with
  |none=>rw [hq]at hv;cases hv|some q=>
   rw [hq]at hv;obtain⟨fs,fd,h1,h2,h3,h4⟩:=mr hq;obtain⟨cv,h5,h6⟩:=gY hl hv;exact⟨cv,λw=>by simp [execOp,ho,hc,Instr.field,ah h1,h2,asAgg,h3,h4,h5],h6⟩
 .cases hv
theorem lY {μ:Mu} {x:AV} {cv:Value} (hx:dC μ x cv) {len:Nat} {k:Nat ->Option AV} {v:AV} (h:idx x len k=some v):∃kd i,cv= .int kd (Int.ofNat i)/\i<len/\k i=some v:=by
 unfold idx at h;split at h
 .rename_i kd i;have hx:cv= .int kd (Int.ofNat i):=by simpa [VR]using hx
  cases hl:bJ i len with
  |false=>rw [hl]at h;cases h|true=>rw [hl]at h;exact⟨kd,i,hx,bz.1 hl,h⟩
 .cases h
theorem yq {o:Oper} {t:TypeId} {x ix:Operand} (ho:o.op= .indexAddr t x ix):fC (fX t x ix) o:=by
 intro P r μ a v hg hr hv;unfold fX at hv;have hx:=aP hg hr x;have hi:=aP hg hr ix;split at hv
 .rename_i e id off len cap sz hu he;rw [he]at hx;obtain⟨B,c,hB,hx,AJ,Fi,hc3⟩:=hx;have hx:a.eval x= .slice (some ⟨B.b,B.base+off,none⟩) len c:=by simpa using hx
  cases hz:fN P e with
  |none=>rw [hz]at hv;cases hv|some z=>
   simp only [hz]at hv;cases iO:Nat.beq z sz with
   |false=>simp only [iO]at hv;cases hv|true=>
    have iO:=Nat.eq_of_beq_eq_true iO;subst iO;simp only [Nat.beq_refl]at hv;obtain⟨kd,i,h1,h2,h3⟩:=lY hi hv;cases h3;refine⟨.pointer (some ⟨B.b,B.base+(off+i*z),none⟩),λw=>?_,B,hB,rfl⟩;simp [execOp,ho,hx,h1,Instr.indexAt,asIntOf,ah hu,aJ hz,addr_add,h2];omega
 .rename_i e n l hu he;rw [he]at hx;obtain⟨xs,hl,hx⟩:=hx;cases hz:fN P e with
  |none=>rw [hz]at hv;cases hv|some z=>
   simp only [hz]at hv;obtain⟨kd,i,h1,h2,h3⟩:=lY hi hv;cases h3;rcases hx with ⟨b,o',c,hx,hn,hs⟩|⟨e0,_⟩
   .have hx:a.eval x= .slice (some ⟨b,o',none⟩) n c:=(by simpa using hx);refine⟨.pointer (some ⟨b,o'+i*z,none⟩),λw=>?_,b,o',xs,rfl,hl,hs⟩;simp [execOp,ho,hx,h1,Instr.indexAt,asIntOf,ah hu,aJ hz,addr_add,h2]
   .omega
 .rename_i e id n sz hu he;rw [he]at hx;obtain⟨B,hB,hx⟩:=hx;cases hz:fN P e with
  |none=>rw [hz]at hv;cases hv|some z=>
   simp only [hz]at hv;cases iO:Nat.beq z sz with
   |false=>simp only [iO]at hv;cases hv|true=>
    have iO:=Nat.eq_of_beq_eq_true iO;subst iO;simp only [Nat.beq_refl]at hv;obtain⟨kd,i,h1,h2,h3⟩:=lY hi hv;cases h3;rcases hx with ⟨c,hx,hn,_⟩|⟨e0,_⟩
    .have hx:a.eval x= .slice (some ⟨B.b,B.base,none⟩) n c:=(by simpa using hx);refine⟨.pointer (some ⟨B.b,B.base+i*z,none⟩),λw=>?_,B,hB,rfl⟩;simp [execOp,ho,hx,h1,Instr.indexAt,asIntOf,ah hu,aJ hz,addr_add,h2]
    .omega
 .rename_i len e id off hu he;rw [he]at hx;obtain⟨B,hB,hx⟩:=hx;have hx:a.eval x= .pointer (some ⟨B.b,B.base+off,none⟩):=by simpa using hx
  cases hz:fN P e with
  |none=>rw [hz]at hv;cases hv|some z=>
   simp only [hz]at hv;obtain⟨kd,i,h1,h2,h3⟩:=lY hi hv;cases h3;refine⟨.pointer (some ⟨B.b,B.base+(off+i*z),none⟩),λw=>?_,B,hB,rfl⟩;simp [execOp,ho,hx,h1,Instr.indexAt,asIntOf,ah hu,Instr.sureAddr,aJ hz,addr_add,h2];omega
 .rename_i len e l k hu he;rw [he]at hx;obtain⟨b,o',xs,hx,hl,hs⟩:=hx;have hx:a.eval x= .pointer (some ⟨b,o'+k,none⟩):=by simpa using hx
  cases hz:fN P e with
  |none=>rw [hz]at hv;cases hv|some z=>
   simp only [hz]at hv;obtain⟨kd,i,h1,h2,h3⟩:=lY hi hv;cases h3;refine⟨.pointer (some ⟨b,o'+(k+i*z),none⟩),λw=>?_,b,o',xs,rfl,hl,hs⟩;simp [execOp,ho,hx,h1,Instr.indexAt,asIntOf,ah hu,Instr.sureAddr,aJ hz,addr_add,h2];omega
 .cases hv
theorem Bt:∀(s:List Nat) (i b:Nat),Rq s i=some b ->s[i]?=some b
 |[],i,b,h=>by cases h
 |a::s,0,b,h=>by cases (show some a=some b from h);rfl
 |a::s,i+1,b,h=>by simpa using Bt s i b h
theorem Ja {o:Oper} {t:TypeId} {x ix:Operand} (ho:o.op= .index t x ix):fC (sZ t x ix) o:=by
 intro P r μ a v hg hr hv;unfold sZ at hv;have hx:=aP hg hr x;have hi:=aP hg hr ix;split at hv
 .rename_i s hu he;rw [he]at hx;obtain⟨bs,hx,hs⟩:=hx;have hx:a.eval x= .string bs:=by simpa using hx
  split at hv
  .rename_i kd i hie;rw [hie]at hi;have hi:a.eval ix= .int kd (Int.ofNat i):=(by simpa [VR]using hi);cases hn:Rq s i with
   |none=>rw [hn]at hv;cases hv|some b=>
    rw [hn]at hv;cases hv;have hb:=Bt _ _ _ hn;rw [<-hs]at hb;simp only [List.getElem?_map]at hb;cases hbi:bs.data.toList[i]? with
    |none=>rw [hbi]at hb;cases hb|some u=>
     rw [hbi]at hb;have hb:u.toNat=b:=(by simpa using hb);refine⟨.int .u8 b,λw=>?_,rfl⟩;have hsz:i<bs.size:=by
      have:=(List.getElem?_eq_some_iff.1 hbi).1;rw [Array.length_toList]at this;exact this
     have ah5:bs[i]?=some u:=by
      rw [Array.getElem?_toList]at hbi;obtain⟨cR,he⟩:=Array.getElem?_eq_some_iff.1 hbi;rw [getElem?_pos bs i hsz];exact congrArg some he
     have bu:(Instr.index t (.string bs) (.int kd (i:Int))).run P w= .ok (.int .u8 b) w:=by
      unfold Instr.index;simp only [asIntOf,Sem.run_bind,Sem.run_pure,Result.andThen_ok,ah hu];rw [if_pos (Int.natCast_nonneg i)];rw [show((i:Int)).toNat=i from rfl,ah5];simp only [Sem.run_pure,hb]
     simp [execOp,ho,hx,hi,bu]
  .cases hv
 .rename_i len e l hu he;rw [he]at hx;obtain⟨c,hc,hl⟩:=hx;have hc:a.eval x= .agg c:=by simpa using hc
  cases hz:fN P e with
  |none=>rw [hz]at hv;cases hv|some z=>
   simp only [hz]at hv;obtain⟨kd,i,h1,h2,h3⟩:=lY hi hv;obtain⟨cv,h5,h6⟩:=gY hl h3;refine⟨cv,λw=>?_,h6⟩;have h5:∀w,(part e c (i*z)).run P w= .ok cv w:=h5;simp [execOp,ho,hc,h1,Instr.index,asIntOf,ah hu,aJ hz,h2,h5]
 .cases hv
end
end
end Go.Sy
