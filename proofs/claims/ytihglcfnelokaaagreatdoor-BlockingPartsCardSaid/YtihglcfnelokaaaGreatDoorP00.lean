/- A piece of the proof, made small by a program of ours. -/
import GoSem.Step
import Derived.AtR
import Derived.Below
import Derived.RangeFuncLeaves
import Derived.Laws.Cells
import Derived.Laws.IdiomCopy
set_option linter.all false
set_option maxRecDepth 1000000
set_option maxHeartbeats 0
namespace Go.RowKit
end Go.RowKit
namespace Go.Proofs.Tryz
end Go.Proofs.Tryz
namespace Go.Sy
theorem aA:True:=trivial
theorem pc {p:Prop} (h:p:=by repeat' first|exact trivial|exact rfl|refine And.intro ?_ ?_):p:=h
theorem aB {p q:Prop} (h:q) (e:q ->p:=by intro hq;(conv=>whnf);exact hq):p:=e h
theorem ew {p q:Prop} (h:q) (e:q ->p:=by intro hq;(conv=>whnf);(repeat first|refine⟨⟨_,rfl,rfl⟩,?_⟩|refine⟨trivial,?_⟩);(conv=>whnf);exact hq):p:=e h
theorem jX {p q:Prop} (h:q) (e:q ->p:=by intro hq;(conv=>whnf);(repeat refine⟨⟨_,rfl,rfl⟩,?_⟩);(conv=>whnf);exact hq):p:=e h
noncomputable section
inductive Pos where
 |e
 |o (p:Pos)
 |i (p:Pos)
 deriving DecidableEq
def Pos.succ (p:Pos):Pos:=Pos.rec (.i .e) (λp _=> .i p) (λ_ ih=> .o ih) p
def Pos.toNat (p:Pos):Nat:=Pos.rec 0 (λ_ n=>2*n) (λ_ n=>2*n+1) p
def pathOf (n:Nat):Pos:=Nat.rec .e (λ_ p=>p.succ) n
def fI (l:List Nat):List (Pos×Option Pos):=l.map λk=>(pathOf k,some (pathOf k))
def Pos.beq (p:Pos):Pos ->Bool:=
 Pos.rec (λq=>Pos.casesOn q true (λ_=>false) (λ_=>false))
  (λ_ ih q=>Pos.casesOn q false ih (λ_=>false))
  (λ_ ih q=>Pos.casesOn q false (λ_=>false) ih) p
theorem Pos.cU (p:Pos):p.succ.toNat=p.toNat+1:=by
 induction p with
 |e=>rfl|o p ih=>rfl|i p ih=>show 2*(Pos.succ p).toNat=2*p.toNat+1+1;omega
theorem eA (n:Nat):(pathOf n).toNat=n:=by
 induction n with
 |zero=>rfl|succ n ih=>show(Pos.succ (pathOf n)).toNat=_;rw [Pos.cU,ih]
theorem dV {m n:Nat} (h:pathOf m=pathOf n):m=n:=by
 rw [<-eA m,<-eA n,h]
theorem Pos.beq_eq:∀(p q:Pos),p.beq q=true ->p=q:=by
 intro p;induction p with
 |e=>intro q h;cases q<;>first|rfl|exact absurd h (by simp [Pos.beq])
 |o p ih=>intro q h;cases q with
  |o q=>exact congrArg _ (ih q h)|e=>exact absurd h (by simp [Pos.beq])|i q=>exact absurd h (by simp [Pos.beq])
 |i p ih=>intro q h;cases q with
  |i q=>exact congrArg _ (ih q h)|e=>exact absurd h (by simp [Pos.beq])|o q=>exact absurd h (by simp [Pos.beq])
inductive Tr (α:Type) where
 |leaf
 |node (l:Tr α) (v:Option α) (r:Tr α)
 deriving DecidableEq
namespace Tr
variable {α:Type}
def get (t:Tr α):Pos ->Option α:=
 Tr.rec (λ_=>none) (λ_ v _ gl gr p=>Pos.casesOn p v gl gr) t
def AB (x:α) (p:Pos):Tr α:=Pos.rec (.node .leaf (some x) .leaf) (λ_ t=> .node t none .leaf) (λ_ t=> .node .leaf none t) p
def set (x:α) (t:Tr α):Pos ->Tr α:=
 Tr.rec (λp=>AB x p) (λl v r sl sr p=>Pos.casesOn p (.node l (some x) r) (λq=> .node (sl q) v r) (λq=> .node l v (sr q))) t
def del (t:Tr α):Pos ->Tr α:=
 Tr.rec (λ_=> .leaf) (λl v r sl sr p=>Pos.casesOn p (.node l none r) (λq=> .node (sl q) v r) (λq=> .node l v (sr q))) t
theorem QV (p:Pos):(leaf:Tr α).get p=none:=rfl
theorem QW (x:α):∀(p q:Pos),(AB x p).get q=if q=p then some x else none:=by
 intro p;induction p with
 |e=>intro q;cases q<;>simp [AB,get]|o p ih=>
  intro q;cases q with
  |e=>simp [AB,get]|o q=>show(AB x p).get q=_;rw [ih];simp|i q=>simp [AB,get]
 |i p ih=>
  intro q;cases q with
  |e=>simp [AB,get]|i q=>show(AB x p).get q=_;rw [ih];simp|o q=>simp [AB,get]
theorem bO (x:α):∀(t:Tr α) (p q:Pos),(set x t p).get q=if q=p then some x else t.get q:=by
 intro t;induction t with
 |leaf=>intro p q;exact QW x p q|node l v r ihl ihr=>
  intro p q;cases p with
  |e=>cases q<;>simp [set,get]|o p=>
   cases q with
   |e=>simp [set,get]|o q=>show(set x l p).get q=_;rw [ihl];simp [get]|i q=>simp [set,get]
  |i p=>
   cases q with
   |e=>simp [set,get]|i q=>show(set x r p).get q=_;rw [ihr];simp [get]|o q=>simp [set,get]
theorem rH:∀(t:Tr α) (p q:Pos),(del t p).get q=if q=p then none else t.get q:=by
 intro t;induction t with
 |leaf=>intro p q;show none=_;split<;>rfl|node l v r ihl ihr=>
  intro p q;cases p with
  |e=>cases q<;>simp [del,get]|o p=>
   cases q with
   |e=>simp [del,get]|o q=>show(del l p).get q=_;rw [ihl];simp [get]|i q=>simp [del,get]
  |i p=>
   cases q with
   |e=>simp [del,get]|i q=>show(del r p).get q=_;rw [ihr];simp [get]|o q=>simp [del,get]
end Tr
inductive AV where
 |undef
 |bool (b:Bool)
 |int (k:IntKind) (n:Int)
 |xu (k:IntKind) (lo hi:Int)
 |str (s:List Nat)
 |qn (m:Nat)
 |ptr (id:Pos) (off:Nat)
 |cR (l:AV) (k:Nat)
 |eZ
 |slice (id:Pos) (off len cap sz:Nat)
 |ro (n:Nat) (l:AV)
 |gs (id:Pos) (n sz:Nat)
 |sle (id:Pos) (sz:Nat)
 |bA
 |map (id:Pos)
 |qo
 |func (fn:Fn) (first captured:AV)
 |yield (id:Pos)
 |kO
 |iface (t:TypeId) (v:AV)
 |lK
 |agg (l:AV)
 |aO (l:AV)
 |nil
 |cons (h t:AV)
 deriving DecidableEq
def AV.fold {β:Type} (other nil:β) (cons:AV ->AV ->β ->β) (v:AV):β:=
 AV.rec (motive:=λ_=>β) other (λ_=>other) (λ_ _=>other) (λ_ _ _=>other) (λ_=>other) (λ_=>other) (λ_ _=>other) (λ_ _ _=>other) other (λ_ _ _ _ _=>other)
  (λ_ _ _=>other) (λ_ _ _=>other) (λ_ _=>other) other (λ_=>other) other (λ_ _ _ _ _=>other) (λ_=>other) other (λ_ _ _=>other) other (λ_ _=>other) (λ_ _=>other) nil
  (λh t _ r=>cons h t r) v
inductive AO where
 |cells (t:Tr AV) (n:Nat) (ro:Bool)
 |gl (l:AV) (ro:Bool)
 |mp (es:List (AV×AV))
 |si (s:List Nat) (pos:Nat)
 |mi (m:Pos) (n:Nat) (seen:List Nat)
 |loop (ready:Bool) (gA:Option (Option Nat)) (fn:FuncId) (im:Tr AV) (nt:Nat) (params:Array Tmp) (assign body:Code) (wN:Pos)
 |marks
class aY where
 l:List (AV×Nat)
 k:Nat
structure Heap where
 t:Tr AO
 n:Pos
inductive OR where
 |fail
 |val (v:AV) (h:Heap)
 |enter (f:FuncId) (args:AV) (h:Heap)
 |round (id:Pos) (args:AV) (h:Heap)
inductive CR where
 |fail
 |ret (v:AV) (h:Heap)
inductive R where
 |fail
 |ok (r:Tr AV) (m:List Pos) (h:Heap)
 |exit (id:Nat) (r:Tr AV) (m:List Pos) (h:Heap)
 |ret (r:Tr AV) (m:List Pos) (h:Heap)
end
end Go.Sy
namespace Go.Sy
noncomputable section
def bQ (a b:Nat):Bool:=Nat.ble (Nat.succ a) b
def dj (x y:Int):Bool:=
 Int.casesOn x (λa=>Int.casesOn y (λb=>bQ a b) (λ_=>false)) (λa=>Int.casesOn y (λ_=>true) (λb=>bQ b a))
def gg (x y:Int):Bool:=Bool.casesOn (dj y x) true false
def bG (x y:Int):Bool:=
 Int.casesOn x (λa=>Int.casesOn y (λb=>Nat.beq a b) (λ_=>false)) (λa=>Int.casesOn y (λ_=>false) (λb=>Nat.beq a b))
def aU (b:Bool):Bool:=Bool.casesOn b true false
def aF (a b:Bool):Bool:=Bool.casesOn a false b
def Fk (k:IntKind):Nat:=IntKind.casesOn k 128 32768 2147483648 9223372036854775808 0 0 0 0
def ym (k:IntKind):Nat:=IntKind.casesOn k 128 32768 2147483648 9223372036854775808 256 65536 4294967296 18446744073709551616
def QX (k:IntKind):Nat:=IntKind.casesOn k 0 1 2 3 4 5 6 7
def qp (k l:IntKind):Bool:=Nat.beq (QX k) (QX l)
def fits (k:IntKind) (n:Int):Bool:=Int.casesOn n (λa=>bQ a (ym k)) (λa=>bQ a (Fk k))
def ah (k:IntKind) (n:Int):Int:=Bool.casesOn (fits k n) (IntKind.wrap k n) n
def ofL (l:List AV):AV:=List.rec .nil (λa _ t=> .cons a t) l
def bytesOf (s:ByteArray):List Nat:=s.data.toList.map UInt8.toNat
def QY (l c:Nat):AV:=Bool.casesOn (Nat.beq l 0) .undef (Bool.casesOn (Nat.beq c 0) .undef .bA)
def aaW (fn:Fn) (f c:List Value):AV:=
 List.casesOn f (List.casesOn c (Fn.casesOn fn (λg=> .func (.func g) .nil .nil) (λ_=> .undef) (λ_ _=> .undef) (λ_ _ _ _=> .undef) (λ_=> .undef)) (λ_ _=> .undef)) (λ_ _=> .undef)
def CG (v:Value):AV:=
 match v with
 | .bool b=> .bool b| .int k n=> .int k n| .string s=> .str (bytesOf s)| .pointer none=> .eZ| .slice none l c=>QY l c| .map none=> .qo| .func fn f c=>aaW fn f.toList c.toList| .nilFunc=> .kO| .nilIface=> .lK|_=> .undef
def eY (v:Value):AV:=
 match v with
 | .agg cs=> .agg (ofL (cs.toList.map CG))| .tuple vs=>List.casesOn vs.toList (.aO .nil) (λ_ _=> .undef)|v=>CG v
def gv (o:Option AV):AV:=Option.casesOn (motive:=λ_=>AV) o .undef (λv=>v)
def ev (x:Operand):Tr AV ->AV:=
 Operand.casesOn (motive:=λ_=>Tr AV ->AV) x (λt r=>gv (r.get (pathOf t))) (λv _=>eY v) (λg _=>Bool.casesOn (motive:=λ_=>AV) (bQ g 64) .undef (.ptr (pathOf g) 0))
  (λf _=> .func (.func f) .nil .nil)
def qq (l:List Operand):Tr AV ->AV:=List.rec (motive:=λ_=>Tr AV ->AV) (λ_=> .nil) (λx _ ih r=> .cons (ev x r) (ih r)) l
def AV.jB (v:AV):Bool:=
 match v with| .undef=>false| .agg _=>false| .aO _=>false| .nil=>false| .cons _ _=>false|_=>true
def AV.cells (v:AV):AV:=
 match v with| .undef=> .cons .undef .nil| .agg l=>l| .aO _=> .cons .undef .nil| .nil=> .cons .undef .nil| .cons _ _=> .cons .undef .nil|v=> .cons v .nil
def AV.len (v:AV):Nat:=AV.fold 0 0 (λ_ _ n=>Nat.succ n) v
def yn (c:Tr AV) (n:Nat):Nat ->Option AV:=
 Nat.rec (motive:=λ_=>Nat ->Option AV) (λ_=>some .nil)
  (λ_ ih off=>Option.casesOn (motive:=λ_=>Option AV) (c.get (pathOf off)) none (λv=>Option.casesOn (motive:=λ_=>Option AV) (ih (Nat.succ off)) none (λl=>some (.cons v l)))) n
def lay (n:Nat):AV ->Nat ->Tr AV ->Option (Tr AV):=
 Nat.rec (motive:=λ_=>AV ->Nat ->Tr AV ->Option (Tr AV))
  (λl _ c=>match l with| .nil=>some c|_=>none)
  (λ_ ih l off c=>match l with
   | .cons a t=>Bool.casesOn (motive:=λ_=>Option (Tr AV)) a.jB none (ih t (Nat.succ off) (c.set a (pathOf off)))|_=>none) n
def app (a:AV):AV ->AV:=AV.fold (λb=>b) (λb=>b) (λh _ ih b=> .cons h (ih b)) a
def fQ (n:Nat) (z:AV):AV:=Nat.rec .nil (λ_ t=>app z t) n
def dQ (n:Nat):AV ->Option AV:=
 Nat.rec (motive:=λ_=>AV ->Option AV) (λ_=>some .nil)
  (λ_ ih l=>match l with
   | .cons a t=>Option.casesOn (motive:=λ_=>Option AV) (ih t) none (λl=>some (.cons a l))|_=>none) n
def cX (n:Nat):AV ->AV:=
 Nat.rec (motive:=λ_=>AV ->AV) (λl=>l) (λ_ ih l=>match l with| .cons _ t=>ih t|_=> .undef) n
def gO (off:Nat):AV ->AV ->AV:=
 Nat.rec (motive:=λ_=>AV ->AV ->AV)
  (λl p=>AV.fold (β:=AV ->AV) (λ_=> .undef) (λl=>l) (λh _ ih l=>match l with| .cons _ t=> .cons h (ih t)|_=> .undef) p l)
  (λ_ ih l p=>match l with| .cons a t=> .cons a (ih t p)|_=> .undef) off
def fL (P:Program) (t:TypeId):Option Nat:=(P.info? t).map (·.size)
def lA (P:Program) (t:TypeId):Option Value:=(P.info? t).bind (·.zero)
def iI (P:Program) (t:TypeId):Option Nat:=(P.info? t).map (·.bytes)
def qt (P:Program) (t:TypeId):Option (Option Nat):=
 match P.underlying t with
 |some (.struct _)|some (.array _ _)=>(fL P t).map some|some _=>some none|none=>none
def iH (P:Program) (t:TypeId):Option TypeId:=match P.underlying t with|some (.slice e)=>some e|_=>none
def okV (v:AV):Bool:=
 match v with| .undef=>false| .aO _=>false| .nil=>false| .cons _ _=>false|_=>true
def dI (P:Program) (t:TypeId):Option AV:=(lA P t).bind λv=>Bool.casesOn (motive:=λ_=>Option AV) (okV (eY v)) none (some (eY v).cells)
inductive MK where
 |ptr
 |slice (len cap sz:Nat)
def MK.av (m:MK):Pos ->AV:=MK.casesOn (motive:=λ_=>Pos ->AV) m (λid=> .ptr id 0) (λl _ z id=> .gs id l z)
structure AL where
 l:AV
 n:Nat
 k:MK
inductive OC where
 |bad
 |pure (f:Program ->Tr AV ->Option AV)
 |load (f:Program ->Tr AV ->Heap ->Option AV)
 |alloc (f:Program ->Tr AV ->Option AL)
 |lB (f:Program ->Tr AV ->Heap ->OR)
def jb (h:Heap) (id:Pos):Option (Tr AV×Nat×Bool):=
 Option.casesOn (motive:=λ_=>Option (Tr AV×Nat×Bool)) (h.t.get id) none
  (λo=>AO.casesOn (motive:=λ_=>Option (Tr AV×Nat×Bool)) o (λt n ro=>some (t,n,ro)) (λ_ _=>none) (λ_=>none) (λ_ _=>none) (λ_ _ _=>none) (λ_ _ _ _ _ _ _ _ _=>none) none)
def uA (l:AV) (n:Nat) (k:MK):Option AO:=
 MK.casesOn (motive:=λ_=>Option AO) k (Option.casesOn (motive:=λ_=>Option AO) (lay n l 0 .leaf) none (λt=>some (.cells t n false))) (λ_ _ _=>some (.gl l false))
def iQ (l:AV) (n:Nat) (h:Heap) (k:MK):OR:=
 Option.casesOn (motive:=λ_=>OR) (uA l n k) .fail (λo=> .val (k.av h.n) ⟨h.t.set o h.n,h.n.succ⟩)
def gP (h:Heap) (id:Pos) (off n:Nat):Option AV:=
 match h.t.get id with
 |some (.cells t _ _)=>yn t n off|some (.gl l _)=>dQ n (cX off l)|_=>none
def Fl (h:Heap) (id:Pos):Bool:=match h.t.get id with|some (.cells _ _ ro)=>Bool.casesOn ro true false|some (.gl _ ro)=>Bool.casesOn ro true false|_=>false
def dJ (l:AV):Bool:=AV.fold false true (λa _ r=>Bool.casesOn (motive:=λ_=>Bool) a.jB false r) l
def QZ:Nat:=1099511627776
def CH (P:Program) (t:TypeId) (c:Tr AV) (off:Nat):Option AV:=
 Option.casesOn (motive:=λ_=>Option AV) (qt P t) none (λm=>
  Option.casesOn (motive:=λ_=>Option AV) m (c.get (pathOf off)) (λn=>(yn c n off).map .agg))
def fR (P:Program) (t:TypeId) (l:AV):Option AV:=
 Option.casesOn (motive:=λ_=>Option AV) (qt P t) none (λm=>
  Option.casesOn (motive:=λ_=>Option AV) m (match l with| .cons a _=>some a|_=>none) (λn=>(dQ n l).map .agg))
def wO (P:Program) (t:TypeId) (a:AV) (h:Heap):Option AV:=
 match a with
 | .cR l k=>fR P t (cX k l)| .ptr id off=>(match h.t.get id with
  |some (.cells c _ _)=>CH P t c off|some (.gl l _)=>fR P t (cX off l)|_=>none)
 |_=>none
def sE (t:TypeId) (a:Operand) (P:Program) (r:Tr AV) (h:Heap):Option AV:=wO P t (ev a r) h
def putAt (id:Pos) (off n:Nat) (l:AV) (h:Heap):Option Heap:=
 match h.t.get id with
 |some (.cells t m ro)=>
  Bool.casesOn (motive:=λ_=>Option Heap) ro
   (Bool.casesOn (motive:=λ_=>Option Heap) (Nat.ble (Nat.add off n) m) none
    (Option.casesOn (motive:=λ_=>Option Heap) (lay n l off t) none (λt'=>some ⟨h.t.set (.cells t' m false) id,h.n⟩)))
   none
 |some (.gl g ro)=>
  Bool.casesOn (motive:=λ_=>Option Heap) ro
   (Bool.casesOn (motive:=λ_=>Option Heap) (aF (Nat.ble (Nat.add off n) g.len) (aF (Nat.beq l.len n) (dJ l))) none (some ⟨h.t.set (.gl (gO off g l) false) id,h.n⟩))
   none
 |_=>none
def tj (t:TypeId) (a x:Operand) (P:Program) (r:Tr AV) (h:Heap):OR:=
 match ev a r with
 | .ptr id off=>Option.casesOn (motive:=λ_=>OR) (fL P t) .fail (λn=>Option.casesOn (motive:=λ_=>OR) (putAt id off n (ev x r).cells h) .fail (λh'=> .val (.aO .nil) h'))|_=> .fail
def acj (_:TypeId) (x:Operand) (_:Program) (r:Tr AV):Option AL:=some ⟨(ev x r).cells,(ev x r).cells.len,.ptr⟩
def Ij (t:TypeId) (P:Program) (_:Tr AV):Option AL:=Option.casesOn (motive:=λ_=>Option AL) (dI P t) none (λz=>some ⟨z,z.len,.ptr⟩)
def places (P:Program) (t:TypeId):Option (Nat ->Option (Nat×Nat)):=
 match P.underlying t with
 |some (.struct fs)=>Bool.casesOn (motive:=λ_=>Option (Nat ->Option (Nat×Nat))) (fs.toList.all λf=>(fL P f.type).isSome) none (some λi=>(fs[i]?).bind λf=>(fL P f.type).map λn=>(f.offset,n))|some (.array _ e)=>(fL P e).map λn=>λi=>some (i*n,n)
 |_=>none
def sF (place:Nat ->Option (Nat×Nat)) (xv:Nat) (ps:List (Nat×Operand)):Tr AV ->AV ->Option AV:=
 List.rec (motive:=λ_=>Tr AV ->AV ->Option AV) (λ_ l=>some l)
  (λp _ ih r l=>Option.casesOn (motive:=λ_=>Option AV) (place p.1) none (λq=>
   Bool.casesOn (motive:=λ_=>Option AV) (aF (aF (okV (ev p.2 r)) (Nat.beq (ev p.2 r).cells.len q.2)) (Nat.ble (Nat.add q.1 q.2) xv)) none (ih r (gO q.1 l (ev p.2 r).cells)))) ps
def CI (t:TypeId) (ps:Array (Nat×Operand)) (P:Program) (r:Tr AV):Option AV:=
 Option.casesOn (motive:=λ_=>Option AV) (dI P t) none (λz=>
  Option.casesOn (motive:=λ_=>Option AV) (places P t) none (λpl=>(sF pl z.len ps.toList r z).map .agg))
def nj (t:TypeId) (len:Nat) (ps:Array (Nat×Operand)) (P:Program) (r:Tr AV):Option AL:=
 Option.casesOn (motive:=λ_=>Option AL) (iH P t) none (λe=>
  Option.casesOn (motive:=λ_=>Option AL) (dI P e) none (λz=>
   Option.casesOn (motive:=λ_=>Option AL) (fL P e) none (λsz=>
    Bool.casesOn (motive:=λ_=>Option AL) (aF (Nat.beq z.len sz) (Nat.ble (Nat.mul len sz) 16777216)) none
     (Option.casesOn (motive:=λ_=>Option AL) (sF (λi=>some (i*sz,sz)) (Nat.mul len sz) ps.toList r (fQ len z)) none
      (λl=>some ⟨l,Nat.mul len sz,.slice len len sz⟩)))))
def mh (P:Program) (s:TypeId) (f:Nat):Option (Nat×TypeId):=
 match P.underlying s with
 |some (.struct fs)=>(fs[f]?).map λf=>(f.offset,f.type)
 |_=>none
def kn (P:Program) (s:TypeId) (f:Nat):Option Nat:=
 (mh P s f).bind λq=>(fL P q.2).bind λn=>if n=0 then none else some q.1
def pd (s:TypeId) (x:Operand) (f:Nat) (P:Program) (r:Tr AV):Option AV:=
 match ev x r with
 | .ptr id off=>Option.casesOn (motive:=λ_=>Option AV) (kn P s f) none (λk=>some (.ptr id (Nat.add off k)))| .cR l j=>Option.casesOn (motive:=λ_=>Option AV) (kn P s f) none (λk=>some (.cR l (Nat.add j k)))|_=>none
def sG (P:Program) (t:TypeId) (l:AV) (off:Nat):Option AV:=
 Option.casesOn (motive:=λ_=>Option AV) (qt P t) none (λm=>
  Option.casesOn (motive:=λ_=>Option AV) m (match cX off l with| .cons a _=>some a|_=>none) (λn=>(dQ n (cX off l)).map .agg))
def CJ (t:TypeId) (x:Operand) (f:Nat) (P:Program) (r:Tr AV):Option AV:=
 match ev x r with
 | .agg l=>Option.casesOn (motive:=λ_=>Option AV) (mh P t f) none (λq=>sG P q.2 l q.1)|_=>none
def uB (x:Operand) (i:Nat) (_:Program) (r:Tr AV):Option AV:=
 match ev x r with
 | .aO l=>(match cX i l with| .cons a _=>some a|_=>none)
 |_=>none
def idx (v:AV) (len:Nat) (k:Nat ->Option AV):Option AV:=
 match v with
 | .int _ (.ofNat i)=>Bool.casesOn (motive:=λ_=>Option AV) (bQ i len) none (k i)|_=>none
def fS (t:TypeId) (x ix:Operand) (P:Program) (r:Tr AV):Option AV:=
 match P.underlying t,ev x r with
 |some (.slice e),.slice id off len cap sz=>Option.casesOn (motive:=λ_=>Option AV) (fL P e) none (λz=>
  Bool.casesOn (motive:=λ_=>Option AV) (Nat.beq z sz) none (idx (ev ix r) len (λi=>some (.ptr id (Nat.add off (Nat.mul i sz))))))
 |some (.slice e),.ro n l=>Option.casesOn (motive:=λ_=>Option AV) (fL P e) none (λsz=>idx (ev ix r) n (λi=>some (.cR l (Nat.mul i sz))))|some (.slice e),.gs id n sz=>Option.casesOn (motive:=λ_=>Option AV) (fL P e) none (λz=>
  Bool.casesOn (motive:=λ_=>Option AV) (Nat.beq z sz) none (idx (ev ix r) n (λi=>some (.ptr id (Nat.mul i sz)))))
 |some (.array len e),.ptr id off=>Option.casesOn (motive:=λ_=>Option AV) (fL P e) none (λsz=>idx (ev ix r) len (λi=>some (.ptr id (Nat.add off (Nat.mul i sz)))))|some (.array len e),.cR l k=>Option.casesOn (motive:=λ_=>Option AV) (fL P e) none (λsz=>idx (ev ix r) len (λi=>some (.cR l (Nat.add k (Nat.mul i sz)))))|_,_=>none
def uC (t:TypeId) (x:Operand) (P:Program) (r:Tr AV):Option AV:=
 match P.underlying t with
 |some (.array n _)=>(match ev x r with
  | .gs id m _=>Bool.casesOn (motive:=λ_=>Option AV) (aF (bQ 0 n) (Nat.ble n m)) none (some (.ptr id 0))| .slice id off m _ _=>Bool.casesOn (motive:=λ_=>Option AV) (aF (bQ 0 n) (Nat.ble n m)) none (some (.ptr id off))| .ro m l=>Bool.casesOn (motive:=λ_=>Option AV) (aF (bQ 0 n) (Nat.ble n m)) none (some (.cR l 0))|_=>none)
 |_=>none
def Ra (s:List Nat):Nat ->Option Nat:=List.rec (motive:=λ_=>Nat ->Option Nat) (λ_=>none) (λa _ ih n=>Nat.casesOn (motive:=λ_=>Option Nat) n (some a) ih) s
def tm (t:TypeId) (x ix:Operand) (P:Program) (r:Tr AV):Option AV:=
 match P.underlying t,ev x r with
 |some .string,.str s=>(match ev ix r with
  | .int _ (.ofNat i)=>Option.casesOn (motive:=λ_=>Option AV) (Ra s i) none (λb=>some (.int .u8 (.ofNat b)))|_=>none)
 |some (.array len e),.agg l=>Option.casesOn (motive:=λ_=>Option AV) (fL P e) none (λsz=>idx (ev ix r) len (λi=>sG P e l (Nat.mul i sz)))|_,_=>none
def bound (v:Option AV) (ack most:Nat) (k:Nat ->Option AV):Option AV:=
 match v with
 |none=>k ack|some (.int _ (.ofNat i))=>Bool.casesOn (motive:=λ_=>Option AV) (Nat.ble i most) none (k i)|some _=>none
def Xb (s:List Nat) (l n:Nat):List Nat:=(s.drop l).take n
def Rb (P:Program) (t:TypeId) (x:AV) (lo hi:Option AV) (m:AV):Option AV:=
 match lo,hi,P.underlying t,x with
 |none,some z,some (.slice e),.gs id n sz=>
  Option.casesOn (motive:=λ_=>Option AV) (fL P e) none λq=>Bool.casesOn (motive:=λ_=>Option AV) (Nat.beq q sz) none
   (bound (some m) 0 n λmm=>bound (some z) 0 mm λhh=>some (.gs id hh sz))
 |_,_,_,_=>none
def ko (t:TypeId) (x:Operand) (lo hi mx:Option Operand) (P:Program) (r:Tr AV):Option AV:=
 match mx with
 |some y=>Rb P t (ev x r) (lo.map (ev · r)) (hi.map (ev · r)) (ev y r)|none=>
  match P.underlying t,ev x r with
  |some .string,.str s=>
   bound (hi.map (ev · r)) s.length s.length λhh=>bound (lo.map (ev · r)) 0 hh λll=>some (.str (Xb s ll (hh - ll)))
  |some (.slice e),.slice id off len cap sz=>
   Option.casesOn (motive:=λ_=>Option AV) (fL P e) none λz=>Bool.casesOn (motive:=λ_=>Option AV) (Nat.beq z sz) none
   (bound (hi.map (ev · r)) len cap λhh=>bound (lo.map (ev · r)) 0 hh λll=>
    Bool.casesOn (motive:=λ_=>Option AV) (aF (Nat.beq ll cap) (bQ 0 cap)) (some (.slice id (Nat.add off (Nat.mul ll sz)) (hh - ll) (cap - ll) sz)) (some (.sle id sz)))
  |some (.slice e),.ro n l=>
   Option.casesOn (motive:=λ_=>Option AV) (fL P e) none λz=>
   (bound (hi.map (ev · r)) n n λhh=>bound (lo.map (ev · r)) 0 hh λll=>(dQ (Nat.mul (hh - ll) z) (cX (Nat.mul ll z) l)).map (.ro (hh - ll)))
  |some (.slice e),.gs id n sz=>
   Option.casesOn (motive:=λ_=>Option AV) (fL P e) none λz=>Bool.casesOn (motive:=λ_=>Option AV) (Nat.beq z sz) none
   (bound (hi.map (ev · r)) n n λhh=>bound (lo.map (ev · r)) 0 hh λll=>
    Bool.casesOn (motive:=λ_=>Option AV) (Nat.beq ll 0)
     (Bool.casesOn (motive:=λ_=>Option AV) (bQ ll hh) (some (.ro 0 .nil)) (some (.slice id (Nat.mul ll sz) (hh - ll) (n - ll) sz)))
     (some (.gs id hh sz)))
  |some (.slice e),.bA=>Option.casesOn (motive:=λ_=>Option AV) (fL P e) none λ_=>bound (hi.map (ev · r)) 0 0 λhh=>bound (lo.map (ev · r)) 0 hh λ_=>some .bA
  |_,_=>none
def fk (t:TypeId) (x:Operand) (lo hi mx:Option Operand) (P:Program) (r:Tr AV) (h:Heap):Option AV:=
 match P.underlying t,ev x r with
 |some (.array n e),.ptr id off=>
  (match mx with
   |some _=>none|none=>Option.casesOn (motive:=λ_=>Option AV) (fL P e) none λsz=>Option.casesOn (motive:=λ_=>Option AV) (jb h id) none λq=>
    Bool.casesOn (motive:=λ_=>Option AV) (Nat.ble (Nat.add off (Nat.mul n sz)) q.2.1) none
     (bound (hi.map (ev · r)) n n λhh=>bound (lo.map (ev · r)) 0 hh λll=>
      Bool.casesOn (motive:=λ_=>Option AV) (bQ ll n) none (some (.slice id (Nat.add off (Nat.mul ll sz)) (hh - ll) (n - ll) sz))))
 |_,_=>ko t x lo hi mx P r
def jh (t:TypeId) (l c:Operand) (P:Program) (r:Tr AV):Option AL:=
 Option.casesOn (motive:=λ_=>Option AL) (iH P t) none (λe=>
  Option.casesOn (motive:=λ_=>Option AL) (dI P e) none (λz=>
   Option.casesOn (motive:=λ_=>Option AL) (fL P e) none (λsz=>
    Option.casesOn (motive:=λ_=>Option AL) (iI P e) none (λby_=>
     match ev l r,ev c r with
     | .int _ (.ofNat ln),.int _ (.ofNat cp)=>
      Bool.casesOn (motive:=λ_=>Option AL) (aF (Nat.beq z.len sz) (aF (Nat.ble ln cp) (Nat.ble (Nat.mul cp (Nat.succ by_)) QZ))) none
       (some ⟨fQ ln z,Nat.mul cp sz,.slice ln cp sz⟩)
     |_,_=>none))))
def aip (f:Nat ->Nat ->Nat) (k:IntKind) (a b:Int):Option AV:=
 match a,b with
 | .ofNat x,.ofNat y=>some (.int k (.ofNat (f x y)))|_,_=>none
def kq (a:List Nat):List Nat ->Bool:=
 List.rec (motive:=λ_=>List Nat ->Bool) (λb=>List.casesOn (motive:=λ_=>Bool) b true (λ_ _=>false))
  (λx _ ih b=>List.casesOn (motive:=λ_=>Bool) b false (λy t=>Bool.casesOn (motive:=λ_=>Bool) (Nat.beq x y) false (ih t))) a
def llt (a:List Nat):List Nat ->Bool:=
 List.rec (motive:=λ_=>List Nat ->Bool) (λb=>List.casesOn (motive:=λ_=>Bool) b false (λ_ _=>true))
  (λx _ ih b=>List.casesOn (motive:=λ_=>Bool) b false (λy t=>Bool.casesOn (motive:=λ_=>Bool) (bQ x y) (Bool.casesOn (motive:=λ_=>Bool) (Nat.beq x y) false (ih t)) true)) a
def ow (op:BinOp):IntKind ->Int ->Int ->Option AV:=
 BinOp.casesOn (motive:=λ_=>IntKind ->Int ->Int ->Option AV) op
  (λk a b=>some (.int k (ah k (Int.add a b))))
  (λk a b=>some (.int k (ah k (Int.sub a b))))
  (λk a b=>some (.int k (ah k (Int.mul a b))))
  (λk a b=>Bool.casesOn (motive:=λ_=>Option AV) (bG b 0) (some (.int k (ah k (Int.tdiv a b)))) none)
  (λk a b=>Bool.casesOn (motive:=λ_=>Option AV) (bG b 0) (some (.int k (Int.tmod a b))) none)
  (λk a b=>match a,b with
   | .ofNat x,.ofNat y=>Bool.casesOn (motive:=λ_=>Option AV) (aF (fits k a) (fits k b)) none (some (.int k (.ofNat (Nat.land x y))))|_,_=>none)
  (λk a b=>match a,b with
   | .ofNat x,.ofNat y=>Bool.casesOn (motive:=λ_=>Option AV) (aF (fits k a) (fits k b)) none (some (.int k (.ofNat (Nat.lor x y))))|_,_=>none)
  (λk a b=>match a,b with
   | .ofNat x,.ofNat y=>Bool.casesOn (motive:=λ_=>Option AV) (aF (fits k a) (fits k b)) none (some (.int k (.ofNat (Nat.xor x y))))|_,_=>none)
  (λ_ _ _=>none) (λ_ _ _=>none)
  (λk a b=>match a,b with
   | .ofNat x,.ofNat y=>Bool.casesOn (motive:=λ_=>Option AV) (aF (fits k a) (fits k b)) none (some (.int k (.ofNat (Nat.xor x (Nat.land x y)))))|_,_=>none)
  (λ_ a b=>some (.bool (bG a b)))
  (λ_ a b=>some (.bool (aU (bG a b))))
  (λ_ a b=>some (.bool (dj a b)))
  (λ_ a b=>some (.bool (gg a b)))
  (λ_ a b=>some (.bool (dj b a)))
  (λ_ a b=>some (.bool (gg b a)))
def fu (k:IntKind):Nat:=IntKind.casesOn k 8 16 32 64 8 16 32 64
def qu (op:BinOp) (k:IntKind) (a:Int) (b:Int):Option AV:=
 match b with
 | .ofNat n=>(match op with
  | .shl=>some (.int k (ah k (Int.mul a (.ofNat (Nat.pow 2 (Nat.min n (fu k)))))))| .shr=>(match a with
   | .ofNat x=>some (.int k (.ofNat (Nat.div x (Nat.pow 2 (Nat.min n (fu k))))))|_=>none)
  |_=>none)
 |_=>none
def acm (op:BinOp) (lo hi sH fw:Int):Option AV:=
 match op with
 | .lss=>if dj hi sH then some (.bool true)else if gg fw lo then some (.bool false)else none
 | .leq=>if gg hi sH then some (.bool true)else if dj fw lo then some (.bool false)else none
 | .gtr=>if dj fw lo then some (.bool true)else if gg hi sH then some (.bool false)else none
 | .geq=>if gg fw lo then some (.bool true)else if dj hi sH then some (.bool false)else none
 | .eql=>if dj hi sH then some (.bool false)else if dj fw lo then some (.bool false)else none
 | .neq=>if dj hi sH then some (.bool true)else if dj fw lo then some (.bool true)else none
 |_=>none
def yo (k:IntKind) (lo hi:Int):Option AV:=Bool.casesOn (motive:=λ_=>Option AV) (aF (fits k lo) (fits k hi)) none (some (.xu k lo hi))
def Fm (a b:Int):Int:=Bool.casesOn (motive:=λ_=>Int) (dj a b) b a
def imax (a b:Int):Int:=Bool.casesOn (motive:=λ_=>Int) (dj a b) a b
def Ll (op:BinOp) (k:IntKind) (lo hi sH fw:Int):Option AV:=
 match op with
 | .add=>yo k (Int.add lo sH) (Int.add hi fw)| .sub=>yo k (Int.sub lo fw) (Int.sub hi sH)| .mul=>yo k (Fm (Fm (Int.mul lo sH) (Int.mul lo fw)) (Fm (Int.mul hi sH) (Int.mul hi fw))) (imax (imax (Int.mul lo sH) (Int.mul lo fw)) (imax (Int.mul hi sH) (Int.mul hi fw)))|op=>acm op lo hi sH fw
def Fo (op:BinOp) (a b:List Nat):Option AV:=
 match op with
 | .add=>Bool.casesOn (motive:=λ_=>Option AV) (Nat.ble (Nat.add a.length b.length) 9223372036854775807) none (some (.str (a++b)))| .eql=>some (.bool (kq a b))| .neq=>some (.bool (aU (kq a b)))| .lss=>some (.bool (llt a b))| .gtr=>some (.bool (aU (llt a b||kq a b)))| .leq=>some (.bool (llt a b||kq a b))| .geq=>some (.bool (aU (llt a b)))|_=>none
def Rc (x y:AV):Option Bool:=
 match x,y with
 | .eZ,.eZ=>some true| .eZ,.ptr _ _=>some false| .ptr _ _,.eZ=>some false| .cR _ _,.eZ=>some false| .ptr i a,.ptr j b=>Bool.casesOn (motive:=λ_=>Option Bool) (i.beq j) none (some (Nat.beq a b))| .bA,.bA=>some true| .slice _ _ _ _ _,.bA=>some false| .sle _ _,.bA=>some false| .kO,.kO=>some true| .kO,.func _ _ _=>some false| .func _ _ _,.kO=>some false| .yield _,.kO=>some false| .bool a,.bool b=>some (Bool.casesOn (motive:=λ_=>Bool) a (aU b) b)| .int k a,.int l b=>Bool.casesOn (motive:=λ_=>Option Bool) (qp k l) none (some (bG a b))| .str a,.str b=>some (kq a b)|_,_=>none
def Ik (P:Program) (ih:TypeId ->AV ->AV ->Option Bool) (t:TypeId) (x y:AV):Option Bool:=
 match P.underlying t,x,y with
 |some (.struct fs),.agg xs,.agg ys=>
  if P.stoodInHeld t then none else
  List.rec (motive:=λ_=>Option Bool) (some true)
   (λf _ rest=>if f.name= "_" then none else
    match sG P f.type xs f.offset,sG P f.type ys f.offset with
    |some a,some b=>(match ih f.type a b,rest with
     |some q,some r=>some (aF q r)|_,_=>none)
    |_,_=>none) fs.toList
 |some (.array len e),.agg xs,.agg ys=>
  match fL P e with
  |none=>none|some n=>
   List.rec (motive:=λ_=>Option Bool) (some true)
    (λi _ rest=>
     match sG P e xs (Nat.mul i n),sG P e ys (Nat.mul i n)with
     |some a,some b=>(match ih e a b,rest with
      |some q,some r=>some (aF q r)|_,_=>none)
     |_,_=>none) (List.range len)
 |some .bool,.bool a,.bool b=>some (Bool.casesOn (motive:=λ_=>Bool) a (aU b) b)|some (.int _),.int k a,.int l b=>Bool.casesOn (motive:=λ_=>Option Bool) (qp k l) none (some (bG a b))|some .string,.str a,.str b=>some (kq a b)|_,_,_=>none
def Ox (P:Program) (d:Nat):TypeId ->AV ->AV ->Option Bool:=
 Nat.rec (motive:=λ_=>TypeId ->AV ->AV ->Option Bool) (λ_ _ _=>none) (λ_ ih=>Ik P ih) d
def CK (P:Program) (t:TypeId):Bool:=aU (P.eqGuardType P.depth t)
def Oy (P:Program) (t:TypeId) (x y:AV):Option Bool:=
 match x,y with
 | .agg _,.agg _=>Bool.casesOn (motive:=λ_=>Option Bool) (CK P t) none (Ox P 40 t x y)| .bool a,.bool b=>(match P.underlying t with|some .bool=>some (Bool.casesOn (motive:=λ_=>Bool) a (aU b) b)|_=>none)
 | .eZ,.eZ| .eZ,.ptr _ _| .ptr _ _,.eZ| .ptr _ _,.ptr _ _| .cR _ _,.eZ=>
  (match P.underlying t with
   |some (.pointer e)=>(match fL P e with|some 0=>none|some _=>Rc x y|none=>none)
   |_=>none)
 | .bA,.bA| .slice _ _ _ _ _,.bA| .sle _ _,.bA=>(match P.underlying t with|some (.slice _)=>Rc x y|_=>none)
 | .ro n _,.bA=>(match P.underlying t with|some (.slice _)=>Nat.casesOn (motive:=λ_=>Option Bool) n none (λ_=>some false)|_=>none)
 | .gs _ n _,.bA=>(match P.underlying t with|some (.slice _)=>Nat.casesOn (motive:=λ_=>Option Bool) n none (λ_=>some false)|_=>none)
 | .kO,.kO| .kO,.func _ _ _| .func _ _ _,.kO| .yield _,.kO=>(match P.underlying t with|some (.func _ _ _)=>Rc x y|_=>none)
 |_,_=>none
def Fp (op:BinOp) (P:Program) (t:TypeId) (x y:AV):Option AV:=
 match op with
 | .eql=>(Oy P t x y).map .bool| .neq=>(Oy P t x y).map λb=> .bool (aU b)
 |_=>none
def fU (op:BinOp):Bool:=BinOp.casesOn op false false false false false false false false true true false false false false false false false
def Il (op:BinOp) (k:IntKind) (a b:Int) (l:IntKind) (c:Int):Option AV:=
 match op with
 | .rem=>Bool.casesOn (motive:=λ_=>Option AV) (aF (qp k l) (aF (dj b a) (aF (dj 0 a) (aF (gg a c) (gg c a))))) none (some (.int k (Int.add b a)))|_=>none
def Im (op:BinOp) (P:Program) (t:TypeId) (x y:AV):Option AV:=
 match x,y with
 | .int k a,.int l b=>Bool.casesOn (motive:=λ_=>Option AV) (fU op) (Bool.casesOn (motive:=λ_=>Option AV) (qp k l) none (ow op k a b)) (qu op k a b)| .xu k a b,.int l c=>Bool.casesOn (motive:=λ_=>Option AV) (aF (gg a b) (qp k l)) (Il op k a b l c) (Ll op k a b c c)| .int k a,.xu l b c=>Bool.casesOn (motive:=λ_=>Option AV) (aF (gg b c) (qp k l)) none (Ll op k a a b c)| .xu k a b,.xu l c d=>Bool.casesOn (motive:=λ_=>Option AV) (aF (gg a b) (aF (gg c d) (qp k l))) none (Ll op k a b c d)| .str a,.str b=>Fo op a b|x,y=>Fp op P t x y
def Re (op:BinOp) (t:TypeId) (x y:Operand) (_:TypeId) (P:Program) (r:Tr AV):Option AV:=Im op P t (ev x r) (ev y r)
def unA (op:UnOp) (x:AV):Option AV:=
 match op,x with
 | .neg,.int k n=>some (.int k (ah k (Int.sub 0 n)))| .neg,.xu k a b=>Bool.casesOn (motive:=λ_=>Option AV) (gg a b) none (yo k (Int.sub 0 b) (Int.sub 0 a))| .not,.bool b=>some (.bool (aU b))|_,_=>none
def xUn (op:UnOp) (_:TypeId) (x:Operand) (_:Program) (r:Tr AV):Option AV:=unA op (ev x r)
def Fq (P:Program) (src dst:TypeId) (x:AV):Option AV:=
 match P.underlying src,P.underlying dst with
 |some _,some (.int k)=>(match x with
  | .int _ n=>some (.int k (ah k n))| .xu _ a b=>Bool.casesOn (motive:=λ_=>Option AV) (gg a b) (Bool.casesOn (motive:=λ_=>Option AV) (aF (fits k 0) (fits k 255)) none (some (.xu k a b))) (yo k a b)|_=>none)
 |some _,some .string=>(match x with| .str s=>some (.str s)| .qn m=>some (.qn m)|_=>none)
 |_,_=>none
def Io (h:AV) (ih:Option (List Nat)):Option (List Nat):=
 match h with
 | .int .u8 (.ofNat b)=>Bool.casesOn (motive:=λ_=>Option (List Nat)) (bQ b 256) none (Option.casesOn (motive:=λ_=>Option (List Nat)) ih none (λs=>some (b::s)))|_=>none
def mj (l:AV):Option (List Nat):=AV.fold none (some []) (λh _ ih=>Io h ih) l
def gh (src dst:TypeId) (x:Operand) (P:Program) (r:Tr AV) (h:Heap):Option AV:=
 match ev x r with
 | .slice id off len cap sz=>(match P.underlying src,P.underlying dst with
  |some (.slice e),some .string=>(match P.underlying e with
   |some (.int .u8)=>Option.casesOn (motive:=λ_=>Option AV) (gP h id off len) none (λl=>(mj l).map .str)|_=>none)
  |_,_=>none)
 | .gs id len _=>(match P.underlying src,P.underlying dst with
  |some (.slice e),some .string=>(match P.underlying e with
   |some (.int .u8)=>Option.casesOn (motive:=λ_=>Option AV) (gP h id 0 len) none (λl=>(mj l).map .str)|_=>none)
  |_,_=>none)
 | .ro n l=>(match P.underlying src,P.underlying dst with
  |some (.slice e),some .string=>(match P.underlying e with
   |some (.int .u8)=>Option.casesOn (motive:=λ_=>Option AV) (dQ n l) none (λl=>(mj l).map .str)|_=>none)
  |_,_=>none)
 |v=>Fq P src dst v
def Lm (x:Operand) (_:Program) (r:Tr AV):Option AV:=some (ev x r)
def yp (c a b:Operand) (_:Program) (r:Tr AV):Option AV:=
 match ev c r with
 | .bool t=>some (Bool.casesOn (motive:=λ_=>AV) t (ev b r) (ev a r))|_=>none
def rI (x:Operand) (_:Program) (r:Tr AV):Option AV:=
 match ev x r with
 | .ptr id off=>some (.ptr id off)| .cR l k=>some (.cR l k)| .func (.func f) a b=>some (.func (.func f) a b)| .yield id=>some (.yield id)| .iface t v=>some (.iface t v)|_=>none
def CL (fn:Fn):Bool:=Fn.casesOn fn (λ_=>false) (λ_=>false) (λ_ _=>false) (λ_ _ _ _=>false) (λ_=>true)
def rJ (fn:Fn) (f c:Array Operand) (_:Program) (r:Tr AV):Option AV:=
 Bool.casesOn (motive:=λ_=>Option AV) (CL fn) (some (.func fn (qq f.toList r) (qq c.toList r))) none
def jC (t:TypeId) (x:Operand) (P:Program) (r:Tr AV):Option AV:=
 match P.underlying t with
 |some (.interface _)=>none|some _=>some (.iface t (ev x r))|none=>none
def Xc (P:Program) (t:TypeId) (x:AV):Option Nat:=
 match P.underlying t with
 |some .string=>(match x with| .str s=>some s.length|_=>none)
 |some (.slice _)=>(match x with| .slice _ _ n _ _=>some n| .ro n _=>some n| .gs _ n _=>some n| .sle _ _=>some 0| .bA=>some 0|_=>none)
 |some (.array n _)=>some n|some (.pointer a)=>(match P.underlying a with|some (.array n _)=>some n|_=>none)
 |some (.map _ _)=>(match x with| .qo=>some 0|_=>none)
 |_=>none
def acn (ts:List TypeId) (aZs:AV) (P:Program):Option AV:=
 match ts,aZs with
 |t::_,.cons x _=>(Xc P t x).map λn=> .int .i64 (.ofNat n)
 |_,_=>none
def aco (ts:List TypeId) (aZs:AV) (P:Program):Option AV:=
 match ts,aZs with
 |t::_,.cons .bA _=>(match P.underlying t with|some (.slice _)=>some (.int .i64 (.ofNat 0))|_=>none)
 |_,_=>none
def Ln (s:List Nat):AV:=List.rec .nil (λb _ t=> .cons (.int .u8 (.ofNat b)) t) s
def sq (x:AV):Option Nat:=
 match x with
 | .slice _ _ n _ _=>some n| .ro n _=>some n| .gs _ n _=>some n| .sle _ _=>some 0| .bA=>some 0| .str s=>some s.length|_=>none
def CM (x:AV) (n sz:Nat) (h:Heap):Option AV:=
 match x with
 | .slice id off _ _ _=>gP h id off (Nat.mul n sz)| .gs id _ oq=>Bool.casesOn (motive:=λ_=>Option AV) (Nat.beq sz oq) none (gP h id 0 (Nat.mul n sz))| .ro _ l=>dQ (Nat.mul n sz) l| .sle _ _=>some .nil| .bA=>some .nil| .str s=>Bool.casesOn (motive:=λ_=>Option AV) (Nat.beq sz 1) none (some (Ln (s.take n)))|_=>none
def kill (id:Pos) (h:Heap):Heap:=⟨h.t.del id,h.n⟩
def gR (old new:AV) (id:Option Pos) (Oz sz:Nat) (h:Heap):OR:=
 iQ (app old new) (Nat.mul Oz sz) (Option.casesOn (motive:=λ_=>Heap) id h (λi=>kill i h)) (.slice Oz Oz sz)
def gG (sz oq by_ xv:Nat) (new:AV):Bool:=aF (Nat.beq sz oq) (aF (Nat.ble (Nat.mul xv (Nat.succ by_)) QZ) (dJ new))
def iq (sz by_:Nat) (s x:AV) (n:Nat) (new:AV) (h:Heap):OR:=
 match s with
 | .bA=>Bool.casesOn (motive:=λ_=>OR) (gG sz sz by_ n new) .fail (gR .nil new none n sz h)| .gs id len oq=>
  Bool.casesOn (motive:=λ_=>OR) (gG sz oq by_ (Nat.add len n) new) .fail
   (match h.t.get id with
   |some (.gl l ro)=>Bool.casesOn (motive:=λ_=>OR) (aF (aU ro) (Nat.beq (Nat.mul len sz) l.len))
    (Bool.casesOn (motive:=λ_=>OR) ro (Option.casesOn (motive:=λ_=>OR) (dQ (Nat.mul len sz) l) .fail (λold=>gR old new (some id) (Nat.add len n) sz h)) .fail)
    (gR l new (some id) (Nat.add len n) sz h)
   |_=> .fail)
 | .slice id off len cap oq=>
  Bool.casesOn (motive:=λ_=>OR) (gG sz oq by_ (Nat.add len n) new) .fail
   (Bool.casesOn (motive:=λ_=>OR) (Nat.ble (Nat.add len n) cap)
    (Bool.casesOn (motive:=λ_=>OR) (Fl h id) .fail
     (Option.casesOn (motive:=λ_=>OR) (gP h id off (Nat.mul len sz)) .fail (λold=>gR old new (some id) (Nat.add len n) sz h)))
    (Option.casesOn (motive:=λ_=>OR) (putAt id (Nat.add off (Nat.mul len sz)) (Nat.mul n sz) new h) .fail (λh'=> .val (.slice id off (Nat.add len n) cap sz) h')))
 |_=> .fail
def nQ (P:Program) (t:TypeId):Bool:=match P.underlying t with|some (.int _)=>true|some _=>false|none=>true
def nR (P:Program) (t:TypeId):Bool:=match P.underlying t with|some (.int _)=>true|_=>false
def lM (sz by_:Nat) (z s x:AV) (ok:Bool) (h:Heap):OR:=
 match s,x with
 | .bA,.int _ (.ofNat n)=>Bool.casesOn (motive:=λ_=>OR) (aF ok (aF (gG sz sz by_ n (fQ n z)) (aU (Nat.beq n 0)))) .fail (.val (.slice h.n 0 n n sz) ⟨h.t.set (.gl (fQ n z) false) h.n,h.n.succ⟩)|_,_=> .fail
def kK (ts:List TypeId) (aZs:AV) (P:Program) (h:Heap):OR:=
 match ts,aZs with
 |t::u::_,.cons s (.cons x _)=>
  Option.casesOn (motive:=λ_=>OR) (iH P t) .fail (λe=>
   Option.casesOn (motive:=λ_=>OR) (fL P e) .fail (λsz=>
    Option.casesOn (motive:=λ_=>OR) (iI P e) .fail (λby_=>
     Option.casesOn (motive:=λ_=>OR) (dI P e) .fail (λz=>
      Bool.casesOn (motive:=λ_=>OR) (aF (Nat.beq z.len sz) (aU (nQ P u))) (lM sz by_ z s x (aF (Nat.beq z.len sz) (nR P u)) h)
       (Option.casesOn (motive:=λ_=>OR) (sq x) .fail (λn=>
        Option.casesOn (motive:=λ_=>OR) (CM x n sz h) .fail (λnew=>iq sz by_ s x n new h)))))))
 |_,_=> .fail
def Rf (ts:List TypeId) (aZs:AV) (P:Program) (h:Heap):OR:=
 match ts,aZs with
 |t::_,.cons d (.cons x _)=>
  Option.casesOn (motive:=λ_=>OR) (iH P t) .fail (λe=>
   Option.casesOn (motive:=λ_=>OR) (fL P e) .fail (λsz=>
    match d with
    | .gs id dl oq=>Bool.casesOn (motive:=λ_=>OR) (Nat.beq sz oq) .fail
     (Option.casesOn (motive:=λ_=>OR) (sq x) .fail (λsn=>
      Option.casesOn (motive:=λ_=>OR) (CM x (Nat.min sn dl) sz h) .fail (λnew=>
       Option.casesOn (motive:=λ_=>OR) (putAt id 0 (Nat.mul (Nat.min sn dl) sz) new h) .fail (λh'=> .val (.int .i64 (.ofNat (Nat.min sn dl))) h'))))
    | .slice id off dl _ oq=>Bool.casesOn (motive:=λ_=>OR) (Nat.beq sz oq) .fail
     (Option.casesOn (motive:=λ_=>OR) (sq x) .fail (λsn=>
      Option.casesOn (motive:=λ_=>OR) (CM x (Nat.min sn dl) sz h) .fail (λnew=>
       Option.casesOn (motive:=λ_=>OR) (putAt id off (Nat.mul (Nat.min sn dl) sz) new h) .fail (λh'=> .val (.int .i64 (.ofNat (Nat.min sn dl))) h'))))
    | .bA=>Option.casesOn (motive:=λ_=>OR) (sq x) .fail (λ_=> .val (.int .i64 0) h)| .sle _ _=>Option.casesOn (motive:=λ_=>OR) (sq x) .fail (λ_=> .val (.int .i64 0) h)|_=> .fail))
 |_,_=> .fail
def pe (ts:List TypeId) (aZs:AV) (P:Program) (h:Heap):OR:=
 match ts,aZs with
 |t::_,.cons d _=>
  Option.casesOn (motive:=λ_=>OR) (iH P t) .fail (λe=>
   Option.casesOn (motive:=λ_=>OR) (fL P e) .fail (λsz=>
    Option.casesOn (motive:=λ_=>OR) (dI P e) .fail (λz=>
     match d with
     | .slice id off n _ oq=>Bool.casesOn (motive:=λ_=>OR) (aF (Nat.beq sz oq) (aF (Nat.beq z.len sz) (bQ 0 n))) .fail
      (Option.casesOn (motive:=λ_=>OR) (putAt id off (Nat.mul n sz) (fQ n z) h) .fail (λh'=> .val (.aO .nil) h'))
     |_=> .fail)))
 |_,_=> .fail
def OA (lt:Int ->Int ->Bool) (aZs:AV):Option AV:=
 match aZs with
 | .cons (.int k a) (.cons (.int l b) .nil)=>Bool.casesOn (motive:=λ_=>Option AV) (qp k l) none (some (.int k (Bool.casesOn (motive:=λ_=>Int) (lt b a) a b)))|_=>none
def uD (P:Program) (ih:TypeId ->AV ->Bool) (t:TypeId) (x:AV):Bool:=
 match P.underlying t,x with
 |some (.struct fs),.agg xs=>List.rec (motive:=λ_=>Bool) true (λf _ rest=>if f.name= "_" then false else match sG P f.type xs f.offset with|some a=>aF (ih f.type a) rest|none=>false) fs.toList|some (.array len e),.agg xs=>
  match fL P e with
  |none=>false|some n=>List.rec (motive:=λ_=>Bool) true (λi _ rest=>match sG P e xs (Nat.mul i n)with|some a=>aF (ih e a) rest|none=>false) (List.range len)
 |some .bool,.bool _=>true|some (.int _),.int _ _=>true|some .string,.str _=>true|_,_=>false
def su (P:Program) (d:Nat):TypeId ->AV ->Bool:=Nat.rec (motive:=λ_=>TypeId ->AV ->Bool) (λ_ _=>false) (λ_ ih=>uD P ih) d
def Rh (x y:AV):Bool:=
 match x,y with
 | .int k n,.int l m=>aF (qp k l) (bG n m)| .str a,.str b=>kq a b| .bool a,.bool b=>Bool.casesOn (motive:=λ_=>Bool) a (aU b) b|_,_=>false
def acp (x:AV):AV ->Bool:=AV.fold (λ_=>false) (λy=>match y with| .nil=>true|_=>false) (λa _ ih y=>match y with| .cons b t=>aF (Rh a b) (ih t)|_=>false) x
def qv (x y:AV):Bool:=
 match x,y with
 | .agg l,.agg m=>acp l m|x,y=>Rh x y
def dW (P:Program) (kt:TypeId) (k:AV) (l:List (AV×AV)):Nat ->Option (Option (Nat×AV)):=
 List.rec (motive:=λ_=>Nat ->Option (Option (Nat×AV))) (λ_=>some none)
  (λe _ ih i=>match Ox P 40 kt k e.1 with
   |some true=>Bool.casesOn (motive:=λ_=>Option (Option (Nat×AV))) (qv e.1 k) none (some (some (i,e.2)))|some false=>ih (Nat.succ i)|none=>none) l
def vK (h:Heap) (m:AV):Option (List (AV×AV)):=
 match m with
 | .qo=>some []| .map id=>(match h.t.get id with|some (.mp l)=>some l|_=>none)
 |_=>none
def pX (ok:Bool) (v:AV) (b:Bool):AV:=Bool.casesOn (motive:=λ_=>AV) ok v (.aO (.cons v (.cons (.bool b) .nil)))
def fW (t:TypeId) (m k:Operand) (ok:Bool) (P:Program) (r:Tr AV) (h:Heap):Option AV:=
 match P.underlying t with
 |some (.map kt et)=>
  Bool.casesOn (motive:=λ_=>Option AV) (su P 40 kt (ev k r)) none
   (Option.casesOn (motive:=λ_=>Option AV) (vK h (ev m r)) none λl=>
    match dW P kt (ev k r) l 0 with
    |some (some q)=>some (pX ok q.2 true)|some none=>(lA P et).map λz=>pX ok (eY z) false
    |none=>none)
 |_=>none
def Lo (x:AV×AV) (l:List (AV×AV)) (f:Option (Nat×AV)):List (AV×AV):=Option.casesOn (motive:=λ_=>List (AV×AV)) f (l++[x]) (λq=>l.set q.1 x)
def fq (t:TypeId) (m k v:Operand) (P:Program) (r:Tr AV) (h:Heap):OR:=
 match P.underlying t with
 |some (.map kt _)=>
  Bool.casesOn (motive:=λ_=>OR) (su P 40 kt (ev k r)) .fail
   (match ev m r with
    | .map id=>(match h.t.get id with
     |some (.mp l)=>Option.casesOn (motive:=λ_=>OR) (dW P kt (ev k r) l 0) .fail λf=> .val (.aO .nil) ⟨h.t.set (.mp (Lo (ev k r,ev v r) l f)) id,h.n⟩
     |_=> .fail)
    |_=> .fail)
 |_=> .fail
def CN (P:Program) (et:TypeId) (id:Pos) (k:AV) (l:List (AV×AV)) (h:Heap) (f:Option (Nat×AV)):OR:=
 match f with
 |some q=> .val (.aO (.cons q.2 (.cons (.int .i64 (.ofNat q.1)) .nil))) ⟨h.t.set (.mp (l.set q.1 (k,q.2))) id,h.n⟩|none=>(match lA P et with
  |some z=> .val (.aO (.cons (eY z) (.cons (.int .i64 (.ofNat l.length)) .nil))) ⟨h.t.set (.mp (l++[(k,eY z)])) id,h.n⟩|none=> .fail)
def rK (t:TypeId) (m k:Operand) (P:Program) (r:Tr AV) (h:Heap):OR:=
 match P.underlying t with
 |some (.map kt et)=>
  Bool.casesOn (motive:=λ_=>OR) (su P 40 kt (ev k r)) .fail
   (match ev m r with
    | .map id=>(match h.t.get id with
     |some (.mp l)=>Option.casesOn (motive:=λ_=>OR) (dW P kt (ev k r) l 0) .fail λf=>CN P et id (ev k r) l h f
     |_=> .fail)
    |_=> .fail)
 |_=> .fail
def nk (m s x:Operand) (P:Program) (r:Tr AV) (h:Heap):OR:=
 match ev m r,ev s r with
 | .map id,.int _ (.ofNat i)=>(match h.t.get id with
  |some (.mp l)=>(match l[i]? with
   |some e=> .val (.aO .nil) ⟨h.t.set (.mp (l.set i (e.1,ev x r))) id,h.n⟩|none=> .fail)
  |_=> .fail)
 |_,_=> .fail
def uE (t:TypeId) (n:Option Operand) (P:Program) (r:Tr AV) (h:Heap):OR:=
 match n with
 |none=> .val (.map h.n) ⟨h.t.set (.mp []) h.n,h.n.succ⟩|some x=>(match P.underlying t,ev x r with
  |some (.map _ _),.int _ _=> .val (.map h.n) ⟨h.t.set (.mp []) h.n,h.n.succ⟩|_,_=> .fail)
def CO (t:TypeId) (x:Operand) (P:Program) (r:Tr AV) (h:Heap):OR:=
 match P.underlying t,ev x r with
 |some .string,.str s=> .val (.ptr h.n 0) ⟨h.t.set (.si s 0) h.n,h.n.succ⟩|some (.map _ _),.map id=>(match h.t.get id with|some (.mp l)=> .val (.ptr h.n 0) ⟨h.t.set (.mi id l.length []) h.n,h.n.succ⟩|_=> .fail)
 |_,_=> .fail
def aaX (id:Pos) (s:List Nat) (pos:Nat) (h:Heap):OR:=
 match s[pos]? with
 |none=> .val (.aO (.cons (.bool false) .nil)) h|some b=>Bool.casesOn (motive:=λ_=>OR) (bQ b 128) .fail (.val (.aO (.cons (.bool true) (.cons (.int .i64 (.ofNat pos)) (.cons (.int .i32 (.ofNat b)) .nil)))) ⟨h.t.set (.si s (Nat.succ pos)) id,h.n⟩)
def Lp (x:Operand) (isString:Bool) (P:Program) (r:Tr AV) (h:Heap):OR:=
 match isString,ev x r with
 |true,.ptr id 0=>(match h.t.get id with|some (.si s pos)=>aaX id s pos h|_=> .fail)
 |_,_=> .fail
def pg (x:Operand) (P:Program) (r:Tr AV) (h:Heap):Option AV:=
 match ev x r with
 | .ptr id 0=>(match h.t.get id with
  |some (.mi m n (j::_))=>(match h.t.get m with
   |some (.mp l)=>Bool.casesOn (motive:=λ_=>Option AV) (Nat.beq l.length n) none (match l[j]? with|some e=>some (.aO (.cons e.1 (.cons e.2 .nil)))|none=>none)|_=>none)
  |_=>none)
 |_=>none
def Lq (f args:AV) (h:Heap):OR:=
 match f with
 | .func (.func g) a b=> .enter g (app a (app args b)) h| .yield id=> .round id args h|_=> .fail
def uF (b:Builtin) (ts:List TypeId) (aZs:List Operand):OC:=
 match b with
 | .append=> .lB λP r h=>kK ts (qq aZs r) P h
 | .len=> .pure λP r=>acn ts (qq aZs r) P
 | .cap=> .pure λP r=>aco ts (qq aZs r) P
 | .copy=> .lB λP r h=>Rf ts (qq aZs r) P h
 | .clear=> .lB λP r h=>pe ts (qq aZs r) P h
 | .min=> .pure λ_ r=>OA dj (qq aZs r)
 | .max=> .pure λ_ r=>OA (λb a=>dj a b) (qq aZs r)
 |_=> .bad
def Lr (c:Call):OC:=
 match c.callee with
 | .value f=> .lB λ_ r h=>Lq (ev f r) (qq c.args.toList r) h
 | .invoke _ _=> .bad| .builtin b=>uF b c.argTypes.toList c.args.toList
def cls (o:Op):OC:=
 match o with
 | .move x| .assign x=> .pure (Lm x)| .pick c a b=> .pure (yp c a b)| .alloc t=> .alloc (Ij t)| .box t x=> .alloc (acj t x)| .build t ps=> .pure (CI t ps)| .buildSlice t n ps=> .alloc (nj t n ps)| .load t a=> .load (sE t a)| .store t a x=> .lB (tj t a x)| .nilCheck x=> .pure (rI x)| .binOp op t x y u=> .pure (Re op t x y u)| .unOp op t x=> .pure (xUn op t x)| .convert a b x=> .load (gh a b x)| .makeInterface t x=> .pure (jC t x)| .makeFunc f a c=> .pure (rJ f a c)| .makeSlice t l c=> .alloc (jh t l c)| .slice t x lo hi mx=> .load (fk t x lo hi mx)| .fieldAddr t x f=> .pure (pd t x f)| .field t x f=> .pure (CJ t x f)| .sliceToArrayPointer t x=> .pure (uC t x)| .indexAddr t x i=> .pure (fS t x i)| .index t x i=> .pure (tm t x i)| .extract x i=> .pure (uB x i)| .call c=>Lr c| .lookup t m k ok=> .load (fW t m k ok)| .mapUpdate t m k v=> .lB (fq t m k v)| .insert t m k v=> .lB (fq t m k v)| .mapEntry t m k=> .lB (rK t m k)| .entryStore _ m s x=> .lB (nk m s x)| .makeMap t n=> .lB (uE t n)| .range t x=> .lB (CO t x)| .next x b=> .lB (Lp x b)| .entry x=> .load (pg x)|_=> .bad
def qm (o:Op) (P:Program) (r:Tr AV) (h:Heap):OR:=
 OC.casesOn (motive:=λ_=>Program ->Tr AV ->Heap ->OR) (cls o) (λ_ _ _=> .fail)
  (λf P r h=>Option.casesOn (motive:=λ_=>Heap ->OR) (f P r) (λ_=> .fail) (λv h=> .val v h) h)
  (λf P r h=>Option.casesOn (motive:=λ_=>Heap ->OR) (f P r h) (λ_=> .fail) (λv h=> .val v h) h)
  (λf P r h=>Option.casesOn (motive:=λ_=>Heap ->OR) (f P r) (λ_=> .fail) (λa h=>iQ a.l a.n h a.k) h)
  (λf=>f) P r h
inductive dY where
 |fn (f:FuncId)
 |rd (id:Pos)
structure Cx where
 P:Program
 fn:FuncId
 nt:Nat
 rd:Option Pos
 call:dY ->AV ->Heap ->CR
 fuel:Nat
def ph (d:Option Tmp) (nt:Nat) (v:AV) (r:Tr AV):Option (Tr AV):=
 Option.casesOn (motive:=λ_=>Option (Tr AV)) d (some r) (λd=>Bool.casesOn (motive:=λ_=>Option (Tr AV)) (bQ d nt) none (some (r.set v (pathOf d))))
def crK (c:CR) (d:Option Tmp) (nt:Nat) (r:Tr AV) (m:List Pos):(Tr AV ->List Pos ->Heap ->R) ->R:=
 CR.casesOn (motive:=λ_=>Option Tmp ->Nat ->Tr AV ->List Pos ->(Tr AV ->List Pos ->Heap ->R) ->R) c (λ_ _ _ _ _=> .fail)
  (λv h d nt r m k=>Option.casesOn (motive:=λ_=>R) (ph d nt v r) .fail (λr'=>k r' m h)) d nt r m
def Xd (o:Oper) (cx:Cx) (r:Tr AV) (m:List Pos) (h:Heap) (k:Tr AV ->List Pos ->Heap ->R):R:=
 OR.casesOn (motive:=λ_=>Oper ->Cx ->Tr AV ->List Pos ->(Tr AV ->List Pos ->Heap ->R) ->R) (qm o.op cx.P r h) (λ_ _ _ _ _=> .fail)
  (λv h o cx r m k=>Option.casesOn (motive:=λ_=>R) (ph o.dst cx.nt v r) .fail (λr'=>k r' m h))
  (λf a h o cx r m k=>crK (cx.call (.fn f) a h) o.dst cx.nt r m k)
  (λid a h o cx r m k=>crK (cx.call (.rd id) a h) o.dst cx.nt r m k) o cx r m k
inductive yq where
 |yes|no|unknown
def uG (ops:Array Oper) (j:Nat):Option Tmp:=(ops[j]?).bind (·.dst)
def yr (v:AV) (want:Bool):yq:=
 match v with
 | .bool b=>Bool.casesOn b (Bool.casesOn want .yes .no) (Bool.casesOn want .no .yes)| .aO _=> .no|_=> .unknown
def cY (ops:Array Oper) (o:Oper) (r:Tr AV):yq:=
 Option.casesOn (motive:=λ_=>yq) o.guard .yes (λg=>Option.casesOn (motive:=λ_=>yq) (uG ops g.1) .unknown (λs=>yr (gv (r.get (pathOf s))) g.2))
def tn (ops:Array Oper) (o:Oper) (cx:Cx) (r:Tr AV) (m:List Pos) (h:Heap) (k:Tr AV ->List Pos ->Heap ->R):R:=
 yq.casesOn (motive:=λ_=>R) (cY ops o r) (Xd o cx r m h k)
  (Option.casesOn (motive:=λ_=>R) (ph o.dst cx.nt (.aO .nil) r) .fail (λr'=>k r' m h)) .fail
def wP (ops:Array Oper) (l:List Oper):Cx ->Tr AV ->List Pos ->Heap ->R:=
 List.rec (motive:=λ_=>Cx ->Tr AV ->List Pos ->Heap ->R) (λ_ r m h=> .ok r m h) (λo _ ih cx r m h=>tn ops o cx r m h (λr m h=>ih cx r m h)) l
structure PI where
 i:Nat
 o:Oper
 lB:Bool
 gA:List (Nat×Oper)
def bit (t:Nat):Nat:=Nat.shiftLeft 1 t
def Ip (m t:Nat):Bool:=Nat.beq (Nat.land (Nat.shiftRight m t) 1) 1
def Xe (x:Operand):Nat:=match x with| .tmp t=>bit t|_=>0
def Bl (ops:Array Oper) (o:Oper):Nat:=
 Nat.lor (o.op.operands.toList.foldr (λx m=>Nat.lor (Xe x) m) 0) (match o.guard with|some g=>(match uG ops g.1 with|some s=>bit s|none=>0)|none=>0)
def wQ (o:Oper):Nat:=match o.dst with|some d=>bit d|none=>0
def uH (o:Oper):Bool:=match cls o.op with| .lB _=>true| .bad=>true|_=>false
def Bm (o:Oper):Bool:=match cls o.op with| .load _=>true| .alloc _=>true|_=>false
def vM (ms:Tr Nat) (es:List Edge):Nat:=
 es.foldr (λe a=>Bool.casesOn (motive:=λ_=>Nat) (Region.binds .any e) a (Nat.lor (Nat.lor (bit e.on) ((ms.get (pathOf e.on)).getD 0)) a)) 0
def Iq (l:List Oper):Nat ->Tr Nat ->Tr Nat:=
 List.rec (motive:=λ_=>Nat ->Tr Nat ->Tr Nat) (λ_ ms=>ms) (λo _ ih i ms=>ih (Nat.succ i) (ms.set (vM ms o.after.toList) (pathOf i))) l
def pre (ms:Tr Nat) (j i:Nat):Bool:=Ip ((ms.get (pathOf i)).getD 0) j
def Xf (a b:Nat):Bool:=Nat.beq (Nat.land a b) a
def wR (ms:Tr Nat) (done:Nat) (Ri:Bool):List (Nat×Oper) ->Option ((Nat×Oper)×List (Nat×Oper))
 |[]=>none|x::t=>if Xf ((ms.get (pathOf x.1)).getD 0) done &&(Ri||!uH x.2)then some (x,t)else(wR ms done Ri t).map λq=>(q.1,x::q.2)
def Rj (ms:Tr Nat) (i:Nat) (acc:List PI):List (Nat×Oper):=
 (acc.filter λp=>Bm p.o &&!pre ms p.i i).map λp=>(p.i,p.o)
def yt (ms:Tr Nat):Nat ->Nat ->List (Nat×Oper) ->List PI ->List PI
 |0,_,_,acc=>acc.reverse|n+1,done,rem,acc=>
  match (match wR ms done false rem with|some q=>some q|none=>wR ms done true rem)with
  |none=>acc.reverse|some (x,rest)=>yt ms n (Nat.lor done (bit x.1)) rest (⟨x.1,x.2,uH x.2,if uH x.2 then Rj ms x.1 acc else []⟩::acc)
def fc (ops:Array Oper) (ms:Tr Nat) (x y:PI):Bool:=
 !Nat.beq x.i y.i &&!pre ms y.i x.i &&Nat.beq (Nat.land (wQ x.o) (wQ y.o)) 0 &&
 (pre ms x.i y.i||(Nat.beq (Nat.land (wQ x.o) (Bl ops y.o)) 0 &&Nat.beq (Nat.land (Bl ops x.o) (wQ y.o)) 0 &&!x.lB &&(!y.lB||!Bm x.o||y.gA.any (λp=>Nat.beq p.1 x.i))))
def Ir (ops:Array Oper) (ms:Tr Nat) (acc:List PI) (p:Nat×Oper):Bool:=
 acc.all λx=>Nat.beq (Nat.land (wQ x.o) (Bl ops p.2)) 0||pre ms x.i p.1
def OB (ops:Array Oper) (ms:Tr Nat):List PI ->List PI ->Bool
 |_,[]=>true|acc,y::t=>acc.all (fc ops ms · y) &&y.gA.all (Ir ops ms acc) &&!pre ms y.i y.i &&OB ops ms (y::acc) t
def afb (ops:Array Oper) (pl:List PI):Bool:=
 (List.range ops.size).all λi=>pl.any λx=>Nat.beq x.i i
def Rk (ops:Array Oper) (ms:Tr Nat):Bool:=
 (List.range ops.size).all λi=>match ops[i]? with
  |some o=>o.after.toList.all λe=>!Region.binds .any e||(pre ms e.on i &&bQ e.on ops.size)
  |none=>true
def tp (ops:Array Oper):Option (List PI):=
 let l:=ops.toList.zipIdx.map λx=>(x.2,x.1)
 let ms:=Iq ops.toList 0 .leaf;let pl:=yt ms ops.size 0 l []
 if OB ops ms [] pl &&afb ops pl &&Rk ops ms then some pl else none
def sameAt (h h':Heap) (id:Pos):Bool:=
 match h.t.get id,h'.t.get id with
 |some (.cells t n ro),some (.cells t' n' Xg)=>decide (t=t'/\n=n'/\ro=Xg)|some (.gl l ro),some (.gl l' Xg)=>decide (l=l'/\ro=Xg)|_,_=>false
def qw (ops:Array Oper) (P:Program) (o:Oper) (r:Tr AV) (h h':Heap):Bool:=
 match cY ops o r with
 | .no=>true| .unknown=>false| .yes=>
  match cls o.op with
  | .load f=>(match f P r h,f P r h' with|some a,some b=>decide (a=b)|_,_=>false)
  | .alloc _=>(match o.dst with
   |some d=>(match gv (r.get (pathOf d))with
    | .ptr id _=>sameAt h h' id| .gs id _ _=>sameAt h h' id|_=>false)
   |none=>false)
  |_=>true
def recheck (ops:Array Oper) (P:Program) (l:List (Nat×Oper)) (r:Tr AV) (h h':Heap):Bool:=l.all λp=>qw ops P p.2 r h h'
def lk (ops:Array Oper) (l:List PI):Cx ->Tr AV ->List Pos ->Heap ->R:=
 List.rec (motive:=λ_=>Cx ->Tr AV ->List Pos ->Heap ->R) (λ_ r m h=> .ok r m h)
  (λy _ ih cx r m h=>tn ops y.o cx r m h (λr' m h'=>Bool.casesOn (motive:=λ_=>R) (recheck ops cx.P y.gA r h h') .fail (ih cx r' m h'))) l
def xK (ops:Array Oper) (draw:Bool) (cx:Cx) (r:Tr AV) (m:List Pos) (h:Heap):R:=
 Bool.casesOn (motive:=λ_=>R) draw (wP ops ops.toList cx r m h)
  (Option.casesOn (motive:=λ_=>R) (tp ops) .fail (λpl=>lk ops pl cx r m h))
abbrev Is:=Cx ->Tr AV ->List Pos ->Heap ->R
def acq (ra rb:Is) (cx:Cx) (r:Tr AV) (m:List Pos) (h:Heap):R:=
 R.casesOn (motive:=λ_=>Is ->Cx ->R) (ra cx r m h) (λ_ _=> .fail) (λr m h rb cx=>rb cx r m h) (λi r m h _ _=> .exit i r m h) (λr m h _ _=> .ret r m h) rb cx
def Rl (c:Operand) (ra rb:Is) (cx:Cx) (r:Tr AV) (m:List Pos) (h:Heap):R:=
 match ev c r with
 | .bool b=>Bool.casesOn (motive:=λ_=>R) b (rb cx r m h) (ra cx r m h)|_=> .fail
def Iu (id:Nat) (ra:Is) (cx:Cx) (r:Tr AV) (m:List Pos) (h:Heap):R:=
 R.casesOn (motive:=λ_=>Nat ->R) (ra cx r m h) (λ_=> .fail) (λr m h _=> .ok r m h)
  (λi r m h id=>Bool.casesOn (motive:=λ_=>R) (Nat.beq i id) (.exit i r m h) (.ok r m h)) (λr m h _=> .ret r m h) id
def iter (body:Is) (n:Nat):Cx ->Tr AV ->List Pos ->Heap ->R:=
 Nat.rec (motive:=λ_=>Cx ->Tr AV ->List Pos ->Heap ->R) (λ_ _ _ _=> .fail)
  (λ_ ih cx r m h=>R.casesOn (motive:=λ_=>(Cx ->Tr AV ->List Pos ->Heap ->R) ->Cx ->R) (body cx r m h) (λ_ _=> .fail) (λr m h ih cx=>ih cx r m h)
   (λi r m h _ _=> .exit i r m h) (λr m h _ _=> .ret r m h) ih cx) n
def aaY (ra:Is) (cx:Cx) (r:Tr AV) (m:List Pos) (h:Heap):R:=iter ra cx.fuel cx r m h
def Rm (h:Heap) (id:Pos):Option Pos:=
 match h.t.get id with
 |some (.loop _ _ _ _ _ _ _ _ d)=>some d|_=>none
def tu (cx:Cx) (ps:Array Tmp) (assign body:Code) (r:Tr AV) (m:List Pos) (h:Heap) (k:Pos ->List Pos ->Heap ->R):R:=
 Option.casesOn (motive:=λ_=>R) cx.rd
  (k h.n.succ (h.n::m) ⟨(h.t.set .marks h.n).set (.loop true none cx.fn r cx.nt ps assign body h.n) h.n.succ,h.n.succ.succ⟩)
  (λl=>Option.casesOn (motive:=λ_=>R) (Rm h l) .fail (λd=>k h.n m ⟨h.t.set (.loop true none cx.fn r cx.nt ps assign body d) h.n,h.n.succ⟩))
def qx (id:Pos) (r:Tr AV) (m:List Pos) (h:Heap):R:=
 match h.t.get id with
 |some (.loop ready gA _ _ _ _ _ _ _)=>
  Bool.casesOn (motive:=λ_=>R) (Bool.casesOn (motive:=λ_=>Bool) ready (Option.casesOn (motive:=λ_=>Bool) gA false (λ_=>true)) true) .fail
   (match gA with
    |none=> .ok r m (kill id h)|some none=> .ret r m (kill id h)|some (some i)=> .exit i r m (kill id h))
 |_=> .fail
def ml (f:Operand) (ps:Array Tmp) (assign body:Code) (cx:Cx) (r:Tr AV) (m:List Pos) (h:Heap):R:=
 tu cx ps assign body r m h (λid m h=>
  match ev f r with
  | .func (.func g) a b=>
   CR.casesOn (motive:=λ_=>Pos ->Tr AV ->List Pos ->R) (cx.call (.fn g) (app a (.cons (.yield id) b)) h) (λ_ _ _=> .fail) (λ_ h id r m=>qx id r m h) id r m
  |_=> .fail)
def sI (c:Code):Is:=
 Code.rec (motive:=λ_=>Is)
  (λ_ r m h=> .ok r m h)
  (λ_ ops draw cx r m h=>xK ops draw cx r m h)
  (λ_ _ ra rb=>acq ra rb)
  (λc _ _ ra rb=>Rl c ra rb)
  (λid _ ra=>Iu id ra)
  (λ_ ra=>aaY ra)
  (λf ps a b _ _=>ml f ps a b)
  (λid _ r m h=> .exit id r m h)
  (λ_ ra=>ra)
  (λ_ _ r m h=> .ok r m h)
  (λ_ _ _ _ _=> .fail)
  (λ_ r m h=> .ret r m h)
  (λ_ _ _ _ _=> .fail) c
def gH (aZs:AV):Nat ->Nat ->Tr AV ->Option (Tr AV):=
 AV.fold (λ_ _ _=>none) (λ_ _ r=>some r) (λa _ ih i nt r=>Bool.casesOn (motive:=λ_=>Option (Tr AV)) (bQ i nt) none (ih (Nat.succ i) nt (r.set a (pathOf i)))) aZs
def gu (m:List Pos):Heap ->Option Heap:=
 List.rec (motive:=λ_=>Heap ->Option Heap) (λh=>some h) (λid _ ih h=>match h.t.get id with|some .marks=>ih (kill id h)|_=>none) m
def Rn (P:Program) (x:ResultVar) (r:Tr AV) (h:Heap):Option AV:=
 match x with
 | .tmp t=>some (gv (r.get (pathOf t)))| .cell a t=>wO P t (gv (r.get (pathOf a))) h
def qh (P:Program) (l:List ResultVar) (r:Tr AV) (h:Heap):Option AV:=
 List.rec (motive:=λ_=>Option AV) (some .nil) (λx _ ih=>Option.casesOn (motive:=λ_=>Option AV) (Rn P x r h) none (λv=>Option.casesOn (motive:=λ_=>Option AV) ih none (λl=>some (.cons v l)))) l
def yu (l:AV):AV:=match l with| .cons v .nil=>v|l=> .aO l
def CP (P:Program) (fn:Func) (r:Tr AV) (m:List Pos) (h:Heap):CR:=
 Option.casesOn (motive:=λ_=>CR) (gu m h) .fail (λh=>Option.casesOn (motive:=λ_=>CR) (qh P fn.results.toList r h) .fail (λl=> .ret (yu l) h))
def aiq (x:R) (P:Program) (fn:Func):CR:=
 R.casesOn (motive:=λ_=>Program ->Func ->CR) x (λ_ _=> .fail) (λr m h P fn=>CP P fn r m h) (λ_ _ _ _ _ _=> .fail) (λr m h P fn=>CP P fn r m h) P fn
def xL (P:Program) (f:FuncId) (aZs:AV) (h:Heap) (call:dY ->AV ->Heap ->CR) (fuel:Nat):CR:=
 Option.casesOn (motive:=λ_=>CR) (P.funcs[f]?) .fail (λfn=>
  Option.casesOn (motive:=λ_=>CR) fn.body .fail (λc=>
   Option.casesOn (motive:=λ_=>CR) (gH aZs 0 fn.ntmps .leaf) .fail (λr=>
    aiq (sI c ⟨P,f,fn.ntmps,none,call,fuel⟩ r [] h) P fn)))
def mn (ps:List Tmp):AV ->Nat ->Tr AV ->Option (Tr AV):=
 List.rec (motive:=λ_=>AV ->Nat ->Tr AV ->Option (Tr AV)) (λaZs _ r=>match aZs with| .nil=>some r|_=>none)
  (λp _ ih aZs nt r=>match aZs with
   | .cons a t=>Bool.casesOn (motive:=λ_=>Option (Tr AV)) (bQ p nt) none (ih t nt (r.set a (pathOf p)))|_=>none) ps
def jo (id:Pos) (jump:Option (Option Nat)) (h:Heap):CR:=
 match h.t.get id with
 |some (.loop _ _ fn r nt ps a b d)=> .ret (.bool (Option.casesOn (motive:=λ_=>Bool) jump true (λ_=>false)))
  ⟨h.t.set (.loop (Option.casesOn (motive:=λ_=>Bool) jump true (λ_=>false)) jump fn r nt ps a b d) id,h.n⟩
 |_=> .fail
def qy (id:Pos) (h:Heap) (k:Heap ->R):R:=
 match h.t.get id with
 |some (.loop ready gA fn r nt ps a b d)=>Bool.casesOn (motive:=λ_=>R) ready .fail (Option.casesOn (motive:=λ_=>R) gA (k ⟨h.t.set (.loop false none fn r nt ps a b d) id,h.n⟩) (λ_=> .fail))|_=> .fail
def Bn (x:R) (id:Pos):CR:=
 R.casesOn (motive:=λ_=>Pos ->CR) x (λ_=> .fail)
  (λ_ m h id=>List.casesOn (motive:=λ_=>CR) m (jo id none h) (λ_ _=> .fail))
  (λi _ m h id=>List.casesOn (motive:=λ_=>CR) m (jo id (some (some i)) h) (λ_ _=> .fail))
  (λ_ m h id=>List.casesOn (motive:=λ_=>CR) m (jo id (some none) h) (λ_ _=> .fail)) id
def CQ (P:Program) (id:Pos) (aZs:AV) (h:Heap) (call:dY ->AV ->Heap ->CR) (fuel:Nat):CR:=
 match h.t.get id with
 |some (.loop ready _ fn im nt ps assign body _)=>
  Bool.casesOn (motive:=λ_=>CR) ready .fail
   (Option.casesOn (motive:=λ_=>CR) (mn ps.toList aZs nt im) .fail (λr=>
    Bn (R.casesOn (motive:=λ_=>Pos ->Cx ->Code ->R) (sI assign ⟨P,fn,nt,some id,call,fuel⟩ r [] h) (λ_ _ _=> .fail)
     (λr m h id cx body=>qy id h (λh=>sI body cx r m h)) (λ_ _ _ _ _ _ _=> .fail) (λ_ _ _ _ _ _=> .fail) id ⟨P,fn,nt,some id,call,fuel⟩ body) id))
 |_=> .fail
end
end Go.Sy
namespace Go.Sy
noncomputable section
def vN (l:List (AV×Nat)):Nat ->Tr AO ->Tr AO:=
 List.rec (motive:=λ_=>Nat ->Tr AO ->Tr AO) (λ_ t=>t)
  (λx _ ih i t=>ih (Nat.succ i) (Option.casesOn (motive:=λ_=>Tr AO) (lay x.2 x.1 0 .leaf) t (λc=>t.set (.cells c x.2 true) (pathOf i)))) l
def lX (l:List (AV×Nat)) (g:Nat):Heap:=⟨vN l 0 .leaf,pathOf g⟩
def tx (k:IntKind) (l:List Int):AV:=ofL (l.map (AV.int k))
end
end Go.Sy
namespace Go.Sy
noncomputable section
open Go.RowKit Go.Proofs Go.Proofs.Tryz
section
structure nS where
 b:Nat
 base:Nat
 n:Nat
structure Mu where
 m:Pos ->Option nS
 s:Nat ->Option (Array Value)
instance:CoeFun Mu (λ_=>Pos ->Option nS):=⟨Mu.m⟩
def Mu.put (μ:Mu) (id:Pos) (B:nS):Mu:=⟨λq=>if q=id then some B else μ.m q,μ.s⟩
theorem Mu.cz (μ:Mu) (id:Pos) (B:nS):(μ.put id B) id=some B:=if_pos rfl
theorem Mu.bq (μ:Mu) (id:Pos) (B:nS) {q:Pos} (h:q≠id):(μ.put id B) q=μ q:=if_neg h
def Mu.pure (μ:Mu):Mu:=⟨λ_=>none,μ.s⟩
def jD (s:Nat ->Option (Array Value)) (b o:Nat) (xs:List Value):Prop:=xs=[]\/∃arr,s b=some arr/\∀j v,xs[j]?=some v ->arr[o+j]?=some v
def Xh (lo hi n:Int):Prop:=(lo<=hi ->lo<=n/\n<=hi)/\(hi<lo ->0<=n/\n<=255/\n % lo=hi+lo)
theorem Xh.of {lo hi n:Int} (h:lo<=n/\n<=hi):Xh lo hi n:=⟨λ_=>h,λe=>by omega⟩
def VR:Mu ->AV ->Bool ->List Value ->Prop
 |_,.nil,true,vs=>vs=[]
 |μ,.cons h t,true,vs=>∃v r,vs=v::r/\VR μ h false [v]/\VR μ t true r|_,_,true,_=>False|_,.nil,false,_=>False|_,.cons _ _,false,_=>False|_,.undef,false,vs=>∃v,vs=[v]
 |_,.bool b,false,vs=>vs=[.bool b]
 |_,.int k n,false,vs=>vs=[.int k n]
 |_,.xu k lo hi,false,vs=>∃n,vs=[.int k n]/\Xh lo hi n|_,.str s,false,vs=>∃bs,vs=[.string bs]/\bs.data.toList.map UInt8.toNat=s|_,.qn m,false,vs=>∃bs,vs=[.string bs]/\bs.size<=m|μ,.ptr id off,false,vs=>∃B,μ id=some B/\vs=[.pointer (some ⟨B.b,B.base+off,none⟩)]
 |μ,.cR l k,false,vs=>∃b o xs,vs=[.pointer (some ⟨b,o+k,none⟩)]/\VR μ.pure l true xs/\jD μ.s b o xs|_,.eZ,false,vs=>vs=[.pointer none]
 |μ,.slice id off len cap sz,false,vs=>∃B c,μ id=some B/\vs=[.slice (some ⟨B.b,B.base+off,none⟩) len c]/\cap<=c/\len<=cap/\off+c*sz<=B.n|μ,.ro n l,false,vs=>∃xs,VR μ.pure l true xs/\((∃b o c,vs=[.slice (some ⟨b,o,none⟩) n c]/\n<=c/\jD μ.s b o xs)\/(n=0/\xs=[]/\∃q,vs=[.slice q 0 0]))
 |μ,.gs id n sz,false,vs=>∃B,μ id=some B/\((∃c,vs=[.slice (some ⟨B.b,B.base,none⟩) n c]/\n<=c/\c*sz<=B.n)\/(n=0/\vs=[.slice none 0 0]))
 |_,.sle _ _,false,vs=>∃a c,vs=[.slice (some a) 0 c]
 |_,.bA,false,vs=>vs=[.slice none 0 0]
 |μ,.map id,false,vs=>∃B,μ id=some B/\vs=[.map (some B.b)]
 |_,.qo,false,vs=>vs=[.map none]
 |μ,.func fn f c,false,vs=>∃F C,vs=[.func fn F C]/\CL fn=false/\VR μ f true F.toList/\VR μ c true C.toList|μ,.yield id,false,vs=>∃B,μ id=some B/\vs=[.func (.yield B.b) #[] #[]]
 |_,.kO,false,vs=>vs=[.nilFunc]
 |μ,.iface t a,false,vs=>∃v,vs=[.iface t v]/\VR μ a false [v]|_,.lK,false,vs=>vs=[.nilIface]
 |μ,.agg l,false,vs=>∃c,vs=[.agg c]/\VR μ l true c.toList|μ,.aO l,false,vs=>∃c,vs=[.tuple c]/\VR μ l true c.toList
abbrev dw (μ:Mu) (a:AV) (v:Value):Prop:=VR μ a false [v]
abbrev cG (μ:Mu) (a:AV) (vs:List Value):Prop:=VR μ a true vs
structure Mu.le (μ μ':Mu):Prop where
 m:∀id B,μ id=some B ->μ' id=some B
 s:∀b c,μ.s b=some c ->μ'.s b=some c
theorem Mu.le_refl (μ:Mu):μ.le μ:=⟨λ_ _ h=>h,λ_ _ h=>h⟩
theorem Mu.le_trans {a b c:Mu} (h:a.le b) (k:b.le c):a.le c:=⟨λid B e=>k.m id B (h.m id B e),λx y e=>k.s x y (h.s x y e)⟩
theorem Mu.le.pure {μ μ':Mu} (h:μ.le μ'):μ.pure.le μ'.pure:=⟨(λ_ _ e=>by cases e),h.s⟩
theorem jD.mono {s s':Nat ->Option (Array Value)} (h:∀b c,s b=some c ->s' b=some c) {b o:Nat} {xs:List Value} (hx:jD s b o xs):jD s' b o xs:=by
 rcases hx with e|⟨arr,h1,h2⟩
 .exact .inl e
 .exact .inr ⟨arr,h _ _ h1,h2⟩
theorem VR.mono {a:AV}:∀{μ μ':Mu} (h:μ.le μ') {l:Bool} {vs:List Value},VR μ a l vs ->VR μ' a l vs:=by
 induction a with
 |cons x t Iv pb=>
  intro μ μ' h l vs hv;cases l with
  |false=>exact hv|true=>obtain⟨v,r,e,h1,h2⟩:=hv;exact⟨v,r,e,Iv h h1,pb h h2⟩
 |func fn f c ihf ihc=>
  intro μ μ' h l vs hv;cases l with
  |true=>exact hv|false=>obtain⟨F,C,e,h0,h1,h2⟩:=hv;exact⟨F,C,e,h0,ihf h h1,ihc h h2⟩
 |iface t x ih=>
  intro μ μ' h l vs hv;cases l with
  |true=>exact hv|false=>obtain⟨v,e,h1⟩:=hv;exact⟨v,e,ih h h1⟩
 |agg x ih=>
  intro μ μ' h l vs hv;cases l with
  |true=>exact hv|false=>obtain⟨c,e,h1⟩:=hv;exact⟨c,e,ih h h1⟩
 |aO x ih=>
  intro μ μ' h l vs hv;cases l with
  |true=>exact hv|false=>obtain⟨c,e,h1⟩:=hv;exact⟨c,e,ih h h1⟩
 |ptr id off=>
  intro μ μ' h l vs hv;cases l with
  |true=>exact hv|false=>obtain⟨B,e,h1⟩:=hv;exact⟨B,h.m _ _ e,h1⟩
 |cR x k ih=>
  intro μ μ' h l vs hv;cases l with
  |true=>exact hv|false=>obtain⟨b,o,xs,e,h1,h2⟩:=hv;exact⟨b,o,xs,e,ih h.pure h1,h2.mono h.s⟩
 |ro n x ih=>
  intro μ μ' h l vs hv;cases l with
  |true=>exact hv|false=>
   obtain⟨xs,h1,h2⟩:=hv;refine⟨xs,ih h.pure h1,?_⟩;rcases h2 with ⟨b,o,c,e,hn,h3⟩|h2
   .exact .inl ⟨b,o,c,e,hn,h3.mono h.s⟩
   .exact .inr h2
 |gs id n sz=>
  intro μ μ' h l vs hv;cases l with
  |true=>exact hv|false=>obtain⟨B,e,h1⟩:=hv;exact⟨B,h.m _ _ e,h1⟩
 |slice id off len cap sz=>
  intro μ μ' h l vs hv;cases l with
  |true=>exact hv|false=>obtain⟨B,c,e,h1⟩:=hv;exact⟨B,c,h.m _ _ e,h1⟩
 |sle id sz=>
  intro μ μ' h l vs hv;cases l with
  |true=>exact hv|false=>exact hv
 |map id=>
  intro μ μ' h l vs hv;cases l with
  |true=>exact hv|false=>obtain⟨B,e,h1⟩:=hv;exact⟨B,h.m _ _ e,h1⟩
 |yield id=>
  intro μ μ' h l vs hv;cases l with
  |true=>exact hv|false=>obtain⟨B,e,h1⟩:=hv;exact⟨B,h.m _ _ e,h1⟩
 |_=>intro μ μ' h l vs hv;cases l<;>exact hv
theorem Ls (μ:Mu):∀(l:List AV) (vs:List Value),l.length=vs.length ->(∀(i:Nat) (a:AV) (v:Value),l[i]?=some a ->vs[i]?=some v ->dw μ a v) ->cG μ (ofL l) vs
 |[],[],_,_=>rfl|a::l,v::vs,hl,h=>⟨v,vs,rfl,h 0 a v rfl rfl,Ls μ l vs (by simpa using hl) (λi a v h1 h2=>h (i+1) a v (by simpa using h1) (by simpa using h2))⟩
 |[],_::_,hl,_=>absurd hl (by simp)|_::_,[],hl,_=>absurd hl (by simp)
theorem uI (μ:Mu) (v:Value):dw μ (CG v) v:=by
 unfold CG;split
 .rfl
 .rfl
 .exact⟨_,rfl,rfl⟩
 .rfl
 .rename_i l c;unfold QY;cases hl:Nat.beq l 0 with
  |false=>exact⟨_,rfl⟩|true=>
   cases hc:Nat.beq c 0 with
   |false=>exact⟨_,rfl⟩|true=>
    have h1:=Nat.eq_of_beq_eq_true hl;have h2:=Nat.eq_of_beq_eq_true hc;subst h1;subst h2;rfl
 .rfl
 .rename_i fn f c;unfold aaW;cases hf:f.toList with
  |cons _ _=>exact⟨_,rfl⟩|nil=>
   cases hc:c.toList with
   |cons _ _=>exact⟨_,rfl⟩|nil=>cases fn with
    |func g=>exact⟨f,c,rfl,rfl,hf,hc⟩|_=>exact⟨_,rfl⟩
 .rfl
 .rfl
 .exact⟨_,rfl⟩
theorem iR (μ:Mu) (v:Value):dw μ (eY v) v:=by
 unfold eY;split
 .rename_i cs;refine⟨cs,rfl,Ls μ _ _ (by simp) ?_⟩;intro i a v h1 h2;simp only [List.getElem?_map,h2,Option.map_some,Option.some.injEq]at h1;exact h1 ▸ uI μ v
 .rename_i vs;cases h:vs.toList with
  |nil=>exact⟨vs,rfl,h⟩|cons _ _=>exact⟨_,rfl⟩
 .exact uI μ v
def RR (μ:Mu) (r:Tr AV) (tmps:Array Value):Prop:=∀k v,r.get (pathOf k)=some v ->∃cv,tmps[k]?=some cv/\dw μ v cv
theorem RR.mono {μ μ':Mu} (h:μ.le μ') {r:Tr AV} {t:Array Value} (hr:RR μ r t):RR μ' r t:=
 λq v e=>let ⟨cv,h1,h2⟩:=hr q v e;⟨cv,h1,h2.mono h⟩
def yv (μ:Mu):Prop:=∀g,g<64 ->∃n,μ (pathOf g)=some ⟨g,0,n⟩
theorem yv.mono {μ μ':Mu} (h:μ.le μ') (hg:yv μ):yv μ':=λg hl=>let ⟨n,e⟩:=hg g hl;⟨n,h.m _ _ e⟩
theorem bC {a b:Nat}:bQ a b=true↔a<b:=by
 unfold bQ;rw [Nat.ble_eq];exact Iff.rfl
theorem aT {μ:Mu} (hg:yv μ) {r:Tr AV} {a:Act} (hr:RR μ r a.tmps) (x:Operand):dw μ (ev x r) (a.eval x):=by
 cases x with
 |tmp t=>
  show dw μ (gv (r.get (pathOf t))) (a.tmps.getD t undef);cases h:r.get (pathOf t)with
  |none=>exact⟨_,rfl⟩|some v=>
   obtain⟨cv,h1,h2⟩:=hr _ _ h;have:a.tmps.getD t undef=cv:=by
    obtain⟨cJ,he⟩:=Array.getElem?_eq_some_iff.1 h1;simp [Array.getD,cJ,he]
   rw [this];exact h2
 |const v=>exact iR μ v|global g=>
  show dw μ (Bool.casesOn (bQ g 64) .undef (.ptr (pathOf g) 0)) _;cases h:bQ g 64 with
  |false=>exact⟨_,rfl⟩|true=>
   obtain⟨n,e⟩:=hg g (bC.1 h);exact⟨_,e,rfl⟩
 |func f=>exact⟨#[],#[],rfl,rfl,rfl,rfl⟩
theorem fy {μ:Mu} (hg:yv μ) {r:Tr AV} {a:Act} (hr:RR μ r a.tmps):∀(l:List Operand),cG μ (qq l r) (l.map a.eval)
 |[]=>rfl|x::l=>⟨_,_,rfl,aT hg hr x,fy hg hr l⟩
theorem cG.len {μ:Mu}:∀{l:AV} {vs:List Value},cG μ l vs ->l.len=vs.length:=by
 intro l;induction l with
 |nil=>intro vs h;cases (show vs=[]from h);rfl|cons x t Iv pb=>intro vs h;obtain⟨v,r,rfl,h1,h2⟩:=h;show Nat.succ t.len=_;rw [pb h2];rfl
 |_=>intro vs h;exact h.elim
theorem cG.app {μ:Mu} {b:AV} {ys:List Value} (hb:cG μ b ys):∀{l:AV} {vs:List Value},cG μ l vs ->cG μ (app l b) (vs++ys):=by
 intro l;induction l with
 |nil=>intro vs h;cases (show vs=[]from h);exact hb|cons x t Iv pb=>intro vs h;obtain⟨v,r,rfl,h1,h2⟩:=h;exact⟨v,r++ys,rfl,h1,pb h2⟩
 |_=>intro vs h;exact h.elim
theorem cG.take {μ:Mu}:∀(n:Nat) {l l':AV} {vs:List Value},cG μ l vs ->dQ n l=some l' ->cG μ l' (vs.take n)/\n<=vs.length
 |0,l,l',vs,h,e=>by cases (show AV.nil=l' from Option.some.inj e);exact⟨by simp [cG,VR],by simp⟩
 |n+1,l,l',vs,h,e=>by
  cases l with
  |cons a t=>
   obtain⟨v,r,rfl,h1,h2⟩:=h;change Option.casesOn (motive:=λ_=>Option AV) (dQ n t) none (λl=>some (.cons a l))=some l' at e;cases ht:dQ n t with
   |none=>rw [ht]at e;cases e|some l2=>
    rw [ht]at e;cases Option.some.inj e;have:=cG.take n h2 ht;exact⟨⟨v,r.take n,by simp,h1,this.1⟩,by simp;exact this.2⟩
  |_=>cases e
theorem cG.drop {μ:Mu}:∀(n:Nat) {l:AV} {vs:List Value},cG μ l vs ->n<=vs.length ->cG μ (cX n l) (vs.drop n)
 |0,l,vs,h,_=>h|n+1,l,vs,h,hn=>by
  cases l with
  |cons a t=>
   obtain⟨v,r,rfl,h1,h2⟩:=h;exact cG.drop n h2 (by simpa using hn)
  |nil=>cases (show vs=[]from h);simp at hn|_=>exact h.elim
theorem aaZ:∀(n:Nat),cX n .undef= .undef
 |0=>rfl|n+1=>rfl
theorem cG.drop_cons {μ:Mu}:∀(n:Nat) {l a t:AV} {vs:List Value},cG μ l vs ->cX n l= .cons a t ->∃v,vs[n]?=some v/\dw μ a v
 |0,l,a,t,vs,h,e=>by
  change l= .cons a t at e;subst e;obtain⟨v,r,rfl,h1,h2⟩:=h;exact⟨v,rfl,h1⟩
 |n+1,l,a,t,vs,h,e=>by
  cases l with
  |cons x y=>
   obtain⟨v,r,rfl,h1,h2⟩:=h;obtain⟨u,hu,hv⟩:=cG.drop_cons n h2 e;exact⟨u,by simpa using hu,hv⟩
  |_=>cases e
theorem cG.take_drop {μ:Mu} (n k:Nat) {l l':AV} {vs:List Value} (h:cG μ l vs) (e:dQ n (cX k l)=some l'):cG μ l' ((vs.drop k).take n)/\n<=(vs.drop k).length:=by
 by_cases hk:k<=vs.length
 .exact cG.take n (cG.drop k h hk) e
 .have key:∀(k:Nat) (l:AV) (vs:List Value),cG μ l vs ->vs.length<k ->cX k l= .undef:=by
   intro k;induction k with
   |zero=>intro l vs _ h;omega|succ k ih=>
    intro l vs h hk;cases l with
    |cons y u=>obtain⟨v,r,rfl,_,h2⟩:=h;exact ih u r h2 (by simpa using hk)
    |nil=>rfl|_=>exact h.elim
  rw [key k l vs h (by omega)]at e;cases n with
  |zero=>cases (show some AV.nil=some l' from e);exact⟨by simp [cG,VR],by simp⟩|succ n=>cases e
theorem cG.fQ {μ:Mu} {z:AV} {zs:List Value} (hz:cG μ z zs):∀(n:Nat),cG μ (fQ n z) ((List.replicate n zs).flatten)
 |0=>rfl|n+1=>by rw [List.replicate_succ,List.flatten_cons];exact cG.app (cG.fQ hz n) hz
theorem CS {μ:Mu}:∀{p l:AV} {vs ps:List Value},cG μ l vs ->cG μ p ps ->ps.length<=vs.length ->cG μ (gO 0 l p) (ps++vs.drop ps.length):=by
 intro p;induction p with
 |nil=>intro l vs ps hl hp hn;cases (show ps=[]from hp);exact hl|cons x t Iv pb=>
  intro l vs ps hl hp hn;obtain⟨v,r,rfl,h1,h2⟩:=hp;cases l with
  |cons a u=>
   obtain⟨w,s,rfl,h3,h4⟩:=hl;exact⟨v,r++s.drop r.length,by simp,h1,pb h4 h2 (by simp at hn ⊢;omega)⟩
  |nil=>cases (show vs=[]from hl);simp at hn|_=>exact hl.elim
 |_=>intro l vs ps hl hp hn;exact hp.elim
theorem qA {μ:Mu}:∀(off:Nat) {l p:AV} {vs ps:List Value},cG μ l vs ->cG μ p ps ->off+ps.length<=vs.length ->cG μ (gO off l p) (vs.take off++ps++vs.drop (off+ps.length))
 |0,l,p,vs,ps,hl,hp,hn=>by
  have:=CS hl hp (by omega);simpa using this
 |off+1,l,p,vs,ps,hl,hp,hn=>by
  cases l with
  |cons a u=>
   obtain⟨w,s,rfl,h3,h4⟩:=hl;have:=qA off h4 hp (by simp at hn;omega);refine⟨w,s.take off++ps++s.drop (off+ps.length),?_,h3,this⟩;rw [show off+1+ps.length=(off+ps.length)+1 by omega];simp
  |nil=>cases (show vs=[]from hl);simp at hn|_=>exact hl.elim
theorem Mu.Lt (μ:Mu):μ.pure.le μ:=⟨(λ_ _ e=>by cases e),λ_ _ e=>e⟩
theorem jD.drop {s:Nat ->Option (Array Value)} {b o:Nat} {xs:List Value} (h:jD s b o xs) (n:Nat):jD s b (o+n) (xs.drop n):=by
 rcases h with e|⟨arr,h1,h2⟩
 .exact .inl (by rw [e];simp)
 .exact .inr ⟨arr,h1,λj v hj=>by
   rw [List.getElem?_drop]at hj;have:=h2 _ _ hj;rwa [show o+(n+j)=o+n+j by omega]at this⟩
theorem jD.take {s:Nat ->Option (Array Value)} {b o:Nat} {xs:List Value} (h:jD s b o xs) (n:Nat):jD s b o (xs.take n):=by
 rcases h with e|⟨arr,h1,h2⟩
 .exact .inl (by rw [e];simp)
 .exact .inr ⟨arr,h1,λj v hj=>h2 j v (by
   rw [List.getElem?_take]at hj;split at hj
   .exact hj
   .cases hj)⟩
theorem dw.cells {μ:Mu} {a:AV} {v:Value} (h:dw μ a v) (ha:a≠.undef) (ht:∀l,a≠.aO l):cG μ a.cells v.cells.toList:=by
 cases a with
 |agg l=>obtain⟨c,e,h1⟩:=h;cases e;exact h1
 |undef=>exact absurd rfl ha|aO l=>exact absurd rfl (ht l)|nil=>exact h.elim|cons _ _=>exact h.elim|bool b=>cases (show _=[_]from h);exact⟨_,[],rfl,rfl,rfl⟩|int k n=>cases (show _=[_]from h);exact⟨_,[],rfl,rfl,rfl⟩|eZ=>cases (show _=[_]from h);exact⟨_,[],rfl,rfl,rfl⟩|bA=>cases (show _=[_]from h);exact⟨_,[],rfl,rfl,rfl⟩|qo=>cases (show _=[_]from h);exact⟨_,[],rfl,rfl,rfl⟩|kO=>cases (show _=[_]from h);exact⟨_,[],rfl,rfl,rfl⟩|lK=>cases (show _=[_]from h);exact⟨_,[],rfl,rfl,rfl⟩|xu k a b=>obtain⟨n,e,h1⟩:=h;cases e;exact⟨_,[],rfl,⟨n,rfl,h1⟩,rfl⟩
 |str s=>obtain⟨n,e,h1⟩:=h;cases e;exact⟨_,[],rfl,⟨n,rfl,h1⟩,rfl⟩
 |qn s=>obtain⟨n,e,h1⟩:=h;cases e;exact⟨_,[],rfl,⟨n,rfl,h1⟩,rfl⟩
 |ptr id off=>obtain⟨B,e,h1⟩:=h;cases h1;exact⟨_,[],rfl,⟨B,e,rfl⟩,rfl⟩
 |map id=>obtain⟨B,e,h1⟩:=h;cases h1;exact⟨_,[],rfl,⟨B,e,rfl⟩,rfl⟩
 |yield id=>obtain⟨B,e,h1⟩:=h;cases h1;exact⟨_,[],rfl,⟨B,e,rfl⟩,rfl⟩
 |slice id off len cap sz=>obtain⟨B,c,e,h1,h2⟩:=h;cases h1;exact⟨_,[],rfl,⟨B,c,e,rfl,h2⟩,rfl⟩
 |sle id sz=>obtain⟨a,c,h1⟩:=h;cases h1;exact⟨_,[],rfl,⟨a,c,rfl⟩,rfl⟩
 |cR l k=>
  have h0:=h;obtain⟨b,o,xs,e,h1⟩:=h;cases e;exact⟨_,[],rfl,h0,rfl⟩
 |ro n l=>
  have h0:=h;obtain⟨xs,h1,h2⟩:=h;rcases h2 with ⟨b,o,c,e,h3⟩|⟨e1,e2,q,e⟩
  .cases e;exact⟨_,[],rfl,h0,rfl⟩
  .cases e;exact⟨_,[],rfl,h0,rfl⟩
 |gs id n sz=>
  have h0:=h;obtain⟨B,h1,h2⟩:=h;rcases h2 with ⟨c,e,h3⟩|⟨e1,e⟩
  .cases e;exact⟨_,[],rfl,h0,rfl⟩
  .cases e;exact⟨_,[],rfl,h0,rfl⟩
 |func fn f c=>obtain⟨F,C,e,h1⟩:=h;cases e;exact⟨_,[],rfl,⟨F,C,rfl,h1⟩,rfl⟩
 |iface t x=>obtain⟨u,e,h1⟩:=h;cases e;exact⟨_,[],rfl,⟨u,rfl,h1⟩,rfl⟩
theorem yw {μ:Mu} {a:AV} {v:Value} (h:dw μ a v) (hc:a.jB=true):v.oneCell'=true:=by
 cases a with
 |agg l=>cases hc|undef=>cases hc|aO l=>cases hc|nil=>exact h.elim|cons _ _=>exact h.elim|xu k a b=>obtain⟨n,e,h1⟩:=h;cases e;rfl
 |str s=>obtain⟨n,e,h1⟩:=h;cases e;rfl
 |qn s=>obtain⟨n,e,h1⟩:=h;cases e;rfl
 |ptr id off=>obtain⟨B,e,h1⟩:=h;cases h1;rfl
 |map id=>obtain⟨B,e,h1⟩:=h;cases h1;rfl
 |yield id=>obtain⟨B,e,h1⟩:=h;cases h1;rfl
 |slice id off len cap sz=>obtain⟨B,c,e,h1,h2⟩:=h;cases h1;rfl
 |sle id sz=>obtain⟨a,c,h1⟩:=h;cases h1;rfl
 |cR l k=>obtain⟨b,o,xs,e,h1⟩:=h;cases e;rfl
 |ro n l=>obtain⟨xs,h1,⟨b,o,c,e,h3⟩|⟨e1,e2,q,e⟩⟩:=h<;>(cases e;rfl)
 |gs id n sz=>obtain⟨B,h1,⟨c,e,h3⟩|⟨e1,e⟩⟩:=h<;>(cases e;rfl)
 |func fn f c=>obtain⟨F,C,e,h1⟩:=h;cases e;rfl
 |iface t x=>obtain⟨u,e,h1⟩:=h;cases e;rfl
 |_=>cases (show _=[_]from h);rfl
theorem uJ {μ:Mu}:∀(n:Nat) {l:AV} {off:Nat} {c c':Tr AV} {vs:List Value},lay n l off c=some c' ->cG μ l vs ->
  vs.length=n/\(∀v∈vs,v.oneCell'=true)/\∀k v,c'.get (pathOf k)=some v ->(off<=k/\k<off+n/\∃cv,vs[k - off]?=some cv/\dw μ v cv)\/((k<off\/off+n<=k)/\c.get (pathOf k)=some v)
 |0,l,off,c,c',vs,h,hl=>by
  cases l with
  |nil=>
   cases (show vs=[]from hl);cases (show some c=some c' from h);exact⟨rfl,by simp,λq v hq=> .inr ⟨by omega,hq⟩⟩
  |_=>cases h
 |n+1,l,off,c,c',vs,h,hl=>by
  cases l with
  |cons a t=>
   change Bool.casesOn (motive:=λ_=>Option (Tr AV)) a.jB none (lay n t (Nat.succ off) (c.set a (pathOf off)))=some c' at h;obtain⟨v,r,rfl,h1,h2⟩:=hl;cases hc:a.jB with
   |false=>rw [hc]at h;cases h|true=>
    rw [hc]at h;obtain⟨hlen,Fs,mo⟩:=uJ n h h2;refine⟨by simp [hlen],?_,?_⟩
    .intro u hu;rcases List.mem_cons.1 hu with e|e
     .subst e;exact yw h1 hc
     .exact Fs u e
    .intro k u hq;rcases mo k u hq with ⟨ha,hb,cv,CT,hv⟩|⟨ha,hb⟩
     .refine .inl ⟨by omega,by omega,cv,?_,hv⟩;rw [show k - off=(k - Nat.succ off)+1 by omega];simpa using CT
     .rw [Tr.bO]at hb;by_cases hqo:k=off
      .subst hqo;rw [if_pos rfl]at hb;cases hb;exact .inl ⟨by omega,by omega,v,by simp,h1⟩
      .rw [if_neg (λe=>hqo (dV e))]at hb;exact .inr ⟨by omega,hb⟩
  |_=>cases h
theorem lY {μ:Mu} {c:Tr AV} {f:Nat ->Option Value} (hf:∀k v,c.get (pathOf k)=some v ->∃cv,f k=some cv/\dw μ v cv):
  ∀(n:Nat) {off:Nat} {l:AV},yn c n off=some l ->∃vs,cG μ l vs/\vs.length=n/\∀j v,vs[j]?=some v ->f (off+j)=some v
 |0,off,l,h=>by cases (show some AV.nil=some l from h);exact⟨[],rfl,rfl,by simp⟩
 |n+1,off,l,h=>by
  change Option.casesOn (motive:=λ_=>Option AV) (c.get (pathOf off)) none (λv=>Option.casesOn (motive:=λ_=>Option AV) (yn c n (Nat.succ off)) none (λl=>some (.cons v l)))=some l at h;cases hg:c.get (pathOf off)with
  |none=>rw [hg]at h;cases h|some v=>
   rw [hg]at h;cases hc:yn c n (Nat.succ off)with
   |none=>simp only [hc]at h;cases h|some l2=>
    simp only [hc]at h;cases h;obtain⟨vs,h1,h2,h3⟩:=lY hf n hc;obtain⟨cv,h4,h5⟩:=hf off v hg;refine⟨cv::vs,⟨cv,vs,rfl,h5,h1⟩,by simp [h2],?_⟩;intro j u hj;cases j with
    |zero=>simp at hj;subst hj;exact h4|succ j=>have:=h3 j u (by simpa using hj);rwa [show off+(j+1)=Nat.succ off+j by omega]
def Xi (fz:Nat×Nat) (n:Nat):Prop:=∀o,o<=n ->¬(fz.1<=o/\o<fz.2)
def air (ro:Bool) (m:Nat) (fz:Nat×Nat) (n:Nat):Prop:=(ro=false ->Xi fz n)/\(ro=true ->n=m)
def AD (s:Nat ->Option (Array Value)) (l:List (AV×Nat)):Prop:=
 ∀(i:Nat) (x:AV×Nat),l[i]?=some x ->x.1≠.undef ->∃(c:Array Value) (vs:List Value),s i=some c/\c.size=x.2/\(∀μ,cG μ x.1 vs)/\∀(k:Nat) (v:Value),vs[k]?=some v ->c[k]?=some v
theorem AD.mono {s s':Nat ->Option (Array Value)} (h:∀b c,s b=some c ->s' b=some c) {l:List (AV×Nat)} (ht:AD s l):AD s' l:=
 λi x hi hu=>let ⟨c,vs,h1,h2⟩:=ht i x hi hu;⟨c,vs,h _ _ h1,h2⟩
def tz:Option (Option Nat) ->Option Code
 |none=>none|some none=>some .ret|some (some i)=>some (.exit i)
def Xj (ready:Bool) (p:Option (Option Nat)):LoopState:=if ready then .ready else match p with|none=> .busy|some _=> .done
def MR (μ:Mu):Nat ->List (AV×AV) ->List MapEntry ->Prop
 |_,[],[]=>True|i,x::l,e::es=>dw μ x.1 e.key/\dw μ x.2 e.val/\e.born=i/\MR μ (i+1) l es|_,_,_=>False
theorem MR.mono {μ μ':Mu} (h:μ.le μ'):∀{i:Nat} {l:List (AV×AV)} {es:List MapEntry},MR μ i l es ->MR μ' i l es
 |_,[],[],_=>trivial|_,x::l,e::es,hm=>⟨hm.1.mono h,hm.2.1.mono h,hm.2.2.1,hm.2.2.2.mono h⟩
 |_,[],_::_,hm=>hm.elim|_,_::_,[],hm=>hm.elim
def AE (μ:Mu) (heap:Array Obj) (B:nS):AO ->Prop
 | .cells t n ro=>n<=B.n/\∃c el fz,heap[B.b]?=some (.cells c el fz)/\B.base+B.n<=c.size/\air ro n fz c.size/\
  ∀k v,t.get (pathOf k)=some v ->k<B.n/\∃cv,c[B.base+k]?=some cv/\dw μ v cv
 | .gl l ro=>(B.n=0/\l= .nil)\/∃xs,cG μ l xs/\xs.length<=B.n/\∃c el fz,heap[B.b]?=some (.cells c el fz)/\B.base+B.n<=c.size/\Xi fz c.size/\(ro=true ->μ.s B.b=some c)/\
  ∀k v,xs[k]?=some v ->c[B.base+k]?=some v
 | .mp l=>∃(es:Array MapEntry),heap[B.b]?=some (.map es es.size)/\MR μ 0 l es.toList| .si s pos=>B.base=0/\∃bs:ByteArray,heap[B.b]?=some (.stringIter bs pos)/\bs.data.toList.map UInt8.toNat=s| .mi m n seen=>B.base=0/\∃M sn,μ m=some M/\heap[B.b]?=some (.mapIter (some M.b) n sn n)/\sn.toList=seen.reverse| .loop ready gA fn im nt params assign body wN=>∃l:Loop,heap[B.b]?=some (.loop l)/\l.state=Xj ready gA/\(ready=false ->gA=none ->True)/\l.pending=tz gA/\l.fn=fn/\RR μ im l.tmps/\l.tmps.size=nt/\
  l.params=params/\l.assign=assign/\l.body=body/\∃D,μ wN=some D/\l.defers=D.b
 | .marks=>heap[B.b]?=some (.deferred (some []))
def AO.uK:AO ->Bool
 | .cells _ _ ro=>ro| .gl _ ro=>ro|_=>false
def AO.cT (o:AO) (B:nS):Prop:=B.n=0/\∃ro,o= .gl .nil ro
theorem AE.mono {μ μ':Mu} (h:μ.le μ') {heap:Array Obj} {B:nS} {o:AO} (ho:AE μ heap B o):AE μ' heap B o:=by
 cases o with
 |cells t n ro=>
  obtain⟨h0,c,el,fz,h1,h2,h3,h4⟩:=ho;exact⟨h0,c,el,fz,h1,h2,h3,λk v e=>let ⟨a,cv,b,d⟩:=h4 k v e;⟨a,cv,b,d.mono h⟩⟩
 |gl l ro=>
  rcases ho with ho|⟨xs,h1,h2,c,el,fz,h3,h4,h5,h6,h7⟩
  .exact .inl ho
  .exact .inr ⟨xs,h1.mono h,h2,c,el,fz,h3,h4,h5,λe=>h.s _ _ (h6 e),h7⟩
 |mp l=>obtain⟨es,h1,h2⟩:=ho;exact⟨es,h1,h2.mono h⟩
 |si s pos=>exact ho|mi m n seen=>obtain⟨h0,M,sn,h1,h2⟩:=ho;exact⟨h0,M,sn,h.m _ _ h1,h2⟩
 |loop _ _ _ _ _ _ _ _ _=>
  obtain⟨l,h1,h2,h3,h4,h5,h6,h7,h8,h9,Iw,D,OD,h12⟩:=ho;exact⟨l,h1,h2,h3,h4,h5,h6.mono h,h7,h8,h9,Iw,D,h.m _ _ OD,h12⟩
 |marks=>exact ho
theorem AE.lt {μ:Mu} {heap:Array Obj} {B:nS} {o:AO} (ho:AE μ heap B o):o.cT B\/B.b<heap.size:=by
 cases o with
 |cells t n ro=>obtain⟨h0,c,el,fz,h1,_⟩:=ho;exact .inr (Array.getElem?_eq_some_iff.1 h1).1
 |gl l ro=>
  rcases ho with ⟨h1,rfl⟩|⟨xs,h1,h2,c,el,fz,h3,_⟩
  .exact .inl ⟨h1,ro,rfl⟩
  .exact .inr (Array.getElem?_eq_some_iff.1 h3).1
 |mp l=>obtain⟨es,h1,h2⟩:=ho;exact .inr (Array.getElem?_eq_some_iff.1 h1).1
 |si s pos=>obtain⟨_,bs,h1,h2⟩:=ho;exact .inr (Array.getElem?_eq_some_iff.1 h1).1
 |mi m n seen=>obtain⟨_,M,sn,_,h1,_⟩:=ho;exact .inr (Array.getElem?_eq_some_iff.1 h1).1
 |loop _ _ _ _ _ _ _ _ _=>obtain⟨l,h1,_⟩:=ho;exact .inr (Array.getElem?_eq_some_iff.1 h1).1
 |marks=>exact .inr (Array.getElem?_eq_some_iff.1 (show heap[B.b]?=_ from ho)).1
theorem AE.heap {μ:Mu} {heap aa0:Array Obj} {B:nS} {o:AO} (e:o.cT B\/aa0[B.b]?=heap[B.b]?) (ho:AE μ heap B o):AE μ aa0 B o:=by
 rcases e with ⟨e1,ro,rfl⟩|e
 .exact .inl ⟨e1,rfl⟩
 cases o with
 |cells t n ro=>obtain⟨h0,c,el,fz,h1,h2⟩:=ho;exact⟨h0,c,el,fz,e.trans h1,h2⟩
 |gl l ro=>
  rcases ho with ho|⟨xs,h1,h2,c,el,fz,h3,h4⟩
  .exact .inl ho
  .exact .inr ⟨xs,h1,h2,c,el,fz,e.trans h3,h4⟩
 |mp l=>obtain⟨es,h1,h2⟩:=ho;exact⟨es,e.trans h1,h2⟩
 |si s pos=>obtain⟨h0,bs,h1,h2⟩:=ho;exact⟨h0,bs,e.trans h1,h2⟩
 |mi m n seen=>obtain⟨h0,M,sn,h1,h2,h3⟩:=ho;exact⟨h0,M,sn,h1,e.trans h2,h3⟩
 |loop _ _ _ _ _ _ _ _ _=>obtain⟨l,h1,h2⟩:=ho;exact⟨l,e.trans h1,h2⟩
 |marks=>exact e.trans ho
variable [aY]
structure Grow (B0:Nat) (s s':Nat ->Option (Array Value)):Prop where
 le:∀b c,s b=some c ->s' b=some c
 new:∀b c,s' b=some c ->s b=some c\/B0<=b
omit [aY]in
theorem Grow.refl (B0:Nat) (s:Nat ->Option (Array Value)):Grow B0 s s:=⟨λ_ _ e=>e,λ_ _ e=> .inl e⟩
omit [aY]in
theorem Grow.trans {B0:Nat} {a b c:Nat ->Option (Array Value)} (h:Grow B0 a b) (k:Grow B0 b c):Grow B0 a c:=
 ⟨λx y e=>k.le x y (h.le x y e),λx y e=>(k.new x y e).elim (λe=>h.new x y e) .inr⟩
structure Below (B:Nat) (w w':World):Prop extends Go.RowKit.Below B w w' where
 drawn:aY.l=[] ->w.drawn<=w'.drawn
theorem Below.refl (B:Nat) (w:World):Below B w w:=⟨.refl _ _,λ_=>Nat.le_refl _⟩
theorem Below.trans {B:Nat} {a b c:World} (h:Below B a b) (k:Below B b c):Below B a c:=⟨h.toBelow.trans k.toBelow,λe=>Nat.le_trans (h.drawn e) (k.drawn e)⟩
theorem Below.mono {B B':Nat} {w w':World} (h:Below B w w') (hB:B'<=B):Below B' w w':=⟨h.toBelow.mono hB,h.drawn⟩
theorem Below.drew {B:Nat} {a w:World} (h:Below B a w):Below B a w.drew:=⟨h.toBelow.drew,λe=>Nat.le_succ_of_le (h.drawn e)⟩
theorem Below.alloc {B:Nat} {a w:World} (h:Below B a w) (hB:B<=w.heap.size) (o:Obj):Below B a (w.alloc o):=⟨h.toBelow.alloc hB o,h.drawn⟩
omit [aY]in
theorem Below.tabs {T T':aY} (e:T'.l=[] ->T.l=[]) {B:Nat} {w w':World} (h:@Below T B w w'):@Below T' B w w':= @Below.mk T' B w w' (@Below.toBelow T B w w' h) λk=> @Below.drawn T B w w' h (e k)
structure HR (μ:Mu) (B0:Nat) (h:Heap) (w:World):Prop where
 fresh:∀id B,μ id=some B ->id.toNat<h.n.toNat
 live:∀id o,h.t.get id=some o ->id.toNat<h.n.toNat
 obj:∀id B o,μ id=some B ->h.t.get id=some o ->AE μ w.heap B o
 sep:∀i j A B o p,i≠j ->μ i=some A ->μ j=some B ->h.t.get i=some o ->h.t.get j=some p ->A.b≠B.b\/o.cT A\/p.cT B
 own:∀id B o,μ id=some B ->h.t.get id=some o ->o.uK=false ->o.cT B\/B0<=B.b
 dM:yv μ
 size:B0<=w.heap.size
 Aw:∀b c,μ.s b=some c ->∃el fz,w.heap[b]?=some (.cells c el fz)
 apart:∀id B o,μ id=some B ->h.t.get id=some o ->o.uK=false ->o.cT B\/μ.s B.b=none
 tab:AD μ.s aY.l
structure bS (μ:Mu) (B0:Nat) (h:Heap) (w:World) (μ':Mu) (h':Heap) (w':World):Prop where
 ext:∀id,id.toNat<h.n.toNat ->μ' id=μ id
 le:h.n.toNat<=h'.n.toNat
 rel:HR μ' B0 h' w'
 below:Below B0 w w'
 dF:Grow B0 μ.s μ'.s
theorem bS.mu {μ:Mu} {B0:Nat} {h:Heap} {w:World} {μ':Mu} {h':Heap} {w':World} (hr:HR μ B0 h w) (p:bS μ B0 h w μ' h' w'):μ.le μ':=
 ⟨λid B e=>(p.ext id (hr.fresh id B e)).trans e,p.dF.le⟩
theorem bS.refl {μ:Mu} {B0:Nat} {h:Heap} {w:World} (hr:HR μ B0 h w):bS μ B0 h w μ h w:=⟨λ_ _=>rfl,Nat.le_refl _,hr,Below.refl _ _,Grow.refl _ _⟩
theorem bS.trans {μ:Mu} {B0:Nat} {h:Heap} {w:World} {μ':Mu} {h':Heap} {w':World} {μ'':Mu} {h'':Heap} {w'':World}
  (p:bS μ B0 h w μ' h' w') (q:bS μ' B0 h' w' μ'' h'' w''):bS μ B0 h w μ'' h'' w'':=
 ⟨λid e=>(q.ext id (Nat.lt_of_lt_of_le e p.le)).trans (p.ext id e),Nat.le_trans p.le q.le,q.rel,p.below.trans q.below,p.dF.trans q.dF⟩
theorem HR.yx {μ:Mu} {B0:Nat} {h:Heap} {w w':World} (e:w'.heap=w.heap) (hr:HR μ B0 h w):HR μ B0 h w':=
 ⟨hr.fresh,hr.live,λid B o a b=>by rw [e];exact hr.obj id B o a b,hr.sep,hr.own,hr.dM,by rw [e];exact hr.size,by rw [e];exact hr.Aw,hr.apart,hr.tab⟩
theorem HR.jb {μ:Mu} {B0:Nat} {h:Heap} {w:World} {id:Pos} {x:Tr AV×Nat×Bool} (e:jb h id=some x):h.t.get id=some (.cells x.1 x.2.1 x.2.2):=by
 unfold Sy.jb at e;cases hg:h.t.get id with
 |none=>rw [hg]at e;cases e|some o=>
  rw [hg]at e;cases o with
  |cells t n ro=>cases e;rfl|gl _ _=>cases e|mp _=>cases e|si _ _=>cases e|mi _ _ _=>cases e|loop _ _ _ _ _ _ _ _ _=>cases e|marks=>cases e
theorem fg {t:Tr AV} {n:Nat} {ro:Bool} {B:nS}:¬(AO.cells t n ro).cT B:=λ⟨_,_,e⟩=>by cases e
theorem HR.new {μ:Mu} {B0:Nat} {h:Heap} {w:World} (hr:HR μ B0 h w) (id:Pos) (hid:μ id=none) (o:AO) (B:nS) (ob:Obj) (n':Pos) (hn:h.n.toNat<=n'.toNat) (cJ:id.toNat<n'.toNat)
  (hB:B.b=w.heap.size) (t:Tr AO) (ht:∀q p,t.get q=some p ->(q=id/\p=o)\/(q≠id/\h.t.get q=some p))
  (ho:AE (μ.put id B) (w.heap.push ob) B o):
  HR (μ.put id B) B0 ⟨t,n'⟩ (w.alloc ob):=by
 have hle:μ.le (μ.put id B):=⟨λq C e=>by
  rw [Mu.bq _ _ _ (λe'=>by subst e';rw [hid]at e;cases e)];exact e,λ_ _ e=>e⟩
 have mo:∀k,k<w.heap.size ->(w.heap.push ob)[k]?=w.heap[k]?:=λk hk=>by rw [Array.getElem?_push,if_neg (by omega)]
 have wS:∀b c,μ.s b=some c ->b<w.heap.size:=λb c e=>let ⟨_,_,h1⟩:=hr.Aw b c e;(Array.getElem?_eq_some_iff.1 h1).1;refine⟨?_,?_,?_,?_,?_,hr.dM.mono hle,Nat.le_trans hr.size (by show w.heap.size<=(w.heap.push ob).size;simp),?_,?_,hr.tab⟩
 .intro q C e;by_cases hq:q=id
  .subst hq;exact cJ
  .rw [Mu.bq _ _ _ hq]at e;exact Nat.lt_of_lt_of_le (hr.fresh q C e) hn
 .intro q p e;rcases ht q p e with ⟨h1,h2⟩|⟨h1,h2⟩
  .subst h1;exact cJ
  .exact Nat.lt_of_lt_of_le (hr.live q p h2) hn
 .intro q C p e1 e2;rcases ht q p e2 with ⟨h1,h2⟩|⟨h1,h2⟩
  .subst h1;subst h2;rw [Mu.cz]at e1;cases e1;exact ho
  .rw [Mu.bq _ _ _ h1]at e1;have AF:=hr.obj q C p e1 h2;exact(AF.heap (AF.lt.imp (λh=>h) (mo _))).mono hle
 .intro i j A C p q pj e1 e2 e3 e4;rcases ht i p e3 with ⟨h1,h2⟩|⟨h1,h2⟩
  .rcases ht j q e4 with ⟨h3,h4⟩|⟨h3,h4⟩
   .exact absurd (h1.trans h3.symm) pj
   .subst h1;rw [Mu.cz]at e1;rw [Mu.bq _ _ _ h3]at e2;cases e1;rcases(hr.obj j C q e2 h4).lt with hi|hl
    .exact .inr (.inr hi)
    .exact .inl (by omega)
  .rcases ht j q e4 with ⟨h3,h4⟩|⟨h3,h4⟩
   .subst h3;rw [Mu.cz]at e2;rw [Mu.bq _ _ _ h1]at e1;cases e2;rcases(hr.obj i A p e1 h2).lt with hi|hl
    .exact .inr (.inl hi)
    .exact .inl (by omega)
   .rw [Mu.bq _ _ _ h1]at e1;rw [Mu.bq _ _ _ h3]at e2;exact hr.sep i j A C p q pj e1 e2 h2 h4
 .intro q C p e1 e2 e3;rcases ht q p e2 with ⟨h1,h2⟩|⟨h1,h2⟩
  .subst h1;rw [Mu.cz]at e1;cases e1;rw [hB];exact .inr hr.size
  .rw [Mu.bq _ _ _ h1]at e1;exact hr.own q C p e1 h2 e3
 .intro b c e;obtain⟨el,fz,h1⟩:=hr.Aw b c e;exact⟨el,fz,(mo b (wS b c e)).trans h1⟩
 .intro q C p e1 e2 e3;rcases ht q p e2 with ⟨h1,h2⟩|⟨h1,h2⟩
  .subst h1;rw [Mu.cz]at e1;cases e1;refine .inr ?_;show μ.s B.b=none;cases hs:μ.s B.b with
   |none=>rfl|some c=>have:=wS _ _ hs;omega
  .rw [Mu.bq _ _ _ h1]at e1;exact hr.apart q C p e1 h2 e3
theorem HR.chg {μ:Mu} {B0:Nat} {h:Heap} {w w':World} (hr:HR μ B0 h w) (id:Pos) (B:nS) (hid:μ id=some B) (o:AO) (Ix:o.uK=false) (o0:AO) (h0:h.t.get id=some o0) (vO:o0.uK=false) (dC:¬o0.cT B)
  (hb:∀k,k≠B.b ->w'.heap[k]?=w.heap[k]?) (hs:w.heap.size<=w'.heap.size) (ho:AE μ w'.heap B o) (t:Tr AO)
  (ht:∀q p,t.get q=some p ->(q=id/\p=o)\/(q≠id/\h.t.get q=some p)):HR μ B0 ⟨t,h.n⟩ w':=by
 refine⟨hr.fresh,?_,?_,?_,?_,hr.dM,Nat.le_trans hr.size hs,?_,?_,hr.tab⟩
 .intro q p e;rcases ht q p e with ⟨h1,h2⟩|⟨h1,h2⟩
  .subst h1;exact hr.live _ _ h0
  .exact hr.live q p h2
 .intro q C p e1 e2;rcases ht q p e2 with ⟨h1,h2⟩|⟨h1,h2⟩
  .subst h1;subst h2;rw [hid]at e1;cases e1;exact ho
  .refine(hr.obj q C p e1 h2).heap ?_;rcases hr.sep q id C B p o0 h1 e1 hid h2 h0 with h3|h3|h3
   .exact .inr (hb _ h3)
   .exact .inl h3
   .exact absurd h3 dC
 .intro i j A C p q pj e1 e2 e3 e4;rcases ht i p e3 with ⟨h1,h2⟩|⟨h1,h2⟩
  .rcases ht j q e4 with ⟨h3,h4⟩|⟨h3,h4⟩
   .exact absurd (h1.trans h3.symm) pj
   .subst h1;rw [hid]at e1;cases e1;rcases hr.sep i j B C o0 q pj hid e2 h0 h4 with h5|h5|h5
    .exact .inl h5
    .exact absurd h5 dC
    .exact .inr (.inr h5)
  .rcases ht j q e4 with ⟨h3,h4⟩|⟨h3,h4⟩
   .subst h3;rw [hid]at e2;cases e2;rcases hr.sep i j A B p o0 pj e1 hid h2 h0 with h5|h5|h5
    .exact .inl h5
    .exact .inr (.inl h5)
    .exact absurd h5 dC
   .exact hr.sep i j A C p q pj e1 e2 h2 h4
 .intro q C p e1 e2 e3;rcases ht q p e2 with ⟨h1,h2⟩|⟨h1,h2⟩
  .subst h1;rw [hid]at e1;cases e1;exact .inr ((hr.own _ _ _ hid h0 vO).resolve_left dC)
  .exact hr.own q C p e1 h2 e3
 .intro b c e;obtain⟨el,fz,h1⟩:=hr.Aw b c e;have dE:b≠B.b:=λe'=>by
   have:=(hr.apart id B o0 hid h0 vO).resolve_left dC;rw [e',this]at e;cases e
  exact⟨el,fz,(hb b dE).trans h1⟩
 .intro q C p e1 e2 e3;rcases ht q p e2 with ⟨h1,h2⟩|⟨h1,h2⟩
  .subst h1;rw [hid]at e1;cases e1;exact .inr ((hr.apart _ _ _ hid h0 vO).resolve_left dC)
  .exact hr.apart q C p e1 h2 e3
theorem HR.less {μ:Mu} {B0:Nat} {h:Heap} {w:World} (hr:HR μ B0 h w) (t:Tr AO) (key:∀q p,t.get q=some p ->h.t.get q=some p):HR μ B0 ⟨t,h.n⟩ w:=
 ⟨hr.fresh,λq o e=>hr.live q o (key q o e),λq B o e1 e2=>hr.obj q B o e1 (key q o e2),λi j A C p q pj e1 e2 e3 e4=>hr.sep i j A C p q pj e1 e2 (key _ _ e3) (key _ _ e4),
  λq B o e1 e2 e3=>hr.own q B o e1 (key _ _ e2) e3,hr.dM,hr.size,hr.Aw,λq B o e1 e2 e3=>hr.apart q B o e1 (key _ _ e2) e3,hr.tab⟩
theorem HR.kill {μ:Mu} {B0:Nat} {h:Heap} {w:World} (hr:HR μ B0 h w) (id:Pos):HR μ B0 (kill id h) w:=
 hr.less _ (λq p e=>by
  rw [Tr.rH]at e;by_cases hq:q=id
  .rw [if_pos hq]at e;cases e
  .rwa [if_neg hq]at e)
end
section
variable [aY]
theorem ai {P:Program} {w:World} {t:TypeId} {d:TypeDesc} (h:P.underlying t=some d):(underlying t).run P w= .ok d w:=by
 simp [underlying,h]
theorem iS {P:Program} {w:World} {t:TypeId} {i:TypeInfo} (h:P.info? t=some i):(typeInfo t).run P w= .ok i w:=by
 simp [typeInfo,h]
theorem uL {P:Program} {t:TypeId} {n:Nat} (h:fL P t=some n):∃i,P.info? t=some i/\i.size=n:=by
 unfold fL at h;cases hi:P.info? t with
 |none=>rw [hi]at h;cases h|some i=>rw [hi]at h;exact⟨i,rfl,Option.some.inj h⟩
theorem aH {P:Program} {w:World} {t:TypeId} {n:Nat} (h:fL P t=some n):(sizeOf t).run P w= .ok n w:=by
 obtain⟨i,hi,hn⟩:=uL h;simp [sizeOf,iS hi,hn]
theorem gx {P:Program} {w:World} {t:TypeId} {v:Value} (h:lA P t=some v):(zeroValue t).run P w= .ok v w:=by
 unfold lA at h;cases hi:P.info? t with
 |none=>rw [hi]at h;cases h|some i=>rw [hi]at h;simp at h;simp [zeroValue,iS hi,h]
theorem qB {P:Program} {w:World} {t:TypeId} {n:Nat} (h:iI P t=some n):∃i,(typeInfo t).run P w= .ok i w/\i.bytes=n:=by
 unfold iI at h;cases hi:P.info? t with
 |none=>rw [hi]at h;cases h|some i=>rw [hi]at h;exact⟨i,iS hi,Option.some.inj h⟩
theorem qC {P:Program} {t:TypeId} {m:Option Nat} (h:qt P t=some m):
  (m=none/\∀w,(isAgg t).run P w= .ok false w)\/(∃n,m=some n/\fL P t=some n/\∀w,(isAgg t).run P w= .ok true w):=by
 unfold qt at h;cases hu:P.underlying t with
 |none=>rw [hu]at h;cases h|some d=>
  rw [hu]at h;cases d with
  |struct fs=>
   right;cases hs:fL P t with
   |none=>simp [hs]at h|some n=>simp [hs]at h;exact⟨n,h.symm,rfl,λw=>by simp [isAgg,ai hu]⟩
  |array k e=>
   right;cases hs:fL P t with
   |none=>simp [hs]at h|some n=>simp [hs]at h;exact⟨n,h.symm,rfl,λw=>by simp [isAgg,ai hu]⟩
  |_=>left;simp at h;exact⟨h.symm,λw=>by simp [isAgg,ai hu]⟩
theorem cell_of {w:World} {b off:Nat} {c:Array Value} {el:TypeId} {fz:Nat×Nat} {v:Value} (hb:w.heap[b]?=some (.cells c el fz)) (hv:c[off]?=some v):w.cell? ⟨b,off,none⟩=some v:=by
 simp [World.cell?,hb,hv]
theorem addr_add (b o n:Nat):(⟨b,o,none⟩:Addr).add n=⟨b,o+n,none⟩:=by
 unfold Addr.add;split<;>simp_all
theorem uM {P:Program} {μ:Mu} {B0:Nat} {h:Heap} {w:World} (hr:HR μ B0 h w) {t:TypeId} {id:Pos} {off:Nat} {x:Tr AV×Nat×Bool} {v:AV}
  (hx:h.t.get id=some (.cells x.1 x.2.1 x.2.2)) (hv:CH P t x.1 off=some v) {B:nS} (hB:μ id=some B):
  ∃cv,(loadVar t ⟨B.b,B.base+off,none⟩).run P w= .ok cv w/\dw μ v cv:=by
 have ho:=hr.obj id B _ hB hx;obtain⟨h0,c,el,fz,h1,h2,h3,h4⟩:=ho;unfold CH at hv;cases hl:qt P t with
 |none=>rw [hl]at hv;cases hv|some m=>
  rw [hl]at hv;rcases qC hl with ⟨rfl,ha⟩|⟨n,rfl,hs,ha⟩
  .obtain⟨hk,cv,h5,h6⟩:=h4 off v hv;refine⟨cv,?_,h6⟩;simp [loadVar,ha,World.cell?,h1,h5]
  .change (yn x.1 n off).map .agg=some v at hv;cases hc:yn x.1 n off with
   |none=>rw [hc]at hv;cases hv|some l=>
    rw [hc]at hv;cases hv;obtain⟨vs,h5,h6,h7⟩:=lY (f:=λk=>c[B.base+k]?) (λk v e=>(h4 k v e).2) n hc;refine⟨.agg vs.toArray,?_,vs.toArray,rfl,by simpa using h5⟩;have:=run_loadCells_list (P:=P) w ⟨B.b,B.base+off,none⟩ vs (λj v hj=>by
     rw [addr_add];exact cell_of h1 (by have:=h7 j v hj;rwa [show B.base+off+j=B.base+(off+j) by omega]))
    simp [loadVar,ha,aH hs,<-h6,this]
theorem qD {μ:Mu} {B0:Nat} {h:Heap} {w:World} (hr:HR μ B0 h w) {b o:Nat} {xs:List Value} (hs:jD μ.s b o xs) (j:Nat) (v:Value) (hj:xs[j]?=some v):w.cell? ⟨b,o+j,none⟩=some v:=by
 rcases hs with e|⟨arr,h1,h2⟩
 .rw [e]at hj;cases hj
 .obtain⟨el,fz,h3⟩:=hr.Aw b arr h1;exact cell_of h3 (h2 j v hj)
theorem qE {P:Program} {μ:Mu} {w:World} {t:TypeId} {l v:AV} {k:Nat} (hv:fR P t (cX k l)=some v) {b o:Nat} {xs:List Value} (hl:cG μ l xs) (hs:∀j v,xs[j]?=some v ->w.cell? ⟨b,o+j,none⟩=some v):
  ∃cv,(loadVar t ⟨b,o+k,none⟩).run P w= .ok cv w/\dw μ v cv:=by
 unfold fR at hv;cases ht:qt P t with
 |none=>rw [ht]at hv;cases hv|some m=>
  rw [ht]at hv;rcases qC ht with ⟨rfl,ha⟩|⟨n,rfl,hn,ha⟩
  .simp only at hv;split at hv
   .rename_i a t' hd;cases hv;obtain⟨cv,h1,h2⟩:=cG.drop_cons k hl hd;have:=hs k cv h1;exact⟨cv,by simp [loadVar,ha,this],h2⟩
   .cases hv
  .change (dQ n (cX k l)).map .agg=some v at hv;cases hc:dQ n (cX k l)with
   |none=>rw [hc]at hv;cases hv|some l'=>
    rw [hc]at hv;cases hv;obtain⟨h1,h2⟩:=cG.take_drop n k hl hc;have h3:((xs.drop k).take n).length=n:=(by rw [List.length_take];omega);refine⟨.agg ((xs.drop k).take n).toArray,?_,((xs.drop k).take n).toArray,rfl,by simpa using h1⟩;have:=run_loadCells_list (P:=P) w ⟨b,o+k,none⟩ ((xs.drop k).take n) (λj v hj=>by
     rw [addr_add];rw [List.getElem?_take]at hj;split at hj
     .rw [List.getElem?_drop]at hj;have:=hs _ v hj;rwa [show o+(k+j)=o+k+j by omega]at this
     .cases hj)
    rw [h3]at this;simp [loadVar,ha,aH hn,this]
theorem sJ {P:Program} {μ:Mu} {B0:Nat} {h:Heap} {w:World} (hr:HR μ B0 h w) {t:TypeId} {l v:AV} {k:Nat} (hv:fR P t (cX k l)=some v) {b o:Nat} {xs:List Value} (hl:cG μ.pure l xs) (hs:jD μ.s b o xs):
  ∃cv,(loadVar t ⟨b,o+k,none⟩).run P w= .ok cv w/\dw μ v cv:=
 qE hv (hl.mono μ.Lt) (λj v hj=>qD hr hs j v hj)
theorem qF {μ:Mu} {B0:Nat} {h:Heap} {w:World} (hr:HR μ B0 h w) {id:Pos} {l:AV} {ro:Bool} (hg:h.t.get id=some (.gl l ro)) {B:nS} (hB:μ id=some B):
  ∃xs,cG μ l xs/\xs.length<=B.n/\∀j v,xs[j]?=some v ->w.cell? ⟨B.b,B.base+j,none⟩=some v:=by
 rcases hr.obj id B _ hB hg with ⟨h1,rfl⟩|⟨xs,h1,h2,c,el,fz,h3,h4,h5,_,h6⟩
 .exact⟨[],rfl,by simp,by simp⟩
 .exact⟨xs,h1,h2,λj v hj=>cell_of h3 (h6 j v hj)⟩
theorem jE {μ:Mu} {B0:Nat} {h:Heap} {w:World} (hr:HR μ B0 h w) {id:Pos} {off n:Nat} {l:AV} (hc:gP h id off n=some l) {B:nS} (hB:μ id=some B):
  ∃vs,cG μ l vs/\vs.length=n/\∀j v,vs[j]?=some v ->w.cell? ⟨B.b,B.base+off+j,none⟩=some v:=by
 unfold gP at hc;split at hc
 .rename_i t m ro hg;obtain⟨h0,c,el,fz,h1,h2,h3,h4⟩:=hr.obj id B _ hB hg;obtain⟨vs,h5,h6,h7⟩:=lY (f:=λk=>c[B.base+k]?) (λk v e=>(h4 k v e).2) _ hc;exact⟨vs,h5,h6,λj v hj=>cell_of h1 (by have:=h7 j v hj;rwa [show B.base+off+j=B.base+(off+j) by omega])⟩
 .rename_i g ro hg;obtain⟨xs,h1,h2,h3⟩:=qF hr hg hB;obtain⟨h4,h5⟩:=cG.take_drop n off h1 hc;refine⟨_,h4,by rw [List.length_take];omega,λj v hj=>?_⟩;rw [List.getElem?_take]at hj;split at hj
  .rw [List.getElem?_drop]at hj;have:=h3 _ v hj;rwa [show B.base+(off+j)=B.base+off+j by omega]at this
  .cases hj
 .cases hc
def fA (f:Program ->Tr AV ->Option AV) (o:Oper):Prop:=
 ∀(P:Program) (r:Tr AV) (μ:Mu) (a:Act) (v:AV),yv μ ->RR μ r a.tmps ->f P r=some v ->∃cv,(∀w,(execOp a.eval o).run P w= .ok (.value cv) w)/\dw μ v cv
def vP (f:Program ->Tr AV ->Heap ->Option AV) (o:Oper):Prop:=
 ∀(P:Program) (r:Tr AV) (μ:Mu) (B0:Nat) (h:Heap) (w:World) (a:Act) (v:AV),HR μ B0 h w ->RR μ r a.tmps ->f P r h=some v ->∃cv,(execOp a.eval o).run P w= .ok (.value cv) w/\dw μ v cv
def MK.val (k:MK) (b:Nat):Value:=match k with| .ptr=> .pointer (some ⟨b,0,none⟩)| .slice l c _=> .slice (some ⟨b,0,none⟩) l c
def MK.ok (k:MK) (n:Nat):Prop:=match k with| .ptr=>True| .slice l c z=>l<=c/\c*z<=n
def uN (f:Program ->Tr AV ->Option AL) (o:Oper):Prop:=
 ∀(P:Program) (r:Tr AV) (μ:Mu) (a:Act) (A:AL) (ao:AO),yv μ ->RR μ r a.tmps ->f P r=some A ->uA A.l A.n A.k=some ao ->
  A.k.ok A.n/\∃arr el xs,cG μ A.l xs/\arr.size=A.n/\(∀(k:Nat) (v:Value),xs[k]?=some v ->arr[k]?=some v)/\∀w,(execOp a.eval o).run P w= .ok (.value (A.k.val w.heap.size)) (w.alloc (.cells arr el))
theorem Bo {o:Oper} {x:Operand} (ho:o.op= .move x\/o.op= .assign x):fA (Lm x) o:=by
 intro P r μ a v hg hr hv;cases hv;refine⟨a.eval x,λw=>?_,aT hg hr x⟩;rcases ho with ho|ho<;>simp [execOp,ho]
theorem OE {o:Oper} {c x y:Operand} (ho:o.op= .pick c x y):fA (yp c x y) o:=by
 intro P r μ a v hg hr hv;unfold yp at hv;have hc:=aT hg hr c;split at hv
 .rename_i t ht;rw [ht]at hc;have hc:a.eval c= .bool t:=by simpa [VR]using hc
  cases hv;cases t with
  |true=>exact⟨a.eval x,λw=>by simp [execOp,ho,hc,asBool],aT hg hr x⟩|false=>exact⟨a.eval y,λw=>by simp [execOp,ho,hc,asBool],aT hg hr y⟩
 .cases hv
theorem OG {o:Oper} {t:TypeId} {x:Operand} (ho:o.op= .load t x):vP (sE t x) o:=by
 intro P r μ B0 h w a v hh hr hv;unfold sE wO at hv;have hx:=aT hh.dM hr x;split at hv
 .rename_i l k he;rw [he]at hx;obtain⟨b,o',xs,hx,hl,hs⟩:=hx;have hx:a.eval x= .pointer (some ⟨b,o'+k,none⟩):=by simpa using hx
  obtain⟨cv,h3,h4⟩:=sJ hh hv hl hs;exact⟨cv,by simp [execOp,ho,Instr.loadAt,hx,Instr.sureAddr,h3],h4⟩
 .rename_i id off he;rw [he]at hx;obtain⟨B,hB,hx⟩:=hx;have hx:a.eval x= .pointer (some ⟨B.b,B.base+off,none⟩):=by simpa using hx
  split at hv
  .rename_i c n ro hg;obtain⟨cv,h1,h2⟩:=uM (x:=(c,n,ro)) hh hg hv hB;exact⟨cv,by simp [execOp,ho,Instr.loadAt,hx,Instr.sureAddr,h1],h2⟩
  .rename_i l ro hg;obtain⟨xs,g1,g2,g3⟩:=qF hh hg hB;obtain⟨cv,h1,h2⟩:=qE (P:=P) hv g1 g3;exact⟨cv,by simp [execOp,ho,Instr.loadAt,hx,Instr.sureAddr,h1],h2⟩
  .cases hv
 .cases hv
theorem CU {o:Oper} {x:Operand} {i:Nat} (ho:o.op= .extract x i):fA (uB x i) o:=by
 intro P r μ a v hg hr hv;unfold uB at hv;have hx:=aT hg hr x;split at hv
 .rename_i l he;rw [he]at hx;obtain⟨c,hc,hl⟩:=hx;have hc:a.eval x= .tuple c:=by simpa using hc
  split at hv
  .rename_i y t hd;cases hv;obtain⟨u,hu,hv⟩:=cG.drop_cons i hl hd;have hu:c[i]?=some u:=(by simpa using hu);exact⟨u,λw=>by simp [execOp,ho,hc,Instr.extract,hu],hv⟩
  .cases hv
 .cases hv
theorem AG {o:Oper} {x:Operand} (ho:o.op= .nilCheck x):fA (rI x) o:=by
 intro P r μ a v hg hr hv;unfold rI at hv;have hx:=aT hg hr x;split at hv
 .rename_i id off he;rw [he]at hx;cases hv;have h2:=hx;obtain⟨B,hB,hx⟩:=hx;have hx:a.eval x= .pointer (some ⟨B.b,B.base+off,none⟩):=by simpa using hx
  exact⟨a.eval x,λw=>by simp [execOp,ho,hx],h2⟩
 .rename_i l k he;rw [he]at hx;cases hv;have h2:=hx;obtain⟨b,o',xs,hx,_⟩:=hx;have hx:a.eval x= .pointer (some ⟨b,o'+k,none⟩):=by simpa using hx
  exact⟨a.eval x,λw=>by simp [execOp,ho,hx],h2⟩
 .rename_i f p q he;rw [he]at hx;cases hv;have h2:=hx;obtain⟨F,C,hx,_⟩:=hx;have hx:a.eval x= .func (.func f) F C:=by simpa using hx
  exact⟨a.eval x,λw=>by simp [execOp,ho,hx],h2⟩
 .rename_i id he;rw [he]at hx;cases hv;have h2:=hx;obtain⟨B,hB,hx⟩:=hx;have hx:a.eval x= .func (.yield B.b) #[] #[]:=by simpa using hx
  exact⟨a.eval x,λw=>by simp [execOp,ho,hx],h2⟩
 .rename_i t u he;rw [he]at hx;cases hv;have h2:=hx;obtain⟨y,hx,_⟩:=hx;have hx:a.eval x= .iface t y:=by simpa using hx
  exact⟨a.eval x,λw=>by simp [execOp,ho,hx],h2⟩
 .cases hv
theorem AH {o:Oper} {fn:Fn} {f c:Array Operand} (ho:o.op= .makeFunc fn f c):fA (rJ fn f c) o:=by
 intro P r μ a v hg hr hv;unfold rJ at hv;cases hy:CL fn with
 |true=>rw [hy]at hv;cases hv|false=>
  rw [hy]at hv;cases hv;refine⟨.func fn (f.map a.eval) (c.map a.eval),λw=>by simp [execOp,ho,Instr.makeFunc],_,_,rfl,hy,?_,?_⟩
  .simpa using fy hg hr f.toList
  .simpa using fy hg hr c.toList
theorem tC {o:Oper} {t:TypeId} {x:Operand} (ho:o.op= .makeInterface t x):fA (jC t x) o:=by
 intro P r μ a v hg hr hv;unfold jC at hv;cases hu:P.underlying t with
 |none=>rw [hu]at hv;cases hv|some d=>
  rw [hu]at hv;cases d<;>first
   |(cases hv;done)
   |(cases hv;exact⟨.iface t (a.eval x),λw=>by simp [execOp,ho,Instr.makeInterface,ai hu],_,rfl,aT hg hr x⟩)
theorem Bp {μ:Mu} {a:AV} {v:Value} (h:dw μ a v) (hk:okV a=true):cG μ a.cells v.cells.toList:=
 h.cells (λe=>by subst e;cases hk) (λl e=>by subst e;cases hk)
theorem Ro {n:Nat} {a:AV} {off:Nat} {c t:Tr AV} (h:lay n a.cells off c=some t):a≠.undef/\∀l,a≠.aO l:=by
 have key:∀n,lay n (.cons .undef .nil) off c≠some t:=by
  intro n hn;cases n with
  |zero=>cases hn|succ n=>cases hn
 exact⟨λe=>by subst e;exact key n h,λl e=>by subst e;exact key n h⟩
theorem mq {P:Program} {t:TypeId} {z:AV} (μ:Mu) (h:dI P t=some z):∃v,lA P t=some v/\cG μ z v.cells.toList:=by
 unfold dI at h;cases hz:lA P t with
 |none=>rw [hz]at h;cases h|some v=>
  rw [hz]at h;change Bool.casesOn (motive:=λ_=>Option AV) (okV (eY v)) none (some (eY v).cells)=some z at h;cases hk:okV (eY v)with
  |false=>rw [hk]at h;cases h|true=>rw [hk]at h;cases h;exact⟨v,rfl,Bp (iR μ v) hk⟩
theorem lq (cs:List (Value×Nat)) (off:Nat):∀(c:Array Value) (k:Nat) (s:Nat),(∀i v j,cs[i]?=some (v,j) ->j=s+i) ->off+s+cs.length<=c.size ->
  (cs.foldl (λa x=>a.setIfInBounds (off+x.2) x.1) c)[k]?=if off+s<=k/\k<off+s+cs.length then(cs[k - (off+s)]?).map (·.1)else c[k]?:=by
 induction cs with
 |nil=>intro c k s _ _;simp;omega|cons x t ih=>
  intro c k s hj hs;obtain⟨v,j⟩:=x;have hj0:j=s:=by have:=hj 0 v j rfl;omega
  subst hj0;simp only [List.foldl_cons];rw [ih _ k (j+1) (λi v' j' e=>by have:=hj (i+1) v' j' (by simpa using e);omega) (by simp at hs ⊢;omega)];simp only [List.length_cons]at hs ⊢;by_cases h1:off+(j+1)<=k/\k<off+(j+1)+t.length
  .rw [if_pos h1,if_pos (by omega)];rw [show k - (off+j)=(k - (off+(j+1)))+1 by omega];simp
  .rw [if_neg h1];by_cases h2:k=off+j
   .subst h2;rw [if_pos (by omega)];rw [Array.getElem?_setIfInBounds_self_of_lt (by omega)];simp
   .rw [if_neg (by omega),Array.getElem?_setIfInBounds_ne (by omega)]
theorem Rp (cells:Array Value) (v:Value) (off:Nat) (h:off+v.cells.size<=cells.size):
  (v.cells.zipIdx.foldl (λcs x=>cs.setIfInBounds (off+x.2) x.1) cells).toList=cells.toList.take off++v.cells.toList++cells.toList.drop (off+v.cells.toList.length):=by
 apply List.ext_getElem?;intro k;rw [Array.getElem?_toList,<-Array.foldl_toList,lq _ off cells k 0 (by
  intro i v' j e;simp at e;obtain⟨h1,h2,h3⟩:=e;omega) (by simpa using h)]
 have e1:v.cells.zipIdx.toList.length=v.cells.size:=by simp
 rw [e1];simp only [Nat.add_zero];by_cases h1:off<=k/\k<off+v.cells.size
 .rw [if_pos h1,List.append_assoc,List.getElem?_append_right (by simp;omega),List.getElem?_append_left (by simp;omega)];have:min off cells.size=off:=by omega
  simp [this];cases v.cells[k - off]?<;>simp
 .rw [if_neg h1];by_cases h2:k<off
  .rw [List.append_assoc,List.getElem?_append_left (by simp;omega),List.getElem?_take_of_lt h2,Array.getElem?_toList]
  .rw [List.append_assoc,List.getElem?_append_right (by simp;omega),List.getElem?_append_right (by simp;omega)];simp only [List.length_take,Array.length_toList,List.getElem?_drop,Array.getElem?_toList];congr 1;have:min off cells.size=off:=(by omega);omega
theorem aw {a b:Bool}:aF a b=true↔a=true/\b=true:=by cases a<;>cases b<;>simp [aF]
theorem qG {μ:Mu} {a:Act} {r:Tr AV} (hg:yv μ) (hr:RR μ r a.tmps) (place Iy:Nat ->Option (Nat×Nat)) (hp:∀i q,place i=some q ->Iy i=some q) (xv:Nat):
  ∀(ps:List (Nat×Operand)) {l l':AV} {cells:Array Value},cG μ l cells.toList ->cells.size=xv ->sF place xv ps r l=some l' ->
   ∃Iz,Instr.fill Iy cells (ps.map λx=>(x.1,a.eval x.2))=some Iz/\cG μ l' Iz.toList/\Iz.size=xv
 |[],l,l',cells,hl,hs,h=>by cases (show some l=some l' from h);exact⟨cells,rfl,hl,hs⟩
 |p::ps,l,l',cells,hl,hs,h=>by
  change Option.casesOn (motive:=λ_=>Option AV) (place p.1) none (λq=>
   Bool.casesOn (motive:=λ_=>Option AV) (aF (aF (okV (ev p.2 r)) (Nat.beq (ev p.2 r).cells.len q.2)) (Nat.ble (Nat.add q.1 q.2) xv)) none (sF place xv ps r (gO q.1 l (ev p.2 r).cells)))=some l' at h
  cases hq:place p.1 with
  |none=>rw [hq]at h;cases h|some q=>
   rw [hq]at h;obtain⟨off,sz⟩:=q;simp only at h;cases hb:aF (aF (okV (ev p.2 r)) (Nat.beq (ev p.2 r).cells.len sz)) (Nat.ble (Nat.add off sz) xv)with
   |false=>rw [hb]at h;cases h|true=>
    rw [hb]at h;obtain⟨ot,rM⟩:=aw.1 hb;obtain⟨AJ,ot⟩:=aw.1 ot;have hv:=Bp (aT hg hr p.2) AJ;have hlen:=hv.len;have e1:=Nat.eq_of_beq_eq_true ot;have e2:=Nat.le_of_ble_eq_true rM;change off+sz<=xv at e2;have e3:(a.eval p.2).cells.size=sz:=(by rw [<-e1,hlen];simp);have cS:=qA off hl hv (by simp;omega);have hfo:=Rp cells (a.eval p.2) off (by omega);rw [<-hfo]at cS;obtain⟨c',h1,h2,h3⟩:=qG hg hr place Iy hp xv ps cS (by
     have:=congrArg List.length hfo;rw [Array.length_toList]at this;rw [this];simp;omega) h
    refine⟨c',?_,h2,h3⟩;simp only [List.map_cons,Instr.fill,hp _ _ hq];rw [if_neg]
    .exact h1
    .simp;omega
theorem uO {α β:Type} {P:Program} {w:World} (f:α ->Sem β):∀(xs:List α) (ys:List β),xs.length=ys.length ->(∀(i:Nat) (x:α) (y:β),xs[i]?=some x ->ys[i]?=some y ->(f x).run P w= .ok y w) ->(xs.mapM f).run P w= .ok ys w
 |[],[],_,_=>rfl|x::xs,y::ys,hl,h=>by
  have h1:=h 0 x y rfl rfl;have h2:=uO f xs ys (by simpa using hl) (λi a b ha hb=>h (i+1) a b (by simpa using ha) (by simpa using hb));simp [List.mapM_cons,h1,h2]
 |[],_::_,hl,_=>absurd hl (by simp)|_::_,[],hl,_=>absurd hl (by simp)
theorem sK {α β:Type} {P:Program} {w:World} (f:α ->Sem β) (xs:Array α) (ys:Array β) (hl:xs.size=ys.size) (h:∀(i:Nat) (x:α) (y:β),xs[i]?=some x ->ys[i]?=some y ->(f x).run P w= .ok y w):(xs.mapM f).run P w= .ok ys w:=by
 rw [Array.mapM_eq_mapM_toList];simp [uO f xs.toList ys.toList (by simpa using hl) (λi x y h1 h2=>h i x y (by simpa using h1) (by simpa using h2))]
theorem IA {o:Oper} {t:TypeId} {ps:Array (Nat×Operand)} (ho:o.op= .build t ps):fA (CI t ps) o:=by
 intro P r μ a v hg hr hv;unfold CI at hv;cases hz:dI P t with
 |none=>rw [hz]at hv;cases hv|some z=>
  rw [hz]at hv;cases oz:places P t with
  |none=>simp only [oz]at hv;cases hv|some pl=>
   simp only [oz]at hv;obtain⟨zv,IB,Br⟩:=mq μ hz;cases hf:sF pl z.len ps.toList r z with
   |none=>rw [hf]at hv;cases hv|some l=>
    rw [hf]at hv;cases hv;have HW:=Br.len;have key:∀pl',(∀i q,pl i=some q ->pl' i=some q) ->∃c:Array Value,Instr.fill pl' zv.cells (ps.toList.map λx=>(x.1,a.eval x.2))=some c/\cG μ l c.toList:=
     λpl' hpp=>by
      obtain⟨c,h1,h2,_⟩:=qG hg hr pl pl' hpp z.len ps.toList Br (by rw [HW];simp) hf;exact⟨c,h1,h2⟩
    unfold places at oz;cases hu:P.underlying t with
    |none=>rw [hu]at oz;cases oz|some d=>
     rw [hu]at oz;cases d with
     |struct fs=>
      change Bool.casesOn (motive:=λ_=>Option (Nat ->Option (Nat×Nat))) (fs.toList.all λf=>(fL P f.type).isSome) none (some λi=>(fs[i]?).bind λf=>(fL P f.type).map λn=>(f.offset,n))=some pl at oz;cases AK:fs.toList.all λf=>(fL P f.type).isSome with
      |false=>rw [AK]at oz;cases oz|true=>
       rw [AK]at oz;cases oz;have afc:∀f∈fs.toList,∃n,fL P f.type=some n:=λf hf=>by
        have:=List.all_eq_true.1 AK f hf;exact Option.isSome_iff_exists.1 this
       obtain⟨c,h1,h2⟩:=key (λi=>(fs.map λf=>(f.offset,(fL P f.type).getD 0))[i]?) (by
        intro i q e;cases hfi:fs[i]? with
        |none=>simp [hfi]at e|some f=>
         simp only [hfi,Option.bind_some]at e;cases hn:fL P f.type with
         |none=>rw [hn]at e;cases e|some n=>rw [hn]at e;cases e;simp [hfi,hn])
       refine⟨.agg c,λw=>?_,c,rfl,h2⟩;have hm:(fs.mapM λf=>Functor.map (Prod.mk f.offset) (sizeOf f.type):Sem _).run P w= .ok (fs.map λf=>(f.offset,(fL P f.type).getD 0)) w:=by
        apply sK
        .simp
        .intro i f y h3 h4;obtain⟨n,hn⟩:=afc f (by simpa using Array.mem_of_getElem? h3);simp [h3,hn]at h4;simp [aH hn,<-h4]
       simp only [execOp,ho,Instr.build];simp [gx IB,ai hu];rw [hm];simp only [Array.getElem?_map]at h1;simp [h1]
     |array n e=>
      cases hs:fL P e with
      |none=>simp [hs]at oz|some sz=>
       simp [hs]at oz;obtain⟨c,h1,h2⟩:=key (λi=>some (i*sz,sz)) (by intro i q e;rw [<-oz]at e;exact e);refine⟨.agg c,λw=>?_,c,rfl,h2⟩;simp [execOp,ho,Instr.build,gx IB,ai hu,aH hs,h1]
     |_=>cases oz
theorem mr {P:Program} {s:TypeId} {f:Nat} {q:Nat×TypeId} (h:mh P s f=some q):∃fs fd,P.underlying s=some (.struct fs)/\fs[f]?=some fd/\fd.offset=q.1/\fd.type=q.2:=by
 unfold mh at h;cases hu:P.underlying s with
 |none=>rw [hu]at h;cases h|some d=>
  rw [hu]at h;cases d with
  |struct fs=>
   cases hf:fs[f]? with
   |none=>simp [hf]at h|some fd=>simp [hf]at h;exact⟨fs,fd,rfl,hf,by rw [<-h],by rw [<-h]⟩
  |_=>cases h
theorem CV {o:Oper} {t:TypeId} {x:Operand} (ho:o.op= .sliceToArrayPointer t x):fA (uC t x) o:=by
 intro P r μ a v hg hr hv;unfold uC at hv;have hx:=aT hg hr x;split at hv
 .rename_i n e hu;split at hv
  .rename_i id m sz he;rw [he]at hx;obtain⟨B,hB,hx⟩:=hx;cases hb:aF (bQ 0 n) (Nat.ble n m)with
   |false=>rw [hb]at hv;cases hv|true=>
    rw [hb]at hv;cases hv;obtain⟨b1,b2⟩:=aw.1 hb;have b1:0<n:=Nat.le_of_ble_eq_true b1;have b2:=Nat.le_of_ble_eq_true b2;rcases hx with ⟨c,hx,_⟩|⟨e0,_⟩
    .have hx:=(List.cons.inj hx).1;refine⟨.pointer (some ⟨B.b,B.base+0,none⟩),λw=>?_,B,hB,rfl⟩;simp only [execOp,ho,hx,Instr.arrayAt,Sem.run_bind,ai hu,Result.andThen_ok];rw [if_neg (by omega)];rfl
    .omega
  .rename_i id off m cap sz he;rw [he]at hx;obtain⟨B,c,hB,hx,_⟩:=hx;cases hb:aF (bQ 0 n) (Nat.ble n m)with
   |false=>rw [hb]at hv;cases hv|true=>
    rw [hb]at hv;cases hv;obtain⟨b1,b2⟩:=aw.1 hb;have b2:=Nat.le_of_ble_eq_true b2;have hx:=(List.cons.inj hx).1;refine⟨.pointer (some ⟨B.b,B.base+off,none⟩),λw=>?_,B,hB,rfl⟩;simp only [execOp,ho,hx,Instr.arrayAt,Sem.run_bind,ai hu,Result.andThen_ok];rw [if_neg (by omega)];rfl
  .rename_i m l he;rw [he]at hx;obtain⟨xs,h1,hx⟩:=hx;cases hb:aF (bQ 0 n) (Nat.ble n m)with
   |false=>rw [hb]at hv;cases hv|true=>
    rw [hb]at hv;cases hv;obtain⟨b1,b2⟩:=aw.1 hb;have b1:0<n:=Nat.le_of_ble_eq_true b1;have b2:=Nat.le_of_ble_eq_true b2;rcases hx with ⟨b,o',c,hx,_,hs⟩|⟨e0,_⟩
    .have hx:=(List.cons.inj hx).1;refine⟨.pointer (some ⟨b,o'+0,none⟩),λw=>?_,b,o',xs,rfl,h1,hs⟩;simp only [execOp,ho,hx,Instr.arrayAt,Sem.run_bind,ai hu,Result.andThen_ok];rw [if_neg (by omega)];rfl
    .omega
  .cases hv
 .cases hv
theorem yy {o:Oper} {s:TypeId} {x:Operand} {f:Nat} (ho:o.op= .fieldAddr s x f):fA (pd s x f) o:=by
 intro P r μ a v hg hr hv;unfold pd at hv;have hx:=aT hg hr x;split at hv
 .rename_i id off he;rw [he]at hx;obtain⟨B,hB,hx⟩:=hx;have hx:a.eval x= .pointer (some ⟨B.b,B.base+off,none⟩):=by simpa using hx
  cases hk:kn P s f with
  |none=>rw [hk]at hv;cases hv|some k=>
   rw [hk]at hv;cases hv;unfold kn at hk;cases hq:mh P s f with
   |none=>rw [hq]at hk;cases hk|some q=>
    rw [hq]at hk;obtain⟨fs,fd,h1,h2,h3,h4⟩:=mr hq;cases hn:fL P q.2 with
    |none=>simp [hn]at hk|some n=>
     simp [hn]at hk;obtain⟨IC,hk⟩:=hk;refine⟨.pointer (some ⟨B.b,B.base+(off+k),none⟩),λw=>?_,B,hB,rfl⟩;have hs:(sizeOf fd.type).run P w= .ok n w:=aH (by rw [h4];exact hn);simp [execOp,ho,hx,Instr.fieldAt,ai h1,h2,Instr.sureAddr,fieldPlace,hs,IC,addr_add,h3,hk];omega
 .rename_i l j he;rw [he]at hx;obtain⟨b,o',xs,hx,hl,wS⟩:=hx;have hx:a.eval x= .pointer (some ⟨b,o'+j,none⟩):=by simpa using hx
  cases hk:kn P s f with
  |none=>rw [hk]at hv;cases hv|some k=>
   rw [hk]at hv;cases hv;unfold kn at hk;cases hq:mh P s f with
   |none=>rw [hq]at hk;cases hk|some q=>
    rw [hq]at hk;obtain⟨fs,fd,h1,h2,h3,h4⟩:=mr hq;cases hn:fL P q.2 with
    |none=>simp [hn]at hk|some n=>
     simp [hn]at hk;obtain⟨IC,hk⟩:=hk;refine⟨.pointer (some ⟨b,o'+(j+k),none⟩),λw=>?_,b,o',xs,rfl,hl,wS⟩;have hs:(sizeOf fd.type).run P w= .ok n w:=aH (by rw [h4];exact hn);simp [execOp,ho,hx,Instr.fieldAt,ai h1,h2,Instr.sureAddr,fieldPlace,hs,IC,addr_add,h3,hk];omega
 .cases hv
theorem gS {P:Program} {μ:Mu} {t:TypeId} {l:AV} {cs:Array Value} {off:Nat} {v:AV} (hl:cG μ l cs.toList) (hv:sG P t l off=some v):
  ∃cv,(∀w,(part t cs off).run P w= .ok cv w)/\dw μ v cv:=by
 unfold sG at hv;cases ht:qt P t with
 |none=>rw [ht]at hv;cases hv|some m=>
  rw [ht]at hv;rcases qC ht with ⟨rfl,ha⟩|⟨n,rfl,hs,ha⟩
  .simp only at hv;split at hv
   .rename_i y u hd;cases hv;obtain⟨cv,h1,h2⟩:=cG.drop_cons off hl hd;have h1:cs[off]?=some cv:=(by simpa using h1);exact⟨cv,λw=>by simp [part,ha,h1],h2⟩
   .cases hv
  .change (dQ n (cX off l)).map .agg=some v at hv;cases htk:dQ n (cX off l)with
   |none=>rw [htk]at hv;cases hv|some l'=>
    rw [htk]at hv;cases hv;refine⟨.agg (cs.extract off (off+n)),λw=>by simp [part,ha,aH hs],_,rfl,?_⟩;by_cases hle:off<=cs.toList.length\/n=0
    .by_cases Xk:n=0
     .subst Xk;cases (show some AV.nil=some l' from htk);have:(cs.extract off (off+0)).toList=[]:=(by simp);rw [this];rfl
     have hle:=hle.resolve_right Xk;have h1:=cG.drop off hl hle;have h2:=cG.take n h1 htk;have:(cs.extract off (off+n)).toList=(cs.toList.drop off).take n:=by
      rw [Array.toList_extract,List.extract_eq_take_drop,Nat.add_sub_cancel_left]
     rw [this];exact h2.1
    .exfalso;have h0:¬off<=cs.toList.length:=λe=>hle (.inl e);have IC:n≠0:=λe=>hle (.inr e);have h3:=hl.len;have key:∀(k:Nat) (l:AV) (vs:List Value),cG μ l vs ->vs.length<k ->cX k l= .undef:=by
      intro k;induction k with
      |zero=>intro l vs _ h;omega|succ k ih=>
       intro l vs h hk;cases l with
       |cons y u=>obtain⟨v,r,rfl,_,h2⟩:=h;exact ih u r h2 (by simpa using hk)
       |nil=>rfl|_=>exact h.elim
     rw [key off l _ hl (by omega)]at htk;cases n with
     |zero=>exact IC rfl|succ n=>cases htk
theorem ID {o:Oper} {t:TypeId} {x:Operand} {f:Nat} (ho:o.op= .field t x f):fA (CJ t x f) o:=by
 intro P r μ a v hg hr hv;unfold CJ at hv;have hx:=aT hg hr x;split at hv
 .rename_i l he;rw [he]at hx;obtain⟨c,hc,hl⟩:=hx;have hc:a.eval x= .agg c:=by simpa using hc
  cases hq:mh P t f with
  |none=>rw [hq]at hv;cases hv|some q=>
   rw [hq]at hv;obtain⟨fs,fd,h1,h2,h3,h4⟩:=mr hq;obtain⟨cv,h5,h6⟩:=gS hl hv;exact⟨cv,λw=>by simp [execOp,ho,hc,Instr.field,ai h1,h2,asAgg,h3,h4,h5],h6⟩
 .cases hv
theorem lZ {μ:Mu} {x:AV} {cv:Value} (hx:dw μ x cv) {len:Nat} {k:Nat ->Option AV} {v:AV} (h:idx x len k=some v):∃kd i,cv= .int kd (Int.ofNat i)/\i<len/\k i=some v:=by
 unfold idx at h;split at h
 .rename_i kd i;have hx:cv= .int kd (Int.ofNat i):=by simpa [VR]using hx
  cases hl:bQ i len with
  |false=>rw [hl]at h;cases h|true=>rw [hl]at h;exact⟨kd,i,hx,bC.1 hl,h⟩
 .cases h
theorem yz {o:Oper} {t:TypeId} {x ix:Operand} (ho:o.op= .indexAddr t x ix):fA (fS t x ix) o:=by
 intro P r μ a v hg hr hv;unfold fS at hv;have hx:=aT hg hr x;have hi:=aT hg hr ix;split at hv
 .rename_i e id off len cap sz hu he;rw [he]at hx;obtain⟨B,c,hB,hx,AM,Fa,hc3⟩:=hx;have hx:a.eval x= .slice (some ⟨B.b,B.base+off,none⟩) len c:=by simpa using hx
  cases hz:fL P e with
  |none=>rw [hz]at hv;cases hv|some z=>
   simp only [hz]at hv;cases iJ:Nat.beq z sz with
   |false=>simp only [iJ]at hv;cases hv|true=>
    have iJ:=Nat.eq_of_beq_eq_true iJ;subst iJ;simp only [Nat.beq_refl]at hv;obtain⟨kd,i,h1,h2,h3⟩:=lZ hi hv;cases h3;refine⟨.pointer (some ⟨B.b,B.base+(off+i*z),none⟩),λw=>?_,B,hB,rfl⟩;simp [execOp,ho,hx,h1,Instr.indexAt,asIntOf,ai hu,aH hz,addr_add,h2];omega
 .rename_i e n l hu he;rw [he]at hx;obtain⟨xs,hl,hx⟩:=hx;cases hz:fL P e with
  |none=>rw [hz]at hv;cases hv|some z=>
   simp only [hz]at hv;obtain⟨kd,i,h1,h2,h3⟩:=lZ hi hv;cases h3;rcases hx with ⟨b,o',c,hx,hn,hs⟩|⟨e0,_⟩
   .have hx:a.eval x= .slice (some ⟨b,o',none⟩) n c:=(by simpa using hx);refine⟨.pointer (some ⟨b,o'+i*z,none⟩),λw=>?_,b,o',xs,rfl,hl,hs⟩;simp [execOp,ho,hx,h1,Instr.indexAt,asIntOf,ai hu,aH hz,addr_add,h2]
   .omega
 .rename_i e id n sz hu he;rw [he]at hx;obtain⟨B,hB,hx⟩:=hx;cases hz:fL P e with
  |none=>rw [hz]at hv;cases hv|some z=>
   simp only [hz]at hv;cases iJ:Nat.beq z sz with
   |false=>simp only [iJ]at hv;cases hv|true=>
    have iJ:=Nat.eq_of_beq_eq_true iJ;subst iJ;simp only [Nat.beq_refl]at hv;obtain⟨kd,i,h1,h2,h3⟩:=lZ hi hv;cases h3;rcases hx with ⟨c,hx,hn,_⟩|⟨e0,_⟩
    .have hx:a.eval x= .slice (some ⟨B.b,B.base,none⟩) n c:=(by simpa using hx);refine⟨.pointer (some ⟨B.b,B.base+i*z,none⟩),λw=>?_,B,hB,rfl⟩;simp [execOp,ho,hx,h1,Instr.indexAt,asIntOf,ai hu,aH hz,addr_add,h2]
    .omega
 .rename_i len e id off hu he;rw [he]at hx;obtain⟨B,hB,hx⟩:=hx;have hx:a.eval x= .pointer (some ⟨B.b,B.base+off,none⟩):=by simpa using hx
  cases hz:fL P e with
  |none=>rw [hz]at hv;cases hv|some z=>
   simp only [hz]at hv;obtain⟨kd,i,h1,h2,h3⟩:=lZ hi hv;cases h3;refine⟨.pointer (some ⟨B.b,B.base+(off+i*z),none⟩),λw=>?_,B,hB,rfl⟩;simp [execOp,ho,hx,h1,Instr.indexAt,asIntOf,ai hu,Instr.sureAddr,aH hz,addr_add,h2];omega
 .rename_i len e l k hu he;rw [he]at hx;obtain⟨b,o',xs,hx,hl,hs⟩:=hx;have hx:a.eval x= .pointer (some ⟨b,o'+k,none⟩):=by simpa using hx
  cases hz:fL P e with
  |none=>rw [hz]at hv;cases hv|some z=>
   simp only [hz]at hv;obtain⟨kd,i,h1,h2,h3⟩:=lZ hi hv;cases h3;refine⟨.pointer (some ⟨b,o'+(k+i*z),none⟩),λw=>?_,b,o',xs,rfl,hl,hs⟩;simp [execOp,ho,hx,h1,Instr.indexAt,asIntOf,ai hu,Instr.sureAddr,aH hz,addr_add,h2];omega
 .cases hv
theorem Bs:∀(s:List Nat) (i b:Nat),Ra s i=some b ->s[i]?=some b
 |[],i,b,h=>by cases h
 |a::s,0,b,h=>by cases (show some a=some b from h);rfl
 |a::s,i+1,b,h=>by simpa using Bs s i b h
theorem IE {o:Oper} {t:TypeId} {x ix:Operand} (ho:o.op= .index t x ix):fA (tm t x ix) o:=by
 intro P r μ a v hg hr hv;unfold tm at hv;have hx:=aT hg hr x;have hi:=aT hg hr ix;split at hv
 .rename_i s hu he;rw [he]at hx;obtain⟨bs,hx,hs⟩:=hx;have hx:a.eval x= .string bs:=by simpa using hx
  split at hv
  .rename_i kd i hie;rw [hie]at hi;have hi:a.eval ix= .int kd (Int.ofNat i):=(by simpa [VR]using hi);cases hn:Ra s i with
   |none=>rw [hn]at hv;cases hv|some b=>
    rw [hn]at hv;cases hv;have hb:=Bs _ _ _ hn;rw [<-hs]at hb;simp only [List.getElem?_map]at hb;cases hbi:bs.data.toList[i]? with
    |none=>rw [hbi]at hb;cases hb|some u=>
     rw [hbi]at hb;have hb:u.toNat=b:=(by simpa using hb);refine⟨.int .u8 b,λw=>?_,rfl⟩;have hsz:i<bs.size:=by
      have:=(List.getElem?_eq_some_iff.1 hbi).1;rw [Array.length_toList]at this;exact this
     have ais:bs[i]?=some u:=by
      rw [Array.getElem?_toList]at hbi;obtain⟨cJ,he⟩:=Array.getElem?_eq_some_iff.1 hbi;rw [getElem?_pos bs i hsz];exact congrArg some he
     have bH:(Instr.index t (.string bs) (.int kd (i:Int))).run P w= .ok (.int .u8 b) w:=by
      unfold Instr.index;simp only [asIntOf,Sem.run_bind,Sem.run_pure,Result.andThen_ok,ai hu];rw [if_pos (Int.natCast_nonneg i)];rw [show((i:Int)).toNat=i from rfl,ais];simp only [Sem.run_pure,hb]
     simp [execOp,ho,hx,hi,bH]
  .cases hv
 .rename_i len e l hu he;rw [he]at hx;obtain⟨c,hc,hl⟩:=hx;have hc:a.eval x= .agg c:=by simpa using hc
  cases hz:fL P e with
  |none=>rw [hz]at hv;cases hv|some z=>
   simp only [hz]at hv;obtain⟨kd,i,h1,h2,h3⟩:=lZ hi hv;obtain⟨cv,h5,h6⟩:=gS hl h3;refine⟨cv,λw=>?_,h6⟩;have h5:∀w,(part e c (i*z)).run P w= .ok cv w:=h5;simp [execOp,ho,hc,h1,Instr.index,asIntOf,ai hu,aH hz,h2,h5]
 .cases hv
end
end
end Go.Sy
