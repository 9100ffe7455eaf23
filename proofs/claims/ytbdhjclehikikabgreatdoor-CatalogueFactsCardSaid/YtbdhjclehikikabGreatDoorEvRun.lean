/- The evaluator: what the model's code does, over abstract values and memory. -/
import Derived.Test.YtbdhjclehikikabGreatDoorEvBase
namespace Go.Ev
noncomputable section
set_option linter.unusedVariables false

/-! ### Numbers -/
def natLt (a b : Nat) : Bool := Nat.ble (Nat.succ a) b
def ilt (x y : Int) : Bool :=
  Int.casesOn x (fun a => Int.casesOn y (fun b => natLt a b) (fun _ => false)) (fun a => Int.casesOn y (fun _ => true) (fun b => natLt b a))
def ile (x y : Int) : Bool := Bool.casesOn (ilt y x) true false
def ieq (x y : Int) : Bool :=
  Int.casesOn x (fun a => Int.casesOn y (fun b => Nat.beq a b) (fun _ => false)) (fun a => Int.casesOn y (fun _ => false) (fun b => Nat.beq a b))
def bnot (b : Bool) : Bool := Bool.casesOn b true false
def band (a b : Bool) : Bool := Bool.casesOn a false b
/-- The numbers of a kind: from -neg to top - 1. -/
def kneg (k : IntKind) : Nat := IntKind.casesOn k 128 32768 2147483648 9223372036854775808 0 0 0 0
def ktop (k : IntKind) : Nat := IntKind.casesOn k 128 32768 2147483648 9223372036854775808 256 65536 4294967296 18446744073709551616
def kcode (k : IntKind) : Nat := IntKind.casesOn k 0 1 2 3 4 5 6 7
def keq (k l : IntKind) : Bool := Nat.beq (kcode k) (kcode l)
def fits (k : IntKind) (n : Int) : Bool := Int.casesOn n (fun a => natLt a (ktop k)) (fun a => natLt a (kneg k))
def iwrap (k : IntKind) (n : Int) : Int := Bool.casesOn (fits k n) (IntKind.wrap k n) n

/-! ### Operands -/
def ofL (l : List AV) : AV := List.rec .nil (fun a _ t => .cons a t) l
def bytesOf (s : ByteArray) : List Nat := s.data.toList.map UInt8.toNat
def sliceC (l c : Nat) : AV := Bool.casesOn (Nat.beq l 0) .undef (Bool.casesOn (Nat.beq c 0) .undef .nils)
def funcC (fn : Fn) (f c : List Value) : AV :=
  List.casesOn f (List.casesOn c (Fn.casesOn fn (fun g => .func (.func g) .nil .nil) (fun _ => .undef) (fun _ _ => .undef) (fun _ _ _ _ => .undef) (fun _ => .undef)) (fun _ _ => .undef)) (fun _ _ => .undef)
def constS (v : Value) : AV :=
  match v with
  | .bool b => .bool b
  | .int k n => .int k n
  | .string s => .str (bytesOf s)
  | .pointer none => .nilp
  | .slice none l c => sliceC l c
  | .map none => .nilm
  | .func fn f c => funcC fn f.toList c.toList
  | .nilFunc => .nilf
  | .nilIface => .nili
  | _ => .undef
def constAV (v : Value) : AV :=
  match v with
  | .agg cs => .agg (ofL (cs.toList.map constS))
  | .tuple vs => List.casesOn vs.toList (.tup .nil) (fun _ _ => .undef)
  | v => constS v
def gv (o : Option AV) : AV := Option.casesOn (motive := fun _ => AV) o .undef (fun v => v)
def ev (x : Operand) : Tr AV → AV :=
  Operand.casesOn (motive := fun _ => Tr AV → AV) x (fun t r => gv (r.get (pathOf t))) (fun v _ => constAV v) (fun g _ => Bool.casesOn (motive := fun _ => AV) (natLt g 64) .undef (.ptr (pathOf g) 0))
    (fun f _ => .func (.func f) .nil .nil)
def evs (l : List Operand) : Tr AV → AV := List.rec (motive := fun _ => Tr AV → AV) (fun _ => .nil) (fun x _ ih r => .cons (ev x r) (ih r)) l

/-! ### Lists of cells -/
/-- The cells of a value; only what may stand in one cell. -/
def AV.isCell (v : AV) : Bool :=
  AV.casesOn v false (fun _ => true) (fun _ _ => true) (fun _ _ _ => true) (fun _ => true) (fun _ => true) (fun _ _ => true) true (fun _ _ _ _ _ => true) (fun _ _ => true) true
    (fun _ => true) true (fun _ _ _ => true) (fun _ => true) true (fun _ _ => true) true (fun _ => false) (fun _ => false) false (fun _ _ => false)
def AV.cells (v : AV) : AV :=
  AV.casesOn (motive := fun _ => AV) v (.cons .undef .nil) (fun b => .cons (.bool b) .nil) (fun k n => .cons (.int k n) .nil) (fun k a b => .cons (.rng k a b) .nil) (fun s => .cons (.str s) .nil)
    (fun m => .cons (.ustr m) .nil) (fun i o => .cons (.ptr i o) .nil) (.cons .nilp .nil) (fun i a b c d => .cons (.slice i a b c d) .nil) (fun i s => .cons (.sle i s) .nil) (.cons .nils .nil)
    (fun i => .cons (.map i) .nil) (.cons .nilm .nil) (fun f a b => .cons (.func f a b) .nil) (fun i => .cons (.yield i) .nil) (.cons .nilf .nil) (fun t a => .cons (.iface t a) .nil) (.cons .nili .nil)
    (fun l => l) (fun _ => .cons .undef .nil) (.cons .undef .nil) (fun _ _ => .cons .undef .nil)
/-- The length of a list; what is no list has none. -/
def AV.len (v : AV) : Nat :=
  AV.rec (motive := fun _ => Nat) 0 (fun _ => 0) (fun _ _ => 0) (fun _ _ _ => 0) (fun _ => 0) (fun _ => 0) (fun _ _ => 0) 0 (fun _ _ _ _ _ => 0) (fun _ _ => 0) 0
    (fun _ => 0) 0 (fun _ _ _ _ _ => 0) (fun _ => 0) 0 (fun _ _ _ => 0) 0 (fun _ _ => 0) (fun _ _ => 0) 0 (fun _ _ _ n => Nat.succ n) v
/-- Read 'n' cells from 'off' on. -/
def coll (c : Tr AV) (n : Nat) : Nat → Option AV :=
  Nat.rec (motive := fun _ => Nat → Option AV) (fun _ => some .nil)
    (fun _ ih off => Option.casesOn (motive := fun _ => Option AV) (c.get (pathOf off)) none (fun v => Option.casesOn (motive := fun _ => Option AV) (ih (Nat.succ off)) none (fun l => some (.cons v l)))) n
/-- Lay a list of 'n' cells from 'off' on. -/
def lay (n : Nat) : AV → Nat → Tr AV → Option (Tr AV) :=
  Nat.rec (motive := fun _ => AV → Nat → Tr AV → Option (Tr AV))
    (fun l _ c => match l with | .nil => some c | _ => none)
    (fun _ ih l off c => match l with
      | .cons a t => Bool.casesOn (motive := fun _ => Option (Tr AV)) a.isCell none (ih t (Nat.succ off) (c.set a (pathOf off)))
      | _ => none) n
/-- n times the list z in front of l. -/
def app (a : AV) : AV → AV :=
  AV.rec (motive := fun _ => AV → AV) (fun b => b) (fun _ b => b) (fun _ _ b => b) (fun _ _ _ b => b) (fun _ b => b) (fun _ b => b) (fun _ _ b => b) (fun b => b) (fun _ _ _ _ _ b => b) (fun _ _ b => b) (fun b => b)
    (fun _ b => b) (fun b => b) (fun _ _ _ _ _ b => b) (fun _ b => b) (fun b => b) (fun _ _ _ b => b) (fun b => b) (fun _ _ b => b) (fun _ _ b => b) (fun b => b) (fun h _ _ ih b => .cons h (ih b)) a
def reps (n : Nat) (z : AV) : AV := Nat.rec .nil (fun _ t => app z t) n
def takeL (n : Nat) : AV → Option AV :=
  Nat.rec (motive := fun _ => AV → Option AV) (fun _ => some .nil)
    (fun _ ih l => match l with
      | .cons a t => Option.casesOn (motive := fun _ => Option AV) (ih t) none (fun l => some (.cons a l))
      | _ => none) n
def dropL (n : Nat) : AV → AV :=
  Nat.rec (motive := fun _ => AV → AV) (fun l => l) (fun _ ih l => match l with | .cons _ t => ih t | _ => .undef) n
/-- Put the list p into l at 'off' (l has at least off + |p| cells). -/
def splice (off : Nat) : AV → AV → AV :=
  Nat.rec (motive := fun _ => AV → AV → AV)
    (fun l p => AV.rec (motive := fun _ => AV → AV) (fun _ => .undef) (fun _ _ => .undef) (fun _ _ _ => .undef) (fun _ _ _ _ => .undef) (fun _ _ => .undef) (fun _ _ => .undef) (fun _ _ _ => .undef) (fun _ => .undef)
      (fun _ _ _ _ _ _ => .undef) (fun _ _ _ => .undef) (fun _ => .undef) (fun _ _ => .undef) (fun _ => .undef) (fun _ _ _ _ _ _ => .undef) (fun _ _ => .undef) (fun _ => .undef) (fun _ _ _ _ => .undef) (fun _ => .undef)
      (fun _ _ _ => .undef) (fun _ _ _ => .undef) (fun l => l) (fun h _ _ ih l => match l with | .cons _ t => .cons h (ih t) | _ => .undef) p l)
    (fun _ ih l p => match l with | .cons a t => .cons a (ih t p) | _ => .undef) off

/-! ### What the program's types say -/
def tsz (P : Program) (t : TypeId) : Option Nat := (P.info? t).map (·.size)
def tzero (P : Program) (t : TypeId) : Option Value := (P.info? t).bind (·.zero)
def tbytes (P : Program) (t : TypeId) : Option Nat := (P.info? t).map (·.bytes)
/-- How a variable of a type is read: as one cell, or as so many. -/
def tload (P : Program) (t : TypeId) : Option (Option Nat) :=
  match P.underlying t with
  | some (.struct _) | some (.array _ _) => (tsz P t).map some
  | some _ => some none
  | none => none
def telem (P : Program) (t : TypeId) : Option TypeId := match P.underlying t with | some (.slice e) => some e | _ => none
/-- What a value's cells can be told of. -/
def okV (v : AV) : Bool :=
  AV.casesOn v false (fun _ => true) (fun _ _ => true) (fun _ _ _ => true) (fun _ => true) (fun _ => true) (fun _ _ => true) true (fun _ _ _ _ _ => true) (fun _ _ => true) true
    (fun _ => true) true (fun _ _ _ => true) (fun _ => true) true (fun _ _ => true) true (fun _ => true) (fun _ => false) false (fun _ _ => false)
/-- The cells of the zero value, as a list. -/
def tzcells (P : Program) (t : TypeId) : Option AV := (tzero P t).bind fun v => Bool.casesOn (motive := fun _ => Option AV) (okV (constAV v)) none (some (constAV v).cells)

/-- What an allocating operation hands out: a pointer to its block, or a slice of it. -/
inductive MK where
  | ptr
  | slice (len cap sz : Nat)
def MK.av (m : MK) : Pos → AV := MK.casesOn (motive := fun _ => Pos → AV) m (fun id => .ptr id 0) (fun l c z id => .slice id 0 l c z)
/-- Cells, their number, what is handed out. -/
structure AL where
  l : AV
  n : Nat
  k : MK
/-- The kinds of operations: what only computes; what reads memory; what makes a block; what may change memory. -/
inductive OC where
  | bad
  | pure (f : Program → Tr AV → Option AV)
  | load (f : Program → Tr AV → Heap → Option AV)
  | alloc (f : Program → Tr AV → Option AL)
  | eff (f : Program → Tr AV → Heap → OR)

/-! ### Memory -/
def cellsAt (h : Heap) (id : Pos) : Option (Tr AV × Nat × Bool) :=
  Option.casesOn (motive := fun _ => Option (Tr AV × Nat × Bool)) (h.t.get id) none
    (fun o => AO.casesOn (motive := fun _ => Option (Tr AV × Nat × Bool)) o (fun t n ro => some (t, n, ro)) (fun _ _ _ _ _ _ _ _ _ => none) none)
/-- A new block of cells. -/
def newCells (l : AV) (n : Nat) (h : Heap) (k : MK) : OR :=
  Option.casesOn (motive := fun _ => OR) (lay n l 0 .leaf) .fail (fun t => .val (k.av h.n) ⟨h.t.set (.cells t n false) h.n, h.n.succ⟩)

def readAt (P : Program) (t : TypeId) (c : Tr AV) (off : Nat) : Option AV :=
  Option.casesOn (motive := fun _ => Option AV) (tload P t) none (fun m =>
    Option.casesOn (motive := fun _ => Option AV) m (c.get (pathOf off)) (fun n => (coll c n off).map .agg))
def loadA (P : Program) (t : TypeId) (a : AV) (h : Heap) : Option AV :=
  match a with
  | .ptr id off => Option.casesOn (motive := fun _ => Option AV) (cellsAt h id) none (fun x => readAt P t x.1 off)
  | _ => none
def xLoad (t : TypeId) (a : Operand) (P : Program) (r : Tr AV) (h : Heap) : Option AV := loadA P t (ev a r) h
/-- Write a list of n cells into a block. -/
def putAt (id : Pos) (off n : Nat) (l : AV) (h : Heap) : Option Heap :=
  Option.casesOn (motive := fun _ => Option Heap) (cellsAt h id) none (fun x =>
    Bool.casesOn (motive := fun _ => Option Heap) x.2.2
      (Bool.casesOn (motive := fun _ => Option Heap) (Nat.ble (Nat.add off n) x.2.1) none
        (Option.casesOn (motive := fun _ => Option Heap) (lay n l off x.1) none (fun t => some ⟨h.t.set (.cells t x.2.1 false) id, h.n⟩)))
      none)
def xStore (t : TypeId) (a x : Operand) (P : Program) (r : Tr AV) (h : Heap) : OR :=
  match ev a r with
  | .ptr id off => Option.casesOn (motive := fun _ => OR) (tsz P t) .fail (fun n => Option.casesOn (motive := fun _ => OR) (putAt id off n (ev x r).cells h) .fail (fun h' => .val (.tup .nil) h'))
  | _ => .fail
def xBox (_ : TypeId) (x : Operand) (_ : Program) (r : Tr AV) : Option AL := some ⟨(ev x r).cells, (ev x r).cells.len, .ptr⟩
def xAlloc (t : TypeId) (P : Program) (_ : Tr AV) : Option AL := Option.casesOn (motive := fun _ => Option AL) (tzcells P t) none (fun z => some ⟨z, z.len, .ptr⟩)

/-- The places of a composite's parts: cells from .. on, so many. -/
def places (P : Program) (t : TypeId) : Option (Nat → Option (Nat × Nat)) :=
  match P.underlying t with
  | some (.struct fs) => Bool.casesOn (motive := fun _ => Option (Nat → Option (Nat × Nat))) (fs.toList.all fun f => (tsz P f.type).isSome) none (some fun i => (fs[i]?).bind fun f => (tsz P f.type).map fun n => (f.offset, n))
  | some (.array _ e) => (tsz P e).map fun n => fun i => some (i * n, n)
  | _ => none

def fills (place : Nat → Option (Nat × Nat)) (tot : Nat) (ps : List (Nat × Operand)) : Tr AV → AV → Option AV :=
  List.rec (motive := fun _ => Tr AV → AV → Option AV) (fun _ l => some l)
    (fun p _ ih r l => Option.casesOn (motive := fun _ => Option AV) (place p.1) none (fun q =>
      Bool.casesOn (motive := fun _ => Option AV) (band (band (okV (ev p.2 r)) (Nat.beq (ev p.2 r).cells.len q.2)) (Nat.ble (Nat.add q.1 q.2) tot)) none (ih r (splice q.1 l (ev p.2 r).cells)))) ps
def xBuild (t : TypeId) (ps : Array (Nat × Operand)) (P : Program) (r : Tr AV) : Option AV :=
  Option.casesOn (motive := fun _ => Option AV) (tzcells P t) none (fun z =>
    Option.casesOn (motive := fun _ => Option AV) (places P t) none (fun pl => (fills pl z.len ps.toList r z).map .agg))
def xBuildSlice (t : TypeId) (len : Nat) (ps : Array (Nat × Operand)) (P : Program) (r : Tr AV) : Option AL :=
  Option.casesOn (motive := fun _ => Option AL) (telem P t) none (fun e =>
    Option.casesOn (motive := fun _ => Option AL) (tzcells P e) none (fun z =>
      Option.casesOn (motive := fun _ => Option AL) (tsz P e) none (fun sz =>
        Bool.casesOn (motive := fun _ => Option AL) (band (Nat.beq z.len sz) (Nat.ble (Nat.mul len sz) 16777216)) none
          (Option.casesOn (motive := fun _ => Option AL) (fills (fun i => some (i * sz, sz)) (Nat.mul len sz) ps.toList r (reps len z)) none
            (fun l => some ⟨l, Nat.mul len sz, .slice len len sz⟩)))))

/-! ### Addresses, parts -/
def fieldOff (P : Program) (s : TypeId) (f : Nat) : Option (Nat × TypeId) :=
  match P.underlying s with
  | some (.struct fs) => (fs[f]?).map fun f => (f.offset, f.type)
  | _ => none
def fieldOffNz (P : Program) (s : TypeId) (f : Nat) : Option Nat :=
  (fieldOff P s f).bind fun q => (tsz P q.2).bind fun n => if n = 0 then none else some q.1
def xFieldAddr (s : TypeId) (x : Operand) (f : Nat) (P : Program) (r : Tr AV) : Option AV :=
  match ev x r with
  | .ptr id off => Option.casesOn (motive := fun _ => Option AV) (fieldOffNz P s f) none (fun k => some (.ptr id (Nat.add off k)))
  | _ => none
/-- A part of a list of cells, as a value of a type. -/
def partA (P : Program) (t : TypeId) (l : AV) (off : Nat) : Option AV :=
  Option.casesOn (motive := fun _ => Option AV) (tload P t) none (fun m =>
    Option.casesOn (motive := fun _ => Option AV) m (match dropL off l with | .cons a _ => some a | _ => none) (fun n => (takeL n (dropL off l)).map .agg))
def xField (t : TypeId) (x : Operand) (f : Nat) (P : Program) (r : Tr AV) : Option AV :=
  match ev x r with
  | .agg l => Option.casesOn (motive := fun _ => Option AV) (fieldOff P t f) none (fun q => partA P q.2 l q.1)
  | _ => none
def xExtract (x : Operand) (i : Nat) (_ : Program) (r : Tr AV) : Option AV :=
  match ev x r with
  | .tup l => (match dropL i l with | .cons a _ => some a | _ => none)
  | _ => none
/-- An index below a bound. -/
def idx (v : AV) (len : Nat) (k : Nat → Option AV) : Option AV :=
  match v with
  | .int _ (.ofNat i) => Bool.casesOn (motive := fun _ => Option AV) (natLt i len) none (k i)
  | _ => none
def xIndexAddr (t : TypeId) (x ix : Operand) (P : Program) (r : Tr AV) : Option AV :=
  match P.underlying t, ev x r with
  | some (.slice e), .slice id off len cap sz => Option.casesOn (motive := fun _ => Option AV) (tsz P e) none (fun z =>
      Bool.casesOn (motive := fun _ => Option AV) (Nat.beq z sz) none (idx (ev ix r) len (fun i => some (.ptr id (Nat.add off (Nat.mul i sz))))))
  | some (.array len e), .ptr id off => Option.casesOn (motive := fun _ => Option AV) (tsz P e) none (fun sz => idx (ev ix r) len (fun i => some (.ptr id (Nat.add off (Nat.mul i sz)))))
  | _, _ => none
def nthB (s : List Nat) : Nat → Option Nat := List.rec (motive := fun _ => Nat → Option Nat) (fun _ => none) (fun a _ ih n => Nat.casesOn (motive := fun _ => Option Nat) n (some a) ih) s
def xIndex (t : TypeId) (x ix : Operand) (P : Program) (r : Tr AV) : Option AV :=
  match P.underlying t, ev x r with
  | some .string, .str s => (match ev ix r with
    | .int _ (.ofNat i) => Option.casesOn (motive := fun _ => Option AV) (nthB s i) none (fun b => some (.int .u8 (.ofNat b)))
    | _ => none)
  | some (.array len e), .agg l => Option.casesOn (motive := fun _ => Option AV) (tsz P e) none (fun sz => idx (ev ix r) len (fun i => partA P e l (Nat.mul i sz)))
  | _, _ => none

/-! ### Slices -/
def bound (v : Option AV) (dflt most : Nat) (k : Nat → Option AV) : Option AV :=
  match v with
  | none => k dflt
  | some (.int _ (.ofNat i)) => Bool.casesOn (motive := fun _ => Option AV) (Nat.ble i most) none (k i)
  | some _ => none
def subS (s : List Nat) (l n : Nat) : List Nat := (s.drop l).take n
def xSlice (t : TypeId) (x : Operand) (lo hi mx : Option Operand) (P : Program) (r : Tr AV) : Option AV :=
  match mx with
  | some _ => none
  | none =>
    match P.underlying t, ev x r with
    | some .string, .str s =>
      bound (hi.map (ev · r)) s.length s.length fun hh => bound (lo.map (ev · r)) 0 hh fun ll => some (.str (subS s ll (hh - ll)))
    | some (.slice e), .slice id off len cap sz =>
      Option.casesOn (motive := fun _ => Option AV) (tsz P e) none fun z => Bool.casesOn (motive := fun _ => Option AV) (Nat.beq z sz) none
      (bound (hi.map (ev · r)) len cap fun hh => bound (lo.map (ev · r)) 0 hh fun ll =>
        Bool.casesOn (motive := fun _ => Option AV) (band (Nat.beq ll cap) (natLt 0 cap)) (some (.slice id (Nat.add off (Nat.mul ll sz)) (hh - ll) (cap - ll) sz)) (some (.sle id sz)))
    | some (.slice e), .nils => Option.casesOn (motive := fun _ => Option AV) (tsz P e) none fun _ => bound (hi.map (ev · r)) 0 0 fun hh => bound (lo.map (ev · r)) 0 hh fun _ => some .nils
    | _, _ => none
/-- A slice of an array's variable asks that its cells are there. -/
def xSliceL (t : TypeId) (x : Operand) (lo hi mx : Option Operand) (P : Program) (r : Tr AV) (h : Heap) : Option AV :=
  match P.underlying t, ev x r with
  | some (.array n e), .ptr id off =>
    (match mx with
     | some _ => none
     | none => Option.casesOn (motive := fun _ => Option AV) (tsz P e) none fun sz => Option.casesOn (motive := fun _ => Option AV) (cellsAt h id) none fun q =>
        Bool.casesOn (motive := fun _ => Option AV) (Nat.ble (Nat.add off (Nat.mul n sz)) q.2.1) none
          (bound (hi.map (ev · r)) n n fun hh => bound (lo.map (ev · r)) 0 hh fun ll =>
            Bool.casesOn (motive := fun _ => Option AV) (natLt ll n) none (some (.slice id (Nat.add off (Nat.mul ll sz)) (hh - ll) (n - ll) sz))))
  | _, _ => xSlice t x lo hi mx P r
def xMakeSlice (t : TypeId) (l c : Operand) (P : Program) (r : Tr AV) : Option AL :=
  Option.casesOn (motive := fun _ => Option AL) (telem P t) none (fun e =>
    Option.casesOn (motive := fun _ => Option AL) (tzcells P e) none (fun z =>
      Option.casesOn (motive := fun _ => Option AL) (tsz P e) none (fun sz =>
        Option.casesOn (motive := fun _ => Option AL) (tbytes P e) none (fun by_ =>
          match ev l r, ev c r with
          | .int _ (.ofNat ln), .int _ (.ofNat cp) =>
            Bool.casesOn (motive := fun _ => Option AL) (band (Nat.beq z.len sz) (band (Nat.ble ln cp) (band (Nat.ble cp 1048576) (Nat.ble by_ 1048576)))) none
              (some ⟨reps cp z, Nat.mul cp sz, .slice ln cp sz⟩)
          | _, _ => none))))

/-! ### Comparisons and arithmetic -/
def bitsOp (f : Nat → Nat → Nat) (k : IntKind) (a b : Int) : Option AV :=
  match a, b with
  | .ofNat x, .ofNat y => some (.int k (.ofNat (f x y)))
  | _, _ => none
def lbeq (a : List Nat) : List Nat → Bool :=
  List.rec (motive := fun _ => List Nat → Bool) (fun b => List.casesOn (motive := fun _ => Bool) b true (fun _ _ => false))
    (fun x _ ih b => List.casesOn (motive := fun _ => Bool) b false (fun y t => Bool.casesOn (motive := fun _ => Bool) (Nat.beq x y) false (ih t))) a
def llt (a : List Nat) : List Nat → Bool :=
  List.rec (motive := fun _ => List Nat → Bool) (fun b => List.casesOn (motive := fun _ => Bool) b false (fun _ _ => true))
    (fun x _ ih b => List.casesOn (motive := fun _ => Bool) b false (fun y t => Bool.casesOn (motive := fun _ => Bool) (natLt x y) (Bool.casesOn (motive := fun _ => Bool) (Nat.beq x y) false (ih t)) true)) a
def sOK (v : Option AV) : Option AV := v
/-- Two numbers of one kind. -/
def binII (op : BinOp) : IntKind → Int → Int → Option AV :=
  BinOp.casesOn (motive := fun _ => IntKind → Int → Int → Option AV) op
    (fun k a b => some (.int k (iwrap k (Int.add a b))))
    (fun k a b => some (.int k (iwrap k (Int.sub a b))))
    (fun k a b => some (.int k (iwrap k (Int.mul a b))))
    (fun k a b => Bool.casesOn (motive := fun _ => Option AV) (ieq b 0) (some (.int k (iwrap k (Int.tdiv a b)))) none)
    (fun k a b => Bool.casesOn (motive := fun _ => Option AV) (ieq b 0) (some (.int k (Int.tmod a b))) none)
    (fun k a b => match a, b with
      | .ofNat x, .ofNat y => Bool.casesOn (motive := fun _ => Option AV) (band (fits k a) (fits k b)) none (some (.int k (.ofNat (Nat.land x y))))
      | _, _ => none)
    (fun k a b => match a, b with
      | .ofNat x, .ofNat y => Bool.casesOn (motive := fun _ => Option AV) (band (fits k a) (fits k b)) none (some (.int k (.ofNat (Nat.lor x y))))
      | _, _ => none)
    (fun k a b => match a, b with
      | .ofNat x, .ofNat y => Bool.casesOn (motive := fun _ => Option AV) (band (fits k a) (fits k b)) none (some (.int k (.ofNat (Nat.xor x y))))
      | _, _ => none)
    (fun _ _ _ => none) (fun _ _ _ => none)
    (fun _ _ _ => none)
    (fun _ a b => some (.bool (ieq a b)))
    (fun _ a b => some (.bool (bnot (ieq a b))))
    (fun _ a b => some (.bool (ilt a b)))
    (fun _ a b => some (.bool (ile a b)))
    (fun _ a b => some (.bool (ilt b a)))
    (fun _ a b => some (.bool (ile b a)))
def kbits (k : IntKind) : Nat := IntKind.casesOn k 8 16 32 64 8 16 32 64
def shiftA (op : BinOp) (k : IntKind) (a : Int) (b : Int) : Option AV :=
  match b with
  | .ofNat n => (match op with
    | .shl => some (.int k (iwrap k (Int.mul a (.ofNat (Nat.pow 2 (Nat.min n (kbits k)))))))
    | .shr => (match a with
      | .ofNat x => some (.int k (.ofNat (Nat.div x (Nat.pow 2 (Nat.min n (kbits k))))))
      | _ => none)
    | _ => none)
  | _ => none
def cmpR (op : BinOp) (lo hi lo' hi' : Int) : Option AV :=
  match op with
  | .lss => if ilt hi lo' then some (.bool true) else if ile hi' lo then some (.bool false) else none
  | .leq => if ile hi lo' then some (.bool true) else if ilt hi' lo then some (.bool false) else none
  | .gtr => if ilt hi' lo then some (.bool true) else if ile hi lo' then some (.bool false) else none
  | .geq => if ile hi' lo then some (.bool true) else if ilt hi lo' then some (.bool false) else none
  | .eql => if ilt hi lo' then some (.bool false) else if ilt hi' lo then some (.bool false) else none
  | .neq => if ilt hi lo' then some (.bool true) else if ilt hi' lo then some (.bool true) else none
  | _ => none
def rngOf (k : IntKind) (lo hi : Int) : Option AV := Bool.casesOn (motive := fun _ => Option AV) (band (fits k lo) (fits k hi)) none (some (.rng k lo hi))
def imin (a b : Int) : Int := Bool.casesOn (motive := fun _ => Int) (ilt a b) b a
def imax (a b : Int) : Int := Bool.casesOn (motive := fun _ => Int) (ilt a b) a b
def binRR (op : BinOp) (k : IntKind) (lo hi lo' hi' : Int) : Option AV :=
  match op with
  | .add => rngOf k (Int.add lo lo') (Int.add hi hi')
  | .sub => rngOf k (Int.sub lo hi') (Int.sub hi lo')
  | .mul => rngOf k (imin (imin (Int.mul lo lo') (Int.mul lo hi')) (imin (Int.mul hi lo') (Int.mul hi hi'))) (imax (imax (Int.mul lo lo') (Int.mul lo hi')) (imax (Int.mul hi lo') (Int.mul hi hi')))
  | op => cmpR op lo hi lo' hi'
def strOp (op : BinOp) (a b : List Nat) : Option AV :=
  match op with
  | .add => Bool.casesOn (motive := fun _ => Option AV) (Nat.ble (Nat.add a.length b.length) 9223372036854775807) none (some (.str (a ++ b)))
  | .eql => some (.bool (lbeq a b))
  | .neq => some (.bool (bnot (lbeq a b)))
  | .lss => some (.bool (llt a b))
  | .gtr => some (.bool (bnot (llt a b || lbeq a b)))
  | .leq => some (.bool (llt a b || lbeq a b))
  | .geq => some (.bool (bnot (llt a b)))
  | _ => none
def eqNil (x y : AV) : Option Bool :=
  match x, y with
  | .nilp, .nilp => some true
  | .nilp, .ptr _ _ => some false
  | .ptr _ _, .nilp => some false
  | .ptr i a, .ptr j b => Bool.casesOn (motive := fun _ => Option Bool) (i.beq j) none (some (Nat.beq a b))
  | .nils, .nils => some true
  | .slice _ _ _ _ _, .nils => some false
  | .sle _ _, .nils => some false
  | .nilf, .nilf => some true
  | .nilf, .func _ _ _ => some false
  | .func _ _ _, .nilf => some false
  | .yield _, .nilf => some false
  | .bool a, .bool b => some (Bool.casesOn (motive := fun _ => Bool) a (bnot b) b)
  | .int k a, .int l b => Bool.casesOn (motive := fun _ => Option Bool) (keq k l) none (some (ieq a b))
  | .str a, .str b => some (lbeq a b)
  | _, _ => none
/-- Equality by the types of the parts. -/
def eqStep (P : Program) (ih : TypeId → AV → AV → Option Bool) (t : TypeId) (x y : AV) : Option Bool :=
  match P.underlying t, x, y with
  | some (.struct fs), .agg xs, .agg ys =>
    if P.stoodInHeld t then none else
    List.rec (motive := fun _ => Option Bool) (some true)
      (fun f _ rest => if f.name = "_" then none else
        match partA P f.type xs f.offset, partA P f.type ys f.offset with
        | some a, some b => (match ih f.type a b with
          | some true => rest
          | some false => some false
          | none => none)
        | _, _ => none) fs.toList
  | some (.array len e), .agg xs, .agg ys =>
    match tsz P e with
    | none => none
    | some n =>
      List.rec (motive := fun _ => Option Bool) (some true)
        (fun i _ rest =>
          match partA P e xs (Nat.mul i n), partA P e ys (Nat.mul i n) with
          | some a, some b => (match ih e a b with
            | some true => rest
            | some false => some false
            | none => none)
          | _, _ => none) (List.range len)
  | some .bool, .bool a, .bool b => some (Bool.casesOn (motive := fun _ => Bool) a (bnot b) b)
  | some (.int _), .int k a, .int l b => Bool.casesOn (motive := fun _ => Option Bool) (keq k l) none (some (ieq a b))
  | some .string, .str a, .str b => some (lbeq a b)
  | _, _, _ => none
def eqV (P : Program) (d : Nat) : TypeId → AV → AV → Option Bool :=
  Nat.rec (motive := fun _ => TypeId → AV → AV → Option Bool) (fun _ _ _ => none) (fun _ ih => eqStep P ih) d
def noGuard (P : Program) (t : TypeId) : Bool := bnot (P.eqGuardType P.depth t)
/-- x == y, by what the operands are. -/
def eqlA (P : Program) (t : TypeId) (x y : AV) : Option Bool :=
  match x, y with
  | .agg _, .agg _ => Bool.casesOn (motive := fun _ => Option Bool) (noGuard P t) none (eqV P 40 t x y)
  | .bool a, .bool b => (match P.underlying t with | some .bool => some (Bool.casesOn (motive := fun _ => Bool) a (bnot b) b) | _ => none)
  | .nilp, .nilp | .nilp, .ptr _ _ | .ptr _ _, .nilp | .ptr _ _, .ptr _ _ =>
    (match P.underlying t with
     | some (.pointer e) => (match tsz P e with | some 0 => none | some _ => eqNil x y | none => none)
     | _ => none)
  | .nils, .nils | .slice _ _ _ _ _, .nils | .sle _ _, .nils => (match P.underlying t with | some (.slice _) => eqNil x y | _ => none)
  | .nilf, .nilf | .nilf, .func _ _ _ | .func _ _ _, .nilf | .yield _, .nilf => (match P.underlying t with | some (.func _ _ _) => eqNil x y | _ => none)
  | _, _ => none
def binOther (op : BinOp) (P : Program) (t : TypeId) (x y : AV) : Option AV :=
  match op with
  | .eql => (eqlA P t x y).map .bool
  | .neq => (eqlA P t x y).map fun b => .bool (bnot b)
  | _ => none
def isShift (op : BinOp) : Bool := BinOp.casesOn op false false false false false false false false true true false false false false false false false
/-- The rest of an int whose rest is known. -/
def remCls (op : BinOp) (k : IntKind) (a b : Int) (l : IntKind) (c : Int) : Option AV :=
  match op with
  | .rem => Bool.casesOn (motive := fun _ => Option AV) (band (keq k l) (band (ilt b a) (band (ilt 0 a) (band (ile a c) (ile c a))))) none (some (.int k (Int.add b a)))
  | _ => none
def binA (op : BinOp) (P : Program) (t : TypeId) (x y : AV) : Option AV :=
  match x, y with
  | .int k a, .int l b => Bool.casesOn (motive := fun _ => Option AV) (isShift op) (Bool.casesOn (motive := fun _ => Option AV) (keq k l) none (binII op k a b)) (shiftA op k a b)
  | .rng k a b, .int l c => Bool.casesOn (motive := fun _ => Option AV) (band (ile a b) (keq k l)) (remCls op k a b l c) (binRR op k a b c c)
  | .int k a, .rng l b c => Bool.casesOn (motive := fun _ => Option AV) (band (ile b c) (keq k l)) none (binRR op k a a b c)
  | .rng k a b, .rng l c d => Bool.casesOn (motive := fun _ => Option AV) (band (ile a b) (band (ile c d) (keq k l))) none (binRR op k a b c d)
  | .str a, .str b => strOp op a b
  | x, y => binOther op P t x y
def xBin (op : BinOp) (t : TypeId) (x y : Operand) (_ : TypeId) (P : Program) (r : Tr AV) : Option AV := binA op P t (ev x r) (ev y r)
def unA (op : UnOp) (x : AV) : Option AV :=
  match op, x with
  | .neg, .int k n => some (.int k (iwrap k (Int.sub 0 n)))
  | .neg, .rng k a b => Bool.casesOn (motive := fun _ => Option AV) (ile a b) none (rngOf k (Int.sub 0 b) (Int.sub 0 a))
  | .not, .bool b => some (.bool (bnot b))
  | _, _ => none
def xUn (op : UnOp) (_ : TypeId) (x : Operand) (_ : Program) (r : Tr AV) : Option AV := unA op (ev x r)
def convA (P : Program) (src dst : TypeId) (x : AV) : Option AV :=
  match P.underlying src, P.underlying dst with
  | some _, some (.int k) => (match x with
    | .int _ n => some (.int k (iwrap k n))
    | .rng _ a b => Bool.casesOn (motive := fun _ => Option AV) (ile a b) (Bool.casesOn (motive := fun _ => Option AV) (band (fits k 0) (fits k 255)) none (some (.rng k a b))) (rngOf k a b)
    | _ => none)
  | some _, some .string => (match x with | .str s => some (.str s) | .ustr m => some (.ustr m) | _ => none)
  | _, _ => none
def bytesC (h : AV) (ih : Option (List Nat)) : Option (List Nat) :=
  match h with
  | .int .u8 (.ofNat b) => Bool.casesOn (motive := fun _ => Option (List Nat)) (natLt b 256) none (Option.casesOn (motive := fun _ => Option (List Nat)) ih none (fun s => some (b :: s)))
  | _ => none
/-- The bytes of a list of cells. -/
def bytesL (l : AV) : Option (List Nat) :=
  AV.rec (motive := fun _ => Option (List Nat)) none (fun _ => none) (fun _ _ => none) (fun _ _ _ => none) (fun _ => none) (fun _ => none) (fun _ _ => none) none (fun _ _ _ _ _ => none) (fun _ _ => none) none
    (fun _ => none) none (fun _ _ _ _ _ => none) (fun _ => none) none (fun _ _ _ => none) none (fun _ _ => none) (fun _ _ => none) (some [])
    (fun h _ _ ih => bytesC h ih) l
def xConvert (src dst : TypeId) (x : Operand) (P : Program) (r : Tr AV) (h : Heap) : Option AV :=
  match ev x r with
  | .slice id off len cap sz => (match P.underlying src, P.underlying dst with
    | some (.slice e), some .string => (match P.underlying e with
      | some (.int .u8) => Option.casesOn (motive := fun _ => Option AV) (cellsAt h id) none (fun q => Option.casesOn (motive := fun _ => Option AV) (coll q.1 len off) none (fun l => (bytesL l).map .str))
      | _ => none)
    | _, _ => none)
  | v => convA P src dst v
def xMove (x : Operand) (_ : Program) (r : Tr AV) : Option AV := some (ev x r)
def xPick (c a b : Operand) (_ : Program) (r : Tr AV) : Option AV :=
  match ev c r with
  | .bool t => some (Bool.casesOn (motive := fun _ => AV) t (ev b r) (ev a r))
  | _ => none
def xNilCheck (x : Operand) (_ : Program) (r : Tr AV) : Option AV :=
  match ev x r with
  | .ptr id off => some (.ptr id off)
  | .func (.func f) a b => some (.func (.func f) a b)
  | .yield id => some (.yield id)
  | .iface t v => some (.iface t v)
  | _ => none
def isYield (fn : Fn) : Bool := Fn.casesOn fn (fun _ => false) (fun _ => false) (fun _ _ => false) (fun _ _ _ _ => false) (fun _ => true)
def xMakeFunc (fn : Fn) (f c : Array Operand) (_ : Program) (r : Tr AV) : Option AV :=
  Bool.casesOn (motive := fun _ => Option AV) (isYield fn) (some (.func fn (evs f.toList r) (evs c.toList r))) none
def xMakeInterface (t : TypeId) (x : Operand) (P : Program) (r : Tr AV) : Option AV :=
  match P.underlying t with
  | some (.interface _) => none
  | some _ => some (.iface t (ev x r))
  | none => none

/-! ### Builtins, calls -/
def lenA (P : Program) (t : TypeId) (x : AV) : Option Nat :=
  match P.underlying t with
  | some .string => (match x with | .str s => some s.length | _ => none)
  | some (.slice _) => (match x with | .slice _ _ n _ _ => some n | .sle _ _ => some 0 | .nils => some 0 | _ => none)
  | some (.array n _) => some n
  | some (.pointer a) => (match P.underlying a with | some (.array n _) => some n | _ => none)
  | some (.map _ _) => (match x with | .nilm => some 0 | _ => none)
  | _ => none
def xLen (ts : List TypeId) (as : AV) (P : Program) : Option AV :=
  match ts, as with
  | t :: _, .cons x _ => (lenA P t x).map fun n => .int .i64 (.ofNat n)
  | _, _ => none
/-- How many elements a slice or a string has, and their cells. -/
def bytesAV (s : List Nat) : AV := List.rec .nil (fun b _ t => .cons (.int .u8 (.ofNat b)) t) s
def srcN (x : AV) : Option Nat :=
  match x with
  | .slice _ _ n _ _ => some n
  | .sle _ _ => some 0
  | .nils => some 0
  | .str s => some s.length
  | _ => none
/-- The cells of the first n elements of what is appended or copied. -/
def srcL (x : AV) (n sz : Nat) (h : Heap) : Option AV :=
  match x with
  | .slice id off _ _ _ => Option.casesOn (motive := fun _ => Option AV) (cellsAt h id) none (fun q => coll q.1 (Nat.mul n sz) off)
  | .sle _ _ => some .nil
  | .nils => some .nil
  | .str s => some (bytesAV (s.take n))
  | _ => none
/-- The block of a slice is given up: whoever reads it later gets no answer. -/
def kill (id : Pos) (h : Heap) : Heap := ⟨h.t.del id, h.n⟩
def roCells (h : Heap) (id : Pos) : Bool := Option.casesOn (motive := fun _ => Bool) (cellsAt h id) true (fun q => q.2.2)
def appFresh (old new : AV) (id : Option Pos) (need sz : Nat) (h : Heap) : OR :=
  newCells (app old new) (Nat.mul need sz) (Option.casesOn (motive := fun _ => Heap) id h (fun i => kill i h)) (.slice need need sz)
def appendA (sz by_ : Nat) (s x : AV) (n : Nat) (new : AV) (h : Heap) : OR :=
  match s with
  | .nils => Bool.casesOn (motive := fun _ => OR) (Nat.beq n 0) (Bool.casesOn (motive := fun _ => OR) (Nat.ble (Nat.mul n (Nat.succ by_)) 1073741824) .fail (appFresh .nil new none n sz h)) (.val .nils h)
  | .sle id sz' => Bool.casesOn (motive := fun _ => OR) (Nat.beq n 0)
      (Bool.casesOn (motive := fun _ => OR) (band (Nat.beq sz sz') (Nat.ble (Nat.mul n (Nat.succ by_)) 1073741824)) .fail
        (Bool.casesOn (motive := fun _ => OR) (roCells h id) (appFresh .nil new (some id) n sz h) .fail)) (.val s h)
  | .slice id off len cap sz' =>
    Bool.casesOn (motive := fun _ => OR) (Nat.beq n 0)
      (Bool.casesOn (motive := fun _ => OR) (band (Nat.beq sz sz') (Nat.ble (Nat.mul (Nat.add len n) (Nat.succ by_)) 1073741824)) .fail
        (Bool.casesOn (motive := fun _ => OR) (Nat.ble (Nat.add len n) cap)
          (Option.casesOn (motive := fun _ => OR) (cellsAt h id) .fail (fun q =>
            Bool.casesOn (motive := fun _ => OR) q.2.2
              (Option.casesOn (motive := fun _ => OR) (coll q.1 (Nat.mul len sz) off) .fail (fun old => appFresh old new (some id) (Nat.add len n) sz h)) .fail))
          (Option.casesOn (motive := fun _ => OR) (putAt id (Nat.add off (Nat.mul len sz)) (Nat.mul n sz) new h) .fail (fun h' => .val (.slice id off (Nat.add len n) cap sz) h'))))
      (.val s h)
  | _ => .fail
def isIntT (P : Program) (t : TypeId) : Bool := match P.underlying t with | some (.int _) => true | some _ => false | none => true
def xAppend (ts : List TypeId) (as : AV) (P : Program) (h : Heap) : OR :=
  match ts, as with
  | t :: u :: _, .cons s (.cons x _) =>
    Option.casesOn (motive := fun _ => OR) (telem P t) .fail (fun e =>
      Option.casesOn (motive := fun _ => OR) (tsz P e) .fail (fun sz =>
        Option.casesOn (motive := fun _ => OR) (tbytes P e) .fail (fun by_ =>
          Option.casesOn (motive := fun _ => OR) (tzcells P e) .fail (fun z =>
            Bool.casesOn (motive := fun _ => OR) (band (Nat.beq z.len sz) (bnot (isIntT P u))) .fail
              (Option.casesOn (motive := fun _ => OR) (srcN x) .fail (fun n =>
                Option.casesOn (motive := fun _ => OR) (srcL x n sz h) .fail (fun new => appendA sz by_ s x n new h)))))))
  | _, _ => .fail
def xCopy (ts : List TypeId) (as : AV) (P : Program) (h : Heap) : OR :=
  match ts, as with
  | t :: _, .cons d (.cons x _) =>
    Option.casesOn (motive := fun _ => OR) (telem P t) .fail (fun e =>
      Option.casesOn (motive := fun _ => OR) (tsz P e) .fail (fun sz =>
        match d with
        | .slice id off dl _ sz' => Bool.casesOn (motive := fun _ => OR) (Nat.beq sz sz') .fail
          (Option.casesOn (motive := fun _ => OR) (srcN x) .fail (fun sn =>
            Option.casesOn (motive := fun _ => OR) (srcL x (Nat.min sn dl) sz h) .fail (fun new =>
              Option.casesOn (motive := fun _ => OR) (putAt id off (Nat.mul (Nat.min sn dl) sz) new h) .fail (fun h' => .val (.int .i64 (.ofNat (Nat.min sn dl))) h'))))
        | .nils => Option.casesOn (motive := fun _ => OR) (srcN x) .fail (fun _ => .val (.int .i64 0) h)
        | .sle _ _ => Option.casesOn (motive := fun _ => OR) (srcN x) .fail (fun _ => .val (.int .i64 0) h)
        | _ => .fail))
  | _, _ => .fail
def xMin (lt : Int → Int → Bool) (as : AV) : Option AV :=
  match as with
  | .cons (.int k a) (.cons (.int l b) .nil) => Bool.casesOn (motive := fun _ => Option AV) (keq k l) none (some (.int k (Bool.casesOn (motive := fun _ => Int) (lt b a) a b)))
  | _ => none
def callV (f args : AV) (h : Heap) : OR :=
  match f with
  | .func (.func g) a b => .enter g (app a (app args b)) h
  | .yield id => .round id args h
  | _ => .fail
def builtinC (b : Builtin) (ts : List TypeId) (as : List Operand) : OC :=
  match b with
  | .append => .eff fun P r h => xAppend ts (evs as r) P h
  | .len => .pure fun P r => xLen ts (evs as r) P
  | .copy => .eff fun P r h => xCopy ts (evs as r) P h
  | .min => .pure fun _ r => xMin ilt (evs as r)
  | .max => .pure fun _ r => xMin (fun b a => ilt a b) (evs as r)
  | _ => .bad
def callC (c : Call) : OC :=
  match c.callee with
  | .value f => .eff fun _ r h => callV (ev f r) (evs c.args.toList r) h
  | .invoke _ _ => .bad
  | .builtin b => builtinC b c.argTypes.toList c.args.toList
/-- The kind of an operation: a closed term, so that it is found once. -/
def cls (o : Op) : OC :=
  match o with
  | .move x | .assign x => .pure (xMove x)
  | .pick c a b => .pure (xPick c a b)
  | .alloc t => .alloc (xAlloc t)
  | .box t x => .alloc (xBox t x)
  | .build t ps => .pure (xBuild t ps)
  | .buildSlice t n ps => .alloc (xBuildSlice t n ps)
  | .load t a => .load (xLoad t a)
  | .store t a x => .eff (xStore t a x)
  | .nilCheck x => .pure (xNilCheck x)
  | .binOp op t x y u => .pure (xBin op t x y u)
  | .unOp op t x => .pure (xUn op t x)
  | .convert a b x => .load (xConvert a b x)
  | .makeInterface t x => .pure (xMakeInterface t x)
  | .makeFunc f a c => .pure (xMakeFunc f a c)
  | .makeSlice t l c => .alloc (xMakeSlice t l c)
  | .slice t x lo hi mx => .load (xSliceL t x lo hi mx)
  | .fieldAddr t x f => .pure (xFieldAddr t x f)
  | .field t x f => .pure (xField t x f)
  | .indexAddr t x i => .pure (xIndexAddr t x i)
  | .index t x i => .pure (xIndex t x i)
  | .extract x i => .pure (xExtract x i)
  | .call c => callC c
  | _ => .bad
/-- What an operation comes to. -/
def xOp (o : Op) (P : Program) (r : Tr AV) (h : Heap) : OR :=
  OC.casesOn (motive := fun _ => Program → Tr AV → Heap → OR) (cls o) (fun _ _ _ => .fail)
    (fun f P r h => Option.casesOn (motive := fun _ => Heap → OR) (f P r) (fun _ => .fail) (fun v h => .val v h) h)
    (fun f P r h => Option.casesOn (motive := fun _ => Heap → OR) (f P r h) (fun _ => .fail) (fun v h => .val v h) h)
    (fun f P r h => Option.casesOn (motive := fun _ => Heap → OR) (f P r) (fun _ => .fail) (fun a h => newCells a.l a.n h a.k) h)
    (fun f => f) P r h

/-! ### Code -/
inductive Tgt where
  | fn (f : FuncId)
  | rd (id : Pos)
structure Cx where
  P : Program
  fn : FuncId
  nt : Nat
  rd : Option Pos
  call : Tgt → AV → Heap → CR
  fuel : Nat

def putR (d : Option Tmp) (nt : Nat) (v : AV) (r : Tr AV) : Option (Tr AV) :=
  Option.casesOn (motive := fun _ => Option (Tr AV)) d (some r) (fun d => Bool.casesOn (motive := fun _ => Option (Tr AV)) (natLt d nt) none (some (r.set v (pathOf d))))
def crK (c : CR) (d : Option Tmp) (nt : Nat) (r : Tr AV) (m : List Pos) : (Tr AV → List Pos → Heap → R) → R :=
  CR.casesOn (motive := fun _ => Option Tmp → Nat → Tr AV → List Pos → (Tr AV → List Pos → Heap → R) → R) c (fun _ _ _ _ _ => .fail)
    (fun v h d nt r m k => Option.casesOn (motive := fun _ => R) (putR d nt v r) .fail (fun r' => k r' m h)) d nt r m
/-- One operation that is wanted. -/
def doOp (o : Oper) (cx : Cx) (r : Tr AV) (m : List Pos) (h : Heap) (k : Tr AV → List Pos → Heap → R) : R :=
  OR.casesOn (motive := fun _ => Oper → Cx → Tr AV → List Pos → (Tr AV → List Pos → Heap → R) → R) (xOp o.op cx.P r h) (fun _ _ _ _ _ => .fail)
    (fun v h o cx r m k => Option.casesOn (motive := fun _ => R) (putR o.dst cx.nt v r) .fail (fun r' => k r' m h))
    (fun f a h o cx r m k => crK (cx.call (.fn f) a h) o.dst cx.nt r m k)
    (fun id a h o cx r m k => crK (cx.call (.rd id) a h) o.dst cx.nt r m k) o cx r m k
/-- Is an operation wanted? -/
inductive Wanted where
  | yes | no | unknown
def gslot (ops : Array Oper) (j : Nat) : Option Tmp := (ops[j]?).bind (·.dst)
def wantedBy (v : AV) (want : Bool) : Wanted :=
  match v with
  | .bool b => Bool.casesOn b (Bool.casesOn want .yes .no) (Bool.casesOn want .no .yes)
  | .tup _ => .no
  | _ => .unknown
def wantedA (ops : Array Oper) (o : Oper) (r : Tr AV) : Wanted :=
  Option.casesOn (motive := fun _ => Wanted) o.guard .yes (fun g => Option.casesOn (motive := fun _ => Wanted) (gslot ops g.1) .unknown (fun s => wantedBy (gv (r.get (pathOf s))) g.2))
def doAt (ops : Array Oper) (o : Oper) (cx : Cx) (r : Tr AV) (m : List Pos) (h : Heap) (k : Tr AV → List Pos → Heap → R) : R :=
  Wanted.casesOn (motive := fun _ => R) (wantedA ops o r) (doOp o cx r m h k)
    (Option.casesOn (motive := fun _ => R) (putR o.dst cx.nt (.tup .nil) r) .fail (fun r' => k r' m h)) .fail
def doOps (ops : Array Oper) (l : List Oper) : Cx → Tr AV → List Pos → Heap → R :=
  List.rec (motive := fun _ => Cx → Tr AV → List Pos → Heap → R) (fun _ r m h => .ok r m h) (fun o _ ih cx r m h => doAt ops o cx r m h (fun r m h => ih cx r m h)) l

/-! ### Regions whose order is open: one order that serves for all, and what makes it serve -/
structure PI where
  i : Nat
  o : Oper
  eff : Bool
  pend : List (Nat × Oper)
def bit (t : Nat) : Nat := Nat.shiftLeft 1 t
def hasBit (m t : Nat) : Bool := Nat.beq (Nat.land (Nat.shiftRight m t) 1) 1
def opdMask (x : Operand) : Nat := match x with | .tmp t => bit t | _ => 0
def rMask (ops : Array Oper) (o : Oper) : Nat :=
  Nat.lor (o.op.operands.toList.foldr (fun x m => Nat.lor (opdMask x) m) 0) (match o.guard with | some g => (match gslot ops g.1 with | some s => bit s | none => 0) | none => 0)
def wMask (o : Oper) : Nat := match o.dst with | some d => bit d | none => 0
def isEff (o : Oper) : Bool := match cls o.op with | .eff _ => true | .bad => true | _ => false
def isMem (o : Oper) : Bool := match cls o.op with | .load _ => true | .alloc _ => true | _ => false
/-- What precedes each operation in every order: by the edges. -/
def maskOf (ms : Tr Nat) (es : List Edge) : Nat :=
  es.foldr (fun e a => Bool.casesOn (motive := fun _ => Nat) (Region.binds .any e) a (Nat.lor (Nat.lor (bit e.on) ((ms.get (pathOf e.on)).getD 0)) a)) 0
def preM (l : List Oper) : Nat → Tr Nat → Tr Nat :=
  List.rec (motive := fun _ => Nat → Tr Nat → Tr Nat) (fun _ ms => ms) (fun o _ ih i ms => ih (Nat.succ i) (ms.set (maskOf ms o.after.toList) (pathOf i))) l
def pre (ms : Tr Nat) (j i : Nat) : Bool := hasBit ((ms.get (pathOf i)).getD 0) j
def subMask (a b : Nat) : Bool := Nat.beq (Nat.land a b) a
/-- The first of a list that may stand next; those before it stay. -/
def pickP (ms : Tr Nat) (done : Nat) (effToo : Bool) : List (Nat × Oper) → Option ((Nat × Oper) × List (Nat × Oper))
  | [] => none
  | x :: t => if subMask ((ms.get (pathOf x.1)).getD 0) done && (effToo || !isEff x.2) then some (x, t) else (pickP ms done effToo t).map fun q => (q.1, x :: q.2)
def pendOf (ms : Tr Nat) (i : Nat) (acc : List PI) : List (Nat × Oper) :=
  (acc.filter fun p => isMem p.o && !pre ms p.i i).map fun p => (p.i, p.o)
def planGo (ms : Tr Nat) : Nat → Nat → List (Nat × Oper) → List PI → List PI
  | 0, _, _, acc => acc.reverse
  | n + 1, done, rem, acc =>
    match (match pickP ms done false rem with | some q => some q | none => pickP ms done true rem) with
    | none => acc.reverse
    | some (x, rest) => planGo ms n (Nat.lor done (bit x.1)) rest (⟨x.1, x.2, isEff x.2, if isEff x.2 then pendOf ms x.1 acc else []⟩ :: acc)
/-- May y stand behind x in the one order? -/
def okPair (ops : Array Oper) (ms : Tr Nat) (x y : PI) : Bool :=
  !Nat.beq x.i y.i && !pre ms y.i x.i && Nat.beq (Nat.land (wMask x.o) (wMask y.o)) 0 &&
  (pre ms x.i y.i || (Nat.beq (Nat.land (wMask x.o) (rMask ops y.o)) 0 && Nat.beq (Nat.land (rMask ops x.o) (wMask y.o)) 0 && !x.eff && (!y.eff || !isMem x.o || y.pend.any (fun p => Nat.beq p.1 x.i))))
/-- What is looked at again behind y: its operands are as they were. -/
def okPend (ops : Array Oper) (ms : Tr Nat) (acc : List PI) (p : Nat × Oper) : Bool :=
  acc.all fun x => Nat.beq (Nat.land (wMask x.o) (rMask ops p.2)) 0 || pre ms x.i p.1
def chkP (ops : Array Oper) (ms : Tr Nat) : List PI → List PI → Bool
  | _, [] => true
  | acc, y :: t => acc.all (okPair ops ms · y) && y.pend.all (okPend ops ms acc) && !pre ms y.i y.i && chkP ops ms (y :: acc) t
def idxOK (ops : Array Oper) (pl : List PI) : Bool :=
  (List.range ops.size).all fun i => pl.any fun x => Nat.beq x.i i
def edgeOK (ops : Array Oper) (ms : Tr Nat) : Bool :=
  (List.range ops.size).all fun i => match ops[i]? with
    | some o => o.after.toList.all fun e => !Region.binds .any e || (pre ms e.on i && natLt e.on ops.size)
    | none => true
def planOf (ops : Array Oper) : Option (List PI) :=
  let l := ops.toList.zipIdx.map fun x => (x.2, x.1)
  let ms := preM ops.toList 0 .leaf
  let pl := planGo ms ops.size 0 l []
  if chkP ops ms [] pl && idxOK ops pl && edgeOK ops ms then some pl else none
def recheck1 (ops : Array Oper) (P : Program) (o : Oper) (r : Tr AV) (h h' : Heap) : Bool :=
  match wantedA ops o r with
  | .no => true
  | .unknown => false
  | .yes =>
    match cls o.op with
    | .load f => (match f P r h, f P r h' with | some a, some b => decide (a = b) | _, _ => false)
    | .alloc _ => (match o.dst with
      | some d => (match gv (r.get (pathOf d)) with
        | .ptr id _ => (match cellsAt h id, cellsAt h' id with | some a, some b => decide (a = b) | _, _ => false)
        | .slice id _ _ _ _ => (match cellsAt h id, cellsAt h' id with | some a, some b => decide (a = b) | _, _ => false)
        | _ => false)
      | none => false)
    | _ => true
def recheck (ops : Array Oper) (P : Program) (l : List (Nat × Oper)) (r : Tr AV) (h h' : Heap) : Bool := l.all fun p => recheck1 ops P p.2 r h h'
def doPlan (ops : Array Oper) (l : List PI) : Cx → Tr AV → List Pos → Heap → R :=
  List.rec (motive := fun _ => Cx → Tr AV → List Pos → Heap → R) (fun _ r m h => .ok r m h)
    (fun y _ ih cx r m h => doAt ops y.o cx r m h (fun r' m h' => Bool.casesOn (motive := fun _ => R) (recheck ops cx.P y.pend r h h') .fail (ih cx r' m h'))) l
def drawOps (ops : Array Oper) (draw : Bool) (cx : Cx) (r : Tr AV) (m : List Pos) (h : Heap) : R :=
  Bool.casesOn (motive := fun _ => R) draw (doOps ops ops.toList cx r m h)
    (Option.casesOn (motive := fun _ => R) (planOf ops) .fail (fun pl => doPlan ops pl cx r m h))

abbrev Run := Cx → Tr AV → List Pos → Heap → R
def xSeq (ra rb : Run) (cx : Cx) (r : Tr AV) (m : List Pos) (h : Heap) : R :=
  R.casesOn (motive := fun _ => Run → Cx → R) (ra cx r m h) (fun _ _ => .fail) (fun r m h rb cx => rb cx r m h) (fun i r m h _ _ => .exit i r m h) (fun r m h _ _ => .ret r m h) rb cx
def xCond (c : Operand) (ra rb : Run) (cx : Cx) (r : Tr AV) (m : List Pos) (h : Heap) : R :=
  match ev c r with
  | .bool b => Bool.casesOn (motive := fun _ => R) b (rb cx r m h) (ra cx r m h)
  | _ => .fail
def xBlock (id : Nat) (ra : Run) (cx : Cx) (r : Tr AV) (m : List Pos) (h : Heap) : R :=
  R.casesOn (motive := fun _ => Nat → R) (ra cx r m h) (fun _ => .fail) (fun r m h _ => .ok r m h)
    (fun i r m h id => Bool.casesOn (motive := fun _ => R) (Nat.beq i id) (.exit i r m h) (.ok r m h)) (fun r m h _ => .ret r m h) id
def iter (body : Run) (n : Nat) : Cx → Tr AV → List Pos → Heap → R :=
  Nat.rec (motive := fun _ => Cx → Tr AV → List Pos → Heap → R) (fun _ _ _ _ => .fail)
    (fun _ ih cx r m h => R.casesOn (motive := fun _ => (Cx → Tr AV → List Pos → Heap → R) → Cx → R) (body cx r m h) (fun _ _ => .fail) (fun r m h ih cx => ih cx r m h)
      (fun i r m h _ _ => .exit i r m h) (fun r m h _ _ => .ret r m h) ih cx) n
def xLoop (ra : Run) (cx : Cx) (r : Tr AV) (m : List Pos) (h : Heap) : R := iter ra cx.fuel cx r m h
def dfrOf (h : Heap) (id : Pos) : Option Pos :=
  match h.t.get id with
  | some (.loop _ _ _ _ _ _ _ _ d) => some d
  | _ => none
/-- The record of a range over a function, and the mark of the outermost one. -/
def enterLoopA (cx : Cx) (ps : Array Tmp) (assign body : Code) (r : Tr AV) (m : List Pos) (h : Heap) (k : Pos → List Pos → Heap → R) : R :=
  Option.casesOn (motive := fun _ => R) cx.rd
    (k h.n.succ (h.n :: m) ⟨(h.t.set .marks h.n).set (.loop true none cx.fn r cx.nt ps assign body h.n) h.n.succ, h.n.succ.succ⟩)
    (fun l => Option.casesOn (motive := fun _ => R) (dfrOf h l) .fail (fun d => k h.n m ⟨h.t.set (.loop true none cx.fn r cx.nt ps assign body d) h.n, h.n.succ⟩))
def endLoopA (id : Pos) (r : Tr AV) (m : List Pos) (h : Heap) : R :=
  match h.t.get id with
  | some (.loop ready pend _ _ _ _ _ _ _) =>
    Bool.casesOn (motive := fun _ => R) (Bool.casesOn (motive := fun _ => Bool) ready (Option.casesOn (motive := fun _ => Bool) pend false (fun _ => true)) true) .fail
      (match pend with
       | none => .ok r m (kill id h)
       | some none => .ret r m (kill id h)
       | some (some i) => .exit i r m (kill id h))
  | _ => .fail
def xRangeFunc (f : Operand) (ps : Array Tmp) (assign body : Code) (cx : Cx) (r : Tr AV) (m : List Pos) (h : Heap) : R :=
  enterLoopA cx ps assign body r m h (fun id m h =>
    match ev f r with
    | .func (.func g) a b =>
      CR.casesOn (motive := fun _ => Pos → Tr AV → List Pos → R) (cx.call (.fn g) (app a (.cons (.yield id) b)) h) (fun _ _ _ => .fail) (fun _ h id r m => endLoopA id r m h) id r m
    | _ => .fail)
def xCode (c : Code) : Run :=
  Code.rec (motive := fun _ => Run)
    (fun _ r m h => .ok r m h)
    (fun _ ops draw cx r m h => drawOps ops draw cx r m h)
    (fun _ _ ra rb => xSeq ra rb)
    (fun c _ _ ra rb => xCond c ra rb)
    (fun id _ ra => xBlock id ra)
    (fun _ ra => xLoop ra)
    (fun f ps a b _ _ => xRangeFunc f ps a b)
    (fun id _ r m h => .exit id r m h)
    (fun _ ra => ra)
    (fun _ _ r m h => .ok r m h)
    (fun _ _ _ _ _ => .fail)
    (fun _ r m h => .ret r m h)
    (fun _ _ _ _ _ => .fail) c

/-! ### Calls -/
/-- The arguments of a call, in the first slots. -/
def argsR (as : AV) : Nat → Nat → Tr AV → Option (Tr AV) :=
  AV.rec (motive := fun _ => Nat → Nat → Tr AV → Option (Tr AV)) (fun _ _ _ => none) (fun _ _ _ _ => none) (fun _ _ _ _ _ => none) (fun _ _ _ _ _ _ => none) (fun _ _ _ _ => none) (fun _ _ _ _ => none) (fun _ _ _ _ _ => none)
    (fun _ _ _ => none) (fun _ _ _ _ _ _ _ _ => none) (fun _ _ _ _ _ => none) (fun _ _ _ => none) (fun _ _ _ _ => none) (fun _ _ _ => none) (fun _ _ _ _ _ _ _ _ => none) (fun _ _ _ _ => none) (fun _ _ _ => none)
    (fun _ _ _ _ _ _ => none) (fun _ _ _ => none) (fun _ _ _ _ _ => none) (fun _ _ _ _ _ => none) (fun _ _ r => some r)
    (fun a _ _ ih i nt r => Bool.casesOn (motive := fun _ => Option (Tr AV)) (natLt i nt) none (ih (Nat.succ i) nt (r.set a (pathOf i)))) as
/-- The marks of a function's range-over-function loops are taken. -/
def takeMarks (m : List Pos) : Heap → Option Heap :=
  List.rec (motive := fun _ => Heap → Option Heap) (fun h => some h) (fun id _ ih h => match h.t.get id with | some .marks => ih (kill id h) | _ => none) m
def resA (P : Program) (x : ResultVar) (r : Tr AV) (h : Heap) : Option AV :=
  match x with
  | .tmp t => some (gv (r.get (pathOf t)))
  | .cell a t => loadA P t (gv (r.get (pathOf a))) h
def resL (P : Program) (l : List ResultVar) (r : Tr AV) (h : Heap) : Option AV :=
  List.rec (motive := fun _ => Option AV) (some .nil) (fun x _ ih => Option.casesOn (motive := fun _ => Option AV) (resA P x r h) none (fun v => Option.casesOn (motive := fun _ => Option AV) ih none (fun l => some (.cons v l)))) l
def resV (l : AV) : AV := match l with | .cons v .nil => v | l => .tup l
def leaveA (P : Program) (fn : Func) (r : Tr AV) (m : List Pos) (h : Heap) : CR :=
  Option.casesOn (motive := fun _ => CR) (takeMarks m h) .fail (fun h => Option.casesOn (motive := fun _ => CR) (resL P fn.results.toList r h) .fail (fun l => .ret (resV l) h))
def ranA (x : R) (P : Program) (fn : Func) : CR :=
  R.casesOn (motive := fun _ => Program → Func → CR) x (fun _ _ => .fail) (fun r m h P fn => leaveA P fn r m h) (fun _ _ _ _ _ _ => .fail) (fun r m h P fn => leaveA P fn r m h) P fn
def callFnA (P : Program) (f : FuncId) (as : AV) (h : Heap) (call : Tgt → AV → Heap → CR) (fuel : Nat) : CR :=
  Option.casesOn (motive := fun _ => CR) (P.funcs[f]?) .fail (fun fn =>
    Option.casesOn (motive := fun _ => CR) fn.body .fail (fun c =>
      Option.casesOn (motive := fun _ => CR) (argsR as 0 fn.ntmps .leaf) .fail (fun r =>
        ranA (xCode c ⟨P, f, fn.ntmps, none, call, fuel⟩ r [] h) P fn)))
/-- The parameters of a round. -/
def roundR (ps : List Tmp) : AV → Nat → Tr AV → Option (Tr AV) :=
  List.rec (motive := fun _ => AV → Nat → Tr AV → Option (Tr AV)) (fun as _ r => match as with | .nil => some r | _ => none)
    (fun p _ ih as nt r => match as with
      | .cons a t => Bool.casesOn (motive := fun _ => Option (Tr AV)) (natLt p nt) none (ih t nt (r.set a (pathOf p)))
      | _ => none) ps
def endRoundA (id : Pos) (jump : Option (Option Nat)) (h : Heap) : CR :=
  match h.t.get id with
  | some (.loop _ _ fn r nt ps a b d) => .ret (.bool (Option.casesOn (motive := fun _ => Bool) jump true (fun _ => false)))
      ⟨h.t.set (.loop (Option.casesOn (motive := fun _ => Bool) jump true (fun _ => false)) jump fn r nt ps a b d) id, h.n⟩
  | _ => .fail
def beginRoundA (id : Pos) (h : Heap) (k : Heap → R) : R :=
  match h.t.get id with
  | some (.loop ready pend fn r nt ps a b d) => Bool.casesOn (motive := fun _ => R) ready .fail (Option.casesOn (motive := fun _ => R) pend (k ⟨h.t.set (.loop false none fn r nt ps a b d) id, h.n⟩) (fun _ => .fail))
  | _ => .fail
def ranRoundA (x : R) (id : Pos) : CR :=
  R.casesOn (motive := fun _ => Pos → CR) x (fun _ => .fail)
    (fun _ m h id => List.casesOn (motive := fun _ => CR) m (endRoundA id none h) (fun _ _ => .fail))
    (fun i _ m h id => List.casesOn (motive := fun _ => CR) m (endRoundA id (some (some i)) h) (fun _ _ => .fail))
    (fun _ m h id => List.casesOn (motive := fun _ => CR) m (endRoundA id (some none) h) (fun _ _ => .fail)) id
def roundA (P : Program) (id : Pos) (as : AV) (h : Heap) (call : Tgt → AV → Heap → CR) (fuel : Nat) : CR :=
  match h.t.get id with
  | some (.loop ready _ fn regs nt ps assign body _) =>
    Bool.casesOn (motive := fun _ => CR) ready .fail
      (Option.casesOn (motive := fun _ => CR) (roundR ps.toList as nt regs) .fail (fun r =>
        ranRoundA (R.casesOn (motive := fun _ => Pos → Cx → Code → R) (xCode assign ⟨P, fn, nt, some id, call, fuel⟩ r [] h) (fun _ _ _ => .fail)
          (fun r m h id cx body => beginRoundA id h (fun h => xCode body cx r m h)) (fun _ _ _ _ _ _ _ => .fail) (fun _ _ _ _ _ _ => .fail) id ⟨P, fn, nt, some id, call, fuel⟩ body) id))
  | _ => .fail
def callN (P : Program) (fuel : Nat) (n : Nat) : Tgt → AV → Heap → CR :=
  Nat.rec (motive := fun _ => Tgt → AV → Heap → CR) (fun _ _ _ => .fail)
    (fun _ ih t as h => Tgt.casesOn (motive := fun _ => CR) t (fun f => callFnA P f as h ih fuel) (fun id => roundA P id as h ih fuel)) n

/-- The memory at the start: 'g' package-level variables, of which nothing is known yet. -/
def start (g : Nat) : Heap := ⟨.leaf, pathOf g⟩
def CR.isTrue (c : CR) : Bool := match c with | .ret (.bool b) _ => b | _ => false
end
end Go.Ev
namespace Go.Ev
noncomputable section
/-- The memory at the start, with tables that are never written: the cells of the package-level variables. -/
def layTables (l : List (AV × Nat)) : Nat → Tr AO → Tr AO :=
  List.rec (motive := fun _ => Nat → Tr AO → Tr AO) (fun _ t => t)
    (fun x _ ih i t => ih (Nat.succ i) (Option.casesOn (motive := fun _ => Tr AO) (lay x.2 x.1 0 .leaf) t (fun c => t.set (.cells c x.2 true) (pathOf i)))) l
def startWith (l : List (AV × Nat)) (g : Nat) : Heap := ⟨layTables l 0 .leaf, pathOf g⟩
def intsAV (k : IntKind) (l : List Int) : AV := ofL (l.map (AV.int k))
end
end Go.Ev
