/- The abstract values, memory and results of the evaluator: tries keyed by binary paths, values whose blocks are renamed and whose capacities are lower bounds. -/
import GoSem.Step
namespace Go.Ev
noncomputable section
set_option linter.unusedVariables false

/-- Binary paths: keys of tries, names of blocks. -/
inductive Pos where
  | e
  | o (p : Pos)
  | i (p : Pos)
  deriving DecidableEq

def Pos.succ (p : Pos) : Pos := Pos.rec (.i .e) (fun p _ => .i p) (fun _ ih => .o ih) p
def Pos.toNat (p : Pos) : Nat := Pos.rec 0 (fun _ n => 2 * n) (fun _ n => 2 * n + 1) p
def pathOf (n : Nat) : Pos := Nat.rec .e (fun _ p => p.succ) n
def Pos.beq (p : Pos) : Pos → Bool :=
  Pos.rec (fun q => Pos.casesOn q true (fun _ => false) (fun _ => false))
    (fun _ ih q => Pos.casesOn q false ih (fun _ => false))
    (fun _ ih q => Pos.casesOn q false (fun _ => false) ih) p

theorem Pos.toNat_succ (p : Pos) : p.succ.toNat = p.toNat + 1 := by
  induction p with
  | e => rfl
  | o p ih => rfl
  | i p ih => show 2 * (Pos.succ p).toNat = 2 * p.toNat + 1 + 1; omega
theorem toNat_pathOf (n : Nat) : (pathOf n).toNat = n := by
  induction n with
  | zero => rfl
  | succ n ih => show (Pos.succ (pathOf n)).toNat = _; rw [Pos.toNat_succ, ih]
theorem pathOf_inj {m n : Nat} (h : pathOf m = pathOf n) : m = n := by
  rw [← toNat_pathOf m, ← toNat_pathOf n, h]
theorem Pos.beq_eq : ∀ (p q : Pos), p.beq q = true → p = q := by
  intro p
  induction p with
  | e => intro q h; cases q <;> first | rfl | exact absurd h (by simp [Pos.beq])
  | o p ih => intro q h; cases q with
    | o q => exact congrArg _ (ih q h)
    | e => exact absurd h (by simp [Pos.beq])
    | i q => exact absurd h (by simp [Pos.beq])
  | i p ih => intro q h; cases q with
    | i q => exact congrArg _ (ih q h)
    | e => exact absurd h (by simp [Pos.beq])
    | o q => exact absurd h (by simp [Pos.beq])

inductive Tr (α : Type) where
  | leaf
  | node (l : Tr α) (v : Option α) (r : Tr α)
  deriving DecidableEq

namespace Tr
variable {α : Type}
def get (t : Tr α) : Pos → Option α :=
  Tr.rec (fun _ => none) (fun _ v _ gl gr p => Pos.casesOn p v gl gr) t
def sing (x : α) (p : Pos) : Tr α := Pos.rec (.node .leaf (some x) .leaf) (fun _ t => .node t none .leaf) (fun _ t => .node .leaf none t) p
def set (x : α) (t : Tr α) : Pos → Tr α :=
  Tr.rec (fun p => sing x p) (fun l v r sl sr p => Pos.casesOn p (.node l (some x) r) (fun q => .node (sl q) v r) (fun q => .node l v (sr q))) t
def del (t : Tr α) : Pos → Tr α :=
  Tr.rec (fun _ => .leaf) (fun l v r sl sr p => Pos.casesOn p (.node l none r) (fun q => .node (sl q) v r) (fun q => .node l v (sr q))) t

theorem get_leaf (p : Pos) : (leaf : Tr α).get p = none := rfl
theorem get_sing (x : α) : ∀ (p q : Pos), (sing x p).get q = if q = p then some x else none := by
  intro p
  induction p with
  | e => intro q; cases q <;> simp [sing, get]
  | o p ih =>
    intro q
    cases q with
    | e => simp [sing, get]
    | o q => show (sing x p).get q = _; rw [ih]; simp
    | i q => simp [sing, get]
  | i p ih =>
    intro q
    cases q with
    | e => simp [sing, get]
    | i q => show (sing x p).get q = _; rw [ih]; simp
    | o q => simp [sing, get]
theorem get_set (x : α) : ∀ (t : Tr α) (p q : Pos), (set x t p).get q = if q = p then some x else t.get q := by
  intro t
  induction t with
  | leaf => intro p q; exact get_sing x p q
  | node l v r ihl ihr =>
    intro p q
    cases p with
    | e => cases q <;> simp [set, get]
    | o p =>
      cases q with
      | e => simp [set, get]
      | o q => show (set x l p).get q = _; rw [ihl]; simp [get]
      | i q => simp [set, get]
    | i p =>
      cases q with
      | e => simp [set, get]
      | i q => show (set x r p).get q = _; rw [ihr]; simp [get]
      | o q => simp [set, get]
theorem get_del : ∀ (t : Tr α) (p q : Pos), (del t p).get q = if q = p then none else t.get q := by
  intro t
  induction t with
  | leaf => intro p q; show none = _; split <;> rfl
  | node l v r ihl ihr =>
    intro p q
    cases p with
    | e => cases q <;> simp [del, get]
    | o p =>
      cases q with
      | e => simp [del, get]
      | o q => show (del l p).get q = _; rw [ihl]; simp [get]
      | i q => simp [del, get]
    | i p =>
      cases q with
      | e => simp [del, get]
      | i q => show (del r p).get q = _; rw [ihr]; simp [get]
      | o q => simp [del, get]
end Tr

/-- Abstract values. 'nil' and 'cons' make lists of them. -/
inductive AV where
  | undef
  | bool (b : Bool)
  | int (k : IntKind) (n : Int)
  | rng (k : IntKind) (lo hi : Int)
  | str (s : List Nat)
  | ustr (m : Nat)
  | ptr (id : Pos) (off : Nat)
  | nilp
  | slice (id : Pos) (off len cap sz : Nat)
  | sle (id : Pos) (sz : Nat)
  | nils
  | map (id : Pos)
  | nilm
  | func (fn : Fn) (first captured : AV)
  | yield (id : Pos)
  | nilf
  | iface (t : TypeId) (v : AV)
  | nili
  | agg (l : AV)
  | tup (l : AV)
  | nil
  | cons (h t : AV)
  deriving DecidableEq

/-- Abstract blocks. -/
inductive AO where
  | cells (t : Tr AV) (n : Nat) (ro : Bool)
  | loop (ready : Bool) (pend : Option (Option Nat)) (fn : FuncId) (regs : Tr AV) (nt : Nat) (params : Array Tmp) (assign body : Code) (dfr : Pos)
  | marks

structure Heap where
  t : Tr AO
  n : Pos

/-- What an operation comes to. -/
inductive OR where
  | fail
  | val (v : AV) (h : Heap)
  | enter (f : FuncId) (args : AV) (h : Heap)
  | round (id : Pos) (args : AV) (h : Heap)

/-- What a call comes to. -/
inductive CR where
  | fail
  | ret (v : AV) (h : Heap)

/-- What a piece of code comes to. -/
inductive R where
  | fail
  | ok (r : Tr AV) (m : List Pos) (h : Heap)
  | exit (id : Nat) (r : Tr AV) (m : List Pos) (h : Heap)
  | ret (r : Tr AV) (m : List Pos) (h : Heap)

end
end Go.Ev
