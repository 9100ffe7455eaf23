/- A run in two parts: the first pieces, up to a state that is written out; the rest from there. -/
import Derived.Test.YtialjngnlekplaaGreatDoorSyAlt4
namespace Go.Sy
open Go.RowKit
set_option linter.unusedVariables false
set_option linter.unusedSectionVars false
variable [Tabs]
variable {P : Program} {B0 : Nat}
theorem PureV.rng {k : IntKind} {a b : Int} : PureV (.rng k a b) := fun _ _ _ _ h => h
noncomputable section
/-- Equality, names of blocks among them. -/
def aeqX (x : AV) : AV → Bool :=
  AV.rec (motive := fun _ => AV → Bool) (fun _ => false) (fun b y => aeq (.bool b) y) (fun k n y => aeq (.int k n) y) (fun _ _ _ _ => false)
    (fun s y => aeq (.str s) y) (fun _ _ => false) (fun p o y => match y with | .ptr q u => band (p.beq q) (Nat.beq o u) | _ => false) (fun _ _ _ _ => false) (fun y => match y with | .nilp => true | _ => false) (fun _ _ _ _ _ _ => false)
    (fun n l r y => aeq (.ro n l) y) (fun p n sz y => match y with | .gs q m z => band (p.beq q) (band (Nat.beq n m) (Nat.beq sz z)) | _ => false) (fun _ _ _ => false) (fun y => match y with | .nils => true | _ => false) (fun _ _ => false) (fun _ => false) (fun _ _ _ _ _ _ => false) (fun _ _ => false) (fun _ => false)
    (fun _ _ _ _ => false) (fun y => match y with | .nili => true | _ => false) (fun l r y => match y with | .agg u => r u | _ => false) (fun l r y => match y with | .tup u => r u | _ => false)
    (fun y => match y with | .nil => true | _ => false) (fun a t ra rt y => match y with | .cons b u => band (ra b) (rt u) | _ => false) x
/-- A block, written out. -/
inductive CO where
  | c (R : List (Nat × AV)) (n : Nat)
  | l (x : AV) (ro : Bool)
def CO.ao : CO → AO
  | .c R n => .cells (regsT R) n false
  | .l x ro => .gl x ro
/-- A state, written out. -/
structure Cst where
  R : List (Nat × AV)
  H : List (Pos × CO)
  n : Pos
def Cst.h (C : Cst) : Heap := ⟨heapT (C.H.map fun x => (x.1, x.2.ao)), C.n⟩
def regB (r : Tr AV) (R : List (Nat × AV)) : Bool := List.rec (motive := fun _ => Bool) true (fun x _ ih => band (match r.get (pathOf x.1) with | some u => aeqX u x.2 | none => false) ih) R
def boB (a b : Bool) : Bool := match a, b with | true, true => true | false, false => true | _, _ => false
def coB (o : AO) (c : CO) : Bool := match c with
  | .c R n => (match o with | .cells t m false => band (Nat.beq m n) (regB t R) | _ => false)
  | .l x ro => (match o with | .gl y r => band (aeqX y x) (boB r ro) | _ => false)
def heapB (h : Tr AO) (H : List (Pos × CO)) : Bool := List.rec (motive := fun _ => Bool) true (fun x _ ih => band (match h.get x.1 with | some o => coB o x.2 | none => false) ih) H
def stB (C : Cst) (s : St) : Bool := match s.m with | [] => band (Nat.ble s.h.n.toNat C.n.toNat) (band (regB s.r C.R) (heapB s.h.t C.H)) | _ => false
/-- The first k pieces lead to a state. -/
def preB (P : Program) (f : FuncId) (fn : Func) (c : Code) (call : Tgt → AV → Heap → CR) (k fuel : Nat) (r : Tr AV) (C : Cst) : Bool :=
  match xPre k c ⟨P, f, fn.ntmps, none, call, fuel⟩ r [] (startWith Tabs.l 64) with | some s => stB C s | none => false
end
theorem aeqX_eq {x : AV} : ∀ {y : AV}, aeqX x y = true → x = y := by
  induction x with
  | bool b => intro y h; exact aeq_eq h
  | int k n => intro y h; exact aeq_eq h
  | str s => intro y h; exact aeq_eq h
  | ro n l ih => intro y h; exact aeq_eq h
  | ptr p o =>
    intro y h
    cases y with
    | ptr q u =>
      obtain ⟨h1, h2⟩ := band_iff.1 (show band (p.beq q) (Nat.beq o u) = true from h)
      rw [Pos.beq_eq _ _ h1, Nat.eq_of_beq_eq_true h2]
    | _ => cases h
  | gs p n sz =>
    intro y h
    cases y with
    | gs q m z =>
      obtain ⟨h1, h2⟩ := band_iff.1 (show band (p.beq q) (band (Nat.beq n m) (Nat.beq sz z)) = true from h)
      obtain ⟨h2, h3⟩ := band_iff.1 h2
      rw [Pos.beq_eq _ _ h1, Nat.eq_of_beq_eq_true h2, Nat.eq_of_beq_eq_true h3]
    | _ => cases h
  | nilp => intro y h; cases y with | nilp => rfl | _ => cases h
  | nils => intro y h; cases y with | nils => rfl | _ => cases h
  | nili => intro y h; cases y with | nili => rfl | _ => cases h
  | nil => intro y h; cases y with | nil => rfl | _ => cases h
  | agg l ih => intro y h; cases y with | agg u => rw [ih (show aeqX l u = true from h)] | _ => cases h
  | tup l ih => intro y h; cases y with | tup u => rw [ih (show aeqX l u = true from h)] | _ => cases h
  | cons a t iha iht =>
    intro y h
    cases y with
    | cons b u =>
      obtain ⟨h1, h2⟩ := band_iff.1 (show band (aeqX a b) (aeqX t u) = true from h)
      rw [iha h1, iht h2]
    | _ => cases h
  | _ => intro y h; cases h
theorem boB_eq {a b : Bool} (h : boB a b = true) : a = b := by cases a <;> cases b <;> first | rfl | cases h
theorem regB_ok {r : Tr AV} : ∀ {R : List (Nat × AV)}, regB r R = true → ∀ x ∈ R, r.get (pathOf x.1) = some x.2
  | x :: R, h, y, hy => by
    obtain ⟨h1, h2⟩ := band_iff.1 (show band (match r.get (pathOf x.1) with | some u => aeqX u x.2 | none => false) (regB r R) = true from h)
    rcases List.mem_cons.1 hy with rfl | hy
    · split at h1
      · rename_i u hu; rw [hu, aeqX_eq h1]
      · cases h1
    · exact regB_ok h2 y hy
theorem coB_ok {o : AO} {c : CO} (h : coB o c = true) : LessO o c.ao := by
  cases c with
  | c R n =>
    cases o with
    | cells t m r =>
      cases r with
      | false =>
        obtain ⟨h1, h2⟩ := band_iff.1 (show band (Nat.beq m n) (regB t R) = true from h)
        rw [Nat.eq_of_beq_eq_true h1]
        exact .inr ⟨t, n, R, rfl, rfl, regB_ok h2⟩
      | true => cases h
    | _ => cases h
  | l x ro =>
    cases o with
    | gl y r =>
      obtain ⟨h1, h2⟩ := band_iff.1 (show band (aeqX y x) (boB r ro) = true from h)
      rw [aeqX_eq h1, boB_eq h2]
      exact .inl rfl
    | _ => cases h
theorem heapB_ok {t : Tr AO} : ∀ {H : List (Pos × CO)}, heapB t H = true → ∀ x ∈ H.map (fun x => (x.1, x.2.ao)), ∃ o, t.get x.1 = some o ∧ LessO o x.2
  | x :: H, h, y, hy => by
    obtain ⟨h1, h2⟩ := band_iff.1 (show band (match t.get x.1 with | some o => coB o x.2 | none => false) (heapB t H) = true from h)
    rcases List.mem_cons.1 hy with rfl | hy
    · split at h1
      · rename_i o ho; exact ⟨o, ho, coB_ok h1⟩
      · cases h1
    · exact heapB_ok h2 y hy
theorem stB_sub {nt : Nat} {C : Cst} {s : St} (h : stB C s = true) : Sub B0 nt s.r s.m s.h (regsT C.R) [] C.h := by
  unfold stB at h
  split at h
  · rename_i hm
    obtain ⟨h1, h⟩ := band_iff.1 h
    obtain ⟨h2, h3⟩ := band_iff.1 h
    exact Sub.facts hm (Nat.le_of_ble_eq_true h1) (regB_ok h2) (heapB_ok h3)
  · cases h
/-- A CONTRACT, BY A RUN IN TWO PARTS. -/
theorem PF.of_cut (hm : P.follows .mixedOrders = true) (hlen : Tabs.l.length ≤ 64) {f : FuncId} {fn : Func} {c : Code} (hf : P.funcs[f]? = some fn) (hb : fn.body = some c) {xs v : AV} {r : Tr AV} (har : argsR xs 0 fn.ntmps .leaf = some r) (hpure : PureL xs)
    {call : Tgt → AV → Heap → CR} (hcall : ∀ B0, CallOK P B0 call) {k fuel : Nat} {C : Cst} (hpre : preB P f fn c call k fuel r C = true)
    (hrest : kFin P fn v (xCode (dropSeq k c) ⟨P, f, fn.ntmps, none, call, fuel⟩ (regsT C.R) [] C.h) = true) : PF P f xs v := by
  unfold preB at hpre
  split at hpre
  · rename_i s hs
    exact PF.of_alt hm hlen hf hb har hpure hcall hs (fun B0 => stB_sub hpre) (fun B0 => Cw.of_det hm rfl rfl (hcall B0) rfl hrest)
  · cases hpre
/-- What a contract of a law says. -/
theorem PF.told {f : FuncId} {xs : AV} (h : PF P f xs (.bool true)) {w : World} (ht : TabOK w Tabs.l) (hlen : Tabs.l.length ≤ 64) {cargs : Array Value} (hargs : ∀ μ, VRL μ xs cargs.toList) : Calls P f cargs w fun e w' => e = .returned (.bool true) ∧ Below w.heap.size w w' :=
  (h (sealBelow w 64) w (sealBelow_ok w _) (ht.shut hlen) cargs (hargs _)).mono fun e w' ⟨cv, s', he, _, _, hv, hb⟩ => by
    have : cv = .bool true := by simpa [VR] using hv
    exact ⟨by rw [he, this], hb⟩
end Go.Sy
