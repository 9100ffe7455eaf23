/- Short ways to write values. -/
import Derived.Test.YthdjljdooekbmaaGreatDoorSyMemo
namespace Go.Sy
set_option linter.unusedVariables false
noncomputable section
/-- Ints of one kind, ahead of other cells. -/
def iz (k : IntKind) (l : List Int) (t : AV) : AV := List.rec (motive := fun _ => AV) t (fun n _ r => .cons (.int k n) r) l
def mg (m : Nat) : AV := Nat.rec (motive := fun _ => AV) (.ro 0 .nil) (fun _ _ => .ro 1 (.cons (.int .u32 (.ofNat m)) .nil)) m
/-- Whole rationals (of one digit), ahead of other cells. -/
def qz (l : List Int) (t : AV) : AV := List.rec (motive := fun _ => AV) t (fun n _ r => Int.rec (motive := fun _ => AV) (fun m => .cons (.bool false) (.cons (mg m) (.cons (.bool false) (.cons (.ro 0 .nil) r)))) (fun m => .cons (.bool true) (.cons (mg (Nat.succ m)) (.cons (.bool false) (.cons (.ro 0 .nil) r)))) n) l
/-- Rationals (of one digit each), ahead of other cells. -/
def qd (l : List (Int × Nat)) (t : AV) : AV := List.rec (motive := fun _ => AV) t (fun n _ r => Int.rec (motive := fun _ => AV) (fun m => .cons (.bool false) (.cons (mg m) (.cons (.bool false) (.cons (mg n.2) r)))) (fun m => .cons (.bool true) (.cons (mg (Nat.succ m)) (.cons (.bool false) (.cons (mg n.2) r)))) n.1) l
end
end Go.Sy
