/- Short ways to write values. -/
import Derived.Test.YtpbjekedjbjeeaaGreatDoorSyZ
namespace Go.Sy
set_option linter.unusedVariables false
noncomputable section
/-- Ints of one kind, ahead of other cells. -/
def iz (k : IntKind) (l : List Int) (t : AV) : AV := List.rec (motive := fun _ => AV) t (fun n _ r => .cons (.int k n) r) l
def mg (m : Nat) : AV := Nat.rec (motive := fun _ => AV) (.ro 0 .nil) (fun _ _ => .ro 1 (.cons (.int .u32 (.ofNat m)) .nil)) m
/-- Whole rationals (of one digit), ahead of other cells. -/
def qz (l : List Int) (t : AV) : AV := List.rec (motive := fun _ => AV) t (fun n _ r => Int.rec (motive := fun _ => AV) (fun m => .cons (.bool false) (.cons (mg m) (.cons (.bool false) (.cons (.ro 0 .nil) r)))) (fun m => .cons (.bool true) (.cons (mg (Nat.succ m)) (.cons (.bool false) (.cons (.ro 0 .nil) r)))) n) l
/-- Rationals (of one digit each), ahead of other cells. -/
def qd (l : List (Int × Nat)) (t : AV) : AV := List.rec (motive := fun _ => AV) t (fun n _ r => Int.rec (motive := fun _ => AV) (fun m => .cons (.bool false) (.cons (mg m) (.cons (.bool false) (.cons (mg n.2) r)))) (fun m => .cons (.bool true) (.cons (mg (Nat.succ m)) (.cons (.bool false) (.cons (mg n.2) r)))) n.1) l
end
end Go.Sy
/- Short ways to write boxes. -/
namespace Go.Sy
set_option linter.unusedVariables false
noncomputable section
def bxL (a b c x y z : Int) : List Int := [a, b, c, a, b, z, a, y, c, a, y, z, x, b, c, x, b, z, x, y, c, x, y, z]
/-- The corners of a box, as ints. -/
def bxI (a b c x y z : Int) : AV := .ro 8 (iz .i64 (bxL a b c x y z) .nil)
def bx4 (l : List Int) : AV := .ro 4 (iz .i64 l .nil)
def bxF (d0 d1 d2 d3 d4 d5 : Nat) (a b c x y z : Int) : AV :=
  .ro 6 (qd [(-1, d0), (0, d0), (0, d0), (-a, 0)] (.cons (bx4 [0, 1, 3, 2]) (qd [(0, d1), (0, d1), (-1, d1), (-c, 0)] (.cons (bx4 [0, 2, 6, 4]) (qd [(0, d2), (-1, d2), (0, d2), (-b, 0)] (.cons (bx4 [0, 4, 5, 1])
    (qd [(0, d3), (0, d3), (1, d3), (z, 0)] (.cons (bx4 [1, 5, 7, 3]) (qd [(0, d4), (1, d4), (0, d4), (y, 0)] (.cons (bx4 [2, 3, 7, 6]) (qd [(1, d5), (0, d5), (0, d5), (x, 0)] (.cons (bx4 [4, 6, 7, 5]) .nil))))))))))))
def bxE : AV := .ro 12 (iz .i64 [0, 1, 0, 2, 0, 2, 0, 1, 0, 4, 1, 2, 1, 3, 0, 3, 1, 5, 2, 3, 2, 3, 0, 4, 2, 6, 1, 4, 3, 7, 3, 4, 4, 5, 2, 5, 4, 6, 1, 5, 5, 7, 3, 5, 6, 7, 4, 5] .nil)
/-- A box, as a shape; the denominators of its normals. -/
def bx (d0 d1 d2 d3 d4 d5 : Nat) (a b c x y z : Int) : AV := .agg (.cons (.ro 8 (qz (bxL a b c x y z) .nil)) (.cons (bxF d0 d1 d2 d3 d4 d5 a b c x y z) (.cons bxE .nil)))
def bxo : Int → Int → Int → Int → Int → Int → AV := bx 0 0 0 0 0 0
def bxp (n : List Int) (m : Int) (t : AV) : AV := iz .i64 n (.cons (.int .u64 m) t)
/-- Its rings. -/
def bxR (a b c x y z : Int) : AV := .tup (.cons (.ro 6 (bxp [-((y - b) * (z - c)), 0, 0] 15 (bxp [0, 0, -((x - a) * (y - b))] 85 (bxp [0, -((x - a) * (z - c)), 0] 51 (bxp [0, 0, (x - a) * (y - b)] 170 (bxp [0, (x - a) * (z - c), 0] 204 (bxp [(y - b) * (z - c), 0, 0] 240 .nil)))))))
  (.cons (.ro 6 (.cons (bx4 [0, 1, 3, 2]) (.cons (bx4 [0, 2, 6, 4]) (.cons (bx4 [0, 4, 5, 1]) (.cons (bx4 [1, 5, 7, 3]) (.cons (bx4 [2, 3, 7, 6]) (.cons (bx4 [4, 6, 7, 5]) .nil))))))) (.cons (.int .u64 255) .nil)))
end
end Go.Sy
