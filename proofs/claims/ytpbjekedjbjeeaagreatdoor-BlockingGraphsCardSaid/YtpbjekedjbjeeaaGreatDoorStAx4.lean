/- meeting.Axes of two boxes: its contract. -/
import Derived.Test.YtpbjekedjbjeeaaGreatDoorStAx2a
import Derived.Test.YtpbjekedjbjeeaaGreatDoorStAx2ah
import Derived.Test.YtpbjekedjbjeeaaGreatDoorStAx2b
import Derived.Test.YtpbjekedjbjeeaaGreatDoorStAx2bh
import Derived.Test.YtpbjekedjbjeeaaGreatDoorStAx2c
import Derived.Test.YtpbjekedjbjeeaaGreatDoorStAx2ch
import Derived.Test.YtpbjekedjbjeeaaGreatDoorSyZ
import Derived.Test.YtpbjekedjbjeeaaGreatDoorSyV6
import Derived.Test.YtpbjekedjbjeeaaGreatDoorStAx1
namespace Go.Sy
open Go.RowKit Go.Proofs
set_option linter.unusedVariables false
set_option maxRecDepth 1000000
set_option maxHeartbeats 0
noncomputable def axBel (m : Nat) (x : R) : Bool := Nat.rec (motive := fun _ => Bool) true (fun i ih => band ih (axLeaf axCall axN i x)) m
theorem axBel_get {x : R} {i : Nat} : ∀ {m : Nat}, axBel m x = true → i < m → axLeaf axCall axN i x = true
  | 0, _, h => absurd h (Nat.not_lt_zero _)
  | m + 1, h, hi => by
    obtain ⟨h1, h2⟩ := band_iff.1 (show band (axBel m x) (axLeaf axCall axN m x) = true from h)
    rcases Nat.lt_or_ge i m with h3 | h3
    · exact axBel_get h1 h3
    · rw [show i = m by omega]; exact h2
theorem ax_next {m : Nat} (h : bCode 10 (axCx axCall) (nthSeq 7 axC) (axBel m) axR [] (axH axN) = true) (h2 : bCode 10 (axCx axCall) (nthSeq 7 axC) (axLeaf axCall axN m) axR [] (axH axN) = true) : bCode 10 (axCx axCall) (nthSeq 7 axC) (axBel (m + 1)) axR [] (axH axN) = true :=
  bCode_and 10 _ (k3 := axBel (m + 1)) (fun x a b => band_iff.2 ⟨a, b⟩) h h2
theorem ax_all : bCode 10 (axCx axCall) (nthSeq 7 axC) (axFull axCall) axR [] (axH axN) = true := by
  have h0 : bCode 10 (axCx axCall) (nthSeq 7 axC) (axBel 0) axR [] (axH axN) = true := bCode_and 10 _ (k3 := axBel 0) (fun _ _ _ => rfl) ax_rng ax_rng
  have h30 := (ax_next (ax_next (ax_next (ax_next (ax_next (ax_next (ax_next (ax_next (ax_next (ax_next (ax_next (ax_next (ax_next (ax_next (ax_next (ax_next (ax_next (ax_next (ax_next (ax_next (ax_next (ax_next (ax_next (ax_next (ax_next (ax_next (ax_next (ax_next (ax_next (ax_next h0 ax_t0) ax_t1) ax_t2) ax_t3) ax_t4) ax_t5) ax_t6) ax_t7) ax_t8) ax_t9) ax_t10) ax_t11) ax_t12) ax_t13) ax_t14) ax_t15) ax_t16) ax_t17) ax_t18) ax_t19) ax_t20) ax_t21) ax_t22) ax_t23) ax_t24) ax_t25) ax_t26) ax_t27) ax_t28) ax_t29)
  refine bCode_and 10 _ (k3 := axFull axCall) (fun x a b => ?_) h30 ax_rng
  cases x with
  | fail => cases b
  | exit i r m h => cases b
  | ret r m h => cases b
  | ok r m h =>
    have hlt : axCls axN h ≤ 29 := Nat.le_of_ble_eq_true b
    have hl := axBel_get a (Nat.lt_succ_of_le hlt)
    change Bool.casesOn (motive := fun _ => Bool) (Nat.beq (axCls axN h) (axCls axN h)) true (kFin Tryz.prog axFn axOut (xCode (dropSeq 8 axC) (axCx axCall) r m h)) = true at hl
    rw [Nat.beq_refl] at hl
    exact hl
theorem ax_tail (B0 : Nat) : Cw Tryz.prog B0 (axCx axCall) (dropSeq 7 axC) axR [] (axH axN) (fun x => kFin Tryz.prog axFn axOut x = true) :=
  Cw.alt_rest p_mixed rfl rfl (axCall_ok B0) (N := 10) (a := nthSeq 7 axC) (b := dropSeq 8 axC) rfl ax_all
noncomputable section
def axB (ov : Tgt → AV → Heap → Option CR) (xs : AV) : Bool := match axPre ov xs with | some s => canB 5 14 (pathOf 67) (pathOf 66) axN axEs s | none => false
end
theorem PF_axes {ov : Tgt → AV → Heap → Option CR} (hov : ∀ B0, OvOK Tryz.prog B0 ov) {xs : AV} (hp : PureL xs) (h : axB ov xs = true) : PF Tryz.prog 174 xs axOut := by
  unfold axB at h
  split at h
  · rename_i s hs
    obtain ⟨r, har, hpre⟩ := oB_some hs
    exact PF.of_alt p_mixed (by decide) (fn := axFn) rfl axC_ok har hp (fun B0 => callO_sound p_mixed p_callable (hov B0) 1000 30) hpre (fun B0 => canB_sub h) ax_tail
  · cases h
noncomputable section
def selB (a : AV) : AV := Bool.rec (motive := fun _ => AV) .nil a (dpB a)
/-- The contract, for whatever arguments by which a run of the first pieces brings the six axes. -/
def d_axes (ov : Tgt → AV → Heap → Option CR) (hov : ∀ B0, OvOK Tryz.prog B0 ov) : Dc Tryz.prog :=
  Dc.mk (Cn.mk 174 false AV selB (fun _ => axOut) (fun a => dpB a = true ∧ axB ov a = true) (fun _ _ _ _ _ => rfl)
    (fun a => by
      unfold selB
      cases h : dpB a with
      | false => exact trivial
      | true => exact (dpB_ok h).1)
    (fun _ => .ro) (fun h => by cases h)
    (fun a ha => by
      have e : selB a = a := by unfold selB; rw [ha.1]
      rw [e]
      exact PF_axes hov (dpB_ok ha.1).2 ha.2) (hasbody rfl rfl))
    (fun x => Bool.rec (motive := fun _ => Option AV) none (some x) (dpB x)) (fun a => band (dpB a) (axB ov a))
    (fun x a h => by
      cases hd : dpB x with
      | false => rw [hd] at h; cases h
      | true =>
        rw [hd] at h
        cases h
        show selB x = x
        unfold selB
        rw [hd])
    (fun a h => by
      obtain ⟨h1, h2⟩ := band_iff.1 (show band (dpB a) (axB ov a) = true from h)
      exact ⟨h1, h2⟩)
end
end Go.Sy
/- The extent of a shape along a vector. -/
namespace Go.Sy
open Go.RowKit Go.Proofs
set_option linter.unusedVariables false
set_option linter.unusedSimpArgs false
set_option maxRecDepth 1000000
attribute [local irreducible] Cw SealV SealL PF Sub
attribute [local instance] tb0
noncomputable def tExt : List (Cn Tryz.prog) := [n_VDot, n_RCompare]
def extStep (n : Q3) (q : Nat) (v : Q3) (s : Q × Q) : Q × Q :=
  match ieq (q : Int) 0 with
  | true => (dotQ n v, dotQ n v)
  | false => ((match ilt (Q.cmp (dotQ n v) s.1) 0 with | true => dotQ n v | false => s.1), (match ilt 0 (Q.cmp (dotQ n v) s.2) with | true => dotQ n v | false => s.2))
def extGo (n : Q3) : Nat → List Q3 → Q × Q → Q × Q
  | _, [], s => s
  | q, v :: l, s => extGo n (q + 1) l (extStep n q v s)
def extOK (n : Q3) : Nat → List Q3 → Q × Q → Prop
  | _, [], _ => True
  | q, v :: l, s => DotOK n v ∧ (ieq (q : Int) 0 = false → CmpOK (dotQ n v) s.1 ∧ CmpOK (dotQ n v) s.2) ∧ extOK n (q + 1) l (extStep n q v s)
theorem extGo_snoc {n v : Q3} : ∀ {l : List Q3} {a : Nat} {s : Q × Q}, extGo n a (l ++ [v]) s = extStep n (a + l.length) v (extGo n a l s)
  | [], a, s => rfl
  | u :: l, a, s => by
    show extGo n (a + 1) (l ++ [v]) (extStep n a u s) = _
    rw [extGo_snoc, List.length_cons, show a + 1 + l.length = a + (l.length + 1) by omega]
    rfl
theorem extOK_at {n : Q3} : ∀ {l : List Q3} {a : Nat} {s : Q × Q}, extOK n a l s → ∀ (q : Nat) (hq : q < l.length), DotOK n l[q] ∧ (ieq ((a + q : Nat) : Int) 0 = false → CmpOK (dotQ n l[q]) (extGo n a (l.take q) s).1 ∧ CmpOK (dotQ n l[q]) (extGo n a (l.take q) s).2)
  | [], _, _, _, q, hq => absurd hq (Nat.not_lt_zero _)
  | v :: l, a, s, h, 0, _ => ⟨h.1, h.2.1⟩
  | v :: l, a, s, h, q + 1, hq => by
    have := extOK_at h.2.2 q (Nat.lt_of_succ_lt_succ hq)
    rw [show a + 1 + q = a + (q + 1) by omega] at this
    exact this
theorem bIfT {b : Bool} {kt kf : Prop} (h : b = true) (k : kt) : Bool.casesOn (motive := fun _ => Prop) b kf kt := by subst h; exact k
theorem bIfF {b : Bool} {kt kf : Prop} (h : b = false) (k : kf) : Bool.casesOn (motive := fun _ => Prop) b kf kt := by subst h; exact k
theorem c_Extent (l : List Q3) (nf ne : Nat) (lf le : AV) (n : Q3) (hl : l.length ≤ 4294967296) (hok : extOK n 0 l ((0, 0), (0, 0))) :
    PFp 166 (.cons (.agg (.cons (eQ3.list.v l) (.cons (.ro nf lf) (.cons (.ro ne le) .nil)))) (.cons (eQ3.v n) .nil)) (.tup (.cons (eRat.v (extGo n 0 l ((0, 0), (0, 0))).1) (.cons (eRat.v (extGo n 0 l ((0, 0), (0, 0))).2) .nil))) := by
  obtain ⟨⟨n0, m0⟩, ⟨n1, m1⟩, ⟨n2, m2⟩⟩ := n
  refine PF.of_wp (c := _) p_mixed (by decide) (fn := Tryz.f166) rfl rfl rfl (.cons (.agg (.cons (eQ3.list.pureV _) (.cons .ro (.cons .ro .nil)))) (.cons (eQ3.pureV _) .nil)) (call := callT tExt) (fun B0 => callT_ok p_callable _ B0) ?_
  intro B0
  conv => whnf
  obtain ⟨st, hS⟩ : ∃ st : Nat → Q × Q, ∀ q, st q = extGo ((n0, m0), (n1, m1), (n2, m2)) 0 (l.take q) ((0, 0), (0, 0)) := ⟨_, fun _ => rfl⟩
  have h00 : st 0 = ((0, 0), (0, 0)) := by rw [hS]; rfl
  have hsucc : ∀ q (hq : q < l.length), st (q + 1) = extStep ((n0, m0), (n1, m1), (n2, m2)) q l[q] (st q) := fun q hq => by
    rw [hS, hS, List.take_succ_eq_append_getElem hq, extGo_snoc, List.length_take_of_le (by omega), Nat.zero_add]
  have hend : extGo ((n0, m0), (n1, m1), (n2, m2)) 0 l ((0, 0), (0, 0)) = st l.length := by rw [hS, List.take_length]
  have hat : ∀ q (hq : q < l.length), DotOK ((n0, m0), (n1, m1), (n2, m2)) l[q] ∧ (ieq (q : Int) 0 = false → CmpOK (dotQ ((n0, m0), (n1, m1), (n2, m2)) l[q]) (st q).1 ∧ CmpOK (dotQ ((n0, m0), (n1, m1), (n2, m2)) l[q]) (st q).2) := fun q hq => by
    have := extOK_at hok q hq
    rw [Nat.zero_add, ← hS] at this
    exact this
  refine Cw.loop (ι := Nat) (fun q => regsT [(3, .ptr (pathOf 65) 0), (4, .ptr (pathOf 66) 0), (5, .ptr (pathOf 67) 0), (10, eQ3.list.v l), (11, .int .i64 (l.length : Int)), (12, .int .i64 (q : Int))]) (fun _ => []) (fun q => ⟨heapT [(pathOf 65, .cells (regsT [(0, .bool (decide (((n0, m0) : Q).1 < 0))), (1, eMag.v ((n0, m0) : Q).1.natAbs), (2, .bool (decide (((n0, m0) : Q).2 < 0))), (3, eMag.v ((n0, m0) : Q).2.natAbs), (4, .bool (decide (((n1, m1) : Q).1 < 0))), (5, eMag.v ((n1, m1) : Q).1.natAbs), (6, .bool (decide (((n1, m1) : Q).2 < 0))), (7, eMag.v ((n1, m1) : Q).2.natAbs), (8, .bool (decide (((n2, m2) : Q).1 < 0))), (9, eMag.v ((n2, m2) : Q).1.natAbs), (10, .bool (decide (((n2, m2) : Q).2 < 0))), (11, eMag.v ((n2, m2) : Q).2.natAbs)]) 12 false), (pathOf 66, .cells (regsT [(0, .bool (decide ((st q).1.1 < 0))), (1, eMag.v (st q).1.1.natAbs), (2, .bool (decide ((st q).1.2 < 0))), (3, eMag.v (st q).1.2.natAbs)]) 4 false), (pathOf 67, .cells (regsT [(0, .bool (decide ((st q).2.1 < 0))), (1, eMag.v (st q).2.1.natAbs), (2, .bool (decide ((st q).2.2 < 0))), (3, eMag.v (st q).2.2.natAbs)]) 4 false)], pathOf 68⟩) (fun q => q ≤ l.length) (fun q => l.length - q) ?_ 0 (Nat.zero_le _) ?_
  · intro q hq
    refine wp_sound p_mixed rfl rfl (callT_ok p_callable tExt B0) _ ?_
    conv => whnf
    refine bSplit (fun h1 => ?_) (fun h1 => ?_)
    · have hq' : q < l.length := Int.ofNat_lt.1 (ilt_iff.1 h1)
      have hidx : iwrap .i64 (Int.add (q : Int) 1) = ((q + 1 : Nat) : Int) := by
        show iwrap .i64 ((q : Int) + 1) = _
        rw [iwrap_i64 (by omega) (by omega)]
        omega
      obtain ⟨hd, hc⟩ := hat q hq'
      conv => whnf
      refine IdxP.go q rfl hq' ?_
      conv => whnf
      refine ⟨_, eQ3.rd rfl hq', ?_⟩
      conv => whnf
      refine callT_go (l := tExt) (by decide) 0 (c := n_VDot) rfl (((n0, m0), (n1, m1), (n2, m2)), l[q]) hd ?_ ?_ ?_
      · repeat' first | exact trivial | refine ⟨?_, ?_⟩
      · rfl
      conv => whnf
      repeat (first | (refine ⟨⟨_, rfl, rfl⟩, ?_⟩; conv => whnf) | (refine ⟨trivial, ?_⟩; conv => whnf) | (refine ⟨⟨_, eQ3.rd (P := Tryz.prog) (t := 91) rfl hq', eQ3.rd (P := Tryz.prog) (t := 91) rfl hq'⟩, ?_⟩; conv => whnf))
      refine bSplit (fun h2 => ?_) (fun h2 => ?_)
      · have h2' : ieq (q : Int) 0 = true := h2
        have hstep : extStep ((n0, m0), (n1, m1), (n2, m2)) q l[q] (st q) = (dotQ ((n0, m0), (n1, m1), (n2, m2)) l[q], dotQ ((n0, m0), (n1, m1), (n2, m2)) l[q]) := by unfold extStep; rw [h2']
        conv => whnf
        repeat (first | (refine bIfT h2' ?_; conv => whnf) | (refine ⟨⟨_, rfl, rfl⟩, ?_⟩; conv => whnf) | (refine ⟨trivial, ?_⟩; conv => whnf))
        refine ⟨q + 1, hq', by omega, ?_⟩
        refine Sub.of [(pathOf 65, some (pathOf 65)), (pathOf 66, some (pathOf 66)), (pathOf 67, some (pathOf 67))] [] rfl rfl rfl ?_ ?_
        · repeat' first | exact trivial | exact rfl | refine And.intro ?_ ?_
          all_goals first | exact hidx | (rw [hsucc q hq', hstep]; done) | (rw [hsucc q hq', hstep]; exact rfl)
        · repeat' first | exact trivial | exact rfl | refine And.intro ?_ ?_
          all_goals first | exact hidx | (rw [hsucc q hq', hstep]; done) | (rw [hsucc q hq', hstep]; exact rfl)
      · have h2' : ieq (q : Int) 0 = false := h2
        conv => whnf
        repeat (first | (refine bIfF h2' ?_; conv => whnf) | (refine ⟨⟨_, rfl, rfl⟩, ?_⟩; conv => whnf) | (refine ⟨trivial, ?_⟩; conv => whnf))
        refine callT_go (l := tExt) (by decide) 1 (c := n_RCompare) rfl (dotQ ((n0, m0), (n1, m1), (n2, m2)) l[q], (st q).1) (hc h2').1 ?_ ?_ ?_
        · repeat' first | exact trivial | refine ⟨?_, ?_⟩
        · rfl
        conv => whnf
        repeat (first | (refine ⟨⟨_, rfl, rfl⟩, ?_⟩; conv => whnf) | (refine ⟨trivial, ?_⟩; conv => whnf))
        refine bSplit (fun h3 => ?_) (fun h3 => ?_)
        · have h3' : ilt (Q.cmp (dotQ ((n0, m0), (n1, m1), (n2, m2)) l[q]) (st q).1) 0 = true := h3
          conv => whnf
          repeat (first | (refine bIfF h2' ?_; conv => whnf) | (refine ⟨⟨_, rfl, rfl⟩, ?_⟩; conv => whnf) | (refine ⟨trivial, ?_⟩; conv => whnf))
          refine callT_go (l := tExt) (by decide) 1 (c := n_RCompare) rfl (dotQ ((n0, m0), (n1, m1), (n2, m2)) l[q], (st q).2) (hc h2').2 ?_ ?_ ?_
          · repeat' first | exact trivial | refine ⟨?_, ?_⟩
          · rfl
          conv => whnf
          repeat (first | (refine ⟨⟨_, rfl, rfl⟩, ?_⟩; conv => whnf) | (refine ⟨trivial, ?_⟩; conv => whnf))
          refine bSplit (fun h4 => ?_) (fun h4 => ?_)
          · have h4' : ilt 0 (Q.cmp (dotQ ((n0, m0), (n1, m1), (n2, m2)) l[q]) (st q).2) = true := h4
            have hstep : extStep ((n0, m0), (n1, m1), (n2, m2)) q l[q] (st q) = (dotQ ((n0, m0), (n1, m1), (n2, m2)) l[q], dotQ ((n0, m0), (n1, m1), (n2, m2)) l[q]) := by unfold extStep; rw [h2']; simp only [h3', h4']
            conv => whnf
            repeat (first | (refine ⟨⟨_, rfl, rfl⟩, ?_⟩; conv => whnf) | (refine ⟨trivial, ?_⟩; conv => whnf))
            refine ⟨q + 1, hq', by omega, ?_⟩
            refine Sub.of [(pathOf 65, some (pathOf 65)), (pathOf 66, some (pathOf 66)), (pathOf 67, some (pathOf 67))] [] rfl rfl rfl ?_ ?_
            · repeat' first | exact trivial | exact rfl | refine And.intro ?_ ?_
              all_goals first | exact hidx | (rw [hsucc q hq', hstep]; done) | (rw [hsucc q hq', hstep]; exact rfl)
            · repeat' first | exact trivial | exact rfl | refine And.intro ?_ ?_
              all_goals first | exact hidx | (rw [hsucc q hq', hstep]; done) | (rw [hsucc q hq', hstep]; exact rfl)
          · have h4' : ilt 0 (Q.cmp (dotQ ((n0, m0), (n1, m1), (n2, m2)) l[q]) (st q).2) = false := h4
            have hstep : extStep ((n0, m0), (n1, m1), (n2, m2)) q l[q] (st q) = (dotQ ((n0, m0), (n1, m1), (n2, m2)) l[q], (st q).2) := by unfold extStep; rw [h2']; simp only [h3', h4']
            conv => whnf
            repeat (first | (refine ⟨⟨_, rfl, rfl⟩, ?_⟩; conv => whnf) | (refine ⟨trivial, ?_⟩; conv => whnf))
            refine ⟨q + 1, hq', by omega, ?_⟩
            refine Sub.of [(pathOf 65, some (pathOf 65)), (pathOf 66, some (pathOf 66)), (pathOf 67, some (pathOf 67))] [] rfl rfl rfl ?_ ?_
            · repeat' first | exact trivial | exact rfl | refine And.intro ?_ ?_
              all_goals first | exact hidx | (rw [hsucc q hq', hstep]; done) | (rw [hsucc q hq', hstep]; exact rfl)
            · repeat' first | exact trivial | exact rfl | refine And.intro ?_ ?_
              all_goals first | exact hidx | (rw [hsucc q hq', hstep]; done) | (rw [hsucc q hq', hstep]; exact rfl)
        · have h3' : ilt (Q.cmp (dotQ ((n0, m0), (n1, m1), (n2, m2)) l[q]) (st q).1) 0 = false := h3
          conv => whnf
          repeat (first | (refine bIfF h2' ?_; conv => whnf) | (refine ⟨⟨_, rfl, rfl⟩, ?_⟩; conv => whnf) | (refine ⟨trivial, ?_⟩; conv => whnf))
          refine callT_go (l := tExt) (by decide) 1 (c := n_RCompare) rfl (dotQ ((n0, m0), (n1, m1), (n2, m2)) l[q], (st q).2) (hc h2').2 ?_ ?_ ?_
          · repeat' first | exact trivial | refine ⟨?_, ?_⟩
          · rfl
          conv => whnf
          repeat (first | (refine ⟨⟨_, rfl, rfl⟩, ?_⟩; conv => whnf) | (refine ⟨trivial, ?_⟩; conv => whnf))
          refine bSplit (fun h4 => ?_) (fun h4 => ?_)
          · have h4' : ilt 0 (Q.cmp (dotQ ((n0, m0), (n1, m1), (n2, m2)) l[q]) (st q).2) = true := h4
            have hstep : extStep ((n0, m0), (n1, m1), (n2, m2)) q l[q] (st q) = ((st q).1, dotQ ((n0, m0), (n1, m1), (n2, m2)) l[q]) := by unfold extStep; rw [h2']; simp only [h3', h4']
            conv => whnf
            repeat (first | (refine ⟨⟨_, rfl, rfl⟩, ?_⟩; conv => whnf) | (refine ⟨trivial, ?_⟩; conv => whnf))
            refine ⟨q + 1, hq', by omega, ?_⟩
            refine Sub.of [(pathOf 65, some (pathOf 65)), (pathOf 66, some (pathOf 66)), (pathOf 67, some (pathOf 67))] [] rfl rfl rfl ?_ ?_
            · repeat' first | exact trivial | exact rfl | refine And.intro ?_ ?_
              all_goals first | exact hidx | (rw [hsucc q hq', hstep]; done) | (rw [hsucc q hq', hstep]; exact rfl)
            · repeat' first | exact trivial | exact rfl | refine And.intro ?_ ?_
              all_goals first | exact hidx | (rw [hsucc q hq', hstep]; done) | (rw [hsucc q hq', hstep]; exact rfl)
          · have h4' : ilt 0 (Q.cmp (dotQ ((n0, m0), (n1, m1), (n2, m2)) l[q]) (st q).2) = false := h4
            have hstep : extStep ((n0, m0), (n1, m1), (n2, m2)) q l[q] (st q) = ((st q).1, (st q).2) := by unfold extStep; rw [h2']; simp only [h3', h4']
            conv => whnf
            repeat (first | (refine ⟨⟨_, rfl, rfl⟩, ?_⟩; conv => whnf) | (refine ⟨trivial, ?_⟩; conv => whnf))
            refine ⟨q + 1, hq', by omega, ?_⟩
            refine Sub.of [(pathOf 65, some (pathOf 65)), (pathOf 66, some (pathOf 66)), (pathOf 67, some (pathOf 67))] [] rfl rfl rfl ?_ ?_
            · repeat' first | exact trivial | exact rfl | refine And.intro ?_ ?_
              all_goals first | exact hidx | (rw [hsucc q hq', hstep]; done) | (rw [hsucc q hq', hstep]; exact rfl)
            · repeat' first | exact trivial | exact rfl | refine And.intro ?_ ?_
              all_goals first | exact hidx | (rw [hsucc q hq', hstep]; done) | (rw [hsucc q hq', hstep]; exact rfl)
    · have hq1 : q = l.length := by have := ilt_no.1 h1; omega
      subst hq1
      rw [hend]
      conv => whnf
      repeat (first | (refine ⟨⟨_, rfl, rfl⟩, ?_⟩; conv => whnf) | (refine ⟨trivial, ?_⟩; conv => whnf))
      exact SealV.same rfl (.tup (.cons (eRat.pureV (st l.length).1) (.cons (eRat.pureV (st l.length).2) .nil)))
  · refine Sub.of [(pathOf 65, some (pathOf 65)), (pathOf 66, some (pathOf 66)), (pathOf 67, some (pathOf 67))] [] rfl rfl rfl ?_ ?_
    · repeat' first | exact trivial | exact rfl | refine And.intro ?_ ?_
    · repeat' first | exact trivial | exact rfl | refine And.intro ?_ ?_
      all_goals (rw [h00]; first | exact rfl | exact ⟨rfl, rfl⟩)
end Go.Sy
/- The extent of a shape, as a known outcome. -/
namespace Go.Sy
open Go.RowKit Go.Proofs
set_option linter.unusedVariables false
set_option linter.unusedSimpArgs false
set_option maxRecDepth 1000000
attribute [local instance] tb0
noncomputable section
def selL (l : AV) : AV := Bool.rec (motive := fun _ => AV) .nil l (dpB l)
theorem selL_pure (l : AV) : PureL (selL l) := by
  unfold selL
  cases h : dpB l with
  | false => exact .nil
  | true => exact (dpB_ok h).2
abbrev ExtA := (List Q3 × (Nat × AV) × (Nat × AV)) × Q3
def extV (p : ExtA) : AV := .tup (.cons (eRat.v (extGo p.2 0 p.1.1 ((0, 0), (0, 0))).1) (.cons (eRat.v (extGo p.2 0 p.1.1 ((0, 0), (0, 0))).2) .nil))
def n_Extent : Cn Tryz.prog :=
  Cn.mk 166 false ExtA (fun p => .cons (.agg (.cons (eQ3.list.v p.1.1) (.cons (.ro p.1.2.1.1 (selL p.1.2.1.2)) (.cons (.ro p.1.2.2.1 (selL p.1.2.2.2)) .nil)))) (.cons (eQ3.v p.2) .nil)) extV
    (fun p => p.1.1.length ≤ 4294967296 ∧ extOK p.2 0 p.1.1 ((0, 0), (0, 0)))
    (fun a b _ _ h => by
      injection h with h1 h2
      injection h1 with h1
      injection h1 with h1 _
      injection h2 with h2 _
      unfold extV
      rw [eQ3.list.v_inj h1, eQ3.v_inj h2])
    (fun p => ⟨⟨eQ3.list.dpV _, selL_pure _, selL_pure _, trivial⟩, eQ3.dpV _, trivial⟩) (fun p => .tup (.cons (eRat.pureV _) (.cons (eRat.pureV _) .nil))) (fun h => by cases h)
    (fun p h => c_Extent p.1.1 p.1.2.1.1 p.1.2.2.1 (selL p.1.2.1.2) (selL p.1.2.2.2) p.2 h.1 h.2) (hasbody rfl rfl)
def extB (n : Q3) : List Q3 → Nat → Q × Q → Bool :=
  List.rec (motive := fun _ => Nat → Q × Q → Bool) (fun _ _ => true) (fun v _ ih q s => band (dotB n v) (band (bor2 (ieq (q : Int) 0) (band (cmpB (dotQ n v) s.1) (cmpB (dotQ n v) s.2))) (ih (Nat.succ q) (extStep n q v s))))
theorem extB_ok {n : Q3} : ∀ {l : List Q3} {q : Nat} {s : Q × Q}, extB n l q s = true → extOK n q l s
  | [], _, _, _ => trivial
  | v :: l, q, s, h => by
    obtain ⟨h1, h2⟩ := band_iff.1 (show band (dotB n v) (band (bor2 (ieq (q : Int) 0) (band (cmpB (dotQ n v) s.1) (cmpB (dotQ n v) s.2))) (extB n l (Nat.succ q) (extStep n q v s))) = true from h)
    obtain ⟨h2, h3⟩ := band_iff.1 h2
    refine ⟨dotB_ok h1, fun h0 => ?_, extB_ok h3⟩
    rcases bor2_iff.1 h2 with h4 | h4
    · rw [h0] at h4; cases h4
    · obtain ⟨h5, h6⟩ := band_iff.1 h4
      exact ⟨cmp_ok h5, cmp_ok h6⟩
def extDec (x : AV) : Option ExtA := match x with
  | .cons (.agg (.cons L (.cons (.ro nf lf) (.cons (.ro ne le) .nil)))) t => oB (dec1 rQ3.list (.cons L .nil)) fun l => oB (dec1 rQ3 t) fun n => bB (band (dpB lf) (dpB le)) (some ((l, (nf, lf), (ne, le)), n))
  | _ => none
theorem selL_of {l : AV} (h : dpB l = true) : selL l = l := by unfold selL; rw [h]
theorem extDec_ok (x : AV) (a : ExtA) (h : extDec x = some a) : n_Extent.as a = x := by
  unfold extDec at h
  split at h
  · rename_i L nf lf ne le t
    obtain ⟨l, h1, h⟩ := oB_some h
    obtain ⟨n, h2, h⟩ := oB_some h
    obtain ⟨h3, h⟩ := bB_some h
    cases h
    obtain ⟨h3, h4⟩ := band_iff.1 h3
    have e1 := dec1_ok h1
    have e2 := dec1_ok h2
    injection e1 with e1 _
    show AV.cons (.agg (.cons (eQ3.list.v l) (.cons (.ro nf (selL lf)) (.cons (.ro ne (selL le)) .nil)))) (.cons (eQ3.v n) .nil) = _
    rw [selL_of h3, selL_of h4, e1, e2]
  · cases h
def extC (p : ExtA) : Bool := band (Nat.ble p.1.1.length 4294967296) (extB p.2 p.1.1 0 ((0, 0), (0, 0)))
theorem extC_ok (a : ExtA) (h : extC a = true) : n_Extent.ok a := by
  obtain ⟨h1, h2⟩ := band_iff.1 h
  exact ⟨Nat.le_of_ble_eq_true h1, extB_ok h2⟩
def d_Extent : Dc Tryz.prog := ⟨n_Extent, extDec, extC, extDec_ok, extC_ok⟩
end
end Go.Sy
/- What is known beforehand, with meeting.Axes. -/
namespace Go.Sy
open Go.RowKit Go.Proofs
set_option linter.unusedVariables false
set_option maxRecDepth 1000000
set_option maxHeartbeats 0
/-- The six axes, as points. -/
noncomputable def axPtT : List (AV × AV) := axEs.map fun e => (.cons e.2 .nil, e.1)
theorem axPt_ran : ranAll Tryz.prog stov3 140 axPtT = true := by decide +kernel
noncomputable def d_axPt : Dc Tryz.prog := Dc.memo 140 axPtT (ranAll_ok p_mixed p_callable stov3_ok (by decide) axPt_ran) (hasbody rfl rfl)
noncomputable def stovP : Tgt → AV → Heap → Option CR := ovD (dcTab (d_axPt :: stdc3))
theorem stovP_ok (B0 : Nat) : OvOK Tryz.prog B0 stovP := ovD_ok p_callable _ B0
noncomputable def stdcA : List (Dc Tryz.prog) := d_axes stovP stovP_ok :: Dc.lift tb1 d_Extent :: stdc3
noncomputable def stovA : Tgt → AV → Heap → Option CR := ovD (dcTab stdcA)
theorem stovA_ok (B0 : Nat) : OvOK Tryz.prog B0 stovA := ovD_ok p_callable _ B0
end Go.Sy
