/- Comparing ints and edges. -/
import Derived.Test.YtpbjekedjbjeeaaGreatDoorSyR3
import Derived.Test.YtpbjekedjbjeeaaGreatDoorSyE0
import Derived.Test.YtpbjekedjbjeeaaGreatDoorSyDec
import Derived.Test.YtpbjekedjbjeeaaGreatDoorSyZ
import Derived.Test.YtpbjekedjbjeeaaGreatDoorStBase
namespace Go.Sy
open Go.RowKit Go.Proofs
set_option linter.unusedVariables false
set_option linter.unusedSimpArgs false
set_option maxRecDepth 1000000
set_option maxHeartbeats 0
attribute [local irreducible] Cw SealV SealL PF Sub
attribute [local instance] tb0
def cmpI (a b : Int) : Int := match ilt a b with | true => -1 | false => (match ilt b a with | true => 1 | false => 0)
theorem c_nan (x : Int) : PFp 47 (.cons ((eInt .i64).v x) .nil) (eBool.v false) := by
  refine PF.of_wp (c := _) p_mixed (by decide) (fn := Tryz.f47) rfl rfl rfl (.cons .int .nil) (call := callT []) (fun B0 => callT_ok p_callable [] B0) ?_
  intro B0
  conv => whnf
  exact SealV.same (congrArg AV.bool (by rw [ieq_dec]; simp [bnot])) PureV.bool
noncomputable def n_nan : Cn Tryz.prog := .of1 (eInt .i64) eBool 47 true (fun _ => True) (fun _ => false) flat_bool (fun x _ => c_nan x) (hasbody rfl rfl)
noncomputable def tNan : List (Cn Tryz.prog) := [n_nan]
theorem c_cmp (x y : Int) : PFp 28 (.cons ((eInt .i64).v x) (.cons ((eInt .i64).v y) .nil)) ((eInt .i64).v (cmpI x y)) := by
  refine PF.of_wp (c := _) p_mixed (by decide) (fn := Tryz.f28) rfl rfl rfl (.cons .int (.cons .int .nil)) (call := callT tNan) (fun B0 => callT_ok p_callable tNan B0) ?_
  intro B0
  conv => whnf
  refine callT_g (l := tNan) (by decide) 0 (c := n_nan) rfl x trivial (hk := ?_)
  conv => whnf
  refine callT_g (l := tNan) (by decide) 0 (c := n_nan) rfl y trivial (hk := ?_)
  conv => whnf
  unfold cmpI
  refine bSplit (fun h => ?_) (fun h => ?_)
  · conv => whnf
    rw [h]
    exact SealV.same rfl PureV.int
  · conv => whnf
    refine bSplit (fun h1 => ?_) (fun h1 => ?_)
    · conv => whnf
      rw [h, h1]
      exact SealV.same rfl PureV.int
    · conv => whnf
      rw [h, h1]
      exact SealV.same rfl PureV.int
noncomputable def n_cmp : Cn Tryz.prog := .of2 (eInt .i64) (eInt .i64) (eInt .i64) 28 true (fun _ _ => True) cmpI (flat_int _) (fun x y _ => c_cmp x y) (hasbody rfl rfl)
/-- The first that is not 0. -/
def orI (a b : Int) : Int := match ieq a 0 with | false => a | true => (match ieq b 0 with | false => b | true => 0)
theorem c_or2 (a b : Int) : PFp 27 (.cons ((eInt .i64).list.v [a, b]) .nil) ((eInt .i64).v (orI a b)) := by
  refine PF.of_wp (c := _) p_mixed (by decide) (fn := Tryz.f27) rfl rfl rfl (.cons ((eInt .i64).list.pureV _) .nil) (call := callT []) (fun B0 => callT_ok p_callable _ B0) ?_
  intro B0
  unfold orI
  conv => whnf
  refine Cw.unroll p_mixed rfl rfl (callT_ok p_callable _ B0) 3 ?_
  conv => whnf
  refine IdxP.go 0 rfl (by simp) ?_
  conv => whnf
  refine ⟨_, rfl, ?_⟩
  conv => whnf
  refine bSplit (fun h => ?_) (fun h => ?_)
  · conv => whnf
    rw [bnot_eq] at h
    rw [show ieq a 0 = false by simpa using h]
    exact SealV.same rfl PureV.int
  · conv => whnf
    rw [bnot_eq] at h
    rw [show ieq a 0 = true by simpa using h]
    refine IdxP.go 1 rfl (by simp) ?_
    conv => whnf
    refine ⟨_, rfl, ?_⟩
    conv => whnf
    refine bSplit (fun h => ?_) (fun h => ?_)
    · conv => whnf
      rw [bnot_eq] at h
      rw [show ieq b 0 = false by simpa using h]
      exact SealV.same rfl PureV.int
    · conv => whnf
      rw [bnot_eq] at h
      rw [show ieq b 0 = true by simpa using h]
      exact SealV.same rfl PureV.int
noncomputable def n_or2 : Cn Tryz.prog :=
  Cn.mk 27 true (Int × Int) (fun p => .cons ((eInt .i64).list.v [p.1, p.2]) .nil) (fun p => (eInt .i64).v (orI p.1 p.2)) (fun _ => True)
    (fun p q _ _ h => by
      injection h with h1 _
      have := (eInt .i64).list.v_inj h1
      injection this with h2 h3
      injection h3 with h3 _
      rw [h2, h3])
    (fun p => ⟨(eInt .i64).list.dpV _, trivial⟩) (fun p => PureV.int) (fun _ p => (eInt .i64).flatV _ (flat_int _ rfl _)) (fun p _ => c_or2 p.1 p.2) (hasbody rfl rfl)
/-- An edge. -/
noncomputable def eEd : Enc (Int × Int) := (eInt .i64).pair (eInt .i64)
def ordE (p q : Int × Int) : Int := orI (cmpI p.1 q.1) (cmpI p.2 q.2)
noncomputable def tOrd : List (Cn Tryz.prog) := [n_cmp, n_or2]
theorem c_ord (p q : Int × Int) : PFp 14 (.cons (eEd.v p) (.cons (eEd.v q) .nil)) ((eInt .i64).v (ordE p q)) := by
  obtain ⟨p0, p1⟩ := p
  obtain ⟨q0, q1⟩ := q
  refine PF.of_wp (c := _) p_mixed (by decide) (fn := Tryz.f14) rfl rfl rfl (.cons (eEd.pureV _) (.cons (eEd.pureV _) .nil)) (call := callT tOrd) (fun B0 => callT_ok p_callable _ B0) ?_
  intro B0
  conv => whnf
  repeat (refine nx ?_; conv => whnf)
  refine callT_g (l := tOrd) (by decide) 0 (c := n_cmp) rfl (p0, q0) trivial (hk := ?_)
  conv => whnf
  repeat (refine nx ?_; conv => whnf)
  refine callT_g (l := tOrd) (by decide) 0 (c := n_cmp) rfl (p1, q1) trivial (hk := ?_)
  conv => whnf
  repeat (refine nx ?_; conv => whnf)
  refine callT_g (l := tOrd) (by decide) 1 (c := n_or2) rfl (cmpI p0 q0, cmpI p1 q1) trivial (hk := ?_)
  conv => whnf
  repeat (refine nx ?_; conv => whnf)
  exact SealV.same rfl PureV.int
noncomputable def n_ord : Cn Tryz.prog := .of2 eEd eEd (eInt .i64) 14 true (fun _ _ => True) ordE (flat_int _) (fun p q _ => c_ord p q) (hasbody rfl rfl)
end Go.Sy
/- Searching in ints. -/
namespace Go.Sy
open Go.RowKit Go.Proofs
set_option linter.unusedVariables false
set_option linter.unusedSimpArgs false
set_option maxRecDepth 1000000
set_option maxHeartbeats 0
attribute [local irreducible] Cw SealV SealL PF Sub
attribute [local instance] tb0
theorem c_nan2 (x : Int) : PFp 24 (.cons ((eInt .i64).v x) .nil) (eBool.v false) := by
  refine PF.of_wp (c := _) p_mixed (by decide) (fn := Tryz.f24) rfl rfl rfl (.cons .int .nil) (call := callT []) (fun B0 => callT_ok p_callable [] B0) ?_
  intro B0
  conv => whnf
  exact SealV.same (congrArg AV.bool (by rw [ieq_dec]; simp [bnot])) PureV.bool
noncomputable def n_nan2 : Cn Tryz.prog := .of1 (eInt .i64) eBool 24 true (fun _ => True) (fun _ => false) flat_bool (fun x _ => c_nan2 x) (hasbody rfl rfl)
theorem c_less (x y : Int) : PFp 23 (.cons ((eInt .i64).v x) (.cons ((eInt .i64).v y) .nil)) (eBool.v (ilt x y)) := by
  refine PF.of_wp (c := _) p_mixed (by decide) (fn := Tryz.f23) rfl rfl rfl (.cons .int (.cons .int .nil)) (call := callT tNan) (fun B0 => callT_ok p_callable tNan B0) ?_
  intro B0
  conv => whnf
  refine callT_g (l := tNan) (by decide) 0 (c := n_nan) rfl x trivial (hk := ?_)
  conv => whnf
  exact SealV.same rfl PureV.bool
noncomputable def n_less : Cn Tryz.prog := .of2 (eInt .i64) (eInt .i64) eBool 23 true (fun _ _ => True) ilt flat_bool (fun x y _ => c_less x y) (hasbody rfl rfl)
def gI (s : List Int) (i : Nat) : Int := s.getD i 0
def bsGo (s : List Int) (x : Int) : Nat → Nat → Nat → Nat
  | 0, i, _ => i
  | f + 1, i, j => match natLt i j with
    | true => (match ilt (gI s ((i + j) / 2)) x with | true => bsGo s x f ((i + j) / 2 + 1) j | false => bsGo s x f i ((i + j) / 2))
    | false => i
/-- Where a number stands, or would stand. -/
def bsI (s : List Int) (x : Int) : Nat := bsGo s x s.length 0 s.length
def bsB (s : List Int) (x : Int) : Bool := match natLt (bsI s x) s.length with | true => ieq (gI s (bsI s x)) x | false => false
noncomputable def tBs : List (Cn Tryz.prog) := [n_less, n_nan2]
theorem c_bs (s : List Int) (x : Int) (hn : s.length ≤ 1000) : PFp 10 (.cons ((eInt .i64).list.v s) (.cons ((eInt .i64).v x) .nil)) (.tup (.cons ((eInt .i64).v (bsI s x : Nat)) (.cons (eBool.v (bsB s x)) .nil))) := by
  refine PF.of_wp (c := _) p_mixed (by decide) (fn := Tryz.f10) rfl rfl rfl (.cons ((eInt .i64).list.pureV _) (.cons .int .nil)) (call := callT tBs) (fun B0 => callT_ok p_callable tBs B0) ?_
  intro B0
  have hc := callT_ok (P := Tryz.prog) p_callable tBs B0
  have gz : ∀ k (hk : k < s.length), gI s k = s[k] := fun k hk => by
    unfold gI
    rw [List.getD_eq_getElem?_getD, List.getElem?_eq_getElem hk]
    rfl
  conv => whnf
  refine Cw.loop (ι := Nat × Nat × Nat) (fun q => regsT [(0, (eInt .i64).list.v s), (1, .int .i64 x), (6, .int .i64 (s.length : Int)), (7, .int .i64 (q.2.1 : Int)), (8, .int .i64 (q.2.2 : Int))]) (fun _ => []) (fun _ => ⟨heapT [], pathOf 64⟩)
    (fun q => q.2.1 ≤ q.2.2 ∧ q.2.2 ≤ s.length ∧ q.2.2 - q.2.1 ≤ q.1 ∧ bsGo s x q.1 q.2.1 q.2.2 = bsI s x) (fun q => q.1) ?_ (s.length, 0, s.length) ⟨Nat.zero_le _, Nat.le_refl _, Nat.sub_le _ _, rfl⟩ ?_
  · intro q hq
    obtain ⟨f, i, j⟩ := q
    obtain ⟨h1, h2, h3, h4⟩ := hq
    have h1 : i ≤ j := h1
    have h2 : j ≤ s.length := h2
    have h3 : j - i ≤ f := h3
    have h4 : bsGo s x f i j = bsI s x := h4
    refine wp_sound p_mixed rfl rfl hc _ ?_
    conv => whnf
    refine bSplit (fun h5 => ?_) (fun h5 => ?_)
    · have hij : i < j := Int.ofNat_lt.1 (ilt_iff.1 h5)
      obtain ⟨f, rfl⟩ : ∃ g, f = g + 1 := ⟨f - 1, by omega⟩
      have hsum : iwrap .i64 (Int.add (i : Int) (j : Int)) = ((i + j : Nat) : Int) := by
        show iwrap .i64 ((i : Int) + (j : Int)) = _
        rw [iwrap_i64 (by omega) (by omega)]
        omega
      have hu : iwrap .u64 ((i + j : Nat) : Int) = ((i + j : Nat) : Int) := iwrap_u64 (by omega) (by omega)
      have hh : iwrap .i64 (Int.ofNat (Nat.div (Int.toNat (iwrap .u64 (iwrap .i64 (Int.add (i : Int) (j : Int))))) 2)) = (((i + j) / 2 : Nat) : Int) := by
        rw [hsum, hu, Int.toNat_natCast]
        show iwrap .i64 (((i + j) / 2 : Nat) : Int) = _
        rw [iwrap_i64 (by omega) (by omega)]
      have hidx : iwrap .i64 (Int.add (((i + j) / 2 : Nat) : Int) 1) = (((i + j) / 2 + 1 : Nat) : Int) := by
        show iwrap .i64 ((((i + j) / 2 : Nat) : Int) + 1) = _
        rw [iwrap_i64 (by omega) (by omega)]
        omega
      have hidx' : iwrap .i64 (Int.add (iwrap .i64 (Int.ofNat (Nat.div (Int.toNat (iwrap .u64 (iwrap .i64 (Int.add (i : Int) (j : Int))))) 2))) 1) = (((i + j) / 2 + 1 : Nat) : Int) := by rw [hh]; exact hidx
      conv => whnf
      refine ⟨⟨?_, by decide⟩, ?_⟩
      · show 0 ≤ iwrap .u64 (iwrap .i64 (Int.add (i : Int) (j : Int)))
        rw [hsum, hu]
        omega
      conv => whnf
      refine IdxP.go ((i + j) / 2) hh (by omega) ?_
      conv => whnf
      refine ⟨_, (eInt .i64).rd rfl (i := (i + j) / 2) (by omega), ?_⟩
      conv => whnf
      refine callT_g (l := tBs) (by decide) 0 (c := n_less) rfl (s[(i + j) / 2], x) trivial (hk := ?_)
      conv => whnf
      refine bSplit (fun h6 => ?_) (fun h6 => ?_)
      · have h6 : ilt s[(i + j) / 2] x = true := h6
        conv => whnf
        refine ⟨(f, (i + j) / 2 + 1, j), ⟨by show (i + j) / 2 + 1 ≤ j; omega, h2, by show j - ((i + j) / 2 + 1) ≤ f; omega, ?_⟩, Nat.lt_succ_self _, ?_⟩
        · rw [← h4]
          show _ = (match natLt i j with | true => (match ilt (gI s ((i + j) / 2)) x with | true => bsGo s x f ((i + j) / 2 + 1) j | false => _) | false => _)
          rw [natLt_iff.2 hij, gz _ (by omega), h6]
        · refine Sub.of [] [] rfl rfl rfl ?_ ?_
          · repeat' first | exact trivial | exact rfl | refine And.intro ?_ ?_
            all_goals first | exact hidx' | exact hidx'.symm
          · repeat' first | exact trivial | exact rfl | refine And.intro ?_ ?_
      · have h6 : ilt s[(i + j) / 2] x = false := h6
        conv => whnf
        refine ⟨(f, i, (i + j) / 2), ⟨by show i ≤ (i + j) / 2; omega, by show (i + j) / 2 ≤ s.length; omega, by show (i + j) / 2 - i ≤ f; omega, ?_⟩, Nat.lt_succ_self _, ?_⟩
        · rw [← h4]
          show _ = (match natLt i j with | true => (match ilt (gI s ((i + j) / 2)) x with | true => _ | false => bsGo s x f i ((i + j) / 2)) | false => _)
          rw [natLt_iff.2 hij, gz _ (by omega), h6]
        · refine Sub.of [] [] rfl rfl rfl ?_ ?_
          · repeat' first | exact trivial | exact rfl | refine And.intro ?_ ?_
            all_goals first | exact hh | exact hh.symm
          · repeat' first | exact trivial | exact rfl | refine And.intro ?_ ?_
    · have h5 : (j : Int) ≤ (i : Int) := ilt_no.1 h5
      have h5 : i = j := by omega
      have e : bsI s x = i := by
        rw [← h4]
        cases f with
        | zero => rfl
        | succ f =>
          show (match natLt i j with | true => _ | false => i) = i
          rw [show natLt i j = false by rw [natLt_dec, decide_eq_false (by omega)]]
      have eB : bsB s x = (match natLt i s.length with | true => ieq (gI s i) x | false => false) := by unfold bsB; rw [e]
      rw [e, eB]
      conv => whnf
      refine bSplit (fun h6 => ?_) (fun h6 => ?_)
      · have h6 : i < s.length := Int.ofNat_lt.1 (ilt_iff.1 h6)
        rw [natLt_iff.2 h6, gz i h6]
        conv => whnf
        refine IdxP.go i rfl h6 ?_
        conv => whnf
        refine ⟨_, (eInt .i64).rd rfl h6, ?_⟩
        conv => whnf
        refine bSplit (fun h7 => ?_) (fun h7 => ?_)
        · have h7 : ieq s[i] x = true := h7
          rw [h7]
          conv => whnf
          repeat (refine nx ?_; conv => whnf)
          exact SealV.same rfl (.tup (.cons .int (.cons .bool .nil)))
        · have h7 : ieq s[i] x = false := h7
          rw [h7]
          conv => whnf
          refine IdxP.go i rfl h6 ?_
          conv => whnf
          refine ⟨_, (eInt .i64).rd rfl h6, ?_⟩
          conv => whnf
          refine callT_g (l := tBs) (by decide) 1 (c := n_nan2) rfl s[i] trivial (hk := ?_)
          conv => whnf
          repeat (refine nx ?_; conv => whnf)
          exact SealV.same rfl (.tup (.cons .int (.cons .bool .nil)))
      · have h6 : (s.length : Int) ≤ (i : Int) := ilt_no.1 h6
        rw [show natLt i s.length = false by rw [natLt_dec, decide_eq_false (by omega)]]
        conv => whnf
        repeat (refine nx ?_; conv => whnf)
        exact SealV.same rfl (.tup (.cons .int (.cons .bool .nil)))
  · refine Sub.of [] [] rfl rfl rfl ?_ ?_
    · repeat' first | exact trivial | exact rfl | refine And.intro ?_ ?_
    · repeat' first | exact trivial | exact rfl | refine And.intro ?_ ?_
noncomputable def n_bs : Cn Tryz.prog := .of2t (eInt .i64).list (eInt .i64) (eInt .i64) eBool 10 (fun s _ => s.length ≤ 1000) (fun s x => (bsI s x : Nat)) bsB (fun s x h => c_bs s x h) (hasbody rfl rfl)
/-- Where a number stands first, or -1. -/
def atGo (x : Int) : Nat → List Int → Int
  | _, [] => -1
  | i, y :: l => match ieq y x with | true => (i : Int) | false => atGo x (i + 1) l
def atF (s : List Int) (x : Int) : Int := atGo x 0 s
theorem c_at (s : List Int) (x : Int) (hn : s.length ≤ 1000) : PFp 6 (.cons ((eInt .i64).list.v s) (.cons ((eInt .i64).v x) .nil)) ((eInt .i64).v (atF s x)) := by
  refine PF.of_wp (c := _) p_mixed (by decide) (fn := Tryz.f6) rfl rfl rfl (.cons ((eInt .i64).list.pureV _) (.cons .int .nil)) (call := callT []) (fun B0 => callT_ok p_callable [] B0) ?_
  intro B0
  have hc := callT_ok (P := Tryz.prog) p_callable [] B0
  conv => whnf
  refine Cw.loop (ι := Nat) (fun q => regsT [(0, (eInt .i64).list.v s), (1, .int .i64 x), (5, .int .i64 (q : Int))]) (fun _ => []) (fun _ => ⟨heapT [], pathOf 64⟩)
    (fun q => q ≤ s.length ∧ atGo x q (s.drop q) = atF s x) (fun q => s.length - q) ?_ 0 ⟨Nat.zero_le _, rfl⟩ ?_
  · intro q hq
    obtain ⟨h1, h2⟩ := hq
    refine wp_sound p_mixed rfl rfl hc _ ?_
    conv => whnf
    refine bSplit (fun h5 => ?_) (fun h5 => ?_)
    · have h5 : q < s.length := Int.ofNat_lt.1 (ilt_iff.1 h5)
      have hidx : iwrap .i64 (Int.add (q : Int) 1) = ((q + 1 : Nat) : Int) := by
        show iwrap .i64 ((q : Int) + 1) = _
        rw [iwrap_i64 (by omega) (by omega)]
        omega
      have hd : s.drop q = s[q] :: s.drop (q + 1) := List.drop_eq_getElem_cons h5
      conv => whnf
      refine IdxP.go q rfl h5 ?_
      conv => whnf
      refine ⟨_, (eInt .i64).rd rfl h5, ?_⟩
      conv => whnf
      refine bSplit (fun h6 => ?_) (fun h6 => ?_)
      · have h6 : ieq s[q] x = true := h6
        have e : atF s x = (q : Int) := by
          rw [← h2, hd]
          show (match ieq s[q] x with | true => (q : Int) | false => _) = _
          rw [h6]
        rw [e]
        conv => whnf
        exact SealV.same rfl PureV.int
      · have h6 : ieq s[q] x = false := h6
        conv => whnf
        refine ⟨q + 1, ⟨h5, ?_⟩, by omega, ?_⟩
        · rw [← h2, hd]
          show _ = (match ieq s[q] x with | true => (q : Int) | false => atGo x (q + 1) (s.drop (q + 1)))
          rw [h6]
        · refine Sub.of [] [] rfl rfl rfl ?_ ?_
          · repeat' first | exact trivial | exact rfl | refine And.intro ?_ ?_
            all_goals exact hidx
          · repeat' first | exact trivial | exact rfl | refine And.intro ?_ ?_
    · have h5 : (s.length : Int) ≤ (q : Int) := ilt_no.1 h5
      have e : atF s x = -1 := by
        rw [← h2, List.drop_eq_nil_of_le (by omega)]
        rfl
      rw [e]
      conv => whnf
      exact SealV.same rfl PureV.int
  · refine Sub.of [] [] rfl rfl rfl ?_ ?_
    · repeat' first | exact trivial | exact rfl | refine And.intro ?_ ?_
    · repeat' first | exact trivial | exact rfl | refine And.intro ?_ ?_
noncomputable def n_at : Cn Tryz.prog := .of2 (eInt .i64).list (eInt .i64) (eInt .i64) 6 true (fun s _ => s.length ≤ 1000) atF (flat_int _) (fun s x h => c_at s x h) (hasbody rfl rfl)
end Go.Sy
/- Sorting edges where they stand: insertion. -/
namespace Go.Sy
open Go.RowKit Go.Proofs
set_option linter.unusedVariables false
set_option linter.unusedSimpArgs false
set_option maxRecDepth 1000000
set_option maxHeartbeats 0
attribute [local irreducible] Cw SealV SealL PF Sub
abbrev tbS : Tabs := tbK tb0 3
attribute [local instance] tbS
abbrev Ed := Int × Int
def gE (xs : List Ed) (i : Nat) : Ed := xs.getD i (0, 0)
/-- Two neighbours change places. -/
def swE (xs : List Ed) (j : Nat) : List Ed := (xs.set (j + 1) (gE xs j)).set j (gE xs (j + 1))
def insGo : Nat → List Ed → List Ed
  | 0, xs => xs
  | j + 1, xs => match ilt (ordE (gE xs (j + 1)) (gE xs j)) 0 with
    | true => insGo j (swE xs j)
    | false => xs
def outGo : Nat → Nat → List Ed → List Ed
  | 0, _, xs => xs
  | f + 1, i, xs => outGo f (i + 1) (insGo i xs)
def isort (xs : List Ed) : List Ed := outGo (xs.length - 1) 1 xs
theorem swE_len (xs : List Ed) (j : Nat) : (swE xs j).length = xs.length := by simp [swE]
theorem insGo_len : ∀ (j : Nat) (xs : List Ed), (insGo j xs).length = xs.length
  | 0, xs => rfl
  | j + 1, xs => by
    unfold insGo
    split
    · rw [insGo_len j, swE_len]
    · rfl
theorem outGo_len : ∀ (f i : Nat) (xs : List Ed), (outGo f i xs).length = xs.length
  | 0, _, xs => rfl
  | f + 1, i, xs => (outGo_len f (i + 1) (insGo i xs)).trans (insGo_len i xs)
theorem isort_len (xs : List Ed) : (isort xs).length = xs.length := outGo_len _ _ _
noncomputable def n_ordS : Cn Tryz.prog := Cn.lift tbS n_ord
noncomputable def tIns : List (Cn Tryz.prog) := [n_ordS]
/-- The graph's variable, and the list, as they stand. -/
noncomputable def bxG : AO := .cells (regsT [(0, .int .i64 0), (1, .nils)]) 2 false
noncomputable def H66 (xs : List Ed) : List (Pos × AO) := [(pathOf 64, bxG), (pathOf 66, .gl (eEd.l xs) false)]
noncomputable def h66 (xs : List Ed) : Heap := ⟨heapT (H66 xs), pathOf 67⟩
noncomputable def asIns (xs : List Ed) : AV := .cons (.gs (pathOf 66) xs.length 2) (.cons (.int .i64 0) (.cons (.int .i64 (xs.length : Int)) (.cons (.func (.func 14) .nil .nil) .nil)))
/-- A function's code, and its slots at the start. -/
noncomputable def fnC (fn : Func) : Code := fn.body.getD .skip
noncomputable def fnR (fn : Func) (l : AV) : Tr AV := (argsR l 0 fn.ntmps .leaf).getD .leaf
/-- What has to be shown of a call told in place. -/
def InW [Tabs] (f : FuncId) (fn : Func) (l v : AV) (h0 : Heap) (H : List (Pos × AO)) (N : Pos) (B0 : Nat) (call : Tgt → AV → Heap → CR) : Prop :=
  Cw Tryz.prog B0 ⟨Tryz.prog, f, fn.ntmps, none, call, 0⟩ (fnC fn) (fnR fn l) [] h0 (QK (FinI Tryz.prog fn v H N) (FinI Tryz.prog fn v H N) (fun _ _ _ _ => False))
theorem w_ins (xs : List Ed) (hn : xs.length ≤ 4096) {B0 : Nat} : InW 48 Tryz.f48 (asIns xs) (.tup .nil) (h66 xs) (H66 (isort xs)) (pathOf 67) B0 (callT tIns) := by
  refine wp_sound p_mixed rfl rfl (callT_ok p_callable tIns B0) _ ?_
  conv => whnf
  refine Cw.loop (ι := List Ed × Nat) (fun q => regsT [(0, .gs (pathOf 66) xs.length 2), (1, .int .i64 0), (2, .int .i64 (xs.length : Int)), (3, .func (.func 14) .nil .nil), (8, .int .i64 (q.2 : Int))]) (fun _ => []) (fun q => ⟨heapT [(pathOf 64, bxG), (pathOf 66, .gl (eEd.l q.1) false)], pathOf 67⟩)
    (fun q => q.1.length = xs.length ∧ 1 ≤ q.2 ∧ q.2 ≤ xs.length + 1 ∧ outGo (xs.length - q.2) q.2 q.1 = isort xs) (fun q => xs.length + 1 - q.2) ?_ (xs, 1) ⟨rfl, Nat.le_refl _, by omega, rfl⟩ ?_
  · intro q hq
    obtain ⟨ys, i⟩ := q
    obtain ⟨h1, h2, h3, h4⟩ := hq
    refine wp_sound p_mixed rfl rfl (callT_ok p_callable tIns B0) _ ?_
    conv => whnf
    refine bSplit (fun h5 => ?_) (fun h5 => ?_)
    · have h5 : i < xs.length := Int.ofNat_lt.1 (ilt_iff.1 h5)
      have hidx : iwrap .i64 (Int.add (i : Int) 1) = ((i + 1 : Nat) : Int) := by
        show iwrap .i64 ((i : Int) + 1) = _
        rw [iwrap_i64 (by omega) (by omega)]
        omega
      have hout : ∀ zs : List Ed, insGo i ys = zs → outGo (xs.length - (i + 1)) (i + 1) zs = isort xs := fun zs hz => by
        have h4 : outGo (xs.length - i) i ys = isort xs := h4
        rw [show xs.length - i = (xs.length - (i + 1)) + 1 by omega] at h4
        rw [← hz]
        exact h4
      have h1 : ys.length = xs.length := h1
      have h2 : 1 ≤ i := h2
      conv => whnf
      refine Cw.loop (ι := List Ed × Nat) (fun q => regsT [(0, .gs (pathOf 66) xs.length 2), (1, .int .i64 0), (2, .int .i64 (xs.length : Int)), (3, .func (.func 14) .nil .nil), (8, .int .i64 (i : Int)), (9, .int .i64 (q.2 : Int))]) (fun _ => []) (fun q => ⟨heapT [(pathOf 64, bxG), (pathOf 66, .gl (eEd.l q.1) false)], pathOf 67⟩)
        (fun q => q.1.length = xs.length ∧ q.2 ≤ i ∧ insGo q.2 q.1 = insGo i ys) (fun q => q.2) ?_ (ys, i) ⟨h1, Nat.le_refl _, rfl⟩ ?_
      · intro q hq
        obtain ⟨zs, j⟩ := q
        obtain ⟨g1, g2, g3⟩ := hq
        have g1 : zs.length = xs.length := g1
        have g2 : j ≤ i := g2
        have g3 : insGo j zs = insGo i ys := g3
        have gz : ∀ k (hk : k < zs.length), gE zs k = zs[k] := fun k hk => by
          unfold gE
          rw [List.getD_eq_getElem?_getD, List.getElem?_eq_getElem hk]
          rfl
        cases j with
        | zero =>
          refine wp_sound p_mixed rfl rfl (callT_ok p_callable tIns B0) _ ?_
          conv => whnf
          refine ⟨(zs, i + 1), ⟨g1, Nat.le_add_left _ _, by show i + 1 ≤ _; omega, hout zs g3.symm⟩, by show xs.length + 1 - (i + 1) < xs.length + 1 - i; omega, ?_⟩
          refine Sub.of [(pathOf 64, some (pathOf 64)), (pathOf 66, some (pathOf 66))] [] rfl rfl rfl ?_ ?_
          · repeat' first | exact trivial | exact rfl | refine And.intro ?_ ?_
            all_goals first | exact hidx | exact eEd.pureL _
          · repeat' first | exact trivial | exact rfl | refine And.intro ?_ ?_
            all_goals first | exact hidx | exact eEd.pureL _
        | succ j =>
          have hsub : iwrap .i64 (Int.sub ((j + 1 : Nat) : Int) 1) = (j : Int) := by
            show iwrap .i64 (((j + 1 : Nat) : Int) - 1) = _
            rw [iwrap_i64 (by omega) (by omega)]
            omega
          refine wp_sound p_mixed rfl rfl (callT_ok p_callable tIns B0) _ ?_
          conv => whnf
          refine IdxP.go (j + 1) rfl (by omega) ?_
          conv => whnf
          refine ⟨_, eEd.rd rfl (i := j + 1) (by omega), ?_⟩
          conv => whnf
          refine IdxP.go j hsub (by omega) ?_
          conv => whnf
          refine ⟨_, eEd.rd rfl (i := j) (by omega), ?_⟩
          conv => whnf
          refine callT_g (l := tIns) (by decide) 0 (c := n_ordS) rfl (zs[j + 1], zs[j]) trivial (hk := ?_)
          conv => whnf
          refine bSplit (fun h7 => ?_) (fun h7 => ?_)
          · have h7 : ilt (ordE zs[j + 1] zs[j]) 0 = true := h7
            conv => whnf
            refine IdxP.go j hsub (by omega) ?_
            conv => whnf
            refine ⟨_, eEd.rd rfl (i := j) (by omega), ?_⟩
            conv => whnf
            refine IdxP.go (j + 1) rfl (by omega) ?_
            conv => whnf
            refine ⟨_, eEd.rd rfl (i := j + 1) (by omega), ?_⟩
            conv => whnf
            refine IdxP.go (j + 1) rfl (by omega) ?_
            conv => whnf
            refine eEd.st (xs := zs) (i := j + 1) zs[j] (by omega) ?_
            conv => whnf
            refine IdxP.go j hsub (by omega) ?_
            conv => whnf
            refine eEd.st (xs := zs.set (j + 1) zs[j]) (i := j) zs[j + 1] (by rw [List.length_set]; omega) ?_
            conv => whnf
            have hz : insGo (j + 1) zs = insGo j ((zs.set (j + 1) zs[j]).set j zs[j + 1]) := by
              show (match ilt (ordE (gE zs (j + 1)) (gE zs j)) 0 with | true => insGo j (swE zs j) | false => zs) = _
              unfold swE
              rw [gz (j + 1) (by omega), gz j (by omega), h7]
            refine ⟨((zs.set (j + 1) zs[j]).set j zs[j + 1], j), ⟨by show List.length _ = _; rw [List.length_set, List.length_set]; exact g1, by show j ≤ i; omega, hz.symm.trans g3⟩, Nat.lt_succ_self _, ?_⟩
            refine Sub.of [(pathOf 64, some (pathOf 64)), (pathOf 66, some (pathOf 66))] [] rfl rfl rfl ?_ ?_
            · repeat' first | exact trivial | exact rfl | refine And.intro ?_ ?_
              all_goals first | exact hsub | exact eEd.pureL _
            · repeat' first | exact trivial | exact rfl | refine And.intro ?_ ?_
              all_goals first | exact hsub | exact eEd.pureL _
          · have h7 : ilt (ordE zs[j + 1] zs[j]) 0 = false := h7
            have hz : insGo (j + 1) zs = zs := by
              show (match ilt (ordE (gE zs (j + 1)) (gE zs j)) 0 with | true => insGo j (swE zs j) | false => zs) = zs
              rw [gz (j + 1) (by omega), gz j (by omega), h7]
            conv => whnf
            refine ⟨(zs, i + 1), ⟨g1, Nat.le_add_left _ _, by show i + 1 ≤ _; omega, hout zs (g3.symm.trans hz)⟩, by show xs.length + 1 - (i + 1) < xs.length + 1 - i; omega, ?_⟩
            refine Sub.of [(pathOf 64, some (pathOf 64)), (pathOf 66, some (pathOf 66))] [] rfl rfl rfl ?_ ?_
            · repeat' first | exact trivial | exact rfl | refine And.intro ?_ ?_
              all_goals first | exact hidx | exact eEd.pureL _
            · repeat' first | exact trivial | exact rfl | refine And.intro ?_ ?_
              all_goals first | exact hidx | exact eEd.pureL _
      · refine Sub.of [(pathOf 64, some (pathOf 64)), (pathOf 66, some (pathOf 66))] [] rfl rfl rfl ?_ ?_
        · repeat' first | exact trivial | exact rfl | refine And.intro ?_ ?_
          all_goals first | exact hidx | exact eEd.pureL _
        · repeat' first | exact trivial | exact rfl | refine And.intro ?_ ?_
          all_goals first | exact hidx | exact eEd.pureL _
    · have h5 : ¬ i < xs.length := fun h => by rw [show ilt ((ys, i).2 : Int) (xs.length : Int) = true from ilt_iff.2 (Int.ofNat_lt.2 h)] at h5; cases h5
      have h4 : outGo (xs.length - i) i ys = isort xs := h4
      rw [show xs.length - i = 0 by omega] at h4
      conv => whnf
      refine ⟨rfl, rfl, rfl, ?_, trivial⟩
      rw [← h4]
      rfl
  · refine Sub.of [(pathOf 64, some (pathOf 64)), (pathOf 66, some (pathOf 66))] [] rfl rfl rfl ?_ ?_
    · repeat' first | exact trivial | exact rfl | refine And.intro ?_ ?_
    · repeat' first | exact trivial | exact rfl | refine And.intro ?_ ?_
      all_goals exact eEd.pureL _
theorem k_ins {T : Tabs} (hT : T = tb0 ∨ T = tbS) (xs : List Ed) (hn : xs.length ≤ 4096) {B0 : Nat} {call : Tgt → AV → Heap → CR} (hcall : @CallOK T Tryz.prog B0 call) :
    @CallOK T Tryz.prog B0 (callI 48 (asIns xs) (h66 xs) (.tup .nil) (h66 (isort xs)) call) := by
  rcases hT with rfl | rfl
  · exact callI_ok p_callable 3 hcall (fn := Tryz.f48) rfl rfl rfl rfl (Nat.le_refl _) (w_ins xs hn)
  · exact callI_ok p_callable 3 hcall (fn := Tryz.f48) rfl rfl rfl rfl (Nat.le_refl _) (w_ins xs hn)
end Go.Sy
/- Sorting few edges where they stand. -/
namespace Go.Sy
open Go.RowKit Go.Proofs
set_option linter.unusedVariables false
set_option linter.unusedSimpArgs false
set_option maxRecDepth 1000000
set_option maxHeartbeats 0
attribute [local irreducible] Cw SealV SealL PF Sub
/-! ### The length of a small number -/
section
attribute [local instance] tb0
noncomputable def lenAs (n : Nat) : AV := .cons (.int .u64 (n : Int)) .nil
noncomputable def lenL : List (AV × AV) := [(lenAs 0, .int .i64 0), (lenAs 1, .int .i64 1), (lenAs 2, .int .i64 2), (lenAs 3, .int .i64 2), (lenAs 4, .int .i64 3), (lenAs 5, .int .i64 3), (lenAs 6, .int .i64 3), (lenAs 7, .int .i64 3), (lenAs 8, .int .i64 4), (lenAs 9, .int .i64 4), (lenAs 10, .int .i64 4)]
theorem lenRan : ranAll Tryz.prog (fun _ _ _ => none) 26 lenL = true := by decide +kernel
theorem ovNone (B0 : Nat) : OvOK Tryz.prog B0 (fun _ _ _ => none) := fun t xs h v h' e => by cases e
def lenI (n : Int) : Int := if n = 0 then 0 else if n = 1 then 1 else if n ≤ 3 then 2 else if n ≤ 7 then 3 else 4
theorem c_len (n : Int) (h : 0 ≤ n ∧ n ≤ 10) : PFp 26 (.cons ((eInt .u64).v n) .nil) ((eInt .i64).v (lenI n)) := by
  have key := ranAll_ok p_mixed p_callable ovNone (by decide) lenRan
  have hn : n = 0 ∨ n = 1 ∨ n = 2 ∨ n = 3 ∨ n = 4 ∨ n = 5 ∨ n = 6 ∨ n = 7 ∨ n = 8 ∨ n = 9 ∨ n = 10 := by omega
  rcases hn with rfl | rfl | rfl | rfl | rfl | rfl | rfl | rfl | rfl | rfl | rfl
  · exact (key lenL[0] (List.getElem_mem (by decide))).1
  · exact (key lenL[1] (List.getElem_mem (by decide))).1
  · exact (key lenL[2] (List.getElem_mem (by decide))).1
  · exact (key lenL[3] (List.getElem_mem (by decide))).1
  · exact (key lenL[4] (List.getElem_mem (by decide))).1
  · exact (key lenL[5] (List.getElem_mem (by decide))).1
  · exact (key lenL[6] (List.getElem_mem (by decide))).1
  · exact (key lenL[7] (List.getElem_mem (by decide))).1
  · exact (key lenL[8] (List.getElem_mem (by decide))).1
  · exact (key lenL[9] (List.getElem_mem (by decide))).1
  · exact (key lenL[10] (List.getElem_mem (by decide))).1
noncomputable def n_len : Cn Tryz.prog := .of1 (eInt .u64) (eInt .i64) 26 true (fun n => 0 ≤ n ∧ n ≤ 10) lenI (flat_int _) (fun n h => c_len n h) (hasbody rfl rfl)
end
/-! ### In place -/
attribute [local instance] tbS
noncomputable def asPdq (xs : List Ed) : AV := .cons (.gs (pathOf 66) xs.length 2) (.cons (.int .i64 0) (.cons (.int .i64 (xs.length : Int)) (.cons (.int .i64 (lenI (xs.length : Int))) (.cons (.func (.func 14) .nil .nil) .nil))))
theorem w_pdq (xs : List Ed) (hn : xs.length ≤ 10) {B0 : Nat} : InW 25 Tryz.f25 (asPdq xs) (.tup .nil) (h66 xs) (H66 (isort xs)) (pathOf 67) B0 (callI 48 (asIns xs) (h66 xs) (.tup .nil) (h66 (isort xs)) (callT (P := Tryz.prog) [])) := by
  have hc := k_ins (.inr rfl) xs (by omega) (callT_ok (P := Tryz.prog) p_callable [] B0)
  refine wp_sound p_mixed rfl rfl hc _ ?_
  conv => whnf
  refine Cw.unroll p_mixed rfl rfl hc 1 ?_
  conv => whnf
  refine bSplit (fun h => ?_) (fun h => ?_)
  · conv => whnf
    refine callI_g (hk := ?_)
    conv => whnf
    exact ⟨rfl, rfl, rfl, rfl, trivial⟩
  · exfalso
    have h := ilt_iff.1 (show ilt 12 (iwrap .i64 (Int.sub (xs.length : Int) 0)) = true by
      cases e : ilt 12 (iwrap .i64 (Int.sub (xs.length : Int) 0)) with
      | true => rfl
      | false =>
        have h : ile (iwrap .i64 (Int.sub (xs.length : Int) 0)) 12 = false := h
        unfold ile at h
        rw [e] at h
        cases h)
    rw [show Int.sub (xs.length : Int) 0 = (xs.length : Int) from Int.sub_zero _, iwrap_i64 (by omega) (by omega)] at h
    omega
theorem k_pdq {T : Tabs} (hT : T = tb0 ∨ T = tbS) (xs : List Ed) (hn : xs.length ≤ 10) {B0 : Nat} {call : Tgt → AV → Heap → CR} (hcall : @CallOK T Tryz.prog B0 call) :
    @CallOK T Tryz.prog B0 (callI 25 (asPdq xs) (h66 xs) (.tup .nil) (h66 (isort xs)) call) := by
  rcases hT with rfl | rfl
  · exact callI_ok p_callable 3 hcall (fn := Tryz.f25) rfl rfl rfl rfl (Nat.le_refl _) (w_pdq xs hn)
  · exact callI_ok p_callable 3 hcall (fn := Tryz.f25) rfl rfl rfl rfl (Nat.le_refl _) (w_pdq xs hn)
noncomputable def asSort (xs : List Ed) : AV := .cons (.gs (pathOf 66) xs.length 2) (.cons (.func (.func 14) .nil .nil) .nil)
noncomputable def tLen : List (Cn Tryz.prog) := [Cn.lift tbS n_len]
theorem w_sort (xs : List Ed) (hn : xs.length ≤ 10) {B0 : Nat} : InW 13 Tryz.f13 (asSort xs) (.tup .nil) (h66 xs) (H66 (isort xs)) (pathOf 67) B0 (callI 25 (asPdq xs) (h66 xs) (.tup .nil) (h66 (isort xs)) (callT tLen)) := by
  have hc := k_pdq (.inr rfl) xs hn (callT_ok (P := Tryz.prog) p_callable tLen B0)
  refine wp_sound p_mixed rfl rfl hc _ ?_
  conv => whnf
  have hw : iwrap .u64 (xs.length : Int) = (xs.length : Int) := iwrap_u64 (by omega) (by omega)
  refine callI_m (by decide) (callT_g (l := tLen) (by decide) 0 (c := Cn.lift tbS n_len) rfl (iwrap .u64 (xs.length : Int)) ⟨by rw [hw]; omega, by rw [hw]; omega⟩ (hk := ?_))
  conv => whnf
  repeat (refine nx ?_; conv => whnf)
  refine callI_g (ea := ?_) (hk := ?_)
  · show AV.cons _ (.cons _ (.cons _ (.cons (.int .i64 (lenI (iwrap .u64 (xs.length : Int)))) _))) = asPdq xs
    rw [hw]
    rfl
  conv => whnf
  exact ⟨rfl, rfl, rfl, rfl, trivial⟩
theorem k_sort {T : Tabs} (hT : T = tb0 ∨ T = tbS) (xs : List Ed) (hn : xs.length ≤ 10) {B0 : Nat} {call : Tgt → AV → Heap → CR} (hcall : @CallOK T Tryz.prog B0 call) :
    @CallOK T Tryz.prog B0 (callI 13 (asSort xs) (h66 xs) (.tup .nil) (h66 (isort xs)) call) := by
  rcases hT with rfl | rfl
  · exact callI_ok p_callable 3 hcall (fn := Tryz.f13) rfl rfl rfl rfl (Nat.le_refl _) (w_sort xs hn)
  · exact callI_ok p_callable 3 hcall (fn := Tryz.f13) rfl rfl rfl rfl (Nat.le_refl _) (w_sort xs hn)
end Go.Sy
/- Leaving out what stands twice, where it stands. -/
namespace Go.Sy
open Go.RowKit Go.Proofs
set_option linter.unusedVariables false
set_option linter.unusedSimpArgs false
set_option maxRecDepth 1000000
set_option maxHeartbeats 0
attribute [local irreducible] Cw SealV SealL PF Sub
section
attribute [local instance] tb0
theorem splice_many {α : Type} {E : Enc α} : ∀ {ys xs : List α}, ys.length ≤ xs.length → splice 0 (E.l xs) (E.l ys) = E.l (ys ++ xs.drop ys.length)
  | [], xs, _ => by simp; rfl
  | y :: ys, [], h => by simp at h
  | y :: ys, x :: xs, h => by
    have ih := splice_many (E := E) (ys := ys) (xs := xs) (by simpa using h)
    have key : ∀ (l m : List AV) (t u : AV), l.length = m.length → splice 0 (catL l t) (catL m u) = catL m (splice 0 t u) := by
      intro l
      induction l with
      | nil => intro m t u hl; cases m with | nil => rfl | cons _ _ => cases hl
      | cons a l ih => intro m t u hl; cases m with
        | nil => cases hl
        | cons b m => exact congrArg (AV.cons b) (ih m t u (by simpa using hl))
    show splice 0 (catL (E.cs x) (E.l xs)) (catL (E.cs y) (E.l ys)) = catL (E.cs y) (E.l (ys ++ xs.drop ys.length))
    rw [key _ _ _ _ (by rw [E.len, E.len]), ih]
theorem splice_at {α : Type} {E : Enc α} : ∀ {i : Nat} {ys xs : List α}, i + ys.length ≤ xs.length → splice (Nat.mul i E.sz) (E.l xs) (E.l ys) = E.l (xs.take i ++ ys ++ xs.drop (i + ys.length))
  | 0, ys, xs, h => by
    rw [show Nat.mul 0 E.sz = 0 by simp, splice_many (by omega)]
    simp
  | i + 1, ys, [], h => by simp at h
  | i + 1, ys, x :: xs, h => by
    rw [show Nat.mul (i + 1) E.sz = (E.cs x).length + Nat.mul i E.sz by rw [E.len]; simp [Nat.add_mul]; omega]
    show splice _ (catL (E.cs x) (E.l xs)) _ = _
    rw [Enc.splice_cat, splice_at (by simp at h; omega), show i + 1 + ys.length = (i + ys.length) + 1 by omega]
    rfl
end
def eqE (a b : Ed) : Bool := band (ieq a.1 b.1) (band (ieq a.2 b.2) true)
theorem eql_bin : ∀ (p q : Ed), binA .eql Tryz.prog 36 (eEd.v p) (eEd.v q) = some (.bool (eqE p q))
  | (a, b), (c, d) => by
    show Option.map AV.bool (eqlA Tryz.prog 36 (.agg (.cons (.int .i64 a) (.cons (.int .i64 b) .nil))) (.agg (.cons (.int .i64 c) (.cons (.int .i64 d) .nil)))) = some (.bool (band (ieq a c) (band (ieq b d) true)))
    rw [show eqlA Tryz.prog 36 (.agg (.cons (.int .i64 a) (.cons (.int .i64 b) .nil))) (.agg (.cons (.int .i64 c) (.cons (.int .i64 d) .nil))) = some (band (ieq a c) (band (ieq b d) true)) by kernel_rfl]
    rfl
theorem neq_bin : ∀ (p q : Ed), binA .neq Tryz.prog 36 (eEd.v p) (eEd.v q) = some (.bool (bnot (eqE p q)))
  | (a, b), (c, d) => by
    show Option.map (fun b => AV.bool (bnot b)) (eqlA Tryz.prog 36 (.agg (.cons (.int .i64 a) (.cons (.int .i64 b) .nil))) (.agg (.cons (.int .i64 c) (.cons (.int .i64 d) .nil)))) = some (.bool (bnot (band (ieq a c) (band (ieq b d) true))))
    rw [show eqlA Tryz.prog 36 (.agg (.cons (.int .i64 a) (.cons (.int .i64 b) .nil))) (.agg (.cons (.int .i64 c) (.cons (.int .i64 d) .nil))) = some (band (ieq a c) (band (ieq b d) true)) by kernel_rfl]
    rfl
def mO (o : Option AV) (K : AV → Prop) : Prop := match o with | some v => K v | none => False
theorem optM {o : Option AV} {v : AV} (e : o = some v) {K : AV → Prop} (hk : K v) : mO o K := by subst e; exact hk
theorem ClP.go {off n sz : Nat} {g z g' : AV} {k : AV → Prop} (pos : 0 < n) (fit : off + n * sz ≤ g.len) (len : (reps n z).len = n * sz) (cell : allCell (reps n z) = true) (e : splice off g (reps n z) = g') (hk : k g') : ClP off n sz g z k := by
  subst e
  exact ⟨pos, fit, len, cell, hk⟩
/-- What is kept goes forward: the number of what is kept, and the list. -/
def cp2 (k0 : Nat) : Nat → Nat → Nat → List Ed → Nat × List Ed
  | 0, c, _, ys => (c, ys)
  | f + 1, c, k2, ys => match bnot (eqE (gE ys (k0 + k2)) (gE ys (k0 + (k2 - 1)))) with
    | true => cp2 k0 f (c + 1) (k2 + 1) (ys.set c (gE ys (k0 + k2)))
    | false => cp2 k0 f c (k2 + 1) ys
/-- Zeros behind what is kept. -/
def zrE (c : Nat) (ys : List Ed) : List Ed := ys.take c ++ List.replicate (ys.length - c) (0, 0)
def cp1 : Nat → Nat → List Ed → Nat × List Ed
  | 0, _, xs => (xs.length, xs)
  | f + 1, k, xs => match eqE (gE xs k) (gE xs (k - 1)) with
    | true => ((cp2 k (xs.length - k - 1) k 1 xs).1, zrE (cp2 k (xs.length - k - 1) k 1 xs).1 (cp2 k (xs.length - k - 1) k 1 xs).2)
    | false => cp1 f (k + 1) xs
def comp (xs : List Ed) : Nat × List Ed := cp1 (xs.length - 1) 1 xs
attribute [local instance] tbS
noncomputable def asCmp (xs : List Ed) : AV := .cons (.gs (pathOf 66) xs.length 2) .nil
theorem w_cmp (xs : List Ed) (hn : xs.length ≤ 10) {B0 : Nat} : InW 15 Tryz.f15 (asCmp xs) (.gs (pathOf 66) (comp xs).1 2) (h66 xs) (H66 (comp xs).2) (pathOf 67) B0 (callT (P := Tryz.prog) []) := by
  have hc := callT_ok (P := Tryz.prog) p_callable [] B0
  refine wp_sound p_mixed rfl rfl hc _ ?_
  conv => whnf
  refine bSplit (fun h => ?_) (fun h => ?_)
  · have h : xs.length < 2 := Int.ofNat_lt.1 (ilt_iff.1 h)
    have e : comp xs = (xs.length, xs) := by unfold comp; rw [show xs.length - 1 = 0 by omega]; rfl
    rw [e]
    conv => whnf
    exact ⟨rfl, rfl, rfl, rfl, trivial⟩
  · have h : (2 : Int) ≤ (xs.length : Int) := ilt_no.1 h
    conv => whnf
    refine Cw.loop (ι := Nat) (fun k => regsT [(0, .gs (pathOf 66) xs.length 2), (3, .int .i64 (k : Int))]) (fun _ => []) (fun _ => ⟨heapT [(pathOf 64, bxG), (pathOf 66, .gl (eEd.l xs) false)], pathOf 67⟩)
      (fun k => 1 ≤ k ∧ k ≤ xs.length ∧ cp1 (xs.length - k) k xs = comp xs) (fun k => xs.length - k) ?_ 1 ⟨Nat.le_refl _, by omega, rfl⟩ ?_
    · intro k hk
      obtain ⟨h1, h2, h3⟩ := hk
      have gz : ∀ k (hk : k < xs.length), gE xs k = xs[k] := fun k hk => by
        unfold gE
        rw [List.getD_eq_getElem?_getD, List.getElem?_eq_getElem hk]
        rfl
      refine wp_sound p_mixed rfl rfl hc _ ?_
      conv => whnf
      refine bSplit (fun h4 => ?_) (fun h4 => ?_)
      · have h4 : k < xs.length := Int.ofNat_lt.1 (ilt_iff.1 h4)
        have hsub : iwrap .i64 (Int.sub (k : Int) 1) = ((k - 1 : Nat) : Int) := by
          show iwrap .i64 ((k : Int) - 1) = _
          rw [iwrap_i64 (by omega) (by omega)]
          omega
        have hidx : iwrap .i64 (Int.add (k : Int) 1) = ((k + 1 : Nat) : Int) := by
          show iwrap .i64 ((k : Int) + 1) = _
          rw [iwrap_i64 (by omega) (by omega)]
          omega
        conv => whnf
        refine IdxP.go k rfl h4 ?_
        conv => whnf
        refine ⟨_, eEd.rd rfl (i := k) h4, ?_⟩
        conv => whnf
        refine IdxP.go (k - 1) hsub (by omega) ?_
        conv => whnf
        refine ⟨_, eEd.rd rfl (i := k - 1) (by omega), ?_⟩
        conv => whnf
        refine optM (eql_bin xs[k] xs[k - 1]) ?_
        conv => whnf
        refine bSplit (fun h5 => ?_) (fun h5 => ?_)
        · have h5 : eqE xs[k] xs[k - 1] = true := h5
          conv => whnf
          refine BndP.go k rfl (by omega) ?_
          refine Or.inr (Or.inl ⟨⟨by omega, h4⟩, ?_⟩)
          conv => whnf
          refine Cw.loop (ι := Nat × Nat × List Ed) (fun q => regsT [(0, .gs (pathOf 66) xs.length 2), (3, .int .i64 (q.1 : Int)), (4, .slice (pathOf 66) (Nat.mul k 2) (xs.length - k) (xs.length - k) 2), (5, .int .i64 (q.2.1 : Int))]) (fun _ => []) (fun q => ⟨heapT [(pathOf 64, bxG), (pathOf 66, .gl (eEd.l q.2.2) false)], pathOf 67⟩)
            (fun q => q.2.2.length = xs.length ∧ k ≤ q.1 ∧ q.1 < k + q.2.1 ∧ 1 ≤ q.2.1 ∧ q.2.1 ≤ xs.length - k ∧ cp2 k (xs.length - k - q.2.1) q.1 q.2.1 q.2.2 = cp2 k (xs.length - k - 1) k 1 xs) (fun q => xs.length - k - q.2.1) ?_ (k, 1, xs) ⟨rfl, Nat.le_refl _, Nat.lt_succ_self _, Nat.le_refl _, by show 1 ≤ xs.length - k; omega, rfl⟩ ?_
          · intro q hq
            obtain ⟨c, k2, ys⟩ := q
            obtain ⟨g1, g2, g3, g4, g5, g6⟩ := hq
            have g1 : ys.length = xs.length := g1
            have g2 : k ≤ c := g2
            have g3 : c < k + k2 := g3
            have g4 : 1 ≤ k2 := g4
            have g5 : k2 ≤ xs.length - k := g5
            have g6 : cp2 k (xs.length - k - k2) c k2 ys = cp2 k (xs.length - k - 1) k 1 xs := g6
            have gy : ∀ k (hk : k < ys.length), gE ys k = ys[k] := fun k hk => by
              unfold gE
              rw [List.getD_eq_getElem?_getD, List.getElem?_eq_getElem hk]
              rfl
            have hrd : ∀ i (hi : k + i < ys.length), rdCells Tryz.prog 36 (dropL (Nat.add (Nat.mul k 2) (Nat.mul i 2)) (eEd.l ys)) = some (eEd.v ys[k + i]) := fun i hi =>
              (congrArg (fun o => rdCells Tryz.prog 36 (dropL o (eEd.l ys))) (show k * 2 + i * 2 = (k + i) * 2 by omega)).trans (eEd.rd rfl hi)
            refine wp_sound p_mixed rfl rfl hc _ ?_
            conv => whnf
            refine bSplit (fun h6 => ?_) (fun h6 => ?_)
            · have h6 : k2 < xs.length - k := Int.ofNat_lt.1 (ilt_iff.1 h6)
              have hsub2 : iwrap .i64 (Int.sub (k2 : Int) 1) = ((k2 - 1 : Nat) : Int) := by
                show iwrap .i64 ((k2 : Int) - 1) = _
                rw [iwrap_i64 (by omega) (by omega)]
                omega
              have hidc : iwrap .i64 (Int.add (c : Int) 1) = ((c + 1 : Nat) : Int) := by
                show iwrap .i64 ((c : Int) + 1) = _
                rw [iwrap_i64 (by omega) (by omega)]
                omega
              have hid2 : iwrap .i64 (Int.add (k2 : Int) 1) = ((k2 + 1 : Nat) : Int) := by
                show iwrap .i64 ((k2 : Int) + 1) = _
                rw [iwrap_i64 (by omega) (by omega)]
                omega
              conv => whnf
              refine IdxP.go k2 rfl h6 ?_
              conv => whnf
              refine ⟨_, hrd k2 (by omega), ?_⟩
              conv => whnf
              refine IdxP.go (k2 - 1) hsub2 (by omega) ?_
              conv => whnf
              refine ⟨_, hrd (k2 - 1) (by omega), ?_⟩
              conv => whnf
              refine optM (neq_bin ys[k + k2] ys[k + (k2 - 1)]) ?_
              conv => whnf
              refine bSplit (fun h7 => ?_) (fun h7 => ?_)
              · have h7 : bnot (eqE ys[k + k2] ys[k + (k2 - 1)]) = true := h7
                conv => whnf
                refine IdxP.go k2 rfl h6 ?_
                conv => whnf
                refine ⟨_, hrd k2 (by omega), ?_⟩
                conv => whnf
                refine IdxP.go c rfl (by omega) ?_
                conv => whnf
                refine eEd.st (xs := ys) (i := c) ys[k + k2] (by omega) ?_
                conv => whnf
                refine ⟨(c + 1, k2 + 1, ys.set c ys[k + k2]), ⟨by show (ys.set c ys[k + k2]).length = _; rw [List.length_set]; exact g1, by show k ≤ c + 1; omega, by show c + 1 < k + (k2 + 1); omega, by show 1 ≤ k2 + 1; omega, by show k2 + 1 ≤ xs.length - k; omega, ?_⟩, by show xs.length - k - (k2 + 1) < xs.length - k - k2; omega, ?_⟩
                · rw [← g6, show xs.length - k - k2 = (xs.length - k - (k2 + 1)) + 1 by omega]
                  show _ = (match bnot (eqE (gE ys (k + k2)) (gE ys (k + (k2 - 1)))) with | true => cp2 k (xs.length - k - (k2 + 1)) (c + 1) (k2 + 1) (ys.set c (gE ys (k + k2))) | false => _)
                  rw [gy (k + k2) (by omega), gy (k + (k2 - 1)) (by omega), h7]
                · refine Sub.of [(pathOf 64, some (pathOf 64)), (pathOf 66, some (pathOf 66))] [] rfl rfl rfl ?_ ?_
                  · repeat' first | exact trivial | exact rfl | refine And.intro ?_ ?_
                    all_goals first | exact hidc | exact hid2 | exact hidc.symm | exact hid2.symm | exact eEd.pureL _
                  · repeat' first | exact trivial | exact rfl | refine And.intro ?_ ?_
                    all_goals first | exact hidc | exact hid2 | exact eEd.pureL _
              · have h7 : bnot (eqE ys[k + k2] ys[k + (k2 - 1)]) = false := h7
                conv => whnf
                refine ⟨(c, k2 + 1, ys), ⟨g1, g2, by show c < k + (k2 + 1); omega, by show 1 ≤ k2 + 1; omega, by show k2 + 1 ≤ xs.length - k; omega, ?_⟩, by show xs.length - k - (k2 + 1) < xs.length - k - k2; omega, ?_⟩
                · rw [← g6, show xs.length - k - k2 = (xs.length - k - (k2 + 1)) + 1 by omega]
                  show _ = (match bnot (eqE (gE ys (k + k2)) (gE ys (k + (k2 - 1)))) with | true => _ | false => cp2 k (xs.length - k - (k2 + 1)) c (k2 + 1) ys)
                  rw [gy (k + k2) (by omega), gy (k + (k2 - 1)) (by omega), h7]
                · refine Sub.of [(pathOf 64, some (pathOf 64)), (pathOf 66, some (pathOf 66))] [] rfl rfl rfl ?_ ?_
                  · repeat' first | exact trivial | exact rfl | refine And.intro ?_ ?_
                    all_goals first | exact hid2 | exact hid2.symm | exact eEd.pureL _
                  · repeat' first | exact trivial | exact rfl | refine And.intro ?_ ?_
                    all_goals first | exact hid2 | exact eEd.pureL _
            · have h6 : ((xs.length - k : Nat) : Int) ≤ (k2 : Int) := ilt_no.1 h6
              have h6 : k2 = xs.length - k := by omega
              have e1 : cp2 k (xs.length - k - 1) k 1 xs = (c, ys) := by rw [← g6, show xs.length - k - k2 = 0 by omega]; rfl
              have e : comp xs = (c, zrE c ys) := by
                rw [← h3, show xs.length - k = (xs.length - (k + 1)) + 1 by omega]
                show (match eqE (gE xs k) (gE xs (k - 1)) with | true => ((cp2 k (xs.length - k - 1) k 1 xs).1, zrE (cp2 k (xs.length - k - 1) k 1 xs).1 (cp2 k (xs.length - k - 1) k 1 xs).2) | false => _) = _
                rw [gz k h4, gz (k - 1) (by omega), h5, e1]
              rw [e]
              conv => whnf
              refine BndP.go c rfl (by omega) ?_
              refine Or.inr (Or.inl ⟨⟨by omega, by omega⟩, ?_⟩)
              conv => whnf
              have hz := eEd.reps_l (0, 0) (xs.length - c)
              refine ClP.go (g' := eEd.l (zrE c ys)) (by omega) ?_ ?_ ?_ ?_ ?_
              · rw [eEd.len_l]
                show c * 2 + (xs.length - c) * 2 ≤ ys.length * 2
                omega
              · exact (congrArg AV.len hz).trans ((eEd.len_l _).trans (by rw [List.length_replicate]; rfl))
              · exact (congrArg allCell hz).trans (eEd.cell_l _)
              · refine (congrArg (splice (Nat.mul c 2) (eEd.l ys)) hz).trans ((splice_at (E := eEd) (i := c) (by rw [List.length_replicate]; omega)).trans (congrArg eEd.l ?_))
                unfold zrE
                rw [List.length_replicate, show c + (xs.length - c) = ys.length by omega, List.drop_length, List.append_nil, g1]
              conv => whnf
              refine BndP.go c rfl (by omega) ?_
              conv => whnf
              exact ⟨rfl, rfl, rfl, rfl, trivial⟩
          · refine Sub.of [(pathOf 64, some (pathOf 64)), (pathOf 66, some (pathOf 66))] [] rfl rfl rfl ?_ ?_
            · repeat' first | exact trivial | exact rfl | refine And.intro ?_ ?_
            · repeat' first | exact trivial | exact rfl | refine And.intro ?_ ?_
              all_goals exact eEd.pureL _
        · have h5 : eqE xs[k] xs[k - 1] = false := h5
          conv => whnf
          refine ⟨k + 1, ⟨by omega, by omega, ?_⟩, by omega, ?_⟩
          · rw [← h3, show xs.length - k = (xs.length - (k + 1)) + 1 by omega]
            show _ = (match eqE (gE xs k) (gE xs (k - 1)) with | true => _ | false => cp1 (xs.length - (k + 1)) (k + 1) xs)
            rw [gz k h4, gz (k - 1) (by omega), h5]
          · refine Sub.of [(pathOf 64, some (pathOf 64)), (pathOf 66, some (pathOf 66))] [] rfl rfl rfl ?_ ?_
            · repeat' first | exact trivial | exact rfl | refine And.intro ?_ ?_
              all_goals first | exact hidx | exact eEd.pureL _
            · repeat' first | exact trivial | exact rfl | refine And.intro ?_ ?_
              all_goals first | exact hidx | exact eEd.pureL _
      · have h4 : (xs.length : Int) ≤ (k : Int) := ilt_no.1 h4
        have e : comp xs = (xs.length, xs) := by rw [← h3, show xs.length - k = 0 by omega]; rfl
        rw [e]
        conv => whnf
        exact ⟨rfl, rfl, rfl, rfl, trivial⟩
    · refine Sub.of [(pathOf 64, some (pathOf 64)), (pathOf 66, some (pathOf 66))] [] rfl rfl rfl ?_ ?_
      · repeat' first | exact trivial | exact rfl | refine And.intro ?_ ?_
      · repeat' first | exact trivial | exact rfl | refine And.intro ?_ ?_
        all_goals exact eEd.pureL _
theorem k_cmp {T : Tabs} (hT : T = tb0 ∨ T = tbS) (xs : List Ed) (hn : xs.length ≤ 10) {B0 : Nat} {call : Tgt → AV → Heap → CR} (hcall : @CallOK T Tryz.prog B0 call) :
    @CallOK T Tryz.prog B0 (callI 15 (asCmp xs) (h66 xs) (.gs (pathOf 66) (comp xs).1 2) (h66 (comp xs).2) call) := by
  rcases hT with rfl | rfl
  · exact callI_ok p_callable 3 hcall (fn := Tryz.f15) rfl rfl rfl rfl (Nat.le_refl _) (w_cmp xs hn)
  · exact callI_ok p_callable 3 hcall (fn := Tryz.f15) rfl rfl rfl rfl (Nat.le_refl _) (w_cmp xs hn)
theorem cp2_le (k0 : Nat) : ∀ (f c k2 : Nat) (ys : List Ed), c + f ≤ ys.length → (cp2 k0 f c k2 ys).1 ≤ ys.length ∧ (cp2 k0 f c k2 ys).2.length = ys.length
  | 0, c, k2, ys, h => ⟨h, rfl⟩
  | f + 1, c, k2, ys, h => by
    unfold cp2
    split
    · have := cp2_le k0 f (c + 1) (k2 + 1) (ys.set c (gE ys (k0 + k2))) (by rw [List.length_set]; omega)
      rw [List.length_set] at this
      exact this
    · exact cp2_le k0 f c (k2 + 1) ys (by omega)
theorem cp1_le : ∀ (f k : Nat) (xs : List Ed), k + f ≤ xs.length → (cp1 f k xs).1 ≤ xs.length ∧ (cp1 f k xs).2.length = xs.length
  | 0, k, xs, h => ⟨Nat.le_refl _, rfl⟩
  | f + 1, k, xs, h => by
    unfold cp1
    split
    · have := cp2_le k (xs.length - k - 1) k 1 xs (by omega)
      refine ⟨this.1, ?_⟩
      unfold zrE
      rw [List.length_append, List.length_take, List.length_replicate, this.2]
      omega
    · exact cp1_le f (k + 1) xs (by omega)
theorem comp_le (xs : List Ed) (h : xs ≠ []) : (comp xs).1 ≤ xs.length ∧ (comp xs).2.length = xs.length := by
  have : 0 < xs.length := List.length_pos_iff.2 h
  exact cp1_le _ _ _ (by omega)
end Go.Sy
/- graph.Make of few edges. -/
namespace Go.Sy
open Go.RowKit Go.Proofs
set_option linter.unusedVariables false
set_option linter.unusedSimpArgs false
set_option maxRecDepth 1000000
set_option maxHeartbeats 0
attribute [local irreducible] Cw SealV SealL PF Sub
/-! ### Clone -/
section
abbrev tbC : Tabs := tbK tb0 1
attribute [local instance] tbC
noncomputable def hC : Heap := ⟨heapT [(pathOf 64, bxG)], pathOf 65⟩
noncomputable def asCl (xs : List Ed) : AV := .cons (.ro xs.length (eEd.l xs)) .nil
theorem w_cl (xs : List Ed) (hn : xs.length ≤ 10) (hne : xs ≠ []) {B0 : Nat} : InW 12 Tryz.f12 (asCl xs) (.gs (pathOf 66) xs.length 2) hC (H66 xs) (pathOf 67) B0 (callT (P := Tryz.prog) []) := by
  have hc := callT_ok (P := Tryz.prog) p_callable [] B0
  obtain ⟨x, t, rfl⟩ := List.exists_cons_of_ne_nil hne
  refine wp_sound p_mixed rfl rfl hc _ ?_
  conv => whnf
  refine ⟨eEd.l (x :: t), ?_, ?_⟩
  · exact (eEd.takeL_l (xs := x :: t) (i := (x :: t).length) (Nat.le_refl _)).trans (by rw [List.take_length])
  conv => whnf
  refine ⟨⟨?_, eEd.cell_l _, rfl⟩, ?_⟩
  · show (0 + (x :: t).length) * (16 + 1) ≤ 1099511627776
    omega
  conv => whnf
  refine ⟨?_, rfl, rfl, rfl, trivial⟩
  show AV.gs (pathOf 66) (0 + (x :: t).length) 2 = _
  rw [Nat.zero_add]
theorem k_cl (xs : List Ed) (hn : xs.length ≤ 10) (hne : xs ≠ []) {B0 : Nat} {call : Tgt → AV → Heap → CR} (hcall : @CallOK tb0 Tryz.prog B0 call) :
    @CallOK tb0 Tryz.prog B0 (callI 12 (asCl xs) hC (.gs (pathOf 66) xs.length 2) (h66 xs) call) :=
  callI_ok p_callable 1 hcall (fn := Tryz.f12) rfl rfl rfl rfl (by decide) (w_cl xs hn hne)
end
attribute [local instance] tb0
/-! ### Is there no such node? -/
def beyF (n k : Int) : Bool := match ilt k 0 with | true => true | false => ile n k
theorem c_bey (n k : Int) : PFp 11 (.cons ((eInt .i64).v n) (.cons ((eInt .i64).v k) .nil)) (eBool.v (beyF n k)) := by
  refine PF.of_wp (c := _) p_mixed (by decide) (fn := Tryz.f11) rfl rfl rfl (.cons .int (.cons .int .nil)) (call := callT []) (fun B0 => callT_ok p_callable [] B0) ?_
  intro B0
  unfold beyF
  conv => whnf
  refine bSplit (fun h => ?_) (fun h => ?_)
  · conv => whnf
    rw [show ilt k 0 = true from h]
    exact SealV.same rfl PureV.bool
  · conv => whnf
    rw [show ilt k 0 = false from h]
    exact SealV.same rfl PureV.bool
noncomputable def n_bey : Cn Tryz.prog := .of2 (eInt .i64) (eInt .i64) eBool 11 true (fun _ _ => True) beyF flat_bool (fun n k _ => c_bey n k) (hasbody rfl rfl)
theorem bey_no {n k : Int} (h0 : 0 ≤ k) (h1 : k < n) : beyF n k = false := by
  unfold beyF
  rw [ilt_no.2 h0]
  show Bool.casesOn (motive := fun _ => Bool) (ilt k n) true false = false
  rw [ilt_iff.2 h1]
/-! ### Make -/
/-- A graph. -/
noncomputable def eGr : Enc (Int × List Ed) := (eInt .i64).pair eEd.list
/-- The edges in increasing order, each once. -/
def mkE (xs : List Ed) : List Ed := match xs with | [] => [] | x :: t => (comp (isort (x :: t))).2.take (comp (isort (x :: t))).1
def EdOK (n : Int) (xs : List Ed) : Prop := ∀ i (hi : i < xs.length), (0 ≤ xs[i].1 ∧ xs[i].1 < n) ∧ 0 ≤ xs[i].2 ∧ xs[i].2 < n
noncomputable def tMk : List (Cn Tryz.prog) := [n_bey]
noncomputable def cMk (xs : List Ed) : Tgt → AV → Heap → CR :=
  callI 12 (asCl xs) hC (.gs (pathOf 66) xs.length 2) (h66 xs)
    (callI 13 (asSort xs) (h66 xs) (.tup .nil) (h66 (isort xs))
      (callI 15 (asCmp (isort xs)) (h66 (isort xs)) (.gs (pathOf 66) (comp (isort xs)).1 2) (h66 (comp (isort xs)).2) (callT tMk)))
theorem cMk_ok (xs : List Ed) (hn : xs.length ≤ 10) (hne : xs ≠ []) (B0 : Nat) : CallOK Tryz.prog B0 (cMk xs) :=
  k_cl xs hn hne (k_sort (.inl rfl) xs hn (k_cmp (.inl rfl) (isort xs) (by rw [isort_len]; exact hn) (callT_ok p_callable tMk B0)))
theorem c_make (n : Int) (xs : List Ed) (hn : 0 ≤ n ∧ n ≤ 64) (hl : xs.length ≤ 10) (hne : xs ≠ []) (he : EdOK n xs) :
    PFp 7 (.cons ((eInt .i64).v n) (.cons (eEd.list.v xs) .nil)) (.tup (.cons (eGr.v (n, mkE xs)) (.cons ((eInt .i64).v 0) .nil))) := by
  refine PF.of_wp (c := _) p_mixed (by decide) (fn := Tryz.f7) rfl rfl rfl (.cons .int (.cons (eEd.list.pureV _) .nil)) (call := cMk xs) (fun B0 => cMk_ok xs hl hne B0) ?_
  intro B0
  have hc := cMk_ok xs hl hne B0
  conv => whnf
  refine bF' (ilt_no.2 hn.1) ?_
  conv => whnf
  refine bF' (ilt_no.2 hn.2) ?_
  conv => whnf
  refine Cw.loop (ι := Nat) (fun q => regsT [(0, .int .i64 n), (1, eEd.list.v xs), (4, .ptr (pathOf 64) 0), (16, eEd.list.v xs), (17, .int .i64 (xs.length : Int)), (18, .int .i64 (q : Int))]) (fun _ => []) (fun _ => hC) (fun q => q ≤ xs.length) (fun q => xs.length - q) ?_ 0 (Nat.zero_le _) ?_
  · intro q hq
    refine wp_sound p_mixed rfl rfl hc _ ?_
    conv => whnf
    refine bSplit (fun h1 => ?_) (fun h1 => ?_)
    · have hq' : q < xs.length := Int.ofNat_lt.1 (ilt_iff.1 h1)
      have hidx : iwrap .i64 (Int.add (q : Int) 1) = ((q + 1 : Nat) : Int) := by
        show iwrap .i64 ((q : Int) + 1) = _
        rw [iwrap_i64 (by omega) (by omega)]
        omega
      obtain ⟨⟨e1, e2⟩, e3, e4⟩ := he q hq'
      conv => whnf
      refine IdxP.go q rfl hq' ?_
      conv => whnf
      refine ⟨_, eEd.rd rfl hq', ?_⟩
      conv => whnf
      refine callI_m (by decide) (callI_m (by decide) (callI_m (by decide) (callT_gv (l := tMk) (by decide) 0 (c := n_bey) rfl (n, xs[q].1) trivial (congrArg eBool.v (bey_no e1 e2)) (hk := ?_))))
      conv => whnf
      repeat (refine nx ?_; conv => whnf)
      refine callI_m (by decide) (callI_m (by decide) (callI_m (by decide) (callT_gv (l := tMk) (by decide) 0 (c := n_bey) rfl (n, xs[q].2) trivial (congrArg eBool.v (bey_no e3 e4)) (hk := ?_))))
      conv => whnf
      repeat (refine nx ?_; conv => whnf)
      refine ⟨q + 1, hq', by omega, ?_⟩
      refine Sub.of [(pathOf 64, some (pathOf 64))] [] rfl rfl rfl ?_ ?_
      · repeat' first | exact trivial | exact rfl | refine And.intro ?_ ?_
        all_goals exact hidx
      · repeat' first | exact trivial | exact rfl | refine And.intro ?_ ?_
    · conv => whnf
      refine callI_g (hk := ?_)
      conv => whnf
      refine callI_m (by decide) (callI_g (hk := ?_))
      conv => whnf
      refine callI_m (by decide) (callI_m (by decide) (callI_g (ea := ?_) (hk := ?_)))
      · show AV.cons (.gs (pathOf 66) xs.length 2) .nil = asCmp (isort xs)
        unfold asCmp
        rw [isort_len]
      conv => whnf
      repeat (refine nx ?_; conv => whnf)
      have hi : isort xs ≠ [] := fun e => hne (by
        have := isort_len xs
        rw [e] at this
        exact List.eq_nil_of_length_eq_zero this.symm)
      have hk := comp_le (isort xs) hi
      have hm : mkE xs = (comp (isort xs)).2.take (comp (isort xs)).1 := by cases xs with | nil => exact absurd rfl hne | cons _ _ => rfl
      have hkl : (comp (isort xs)).1 ≤ (comp (isort xs)).2.length := by rw [hk.2]; exact hk.1
      have hv : eGr.v (n, mkE xs) = .agg (.cons (.int .i64 n) (.cons (.ro (comp (isort xs)).1 (eEd.l ((comp (isort xs)).2.take (comp (isort xs)).1))) .nil)) := by
        rw [hm]
        show AV.agg (.cons (.int .i64 n) (.cons (.ro ((comp (isort xs)).2.take (comp (isort xs)).1).length (eEd.l _)) .nil)) = _
        rw [List.length_take, Nat.min_eq_left hkl]
      rw [hv]
      exact SealV.tup (SealL.cons (SealV.agg (SealL.cons (SealV.pure .int) (SealL.cons (SealV.gsTake (l := eEd.l (comp (isort xs)).2) rfl (eEd.takeL_l hkl) (SealL.pure (eEd.pureL _))) SealL.nil))) (SealL.cons (SealV.pure .int) SealL.nil))
  · refine Sub.of [(pathOf 64, some (pathOf 64))] [] rfl rfl rfl ?_ ?_
    · repeat' first | exact trivial | exact rfl | refine And.intro ?_ ?_
    · repeat' first | exact trivial | exact rfl | refine And.intro ?_ ?_
noncomputable def n_make : Cn Tryz.prog := .of2t (eInt .i64) eEd.list eGr (eInt .i64) 7 (fun n xs => (0 ≤ n ∧ n ≤ 64) ∧ xs.length ≤ 10 ∧ xs ≠ [] ∧ EdOK n xs) (fun n xs => (n, mkE xs)) (fun _ _ => 0) (fun n xs h => c_make n xs h.1 h.2.1 h.2.2.1 h.2.2.2) (hasbody rfl rfl)
end Go.Sy
/- graph.Make of no edges (a nil slice), in place. -/
namespace Go.Sy
open Go.RowKit Go.Proofs
set_option linter.unusedVariables false
set_option linter.unusedSimpArgs false
set_option maxRecDepth 1000000
set_option maxHeartbeats 0
attribute [local irreducible] Cw SealV SealL PF Sub
abbrev tb1' : Tabs := tbK tb0 1
abbrev tb2' : Tabs := tbK tb0 2
noncomputable def fOrd : AV := .func (.func 14) .nil .nil
noncomputable def asI0 : AV := .cons .nils (.cons (.int .i64 0) (.cons (.int .i64 0) (.cons fOrd .nil)))
noncomputable def asP0 : AV := .cons .nils (.cons (.int .i64 0) (.cons (.int .i64 0) (.cons (.int .i64 0) (.cons fOrd .nil))))
noncomputable def asS0 : AV := .cons .nils (.cons fOrd .nil)
noncomputable def tLen2 : List (@Cn tb2' Tryz.prog) := [Cn.lift tb2' n_len]
noncomputable def asM0 (n : Int) : AV := .cons (.int .i64 n) (.cons .nils .nil)
noncomputable def vM0 (n : Int) : AV := .tup (.cons (.agg (.cons (.int .i64 n) (.cons .nils .nil))) (.cons (.int .i64 0) .nil))
/-- One block of the caller's, and Make's own. -/
noncomputable def H2oG : List (Pos × AO) := [(pathOf 64, bxG), (pathOf 65, bxG)]
noncomputable def h2oG : Heap := ⟨heapT (H2oG), pathOf 66⟩
section
attribute [local instance] tb2'
theorem w_cl0G {B0 : Nat} : InW 12 Tryz.f12 (.cons .nils .nil) .nils (h2oG) (H2oG) (pathOf 66) B0 (callT (P := Tryz.prog) []) := by
  refine wp_sound p_mixed rfl rfl (callT_ok (P := Tryz.prog) p_callable [] B0) _ ?_
  conv => whnf
  exact ⟨rfl, rfl, rfl, rfl, trivial⟩
theorem w_cmp0G {B0 : Nat} : InW 15 Tryz.f15 (.cons .nils .nil) .nils (h2oG) (H2oG) (pathOf 66) B0 (callT (P := Tryz.prog) []) := by
  refine wp_sound p_mixed rfl rfl (callT_ok (P := Tryz.prog) p_callable [] B0) _ ?_
  conv => whnf
  exact ⟨rfl, rfl, rfl, rfl, trivial⟩
theorem w_ins0G {B0 : Nat} : InW 48 Tryz.f48 asI0 (.tup .nil) (h2oG) (H2oG) (pathOf 66) B0 (callT (P := Tryz.prog) []) := by
  have hc := callT_ok (P := Tryz.prog) p_callable [] B0
  refine wp_sound p_mixed rfl rfl hc _ ?_
  conv => whnf
  refine Cw.unroll p_mixed rfl rfl hc 1 ?_
  conv => whnf
  exact ⟨rfl, rfl, rfl, rfl, trivial⟩
theorem w_pdq0G {B0 : Nat} : InW 25 Tryz.f25 asP0 (.tup .nil) (h2oG) (H2oG) (pathOf 66) B0 (callI 48 asI0 (h2oG) (.tup .nil) (h2oG) (callT (P := Tryz.prog) [])) := by
  have hc : CallOK Tryz.prog B0 (callI 48 asI0 (h2oG) (.tup .nil) (h2oG) (callT (P := Tryz.prog) [])) := callI_ok p_callable 2 (callT_ok (P := Tryz.prog) p_callable [] B0) (fn := Tryz.f48) rfl rfl rfl rfl (Nat.le_refl _) (w_ins0G)
  refine wp_sound p_mixed rfl rfl hc _ ?_
  conv => whnf
  refine Cw.unroll p_mixed rfl rfl hc 1 ?_
  conv => whnf
  refine callI_g (hk := ?_)
  conv => whnf
  exact ⟨rfl, rfl, rfl, rfl, trivial⟩
theorem w_sort0G {B0 : Nat} : InW 13 Tryz.f13 asS0 (.tup .nil) (h2oG) (H2oG) (pathOf 66) B0 (callI 25 asP0 (h2oG) (.tup .nil) (h2oG) (callT tLen2)) := by
  have hc : CallOK Tryz.prog B0 (callI 25 asP0 (h2oG) (.tup .nil) (h2oG) (callT tLen2)) := callI_ok p_callable 2 (callT_ok p_callable tLen2 B0) (fn := Tryz.f25) rfl rfl rfl rfl (Nat.le_refl _) (w_pdq0G)
  refine wp_sound p_mixed rfl rfl hc _ ?_
  conv => whnf
  refine callI_m (by decide) (callT_gv (l := tLen2) (by decide) 0 (c := Cn.lift tb2' n_len) rfl (0 : Int) ⟨by decide, by decide⟩ (v := .int .i64 0) rfl (hk := ?_))
  conv => whnf
  repeat (refine nx ?_; conv => whnf)
  refine callI_g (hk := ?_)
  conv => whnf
  exact ⟨rfl, rfl, rfl, rfl, trivial⟩
end
section
attribute [local instance] tb1'
noncomputable def cMk0G : Tgt → AV → Heap → CR :=
  callI 12 (.cons .nils .nil) (h2oG) .nils (h2oG)
    (callI 13 asS0 (h2oG) (.tup .nil) (h2oG)
      (callI 15 (.cons .nils .nil) (h2oG) .nils (h2oG) (callT (P := Tryz.prog) [])))
theorem cMk0_okG (B0 : Nat) : CallOK Tryz.prog B0 (cMk0G) :=
  callI_ok p_callable 2 (callI_ok p_callable 2 (callI_ok p_callable 2 (callT_ok (P := Tryz.prog) p_callable [] B0)
    (fn := Tryz.f15) rfl rfl rfl rfl (Nat.le_refl _) (w_cmp0G))
    (fn := Tryz.f13) rfl rfl rfl rfl (Nat.le_refl _) (w_sort0G))
    (fn := Tryz.f12) rfl rfl rfl rfl (Nat.le_refl _) (w_cl0G)
noncomputable def h1oG : Heap := ⟨heapT [(pathOf 64, bxG)], pathOf 65⟩
theorem w_make0G (n : Int) (hn : 0 ≤ n ∧ n ≤ 64) {B0 : Nat} : InW 7 Tryz.f7 (asM0 n) (vM0 n) (h1oG) [(pathOf 64, bxG)] (pathOf 66) B0 (cMk0G) := by
  have hc := cMk0_okG B0
  refine wp_sound p_mixed rfl rfl hc _ ?_
  conv => whnf
  refine bF' (ilt_no.2 hn.1) ?_
  conv => whnf
  refine bF' (ilt_no.2 hn.2) ?_
  conv => whnf
  refine Cw.unroll p_mixed rfl rfl hc 1 ?_
  conv => whnf
  refine callI_g (hk := ?_)
  conv => whnf
  refine callI_m (by decide) (callI_g (hk := ?_))
  conv => whnf
  refine callI_m (by decide) (callI_m (by decide) (callI_g (hk := ?_)))
  conv => whnf
  repeat (refine nx ?_; conv => whnf)
  exact trivial
theorem k_make0G (n : Int) (hn : 0 ≤ n ∧ n ≤ 64) {B0 : Nat} {call : Tgt → AV → Heap → CR} (hcall : @CallOK tb0 Tryz.prog B0 call) :
    @CallOK tb0 Tryz.prog B0 (callI 7 (asM0 n) (h1oG) (vM0 n) ⟨heapT [(pathOf 64, bxG)], pathOf 66⟩ call) :=
  callI_ok p_callable 1 hcall (fn := Tryz.f7) rfl rfl rfl rfl (show 65 ≤ 66 by decide) (w_make0G n hn)
end
noncomputable def bxLs (z : Int) : AO := .cells (regsT [(0, .int .i64 z), (1, .ro 0 .nil)]) 2 false
/-- One block of the caller's, and Make's own. -/
noncomputable def H2oL (z : Int) : List (Pos × AO) := [(pathOf 64, bxLs z), (pathOf 65, bxG)]
noncomputable def h2oL (z : Int) : Heap := ⟨heapT (H2oL z), pathOf 66⟩
section
attribute [local instance] tb2'
theorem w_cl0L (z : Int) {B0 : Nat} : InW 12 Tryz.f12 (.cons .nils .nil) .nils (h2oL z) (H2oL z) (pathOf 66) B0 (callT (P := Tryz.prog) []) := by
  refine wp_sound p_mixed rfl rfl (callT_ok (P := Tryz.prog) p_callable [] B0) _ ?_
  conv => whnf
  exact ⟨rfl, rfl, rfl, rfl, trivial⟩
theorem w_cmp0L (z : Int) {B0 : Nat} : InW 15 Tryz.f15 (.cons .nils .nil) .nils (h2oL z) (H2oL z) (pathOf 66) B0 (callT (P := Tryz.prog) []) := by
  refine wp_sound p_mixed rfl rfl (callT_ok (P := Tryz.prog) p_callable [] B0) _ ?_
  conv => whnf
  exact ⟨rfl, rfl, rfl, rfl, trivial⟩
theorem w_ins0L (z : Int) {B0 : Nat} : InW 48 Tryz.f48 asI0 (.tup .nil) (h2oL z) (H2oL z) (pathOf 66) B0 (callT (P := Tryz.prog) []) := by
  have hc := callT_ok (P := Tryz.prog) p_callable [] B0
  refine wp_sound p_mixed rfl rfl hc _ ?_
  conv => whnf
  refine Cw.unroll p_mixed rfl rfl hc 1 ?_
  conv => whnf
  exact ⟨rfl, rfl, rfl, rfl, trivial⟩
theorem w_pdq0L (z : Int) {B0 : Nat} : InW 25 Tryz.f25 asP0 (.tup .nil) (h2oL z) (H2oL z) (pathOf 66) B0 (callI 48 asI0 (h2oL z) (.tup .nil) (h2oL z) (callT (P := Tryz.prog) [])) := by
  have hc : CallOK Tryz.prog B0 (callI 48 asI0 (h2oL z) (.tup .nil) (h2oL z) (callT (P := Tryz.prog) [])) := callI_ok p_callable 2 (callT_ok (P := Tryz.prog) p_callable [] B0) (fn := Tryz.f48) rfl rfl rfl rfl (Nat.le_refl _) (w_ins0L z)
  refine wp_sound p_mixed rfl rfl hc _ ?_
  conv => whnf
  refine Cw.unroll p_mixed rfl rfl hc 1 ?_
  conv => whnf
  refine callI_g (hk := ?_)
  conv => whnf
  exact ⟨rfl, rfl, rfl, rfl, trivial⟩
theorem w_sort0L (z : Int) {B0 : Nat} : InW 13 Tryz.f13 asS0 (.tup .nil) (h2oL z) (H2oL z) (pathOf 66) B0 (callI 25 asP0 (h2oL z) (.tup .nil) (h2oL z) (callT tLen2)) := by
  have hc : CallOK Tryz.prog B0 (callI 25 asP0 (h2oL z) (.tup .nil) (h2oL z) (callT tLen2)) := callI_ok p_callable 2 (callT_ok p_callable tLen2 B0) (fn := Tryz.f25) rfl rfl rfl rfl (Nat.le_refl _) (w_pdq0L z)
  refine wp_sound p_mixed rfl rfl hc _ ?_
  conv => whnf
  refine callI_m (by decide) (callT_gv (l := tLen2) (by decide) 0 (c := Cn.lift tb2' n_len) rfl (0 : Int) ⟨by decide, by decide⟩ (v := .int .i64 0) rfl (hk := ?_))
  conv => whnf
  repeat (refine nx ?_; conv => whnf)
  refine callI_g (hk := ?_)
  conv => whnf
  exact ⟨rfl, rfl, rfl, rfl, trivial⟩
end
section
attribute [local instance] tb1'
noncomputable def cMk0L (z : Int) : Tgt → AV → Heap → CR :=
  callI 12 (.cons .nils .nil) (h2oL z) .nils (h2oL z)
    (callI 13 asS0 (h2oL z) (.tup .nil) (h2oL z)
      (callI 15 (.cons .nils .nil) (h2oL z) .nils (h2oL z) (callT (P := Tryz.prog) [])))
theorem cMk0_okL (z : Int) (B0 : Nat) : CallOK Tryz.prog B0 (cMk0L z) :=
  callI_ok p_callable 2 (callI_ok p_callable 2 (callI_ok p_callable 2 (callT_ok (P := Tryz.prog) p_callable [] B0)
    (fn := Tryz.f15) rfl rfl rfl rfl (Nat.le_refl _) (w_cmp0L z))
    (fn := Tryz.f13) rfl rfl rfl rfl (Nat.le_refl _) (w_sort0L z))
    (fn := Tryz.f12) rfl rfl rfl rfl (Nat.le_refl _) (w_cl0L z)
noncomputable def h1oL (z : Int) : Heap := ⟨heapT [(pathOf 64, bxLs z)], pathOf 65⟩
theorem w_make0L (z : Int) (n : Int) (hn : 0 ≤ n ∧ n ≤ 64) {B0 : Nat} : InW 7 Tryz.f7 (asM0 n) (vM0 n) (h1oL z) [(pathOf 64, bxLs z)] (pathOf 66) B0 (cMk0L z) := by
  have hc := cMk0_okL z B0
  refine wp_sound p_mixed rfl rfl hc _ ?_
  conv => whnf
  refine bF' (ilt_no.2 hn.1) ?_
  conv => whnf
  refine bF' (ilt_no.2 hn.2) ?_
  conv => whnf
  refine Cw.unroll p_mixed rfl rfl hc 1 ?_
  conv => whnf
  refine callI_g (hk := ?_)
  conv => whnf
  refine callI_m (by decide) (callI_g (hk := ?_))
  conv => whnf
  refine callI_m (by decide) (callI_m (by decide) (callI_g (hk := ?_)))
  conv => whnf
  repeat (refine nx ?_; conv => whnf)
  exact trivial
end
end Go.Sy
/- blocking.Graph. -/
namespace Go.Sy
open Go.RowKit Go.Proofs
set_option linter.unusedVariables false
set_option linter.unusedSimpArgs false
set_option maxRecDepth 1000000
set_option maxHeartbeats 0
attribute [local irreducible] Cw SealV SealL PF Sub
attribute [local instance] tb0
/-- An arc. -/
abbrev Ar := ((Int × Int) × (Int × Int)) × List Nat
noncomputable def eArc : Enc Ar := (((eInt .i64).pair (eInt .i64)).pair ((eInt .i64).pair (eInt .i64))).pair eStr
def edS (s : List Int) (x : Ar) : Ed := ((bsI s x.1.1.1 : Nat), (bsI s x.1.1.2 : Nat))
def okS (s : List Int) (x : Ar) : Bool := band (bsB s x.1.1.1) (bsB s x.1.1.2)
def incGo (s : List Int) : Nat → Nat → Bool
  | 0, _ => true
  | f + 1, i => match ile (gI s i) (gI s (i - 1)) with | true => false | false => incGo s f (i + 1)
def incB (s : List Int) : Bool := incGo s (s.length - 1) 1
/-- The blocking graph, and the error. -/
def grF (s : List Int) (l : List Ar) : (Int × List Ed) × Int :=
  match s with
  | [] => ((0, []), 7)
  | a :: t => match incB (a :: t) with
    | false => ((0, []), 8)
    | true => match l.all (okS (a :: t)) with
      | false => ((0, []), 10)
      | true => ((((a :: t).length : Int), mkE (l.map (edS (a :: t)))), 0)
theorem bs_lt {s : List Int} {x : Int} (h : bsB s x = true) : bsI s x < s.length := by
  unfold bsB at h
  cases hb : natLt (bsI s x) s.length with
  | true => exact natLt_iff.1 hb
  | false => rw [hb] at h; cases h
theorem EdOK_of {s : List Int} {l : List Ar} (h : l.all (okS s) = true) : EdOK (s.length : Int) (l.map (edS s)) := by
  intro i hi
  rw [List.length_map] at hi
  rw [List.getElem_map]
  have := List.all_eq_true.1 h _ (List.getElem_mem hi)
  obtain ⟨h1, h2⟩ := band_iff.1 this
  exact ⟨⟨Int.natCast_nonneg _, Int.ofNat_lt.2 (bs_lt h1)⟩, Int.natCast_nonneg _, Int.ofNat_lt.2 (bs_lt h2)⟩
noncomputable def tGr : List (Cn Tryz.prog) := [n_bs, n_make]
noncomputable def cGr (n : Int) : Tgt → AV → Heap → CR := callI 7 (asM0 n) h1oG (vM0 n) ⟨heapT [(pathOf 64, bxG)], pathOf 66⟩ (callT tGr)
theorem cGr_ok (n : Int) (hn : 0 ≤ n ∧ n ≤ 64) (B0 : Nat) : CallOK Tryz.prog B0 (cGr n) := k_make0G n hn (callT_ok p_callable tGr B0)
theorem seal0 {h : Heap} (z : Int) : SealV h (.tup (.cons (.agg (.cons (.int .i64 0) (.cons .nils .nil))) (.cons (.int .i64 z) .nil))) (.tup (.cons (eGr.v (0, [])) (.cons ((eInt .i64).v z) .nil))) :=
  SealV.tup (SealL.cons (SealV.agg (SealL.cons (SealV.pure .int) (SealL.cons SealV.nils SealL.nil))) (SealL.cons (SealV.pure .int) SealL.nil))
theorem c_graph (s : List Int) (l : List Ar) (hs : s.length ≤ 6) (hl : l.length ≤ 10) : PFp 5 (.cons ((eInt .i64).list.v s) (.cons (eArc.list.v l) .nil)) (.tup (.cons (eGr.v (grF s l).1) (.cons ((eInt .i64).v (grF s l).2) .nil))) := by
  have hn : 0 ≤ (s.length : Int) ∧ (s.length : Int) ≤ 64 := ⟨by omega, by omega⟩
  refine PF.of_wp (c := _) p_mixed (by decide) (fn := Tryz.f5) rfl rfl rfl (.cons ((eInt .i64).list.pureV _) (.cons (eArc.list.pureV _) .nil)) (call := cGr (s.length : Int)) (fun B0 => cGr_ok _ hn B0) ?_
  intro B0
  have hc := cGr_ok _ hn B0
  cases s with
  | nil =>
    conv => whnf
    exact seal0 7
  | cons a t =>
    generalize hst : a :: t = s at *
    have hne : 0 < s.length := by rw [← hst]; simp
    have gz : ∀ k (hk : k < s.length), gI s k = s[k] := fun k hk => by
      unfold gI
      rw [List.getD_eq_getElem?_getD, List.getElem?_eq_getElem hk]
      rfl
    have e8 : incB s = false → grF s l = ((0, []), 8) := fun e => by
      subst hst
      show (match incB (a :: t) with | false => _ | true => _) = _
      rw [e]
    have e10 : incB s = true → l.all (okS s) = false → grF s l = ((0, []), 10) := fun e e' => by
      subst hst
      show (match incB (a :: t) with | false => _ | true => (match l.all (okS (a :: t)) with | false => _ | true => _)) = _
      rw [e, e']
    have e0 : incB s = true → l.all (okS s) = true → grF s l = (((s.length : Int), mkE (l.map (edS s))), 0) := fun e e' => by
      subst hst
      show (match incB (a :: t) with | false => _ | true => (match l.all (okS (a :: t)) with | false => _ | true => _)) = _
      rw [e, e']
    conv => whnf
    refine bF' (show ieq (s.length : Int) 0 = false from by rw [ieq_dec, decide_eq_false (by omega)]) ?_
    conv => whnf
    refine Cw.loop (ι := Nat) (fun i => regsT [(0, (eInt .i64).list.v s), (1, eArc.list.v l), (4, .ptr (pathOf 64) 0), (6, .int .i64 (i : Int))]) (fun _ => []) (fun _ => ⟨heapT [(pathOf 64, bxG)], pathOf 65⟩)
      (fun i => 1 ≤ i ∧ i ≤ s.length ∧ incGo s (s.length - i) i = incB s) (fun i => s.length - i) ?_ 1 ⟨Nat.le_refl _, hne, rfl⟩ ?_
    · intro i hi
      obtain ⟨h1, h2, h3⟩ := hi
      refine wp_sound p_mixed rfl rfl hc _ ?_
      conv => whnf
      refine bSplit (fun h4 => ?_) (fun h4 => ?_)
      · have h4 : i < s.length := Int.ofNat_lt.1 (ilt_iff.1 h4)
        have hsub : iwrap .i64 (Int.sub (i : Int) 1) = ((i - 1 : Nat) : Int) := by
          show iwrap .i64 ((i : Int) - 1) = _
          rw [iwrap_i64 (by omega) (by omega)]
          omega
        have hidx : iwrap .i64 (Int.add (i : Int) 1) = ((i + 1 : Nat) : Int) := by
          show iwrap .i64 ((i : Int) + 1) = _
          rw [iwrap_i64 (by omega) (by omega)]
          omega
        have hgo : ∀ b, ile s[i] s[i - 1] = b → (match b with | true => false | false => incGo s (s.length - (i + 1)) (i + 1)) = incB s := fun b hb => by
          rw [← h3, show s.length - i = (s.length - (i + 1)) + 1 by omega]
          show _ = (match ile (gI s i) (gI s (i - 1)) with | true => false | false => incGo s (s.length - (i + 1)) (i + 1))
          rw [gz i h4, gz (i - 1) (by omega), hb]
        conv => whnf
        refine IdxP.go (i - 1) hsub (by omega) ?_
        conv => whnf
        refine ⟨_, (eInt .i64).rd rfl (i := i - 1) (by omega), ?_⟩
        conv => whnf
        refine IdxP.go i rfl h4 ?_
        conv => whnf
        refine ⟨_, (eInt .i64).rd rfl (i := i) h4, ?_⟩
        conv => whnf
        refine bSplit (fun h5 => ?_) (fun h5 => ?_)
        · have h5 : ile s[i] s[i - 1] = true := h5
          rw [e8 (hgo true h5).symm]
          conv => whnf
          exact seal0 8
        · have h5 : ile s[i] s[i - 1] = false := h5
          conv => whnf
          refine ⟨i + 1, ⟨by omega, by omega, hgo false h5⟩, by omega, ?_⟩
          refine Sub.of [(pathOf 64, some (pathOf 64))] [] rfl rfl rfl ?_ ?_
          · repeat' first | exact trivial | exact rfl | refine And.intro ?_ ?_
            all_goals exact hidx
          · repeat' first | exact trivial | exact rfl | refine And.intro ?_ ?_
      · have h4 : (s.length : Int) ≤ (i : Int) := ilt_no.1 h4
        have hinc : incB s = true := by rw [← h3, show s.length - i = 0 by omega]; rfl
        conv => whnf
        refine bF' (ilt_no.2 (show (s.length : Int) ≤ 64 by omega)) ?_
        cases l with
        | nil =>
          rw [e0 hinc rfl]
          conv => whnf
          refine Cw.unroll p_mixed rfl rfl hc 1 ?_
          conv => whnf
          refine callI_g (hk := ?_)
          conv => whnf
          repeat (refine nx ?_; conv => whnf)
          exact SealV.tup (SealL.cons (SealV.agg (SealL.cons (SealV.pure .int) (SealL.cons SealV.nils SealL.nil))) (SealL.cons (SealV.pure .int) SealL.nil))
        | cons y m =>
          generalize hlm : y :: m = l at *
          have hlne : l ≠ [] := by rw [← hlm]; simp
          conv => whnf
          refine Cw.loop (ι := Nat × List Ed) (fun q => regsT [(0, (eInt .i64).list.v s), (4, .ptr (pathOf 64) 0), (7, .gs (pathOf 65) q.2.length 2), (39, eArc.list.v l), (40, .int .i64 (l.length : Int)), (41, .int .i64 (q.1 : Int))]) (fun _ => []) (fun q => ⟨heapT [(pathOf 64, bxG), (pathOf 65, .gl (eEd.l q.2) false)], pathOf 66⟩)
            (fun q => q.1 ≤ l.length ∧ q.2 = (l.take q.1).map (edS s) ∧ (l.take q.1).all (okS s) = true) (fun q => l.length - q.1) ?_ (0, []) ⟨Nat.zero_le _, rfl, rfl⟩ ?_
          · intro q hq
            obtain ⟨q, es⟩ := q
            obtain ⟨g1, g2, g3⟩ := hq
            have g1 : q ≤ l.length := g1
            have g2 : es = (l.take q).map (edS s) := g2
            have g3 : (l.take q).all (okS s) = true := g3
            have hes : es.length ≤ 10 := by rw [g2, List.length_map, List.length_take]; omega
            refine wp_sound p_mixed rfl rfl hc _ ?_
            conv => whnf
            refine bSplit (fun h5 => ?_) (fun h5 => ?_)
            · have h5 : q < l.length := Int.ofNat_lt.1 (ilt_iff.1 h5)
              have hidq : iwrap .i64 (Int.add (q : Int) 1) = ((q + 1 : Nat) : Int) := by
                show iwrap .i64 ((q : Int) + 1) = _
                rw [iwrap_i64 (by omega) (by omega)]
                omega
              have hno : okS s l[q] = false → l.all (okS s) = false := fun e => by
                cases hx : l.all (okS s) with
                | false => rfl
                | true => rw [List.all_eq_true.1 hx _ (List.getElem_mem h5)] at e; cases e
              conv => whnf
              refine IdxP.go q rfl h5 ?_
              conv => whnf
              refine ⟨_, eArc.rd rfl h5, ?_⟩
              conv => whnf
              refine callI_m (by decide) (callT_g (l := tGr) (by decide) 0 (c := n_bs) rfl (s, l[q].1.1.1) (show s.length ≤ 1000 by omega) (hk := ?_))
              conv => whnf
              repeat (refine nx ?_; conv => whnf)
              refine callI_m (by decide) (callT_g (l := tGr) (by decide) 0 (c := n_bs) rfl (s, l[q].1.1.2) (show s.length ≤ 1000 by omega) (hk := ?_))
              conv => whnf
              repeat (refine nx ?_; conv => whnf)
              have bnT : ∀ b : Bool, bnot b = true → b = false := fun b h => by cases b with | true => cases h | false => rfl
              have bnF : ∀ b : Bool, bnot b = false → b = true := fun b h => by cases b with | true => rfl | false => cases h
              refine bSplit (fun h6 => ?_) (fun h6 => ?_)
              · have h6 : bsB s l[q].1.1.1 = false := bnT _ h6
                rw [e10 hinc (hno (by unfold okS; rw [h6]; rfl))]
                conv => whnf
                repeat (refine nx ?_; conv => whnf)
                exact seal0 10
              · have h6 : bsB s l[q].1.1.1 = true := bnF _ h6
                conv => whnf
                refine bSplit (fun h7 => ?_) (fun h7 => ?_)
                · have h7 : bsB s l[q].1.1.2 = false := bnT _ h7
                  rw [e10 hinc (hno (by unfold okS; rw [h6, h7]; rfl))]
                  conv => whnf
                  repeat (refine nx ?_; conv => whnf)
                  exact seal0 10
                · have h7 : bsB s l[q].1.1.2 = true := bnF _ h7
                  conv => whnf
                  refine ⟨_, rfl, ?_⟩
                  conv => whnf
                  refine ⟨⟨?_, rfl, (eEd.len_l es).symm⟩, ?_⟩
                  · show (es.length + 1) * (16 + 1) ≤ 1099511627776
                    omega
                  conv => whnf
                  have ht : (l.take (q + 1)) = l.take q ++ [l[q]] := List.take_succ_eq_append_getElem h5
                  refine ⟨(q + 1, es ++ [edS s l[q]]), ⟨h5, by show es ++ [edS s l[q]] = _; rw [ht, List.map_append, ← g2]; rfl, by show (l.take (q + 1)).all (okS s) = true; rw [ht, List.all_append, g3]; show (true && (okS s l[q] && true)) = true; rw [show okS s l[q] = true by unfold okS; rw [h6, h7]; rfl]; rfl⟩, by show l.length - (q + 1) < l.length - q; omega, ?_⟩
                  refine Sub.of [(pathOf 64, some (pathOf 64)), (pathOf 65, some (pathOf 68))] [] rfl rfl rfl ?_ ?_
                  · repeat' first | exact trivial | exact rfl | refine And.intro ?_ ?_
                    all_goals first | exact hidq | (simp; done) | exact eEd.pureL _
                  · repeat' first | exact trivial | exact rfl | refine And.intro ?_ ?_
                    all_goals first | exact eEd.app_l es [edS s l[q]] | exact eEd.pureL _
            · have h5 : (l.length : Int) ≤ (q : Int) := ilt_no.1 h5
              have hq : q = l.length := by omega
              rw [hq, List.take_length] at g2 g3
              rw [e0 hinc g3]
              conv => whnf
              refine callI_n (fun e => by injection e with _ e; injection e with e _; cases e) (callT_g (l := tGr) (by decide) 1 (c := n_make) rfl ((s.length : Int), es) ⟨hn, hes, ?_, ?_⟩ (hbor := ?_) (hk := ?_))
              · rw [g2]
                exact fun e => hlne (List.map_eq_nil_iff.1 e)
              · rw [g2]
                exact EdOK_of g3
              · exact ⟨trivial, (eEd.len_l es).symm, trivial⟩
              conv => whnf
              repeat (refine nx ?_; conv => whnf)
              rw [g2]
              exact SealV.same rfl (.tup (.cons (eGr.pureV _) (.cons .int .nil)))
          · refine Sub.of [(pathOf 64, some (pathOf 64)), (pathOf 65, none)] [] rfl rfl rfl ?_ ?_
            · repeat' first | exact trivial | exact rfl | refine And.intro ?_ ?_
            · repeat' first | exact trivial | exact rfl | refine And.intro ?_ ?_
    · refine Sub.of [(pathOf 64, some (pathOf 64))] [] rfl rfl rfl ?_ ?_
      · repeat' first | exact trivial | exact rfl | refine And.intro ?_ ?_
      · repeat' first | exact trivial | exact rfl | refine And.intro ?_ ?_
noncomputable def n_graph : Cn Tryz.prog := .of2t (eInt .i64).list eArc.list eGr (eInt .i64) 5 (fun s l => s.length ≤ 6 ∧ l.length ≤ 10) (fun s l => (grF s l).1) (fun s l => (grF s l).2) (fun s l h => c_graph s l h.1 h.2) (hasbody rfl rfl)
end Go.Sy
/- BlockingGraphs: the law is true for whatever ints and arcs. -/
namespace Go.Sy
open Go.RowKit Go.Proofs
set_option linter.unusedVariables false
set_option linter.unusedSimpArgs false
set_option maxRecDepth 1000000
set_option maxHeartbeats 0
attribute [local irreducible] Cw SealV SealL PF Sub
/-! ### The plain law -/
/-- So far in order. -/
def Inc (s : List Int) (i : Nat) : Prop := ∀ j, 1 ≤ j → j < i → ile (gI s j) (gI s (j - 1)) = false
theorem incGo_iff (s : List Int) : ∀ (f i : Nat), incGo s f i = true ↔ ∀ j, i ≤ j → j < i + f → ile (gI s j) (gI s (j - 1)) = false
  | 0, i => ⟨fun _ j h1 h2 => by omega, fun _ => rfl⟩
  | f + 1, i => by
    unfold incGo
    cases h : ile (gI s i) (gI s (i - 1)) with
    | true => exact ⟨(fun e => by cases e), (fun e => by rw [e i (Nat.le_refl _) (by omega)] at h; cases h)⟩
    | false =>
      refine (incGo_iff s f (i + 1)).trans ⟨fun e j h1 h2 => ?_, fun e j h1 h2 => e j (by omega) (by omega)⟩
      rcases Nat.eq_or_lt_of_le h1 with rfl | h1
      · exact h
      · exact e j h1 (by omega)
theorem incB_iff {s : List Int} (h : 0 < s.length) : incB s = true ↔ Inc s s.length := by
  unfold incB Inc
  rw [incGo_iff, show 1 + (s.length - 1) = s.length by omega]
theorem ile_false {x y : Int} : ile x y = false ↔ y < x := by
  unfold ile
  cases h : ilt y x with
  | true => exact ⟨(fun _ => ilt_iff.1 h), (fun _ => rfl)⟩
  | false => exact ⟨(fun e => by cases e), (fun e => by rw [ilt_iff.2 e] at h; cases h)⟩
theorem inc_lt {s : List Int} (h : Inc s s.length) : ∀ {j i : Nat}, i < j → j < s.length → gI s i < gI s j := by
  intro j
  induction j with
  | zero => intro i h1; omega
  | succ j ih =>
    intro i h1 h2
    have h3 := ile_false.1 (h (j + 1) (by omega) h2)
    rw [Nat.add_sub_cancel] at h3
    rcases Nat.eq_or_lt_of_le (Nat.lt_succ_iff.1 h1) with rfl | h4
    · exact h3
    · have := ih h4 (by omega)
      omega
theorem bsGo_spec {s : List Int} {x : Int} (hs : Inc s s.length) : ∀ (f i j : Nat), i ≤ j → j ≤ s.length → j - i ≤ f → (∀ k, k < i → gI s k < x) → (∀ k, j ≤ k → k < s.length → x ≤ gI s k) →
    bsGo s x f i j ≤ s.length ∧ (∀ k, k < bsGo s x f i j → gI s k < x) ∧ ∀ k, bsGo s x f i j ≤ k → k < s.length → x ≤ gI s k
  | 0, i, j, h1, h2, h3, h4, h5 => ⟨by show i ≤ _; omega, h4, fun k hk hl => h5 k (by have hk : i ≤ k := hk; omega) hl⟩
  | f + 1, i, j, h1, h2, h3, h4, h5 => by
    unfold bsGo
    cases hb : natLt i j with
    | false =>
      have : ¬ i < j := fun e => by rw [natLt_iff.2 e] at hb; cases hb
      exact ⟨by show i ≤ _; omega, h4, fun k hk hl => h5 k (by have hk : i ≤ k := hk; omega) hl⟩
    | true =>
      have hb := natLt_iff.1 hb
      cases hx : ilt (gI s ((i + j) / 2)) x with
      | true =>
        have hx := ilt_iff.1 hx
        refine bsGo_spec hs f ((i + j) / 2 + 1) j (by omega) h2 (by omega) (fun k hk => ?_) h5
        rcases Nat.eq_or_lt_of_le (Nat.lt_succ_iff.1 hk) with rfl | hk
        · exact hx
        · have := inc_lt hs hk (by omega)
          omega
      | false =>
        have hx := ilt_no.1 hx
        refine bsGo_spec hs f i ((i + j) / 2) (by omega) (by omega) (by omega) h4 (fun k hk hl => ?_)
        rcases Nat.eq_or_lt_of_le hk with rfl | hk
        · exact hx
        · have := inc_lt hs hk hl
          omega
theorem atGo_spec (x : Int) : ∀ (l : List Int) (i : Nat), (atGo x i l = -1 ∧ ∀ k (hk : k < l.length), l[k] ≠ x) ∨ ∃ k, ∃ hk : k < l.length, atGo x i l = ((i + k : Nat) : Int) ∧ l[k] = x
  | [], i => .inl ⟨rfl, fun k hk => absurd hk (Nat.not_lt_zero _)⟩
  | y :: l, i => by
    unfold atGo
    cases hy : ieq y x with
    | true => exact .inr ⟨0, Nat.succ_pos _, rfl, ieq_iff.1 hy⟩
    | false =>
      have hne : y ≠ x := fun e => by rw [ieq_iff.2 e] at hy; cases hy
      rcases atGo_spec x l (i + 1) with ⟨h1, h2⟩ | ⟨k, hk, h1, h2⟩
      · refine .inl ⟨h1, fun k hk => ?_⟩
        cases k with
        | zero => exact hne
        | succ k => exact h2 k (Nat.lt_of_succ_lt_succ hk)
      · exact .inr ⟨k + 1, Nat.succ_lt_succ hk, h1.trans (by rw [show i + 1 + k = i + (k + 1) by omega]), h2⟩
theorem gI_at {s : List Int} {k : Nat} (hk : k < s.length) : gI s k = s[k] := by
  unfold gI
  rw [List.getD_eq_getElem?_getD, List.getElem?_eq_getElem hk]
  rfl
/-- In increasing numbers the search and the walk agree. -/
theorem at_bs {s : List Int} (hs : Inc s s.length) (x : Int) : (bsB s x = true ∧ atF s x = ((bsI s x : Nat) : Int)) ∨ (bsB s x = false ∧ atF s x = -1) := by
  obtain ⟨h1, h2, h3⟩ := bsGo_spec (x := x) hs s.length 0 s.length (Nat.zero_le _) (Nat.le_refl _) (Nat.sub_le _ _) (fun k hk => absurd hk (Nat.not_lt_zero _)) (fun k hk hl => by omega)
  change bsI s x ≤ s.length at h1
  change ∀ k, k < bsI s x → gI s k < x at h2
  change ∀ k, bsI s x ≤ k → k < s.length → x ≤ gI s k at h3
  unfold bsB atF
  rcases atGo_spec x s 0 with ⟨e1, e2⟩ | ⟨k, hk, e1, e2⟩
  · refine .inr ⟨?_, e1⟩
    cases hb : natLt (bsI s x) s.length with
    | false => rfl
    | true =>
      show ieq (gI s (bsI s x)) x = false
      cases hq : ieq (gI s (bsI s x)) x with
      | false => rfl
      | true =>
        have := ieq_iff.1 hq
        rw [gI_at (natLt_iff.1 hb)] at this
        exact absurd this (e2 _ (natLt_iff.1 hb))
  · have hkx : gI s k = x := (gI_at hk).trans e2
    have hki : k = bsI s x := by
      rcases Nat.lt_trichotomy k (bsI s x) with h | h | h
      · have := h2 k h; omega
      · exact h
      · have h4 := h3 (bsI s x) (Nat.le_refl _) (by omega)
        have h5 := inc_lt hs h hk
        omega
    refine .inl ⟨?_, by rw [e1, Nat.zero_add, hki]⟩
    rw [← hki, natLt_iff.2 hk]
    show ieq (gI s k) x = true
    exact ieq_iff.2 hkx
/-- What the law's own search makes of an arc. -/
def edA (s : List Int) (x : Ar) : Ed := (atF s x.1.1.1, atF s x.1.1.2)
def okA (s : List Int) (x : Ar) : Bool := band (bnot (ilt (atF s x.1.1.1) 0)) (bnot (ilt (atF s x.1.1.2) 0))
theorem okA_eq {s : List Int} (hs : Inc s s.length) (x : Ar) : okA s x = okS s x := by
  unfold okA okS
  rcases at_bs hs x.1.1.1 with ⟨h1, h2⟩ | ⟨h1, h2⟩ <;> rcases at_bs hs x.1.1.2 with ⟨h3, h4⟩ | ⟨h3, h4⟩ <;> rw [h1, h2, h3, h4] <;> first
    | rfl
    | (rw [ilt_no.2 (Int.natCast_nonneg _)]; rfl)
    | (rw [ilt_no.2 (Int.natCast_nonneg _), ilt_no.2 (Int.natCast_nonneg _)]; rfl)
theorem edA_eq {s : List Int} (hs : Inc s s.length) {x : Ar} (h : okS s x = true) : edA s x = edS s x := by
  obtain ⟨h1, h2⟩ := band_iff.1 h
  unfold edA edS
  rcases at_bs hs x.1.1.1 with ⟨_, h3⟩ | ⟨h3, _⟩
  · rcases at_bs hs x.1.1.2 with ⟨_, h4⟩ | ⟨h4, _⟩
    · rw [h3, h4]
    · rw [h4] at h2; cases h2
  · rw [h3] at h1; cases h1
end Go.Sy
