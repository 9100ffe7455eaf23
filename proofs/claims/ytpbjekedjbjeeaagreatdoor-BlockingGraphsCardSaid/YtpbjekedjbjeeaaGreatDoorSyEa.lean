/- BlockingGraphs: the law is true for whatever ints and arcs: the walk. -/
import Derived.Test.YtpbjekedjbjeeaaGreatDoorSyE9
import Derived.Test.YtpbjekedjbjeeaaGreatDoorStBase
namespace Go.Sy
open Go.RowKit Go.Proofs
set_option linter.unusedVariables false
set_option linter.unusedSimpArgs false
set_option maxRecDepth 1000000
set_option maxHeartbeats 0
attribute [local irreducible] Cw SealV SealL PF Sub
/-! ### What is wanted -/
def OW (s : List Int) (i : Nat) (w : Int) : Prop := (s.length = 0 ∧ w = 7) ∨ (0 < s.length ∧ Inc s i ∧ w = 0) ∨ (0 < s.length ∧ ¬ Inc s i ∧ w = 8)
def OW2 (s : List Int) (l : List Ar) (q : Nat) (w : Int) : Prop :=
  (s.length = 0 ∧ w = 7) ∨ (0 < s.length ∧ ¬ Inc s s.length ∧ w = 8) ∨ (0 < s.length ∧ Inc s s.length ∧ (l.take q).all (okS s) = true ∧ w = 0) ∨ (0 < s.length ∧ Inc s s.length ∧ (l.take q).all (okS s) = false ∧ w = 10)
def nextW (w a b : Int) : Int := match ieq w 0 with | true => (match ilt a 0 with | true => 10 | false => (match ilt b 0 with | true => 10 | false => w)) | false => w
def w8 (b : Bool) (w : Int) : Int := match b with | true => 8 | false => w
/-- What is wanted ahead of the loop. -/
def W0 (s : List Int) : Int := match ieq (s.length : Int) 0 with | true => 7 | false => 0
theorem OW_0 (s : List Int) : OW s 1 (W0 s) := by
  cases s with
  | nil => exact .inl ⟨rfl, rfl⟩
  | cons a t => exact .inr (.inl ⟨Nat.succ_pos _, (fun j h1 h2 => by omega), rfl⟩)
theorem OW_step {s : List Int} {i : Nat} {w : Int} (h : OW s i w) (h1 : 1 ≤ i) (h2 : i < s.length) : OW s (i + 1) (w8 (ile (gI s i) (gI s (i - 1))) w) := by
  rcases h with ⟨e, _⟩ | ⟨e, h3, h4⟩ | ⟨e, h3, h4⟩
  · omega
  · cases hb : ile (gI s i) (gI s (i - 1)) with
    | true => exact .inr (.inr ⟨e, (fun h5 => by rw [h5 i h1 (by omega)] at hb; cases hb), rfl⟩)
    | false =>
      refine .inr (.inl ⟨e, fun j hj hj2 => ?_, h4⟩)
      rcases Nat.eq_or_lt_of_le (Nat.lt_succ_iff.1 hj2) with rfl | h5
      · exact hb
      · exact h3 j hj h5
  · have h5 : ¬ Inc s (i + 1) := fun h6 => h3 fun j hj hj2 => h6 j hj (by omega)
    cases hb : ile (gI s i) (gI s (i - 1)) with
    | true => exact .inr (.inr ⟨e, h5, rfl⟩)
    | false => exact .inr (.inr ⟨e, h5, h4⟩)
theorem OW_OW2 {s : List Int} {l : List Ar} {i : Nat} {w : Int} (h : OW s i w) (hi : s.length ≤ i) (hi2 : i ≤ s.length ∨ s.length = 0) : OW2 s l 0 w := by
  rcases h with h | ⟨e, h3, h4⟩ | ⟨e, h3, h4⟩
  · exact .inl h
  · obtain rfl : i = s.length := by omega
    exact .inr (.inr (.inl ⟨e, h3, rfl, h4⟩))
  · obtain rfl : i = s.length := by omega
    exact .inr (.inl ⟨e, h3, h4⟩)
theorem OW2_step {s : List Int} {l : List Ar} {q : Nat} {w : Int} (h : OW2 s l q w) (hq : q < l.length) : OW2 s l (q + 1) (nextW w (atF s l[q].1.1.1) (atF s l[q].1.1.2)) := by
  unfold nextW
  have ht : (l.take (q + 1)) = l.take q ++ [l[q]] := List.take_succ_eq_append_getElem hq
  have hall : (l.take (q + 1)).all (okS s) = ((l.take q).all (okS s) && okS s l[q]) := by rw [ht, List.all_append]; simp
  rcases h with ⟨e, rfl⟩ | ⟨e, h3, rfl⟩ | ⟨e, h3, h4, rfl⟩ | ⟨e, h3, h4, rfl⟩
  · exact .inl ⟨e, rfl⟩
  · exact .inr (.inl ⟨e, h3, rfl⟩)
  · have hk : okA s l[q] = okS s l[q] := okA_eq h3 _
    show OW2 s l (q + 1) (match ilt (atF s l[q].1.1.1) 0 with | true => 10 | false => (match ilt (atF s l[q].1.1.2) 0 with | true => 10 | false => 0))
    unfold okA at hk
    cases h5 : ilt (atF s l[q].1.1.1) 0 with
    | true =>
      rw [h5] at hk
      exact .inr (.inr (.inr ⟨e, h3, by rw [hall, h4, ← hk]; rfl, rfl⟩))
    | false =>
      cases h6 : ilt (atF s l[q].1.1.2) 0 with
      | true =>
        rw [h5, h6] at hk
        exact .inr (.inr (.inr ⟨e, h3, by rw [hall, h4, ← hk]; rfl, rfl⟩))
      | false =>
        rw [h5, h6] at hk
        exact .inr (.inr (.inl ⟨e, h3, by rw [hall, h4, ← hk]; rfl, rfl⟩))
  · exact .inr (.inr (.inr ⟨e, h3, by rw [hall, h4]; rfl, rfl⟩))
/-- At the end what is wanted is what Graph returns. -/
theorem OW2_end {s : List Int} {l : List Ar} {w : Int} (h : OW2 s l l.length w) : (grF s l).2 = w ∧ (w ≠ 0 → (grF s l).1 = (0, [])) ∧ (w = 0 → Inc s s.length ∧ l.all (okS s) = true ∧ (grF s l).1 = ((s.length : Int), mkE (l.map (edS s)))) := by
  unfold OW2 at h
  rw [List.take_length] at h
  cases s with
  | nil =>
    rcases h with ⟨_, rfl⟩ | ⟨e, _⟩ | ⟨e, _⟩ | ⟨e, _⟩
    · exact ⟨rfl, fun _ => rfl, fun e => by cases e⟩
    · cases e
    · cases e
    · cases e
  | cons a t =>
    have hp : 0 < (a :: t).length := Nat.succ_pos _
    rcases h with ⟨e, _⟩ | ⟨e, h3, rfl⟩ | ⟨e, h3, h4, rfl⟩ | ⟨e, h3, h4, rfl⟩
    · cases e
    · have hi : incB (a :: t) = false := by
        cases hx : incB (a :: t) with
        | false => rfl
        | true => exact absurd ((incB_iff hp).1 hx) h3
      have e1 : grF (a :: t) l = ((0, []), 8) := by
        show (match incB (a :: t) with | false => _ | true => _) = _
        rw [hi]
      rw [e1]
      exact ⟨rfl, fun _ => rfl, fun e => by cases e⟩
    · have hi := (incB_iff hp).2 h3
      have e1 : grF (a :: t) l = ((((a :: t).length : Int), mkE (l.map (edS (a :: t)))), 0) := by
        show (match incB (a :: t) with | false => _ | true => (match l.all (okS (a :: t)) with | false => _ | true => _)) = _
        rw [hi, h4]
      rw [e1]
      exact ⟨rfl, fun e => absurd rfl e, fun _ => ⟨h3, h4, rfl⟩⟩
    · have hi := (incB_iff hp).2 h3
      have e1 : grF (a :: t) l = ((0, []), 10) := by
        show (match incB (a :: t) with | false => _ | true => (match l.all (okS (a :: t)) with | false => _ | true => _)) = _
        rw [hi, h4]
      rw [e1]
      exact ⟨rfl, fun _ => rfl, fun e => by cases e⟩
theorem mkE_len (xs : List Ed) : (mkE xs).length ≤ xs.length := by
  cases xs with
  | nil => exact Nat.le_refl _
  | cons x t =>
    have hi : isort (x :: t) ≠ [] := fun e => by
      have := isort_len (x :: t)
      rw [e] at this
      cases this
    have := comp_le (isort (x :: t)) hi
    show ((comp (isort (x :: t))).2.take (comp (isort (x :: t))).1).length ≤ _
    rw [List.length_take, this.2, isort_len]
    exact Nat.min_le_right _ _
theorem eqE_self (p : Ed) : eqE p p = true := band_iff.2 ⟨ieq_iff.2 rfl, band_iff.2 ⟨ieq_iff.2 rfl, rfl⟩⟩
/-! ### The walk -/
attribute [local instance] tb1
noncomputable def n_known (hK : @PF tb1 Tryz.prog 4 .nil (.bool true)) : Cn Tryz.prog := .of0 eBool 4 true hK (hasbody rfl rfl)
noncomputable def tLw (hK : @PF tb1 Tryz.prog 4 .nil (.bool true)) : List (Cn Tryz.prog) := [(n_known hK), Cn.lift tb1 n_graph, Cn.lift tb1 n_at, Cn.lift tb1 n_make]
theorem tLw_nd (hK : @PF tb1 Tryz.prog 4 .nil (.bool true)) : (List.map Cn.f (tLw hK)).Nodup := of_decide_eq_true (by kernel_rfl)
noncomputable def cLw (hK : @PF tb1 Tryz.prog 4 .nil (.bool true)) (n : Int) : Tgt → AV → Heap → CR := callI 7 (asM0 n) (h1oL n) (vM0 n) ⟨heapT [(pathOf 64, bxLs n)], pathOf 66⟩ (callT (tLw hK))
theorem cLw_ok (hK : @PF tb1 Tryz.prog 4 .nil (.bool true)) (n : Int) (hn : 0 ≤ n ∧ n ≤ 64) (B0 : Nat) : CallOK Tryz.prog B0 (cLw hK n) :=
  callI_okT (T0 := tb0) rfl p_callable 1 (callT_ok p_callable (tLw hK) B0) (fn := Tryz.f7) rfl rfl rfl rfl (show 65 ≤ 66 by decide) (w_make0L n n hn)
theorem c_lawBig (hK : @PF tb1 Tryz.prog 4 .nil (.bool true)) (s : List Int) (l : List Ar) (hsl : ¬ (s.length ≤ 6 ∧ l.length ≤ 10)) : PF Tryz.prog 3 (.cons ((eInt .i64).list.v s) (.cons (eArc.list.v l) .nil)) (.bool true) := by
  refine PF.of_wp (c := _) p_mixed (by decide) (fn := Tryz.f3) rfl rfl rfl (.cons ((eInt .i64).list.pureV _) (.cons (eArc.list.pureV _) .nil)) (call := callT (tLw hK)) (fun B0 => callT_ok p_callable (tLw hK) B0) ?_
  intro B0
  conv => whnf
  refine callT_g (l := (tLw hK)) (tLw_nd hK) 0 (c := (n_known hK)) rfl () trivial (hk := ?_)
  conv => whnf
  refine bSplit (fun h => ?_) (fun h => ?_)
  · conv => whnf
    refine callT_g (l := (tLw hK)) (tLw_nd hK) 0 (c := (n_known hK)) rfl () trivial (hk := ?_)
    conv => whnf
    exact SealV.pure .bool
  · have h : (s.length : Int) ≤ 6 := ilt_no.1 h
    conv => whnf
    refine bSplit (fun h2 => ?_) (fun h2 => ?_)
    · conv => whnf
      refine callT_g (l := (tLw hK)) (tLw_nd hK) 0 (c := (n_known hK)) rfl () trivial (hk := ?_)
      conv => whnf
      exact SealV.pure .bool
    · have h2 : (l.length : Int) ≤ 10 := ilt_no.1 h2
      exact absurd ⟨by omega, by omega⟩ hsl
theorem c_lawSmall (hK : @PF tb1 Tryz.prog 4 .nil (.bool true)) (s : List Int) (l : List Ar) (hs : s.length ≤ 6) (hl : l.length ≤ 10) : PF Tryz.prog 3 (.cons ((eInt .i64).list.v s) (.cons (eArc.list.v l) .nil)) (.bool true) := by
  have hn : 0 ≤ (s.length : Int) ∧ (s.length : Int) ≤ 64 := ⟨by omega, by omega⟩
  refine PF.of_wp (c := _) p_mixed (by decide) (fn := Tryz.f3) rfl rfl rfl (.cons ((eInt .i64).list.pureV _) (.cons (eArc.list.pureV _) .nil)) (call := cLw hK (s.length : Int)) (fun B0 => cLw_ok hK _ hn B0) ?_
  intro B0
  have hc := cLw_ok hK _ hn B0
  obtain ⟨gn, hgn⟩ : ∃ gn, gn = (grF s l).1.1 := ⟨_, rfl⟩
  obtain ⟨ge, hge⟩ : ∃ ge, ge = (grF s l).1.2 := ⟨_, rfl⟩
  obtain ⟨gx, hgx⟩ : ∃ gx, gx = (grF s l).2 := ⟨_, rfl⟩
  have hg : @Cn.v tb0 Tryz.prog n_graph (s, l) = AV.tup (.cons (.agg (.cons (.int .i64 gn) (.cons (.ro ge.length (eEd.l ge)) .nil))) (.cons (.int .i64 gx) .nil)) := by rw [hgn, hge, hgx]; rfl
  have gz : ∀ k (hk : k < s.length), gI s k = s[k] := fun k hk => gI_at hk
  conv => whnf
  refine callI_m (by decide) (callT_g (l := (tLw hK)) (tLw_nd hK) 0 (c := (n_known hK)) rfl () trivial (hk := ?_))
  conv => whnf
  refine bF' (ilt_no.2 (show (s.length : Int) ≤ 6 by omega)) ?_
  conv => whnf
  refine bF' (ilt_no.2 (show (l.length : Int) ≤ 10 by omega)) ?_
  conv => whnf
  refine callI_m (by decide) (callT_gv (l := (tLw hK)) (tLw_nd hK) 1 (c := Cn.lift tb1 n_graph) rfl (s, l) ⟨hs, hl⟩ hg (hk := ?_))
  conv => whnf
  repeat (refine nx ?_; conv => whnf)
  refine bSplit (fun h0 => ?_) (fun h0 => ?_)
  all_goals
    conv => whnf
    refine Cw.loop (ι := Nat × Int) (fun q => regsT [(0, (eInt .i64).list.v s), (1, eArc.list.v l), (5, .ptr (pathOf 64) 0), (6, .int .i64 gx), (7, .int .i64 q.2), (8, .int .i64 (q.1 : Int))]) (fun _ => []) (fun _ => ⟨heapT [(pathOf 64, .cells (regsT [(0, .int .i64 gn), (1, .ro ge.length (eEd.l ge))]) 2 false)], pathOf 65⟩)
      (fun q => 1 ≤ q.1 ∧ (q.1 ≤ s.length ∨ s.length = 0) ∧ OW s q.1 q.2) (fun q => s.length - q.1) ?_ (1, W0 s) ⟨Nat.le_refl _, by show 1 ≤ s.length ∨ _; omega, OW_0 s⟩ ?_
    · intro q hq
      obtain ⟨i, w⟩ := q
      obtain ⟨h1, h2, h3⟩ := hq
      have h1 : 1 ≤ i := h1
      have h2 : i ≤ s.length ∨ s.length = 0 := h2
      have h3 : OW s i w := h3
      refine wp_sound p_mixed rfl rfl hc _ ?_
      conv => whnf
      refine bSplit (fun h4 => ?_) (fun h4 => ?_)
      · have h4 : i < s.length := Int.ofNat_lt.1 (ilt_iff.1 h4)
        have hsub : iwrap .i64 (Int.sub (i : Int) 1) = ((i - 1 : Nat) : Int) := by
          show iwrap .i64 ((i : Int) - 1) = _
          rw [iwrap_i64 (by omega) (by omega)]
          omega
        have hidx : iwrap .i64 (Int.add (i : Int) 1) = ((i + 1 : Nat) : Int) := by
          show iwrap .i64 ((i : Int) + 1) = _
          rw [iwrap_i64 (by omega) (by omega)]
          omega
        have hst := OW_step h3 h1 h4
        rw [gz i h4, gz (i - 1) (by omega)] at hst
        conv => whnf
        refine IdxP.go i rfl h4 ?_
        conv => whnf
        refine ⟨_, (eInt .i64).rd rfl (i := i) h4, ?_⟩
        conv => whnf
        refine IdxP.go (i - 1) hsub (by omega) ?_
        conv => whnf
        refine ⟨_, (eInt .i64).rd rfl (i := i - 1) (by omega), ?_⟩
        conv => whnf
        refine bSplit (fun h5 => ?_) (fun h5 => ?_)
        all_goals
          conv => whnf
          refine ⟨(i + 1, w8 (ile s[i] s[i - 1]) w), ⟨by show 1 ≤ i + 1; omega, by show i + 1 ≤ s.length ∨ _; omega, hst⟩, by show s.length - (i + 1) < s.length - i; omega, ?_⟩
          refine Sub.of [(pathOf 64, some (pathOf 64))] [] rfl rfl rfl ?_ ?_
          · repeat' first | exact trivial | exact rfl | refine And.intro ?_ ?_
            all_goals first | exact hidx | (rw [show ile s[i] s[i - 1] = _ from h5]; rfl)
          · repeat' first | exact trivial | exact rfl | refine And.intro ?_ ?_
      · have h4 : (s.length : Int) ≤ (i : Int) := ilt_no.1 h4
        have hO : OW2 s l 0 w := OW_OW2 h3 (by omega) h2
        cases l with
        | nil =>
          obtain ⟨e1, e2, e3⟩ := OW2_end (l := []) hO
          conv => whnf
          refine Cw.unroll p_mixed rfl rfl hc 1 ?_
          conv => whnf
          refine bSplit (fun h6 => ?_) (fun h6 => ?_)
          · have h6 : w ≠ 0 := fun e => by rw [show bnot (ieq w 0) = false by rw [e]; rfl] at h6; cases h6
            have e4 := e2 h6
            conv => whnf
            refine bT (ieq_iff.2 (hgx.trans e1)) ?_
            conv => whnf
            refine bT (ieq_iff.2 (hgn.trans (congrArg Prod.fst e4))) ?_
            conv => whnf
            repeat (refine nx ?_; conv => whnf)
            rw [show ge = [] from hge.trans (congrArg Prod.snd e4)]
            exact SealV.pure .bool
          · have h6 : w = 0 := by
              cases hx : ieq w 0 with
              | true => exact ieq_iff.1 hx
              | false => rw [show bnot (ieq w 0) = true by rw [hx]; rfl] at h6; cases h6
            obtain ⟨e4, e5, e6⟩ := e3 h6
            have hn1 : gn = (s.length : Int) := hgn.trans (congrArg Prod.fst e6)
            have hn2 : ge = [] := hge.trans (congrArg Prod.snd e6)
            have hn3 : gx = 0 := hgx.trans (e1.trans h6)
            conv => whnf
            refine callI_g (eh := ?_) (hk := ?_)
            · show (⟨heapT [(pathOf 64, .cells (regsT [(0, .int .i64 gn), (1, .ro ge.length (eEd.l ge))]) 2 false)], pathOf 65⟩ : Heap) = h1oL (s.length : Int)
              rw [hn1, hn2]
              rfl
            conv => whnf
            repeat (refine nx ?_; conv => whnf)
            refine bF' (show bnot (ieq gx 0) = false by rw [hn3]; rfl) ?_
            conv => whnf
            refine bF' (show bnot (ieq (s.length : Int) (s.length : Int)) = false by rw [ieq_iff.2 rfl]; rfl) ?_
            conv => whnf
            refine Cw.unroll p_mixed rfl rfl hc 1 ?_
            conv => whnf
            exact SealV.pure .bool
        | cons y m =>
          generalize hlm : y :: m = l at *
          have hlne : l ≠ [] := by rw [← hlm]; simp
          conv => whnf
          refine Cw.loop (ι := Nat × Int × List Ed) (fun q => regsT [(0, (eInt .i64).list.v s), (1, eArc.list.v l), (5, .ptr (pathOf 64) 0), (6, .int .i64 gx), (7, .int .i64 q.2.1), (9, .gs (pathOf 65) q.2.2.length 2), (10, .int .i64 (q.1 : Int))]) (fun _ => []) (fun q => ⟨heapT [(pathOf 64, .cells (regsT [(0, .int .i64 gn), (1, .ro ge.length (eEd.l ge))]) 2 false), (pathOf 65, .gl (eEd.l q.2.2) false)], pathOf 66⟩)
            (fun q => q.1 ≤ l.length ∧ q.2.2 = (l.take q.1).map (edA s) ∧ OW2 s l q.1 q.2.1) (fun q => l.length - q.1) ?_ (0, w, []) ⟨Nat.zero_le _, rfl, hO⟩ ?_
          · intro q hq
            obtain ⟨q, u, es⟩ := q
            obtain ⟨g1, g2, g3⟩ := hq
            have g1 : q ≤ l.length := g1
            have g2 : es = (l.take q).map (edA s) := g2
            have g3 : OW2 s l q u := g3
            have hes : es.length ≤ 10 := by rw [g2, List.length_map, List.length_take]; omega
            refine wp_sound p_mixed rfl rfl hc _ ?_
            conv => whnf
            refine bSplit (fun h5 => ?_) (fun h5 => ?_)
            · have h5 : q < l.length := Int.ofNat_lt.1 (ilt_iff.1 h5)
              have hidq : iwrap .i64 (Int.add (q : Int) 1) = ((q + 1 : Nat) : Int) := by
                show iwrap .i64 ((q : Int) + 1) = _
                rw [iwrap_i64 (by omega) (by omega)]
                omega
              have hfr : rdCells Tryz.prog 3 (dropL (Nat.add (Nat.mul q 5) 0) (eArc.l l)) = some (.int .i64 l[q].1.1.1) := (congrArg (rdCells Tryz.prog 3) (eArc.dropL_at h5 0)).trans rfl
              have hto : rdCells Tryz.prog 3 (dropL (Nat.add (Nat.mul q 5) 1) (eArc.l l)) = some (.int .i64 l[q].1.1.2) := (congrArg (rdCells Tryz.prog 3) (eArc.dropL_at h5 1)).trans rfl
              have hnx := OW2_step g3 h5
              have ht : (l.take (q + 1)) = l.take q ++ [l[q]] := List.take_succ_eq_append_getElem h5
              conv => whnf
              refine IdxP.go q rfl h5 ?_
              conv => whnf
              refine ⟨_, hfr, ?_⟩
              conv => whnf
              refine IdxP.go q rfl h5 ?_
              conv => whnf
              refine ⟨_, hto, ?_⟩
              conv => whnf
              refine callI_m (by decide) (callT_g (l := (tLw hK)) (tLw_nd hK) 2 (c := Cn.lift tb1 n_at) rfl (s, l[q].1.1.1) (show s.length ≤ 1000 by omega) (hk := ?_))
              conv => whnf
              repeat (first | (refine ⟨⟨_, hfr, hfr⟩, ?_⟩; conv => whnf) | (refine ⟨⟨_, hto, hto⟩, ?_⟩; conv => whnf) | (refine nx ?_; conv => whnf))
              refine callI_m (by decide) (callT_g (l := (tLw hK)) (tLw_nd hK) 2 (c := Cn.lift tb1 n_at) rfl (s, l[q].1.1.2) (show s.length ≤ 1000 by omega) (hk := ?_))
              conv => whnf
              repeat (first | (refine ⟨⟨_, hfr, hfr⟩, ?_⟩; conv => whnf) | (refine ⟨⟨_, hto, hto⟩, ?_⟩; conv => whnf) | (refine nx ?_; conv => whnf))
              refine bSplit (fun h6 => ?_) (fun h6 => ?_)
              · have h6 : ieq u 0 = true := h6
                conv => whnf
                refine bSplit (fun h7 => ?_) (fun h7 => ?_)
                · have h7 : ilt (atF s l[q].1.1.1) 0 = true := h7
                  have hw : nextW u (atF s l[q].1.1.1) (atF s l[q].1.1.2) = 10 := by unfold nextW; rw [h6, h7]
                  conv => whnf
                  refine ⟨_, rfl, ?_⟩
                  conv => whnf
                  refine ⟨⟨(show (es.length + 1) * (16 + 1) ≤ 1099511627776 by omega), rfl, (eEd.len_l es).symm⟩, ?_⟩
                  conv => whnf
                  refine ⟨(q + 1, nextW u (atF s l[q].1.1.1) (atF s l[q].1.1.2), es ++ [edA s l[q]]), ⟨h5, by show es ++ [edA s l[q]] = _; rw [ht, List.map_append, ← g2]; rfl, hnx⟩, by show l.length - (q + 1) < l.length - q; omega, ?_⟩
                  refine Sub.of [(pathOf 64, some (pathOf 64)), (pathOf 65, some (pathOf 67))] [] rfl rfl rfl ?_ ?_
                  · repeat' first | exact trivial | exact rfl | refine And.intro ?_ ?_
                    all_goals first | exact hidq | exact hw.symm | exact hw | (simp; done) | exact eEd.pureL _
                  · repeat' first | exact trivial | exact rfl | refine And.intro ?_ ?_
                    all_goals first | exact eEd.app_l es [edA s l[q]] | exact eEd.pureL _
                · have h7 : ilt (atF s l[q].1.1.1) 0 = false := h7
                  conv => whnf
                  refine bSplit (fun h8 => ?_) (fun h8 => ?_)
                  · have h8 : ilt (atF s l[q].1.1.2) 0 = true := h8
                    have hw : nextW u (atF s l[q].1.1.1) (atF s l[q].1.1.2) = 10 := by unfold nextW; rw [h6, h7, h8]
                    conv => whnf
                    refine ⟨_, rfl, ?_⟩
                    conv => whnf
                    refine ⟨⟨(show (es.length + 1) * (16 + 1) ≤ 1099511627776 by omega), rfl, (eEd.len_l es).symm⟩, ?_⟩
                    conv => whnf
                    refine ⟨(q + 1, nextW u (atF s l[q].1.1.1) (atF s l[q].1.1.2), es ++ [edA s l[q]]), ⟨h5, by show es ++ [edA s l[q]] = _; rw [ht, List.map_append, ← g2]; rfl, hnx⟩, by show l.length - (q + 1) < l.length - q; omega, ?_⟩
                    refine Sub.of [(pathOf 64, some (pathOf 64)), (pathOf 65, some (pathOf 67))] [] rfl rfl rfl ?_ ?_
                    · repeat' first | exact trivial | exact rfl | refine And.intro ?_ ?_
                      all_goals first | exact hidq | exact hw.symm | exact hw | (simp; done) | exact eEd.pureL _
                    · repeat' first | exact trivial | exact rfl | refine And.intro ?_ ?_
                      all_goals first | exact eEd.app_l es [edA s l[q]] | exact eEd.pureL _
                  · have h8 : ilt (atF s l[q].1.1.2) 0 = false := h8
                    have hw : nextW u (atF s l[q].1.1.1) (atF s l[q].1.1.2) = u := by unfold nextW; rw [h6, h7, h8]
                    conv => whnf
                    refine ⟨_, rfl, ?_⟩
                    conv => whnf
                    refine ⟨⟨(show (es.length + 1) * (16 + 1) ≤ 1099511627776 by omega), rfl, (eEd.len_l es).symm⟩, ?_⟩
                    conv => whnf
                    refine ⟨(q + 1, nextW u (atF s l[q].1.1.1) (atF s l[q].1.1.2), es ++ [edA s l[q]]), ⟨h5, by show es ++ [edA s l[q]] = _; rw [ht, List.map_append, ← g2]; rfl, hnx⟩, by show l.length - (q + 1) < l.length - q; omega, ?_⟩
                    refine Sub.of [(pathOf 64, some (pathOf 64)), (pathOf 65, some (pathOf 67))] [] rfl rfl rfl ?_ ?_
                    · repeat' first | exact trivial | exact rfl | refine And.intro ?_ ?_
                      all_goals first | exact hidq | exact hw.symm | exact hw | (simp; done) | exact eEd.pureL _
                    · repeat' first | exact trivial | exact rfl | refine And.intro ?_ ?_
                      all_goals first | exact eEd.app_l es [edA s l[q]] | exact eEd.pureL _
              · have h6 : ieq u 0 = false := h6
                have hw : nextW u (atF s l[q].1.1.1) (atF s l[q].1.1.2) = u := by unfold nextW; rw [h6]
                conv => whnf
                refine ⟨_, rfl, ?_⟩
                conv => whnf
                refine ⟨⟨(show (es.length + 1) * (16 + 1) ≤ 1099511627776 by omega), rfl, (eEd.len_l es).symm⟩, ?_⟩
                conv => whnf
                refine ⟨(q + 1, nextW u (atF s l[q].1.1.1) (atF s l[q].1.1.2), es ++ [edA s l[q]]), ⟨h5, by show es ++ [edA s l[q]] = _; rw [ht, List.map_append, ← g2]; rfl, hnx⟩, by show l.length - (q + 1) < l.length - q; omega, ?_⟩
                refine Sub.of [(pathOf 64, some (pathOf 64)), (pathOf 65, some (pathOf 67))] [] rfl rfl rfl ?_ ?_
                · repeat' first | exact trivial | exact rfl | refine And.intro ?_ ?_
                  all_goals first | exact hidq | exact hw.symm | exact hw | (simp; done) | exact eEd.pureL _
                · repeat' first | exact trivial | exact rfl | refine And.intro ?_ ?_
                  all_goals first | exact eEd.app_l es [edA s l[q]] | exact eEd.pureL _
            · have h5 : (l.length : Int) ≤ (q : Int) := ilt_no.1 h5
              have hq : q = l.length := by omega
              rw [hq] at g3
              rw [hq, List.take_length] at g2
              obtain ⟨e1, e2, e3⟩ := OW2_end g3
              conv => whnf
              refine bSplit (fun h6 => ?_) (fun h6 => ?_)
              · have h6 : u ≠ 0 := fun e => by rw [show bnot (ieq u 0) = false by rw [e]; rfl] at h6; cases h6
                have e4 := e2 h6
                conv => whnf
                refine bT (ieq_iff.2 (hgx.trans e1)) ?_
                conv => whnf
                refine bT (ieq_iff.2 (hgn.trans (congrArg Prod.fst e4))) ?_
                conv => whnf
                repeat (refine nx ?_; conv => whnf)
                rw [show ge = [] from hge.trans (congrArg Prod.snd e4)]
                exact SealV.pure .bool
              · have h6 : u = 0 := by
                  cases hx : ieq u 0 with
                  | true => exact ieq_iff.1 hx
                  | false => rw [show bnot (ieq u 0) = true by rw [hx]; rfl] at h6; cases h6
                obtain ⟨e4, e5, e6⟩ := e3 h6
                have hes2 : es = l.map (edS s) := g2.trans (List.map_congr_left fun x hx => edA_eq e4 (List.all_eq_true.1 e5 x hx))
                have hn1 : gn = (s.length : Int) := hgn.trans (congrArg Prod.fst e6)
                have hn2 : ge = mkE es := by rw [hes2]; exact hge.trans (congrArg Prod.snd e6)
                have hn3 : gx = 0 := hgx.trans (e1.trans h6)
                have hn4 : ge.length ≤ 10 := by rw [hn2]; exact Nat.le_trans (mkE_len es) hes
                conv => whnf
                refine callI_n (fun e => by injection e with _ e; injection e with e _; cases e) (callT_g (l := (tLw hK)) (tLw_nd hK) 3 (c := Cn.lift tb1 n_make) rfl ((s.length : Int), es) ⟨hn, hes, ?_, ?_⟩ (hbor := ?_) (hk := ?_))
                · rw [hes2]
                  exact fun e => hlne (List.map_eq_nil_iff.1 e)
                · rw [hes2]
                  exact EdOK_of e5
                · exact ⟨trivial, (eEd.len_l es).symm, trivial⟩
                conv => whnf
                repeat (refine nx ?_; conv => whnf)
                refine bF' (show bnot (ieq gx 0) = false by rw [hn3]; rfl) ?_
                conv => whnf
                refine bF' (show bnot (ieq gn (s.length : Int)) = false by rw [hn1, ieq_iff.2 rfl]; rfl) ?_
                conv => whnf
                refine bF' (show bnot (ieq (ge.length : Int) ((mkE es).length : Int)) = false by rw [hn2, ieq_iff.2 rfl]; rfl) ?_
                conv => whnf
                refine Cw.loop (ι := Nat) (fun i => regsT [(5, .ptr (pathOf 64) 0), (13, .ptr (pathOf 65) 0), (15, .int .i64 (i : Int))]) (fun _ => []) (fun _ => ⟨heapT [(pathOf 64, .cells (regsT [(0, .int .i64 gn), (1, .ro ge.length (eEd.l ge))]) 2 false), (pathOf 65, .cells (regsT [(0, .int .i64 (s.length : Int)), (1, .ro ge.length (eEd.l ge))]) 2 false)], pathOf 66⟩)
                  (fun i => i ≤ ge.length) (fun i => ge.length - i) ?_ 0 (Nat.zero_le _) ?_
                · intro i hi
                  refine wp_sound p_mixed rfl rfl hc _ ?_
                  conv => whnf
                  refine bSplit (fun h7 => ?_) (fun h7 => ?_)
                  · have h7 : i < ge.length := Int.ofNat_lt.1 (ilt_iff.1 h7)
                    have hidi : iwrap .i64 (Int.add (i : Int) 1) = ((i + 1 : Nat) : Int) := by
                      show iwrap .i64 ((i : Int) + 1) = _
                      rw [iwrap_i64 (by omega) (by omega)]
                      omega
                    conv => whnf
                    refine IdxP.go i rfl h7 ?_
                    conv => whnf
                    refine ⟨_, eEd.rd rfl h7, ?_⟩
                    conv => whnf
                    refine IdxP.go i rfl h7 ?_
                    conv => whnf
                    refine ⟨_, eEd.rd rfl h7, ?_⟩
                    conv => whnf
                    refine optM (neq_bin ge[i] ge[i]) ?_
                    conv => whnf
                    refine bF' (show bnot (eqE ge[i] ge[i]) = false by rw [eqE_self]; rfl) ?_
                    conv => whnf
                    refine ⟨i + 1, h7, by omega, ?_⟩
                    refine Sub.of [(pathOf 64, some (pathOf 64)), (pathOf 65, some (pathOf 65))] [] rfl rfl rfl ?_ ?_
                    · repeat' first | exact trivial | exact rfl | refine And.intro ?_ ?_
                      all_goals exact hidi
                    · repeat' first | exact trivial | exact rfl | refine And.intro ?_ ?_
                  · conv => whnf
                    exact SealV.pure .bool
                · refine Sub.of [(pathOf 64, some (pathOf 64)), (pathOf 65, some (pathOf 66))] [] rfl rfl rfl ?_ ?_
                  · repeat' first | exact trivial | exact rfl | refine And.intro ?_ ?_
                  · repeat' first | exact trivial | exact rfl | refine And.intro ?_ ?_
                    all_goals first | exact (congrArg List.length hn2).symm | exact (congrArg (fun x => eEd.l x) hn2).symm
          · refine Sub.of [(pathOf 64, some (pathOf 64)), (pathOf 65, none)] [] rfl rfl rfl ?_ ?_
            · repeat' first | exact trivial | exact rfl | refine And.intro ?_ ?_
            · repeat' first | exact trivial | exact rfl | refine And.intro ?_ ?_
    · refine Sub.of [(pathOf 64, some (pathOf 64))] [] rfl rfl rfl ?_ ?_
      · repeat' first | exact trivial | exact rfl | refine And.intro ?_ ?_
        all_goals first | exact (show (7 : Int) = W0 s from by unfold W0; rw [show ieq (s.length : Int) 0 = true from h0]) | exact (show (0 : Int) = W0 s from by unfold W0; rw [show ieq (s.length : Int) 0 = false from h0])
      · repeat' first | exact trivial | exact rfl | refine And.intro ?_ ?_
theorem c_law (hK : @PF tb1 Tryz.prog 4 .nil (.bool true)) (s : List Int) (l : List Ar) : PF Tryz.prog 3 (.cons ((eInt .i64).list.v s) (.cons (eArc.list.v l) .nil)) (.bool true) := by
  by_cases h : s.length ≤ 6 ∧ l.length ≤ 10
  · exact c_lawSmall hK s l h.1 h.2
  · exact c_lawBig hK s l h
end Go.Sy
