/- Regions whose order is open: every order. -/
import Derived.Test.YtbdhjclehikikabGreatDoorEvPlan5
namespace Go.Ev
open Go.RowKit
set_option linter.unusedVariables false
set_option linter.unusedSimpArgs false
variable {P : Program} {B0 : Nat} {cx : Cx} {ops : Array Oper} {pl : List PI} {r0 : Tr AV} {m : List Pos} {μ0 : Mu} {h0 : Heap} {w0 : World} {a0 : Act} {x : R}

def cnt (ops : Array Oper) (listed : Array Bool) : Nat := ((List.range ops.size).filter fun i => !listed.getD i true).length
theorem filter_lt {α : Type} (p q : α → Bool) : ∀ (l : List α), (∀ x, q x = true → p x = true) → (∃ x ∈ l, p x = true ∧ q x = false) → (l.filter q).length < (l.filter p).length
  | [], _, h => by obtain ⟨x, hx, _⟩ := h; simp at hx
  | y :: l, himp, h => by
    have hle : (l.filter q).length ≤ (l.filter p).length := by
      clear h
      induction l with
      | nil => simp
      | cons z l ih =>
        simp only [List.filter_cons]
        cases hq : q z with
        | true => rw [himp z hq]; simpa using ih
        | false => cases p z <;> simp <;> omega
    simp only [List.filter_cons]
    obtain ⟨x, hx, h1, h2⟩ := h
    rcases List.mem_cons.1 hx with e | e
    · subst e
      rw [h1, h2]
      simp; omega
    · have := filter_lt p q l himp ⟨x, e, h1, h2⟩
      cases hq : q y with
      | true => rw [himp y hq]; simpa using this
      | false => cases p y <;> simp <;> omega

noncomputable section
abbrev msOf (ops : Array Oper) : Tr Nat := preM ops.toList 0 .leaf
end
abbrev DL (listed : Array Bool) (i : Nat) : Prop := listed.getD i false = true
theorem DL_set {listed : Array Bool} {i : Nat} (hi : i < listed.size) : DL (listed.setIfInBounds i true) = fun j => DL listed j ∨ j = i := by
  funext j
  apply propext
  unfold DL
  by_cases e : j = i
  · subst e
    simp [Array.getD, hi]
  · constructor
    · intro h
      left
      rw [← h]
      simp only [Array.getD_eq_getD_getElem?, Array.getElem?_setIfInBounds_ne (fun e' => e e'.symm)]
    · intro h
      rcases h with h | h
      · rw [← h]
        simp only [Array.getD_eq_getD_getElem?, Array.getElem?_setIfInBounds_ne (fun e' => e e'.symm)]
      · exact absurd h e
theorem DL_lt {listed : Array Bool} {i : Nat} (h : DL listed i) : i < listed.size := by
  unfold DL at h
  rcases Nat.lt_or_ge i listed.size with g | g
  · exact g
  · simp [Array.getD, show ¬ i < listed.size by omega] at h
theorem getD_tf {listed : Array Bool} {i : Nat} (hi : i < listed.size) : listed.getD i true = listed.getD i false := by simp [Array.getD, hi]

/-- All have been carried out. -/
theorem order_done (G : Good ops (msOf ops) pl) (hx : x ≠ .fail) {listed : Array Bool} (hsz : listed.size = ops.size) (hall : ∀ i, i < ops.size → DL listed i) {a : Act} {w : World} {pr suf : List PI} {rc : Tr AV} {hc : Heap} {μ : Mu} {J : Nat → Option Pos}
    (M : Mid P B0 cx ops (msOf ops) pl r0 m μ0 h0 w0 a0 x (DL listed) a w pr suf rc hc μ J) : x = .ok rc m hc ∧ Post μ0 B0 h0 w0 μ hc w ∧ RR μ rc a.tmps ∧ a.tmps.size = cx.nt ∧ a.defers = a0.defers := by
  have hlt : ∀ y ∈ pl, y.i < ops.size := fun y hy => (Array.getElem?_eq_some_iff.1 (G.at_ y hy).1).1
  have hsuf : suf = [] := by
    cases suf with
    | nil => rfl
    | cons y t =>
      have hy : y ∈ pl := by rw [M.split]; simp
      obtain ⟨z, hz, e⟩ := M.done y.i (hall _ (hlt y hy))
      exact absurd e (okPair_ne (G.before M.split hz))
  subst hsuf
  have hr := M.run
  change R.ok rc m hc = x at hr
  refine ⟨hr.symm, M.post, fun s v hv => M.slots s v hv (fun y hy hyD => ?_), M.size, M.dfr⟩
  exact absurd (hall _ (hlt y (by rw [M.split]; exact List.mem_append.2 (.inl hy)))) hyD

/-- Whatever stands next can be carried out. -/
theorem order_step (hP : cx.P = P) (hcall : CallOK P B0 cx.call) (G : Good ops (msOf ops) pl) (hx : x ≠ .fail) (hH0 : HR μ0 B0 h0 w0) {listed : Array Bool} (hsz : listed.size = ops.size) (hEC : EC ops (DL listed)) {a : Act} {w : World}
    (hM : ∃ pr suf rc hc μ J, Mid P B0 cx ops (msOf ops) pl r0 m μ0 h0 w0 a0 x (DL listed) a w pr suf rc hc μ J ∧ (suf = [] ∨ ∃ y t, suf = y :: t ∧ y.eff = true)) {i : Nat} (hi : i ∈ Region.ready .any ops listed) {b : Frame} (rest : List Nat) (k : List Item) (cs : List Frame) :
    ∃ a' w', Steps P (lone (b.atR a (.inRegion ops (i :: rest) :: k)) cs w) (lone (b.atR a' (.inRegion ops rest :: k)) cs w') ∧ EC ops (DL (listed.setIfInBounds i true)) ∧
      (∃ pr suf rc hc μ J, Mid P B0 cx ops (msOf ops) pl r0 m μ0 h0 w0 a0 x (DL (listed.setIfInBounds i true)) a' w' pr suf rc hc μ J ∧ (suf = [] ∨ ∃ y t, suf = y :: t ∧ y.eff = true)) := by
  obtain ⟨pr, suf, rc, hc, μ, J, M, hsuf⟩ := hM
  unfold Region.ready at hi
  rw [List.mem_filter] at hi
  obtain ⟨hi1, hi2⟩ := hi
  have hi1 := List.mem_range.1 hi1
  simp only [Bool.and_eq_true, Bool.not_eq_true'] at hi2
  obtain ⟨hi2, hi3⟩ := hi2
  have hiL : i < listed.size := by omega
  have hnD : ¬ DL listed i := by unfold DL; rw [← getD_tf hiL, hi2]; simp
  have hop : ops[i]? = some ops[i] := Array.getElem?_eq_getElem hi1
  rw [hop] at hi3
  simp only [Option.map_some, Option.getD_some] at hi3
  have hedges : ∀ e ∈ (ops[i]).after.toList, Region.binds .any e = true → DL listed e.on := by
    intro e he hb
    have := Array.all_eq_true'.1 hi3 e (Array.mem_toList_iff.1 he)
    rw [hb] at this
    simp only [Bool.not_true, Bool.false_or] at this
    exact this
  have hms := masks_sound hEC
  have hready : ∀ j, pre (msOf ops) j i = true → DL listed j := hms i _ hop hedges
  have hclosed : ∀ i j, DL listed i → pre (msOf ops) j i = true → DL listed j := by
    intro i' j hD hp
    have hlt : i' < ops.size := by have := DL_lt hD; omega
    exact hms i' _ (Array.getElem?_eq_getElem hlt) (hEC i' _ hD (Array.getElem?_eq_getElem hlt)) j hp
  have hEC' : EC ops (DL (listed.setIfInBounds i true)) := by
    rw [DL_set hiL]
    intro j o hj ho e he hb
    rcases hj with hj | rfl
    · exact .inl (hEC j o hj ho e he hb)
    · rw [hop] at ho; cases ho; exact .inl (hedges e he hb)
  obtain ⟨y, hy, rfl⟩ := G.all i hi1
  have hcase : y ∈ pr ∨ y ∈ suf := by rw [M.split] at hy; exact List.mem_append.1 hy
  rcases hcase with hyp | hys
  · obtain ⟨a', w', μ', hst, M'⟩ := float_step (b := b) hP G M hH0 hyp hnD hready hclosed rest k cs
    rw [← DL_set hiL] at M'
    exact ⟨a', w', hst, hEC', pr, suf, rc, hc, μ', J, M', hsuf⟩
  · rcases hsuf with rfl | ⟨z, t, rfl, hz⟩
    · simp at hys
    · rcases List.mem_cons.1 hys with e | e
      · subst e
        obtain ⟨a', w', μ', rc', hc', J', hst, M'⟩ := eff_step (b := b) hP hcall G hx M hz hready rest k cs
        rw [← DL_set hiL] at M'
        obtain ⟨pr2, suf2, rc2, hc2, J2, M2, hs2⟩ := advance hP G hx t M'
        exact ⟨a', w', hst, hEC', pr2, suf2, rc2, hc2, μ', J2, M2, hs2⟩
      · exfalso
        obtain ⟨t1, t2, et⟩ := List.append_of_mem e
        have hok := G.before (pr := pr ++ z :: t1) (suf := t2) (y := y) (by rw [M.split, et]; simp) (x := z) (by simp)
        have hzD := hready _ (okPair_eff hok hz)
        obtain ⟨u, hu, eu⟩ := M.done _ hzD
        exact absurd eu (okPair_ne (G.before M.split hu))

/-- Something can stand next, while not all have been carried out. -/
theorem order_next (G : Good ops (msOf ops) pl) {listed : Array Bool} (hsz : listed.size = ops.size) (h : Region.ready .any ops listed = []) : ∀ i, i < ops.size → DL listed i := by
  -- along the one order, each is listed
  have key : ∀ (suf pr : List PI), pl = pr ++ suf → (∀ y ∈ pr, DL listed y.i) → ∀ y ∈ pl, DL listed y.i := by
    intro suf
    induction suf with
    | nil => intro pr e hp y hy; rw [e] at hy; exact hp y (by simpa using hy)
    | cons z t ih =>
      intro pr e hp
      have hz : z ∈ pl := by rw [e]; simp
      have hop := (G.at_ z hz).1
      have hlt : z.i < ops.size := (Array.getElem?_eq_some_iff.1 hop).1
      refine ih (pr ++ [z]) (by rw [e]; simp) (fun y hy => ?_)
      rcases List.mem_append.1 hy with hy | hy
      · exact hp y hy
      · rw [List.mem_singleton] at hy
        subst hy
        by_cases hD : DL listed y.i
        · exact hD
        · exfalso
          have : y.i ∈ Region.ready .any ops listed := by
            unfold Region.ready
            rw [List.mem_filter]
            refine ⟨List.mem_range.2 hlt, ?_⟩
            rw [hop]
            simp only [Option.map_some, Option.getD_some, Bool.and_eq_true, Bool.not_eq_true']
            constructor
            · rw [getD_tf (by omega)]
              cases hb : listed.getD y.i false with
              | false => rfl
              | true => exact absurd hb hD
            · rw [Array.all_eq_true']
              intro ed hed
              cases hb : Region.binds .any ed with
              | false => rfl
              | true =>
                simp only [Bool.not_true, Bool.false_or]
                obtain ⟨h1, h2⟩ := G.edge y.i y.o hop ed (Array.mem_toList_iff.2 hed) hb
                obtain ⟨u, hu, hui⟩ := G.all ed.on h2
                have hupr : u ∈ pr := by
                  rw [e] at hu
                  rcases List.mem_append.1 hu with g | g
                  · exact g
                  · exfalso
                    rcases List.mem_cons.1 g with g | g
                    · subst g
                      rw [← hui, G.self u hz] at h1
                      cases h1
                    · obtain ⟨t1, t2, et⟩ := List.append_of_mem g
                      have hok := G.before (pr := pr ++ y :: t1) (suf := t2) (y := u) (by rw [e, et]; simp) (x := y) (by simp)
                      have := okPair_pre hok
                      rw [hui, h1] at this
                      cases this
                have := hp u hupr
                rw [hui] at this
                exact this
          rw [h] at this
          simp at this
  intro i hi
  obtain ⟨y, hy, e⟩ := G.all i hi
  have := key pl [] (by simp) (by simp) y hy
  rwa [e] at this

theorem order_any (hP : cx.P = P) (hcall : CallOK P B0 cx.call) (G : Good ops (msOf ops) pl) (hx : x ≠ .fail) (hH0 : HR μ0 B0 h0 w0) {b : Frame} (k : List Item) (cs : List Frame) : ∀ (fuel t : Nat) (listed : Array Bool) (a : Act) (w : World), listed.size = ops.size → EC ops (DL listed) →
    (∃ pr suf rc hc μ J, Mid P B0 cx ops (msOf ops) pl r0 m μ0 h0 w0 a0 x (DL listed) a w pr suf rc hc μ J ∧ (suf = [] ∨ ∃ y t, suf = y :: t ∧ y.eff = true)) → cnt ops listed ≤ fuel →
    ∃ a' w' μ' r' h', x = .ok r' m h' ∧ Post μ0 B0 h0 w0 μ' h' w' ∧ RR μ' r' a'.tmps ∧ a'.tmps.size = cx.nt ∧ a'.defers = a0.defers ∧
      Steps P (lone (b.atR a (.inRegion ops (Region.linearise.go .any ops fuel t listed []) :: k)) cs w) (lone (b.atR a' (.inRegion ops [] :: k)) cs w')
  | 0, t, listed, a, w, hsz, hEC, hM, hcnt => by
    have hall : ∀ i, i < ops.size → DL listed i := by
      intro i hi
      cases hb : listed.getD i false with
      | true => exact hb
      | false =>
        exfalso
        have : i ∈ (List.range ops.size).filter fun i => !listed.getD i true := by
          rw [List.mem_filter]
          refine ⟨List.mem_range.2 hi, ?_⟩
          rw [getD_tf (by omega), hb]; rfl
        have := List.length_pos_of_mem this
        unfold cnt at hcnt
        omega
    obtain ⟨pr, suf, rc, hc, μ, J, M, _⟩ := hM
    obtain ⟨e1, e2, e3, e4, e5⟩ := order_done G hx hsz hall M
    exact ⟨a, w, μ, rc, hc, e1, e2, e3, e4, e5, by simp [Region.linearise.go]; exact Steps.refl _ _⟩
  | fuel + 1, t, listed, a, w, hsz, hEC, hM, hcnt => by
    have hgo : Region.linearise.go .any ops (fuel + 1) t listed [] = match (Region.ready .any ops listed)[t % (Region.ready .any ops listed).length]? with
        | some i => Region.linearise.go .any ops fuel (t / (Region.ready .any ops listed).length) (listed.setIfInBounds i true) [i]
        | none => [].reverse := rfl
    rw [hgo]
    cases hi : (Region.ready .any ops listed)[t % (Region.ready .any ops listed).length]? with
    | none =>
      have hnil : Region.ready .any ops listed = [] := by
        cases hr : Region.ready .any ops listed with
        | nil => rfl
        | cons y ys =>
          rw [hr] at hi
          have hlt : t % (y :: ys).length < (y :: ys).length := Nat.mod_lt _ (by simp)
          rw [List.getElem?_eq_none_iff] at hi
          omega
      obtain ⟨pr, suf, rc, hc, μ, J, M, _⟩ := hM
      obtain ⟨e1, e2, e3, e4, e5⟩ := order_done G hx hsz (order_next G hsz hnil) M
      exact ⟨a, w, μ, rc, hc, e1, e2, e3, e4, e5, Steps.refl _ _⟩
    | some i =>
      simp only
      rw [linearise_go_acc, List.reverse_singleton, List.singleton_append]
      have hmem := List.mem_of_getElem? hi
      obtain ⟨a1, w1, hst, hEC1, hM1⟩ := order_step (b := b) hP hcall G hx hH0 hsz hEC hM hmem (Region.linearise.go .any ops fuel (t / (Region.ready .any ops listed).length) (listed.setIfInBounds i true) []) k cs
      have hi' : i < ops.size ∧ listed.getD i true = false := by
        unfold Region.ready at hmem
        rw [List.mem_filter] at hmem
        obtain ⟨q1, q2⟩ := hmem
        simp only [Bool.and_eq_true, Bool.not_eq_true'] at q2
        exact ⟨List.mem_range.1 q1, q2.1⟩
      have hlt : cnt ops (listed.setIfInBounds i true) < cnt ops listed := by
        refine filter_lt _ _ _ (fun j hj => ?_) ⟨i, List.mem_range.2 hi'.1, by simp [hi'.2], ?_⟩
        · by_cases e : j = i
          · subst e; simp [hi'.2]
          · simp only [Array.getD_eq_getD_getElem?, Array.getElem?_setIfInBounds_ne (fun e' => e e'.symm)] at hj ⊢
            exact hj
        · simp [Array.getD, show i < listed.size by omega]
      obtain ⟨a', w', μ', r', h', f1, f2, f3, f4, f5, f6⟩ := order_any hP hcall G hx hH0 k cs fuel _ (listed.setIfInBounds i true) a1 w1 (by simp [hsz]) hEC1 hM1 (by omega)
      exact ⟨a', w', μ', r', h', f1, f2, f3, f4, f5, hst.trans f6⟩

/-- **A region whose order is drawn comes to what the evaluator says.** -/
theorem draw_sound (hm : P.follows .mixedOrders = true) (hP : cx.P = P) (hcall : CallOK P B0 cx.call) (hpl : planOf ops = some pl) {r : Tr AV} {h : Heap} (hrun : doPlan ops pl cx r m h = x) (hx : x ≠ .fail) {μ : Mu} {w : World} {a : Act} (hH : HR μ B0 h w) (hr : RR μ r a.tmps) (hsz : a.tmps.size = cx.nt)
    {b : Frame} (k : List Item) (cs : List Frame) (t : Nat) :
    ∃ a' w' μ' r' h', x = .ok r' m h' ∧ Post μ B0 h w μ' h' w' ∧ RR μ' r' a'.tmps ∧ a'.tmps.size = cx.nt ∧ a'.defers = a.defers ∧
      Steps P (lone (b.atR a (.inRegion ops (Region.schedule (P.follows .mixedOrders) ops t) :: k)) cs w) (lone (b.atR a' (.inRegion ops [] :: k)) cs w') := by
  have G := planOf_good hpl
  have hD0 : ∀ i, ¬ DL (Array.replicate ops.size false) i := by
    intro i hi
    unfold DL at hi
    by_cases e : i < ops.size <;> simp [Array.getD, e] at hi
  have M0 : Mid P B0 cx ops (msOf ops) pl r m μ h w a x (DL (Array.replicate ops.size false)) a w [] pl r h μ (fun _ => none) :=
    ⟨by simp, hrun, fun i hi => absurd hi (hD0 i), by simp, Post.refl hH, hsz, rfl, fun s v hv _ => hr s v hv, by simp, fun _ _ => rfl, by simp, by simp, by simp, by simp⟩
  obtain ⟨pr2, suf2, rc2, hc2, J2, M2, hs2⟩ := advance hP G hx pl M0
  have := order_any (b := b) hP hcall G hx hH k cs ops.size t (Array.replicate ops.size false) a w (by simp) (fun i o hi => absurd hi (hD0 i)) ⟨pr2, suf2, rc2, hc2, μ, J2, M2, hs2⟩ (by
    unfold cnt
    refine Nat.le_trans (List.length_filter_le _ _) (by simp))
  unfold Region.schedule
  rw [hm]
  simp only [Bool.true_or, if_true]
  exact this
end Go.Ev
