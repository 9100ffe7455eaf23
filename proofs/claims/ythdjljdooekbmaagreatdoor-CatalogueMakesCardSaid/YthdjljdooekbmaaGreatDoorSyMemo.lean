/- What a run says once for all: contracts at given arguments, found by running. -/
import Derived.Test.YthdjljdooekbmaaGreatDoorSyDec
namespace Go.Sy
open Go.RowKit
set_option linter.unusedVariables false
set_option linter.unusedSectionVars false
variable [Tabs]
noncomputable section
/-! ### A value without the names of blocks -/
theorem SealV.gsTake {h : Heap} {id : Pos} {n sz : Nat} {l l1 l' : AV} {ro : Bool} (hg : h.t.get id = some (.gl l ro)) (ht : takeL (Nat.mul n sz) l = some l1) (hl : SealL h l1 l') : SealV h (.gs id n sz) (.ro n l') := by
  intro μ B0 w cv hr hv
  obtain ⟨B, hB, hx⟩ := hv
  have hob := hr.obj id B _ hB hg
  rcases hob with ⟨h1, rfl⟩ | ⟨xs, h1, h2, c, el, fz, h3, h4, h5, h6, h7⟩
  · obtain ⟨g1, g2⟩ := VRL.take (μ := μ) (Nat.mul n sz) (vs := []) (show VRL μ .nil [] from rfl) ht
    have h2 := hl μ B0 w [] hr (by simpa using g1)
    refine ⟨[], h2, ?_⟩
    rcases hx with ⟨c, hx, hnc, _⟩ | ⟨e0, hx⟩
    · exact .inl ⟨_, _, c, hx, hnc, .inl rfl⟩
    · exact .inr ⟨e0, rfl, hx⟩
  · obtain ⟨g1, g2⟩ := VRL.take (Nat.mul n sz) h1 ht
    have hp := hl μ B0 w _ hr g1
    refine ⟨_, hp, ?_⟩
    rcases hx with ⟨c', hx, hnc, _⟩ | ⟨e0, hx⟩
    · refine .inl ⟨_, _, c', hx, hnc, ?_⟩
      by_cases hin : (AO.gl l ro).inert B
      · obtain ⟨e1, _, e2⟩ := hin
        refine .inl ?_
        cases xs with
        | nil => simp
        | cons _ _ => simp at h2; omega
      · refine .inr ⟨c, ?_, fun j v hj => h7 j v ?_⟩
        · show sealAll μ.s B0 w B.b = some c
          cases ro with
          | true => exact (sealAll_grow hr).le _ _ (h6 rfl)
          | false => exact sealAll_get hr ((hr.own id B _ hB hg rfl).resolve_left hin) h3
        · rw [List.getElem?_take] at hj
          split at hj
          · exact hj
          · cases hj
    · refine .inr ⟨e0, ?_, hx⟩
      subst e0
      show xs.take (0 * sz) = []
      rw [Nat.zero_mul, List.take_zero]
/-- What is told of a value without a name of a block in it. -/
def sealD (d : Nat) : Heap → AV → Option AV :=
  Nat.rec (motive := fun _ => Heap → AV → Option AV) (fun _ _ => none)
    (fun _ ih h v => match v with
      | .gs id n sz => (match h.t.get id with | some (.gl l _) => oB (takeL (Nat.mul n sz) l) fun l1 => oB (ih h l1) fun l' => some (.ro n l') | _ => none)
      | .agg l => oB (ih h l) fun l' => some (.agg l')
      | .tup l => oB (ih h l) fun l' => some (.tup l')
      | .cons a t => oB (ih h a) fun a' => oB (ih h t) fun t' => some (.cons a' t')
      | .nil => some .nil
      | .nils => some (.ro 0 .nil)
      | .int k n => some (.int k n)
      | .bool b => some (.bool b)
      | .str s => some (.str s)
      | .ro n l => some (.ro n l)
      | .nili => some .nili
      | .nilp => some .nilp
      | _ => none) d
/-- A value, or a list of values. -/
def isL (v : AV) : Bool := match v with | .nil => true | .cons _ _ => true | _ => false
theorem sealD_sound : ∀ (d : Nat) {h : Heap} {v v' : AV}, sealD d h v = some v' → SealV h v v' ∧ SealL h v v'
  | 0, h, v, v', e => by cases e
  | d + 1, h, v, v', e => by
    have noL : ∀ {a : AV}, (∀ μ xs, ¬ VRL μ a xs) → SealL h a v' := fun hn μ B0 w xs _ hv => (hn μ xs hv).elim
    cases v with
    | gs id n sz =>
      change (match h.t.get id with | some (.gl l _) => oB (takeL (Nat.mul n sz) l) fun l1 => oB (sealD d h l1) fun l' => some (.ro n l') | _ => none) = some v' at e
      cases hg : h.t.get id with
      | none => rw [hg] at e; cases e
      | some o =>
        rw [hg] at e
        cases o with
        | gl l ro =>
          simp only at e
          obtain ⟨l1, h1, e⟩ := oB_some e
          obtain ⟨l', h2, h3⟩ := oB_some e
          cases h3
          exact ⟨SealV.gsTake hg h1 (sealD_sound d h2).2, noL fun _ _ hv => hv⟩
        | _ => cases e
    | agg l =>
      obtain ⟨l', h2, h3⟩ := oB_some (show oB (sealD d h l) (fun l' => some (.agg l')) = some v' from e)
      cases h3
      exact ⟨SealV.agg (sealD_sound d h2).2, noL fun _ _ hv => hv⟩
    | tup l =>
      obtain ⟨l', h2, h3⟩ := oB_some (show oB (sealD d h l) (fun l' => some (.tup l')) = some v' from e)
      cases h3
      exact ⟨SealV.tup (sealD_sound d h2).2, noL fun _ _ hv => hv⟩
    | cons a t =>
      obtain ⟨a', h1, e⟩ := oB_some (show oB (sealD d h a) (fun a' => oB (sealD d h t) fun t' => some (.cons a' t')) = some v' from e)
      obtain ⟨t', h2, h3⟩ := oB_some e
      cases h3
      exact ⟨fun μ B0 w cv _ hv => hv.elim, SealL.cons (sealD_sound d h1).1 (sealD_sound d h2).2⟩
    | nil => cases e; exact ⟨fun μ B0 w cv _ hv => hv.elim, SealL.nil⟩
    | nils => cases e; exact ⟨SealV.nils, noL fun _ _ hv => hv⟩
    | int k n => cases e; exact ⟨SealV.pure .int, noL fun _ _ hv => hv⟩
    | bool b => cases e; exact ⟨SealV.pure .bool, noL fun _ _ hv => hv⟩
    | str s => cases e; exact ⟨SealV.pure .str, noL fun _ _ hv => hv⟩
    | ro n l => cases e; exact ⟨SealV.pure .ro, noL fun _ _ hv => hv⟩
    | nili => cases e; exact ⟨SealV.pure (fun _ _ _ _ h => h), noL fun _ _ hv => hv⟩
    | nilp => cases e; exact ⟨SealV.pure .nilp, noL fun _ _ hv => hv⟩
    | _ => cases e
/-! ### The same -/
def aeq (x : AV) : AV → Bool :=
  AV.rec (motive := fun _ => AV → Bool) (fun _ => false) (fun b y => match y with | .bool c => Bool.rec (motive := fun _ => Bool) (bnot c) c b | _ => false) (fun k n y => match y with | .int l m => band (keq k l) (ieq n m) | _ => false) (fun _ _ _ _ => false)
    (fun s y => match y with | .str u => lbeq s u | _ => false) (fun _ _ => false) (fun _ _ _ => false) (fun _ _ _ _ => false) (fun y => match y with | .nilp => true | _ => false) (fun _ _ _ _ _ _ => false)
    (fun n l r y => match y with | .ro m u => band (Nat.beq n m) (r u) | _ => false) (fun _ _ _ _ => false) (fun _ _ _ => false) (fun _ => false) (fun _ _ => false) (fun _ => false) (fun _ _ _ _ _ _ => false) (fun _ _ => false) (fun _ => false)
    (fun _ _ _ _ => false) (fun y => match y with | .nili => true | _ => false) (fun l r y => match y with | .agg u => r u | _ => false) (fun l r y => match y with | .tup u => r u | _ => false)
    (fun y => match y with | .nil => true | _ => false) (fun a t ra rt y => match y with | .cons b u => band (ra b) (rt u) | _ => false) x
theorem lbeq_eq2 {a b : List Nat} (h : lbeq a b = true) : a = b := by
  rw [lbeq_dec] at h
  exact of_decide_eq_true h
theorem aeq_eq {x : AV} : ∀ {y : AV}, aeq x y = true → x = y := by
  induction x with
  | bool b =>
    intro y h
    cases y with
    | bool c => cases b <;> cases c <;> first | rfl | cases h
    | _ => cases h
  | int k n =>
    intro y h
    cases y with
    | int l m =>
      obtain ⟨h1, h2⟩ := band_iff.1 (show band (keq k l) (ieq n m) = true from h)
      rw [keq_iff.1 h1, ieq_iff.1 h2]
    | _ => cases h
  | str s =>
    intro y h
    cases y with
    | str u => rw [lbeq_eq2 (show lbeq s u = true from h)]
    | _ => cases h
  | nilp => intro y h; cases y <;> first | rfl | cases h
  | nili => intro y h; cases y <;> first | rfl | cases h
  | nil => intro y h; cases y <;> first | rfl | cases h
  | ro n l ih =>
    intro y h
    cases y with
    | ro m u =>
      obtain ⟨h1, h2⟩ := band_iff.1 (show band (Nat.beq n m) (aeq l u) = true from h)
      rw [Nat.eq_of_beq_eq_true h1, ih h2]
    | _ => cases h
  | agg l ih =>
    intro y h
    cases y with
    | agg u => rw [ih (show aeq l u = true from h)]
    | _ => cases h
  | tup l ih =>
    intro y h
    cases y with
    | tup u => rw [ih (show aeq l u = true from h)]
    | _ => cases h
  | cons a t iha iht =>
    intro y h
    cases y with
    | cons b u =>
      obtain ⟨h1, h2⟩ := band_iff.1 (show band (aeq a b) (aeq t u) = true from h)
      rw [iha h1, iht h2]
    | _ => cases h
  | _ => intro y h; cases h
/-- No name of a block, by looking. -/
def dpB (x : AV) : Bool :=
  AV.rec (motive := fun _ => Bool) true (fun _ => true) (fun _ _ => true) (fun _ _ _ => true) (fun _ => true) (fun _ => true) (fun _ _ => false) (fun _ _ _ => false) true (fun _ _ _ _ _ => false) (fun _ _ r => r) (fun _ _ _ => false) (fun _ _ => false) true (fun _ => false) true (fun _ _ _ _ _ => false)
    (fun _ => false) true (fun _ _ _ => false) true (fun _ r => r) (fun _ r => r) true (fun _ _ ra rt => band ra rt) x
theorem dpB_ok {x : AV} (h : dpB x = true) : DP x ∧ PureL x := by
  have pl : ∀ {a : AV}, (∀ μ xs, ¬ VRL μ a xs) → PureL a := fun hn μ μ' xs _ hv => (hn μ xs hv).elim
  induction x with
  | cons a t iha iht =>
    obtain ⟨h1, h2⟩ := band_iff.1 (show band (dpB a) (dpB t) = true from h)
    exact ⟨⟨(iha h1).1, (iht h2).1⟩, .cons (PureV_of_DP (iha h1).1) (iht h2).2⟩
  | agg l ih => exact ⟨(ih h).1, pl fun _ _ hv => hv⟩
  | tup l ih => exact ⟨(ih h).1, pl fun _ _ hv => hv⟩
  | ro n l ih => exact ⟨(ih h).2, pl fun _ _ hv => hv⟩
  | nil => exact ⟨trivial, .nil⟩
  | _ => first | exact ⟨trivial, pl fun _ _ hv => hv⟩ | cases h
variable {P : Program}
/-- A RUN AT GIVEN ARGUMENTS IS A CONTRACT. -/
theorem PF.of_run (hm : P.follows .mixedOrders = true) (hcl : Callable P) {ov : Tgt → AV → Heap → Option CR} (hov : ∀ B0, OvOK P B0 ov) {n fuel : Nat} {f : FuncId} {l v v' : AV} {h' : Heap} (hlen : Tabs.l.length ≤ 64) (hpure : PureL l)
    (hrun : callO P ov fuel n (.fn f) l (startWith Tabs.l 64) = .ret v h') (hseal : SealV h' v v') : PF P f l v' := by
  intro s w hs ht cargs hargs
  have hr := start_HR hlen hs ht
  refine ((callO_sound (B0 := w.heap.size) hm hcl (hov _) fuel n (.fn f) l _ v h' hrun (mu0 w s) w hr).2 cargs (hpure (muS s) (mu0 w s) _ (fun _ _ e => e) hargs)).mono fun e w' ⟨cv, μ', he, hv, hp⟩ => ?_
  exact ⟨cv, sealAll μ'.s w.heap.size w', he, hp.seals.trans (sealAll_grow hp.rel), sealAll_ok hp.rel, hseal μ' w.heap.size w' cv hp.rel hv, hp.below⟩
/-- The run of one entry: its arguments bring its result. -/
def ranTo (P : Program) (ov : Tgt → AV → Heap → Option CR) (f : FuncId) (e : AV × AV) : Bool :=
  match callO P ov 1000 30 (.fn f) e.1 (startWith Tabs.l 64) with
  | .ret v h => (match sealD 10000 h v with | some u => aeq u e.2 | none => false)
  | .fail => false
def ranAll (P : Program) (ov : Tgt → AV → Heap → Option CR) (f : FuncId) (l : List (AV × AV)) : Bool := List.rec true (fun e _ r => band (band (dpB e.1) (dpB e.2)) (band (ranTo P ov f e) r)) l
theorem ranAll_ok (hm : P.follows .mixedOrders = true) (hcl : Callable P) {ov : Tgt → AV → Heap → Option CR} (hov : ∀ B0, OvOK P B0 ov) (hlen : Tabs.l.length ≤ 64) {f : FuncId} : ∀ {l : List (AV × AV)}, ranAll P ov f l = true → ∀ e ∈ l, PF P f e.1 e.2 ∧ DP e.1 ∧ DP e.2
  | [], _, e, he => by cases he
  | x :: l, h, e, he => by
    obtain ⟨h1, h2⟩ := band_iff.1 (show band (band (dpB x.1) (dpB x.2)) (band (ranTo P ov f x) (ranAll P ov f l)) = true from h)
    obtain ⟨h3, h4⟩ := band_iff.1 h1
    obtain ⟨h5, h6⟩ := band_iff.1 h2
    rcases List.mem_cons.1 he with rfl | he
    · refine ⟨?_, (dpB_ok h3).1, (dpB_ok h4).1⟩
      unfold ranTo at h5
      split at h5
      · rename_i v hh hrun
        split at h5
        · rename_i u hs
          rw [← aeq_eq h5]
          exact PF.of_run hm hcl hov hlen (dpB_ok h3).2 hrun (sealD_sound _ hs).1
        · cases h5
      · cases h5
    · exact ranAll_ok hm hcl hov hlen h6 e he
/-- Where arguments stand in a table. -/
def mFind (l : List (AV × AV)) (x : AV) : Nat → Option Nat := List.rec (motive := fun _ => Nat → Option Nat) (fun _ => none) (fun e _ ih i => Bool.rec (motive := fun _ => Option Nat) (ih (Nat.succ i)) (some i) (aeq e.1 x)) l
theorem mFind_ok : ∀ {l : List (AV × AV)} {x : AV} {i j : Nat}, mFind l x i = some j → ∃ k e, j = i + k ∧ l[k]? = some e ∧ e.1 = x
  | [], x, i, j, h => by cases h
  | e :: l, x, i, j, h => by
    change Bool.rec (motive := fun _ => Option Nat) (mFind l x (Nat.succ i)) (some i) (aeq e.1 x) = some j at h
    cases ha : aeq e.1 x with
    | true => rw [ha] at h; cases h; exact ⟨0, e, rfl, rfl, aeq_eq ha⟩
    | false =>
      rw [ha] at h
      obtain ⟨k, e', h1, h2, h3⟩ := mFind_ok (h : mFind l x (Nat.succ i) = some j)
      exact ⟨k + 1, e', by omega, by simpa using h2, h3⟩
def mAt (l : List (AV × AV)) (i : Nat) : AV × AV := (l[i]?).getD (.nil, .nil)
/-- A TABLE OF RUNS, AS A CONTRACT. -/
def Cn.memo (f : FuncId) (l : List (AV × AV)) (h : ∀ e ∈ l, PF P f e.1 e.2 ∧ DP e.1 ∧ DP e.2) (hb : ∃ fn, P.funcs[f]? = some fn ∧ fn.body.isSome = true) : Cn P :=
  have hat : ∀ i, DP (mAt l i).1 ∧ DP (mAt l i).2 := fun i => by
    unfold mAt
    cases hg : l[i]? with
    | none => exact ⟨trivial, trivial⟩
    | some e => exact (h e (List.mem_of_getElem? hg)).2
  Cn.mk f false Nat (fun i => (mAt l i).1) (fun i => (mAt l i).2) (fun i => i < l.length ∧ mFind l (mAt l i).1 0 = some i)
    (fun a b ha hb e => by
      have h2 := hb.2
      rw [← e, ha.2] at h2
      rw [Option.some.inj h2])
    (fun i => (hat i).1) (fun i => PureV_of_DP (hat i).2) (fun h => by cases h)
    (fun i hi => by
      have : l[i]? = some (mAt l i) := by unfold mAt; rw [List.getElem?_eq_getElem hi.1]; rfl
      exact (h _ (List.mem_of_getElem? this)).1) hb
def Dc.memo (f : FuncId) (l : List (AV × AV)) (h : ∀ e ∈ l, PF P f e.1 e.2 ∧ DP e.1 ∧ DP e.2) (hb : ∃ fn, P.funcs[f]? = some fn ∧ fn.body.isSome = true) : Dc P :=
  Dc.mk (Cn.memo f l h hb) (fun x => oB (mFind l x 0) fun i => bB (Nat.ble (Nat.succ i) l.length) (some i)) (fun i => match mFind l (mAt l i).1 0 with | some j => band (Nat.beq i j) (Nat.ble (Nat.succ i) l.length) | none => false)
    (fun x i hx => by
      obtain ⟨j, h1, h2⟩ := oB_some hx
      obtain ⟨h3, h4⟩ := bB_some h2
      cases h4
      obtain ⟨k, e, e1, e2, e3⟩ := mFind_ok h1
      rw [Nat.zero_add] at e1
      subst e1
      show (mAt l _).1 = x
      unfold mAt
      rw [e2]
      exact e3)
    (fun i hi => by
      have hi : (match mFind l (mAt l i).1 0 with | some j => band (Nat.beq i j) (Nat.ble (Nat.succ i) l.length) | none => false) = true := hi
      split at hi
      · rename_i j hj
        obtain ⟨h1, h2⟩ := band_iff.1 hi
        have := Nat.eq_of_beq_eq_true h1
        subst this
        exact ⟨Nat.le_of_ble_eq_true h2, hj⟩
      · cases hi)
end
end Go.Sy
