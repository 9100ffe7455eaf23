/- Calls and rounds: what the evaluator says of a call is what the machine does with it. -/
import Derived.Test.YtbdhjclehikikabGreatDoorEvCode2
namespace Go.Ev
open Go.RowKit
set_option linter.unusedVariables false
set_option linter.unusedSimpArgs false
variable {P : Program} {B0 : Nat}

/-- The marks are taken. -/
theorem marks_sound {μ : Mu} : ∀ (m : List Pos) {h h' : Heap} {w : World} (fr : Frame) (cs : List Frame), HR μ B0 h w → DR μ m fr.defers → takeMarks m h = some h' → fr.mode = .returning →
    ∃ w', Post μ B0 h w μ h' w' ∧ Steps P (lone fr cs w) (lone { fr with defers := [] } cs w')
  | [], h, h', w, fr, cs, hr, hd, ht, hm => by
    cases (show some h = some h' from ht)
    obtain ⟨fn, tmps, todo, defers, mode, kind, ro⟩ := fr
    cases defers with
    | cons _ _ => exact hd.elim
    | nil => exact ⟨w, Post.refl hr, Steps.refl P _⟩
  | id :: m, h, h', w, fr, cs, hr, hd, ht, hm => by
    obtain ⟨fn, tmps, todo, defers, mode, kind, ro⟩ := fr
    cases defers with
    | nil => exact hd.elim
    | cons d ds =>
      obtain ⟨⟨B, hB, htar⟩, hd⟩ := hd
      change (match h.t.get id with | some .marks => takeMarks m (kill id h) | _ => none) = some h' at ht
      split at ht
      · rename_i hg
        have hob := hr.obj id B _ hB hg
        have htake := run_takeDeferred (P := P) (show w.heap[B.b]? = some (.deferred (some [])) from hob)
        have hp := killPost hr id B hB _ hg rfl (.deferred none)
        have hstep := step_collected (P := P) (fr := ⟨fn, tmps, todo, d :: ds, mode, kind, ro⟩) (cs := cs) (by show mode ≠ .run; rw [show mode = .returning from hm]; intro e; cases e) rfl htar htake
        obtain ⟨w', hp', hs⟩ := marks_sound m ⟨fn, tmps, todo, ds, mode, kind, ro⟩ cs hp.rel hd ht hm
        exact ⟨w', hp.trans hp', .head hstep hs⟩
      · cases ht

/-- One result, as the machine reads it. -/
def resS (tmps : Array Value) : ResultVar → Sem Value
  | .tmp t => pure (tmps.getD t undef)
  | .cell a t => do loadVar t (← asAddr (tmps.getD a undef))
theorem results_eq (fn : Func) (tmps : Array Value) : results fn tmps = (do let vs ← fn.results.mapM (resS tmps); pure (if h : vs.size = 1 then vs[0] else .tuple vs)) := rfl
theorem eval_tmp (tmps : Array Value) (t : Tmp) : Act.eval ⟨tmps, []⟩ (.tmp t) = tmps.getD t undef := rfl
theorem resA_sound {x : ResultVar} {r : Tr AV} {h : Heap} {v : AV} {μ : Mu} {w : World} {tmps : Array Value} (hr : HR μ B0 h w) (hrr : RR μ r tmps) (hx : resA P x r h = some v) :
    ∃ cv, (resS tmps x).run P w = .ok cv w ∧ VR1 μ v cv := by
  unfold resA at hx
  cases x with
  | tmp t =>
    simp only at hx
    cases hx
    have := ev_sound (a := ⟨tmps, []⟩) hr.glob hrr (.tmp t)
    exact ⟨_, Sem.run_pure .., this⟩
  | cell a t =>
    simp only at hx
    have hx' := ev_sound (a := ⟨tmps, []⟩) hr.glob hrr (.tmp a)
    rw [eval_tmp] at hx'
    unfold loadA at hx
    split at hx
    · rename_i id off he
      have hev : ev (.tmp a) r = .ptr id off := he
      rw [hev] at hx'
      obtain ⟨B, hB, hx'⟩ := hx'
      have hx' : tmps.getD a undef = .pointer (some ⟨B.b, B.base + off, none⟩) := List.head_eq_of_cons_eq hx'
      cases hc : cellsAt h id with
      | none => rw [hc] at hx; cases hx
      | some y =>
        rw [hc] at hx
        obtain ⟨cv, h1, h2⟩ := readAt_sound hr hc hx hB
        refine ⟨cv, ?_, h2⟩
        show (do let x ← asAddr (tmps.getD a undef); loadVar t x : Sem Value).run P w = _
        rw [hx', Sem.run_bind]
        simp only [asAddr, Sem.run_pure, Result.andThen_ok]
        exact h1
    · cases hx
theorem resL_sound {r : Tr AV} {h : Heap} {μ : Mu} {w : World} {tmps : Array Value} (hr : HR μ B0 h w) (hrr : RR μ r tmps) : ∀ (l : List ResultVar) {v : AV}, resL P l r h = some v →
    ∃ vs : List Value, l.length = vs.length ∧ VRL μ v vs ∧ ∀ (i : Nat) (x : ResultVar) (y : Value), l[i]? = some x → vs[i]? = some y → (resS tmps x).run P w = .ok y w
  | [], v, hv => by cases (show some AV.nil = some v from hv); exact ⟨[], rfl, rfl, by simp⟩
  | x :: l, v, hv => by
    change Option.casesOn (motive := fun _ => Option AV) (resA P x r h) none (fun v => Option.casesOn (motive := fun _ => Option AV) (resL P l r h) none (fun l => some (.cons v l))) = some v at hv
    cases h1 : resA P x r h with
    | none => rw [h1] at hv; cases hv
    | some v1 =>
      rw [h1] at hv
      cases h2 : resL P l r h with
      | none => simp only [h2] at hv; cases hv
      | some v2 =>
        simp only [h2] at hv
        cases hv
        obtain ⟨cv, h3, h4⟩ := resA_sound hr hrr h1
        obtain ⟨vs, h5, h6, h7⟩ := resL_sound hr hrr l h2
        refine ⟨cv :: vs, by simp [h5], ⟨cv, vs, rfl, h4, h6⟩, ?_⟩
        intro i x' y hi hj
        cases i with
        | zero => simp at hi hj; subst hi; subst hj; exact h3
        | succ i => exact h7 i x' y (by simpa using hi) (by simpa using hj)
theorem results_sound {fn : Func} {r : Tr AV} {h : Heap} {μ : Mu} {w : World} {tmps : Array Value} (hr : HR μ B0 h w) (hrr : RR μ r tmps) {l : AV} (hl : resL P fn.results.toList r h = some l) :
    ∃ cv, (results fn tmps).run P w = .ok cv w ∧ VR1 μ (resV l) cv := by
  obtain ⟨vs, h1, h2, h3⟩ := resL_sound hr hrr _ hl
  have hmap := run_arrayMapM (P := P) (w := w) (resS tmps) fn.results vs.toArray (by simpa using h1) (fun i x y hi hj => h3 i x y (by simpa using hi) (by simpa using hj))
  have hrun : ∀ u, (if h : vs.toArray.size = 1 then vs.toArray[0] else Value.tuple vs.toArray) = u → (results fn tmps).run P w = .ok u w := by
    intro u hu
    rw [results_eq, Sem.run_bind, hmap, Result.andThen_ok, Sem.run_pure, hu]
  have htup : l.len ≠ 1 → ∃ cv, (results fn tmps).run P w = .ok cv w ∧ VR1 μ (.tup l) cv := by
    intro hne
    refine ⟨.tuple vs.toArray, hrun _ ?_, ⟨vs.toArray, rfl, by simpa using h2⟩⟩
    rw [dif_neg]
    intro e
    exact hne (h2.len.trans (by simpa using e))
  cases l with
  | nil => exact htup (by intro e; change 0 = 1 at e; omega)
  | cons a t =>
    cases t with
    | nil =>
      obtain ⟨cv, s, rfl, h4, h5⟩ := h2
      cases (show s = [] from h5)
      exact ⟨cv, hrun _ (by simp), h4⟩
    | cons a2 t2 => exact htup (by intro e; change Nat.succ (Nat.succ t2.len) = 1 at e; omega)
    | _ => obtain ⟨_, _, _, _, h6⟩ := h2; exact h6.elim
  | _ => exact h2.elim

/-- The arguments lie in the first slots. -/
theorem argsR_spec {μ : Mu} {nt : Nat} : ∀ {as : AV} {i : Nat} {r r' : Tr AV} {vs : List Value}, argsR as i nt r = some r' → VRL μ as vs →
    (vs = [] ∨ i + vs.length ≤ nt) ∧ ∀ k v, r'.get (pathOf k) = some v → (i ≤ k ∧ ∃ cv, vs[k - i]? = some cv ∧ VR1 μ v cv) ∨ r.get (pathOf k) = some v := by
  intro as
  induction as with
  | nil => intro i r r' vs h hv; cases (show vs = [] from hv); cases (show some r = some r' from h); exact ⟨.inl rfl, fun k v e => .inr e⟩
  | cons a t iha iht =>
    intro i r r' vs h hv
    obtain ⟨cv, s, rfl, h1, h2⟩ := hv
    change Bool.casesOn (motive := fun _ => Option (Tr AV)) (natLt i nt) none (argsR t (Nat.succ i) nt (r.set a (pathOf i))) = some r' at h
    cases hl : natLt i nt with
    | false => rw [hl] at h; cases h
    | true =>
      rw [hl] at h
      have hlt := natLt_iff.1 hl
      obtain ⟨h3, h4⟩ := iht h h2
      refine ⟨.inr ?_, ?_⟩
      · rcases h3 with rfl | h3
        · simp; omega
        · simp only [List.length_cons]; omega
      · intro k v e
        rcases h4 k v e with ⟨h5, u, h6, h7⟩ | h5
        · refine .inl ⟨by omega, u, ?_, h7⟩
          rw [show k - i = (k - Nat.succ i) + 1 by omega]; simpa using h6
        · rw [Tr.get_set] at h5
          by_cases hk : k = i
          · subst hk; rw [if_pos rfl] at h5; cases h5; exact .inl ⟨Nat.le_refl _, cv, by simp, h1⟩
          · rw [if_neg (fun e => hk (pathOf_inj e))] at h5; exact .inr h5
  | _ => intro i r r' vs h hv; exact hv.elim

theorem enter_eq {f : FuncId} {fn : Func} {c : Code} {cargs : Array Value} (hfn : P.funcs[f]? = some fn) (hb : fn.body = some c) :
    Frame.enter P f cargs .normal = (Frame.enter P f cargs .normal).atR ⟨cargs ++ Array.replicate (fn.ntmps - cargs.size) undef, []⟩ [.code c] := by
  simp [Frame.enter, Frame.atR, hfn, hb]

theorem sub_start {fr fr2 : Frame} {cs : List Frame} {w : World} {m : Machine} (e : fr = fr2) (h : Steps P (lone fr2 cs w) m) : Steps P (lone fr cs w) m := by rw [e]; exact h
theorem callFn_sound (hm : P.follows .mixedOrders = true) (hcl : Callable P) {call : Tgt → AV → Heap → CR} (hcall : CallOK P B0 call) {fuel : Nat} {f : FuncId} {as : AV} {h h' : Heap} {v : AV} (hc : callFnA P f as h call fuel = .ret v h') {μ : Mu} {w : World} (hr : HR μ B0 h w) :
    (∀ cargs : Array Value, (callFunc f cargs).run P w = .ok (.enter f cargs) w) ∧ ∀ cargs : Array Value, VRL μ as cargs.toList →
        Calls P f cargs w fun e w' => ∃ cv μ', e = .returned cv ∧ VR1 μ' v cv ∧ Post μ B0 h w μ' h' w' := by
  unfold callFnA at hc
  cases hfn : P.funcs[f]? with
  | none => rw [hfn] at hc; cases hc
  | some fn =>
    rw [hfn] at hc
    simp only at hc
    cases hb : fn.body with
    | none => rw [hb] at hc; cases hc
    | some c =>
      rw [hb] at hc
      simp only at hc
      refine ⟨fun cargs => hcl f fn cargs w hfn (by rw [hb]; rfl), ?_⟩
      intro cargs hargs
      cases har : argsR as 0 fn.ntmps .leaf with
      | none => rw [har] at hc; cases hc
      | some r =>
        rw [har] at hc
        simp only at hc
        obtain ⟨hlen, hget⟩ := argsR_spec har hargs
        have hsz : cargs.size ≤ fn.ntmps := by
          rcases hlen with e | e
          · have : cargs.size = 0 := by rw [← Array.length_toList, e]; rfl
            omega
          · rw [Array.length_toList] at e; omega
        have hRR : RR μ r (cargs ++ Array.replicate (fn.ntmps - cargs.size) undef) := by
          intro k u hk
          rcases hget k u hk with ⟨_, cv, h1, h2⟩ | h1
          · refine ⟨cv, ?_, h2⟩
            have h1 : cargs[k]? = some cv := by simpa using h1
            obtain ⟨hlt, _⟩ := Array.getElem?_eq_some_iff.1 h1
            rw [Array.getElem?_append_left hlt]; exact h1
          · cases h1
        have hAR : AR μ fn.ntmps r [] ⟨cargs ++ Array.replicate (fn.ntmps - cargs.size) undef, []⟩ := ⟨hRR, by simp; omega, trivial⟩
        have hFR : FR μ ⟨P, f, fn.ntmps, none, call, fuel⟩ (Frame.enter P f cargs .normal) := ⟨rfl, rfl, rfl⟩
        have hcode := code_sound (cx := ⟨P, f, fn.ntmps, none, call, fuel⟩) hm rfl hcall c r [] h μ w (Frame.enter P f cargs .normal) _ hr hAR hFR
        have fin : ∀ (r1 : Tr AV) (m1 : List Pos) (h1 : Heap) (μ1 : Mu) (a1 : Act) (w1 : World) (k1 : List Item) (cs : List Frame), leaveA P fn r1 m1 h1 = .ret v h' → Post μ B0 h w μ1 h1 w1 → AR μ1 fn.ntmps r1 m1 a1 →
            Steps P (lone (Frame.enter P f cargs .normal) cs w) (lone { (Frame.enter P f cargs .normal).atR a1 k1 with mode := .returning } cs w1) →
            ∃ e w' fr, (∃ cv μ', e = Ending.returned cv ∧ VR1 μ' v cv ∧ Post μ B0 h w μ' h' w') ∧ Comes P (lone (Frame.enter P f cargs .normal) cs w) (lone fr cs w') e ∧ fr.fn = f ∧ fr.leaving P w' e := by
          intro r1 m1 h1 μ1 a1 w1 k1 cs hl hp ha hs
          unfold leaveA at hl
          cases ht : takeMarks m1 h1 with
          | none => rw [ht] at hl; cases hl
          | some h2 =>
            rw [ht] at hl
            simp only at hl
            cases hres : resL P fn.results.toList r1 h2 with
            | none => rw [hres] at hl; cases hl
            | some l =>
              rw [hres] at hl
              cases hl
              obtain ⟨w2, hp2, hs2⟩ := marks_sound (P := P) m1 { (Frame.enter P f cargs .normal).atR a1 k1 with mode := .returning } cs hp.rel ha.dr ht rfl
              obtain ⟨cv, hrun, hv⟩ := results_sound (fn := fn) hp2.rel ha.rr hres
              exact ⟨.returned cv, w2, _, ⟨cv, μ1, rfl, hv, hp.trans hp2⟩, hs.trans hs2, rfl, rfl, rfl, rfl, fn, hfn, hrun⟩
        intro cs
        have heq := enter_eq (P := P) (cargs := cargs) hfn hb
        cases hx : xCode c ⟨P, f, fn.ntmps, none, call, fuel⟩ r [] h with
        | fail => rw [hx] at hc; cases hc
        | exit i r1 m1 h1 => rw [hx] at hc; cases hc
        | ok r1 m1 h1 =>
          rw [hx] at hc hcode
          obtain ⟨μ1, a1, w1, hp, ha, hs⟩ := hcode [] cs
          have hs := sub_start heq hs
          exact fin r1 m1 h1 μ1 a1 w1 [] cs hc hp ha (hs.trans (.one (stepR_end rfl)))
        | ret r1 m1 h1 =>
          rw [hx] at hc hcode
          obtain ⟨μ1, a1, w1, hp, ha, k', hs⟩ := hcode [] cs
          have hs := sub_start heq hs
          exact fin r1 m1 h1 μ1 a1 w1 _ cs hc hp ha (hs.trans (.one (stepR_ret rfl)))

/-! ### Rounds -/
/-- The parameters of a round, as the machine lays them. -/
theorem roundR_spec {μ : Mu} {nt : Nat} : ∀ (ps : List Tmp) {as : AV} {r r' : Tr AV} {vs : List Value} {tmps : Array Value}, roundR ps as nt r = some r' → VRL μ as vs → RR μ r tmps → tmps.size = nt →
    ps.length = vs.length ∧ RR μ r' ((ps.zip vs).foldl (fun tmps x => tmps.setIfInBounds x.1 x.2) tmps) ∧ ((ps.zip vs).foldl (fun tmps x => tmps.setIfInBounds x.1 x.2) tmps).size = nt
  | [], as, r, r', vs, tmps, h, hv, hr, hs => by
    cases as with
    | nil => cases (show some r = some r' from h); cases (show vs = [] from hv); exact ⟨rfl, hr, hs⟩
    | _ => cases h
  | p :: ps, as, r, r', vs, tmps, h, hv, hr, hs => by
    cases as with
    | cons a t =>
      obtain ⟨cv, s, rfl, h1, h2⟩ := hv
      change Bool.casesOn (motive := fun _ => Option (Tr AV)) (natLt p nt) none (roundR ps t nt (r.set a (pathOf p))) = some r' at h
      cases hl : natLt p nt with
      | false => rw [hl] at h; cases h
      | true =>
        rw [hl] at h
        have hp : putR (some p) nt a r = some (r.set a (pathOf p)) := by unfold putR; simp only [hl]
        obtain ⟨g1, g2, _⟩ := putR_sound hp (a := ⟨tmps, []⟩) hr hs h1
        obtain ⟨g3, g4, g5⟩ := roundR_spec ps h h2 g1 g2
        exact ⟨by simp [g3], g4, g5⟩
    | _ => cases h

theorem jumpOf_isNone (j : Option (Option Nat)) : (jumpOf j).isNone = Option.casesOn (motive := fun _ => Bool) j true (fun _ => false) := by
  cases j with
  | none => rfl
  | some x => cases x <;> rfl

/-- The end of a round. -/
theorem endRoundA_sound {id : Pos} {B : Blk} {jump : Option (Option Nat)} {h h' : Heap} {v : AV} {μ : Mu} {w : World} (hid : μ id = some B) (hr : HR μ B0 h w) (he : endRoundA id jump h = .ret v h') :
    ∃ cv w', (Instr.endRound B.b (jumpOf jump)).run P w = .ok cv w' ∧ VR1 μ v cv ∧ Post μ B0 h w μ h' w' := by
  unfold endRoundA at he
  split at he
  · rename_i ready pend fn regs nt ps as bd dfr hg
    obtain ⟨l, h1, h2, _, h3, h4, h5, h6, h7, h8, h9, D, h10, h11⟩ := hr.obj id B _ hid hg
    cases he
    have hlt := (Array.getElem?_eq_some_iff.1 h1).1
    refine ⟨_, _, run_endRound (jumpOf jump) h1, ?_, ?_⟩
    · rw [jumpOf_isNone]; rfl
    · refine putPost hr id B hid _ _ hg rfl rfl _ ⟨_, World.putObj_heap_same hlt, ?_, (fun _ _ => trivial), rfl, h4, h5, h6, h7, h8, h9, D, h10, h11⟩
      show (if (jumpOf jump).isNone then LoopState.ready else LoopState.done) = _
      rw [jumpOf_isNone]
      cases jump <;> rfl
  · cases he

theorem round_eq (l : Nat) (fn : FuncId) (tmps : Array Value) (assign body : Code) : Frame.round l fn tmps assign body .normal = (Frame.round l fn tmps assign body .normal).atR ⟨tmps, []⟩ [.code assign, .beginRound, .code body] := rfl

theorem round_sound (hm : P.follows .mixedOrders = true) {call : Tgt → AV → Heap → CR} (hcall : CallOK P B0 call) {fuel : Nat} {id : Pos} {as : AV} {h h' : Heap} {v : AV} (hc : roundA P id as h call fuel = .ret v h') {μ : Mu} {w : World} (hr : HR μ B0 h w) :
    ∀ B, μ id = some B → ∀ cargs : Array Value, VRL μ as cargs.toList → ∃ fn tmps assign body, (Instr.yield B.b cargs).run P w = .ok (.round B.b fn tmps assign body) w ∧
        ∀ (c : Frame) (cs : List Frame), ∃ cv μ' w', VR1 μ' v cv ∧ Post μ B0 h w μ' h' w' ∧ Steps P (lone (Frame.round B.b fn tmps assign body .normal) (c :: cs) w) (lone (c.finish cv) cs w') := by
  intro B hB cargs hargs
  unfold roundA at hc
  split at hc
  · rename_i ready pend fn regs nt ps assign body dfr hg
    obtain ⟨l, h1, h2, _, h3, h4, h5, h6, h7, h8, h9, D, h10, h11⟩ := hr.obj id B _ hB hg
    cases ready with
    | false => cases hc
    | true =>
      simp only at hc
      cases hrr : roundR ps.toList as nt regs with
      | none => rw [hrr] at hc; cases hc
      | some r =>
        rw [hrr] at hc
        simp only at hc
        obtain ⟨g1, g2, g3⟩ := roundR_spec ps.toList hrr hargs h5 h6
        subst h7; subst h8; subst h9; subst h4
        have hyield := run_yield (P := P) (args := cargs) h1 (by have := g1; simp only [Array.length_toList] at this; omega)
        refine ⟨_, _, _, _, hyield, ?_⟩
        intro c cs
        have hfold : (l.params.zip cargs).foldl (fun tmps (x : Tmp × Value) => tmps.setIfInBounds x.1 x.2) l.tmps = (l.params.toList.zip cargs.toList).foldl (fun tmps x => tmps.setIfInBounds x.1 x.2) l.tmps := by
          rw [← Array.foldl_toList, Array.toList_zip]
        have hAR : AR μ nt r [] ⟨(l.params.zip cargs).foldl (fun tmps (x : Tmp × Value) => tmps.setIfInBounds x.1 x.2) l.tmps, []⟩ := by rw [hfold]; exact ⟨g2, g3, trivial⟩
        revert hAR
        show AR μ nt r [] ⟨(l.params.zip cargs).foldl (fun tmps (x : Tmp × Value) => tmps.setIfInBounds x.1 x.2) l.tmps, []⟩ → ∃ cv μ' w', VR1 μ' v cv ∧ Post μ B0 h w μ' h' w' ∧ Steps P (lone (Frame.round B.b l.fn ((l.params.zip cargs).foldl (fun tmps (x : Tmp × Value) => tmps.setIfInBounds x.1 x.2) l.tmps) l.assign l.body .normal) (c :: cs) w) (lone (c.finish cv) cs w')
        generalize (l.params.zip cargs).foldl (fun tmps (x : Tmp × Value) => tmps.setIfInBounds x.1 x.2) l.tmps = T
        intro hAR
        have hFR : FR μ ⟨P, l.fn, nt, some id, call, fuel⟩ (Frame.round B.b l.fn T l.assign l.body .normal) := ⟨rfl, rfl, B, hB, rfl⟩
        have hcode := code_sound (cx := ⟨P, l.fn, nt, some id, call, fuel⟩) hm rfl hcall l.assign r [] h μ w _ _ hr hAR hFR
        cases hx : xCode l.assign ⟨P, l.fn, nt, some id, call, fuel⟩ r [] h with
        | fail => rw [hx] at hc; cases hc
        | exit i r1 m1 h1' => rw [hx] at hc; cases hc
        | ret r1 m1 h1' => rw [hx] at hc; cases hc
        | ok r1 m1 hh1 =>
          rw [hx] at hc hcode
          obtain ⟨μ1, a1, w1, hp1, ha1, hs1⟩ := hcode [.beginRound, .code l.body] (c :: cs)
          have hB1 : μ1 id = some B := hp1.mu hr _ _ hB
          change ranRoundA (beginRoundA id hh1 (fun h => xCode l.body ⟨P, l.fn, nt, some id, call, fuel⟩ r1 m1 h)) id = .ret v h' at hc
          unfold beginRoundA at hc
          split at hc
          · rename_i ready2 pend2 fn2 regs2 nt2 ps2 as2 bd2 dfr2 hg2
            obtain ⟨l2, k1, k2, _, k3, k4, k5, k6, k7, k8, k9, D2, k10, k11⟩ := hp1.rel.obj id B _ hB1 hg2
            cases ready2 with
            | false => cases hc
            | true =>
              cases pend2 with
              | some _ => cases hc
              | none =>
                simp only at hc
                have hlt2 := (Array.getElem?_eq_some_iff.1 k1).1
                have hbegin := run_beginRound (P := P) k1 k2
                have hp2 := putPost hp1.rel id B hB1 _ (.loop false none fn2 regs2 nt2 ps2 as2 bd2 dfr2) hg2 rfl rfl (.loop { l2 with state := .busy }) ⟨_, World.putObj_heap_same hlt2, rfl, (fun _ _ => trivial), k3, k4, k5, k6, k7, k8, k9, D2, k10, k11⟩
                have hcode2 := code_sound (cx := ⟨P, l.fn, nt, some id, call, fuel⟩) hm rfl hcall l.body r1 m1 _ μ1 _ (Frame.round B.b l.fn T l.assign l.body .normal) a1 hp2.rel ha1 (hFR.mono (hp1.mu hr))
                have hs2 := (sub_start (round_eq B.b l.fn T l.assign l.body) hs1).trans (.one (stepR_beginRound (P := P) (b := Frame.round B.b l.fn T l.assign l.body .normal) (a := a1) (k := [.code l.body]) (cs := c :: cs) rfl hbegin))
                cases hx2 : xCode l.body ⟨P, l.fn, nt, some id, call, fuel⟩ r1 m1 ⟨hh1.t.set (.loop false none fn2 regs2 nt2 ps2 as2 bd2 dfr2) id, hh1.n⟩ with
                | fail => rw [hx2] at hc; cases hc
                | ok r3 m3 hh3 =>
                  rw [hx2] at hc hcode2
                  obtain ⟨μ3, a3, w3, hp3, ha3, hs3⟩ := hcode2 [] (c :: cs)
                  cases m3 with
                  | cons _ _ => cases hc
                  | nil =>
                    have hB3 := hp3.mu hp2.rel _ _ hB1
                    obtain ⟨cv, w4, hrun, hv, hp4⟩ := endRoundA_sound (P := P) (jump := none) hB3 hp3.rel hc
                    exact ⟨cv, μ3, w4, hv, ((hp1.trans hp2).trans hp3).trans hp4, (hs2.trans hs3).trans (.one (stepR_round_end rfl rfl hrun))⟩
                | exit i r3 m3 hh3 =>
                  rw [hx2] at hc hcode2
                  obtain ⟨μ3, a3, w3, hp3, ha3, k', hk', hs3⟩ := hcode2 [] (c :: cs)
                  cases m3 with
                  | cons _ _ => cases hc
                  | nil =>
                    have hB3 := hp3.mu hp2.rel _ _ hB1
                    obtain ⟨cv, w4, hrun, hv, hp4⟩ := endRoundA_sound (P := P) (jump := some (some i)) hB3 hp3.rel hc
                    exact ⟨cv, μ3, w4, hv, ((hp1.trans hp2).trans hp3).trans hp4, (hs2.trans hs3).trans (.one (stepR_round_exit rfl rfl hk' hrun))⟩
                | ret r3 m3 hh3 =>
                  rw [hx2] at hc hcode2
                  obtain ⟨μ3, a3, w3, hp3, ha3, k', hs3⟩ := hcode2 [] (c :: cs)
                  cases m3 with
                  | cons _ _ => cases hc
                  | nil =>
                    have hB3 := hp3.mu hp2.rel _ _ hB1
                    obtain ⟨cv, w4, hrun, hv, hp4⟩ := endRoundA_sound (P := P) (jump := some none) hB3 hp3.rel hc
                    exact ⟨cv, μ3, w4, hv, ((hp1.trans hp2).trans hp3).trans hp4, (hs2.trans hs3).trans (.one (stepR_round_ret rfl rfl hrun))⟩
          · cases hc
  · cases hc

/-- EVERY CALL AND EVERY ROUND. -/
theorem callN_sound (hm : P.follows .mixedOrders = true) (hcl : Callable P) (fuel : Nat) : ∀ n, CallOK P B0 (callN P fuel n)
  | 0 => fun t as h v h' hc => by cases hc
  | n + 1 => fun t as h v h' hc μ w hr => by
    cases t with
    | fn f => exact callFn_sound hm hcl (callN_sound hm hcl fuel n) hc hr
    | rd id => exact round_sound hm (callN_sound hm hcl fuel n) hc hr
end Go.Ev
