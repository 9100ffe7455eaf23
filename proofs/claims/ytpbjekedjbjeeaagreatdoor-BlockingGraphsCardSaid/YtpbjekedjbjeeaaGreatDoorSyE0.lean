/- A call told in place: what its code comes to where the caller's memory stands (a slice of the caller's may be written). -/
import Derived.Test.YtpbjekedjbjeeaaGreatDoorSyBig
import Derived.Test.YtpbjekedjbjeeaaGreatDoorSyUn
namespace Go.Sy
open Go.RowKit
set_option linter.unusedVariables false
set_option linter.unusedSectionVars false
/-- The same tables; so many names stay. -/
abbrev tbK (T : Tabs) (k : Nat) : Tabs := ⟨T.l, k⟩
section
variable [Tabs] {P : Program} {B0 : Nat}
noncomputable section
/-- Some blocks, as they are said to be. -/
def HasH (h : Heap) : List (Pos × AO) → Prop
  | [] => True
  | x :: l => h.t.get x.1 = some x.2 ∧ HasH h l
/-- The end of a call told in place. -/
def FinI (P : Program) (fn : Func) (v : AV) (H : List (Pos × AO)) (N : Pos) : KC := fun r m h => fM (takeMarks m h) fun h2 => fLo (resL P fn.results.toList r h2) fun l => resV l = v ∧ Nat.ble h2.n.toNat N.toNat = true ∧ HasH h2 H
end
theorem HasH_mem {h : Heap} : ∀ {H : List (Pos × AO)}, HasH h H → ∀ x ∈ H, h.t.get x.1 = some x.2
  | y :: l, hh, x, hx => by
    rcases List.mem_cons.1 hx with rfl | hx
    · exact hh.1
    · exact HasH_mem hh.2 x hx
theorem FinI_iff {fn : Func} {v : AV} {H : List (Pos × AO)} {N : Pos} {r : Tr AV} {m : List Pos} {h : Heap} (hf : FinI P fn v H N r m h) :
    ∃ h2 l, takeMarks m h = some h2 ∧ resL P fn.results.toList r h2 = some l ∧ resV l = v ∧ h2.n.toNat ≤ N.toNat ∧ ∀ x ∈ H, h2.t.get x.1 = some x.2 := by
  unfold FinI at hf
  cases h1 : takeMarks m h with
  | none => rw [h1] at hf; exact hf.elim
  | some h2 =>
    rw [h1] at hf
    change fLo (resL P fn.results.toList r h2) (fun l => resV l = v ∧ Nat.ble h2.n.toNat N.toNat = true ∧ HasH h2 H) at hf
    cases h3 : resL P fn.results.toList r h2 with
    | none => rw [h3] at hf; exact hf.elim
    | some l =>
      rw [h3] at hf
      obtain ⟨g1, g2, g3⟩ := hf
      exact ⟨h2, l, rfl, h3, g1, Nat.le_of_ble_eq_true g2, HasH_mem g3⟩
theorem HR.lessN {μ : Mu} {h : Heap} {w : World} (hr : HR μ B0 h w) (t : Tr AO) (n' : Pos) (hn : h.n.toNat ≤ n'.toNat) (key : ∀ q p, t.get q = some p → h.t.get q = some p) : HR μ B0 ⟨t, n'⟩ w :=
  ⟨fun id B e => Nat.lt_of_lt_of_le (hr.fresh id B e) hn, fun q o e => Nat.lt_of_lt_of_le (hr.live q o (key q o e)) hn, fun q B o e1 e2 => hr.obj q B o e1 (key q o e2), fun i j A C p q hij e1 e2 e3 e4 => hr.sep i j A C p q hij e1 e2 (key _ _ e3) (key _ _ e4),
    fun q B o e1 e2 e3 => hr.own q B o e1 (key _ _ e2) e3, hr.glob, hr.size, hr.sld, fun q B o e1 e2 e3 => hr.apart q B o e1 (key _ _ e2) e3, hr.tab⟩
/-- WHAT A CALL TOLD IN PLACE COMES TO. -/
theorem inl_call (hcl : Callable P) {f : FuncId} {fn : Func} {c : Code} (hf : P.funcs[f]? = some fn) (hb : fn.body = some c) {as v : AV} {r : Tr AV} (har : argsR as 0 fn.ntmps .leaf = some r) {call : Tgt → AV → Heap → CR} {h0 : Heap} {H : List (Pos × AO)} {N : Pos}
    (hk : h0.n.toNat = 64 + Tabs.k) (hN : h0.n.toNat ≤ N.toNat) (hw : Cw P B0 ⟨P, f, fn.ntmps, none, call, 0⟩ c r [] h0 (QK (FinI P fn v H N) (FinI P fn v H N) (fun _ _ _ _ => False))) {μ : Mu} {w : World} (hr0 : HR μ B0 h0 w) :
    (∀ cargs : Array Value, (callFunc f cargs).run P w = .ok (.enter f cargs) w) ∧ ∀ cargs : Array Value, VRL μ as cargs.toList →
      Calls P f cargs w fun e w' => ∃ cv μ', e = .returned cv ∧ VR1 μ' v cv ∧ Post μ B0 h0 w μ' ⟨heapT H, N⟩ w' := by
  refine ⟨fun cargs => hcl f fn cargs w hf (by rw [hb]; rfl), fun cargs hargs => ?_⟩
  obtain ⟨hlen', hget⟩ := argsR_spec har hargs
  have hsz : cargs.size ≤ fn.ntmps := by
    rcases hlen' with e | e
    · have : cargs.size = 0 := by rw [← Array.length_toList, e]; rfl
      omega
    · rw [Array.length_toList] at e; omega
  have hRR : RR μ r (cargs ++ Array.replicate (fn.ntmps - cargs.size) undef) := by
    intro k u hk
    rcases hget k u hk with ⟨_, cv, h1, h2⟩ | h1
    · refine ⟨cv, ?_, h2⟩
      have h1 : cargs[k]? = some cv := by simpa using h1
      obtain ⟨hlt, _⟩ := Array.getElem?_eq_some_iff.1 h1
      rw [Array.getElem?_append_left hlt]; exact h1
    · cases h1
  have hAR : AR μ fn.ntmps r [] ⟨cargs ++ Array.replicate (fn.ntmps - cargs.size) undef, []⟩ := ⟨hRR, by simp; omega, trivial⟩
  have fin : ∀ (r1 : Tr AV) (m1 : List Pos) (h1 : Heap) (μ1 : Mu) (a1 : Act) (w1 : World) (k1 : List Item) (cs : List Frame), FinI P fn v H N r1 m1 h1 → Aft μ h0.n B0 w μ1 h1 w1 → AR μ1 fn.ntmps r1 m1 a1 →
      Steps P (lone (Frame.enter P f cargs .normal) cs w) (lone { (Frame.enter P f cargs .normal).atR a1 k1 with mode := .returning } cs w1) →
      ∃ e w' fr, (∃ (cv : Value) (μ' : Mu), e = Ending.returned cv ∧ VR1 μ' v cv ∧ Post μ B0 h0 w μ' ⟨heapT H, N⟩ w') ∧ Comes P (lone (Frame.enter P f cargs .normal) cs w) (lone fr cs w') e ∧ fr.fn = f ∧ fr.leaving P w' e := by
    intro r1 m1 h1 μ1 a1 w1 k1 cs hfin hp ha hs1
    obtain ⟨h2, l, htm, hres, hv, hn2, hH⟩ := FinI_iff hfin
    obtain ⟨w2, hp2, hs2⟩ := marks_sound (P := P) m1 { (Frame.enter P f cargs .normal).atR a1 k1 with mode := .returning } cs hp.rel ha.dr htm rfl
    obtain ⟨cv, hrun, hcv⟩ := results_sound (fn := fn) hp2.rel ha.rr hres
    rw [hv] at hcv
    have hkeep := (hp.seals.keep (by omega)).1
    refine ⟨.returned cv, w2, _, ⟨cv, μ1, rfl, hcv, ⟨fun id hid => hkeep id (natLt_iff.2 (show id.toNat < 64 + Tabs.k by omega)), hN, hp2.rel.lessN _ _ hn2 (fun q p e => hH (q, p) (heapT_get e)), hp.below.trans hp2.below, hp.seals.g.trans hp2.seals⟩⟩, hs1.trans hs2, rfl, rfl, rfl, rfl, fn, hf, hrun⟩
  intro cs
  have heq := enter_eq (P := P) (cargs := cargs) hf hb
  have hFR : FR0 ⟨P, f, fn.ntmps, none, call, 0⟩ (Frame.enter P f cargs .normal) := ⟨rfl, rfl, rfl⟩
  obtain ⟨x, hq, hx⟩ := hw μ w (Frame.enter P f cargs .normal) _ [] cs hr0 hAR hFR
  cases x with
  | fail => exact hx.elim
  | exit i r1 m1 h1 => exact hq.elim
  | ok r1 m1 h1 =>
    obtain ⟨μ1, a1, w1, hp, ha, hs1⟩ := hx
    have hs1 := sub_start heq hs1
    exact fin r1 m1 h1 μ1 a1 w1 [] cs hq hp ha (hs1.trans (.one (stepR_end rfl)))
  | ret r1 m1 h1 =>
    obtain ⟨μ1, a1, w1, hp, ha, k', hs1⟩ := hx
    have hs1 := sub_start heq hs1
    exact fin r1 m1 h1 μ1 a1 w1 _ cs hq hp ha (hs1.trans (.one (stepR_ret rfl)))
end
/-! ### A call at one state, and others -/
theorem HR.tabs (T T' : Tabs) (e : T.l = T'.l) {μ : Mu} {B0 : Nat} {h : Heap} {w : World} (hr : @HR T μ B0 h w) : @HR T' μ B0 h w :=
  @HR.mk T' μ B0 h w (@HR.fresh T _ _ _ _ hr) (@HR.live T _ _ _ _ hr) (@HR.obj T _ _ _ _ hr) (@HR.sep T _ _ _ _ hr) (@HR.own T _ _ _ _ hr) (@HR.glob T _ _ _ _ hr) (@HR.size T _ _ _ _ hr) (@HR.sld T _ _ _ _ hr) (@HR.apart T _ _ _ _ hr) (by rw [← e]; exact @HR.tab T _ _ _ _ hr)
theorem Post.tabs (T T' : Tabs) (e : T.l = T'.l) {μ μ' : Mu} {B0 : Nat} {h h' : Heap} {w w' : World} (p : @Post T μ B0 h w μ' h' w') : @Post T' μ B0 h w μ' h' w' :=
  @Post.mk T' μ B0 h w μ' h' w' (@Post.ext T _ _ _ _ _ _ _ p) (@Post.le T _ _ _ _ _ _ _ p) (HR.tabs T T' e (@Post.rel T _ _ _ _ _ _ _ p)) (@Post.below T _ _ _ _ _ _ _ p) (@Post.seals T _ _ _ _ _ _ _ p)
open Classical in
/-- One call at one state is known; others by a table. -/
noncomputable def callI (f0 : FuncId) (as0 : AV) (h0 : Heap) (v0 : AV) (h1 : Heap) (call : Tgt → AV → Heap → CR) : Tgt → AV → Heap → CR := fun t as h => if t = .fn f0 ∧ as = as0 ∧ h = h0 then .ret v0 h1 else call t as h
theorem callI_hit {f0 : FuncId} {as0 : AV} {h0 : Heap} {v0 : AV} {h1 : Heap} {call : Tgt → AV → Heap → CR} : callI f0 as0 h0 v0 h1 call (.fn f0) as0 h0 = .ret v0 h1 := if_pos ⟨rfl, rfl, rfl⟩
theorem callI_miss {f0 f : FuncId} (hne : f ≠ f0) {as0 as : AV} {h0 h : Heap} {v0 : AV} {h1 : Heap} {call : Tgt → AV → Heap → CR} : callI f0 as0 h0 v0 h1 call (.fn f) as h = call (.fn f) as h := if_neg (fun e => hne (by injection e.1))
theorem callI_ok {T : Tabs} {P : Program} {B0 : Nat} (hcl : Callable P) (k : Nat) {call call' : Tgt → AV → Heap → CR} (hcall : @CallOK T P B0 call) {f : FuncId} {fn : Func} {c : Code} (hf : P.funcs[f]? = some fn) (hb : fn.body = some c) {as v : AV} {r : Tr AV} (har : argsR as 0 fn.ntmps .leaf = some r)
    {h0 : Heap} {H : List (Pos × AO)} {N : Pos} (hk : h0.n.toNat = 64 + k) (hN : h0.n.toNat ≤ N.toNat)
    (hw : @Cw (tbK T k) P B0 ⟨P, f, fn.ntmps, none, call', 0⟩ c r [] h0 (QK (FinI P fn v H N) (FinI P fn v H N) (fun _ _ _ _ => False))) : @CallOK T P B0 (callI f as h0 v ⟨heapT H, N⟩ call) := by
  intro t as' h v' h' e μ w hr
  unfold callI at e
  split at e
  · rename_i hx
    obtain ⟨rfl, rfl, rfl⟩ := hx
    cases e
    obtain ⟨g1, g2⟩ := @inl_call (tbK T k) P B0 hcl f fn c hf hb as' v r har call' h H N hk hN hw μ w (HR.tabs T (tbK T k) rfl hr)
    refine ⟨g1, fun cargs hargs => (g2 cargs hargs).mono fun e w' hx => ?_⟩
    obtain ⟨cv, μ', h1, h2, h3⟩ := hx
    exact ⟨cv, μ', h1, h2, Post.tabs (tbK T k) T rfl h3⟩
  · exact hcall t as' h v' h' e μ w hr
/-! ### Where tables are known, too -/
theorem HR.weak {T T0 : Tabs} (e : T0.l = []) {μ : Mu} {B0 : Nat} {h : Heap} {w : World} (hr : @HR T μ B0 h w) : @HR T0 μ B0 h w :=
  @HR.mk T0 μ B0 h w (@HR.fresh T _ _ _ _ hr) (@HR.live T _ _ _ _ hr) (@HR.obj T _ _ _ _ hr) (@HR.sep T _ _ _ _ hr) (@HR.own T _ _ _ _ hr) (@HR.glob T _ _ _ _ hr) (@HR.size T _ _ _ _ hr) (@HR.sld T _ _ _ _ hr) (@HR.apart T _ _ _ _ hr) (by rw [e]; intro i x hi; simp at hi)
theorem HR.withTab {T T0 : Tabs} {μ : Mu} {B0 : Nat} {h : Heap} {w : World} (hr : @HR T0 μ B0 h w) (ht : TabS μ.s T.l) : @HR T μ B0 h w :=
  @HR.mk T μ B0 h w (@HR.fresh T0 _ _ _ _ hr) (@HR.live T0 _ _ _ _ hr) (@HR.obj T0 _ _ _ _ hr) (@HR.sep T0 _ _ _ _ hr) (@HR.own T0 _ _ _ _ hr) (@HR.glob T0 _ _ _ _ hr) (@HR.size T0 _ _ _ _ hr) (@HR.sld T0 _ _ _ _ hr) (@HR.apart T0 _ _ _ _ hr) ht
theorem Post.withTab {T T0 : Tabs} {μ μ' : Mu} {B0 : Nat} {h h' : Heap} {w w' : World} (hr : @HR T μ B0 h w) (p : @Post T0 μ B0 h w μ' h' w') : @Post T μ B0 h w μ' h' w' :=
  @Post.mk T μ B0 h w μ' h' w' (@Post.ext T0 _ _ _ _ _ _ _ p) (@Post.le T0 _ _ _ _ _ _ _ p) (HR.withTab (@Post.rel T0 _ _ _ _ _ _ _ p) (TabS.mono (@Post.seals T0 _ _ _ _ _ _ _ p).le (@HR.tab T _ _ _ _ hr))) (@Post.below T0 _ _ _ _ _ _ _ p) (@Post.seals T0 _ _ _ _ _ _ _ p)
theorem callI_okT {T T0 : Tabs} (e0 : T0.l = []) {P : Program} {B0 : Nat} (hcl : Callable P) (k : Nat) {call call' : Tgt → AV → Heap → CR} (hcall : @CallOK T P B0 call) {f : FuncId} {fn : Func} {c : Code} (hf : P.funcs[f]? = some fn) (hb : fn.body = some c) {as v : AV} {r : Tr AV} (har : argsR as 0 fn.ntmps .leaf = some r)
    {h0 : Heap} {H : List (Pos × AO)} {N : Pos} (hk : h0.n.toNat = 64 + k) (hN : h0.n.toNat ≤ N.toNat)
    (hw : @Cw (tbK T0 k) P B0 ⟨P, f, fn.ntmps, none, call', 0⟩ c r [] h0 (QK (FinI P fn v H N) (FinI P fn v H N) (fun _ _ _ _ => False))) : @CallOK T P B0 (callI f as h0 v ⟨heapT H, N⟩ call) := by
  intro t as' h v' h' e μ w hr
  unfold callI at e
  split at e
  · rename_i hx
    obtain ⟨rfl, rfl, rfl⟩ := hx
    cases e
    obtain ⟨g1, g2⟩ := @inl_call (tbK T0 k) P B0 hcl f fn c hf hb as' v r har call' h H N hk hN hw μ w (HR.weak (T0 := tbK T0 k) e0 hr)
    refine ⟨g1, fun cargs hargs => (g2 cargs hargs).mono fun e w' hx => ?_⟩
    obtain ⟨cv, μ', h1, h2, h3⟩ := hx
    exact ⟨cv, μ', h1, h2, Post.withTab hr h3⟩
  · exact hcall t as' h v' h' e μ w hr
end Go.Sy
/- Steps of a walk, with what is plain closed by itself. -/
namespace Go.Sy
open Go.RowKit
set_option linter.unusedVariables false
set_option linter.unusedSectionVars false
theorem nx {P Q : Prop} (q : Q) (p : P := by first | exact ⟨_, rfl, rfl⟩ | exact trivial | exact rfl | (focus ((conv => whnf); (try exact trivial); (try exact rfl); (try exact ⟨_, rfl, rfl⟩); done))) : P ∧ Q := ⟨p, q⟩
section
variable [Tabs] {P : Program}
theorem callT_g {l : List (Cn P)} (hl : (l.map Cn.f).Nodup) (i : Nat) {c : Cn P} (hc : l[i]? = some c) (a : c.α) (hok : c.ok a) {as : AV} {h : Heap} (hbor : BorOK h as := by repeat' first | exact trivial | exact rfl | refine ⟨?_, ?_⟩) (has : c.as a = borV c.flat h as := by rfl) {K : AV → Heap → Prop}
    (hk : K (c.v a) (match c.flat with | true => h | false => frz h (lent as))) : ∃ v h', callT l (.fn c.f) as h = .ret v h' ∧ K v h' := callT_go hl i hc a hok hbor has hk
theorem callT_gv {l : List (Cn P)} (hl : (l.map Cn.f).Nodup) (i : Nat) {c : Cn P} (hc : l[i]? = some c) (a : c.α) (hok : c.ok a) {v : AV} (hv : c.v a = v) {as : AV} {h : Heap} (hbor : BorOK h as := by repeat' first | exact trivial | exact rfl | refine ⟨?_, ?_⟩) (has : c.as a = borV c.flat h as := by rfl) {K : AV → Heap → Prop}
    (hk : K v (match c.flat with | true => h | false => frz h (lent as))) : ∃ v h', callT l (.fn c.f) as h = .ret v h' ∧ K v h' := callT_go hl i hc a hok hbor has (by rw [hv]; exact hk)
/-- A call told in place. -/
theorem callI_g {f0 : FuncId} {as0 as : AV} {h0 h : Heap} {v0 : AV} {h1 : Heap} {call : Tgt → AV → Heap → CR} (ea : as = as0 := by rfl) (eh : h = h0 := by rfl) {K : AV → Heap → Prop} (hk : K v0 h1) : ∃ v h', callI f0 as0 h0 v0 h1 call (.fn f0) as h = .ret v h' ∧ K v h' := by
  subst ea eh
  exact ⟨_, _, callI_hit, hk⟩
theorem callI_m {f0 f : FuncId} {as0 as : AV} {h0 h : Heap} {v0 : AV} {h1 : Heap} {call : Tgt → AV → Heap → CR} (hne : f ≠ f0) {K : AV → Heap → Prop} (hk : ∃ v h', call (.fn f) as h = .ret v h' ∧ K v h') : ∃ v h', callI f0 as0 h0 v0 h1 call (.fn f) as h = .ret v h' ∧ K v h' := by
  obtain ⟨v, h', e, k⟩ := hk
  exact ⟨v, h', (callI_miss hne).trans e, k⟩
theorem callI_n {f0 : FuncId} {as0 as : AV} {h0 h : Heap} {v0 : AV} {h1 : Heap} {call : Tgt → AV → Heap → CR} (hne : as ≠ as0) {K : AV → Heap → Prop} (hk : ∃ v h', call (.fn f0) as h = .ret v h' ∧ K v h') : ∃ v h', callI f0 as0 h0 v0 h1 call (.fn f0) as h = .ret v h' ∧ K v h' := by
  obtain ⟨v, h', e, k⟩ := hk
  exact ⟨v, h', (if_neg (fun e => hne e.2.1)).trans e, k⟩
end
theorem bT {b : Bool} {kt kf : Prop} (h : b = true) (k : kt) : Bool.casesOn (motive := fun _ => Prop) b kf kt := by subst h; exact k
theorem bF' {b : Bool} {kt kf : Prop} (h : b = false) (k : kf) : Bool.casesOn (motive := fun _ => Prop) b kf kt := by subst h; exact k
end Go.Sy
