/- One operation, as the machine carries it out: the evaluator's step is a run of the machine's steps. -/
import Derived.Test.YtbdhjclehikikabGreatDoorEvOps6
namespace Go.Ev
open Go.RowKit
set_option linter.unusedVariables false
set_option linter.unusedSimpArgs false

theorem MK_sound {μ : Mu} {k : MK} {n : Nat} (hk : k.ok n) {id : Pos} {b m : Nat} (hm : n ≤ m) (hid : μ id = some ⟨b, 0, m⟩) : VR1 μ (k.av id) (k.val b) := by
  cases k with
  | ptr => exact ⟨_, hid, rfl⟩
  | slice l c z => exact ⟨_, c, hid, rfl, Nat.le_refl _, hk.1, by have := hk.2; show 0 + c * z ≤ m; omega⟩

/-- What is told of an operation, of whatever kind. -/
theorem xOp_sound {P : Program} {r : Tr AV} {μ : Mu} {B0 : Nat} {h : Heap} {w : World} {a : Act} (o : Oper) (hh : HR μ B0 h w) (hr : RR μ r a.tmps) : EffPost P μ B0 h w a o (xOp o.op P r h) := by
  have hc := cls_sound o
  unfold xOp
  cases hcl : cls o.op with
  | bad => trivial
  | pure f =>
    rw [hcl] at hc
    simp only
    cases hf : f P r with
    | none => trivial
    | some v =>
      obtain ⟨cv, h1, h2⟩ := hc P r μ a v hh.glob hr hf
      exact ⟨cv, μ, w, .inl (h1 w), h2, Post.refl hh⟩
  | load f =>
    rw [hcl] at hc
    simp only
    cases hf : f P r h with
    | none => trivial
    | some v =>
      obtain ⟨cv, h1, h2⟩ := hc P r μ B0 h w a v hh hr hf
      exact ⟨cv, μ, w, .inl h1, h2, Post.refl hh⟩
  | alloc f =>
    rw [hcl] at hc
    simp only
    cases hf : f P r with
    | none => trivial
    | some A =>
      simp only
      cases hn : newCells A.l A.n h A.k with
      | fail => trivial
      | enter f a h' => exact absurd hn (newCells_not.1 f a h')
      | round f a h' => exact absurd hn (newCells_not.2 f a h')
      | val v h' =>
        obtain ⟨t, hl, rfl, rfl⟩ := newCells_cases hn
        obtain ⟨hk, arr, el, hv, hrun⟩ := hc P r μ a A t hh.glob hr hf hl
        obtain ⟨hlen, _, _⟩ := lay_spec _ hl hv
        have hlen : arr.size = A.n := by simpa using hlen
        have hHR := newBlk hh hv hl arr el (fun k v e => by simpa using e) (by omega)
        have hsucc : h.n.succ.toNat = h.n.toNat + 1 := Pos.toNat_succ _
        refine ⟨_, _, _, .inl (hrun w), MK_sound hk (m := arr.size) (by omega) (b := w.heap.size) ?_, ?_, ?_, hHR, ?_⟩
        · show (if h.n = h.n then _ else _) = _
          rw [if_pos rfl]
        · intro q hq
          show (if q = h.n then _ else _) = _
          rw [if_neg (fun e' => by subst e'; omega)]
        · show h.n.toNat ≤ h.n.succ.toNat; omega
        · exact (Below.refl _ _).alloc hh.size _
  | eff f =>
    rw [hcl] at hc
    exact hc P r μ B0 h w a hh hr

/-- A function with a body is entered. -/
def Callable (P : Program) : Prop := ∀ (f : FuncId) (fn : Func) (args : Array Value) (w : World), P.funcs[f]? = some fn → fn.body.isSome = true → (callFunc f args).run P w = .ok (.enter f args) w
/-- What a call, or a round of a loop over a function, comes to. -/
def CallOK (P : Program) (B0 : Nat) (call : Tgt → AV → Heap → CR) : Prop :=
  ∀ (t : Tgt) (as : AV) (h : Heap) (v : AV) (h' : Heap), call t as h = .ret v h' → ∀ (μ : Mu) (w : World), HR μ B0 h w →
    match t with
    | .fn f => (∀ cargs : Array Value, (callFunc f cargs).run P w = .ok (.enter f cargs) w) ∧ ∀ cargs : Array Value, VRL μ as cargs.toList →
        Calls P f cargs w fun e w' => ∃ cv μ', e = .returned cv ∧ VR1 μ' v cv ∧ Post μ B0 h w μ' h' w'
    | .rd id => ∀ B, μ id = some B → ∀ cargs : Array Value, VRL μ as cargs.toList → ∃ fn tmps assign body, (Instr.yield B.b cargs).run P w = .ok (.round B.b fn tmps assign body) w ∧
        ∀ (c : Frame) (cs : List Frame), ∃ cv μ' w', VR1 μ' v cv ∧ Post μ B0 h w μ' h' w' ∧ Steps P (lone (Frame.round B.b fn tmps assign body .normal) (c :: cs) w) (lone (c.finish cv) cs w')

theorem op_not_defer {o : Oper} {P : Program} {r : Tr AV} {h : Heap} (hx : xOp o.op P r h ≠ .fail) : ∀ c, o.op ≠ .defer c := by
  intro c e
  apply hx
  unfold xOp
  rw [e]; rfl

variable {P : Program} {B0 : Nat}

/-- An operation's own steps. -/
def OpStep (P : Program) (B0 : Nat) (μ : Mu) (h : Heap) (w : World) (b : Frame) (a : Act) (o : Oper) (v : AV) (h' : Heap) : Prop :=
  ∀ (ops : Array Oper) (i : Nat) (rest : List Nat) (k : List Item) (cs : List Frame), ops[i]? = some o → Region.wanted o (yielded ops a.tmps) = true →
    ∃ cv μ' w', VR1 μ' v cv ∧ Post μ B0 h w μ' h' w' ∧ Steps P (lone (b.atR a (.inRegion ops (i :: rest) :: k)) cs w) (lone (b.atR (a.put o.dst cv) (.inRegion ops rest :: k)) cs w')

/-- What is asked, then told, of an operation: its value and memory are the evaluator's. -/
def opRes (o : Oper) (cx : Cx) (r : Tr AV) (h : Heap) (v : AV) (h' : Heap) : Prop :=
  xOp o.op cx.P r h = .val v h' ∨ (∃ f as h1, xOp o.op cx.P r h = .enter f as h1 ∧ cx.call (.fn f) as h1 = .ret v h') ∨ (∃ id as h1, xOp o.op cx.P r h = .round id as h1 ∧ cx.call (.rd id) as h1 = .ret v h')
theorem op_step {cx : Cx} (hP : cx.P = P) (hcall : CallOK P B0 cx.call) {o : Oper} {r : Tr AV} {h h' : Heap} {v : AV} (hres : opRes o cx r h v h') {μ : Mu} {w : World} {b : Frame} {a : Act} (hh : HR μ B0 h w) (hr : RR μ r a.tmps)  :
    OpStep P B0 μ h w b a o v h' := by
  intro ops i rest k cs ho hw
  have hs := xOp_sound (P := P) o hh hr
  have hfin : ∀ u, (b.atR a (.inRegion ops (i :: rest) :: k)).finish u = b.atR (a.put o.dst u) (.inRegion ops rest :: k) := by
    intro u; rw [Frame.finish_atR, ho]; rfl
  rcases hres with hx | ⟨f, as, h1, hx, hc⟩ | ⟨id, as, h1, hx, hc⟩
  · rw [hP] at hx
    have hnd := op_not_defer (P := P) (r := r) (h := h) (o := o) (by rw [hx]; intro e; cases e)
    have hg := stepGR_op (P := P) (b := b) (k := k) (cs := cs) (w := w) (rest := rest) ho hw
    rw [Oper.semAt_eq _ _ _ hnd] at hg
    rw [hx] at hs
    obtain ⟨cv, μ', w', hrun, hv, hp⟩ := hs
    refine ⟨cv, μ', w', hv, hp, .one (step_lone_go ?_)⟩
    rcases hrun with hrun | ⟨hrun, rfl⟩
    · rw [hg, ← hfin]; simp [stepG.apply, hrun]
    · rw [hg, ← hfin]; simp [stepG.apply, hrun]
  · rw [hP] at hx
    have hnd := op_not_defer (P := P) (r := r) (h := h) (o := o) (by rw [hx]; intro e; cases e)
    have hg := stepGR_op (P := P) (b := b) (k := k) (cs := cs) (w := w) (rest := rest) ho hw
    rw [Oper.semAt_eq _ _ _ hnd] at hg
    rw [hx] at hs
    obtain ⟨rfl, cargs, hrun, hv⟩ := hs
    obtain ⟨hent, hcalls⟩ := hcall _ _ _ _ _ hc μ w hh
    rw [hent] at hrun
    obtain ⟨e, w', fr, ⟨cv, μ', rfl, hv', hp⟩, hsteps, _, hleave⟩ := hcalls cargs hv (b.atR a (.inRegion ops (i :: rest) :: k) :: cs)
    have henter : step P (lone (b.atR a (.inRegion ops (i :: rest) :: k)) cs w) = .next (lone (Frame.enter P f cargs .normal) (b.atR a (.inRegion ops (i :: rest) :: k) :: cs) w) :=
      step_lone_go (by rw [hg]; simp [stepG.apply, hrun, Frame.atR])
    refine ⟨cv, μ', w', hv', hp, .head henter (Steps.trans hsteps (.one ?_))⟩
    rw [← hfin]; exact step_leave_returned hleave
  · rw [hP] at hx
    have hnd := op_not_defer (P := P) (r := r) (h := h) (o := o) (by rw [hx]; intro e; cases e)
    have hg := stepGR_op (P := P) (b := b) (k := k) (cs := cs) (w := w) (rest := rest) ho hw
    rw [Oper.semAt_eq _ _ _ hnd] at hg
    rw [hx] at hs
    obtain ⟨rfl, B, cargs, hB, hrun, hv⟩ := hs
    obtain ⟨fn, tmps, assign, body, hy, hround⟩ := hcall _ _ _ _ _ hc μ w hh B hB cargs hv
    rw [hy] at hrun
    obtain ⟨cv, μ', w', hv', hp, hsteps⟩ := hround (b.atR a (.inRegion ops (i :: rest) :: k)) cs
    have henter : step P (lone (b.atR a (.inRegion ops (i :: rest) :: k)) cs w) = .next (lone (Frame.round B.b fn tmps assign body .normal) (b.atR a (.inRegion ops (i :: rest) :: k) :: cs) w) :=
      step_lone_go (by rw [hg]; simp [stepG.apply, hrun, Frame.atR])
    refine ⟨cv, μ', w', hv', hp, .head henter ?_⟩
    rw [← hfin]; exact hsteps

/-- What 'doOp' has done. -/
theorem doOp_inv {o : Oper} {cx : Cx} {r : Tr AV} {m : List Pos} {h : Heap} {k : Tr AV → List Pos → Heap → R} {x : R} (e : doOp o cx r m h k = x) (hx : x ≠ .fail) :
    ∃ v h' r', opRes o cx r h v h' ∧ putR o.dst cx.nt v r = some r' ∧ k r' m h' = x := by
  unfold doOp at e
  cases ho : xOp o.op cx.P r h with
  | fail => rw [ho] at e; exact absurd e.symm hx
  | val v h' =>
    rw [ho] at e
    simp only at e
    cases hp : putR o.dst cx.nt v r with
    | none => rw [hp] at e; exact absurd e.symm hx
    | some r' => rw [hp] at e; exact ⟨v, h', r', .inl ho, hp, e⟩
  | enter f as h1 =>
    rw [ho] at e
    simp only at e
    unfold crK at e
    cases hc : cx.call (.fn f) as h1 with
    | fail => rw [hc] at e; exact absurd e.symm hx
    | ret v h' =>
      rw [hc] at e
      simp only at e
      cases hp : putR o.dst cx.nt v r with
      | none => rw [hp] at e; exact absurd e.symm hx
      | some r' => rw [hp] at e; exact ⟨v, h', r', .inr (.inl ⟨f, as, h1, ho, hc⟩), hp, e⟩
  | round f as h1 =>
    rw [ho] at e
    simp only at e
    unfold crK at e
    cases hc : cx.call (.rd f) as h1 with
    | fail => rw [hc] at e; exact absurd e.symm hx
    | ret v h' =>
      rw [hc] at e
      simp only at e
      cases hp : putR o.dst cx.nt v r with
      | none => rw [hp] at e; exact absurd e.symm hx
      | some r' => rw [hp] at e; exact ⟨v, h', r', .inr (.inr ⟨f, as, h1, ho, hc⟩), hp, e⟩
theorem doAt_inv {ops : Array Oper} {o : Oper} {cx : Cx} {r : Tr AV} {m : List Pos} {h : Heap} {k : Tr AV → List Pos → Heap → R} {x : R} (e : doAt ops o cx r m h k = x) (hx : x ≠ .fail) :
    ∃ v h' r', ((wantedA ops o r = .yes ∧ opRes o cx r h v h') ∨ (wantedA ops o r = .no ∧ v = .tup .nil ∧ h' = h)) ∧ putR o.dst cx.nt v r = some r' ∧ k r' m h' = x := by
  unfold doAt at e
  cases hw : wantedA ops o r with
  | yes =>
    rw [hw] at e
    obtain ⟨v, h', r', h1, h2, h3⟩ := doOp_inv e hx
    exact ⟨v, h', r', .inl ⟨rfl, h1⟩, h2, h3⟩
  | no =>
    rw [hw] at e
    simp only at e
    cases hp : putR o.dst cx.nt (.tup .nil) r with
    | none => rw [hp] at e; exact absurd e.symm hx
    | some r' => rw [hp] at e; exact ⟨_, h, r', .inr ⟨rfl, rfl, rfl⟩, hp, e⟩
  | unknown => rw [hw] at e; exact absurd e.symm hx

/-- A slot is written. -/
theorem putR_sound {μ : Mu} {d : Option Tmp} {nt : Nat} {v : AV} {r r' : Tr AV} (hp : putR d nt v r = some r') {a : Act} (hr : RR μ r a.tmps) (hs : a.tmps.size = nt) {cv : Value} (hv : VR1 μ v cv) :
    RR μ r' (a.put d cv).tmps ∧ (a.put d cv).tmps.size = nt ∧ (a.put d cv).defers = a.defers := by
  unfold putR at hp
  cases d with
  | none => cases hp; exact ⟨hr, hs, rfl⟩
  | some d =>
    simp only at hp
    cases hl : natLt d nt with
    | false => rw [hl] at hp; cases hp
    | true =>
      rw [hl] at hp
      cases hp
      have hl := natLt_iff.1 hl
      refine ⟨?_, by simp [Act.put, hs], rfl⟩
      intro k u hk
      rw [Tr.get_set] at hk
      by_cases he : k = d
      · subst he
        rw [if_pos rfl] at hk
        cases hk
        exact ⟨cv, by simp [Act.put, Array.getElem?_setIfInBounds_self_of_lt (show k < a.tmps.size by omega)], hv⟩
      · rw [if_neg (fun e => he (pathOf_inj e))] at hk
        obtain ⟨cu, h1, h2⟩ := hr k u hk
        exact ⟨cu, by simp only [Act.put]; rw [Array.getElem?_setIfInBounds_ne (fun e => he e.symm)]; exact h1, h2⟩

def asB (v : Value) : Option Bool := match v with | .bool b => some b | _ => none
/-- Whether an operation is wanted. -/
theorem wantedA_sound {μ : Mu} {ops : Array Oper} {o : Oper} {r : Tr AV} {tmps : Array Value} (hr : ∀ g s v, o.guard = some g → gslot ops g.1 = some s → r.get (pathOf s) = some v → ∃ cv, tmps[s]? = some cv ∧ VR1 μ v cv) :
    (wantedA ops o r = .yes → Region.wanted o (yielded ops tmps) = true) ∧ (wantedA ops o r = .no → Region.wanted o (yielded ops tmps) = false) := by
  unfold wantedA Region.wanted
  cases hg : o.guard with
  | none => exact ⟨fun _ => rfl, fun e => by cases e⟩
  | some g =>
    obtain ⟨j, want⟩ := g
    simp only
    cases hs : gslot ops j with
    | none => exact ⟨(fun e => by cases e), (fun e => by cases e)⟩
    | some s =>
      simp only
      cases hv : r.get (pathOf s) with
      | none => exact ⟨(fun e => by cases e), (fun e => by cases e)⟩
      | some v =>
        obtain ⟨cv, h1, h2⟩ := hr (j, want) s v hg hs hv
        have hy : yielded ops tmps j = asB cv := by
          unfold yielded
          unfold gslot at hs
          rw [hs]
          simp only [Option.bind_some, h1]
          cases cv <;> rfl
        simp only [gv]
        unfold wantedBy
        split
        · rename_i b
          have : cv = .bool b := by simpa [VR] using h2
          rw [hy, this]
          cases b <;> cases want <;> simp [asB]
        · rename_i l
          obtain ⟨c, h3, _⟩ := h2
          have : cv = .tuple c := by simpa using h3
          rw [hy, this]
          simp [asB]
        · exact ⟨(fun e => by cases e), (fun e => by cases e)⟩
end Go.Ev
