/- Code: what the evaluator says of a piece of code is what the machine does with it. -/
import Derived.Test.YtbdhjclehikikabGreatDoorEvPlan6
namespace Go.Ev
open Go.RowKit
set_option linter.unusedVariables false
set_option linter.unusedSimpArgs false

/-- The marks among a frame's deferred calls. -/
def DR (μ : Mu) : List Pos → List Deferred → Prop
  | [], [] => True
  | id :: m, d :: ds => (∃ B, μ id = some B ∧ d.target = .collected B.b) ∧ DR μ m ds
  | _, _ => False
theorem DR.mono {μ μ' : Mu} (h : μ.le μ') : ∀ {m : List Pos} {ds : List Deferred}, DR μ m ds → DR μ' m ds
  | [], [], _ => trivial
  | id :: m, d :: ds, ⟨⟨B, e1, e2⟩, h2⟩ => ⟨⟨B, h _ _ e1, e2⟩, DR.mono h h2⟩
  | [], _ :: _, h2 => h2.elim
  | _ :: _, [], h2 => h2.elim
structure AR (μ : Mu) (nt : Nat) (r : Tr AV) (m : List Pos) (a : Act) : Prop where
  rr : RR μ r a.tmps
  size : a.tmps.size = nt
  dr : DR μ m a.defers
structure FR (μ : Mu) (cx : Cx) (b : Frame) : Prop where
  fn : b.fn = cx.fn
  kind : b.kind = .normal
  rd : match cx.rd with | none => b.roundOf = none | some id => ∃ B, μ id = some B ∧ b.roundOf = some B.b
theorem FR.mono {μ μ' : Mu} (h : μ.le μ') {cx : Cx} {b : Frame} (hf : FR μ cx b) : FR μ' cx b := by
  refine ⟨hf.fn, hf.kind, ?_⟩
  have := hf.rd
  cases hr : cx.rd with
  | none => rw [hr] at this; exact this
  | some id => rw [hr] at this; obtain ⟨B, e1, e2⟩ := this; exact ⟨B, h _ _ e1, e2⟩

/-- What a piece of code comes to, from a machine that depends on what stands behind it. -/
def RPost (P : Program) (B0 : Nat) (μ : Mu) (h : Heap) (w : World) (nt : Nat) (b : Frame) (S : List Item → List Frame → Machine) : R → Prop
  | .fail => True
  | .ok r m h' => ∀ k cs, ∃ μ' a' w', Post μ B0 h w μ' h' w' ∧ AR μ' nt r m a' ∧ Steps P (S k cs) (lone (b.atR a' k) cs w')
  | .exit i r m h' => ∀ k cs, ∃ μ' a' w', Post μ B0 h w μ' h' w' ∧ AR μ' nt r m a' ∧ ∃ k', exitTo i k' = exitTo i k ∧ Steps P (S k cs) (lone (b.atR a' (.code (.exit i) :: k')) cs w')
  | .ret r m h' => ∀ k cs, ∃ μ' a' w', Post μ B0 h w μ' h' w' ∧ AR μ' nt r m a' ∧ ∃ k', Steps P (S k cs) (lone (b.atR a' (.code .ret :: k')) cs w')
variable {P : Program} {B0 : Nat}
theorem RPost.step {μ : Mu} {h h1 : Heap} {w : World} {nt : Nat} {b : Frame} {S : List Item → List Frame → Machine} {x : R}
    (H : ∀ k cs, ∃ μ1 w1 S1, Post μ B0 h w μ1 h1 w1 ∧ Steps P (S k cs) (S1 k cs) ∧ RPost P B0 μ1 h1 w1 nt b S1 x) : RPost P B0 μ h w nt b S x := by
  cases x with
  | fail => trivial
  | ok r m h' =>
    intro k cs
    obtain ⟨μ1, w1, S1, hp, hs, hx⟩ := H k cs
    obtain ⟨μ', a', w', hp', ha, hs'⟩ := hx k cs
    exact ⟨μ', a', w', hp.trans hp', ha, hs.trans hs'⟩
  | exit i r m h' =>
    intro k cs
    obtain ⟨μ1, w1, S1, hp, hs, hx⟩ := H k cs
    obtain ⟨μ', a', w', hp', ha, k', he, hs'⟩ := hx k cs
    exact ⟨μ', a', w', hp.trans hp', ha, k', he, hs.trans hs'⟩
  | ret r m h' =>
    intro k cs
    obtain ⟨μ1, w1, S1, hp, hs, hx⟩ := H k cs
    obtain ⟨μ', a', w', hp', ha, k', hs'⟩ := hx k cs
    exact ⟨μ', a', w', hp.trans hp', ha, k', hs.trans hs'⟩
/-- One or more steps ahead, with nothing else changed. -/
theorem RPost.ahead {μ : Mu} {h : Heap} {w : World} (hr : HR μ B0 h w) {nt : Nat} {b : Frame} {S S1 : List Item → List Frame → Machine} {x : R} (hs : ∀ k cs, Steps P (S k cs) (S1 k cs)) (hx : RPost P B0 μ h w nt b S1 x) : RPost P B0 μ h w nt b S x :=
  RPost.step (fun k cs => ⟨μ, w, S1, Post.refl hr, hs k cs, hx⟩)

def CodeOK (P : Program) (B0 : Nat) (cx : Cx) (run : Run) (c : Code) : Prop :=
  ∀ (r : Tr AV) (m : List Pos) (h : Heap) (μ : Mu) (w : World) (b : Frame) (a : Act), HR μ B0 h w → AR μ cx.nt r m a → FR μ cx b →
    RPost P B0 μ h w cx.nt b (fun k cs => lone (b.atR a (.code c :: k)) cs w) (run cx r m h)

theorem stepR_scope {b : Frame} {a : Act} {k : List Item} {cs : List Frame} {w : World} {c : Code} : step P (lone (b.atR a (.code (.scope c) :: k)) cs w) = .next (lone (b.atR a (.code c :: .inScope c :: k)) cs w) :=
  step_lone_go (by simp [stepG, stepG.exec, Frame.atR])
theorem stepR_inScope {b : Frame} {a : Act} {k : List Item} {cs : List Frame} {w : World} {c : Code} : step P (lone (b.atR a (.inScope c :: k)) cs w) = .next (lone (b.atR a k) cs w) :=
  step_lone_go (by simp [stepG, stepG.exec, Frame.atR])

section code
variable {cx : Cx}

theorem seq_sound {x y : Code} {ra rb : Run} (ha : CodeOK P B0 cx ra x) (hb : CodeOK P B0 cx rb y) : CodeOK P B0 cx (xSeq ra rb) (.seq x y) := by
  intro r m h μ w b a hr har hf
  refine RPost.ahead hr (S1 := fun k cs => lone (b.atR a (.code x :: .code y :: k)) cs w) (fun k cs => .one stepR_seq) ?_
  have h1 := ha r m h μ w b a hr har hf
  unfold xSeq
  cases hx : ra cx r m h with
  | fail => trivial
  | ok r1 m1 h1' =>
    rw [hx] at h1
    simp only
    refine RPost.step (h1 := h1') (fun k cs => ?_)
    obtain ⟨μ1, a1, w1, hp, har1, hs⟩ := h1 (.code y :: k) cs
    exact ⟨μ1, w1, fun k cs => lone (b.atR a1 (.code y :: k)) cs w1, hp, hs, hb r1 m1 h1' μ1 w1 b a1 hp.rel har1 (hf.mono (hp.mu hr))⟩
  | exit i r1 m1 h1' =>
    rw [hx] at h1
    intro k cs
    obtain ⟨μ1, a1, w1, hp, har1, k', he, hs⟩ := h1 (.code y :: k) cs
    exact ⟨μ1, a1, w1, hp, har1, k', he, hs⟩
  | ret r1 m1 h1' =>
    rw [hx] at h1
    intro k cs
    obtain ⟨μ1, a1, w1, hp, har1, k', hs⟩ := h1 (.code y :: k) cs
    exact ⟨μ1, a1, w1, hp, har1, k', hs⟩
theorem cond_sound {c : Operand} {x y : Code} {ra rb : Run} (ha : CodeOK P B0 cx ra x) (hb : CodeOK P B0 cx rb y) : CodeOK P B0 cx (xCond c ra rb) (.cond c x y) := by
  intro r m h μ w b a hr har hf
  have hc := ev_sound hr.glob har.rr c
  unfold xCond
  split
  · rename_i t ht
    rw [ht] at hc
    have hc : a.eval c = .bool t := by simpa [VR] using hc
    cases t with
    | true => exact RPost.ahead hr (S1 := fun k cs => lone (b.atR a (.code x :: k)) cs w) (fun k cs => .one (stepR_cond hc)) (ha r m h μ w b a hr har hf)
    | false => exact RPost.ahead hr (S1 := fun k cs => lone (b.atR a (.code y :: k)) cs w) (fun k cs => .one (stepR_cond hc)) (hb r m h μ w b a hr har hf)
  · trivial
theorem block_sound {id : Nat} {x : Code} {ra : Run} (ha : CodeOK P B0 cx ra x) : CodeOK P B0 cx (xBlock id ra) (.block id x) := by
  intro r m h μ w b a hr har hf
  refine RPost.ahead hr (S1 := fun k cs => lone (b.atR a (.code x :: .inBlock id :: k)) cs w) (fun k cs => .one stepR_block) ?_
  have h1 := ha r m h μ w b a hr har hf
  unfold xBlock
  cases hx : ra cx r m h with
  | fail => trivial
  | ok r1 m1 h1' =>
    rw [hx] at h1
    intro k cs
    obtain ⟨μ1, a1, w1, hp, har1, hs⟩ := h1 (.inBlock id :: k) cs
    exact ⟨μ1, a1, w1, hp, har1, hs.trans (.one stepR_inBlock)⟩
  | exit i r1 m1 h1' =>
    rw [hx] at h1
    simp only
    cases hi : Nat.beq i id with
    | true =>
      intro k cs
      obtain ⟨μ1, a1, w1, hp, har1, k', he, hs⟩ := h1 (.inBlock id :: k) cs
      have hi := Nat.eq_of_beq_eq_true hi
      subst hi
      have : exitTo i (.inBlock i :: k) = some k := by simp [exitTo]
      exact ⟨μ1, a1, w1, hp, har1, hs.trans (.one (stepR_exit (he.trans this)))⟩
    | false =>
      intro k cs
      obtain ⟨μ1, a1, w1, hp, har1, k', he, hs⟩ := h1 (.inBlock id :: k) cs
      have hne : (id == i) = false := by
        cases e : id == i with
        | false => rfl
        | true => rw [beq_iff_eq.1 e, Nat.beq_refl] at hi; cases hi
      have : exitTo i (.inBlock id :: k) = exitTo i k := by simp [exitTo, hne]
      exact ⟨μ1, a1, w1, hp, har1, k', he.trans this, hs⟩
  | ret r1 m1 h1' =>
    rw [hx] at h1
    intro k cs
    obtain ⟨μ1, a1, w1, hp, har1, k', hs⟩ := h1 (.inBlock id :: k) cs
    exact ⟨μ1, a1, w1, hp, har1, k', hs⟩
theorem iter_sound {x : Code} {ra : Run} (ha : CodeOK P B0 cx ra x) : ∀ (n : Nat) (r : Tr AV) (m : List Pos) (h : Heap) (μ : Mu) (w : World) (b : Frame) (a : Act), HR μ B0 h w → AR μ cx.nt r m a → FR μ cx b →
    RPost P B0 μ h w cx.nt b (fun k cs => lone (b.atR a (.code x :: .inLoop x :: k)) cs w) (iter ra n cx r m h)
  | 0, _, _, _, _, _, _, _, _, _, _ => trivial
  | n + 1, r, m, h, μ, w, b, a, hr, har, hf => by
    have h1 := ha r m h μ w b a hr har hf
    show RPost P B0 μ h w cx.nt b _ (R.casesOn (motive := fun _ => (Cx → Tr AV → List Pos → Heap → R) → Cx → R) (ra cx r m h) (fun _ _ => .fail) (fun r m h ih cx => ih cx r m h)
      (fun i r m h _ _ => .exit i r m h) (fun r m h _ _ => .ret r m h) (iter ra n) cx)
    cases hx : ra cx r m h with
    | fail => trivial
    | ok r1 m1 h1' =>
      rw [hx] at h1
      refine RPost.step (h1 := h1') (fun k cs => ?_)
      obtain ⟨μ1, a1, w1, hp, har1, hs⟩ := h1 (.inLoop x :: k) cs
      exact ⟨μ1, w1, fun k cs => lone (b.atR a1 (.code x :: .inLoop x :: k)) cs w1, hp, hs.trans (.one stepR_inLoop), iter_sound ha n r1 m1 h1' μ1 w1 b a1 hp.rel har1 (hf.mono (hp.mu hr))⟩
    | exit i r1 m1 h1' =>
      rw [hx] at h1
      intro k cs
      obtain ⟨μ1, a1, w1, hp, har1, k', he, hs⟩ := h1 (.inLoop x :: k) cs
      exact ⟨μ1, a1, w1, hp, har1, k', he, hs⟩
    | ret r1 m1 h1' =>
      rw [hx] at h1
      intro k cs
      obtain ⟨μ1, a1, w1, hp, har1, k', hs⟩ := h1 (.inLoop x :: k) cs
      exact ⟨μ1, a1, w1, hp, har1, k', hs⟩
theorem loop_sound {x : Code} {ra : Run} (ha : CodeOK P B0 cx ra x) : CodeOK P B0 cx (xLoop ra) (.loop x) := by
  intro r m h μ w b a hr har hf
  exact RPost.ahead hr (S1 := fun k cs => lone (b.atR a (.code x :: .inLoop x :: k)) cs w) (fun k cs => .one stepR_loop) (iter_sound ha cx.fuel r m h μ w b a hr har hf)

/-- Operations one behind another. -/
theorem doOps_sound (hP : cx.P = P) (hcall : CallOK P B0 cx.call) {ops : Array Oper} {b : Frame} : ∀ (l : List Oper) (i : Nat) (r : Tr AV) (m : List Pos) (h : Heap) (μ : Mu) (w : World) (a : Act), (∀ (n : Nat) o, l[n]? = some o → ops[i + n]? = some o) →
    HR μ B0 h w → AR μ cx.nt r m a → RPost P B0 μ h w cx.nt b (fun k cs => lone (b.atR a (.inRegion ops (List.range' i l.length) :: k)) cs w) (doOps ops l cx r m h)
  | [], i, r, m, h, μ, w, a, hl, hr, har => fun k cs => ⟨μ, a, w, Post.refl hr, har, .one stepR_region_end⟩
  | o :: l, i, r, m, h, μ, w, a, hl, hr, har => by
    have ho : ops[i]? = some o := by simpa using hl 0 o rfl
    show RPost P B0 μ h w cx.nt b _ (doAt ops o cx r m h (fun r m h => doOps ops l cx r m h))
    cases hx : doAt ops o cx r m h (fun r m h => doOps ops l cx r m h) with
    | fail => trivial
    | _ =>
      obtain ⟨v, h', r', h1, h2, h3⟩ := doAt_inv hx (by simp)
      rw [← h3]
      refine RPost.step (h1 := h') (fun k cs => ?_)
      have hw := wantedA_sound (μ := μ) (ops := ops) (o := o) (r := r) (tmps := a.tmps) (fun g s v _ _ hv => har.rr s v hv)
      have key : ∃ cv μ' w', VR1 μ' v cv ∧ Post μ B0 h w μ' h' w' ∧ Steps P (lone (b.atR a (.inRegion ops (i :: List.range' (i + 1) l.length) :: k)) cs w) (lone (b.atR (a.put o.dst cv) (.inRegion ops (List.range' (i + 1) l.length) :: k)) cs w') := by
        rcases h1 with ⟨hwa, hres⟩ | ⟨hwa, rfl, rfl⟩
        · exact op_step hP hcall hres hr har.rr ops i _ k cs ho (hw.1 hwa)
        · exact ⟨undef, μ, w, ⟨#[], rfl, rfl⟩, Post.refl hr, skip_step ho (hw.2 hwa)⟩
      obtain ⟨cv, μ', w', hv, hp, hs⟩ := key
      obtain ⟨g1, g2, g3⟩ := putR_sound h2 (har.rr.mono (hp.mu hr)) har.size hv
      exact ⟨μ', w', fun k cs => lone (b.atR (a.put o.dst cv) (.inRegion ops (List.range' (i + 1) l.length) :: k)) cs w', hp, hs,
        doOps_sound hP hcall l (i + 1) r' m h' μ' w' (a.put o.dst cv) (fun n o' hn => by have := hl (n + 1) o' (by simpa using hn); rwa [show i + (n + 1) = i + 1 + n by omega] at this) hp.rel ⟨g1, g2, by rw [g3]; exact har.dr.mono (hp.mu hr)⟩⟩
theorem region_sound (hm : P.follows .mixedOrders = true) (hP : cx.P = P) (hcall : CallOK P B0 cx.call) {id : Nat} {ops : Array Oper} {draw : Bool} : CodeOK P B0 cx (fun cx r m h => drawOps ops draw cx r m h) (.region id ops draw) := by
  intro r m h μ w b a hr har hf
  cases draw with
  | false =>
    refine RPost.ahead hr (S1 := fun k cs => lone (b.atR a (.inRegion ops (List.range' 0 ops.toList.length) :: k)) cs w) (fun k cs => ?_) (doOps_sound hP hcall ops.toList 0 r m h μ w a (fun n o hn => by simpa using hn) hr har)
    have := stepR_region (P := P) (b := b) (a := a) (k := k) (cs := cs) (w := w) (ops := ops) (id := id)
    rw [List.range_eq_range'] at this
    exact .one (by simpa using this)
  | true =>
    show RPost P B0 μ h w cx.nt b _ (Option.casesOn (motive := fun _ => R) (planOf ops) .fail (fun pl => doPlan ops pl cx r m h))
    cases hpl : planOf ops with
    | none => trivial
    | some pl =>
      simp only
      cases hx : doPlan ops pl cx r m h with
      | fail => trivial
      | _ =>
        have hd := fun k cs => draw_sound (b := b) hm hP hcall hpl hx (by simp) (HR.heapEq (w := w) (w' := w.drew) rfl hr) har.rr har.size k cs (w.tape w.drawn (.order b.fn id))
        obtain ⟨a1, w1, μ1, r1, h1, e1, _⟩ := hd [] []
        cases e1
        all_goals
          intro k cs
          obtain ⟨a', w', μ', r', h', e, hp, g1, g2, g3, hs⟩ := hd k cs
          cases e
          have hp' : Post μ B0 h w μ' _ w' := ⟨hp.ext, hp.le, hp.rel, ((Below.refl B0 w).drew).trans hp.below⟩
          refine ⟨μ', a', w', hp', ⟨g1, g2, by rw [g3]; exact har.dr.mono (hp'.mu hr)⟩, .head (stepR_region_draw) (hs.trans (.one stepR_region_end))⟩
theorem scope_sound {x : Code} {ra : Run} (ha : CodeOK P B0 cx ra x) : CodeOK P B0 cx ra (.scope x) := by
  intro r m h μ w b a hr har hf
  refine RPost.ahead hr (S1 := fun k cs => lone (b.atR a (.code x :: .inScope x :: k)) cs w) (fun k cs => .one stepR_scope) ?_
  have h1 := ha r m h μ w b a hr har hf
  cases hx : ra cx r m h with
  | fail => trivial
  | ok r1 m1 h1' =>
    rw [hx] at h1
    intro k cs
    obtain ⟨μ1, a1, w1, hp, har1, hs⟩ := h1 (.inScope x :: k) cs
    exact ⟨μ1, a1, w1, hp, har1, hs.trans (.one stepR_inScope)⟩
  | exit i r1 m1 h1' =>
    rw [hx] at h1
    intro k cs
    obtain ⟨μ1, a1, w1, hp, har1, k', he, hs⟩ := h1 (.inScope x :: k) cs
    exact ⟨μ1, a1, w1, hp, har1, k', he, hs⟩
  | ret r1 m1 h1' =>
    rw [hx] at h1
    intro k cs
    obtain ⟨μ1, a1, w1, hp, har1, k', hs⟩ := h1 (.inScope x :: k) cs
    exact ⟨μ1, a1, w1, hp, har1, k', hs⟩
end code
end Go.Ev
