/- Regions whose order is open: the invariant, step by step. -/
import Derived.Test.YtbdhjclehikikabGreatDoorEvPlan2
namespace Go.Ev
open Go.RowKit
set_option linter.unusedVariables false
set_option linter.unusedSimpArgs false

section good
variable {ops : Array Oper} {ms : Tr Nat} {pl : List PI} (G : Good ops ms pl)
include G
theorem Good.before {pr suf : List PI} {y x : PI} (e : pl = pr ++ y :: suf) (hx : x ∈ pr) : okPair ops ms x y = true := (G.pair pr y suf e).1 x hx
theorem Good.any {u z : PI} (hu : u ∈ pl) (hz : z ∈ pl) (hne : u ≠ z) : okPair ops ms u z = true ∨ okPair ops ms z u = true := by
  obtain ⟨p1, p2, e⟩ := List.append_of_mem hz
  rw [e] at hu
  rcases List.mem_append.1 hu with h | h
  · exact .inl (G.before e h)
  · rcases List.mem_cons.1 h with h | h
    · exact absurd h hne
    · obtain ⟨q1, q2, e2⟩ := List.append_of_mem h
      right
      refine G.before (pr := p1 ++ z :: q1) (suf := q2) (by rw [e, e2]; simp) (by simp)
omit G in
theorem okPair_ne {x y : PI} (h : okPair ops ms x y = true) : x.i ≠ y.i := by
  unfold okPair at h
  simp only [Bool.and_eq_true, Bool.not_eq_true'] at h
  intro e
  rw [e, Nat.beq_refl] at h
  exact absurd h.1.1.1 (by simp)
omit G in
theorem okPair_pre {x y : PI} (h : okPair ops ms x y = true) : pre ms y.i x.i = false := by
  unfold okPair at h
  simp only [Bool.and_eq_true, Bool.not_eq_true'] at h
  exact h.1.1.2
omit G in
theorem okPair_ww {x y : PI} (h : okPair ops ms x y = true) {s : Nat} (h1 : x.o.dst = some s) (h2 : y.o.dst = some s) : False := by
  unfold okPair at h
  simp only [Bool.and_eq_true] at h
  exact land0_test h.1.2 s ⟨dst_mask h1, dst_mask h2⟩
omit G in
theorem okPair_wr {x y : PI} (h : okPair ops ms x y = true) {s : Nat} (h1 : x.o.dst = some s) (h2 : s ∈ readL ops y.o) : pre ms x.i y.i = true := by
  unfold okPair at h
  simp only [Bool.and_eq_true, Bool.or_eq_true] at h
  rcases h.2 with h | h
  · exact h
  · exact absurd ⟨dst_mask h1, readL_mask h2⟩ (land0_test h.1.1.1 s)
omit G in
theorem okPair_rw {x y : PI} (h : okPair ops ms x y = true) {s : Nat} (h1 : s ∈ readL ops x.o) (h2 : y.o.dst = some s) : pre ms x.i y.i = true := by
  unfold okPair at h
  simp only [Bool.and_eq_true, Bool.or_eq_true] at h
  rcases h.2 with h | h
  · exact h
  · exact absurd ⟨readL_mask h1, dst_mask h2⟩ (land0_test h.1.1.2 s)
omit G in
theorem okPair_eff {x y : PI} (h : okPair ops ms x y = true) (h1 : x.eff = true) : pre ms x.i y.i = true := by
  unfold okPair at h
  simp only [Bool.and_eq_true, Bool.or_eq_true] at h
  rcases h.2 with h | h
  · exact h
  · rw [h1] at h; exact absurd h.1.2 (by simp)
omit G in
theorem okPair_mem {x y : PI} (h : okPair ops ms x y = true) (h1 : pre ms x.i y.i = false) (h2 : y.eff = true) (h3 : isMem x.o = true) : ∃ p ∈ y.pend, p.1 = x.i := by
  unfold okPair at h
  simp only [Bool.and_eq_true, Bool.or_eq_true] at h
  rcases h.2 with h | h
  · rw [h1] at h; cases h
  · rcases h.2 with (h | h) | h
    · rw [h2] at h; cases h
    · rw [h3] at h; cases h
    · obtain ⟨p, hp, e⟩ := List.any_eq_true.1 h
      exact ⟨p, hp, Nat.eq_of_beq_eq_true e⟩
theorem Good.inj {u z : PI} (hu : u ∈ pl) (hz : z ∈ pl) (e : u.i = z.i) : u = z := by
  by_cases h : u = z
  · exact h
  · rcases G.any hu hz h with h | h
    · exact absurd e (okPair_ne h)
    · exact absurd e.symm (okPair_ne h)
theorem Good.ww {u z : PI} (hu : u ∈ pl) (hz : z ∈ pl) {s : Nat} (h1 : u.o.dst = some s) (h2 : z.o.dst = some s) : u = z := by
  by_cases h : u = z
  · exact h
  · rcases G.any hu hz h with h | h
    · exact (okPair_ww h h1 h2).elim
    · exact (okPair_ww h h2 h1).elim
theorem Good.wr {u z : PI} (hu : u ∈ pl) (hz : z ∈ pl) (hne : u ≠ z) {s : Nat} (h1 : u.o.dst = some s) (h2 : s ∈ readL ops z.o) : pre ms u.i z.i = true ∨ pre ms z.i u.i = true := by
  rcases G.any hu hz hne with h | h
  · exact .inl (okPair_wr h h1 h2)
  · exact .inr (okPair_rw h h2 h1)
end good

/-- What has been found of an operation that only computes, reads or makes a block. -/
def FloatFact (P : Program) (o : Oper) (rp : Tr AV) (hc : Heap) (μ : Mu) (v : AV) (j : Option Pos) : Prop :=
  match cls o.op with
  | .pure f => f P rp = some v
  | .load f => f P rp hc = some v
  | .alloc f => ∃ A t id, j = some id ∧ f P rp = some A ∧ lay A.n A.l 0 .leaf = some t ∧ v = A.k.av id ∧ hc.t.get id = some (.cells t A.n false) ∧ μ id = none ∧ id.toNat < hc.n.toNat
  | _ => False
def Fact (P : Program) (nt : Nat) (ops : Array Oper) (ms : Tr Nat) (r0 : Tr AV) (pr : List PI) (rc : Tr AV) (hc : Heap) (μ : Mu) (y : PI) (j : Option Pos) : Prop :=
  ∃ rp v, (∀ d, y.o.dst = some d → rc.get (pathOf d) = some v ∧ d < nt) ∧
    (∀ s ∈ readL ops y.o, ((∃ z ∈ pr, z.i ≠ y.i ∧ z.o.dst = some s ∧ pre ms z.i y.i = true) → rp.get (pathOf s) = rc.get (pathOf s)) ∧ ((∀ z ∈ pr, z.i ≠ y.i → z.o.dst = some s → pre ms z.i y.i = false) → rp.get (pathOf s) = r0.get (pathOf s))) ∧
    ((wantedA ops y.o rp = .no ∧ v = .tup .nil) ∨ (wantedA ops y.o rp = .yes ∧ FloatFact P y.o rp hc μ v j))

structure Mid (P : Program) (B0 : Nat) (cx : Cx) (ops : Array Oper) (ms : Tr Nat) (pl : List PI) (r0 : Tr AV) (m : List Pos) (μ0 : Mu) (h0 : Heap) (w0 : World) (a0 : Act) (x : R)
    (D : Nat → Prop) (a : Act) (w : World) (pr suf : List PI) (rc : Tr AV) (hc : Heap) (μ : Mu) (J : Nat → Option Pos) : Prop where
  split : pl = pr ++ suf
  run : doPlan ops suf cx rc m hc = x
  done : ∀ i, D i → ∃ y ∈ pr, y.i = i
  effs : ∀ y ∈ pr, y.eff = true → D y.i
  post : Post μ0 B0 h0 w0 μ hc w
  size : a.tmps.size = cx.nt
  dfr : a.defers = a0.defers
  slots : ∀ s v, rc.get (pathOf s) = some v → (∀ y ∈ pr, ¬ D y.i → y.o.dst ≠ some s) → ∃ cv, a.tmps[s]? = some cv ∧ VR1 μ v cv
  olds : ∀ y ∈ pr, ¬ D y.i → ∀ s, y.o.dst = some s → ∀ v, r0.get (pathOf s) = some v → ∃ cv, a.tmps[s]? = some cv ∧ VR1 μ v cv
  unwr : ∀ s, (∀ y ∈ pr, y.o.dst ≠ some s) → rc.get (pathOf s) = r0.get (pathOf s)
  fact : ∀ y ∈ pr, ¬ D y.i → Fact P cx.nt ops ms r0 pr rc hc μ y (J y.i)
  jlt : ∀ y ∈ pr, ∀ q, J y.i = some q → q.toNat < hc.n.toNat
  jge : ∀ y ∈ pr, ∀ q, J y.i = some q → h0.n.toNat ≤ q.toNat
  apart : ∀ y ∈ pr, ∀ z ∈ pr, y.i ≠ z.i → ∀ p q, J y.i = some p → J z.i = some q → p ≠ q

variable {P : Program} {B0 : Nat} {cx : Cx} {ops : Array Oper} {ms : Tr Nat} {pl : List PI} {r0 : Tr AV} {m : List Pos} {μ0 : Mu} {h0 : Heap} {w0 : World} {a0 : Act} {x : R}

/-- What a waiting operation reads is in the real slots. -/
theorem pend_env (G : Good ops ms pl) {D : Nat → Prop} {a : Act} {w : World} {pr suf : List PI} {rc : Tr AV} {hc : Heap} {μ : Mu} {J : Nat → Option Pos} (M : Mid P B0 cx ops ms pl r0 m μ0 h0 w0 a0 x D a w pr suf rc hc μ J)
    {y : PI} (hy : y ∈ pr) (hyD : ¬ D y.i) (hready : ∀ j, pre ms j y.i = true → D j) (hclosed : ∀ i j, D i → pre ms j i = true → D j) {rp : Tr AV}
    (hrp : ∀ s ∈ readL ops y.o, ((∃ z ∈ pr, z.i ≠ y.i ∧ z.o.dst = some s ∧ pre ms z.i y.i = true) → rp.get (pathOf s) = rc.get (pathOf s)) ∧ ((∀ z ∈ pr, z.i ≠ y.i → z.o.dst = some s → pre ms z.i y.i = false) → rp.get (pathOf s) = r0.get (pathOf s))) :
    ∀ s ∈ readL ops y.o, ∀ v, rp.get (pathOf s) = some v → ∃ cv, a.tmps[s]? = some cv ∧ VR1 μ v cv := by
  have hin : ∀ z ∈ pr, z ∈ pl := fun z hz => by rw [M.split]; exact List.mem_append.2 (.inl hz)
  intro s hs v hv
  obtain ⟨c1, c2⟩ := hrp s hs
  by_cases h1 : ∃ z ∈ pr, z.i ≠ y.i ∧ z.o.dst = some s ∧ pre ms z.i y.i = true
  · rw [c1 h1] at hv
    obtain ⟨z, hz, _, hzs, hzp⟩ := h1
    refine M.slots s v hv (fun u hu hud e => ?_)
    have := G.ww (hin u hu) (hin z hz) e hzs
    subst this
    exact hud (hready _ hzp)
  · have h2 : ∀ z ∈ pr, z.i ≠ y.i → z.o.dst = some s → pre ms z.i y.i = false := by
      intro z hz hne e
      cases hp : pre ms z.i y.i with
      | false => rfl
      | true => exact absurd ⟨z, hz, hne, e, hp⟩ h1
    rw [c2 h2] at hv
    by_cases h3 : ∃ z ∈ pr, z.o.dst = some s
    · obtain ⟨z, hz, hzs⟩ := h3
      have hzD : ¬ D z.i := by
        intro hzD
        by_cases hzy : z = y
        · subst hzy; exact hyD hzD
        · rcases G.wr (hin z hz) (hin y hy) hzy hzs hs with e | e
          · rw [h2 z hz (fun e => hzy (G.inj (hin z hz) (hin y hy) e)) hzs] at e; cases e
          · exact hyD (hclosed _ _ hzD e)
      exact M.olds z hz hzD s hzs v hv
    · have h4 : ∀ z ∈ pr, z.o.dst ≠ some s := fun z hz e => h3 ⟨z, hz, e⟩
      rw [← M.unwr s h4] at hv
      exact M.slots s v hv (fun u hu _ => h4 u hu)

theorem isEff_cases (o : Oper) : (isEff o = false ∧ ((∃ f, cls o.op = .pure f) ∨ (∃ f, cls o.op = .load f) ∨ ∃ f, cls o.op = .alloc f)) ∨ isEff o = true := by
  unfold isEff
  cases cls o.op with
  | bad => exact .inr rfl
  | eff f => exact .inr rfl
  | pure f => exact .inl ⟨rfl, .inl ⟨f, rfl⟩⟩
  | load f => exact .inl ⟨rfl, .inr (.inl ⟨f, rfl⟩)⟩
  | alloc f => exact .inl ⟨rfl, .inr (.inr ⟨f, rfl⟩)⟩
theorem cls_not_defer {o : Op} (h : cls o ≠ .bad) : ∀ c, o ≠ .defer c := by
  intro c e
  subst e
  exact h rfl

/-- A waiting operation is carried out. -/
theorem float_step (hP : cx.P = P) (G : Good ops ms pl) {D : Nat → Prop} {a : Act} {w : World} {pr suf : List PI} {rc : Tr AV} {hc : Heap} {μ : Mu} {J : Nat → Option Pos} (M : Mid P B0 cx ops ms pl r0 m μ0 h0 w0 a0 x D a w pr suf rc hc μ J) (hH0 : HR μ0 B0 h0 w0)
    {y : PI} (hy : y ∈ pr) (hyD : ¬ D y.i) (hready : ∀ j, pre ms j y.i = true → D j) (hclosed : ∀ i j, D i → pre ms j i = true → D j) {b : Frame} (rest : List Nat) (k : List Item) (cs : List Frame) :
    ∃ a' w' μ', Steps P (lone (b.atR a (.inRegion ops (y.i :: rest) :: k)) cs w) (lone (b.atR a' (.inRegion ops rest :: k)) cs w') ∧ Mid P B0 cx ops ms pl r0 m μ0 h0 w0 a0 x (fun i => D i ∨ i = y.i) a' w' pr suf rc hc μ' J := by
  have hin : ∀ z ∈ pr, z ∈ pl := fun z hz => by rw [M.split]; exact List.mem_append.2 (.inl hz)
  obtain ⟨rp, v, f1, f2, f3⟩ := M.fact y hy hyD
  have henv := pend_env G M hy hyD hready hclosed f2
  obtain ⟨w1, w2⟩ := wanted_env henv
  obtain ⟨hop, heff⟩ := G.at_ y (hin y hy)
  have hrel := M.post.rel
  -- what is left to be shown, once the operation has been carried out
  have fin : ∀ (cv : Value) (w' : World) (μ' : Mu), Steps P (lone (b.atR a (.inRegion ops (y.i :: rest) :: k)) cs w) (lone (b.atR (a.put y.o.dst cv) (.inRegion ops rest :: k)) cs w') → VR1 μ' v cv → μ.le μ' → Post μ0 B0 h0 w0 μ' hc w' →
      (∀ z ∈ pr, ¬ D z.i → z.i ≠ y.i → ∀ q, J z.i = some q → μ q = none → μ' q = none) →
      ∃ a' w' μ', Steps P (lone (b.atR a (.inRegion ops (y.i :: rest) :: k)) cs w) (lone (b.atR a' (.inRegion ops rest :: k)) cs w') ∧ Mid P B0 cx ops ms pl r0 m μ0 h0 w0 a0 x (fun i => D i ∨ i = y.i) a' w' pr suf rc hc μ' J := by
    intro cv w' μ' hst hv hle hp hoth
    have hsize : (a.put y.o.dst cv).tmps.size = cx.nt := by
      cases hd : y.o.dst with
      | none => exact M.size
      | some d => simp [Act.put, M.size]
    have hself : ∀ s, y.o.dst = some s → (a.put y.o.dst cv).tmps[s]? = some cv := by
      intro s hs
      obtain ⟨_, hlt⟩ := f1 s hs
      rw [hs]
      simp only [Act.put]
      exact Array.getElem?_setIfInBounds_self_of_lt (by rw [M.size]; exact hlt)
    have hother : ∀ s, y.o.dst ≠ some s → (a.put y.o.dst cv).tmps[s]? = a.tmps[s]? := by
      intro s hs
      cases hd : y.o.dst with
      | none => rfl
      | some d =>
        simp only [Act.put]
        rw [Array.getElem?_setIfInBounds_ne (fun e => hs (by rw [hd, e]))]
    refine ⟨_, w', μ', hst, ⟨M.split, M.run, ?_, ?_, hp, hsize, ?_, ?_, ?_, M.unwr, ?_, M.jlt, M.jge, M.apart⟩⟩
    · intro i hi
      rcases hi with hi | rfl
      · exact M.done i hi
      · exact ⟨y, hy, rfl⟩
    · exact fun z hz he => .inl (M.effs z hz he)
    · rw [show (a.put y.o.dst cv).defers = a.defers by cases y.o.dst <;> rfl]; exact M.dfr
    · intro s u hu hno
      by_cases hs : y.o.dst = some s
      · obtain ⟨h1, _⟩ := f1 s hs
        rw [h1] at hu
        cases hu
        exact ⟨cv, hself s hs, hv⟩
      · obtain ⟨cu, h1, h2⟩ := M.slots s u hu (fun z hz hzD => by
          by_cases hzy : z.i = y.i
          · have := G.inj (hin z hz) (hin y hy) hzy
            subst this; exact hs
          · exact hno z hz (fun e => e.elim hzD hzy))
        exact ⟨cu, by rw [hother s hs]; exact h1, h2.mono hle⟩
    · intro z hz hzD s hzs u hu
      have hzD' : ¬ D z.i := fun e => hzD (.inl e)
      have hzy : z ≠ y := fun e => hzD (.inr (by rw [e]))
      obtain ⟨cu, h1, h2⟩ := M.olds z hz hzD' s hzs u hu
      have hs : y.o.dst ≠ some s := fun e => hzy (G.ww (hin z hz) (hin y hy) hzs e)
      exact ⟨cu, by rw [hother s hs]; exact h1, h2.mono hle⟩
    · intro z hz hzD
      have hzD' : ¬ D z.i := fun e => hzD (.inl e)
      have hzy : z.i ≠ y.i := fun e => hzD (.inr e)
      obtain ⟨rq, u, g1, g2, g3⟩ := M.fact z hz hzD'
      refine ⟨rq, u, g1, g2, g3.imp id (fun g => ⟨g.1, ?_⟩)⟩
      have g := g.2
      unfold FloatFact at g ⊢
      cases hcl : cls z.o.op with
      | pure f => rw [hcl] at g; exact g
      | load f => rw [hcl] at g; exact g
      | alloc f =>
        rw [hcl] at g
        obtain ⟨A, t, id, e1, e2, e3, e4, e5, e6, e7⟩ := g
        exact ⟨A, t, id, e1, e2, e3, e4, e5, hoth z hz hzD' hzy id e1 e6, e7⟩
      | bad => rw [hcl] at g; exact g
      | eff f => rw [hcl] at g; exact g
  rcases f3 with ⟨hw, rfl⟩ | ⟨hw, hf⟩
  · exact fin undef w μ (skip_step hop (w2 hw)) ⟨#[], rfl, rfl⟩ (Mu.le_refl μ) M.post (fun _ _ _ _ _ _ e => e)
  · obtain ⟨q, hq, hqe⟩ := op_env henv
    have hcs := cls_sound y.o
    have hloc := cls_local (r := q) (r' := rp) y.o.op hqe
    unfold FloatFact at hf
    cases hcl : cls y.o.op with
    | bad => rw [hcl] at hf; exact hf.elim
    | eff f => rw [hcl] at hf; exact hf.elim
    | pure f =>
      rw [hcl] at hf hcs hloc
      have hnd := cls_not_defer (o := y.o.op) (by rw [hcl]; intro e; cases e)
      obtain ⟨cv, h1, h2⟩ := hcs P q μ a v hrel.glob hq (by rw [hloc P]; exact hf)
      exact fin cv w μ (val_step hop (w1 hw) hnd (h1 w)) h2 (Mu.le_refl μ) M.post (fun _ _ _ _ _ _ e => e)
    | load f =>
      rw [hcl] at hf hcs hloc
      have hnd := cls_not_defer (o := y.o.op) (by rw [hcl]; intro e; cases e)
      obtain ⟨cv, h1, h2⟩ := hcs P q μ B0 hc w a v hrel hq (by rw [hloc P hc]; exact hf)
      exact fin cv w μ (val_step hop (w1 hw) hnd h1) h2 (Mu.le_refl μ) M.post (fun _ _ _ _ _ _ e => e)
    | alloc f =>
      rw [hcl] at hf hcs hloc
      have hnd := cls_not_defer (o := y.o.op) (by rw [hcl]; intro e; cases e)
      obtain ⟨A, t, id, e1, e2, e3, rfl, e5, e6, e7⟩ := hf
      obtain ⟨hk, arr, el, hv, hrun⟩ := hcs P q μ a A t hrel.glob hq (by rw [hloc P]; exact e2) e3
      obtain ⟨hlen, _, _⟩ := lay_spec _ e3 hv
      have hlen : arr.size = A.n := by simpa using hlen
      have hHR := hrel.bind e6 e7 hv e3 hlen el e5
      have hle : μ.le (fun q => if q = id then some ⟨w.heap.size, 0, A.n⟩ else μ q) := fun q C e => by
        show (if q = id then _ else μ q) = some C
        rw [if_neg (fun e' => by subst e'; rw [e6] at e; cases e)]; exact e
      refine fin _ _ _ (val_step hop (w1 hw) hnd (hrun w)) (MK_sound hk (Nat.le_refl _) (b := w.heap.size) ?_) hle ⟨?_, M.post.le, hHR, M.post.below.alloc hrel.size _⟩ ?_
      · show (if id = id then _ else _) = _
        rw [if_pos rfl]
      · intro q hq
        have hge := M.jge y hy id e1
        show (if q = id then _ else μ q) = μ0 q
        rw [if_neg (fun e' => by subst e'; omega)]
        exact M.post.ext q hq
      · intro z hz hzD hzy q hJ hq
        show (if q = id then _ else μ q) = none
        rw [if_neg (M.apart z hz y hy hzy q id hJ e1)]
        exact hq
end Go.Ev
