/- Regions whose order is open: what holds along every order. -/
import Derived.Test.YtbdhjclehikikabGreatDoorEvPlan
namespace Go.Ev
open Go.RowKit
set_option linter.unusedVariables false
set_option linter.unusedSimpArgs false

/-! ### What an operation reads and writes -/
def tmpOf (x : Operand) : Option Nat := match x with | .tmp t => some t | _ => none
def guardL (ops : Array Oper) (o : Oper) : List Nat := match o.guard with | some g => (gslot ops g.1).toList | none => []
def readL (ops : Array Oper) (o : Oper) : List Nat := o.op.operands.toList.filterMap tmpOf ++ guardL ops o
theorem readL_mask {ops : Array Oper} {o : Oper} {s : Nat} (h : s ∈ readL ops o) : (rMask ops o).testBit s = true := by
  unfold rMask
  rw [lor_test, Bool.or_eq_true]
  rcases List.mem_append.1 h with h | h
  · left
    generalize o.op.operands.toList = l at h ⊢
    induction l with
    | nil => simp at h
    | cons x l ih =>
      rw [List.foldr_cons, lor_test, Bool.or_eq_true]
      rw [List.filterMap_cons] at h
      cases hx : tmpOf x with
      | none => rw [hx] at h; exact .inr (ih h)
      | some t =>
        rw [hx] at h
        rcases List.mem_cons.1 h with e | e
        · left
          subst e
          cases x <;> simp only [tmpOf] at hx <;> cases hx
          show (bit s).testBit s = true
          rw [bit_test]; simp
        · exact .inr (ih e)
  · right
    unfold guardL at h
    split at h
    · rename_i g hg
      cases hs : gslot ops g.1 with
      | none => rw [hs] at h; simp at h
      | some t =>
        rw [hs] at h
        simp at h
        subst h
        rw [hg]
        simp only
        rw [hs]
        show (bit s).testBit s = true
        rw [bit_test]; simp
    · simp at h
theorem dst_mask {o : Oper} {s : Nat} (h : o.dst = some s) : (wMask o).testBit s = true := by
  unfold wMask
  rw [h]
  show (bit s).testBit s = true
  rw [bit_test]; simp

/-- The slots of a list, and no other. -/
theorem restr (r : Tr AV) : ∀ (S : List Nat), ∃ q : Tr AV, (∀ s ∈ S, q.get (pathOf s) = r.get (pathOf s)) ∧ ∀ s, s ∉ S → q.get (pathOf s) = none
  | [] => ⟨.leaf, by simp, fun _ _ => rfl⟩
  | t :: S => by
    obtain ⟨q, h1, h2⟩ := restr r S
    cases hr : r.get (pathOf t) with
    | none =>
      refine ⟨q.del (pathOf t), fun s hs => ?_, fun s hs => ?_⟩
      · rw [Tr.get_del]
        by_cases e : s = t
        · subst e; rw [if_pos rfl, hr]
        · rw [if_neg (fun e' => e (pathOf_inj e'))]
          exact h1 s ((List.mem_cons.1 hs).resolve_left e)
      · rw [Tr.get_del]
        split
        · rfl
        · exact h2 s (fun e => hs (by simp [e]))
    | some v =>
      refine ⟨q.set v (pathOf t), fun s hs => ?_, fun s hs => ?_⟩
      · rw [Tr.get_set]
        by_cases e : s = t
        · subst e; rw [if_pos rfl, hr]
        · rw [if_neg (fun e' => e (pathOf_inj e'))]
          exact h1 s ((List.mem_cons.1 hs).resolve_left e)
      · rw [Tr.get_set, if_neg (fun e' => hs (by rw [pathOf_inj e']; simp))]
        exact h2 s (fun e => hs (by simp [e]))
/-- What is known of the slots that an operation reads is enough. -/
theorem op_env {ops : Array Oper} {μ : Mu} {o : Oper} {rp : Tr AV} {tmps : Array Value} (h : ∀ s ∈ readL ops o, ∀ v, rp.get (pathOf s) = some v → ∃ cv, tmps[s]? = some cv ∧ VR1 μ v cv) :
    ∃ q, RR μ q tmps ∧ ∀ x ∈ o.op.operands.toList, ev x q = ev x rp := by
  obtain ⟨q, h1, h2⟩ := restr rp (readL ops o)
  refine ⟨q, fun s v hv => ?_, fun x hx => ev_slot x (fun t ht => h1 t ?_)⟩
  · by_cases hs : s ∈ readL ops o
    · rw [h1 s hs] at hv; exact h s hs v hv
    · rw [h2 s hs] at hv; cases hv
  · exact List.mem_append.2 (.inl (List.mem_filterMap.2 ⟨x, hx, by rw [ht]; rfl⟩))
theorem wanted_env {ops : Array Oper} {μ : Mu} {o : Oper} {rp : Tr AV} {tmps : Array Value} (h : ∀ s ∈ readL ops o, ∀ v, rp.get (pathOf s) = some v → ∃ cv, tmps[s]? = some cv ∧ VR1 μ v cv) :
    (wantedA ops o rp = .yes → Region.wanted o (yielded ops tmps) = true) ∧ (wantedA ops o rp = .no → Region.wanted o (yielded ops tmps) = false) := by
  refine wantedA_sound (μ := μ) (fun g s v hg hs hv => h s ?_ v hv)
  refine List.mem_append.2 (.inr ?_)
  unfold guardL
  rw [hg]
  simp only
  rw [hs]; simp
theorem wanted_local {ops : Array Oper} {o : Oper} {r r' : Tr AV} (h : ∀ s ∈ readL ops o, r.get (pathOf s) = r'.get (pathOf s)) : wantedA ops o r = wantedA ops o r' := by
  unfold wantedA
  cases hg : o.guard with
  | none => rfl
  | some g =>
    simp only
    cases hs : gslot ops g.1 with
    | none => rfl
    | some s =>
      simp only
      rw [h s (by
        refine List.mem_append.2 (.inr ?_)
        unfold guardL
        rw [hg]; simp only; rw [hs]; simp)]
theorem evs_of_read {ops : Array Oper} {o : Oper} {r r' : Tr AV} (h : ∀ s ∈ readL ops o, r.get (pathOf s) = r'.get (pathOf s)) : ∀ x ∈ o.op.operands.toList, ev x r = ev x r' :=
  fun x hx => ev_slot x (fun t ht => h t (List.mem_append.2 (.inl (List.mem_filterMap.2 ⟨x, hx, by rw [ht]; rfl⟩))))

/-! ### What reads memory reads the same where a block is added -/
theorem cellsAt_mono {h : Heap} {id n : Pos} {o : AO} {n' : Pos} {x : Tr AV × Nat × Bool} (hx : cellsAt h id = some x) (hne : id ≠ n) : cellsAt ⟨h.t.set o n, n'⟩ id = some x := by
  unfold cellsAt at hx ⊢
  rw [show (Heap.mk (Tr.set o h.t n) n').t.get id = h.t.get id by show (Tr.set o h.t n).get id = _; rw [Tr.get_set, if_neg hne]]
  exact hx
def LoadMono (f : Program → Tr AV → Heap → Option AV) : Prop :=
  ∀ (P : Program) (r : Tr AV) (h : Heap) (v : AV) (n n' : Pos) (o : AO), (∀ id o, h.t.get id = some o → id ≠ n) → f P r h = some v → f P r ⟨h.t.set o n, n'⟩ = some v
theorem cellsAt_ne {h : Heap} {id n : Pos} {x : Tr AV × Nat × Bool} (hx : cellsAt h id = some x) (hf : ∀ id o, h.t.get id = some o → id ≠ n) : id ≠ n :=
  hf id _ (HR.cellsAt (μ := fun _ => none) (B0 := 0) (w := default) hx)
theorem mono_load (t : TypeId) (x : Operand) : LoadMono (xLoad t x) := by
  intro P r h v n n' o hf hv
  unfold xLoad loadA at hv ⊢
  split at hv
  · rename_i id off e
    cases hc : cellsAt h id with
    | none => rw [hc] at hv; cases hv
    | some y =>
      rw [hc] at hv
      rw [cellsAt_mono hc (cellsAt_ne hc hf)]
      exact hv
  · cases hv
theorem mono_convert (a b : TypeId) (x : Operand) : LoadMono (xConvert a b x) := by
  intro P r h v n n' o hf hv
  unfold xConvert at hv ⊢
  split at hv
  · rename_i id off len cap sz e
    split at hv
    · split at hv
      · cases hc : cellsAt h id with
        | none => simp only [hc] at hv; cases hv
        | some y =>
          simp only [hc] at hv
          simp only [*, cellsAt_mono hc (cellsAt_ne hc hf)]
      · cases hv
    · cases hv
  · rename_i hne
    exact hv
theorem mono_slice (t : TypeId) (x : Operand) (lo hi mx : Option Operand) : LoadMono (xSliceL t x lo hi mx) := by
  intro P r h v n n' o hf hv
  unfold xSliceL at hv ⊢
  split at hv
  · rename_i m e id off hu ex
    cases mx with
    | some _ => cases hv
    | none =>
      simp only at hv ⊢
      cases hz : tsz P e with
      | none => simp only [hz] at hv; cases hv
      | some z =>
        simp only [hz] at hv
        cases hc : cellsAt h id with
        | none => simp only [hc] at hv; cases hv
        | some q =>
          simp only [hc] at hv
          simp only [hu, ex, hz, cellsAt_mono hc (cellsAt_ne hc hf)]
          exact hv
  · rename_i hne
    exact hv
theorem cls_mono (o : Op) : ∀ f, cls o = .load f → LoadMono f := by
  intro f h
  unfold cls at h
  split at h <;> first
    | (cases h; done)
    | (cases h; exact mono_load _ _)
    | (cases h; exact mono_convert _ _ _)
    | (cases h; exact mono_slice _ _ _ _ _)
    | skip
  rename_i c
  obtain ⟨cl, as, ts⟩ := c
  unfold callC at h
  cases cl with
  | value f => cases h
  | invoke _ _ => cases h
  | builtin b =>
    simp only at h
    unfold builtinC at h
    cases b <;> cases h

/-- A block that no one yet has. -/
theorem HR.free {μ : Mu} {B0 : Nat} {h : Heap} {w : World} (hr : HR μ B0 h w) (o : AO) : HR μ B0 ⟨h.t.set o h.n, h.n.succ⟩ w := by
  have hn : μ h.n = none := by
    cases e : μ h.n with
    | none => rfl
    | some C => exact absurd (hr.fresh _ _ e) (by omega)
  have hs : h.n.succ.toNat = h.n.toNat + 1 := Pos.toNat_succ _
  have key : ∀ id B p, μ id = some B → (Tr.set o h.t h.n).get id = some p → h.t.get id = some p := by
    intro id B p e1 e2
    rw [Tr.get_set] at e2
    rwa [if_neg (fun e => by subst e; rw [hn] at e1; cases e1)] at e2
  refine ⟨fun id B e => ?_, fun id p e => ?_, fun id B p e1 e2 => hr.obj id B p e1 (key id B p e1 e2), fun i j A C p q hij e1 e2 e3 e4 => hr.sep i j A C p q hij e1 e2 (key _ _ _ e1 e3) (key _ _ _ e2 e4),
    fun id B p e1 e2 e3 => hr.own id B p e1 (key _ _ _ e1 e2) e3, hr.glob, hr.size⟩
  · have := hr.fresh id B e; show id.toNat < h.n.succ.toNat; omega
  · have e : (Tr.set o h.t h.n).get id = some p := e
    rw [Tr.get_set] at e
    show id.toNat < h.n.succ.toNat
    by_cases hi : id = h.n
    · rw [hi]; omega
    · rw [if_neg hi] at e; have := hr.live id p e; omega
/-- A block that the evaluator has already laid is made. -/
theorem HR.bind {μ : Mu} {B0 : Nat} {h : Heap} {w : World} (hr : HR μ B0 h w) {id : Pos} (hid : μ id = none) (hlt : id.toNat < h.n.toNat) {l : AV} {n : Nat} {t : Tr AV} {arr : Array Value} (hl : VRL μ l arr.toList) (hlay : lay n l 0 .leaf = some t) (hn : arr.size = n) (el : TypeId)
    (hg : h.t.get id = some (.cells t n false)) : HR (fun q => if q = id then some ⟨w.heap.size, 0, n⟩ else μ q) B0 h (w.alloc (.cells arr el)) := by
  obtain ⟨hlen, hone, hget⟩ := lay_spec n hlay hl
  refine hr.new id hid (.cells t n false) ⟨w.heap.size, 0, n⟩ _ h.n (Nat.le_refl _) hlt rfl h.t (fun q p e => ?_) ⟨Nat.le_refl _, arr, el, (0, 0), ?_, by show 0 + n ≤ arr.size; omega, ⟨fun o ho e => by omega, fun e => by cases e⟩, ?_⟩
  · by_cases hq : q = id
    · subst hq; rw [hg] at e; cases e; exact .inl ⟨rfl, rfl⟩
    · exact .inr ⟨hq, e⟩
  · show (w.heap.push _)[w.heap.size]? = _
    simp
  · intro k v hv
    rcases hget k v hv with ⟨a1, a2, cv, a3, a4⟩ | ⟨a1, a2⟩
    · refine ⟨by show k < n; omega, cv, ?_, a4.mono ?_⟩
      · rw [Nat.zero_add]; simpa using a3
      · intro q C e
        show (if q = id then _ else μ q) = some C
        rw [if_neg (fun e' => by subst e'; rw [hid] at e; cases e)]; exact e
    · cases a2

/-- A step of an operation that comes to a value. -/
theorem val_step {P : Program} {b : Frame} {a : Act} {o : Oper} {ops : Array Oper} {i : Nat} {rest : List Nat} {k : List Item} {cs : List Frame} {w w' : World} {cv : Value} (ho : ops[i]? = some o) (hw : Region.wanted o (yielded ops a.tmps) = true) (hnd : ∀ c, o.op ≠ .defer c)
    (hrun : (execOp a.eval o).run P w = .ok (.value cv) w') : Steps P (lone (b.atR a (.inRegion ops (i :: rest) :: k)) cs w) (lone (b.atR (a.put o.dst cv) (.inRegion ops rest :: k)) cs w') := by
  have hg := stepGR_op (P := P) (b := b) (k := k) (cs := cs) (w := w) (rest := rest) ho hw
  rw [Oper.semAt_eq _ _ _ hnd] at hg
  have hfin : (b.atR a (.inRegion ops (i :: rest) :: k)).finish cv = b.atR (a.put o.dst cv) (.inRegion ops rest :: k) := by
    rw [Frame.finish_atR, ho]; rfl
  refine .one (step_lone_go ?_)
  rw [hg, ← hfin]; simp [stepG.apply, hrun]
theorem skip_step {P : Program} {b : Frame} {a : Act} {o : Oper} {ops : Array Oper} {i : Nat} {rest : List Nat} {k : List Item} {cs : List Frame} {w : World} (ho : ops[i]? = some o) (hw : Region.wanted o (yielded ops a.tmps) = false) :
    Steps P (lone (b.atR a (.inRegion ops (i :: rest) :: k)) cs w) (lone (b.atR (a.put o.dst undef) (.inRegion ops rest :: k)) cs w) := by
  have := stepR_op_skip (P := P) (b := b) (a := a) (k := k) (cs := cs) (w := w) (ops := ops) (i := i) (rest := rest) (by simp [ho, hw])
  rw [ho] at this
  exact .one this
end Go.Ev
