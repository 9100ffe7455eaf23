/- The operations that only compute, read, or make a block: what the evaluator says of each is what the model does. -/
import Derived.Test.YtbdhjclehikikabGreatDoorEvRel
namespace Go.Ev
open Go.RowKit
set_option linter.unusedVariables false
set_option linter.unusedSimpArgs false

theorem run_underlying' {P : Program} {w : World} {t : TypeId} {d : TypeDesc} (h : P.underlying t = some d) : (underlying t).run P w = .ok d w := by
  simp [underlying, h]
theorem run_typeInfo' {P : Program} {w : World} {t : TypeId} {i : TypeInfo} (h : P.info? t = some i) : (typeInfo t).run P w = .ok i w := by
  simp [typeInfo, h]
theorem tsz_info {P : Program} {t : TypeId} {n : Nat} (h : tsz P t = some n) : ∃ i, P.info? t = some i ∧ i.size = n := by
  unfold tsz at h
  cases hi : P.info? t with
  | none => rw [hi] at h; cases h
  | some i => rw [hi] at h; exact ⟨i, rfl, Option.some.inj h⟩
theorem run_sizeOf' {P : Program} {w : World} {t : TypeId} {n : Nat} (h : tsz P t = some n) : (sizeOf t).run P w = .ok n w := by
  obtain ⟨i, hi, hn⟩ := tsz_info h
  simp [sizeOf, run_typeInfo' hi, hn]
theorem run_zero' {P : Program} {w : World} {t : TypeId} {v : Value} (h : tzero P t = some v) : (zeroValue t).run P w = .ok v w := by
  unfold tzero at h
  cases hi : P.info? t with
  | none => rw [hi] at h; cases h
  | some i => rw [hi] at h; simp at h; simp [zeroValue, run_typeInfo' hi, h]
theorem tbytes_info {P : Program} {w : World} {t : TypeId} {n : Nat} (h : tbytes P t = some n) : ∃ i, (typeInfo t).run P w = .ok i w ∧ i.bytes = n := by
  unfold tbytes at h
  cases hi : P.info? t with
  | none => rw [hi] at h; cases h
  | some i => rw [hi] at h; exact ⟨i, run_typeInfo' hi, Option.some.inj h⟩
/-- How a variable is read. -/
theorem tload_cases {P : Program} {t : TypeId} {m : Option Nat} (h : tload P t = some m) :
    (m = none ∧ ∀ w, (isAgg t).run P w = .ok false w) ∨ (∃ n, m = some n ∧ tsz P t = some n ∧ ∀ w, (isAgg t).run P w = .ok true w) := by
  unfold tload at h
  cases hu : P.underlying t with
  | none => rw [hu] at h; cases h
  | some d =>
    rw [hu] at h
    cases d with
    | struct fs =>
      right
      cases hs : tsz P t with
      | none => simp [hs] at h
      | some n => simp [hs] at h; exact ⟨n, h.symm, rfl, fun w => by simp [isAgg, run_underlying' hu]⟩
    | array k e =>
      right
      cases hs : tsz P t with
      | none => simp [hs] at h
      | some n => simp [hs] at h; exact ⟨n, h.symm, rfl, fun w => by simp [isAgg, run_underlying' hu]⟩
    | _ => left; simp at h; exact ⟨h.symm, fun w => by simp [isAgg, run_underlying' hu]⟩

theorem cell_of {w : World} {b off : Nat} {c : Array Value} {el : TypeId} {fz : Nat × Nat} {v : Value} (hb : w.heap[b]? = some (.cells c el fz)) (hv : c[off]? = some v) : w.cell? ⟨b, off, none⟩ = some v := by
  simp [World.cell?, hb, hv]
theorem addr_add (b o n : Nat) : (⟨b, o, none⟩ : Addr).add n = ⟨b, o + n, none⟩ := by
  unfold Addr.add; split <;> simp_all

/-- A value is read at an address. -/
theorem readAt_sound {P : Program} {μ : Mu} {B0 : Nat} {h : Heap} {w : World} (hr : HR μ B0 h w) {t : TypeId} {id : Pos} {off : Nat} {x : Tr AV × Nat × Bool} {v : AV}
    (hx : cellsAt h id = some x) (hv : readAt P t x.1 off = some v) {B : Blk} (hB : μ id = some B) :
    ∃ cv, (loadVar t ⟨B.b, B.base + off, none⟩).run P w = .ok cv w ∧ VR1 μ v cv := by
  have ho := hr.obj id B _ hB (HR.cellsAt (μ := μ) (B0 := B0) (w := w) hx)
  obtain ⟨h0, c, el, fz, h1, h2, h3, h4⟩ := ho
  unfold readAt at hv
  cases hl : tload P t with
  | none => rw [hl] at hv; cases hv
  | some m =>
    rw [hl] at hv
    rcases tload_cases hl with ⟨rfl, ha⟩ | ⟨n, rfl, hs, ha⟩
    · obtain ⟨hk, cv, h5, h6⟩ := h4 off v hv
      refine ⟨cv, ?_, h6⟩
      simp [loadVar, ha, World.cell?, h1, h5]
    · change (coll x.1 n off).map .agg = some v at hv
      cases hc : coll x.1 n off with
      | none => rw [hc] at hv; cases hv
      | some l =>
        rw [hc] at hv
        cases hv
        obtain ⟨vs, h5, h6, h7⟩ := coll_spec (f := fun k => c[B.base + k]?) (fun k v e => (h4 k v e).2) n hc
        refine ⟨.agg vs.toArray, ?_, vs.toArray, rfl, by simpa using h5⟩
        have := run_loadCells_list (P := P) w ⟨B.b, B.base + off, none⟩ vs (fun j v hj => by
          rw [addr_add]
          exact cell_of h1 (by have := h7 j v hj; rwa [show B.base + off + j = B.base + (off + j) by omega]))
        simp [loadVar, ha, run_sizeOf' hs, ← h6, this]

/-- What only computes. -/
def PureOK (f : Program → Tr AV → Option AV) (o : Oper) : Prop :=
  ∀ (P : Program) (r : Tr AV) (μ : Mu) (a : Act) (v : AV), Glob μ → RR μ r a.tmps → f P r = some v → ∃ cv, (∀ w, (execOp a.eval o).run P w = .ok (.value cv) w) ∧ VR1 μ v cv
/-- What reads memory. -/
def LoadOK (f : Program → Tr AV → Heap → Option AV) (o : Oper) : Prop :=
  ∀ (P : Program) (r : Tr AV) (μ : Mu) (B0 : Nat) (h : Heap) (w : World) (a : Act) (v : AV), HR μ B0 h w → RR μ r a.tmps → f P r h = some v → ∃ cv, (execOp a.eval o).run P w = .ok (.value cv) w ∧ VR1 μ v cv
def MK.val (k : MK) (b : Nat) : Value := match k with | .ptr => .pointer (some ⟨b, 0, none⟩) | .slice l c _ => .slice (some ⟨b, 0, none⟩) l c
def MK.ok (k : MK) (n : Nat) : Prop := match k with | .ptr => True | .slice l c z => l ≤ c ∧ c * z ≤ n
/-- What makes a block. -/
def AllocOK (f : Program → Tr AV → Option AL) (o : Oper) : Prop :=
  ∀ (P : Program) (r : Tr AV) (μ : Mu) (a : Act) (A : AL) (t : Tr AV), Glob μ → RR μ r a.tmps → f P r = some A → lay A.n A.l 0 .leaf = some t →
    A.k.ok A.n ∧ ∃ arr el, VRL μ A.l arr.toList ∧ ∀ w, (execOp a.eval o).run P w = .ok (.value (A.k.val w.heap.size)) (w.alloc (.cells arr el))

theorem pure_move {o : Oper} {x : Operand} (ho : o.op = .move x ∨ o.op = .assign x) : PureOK (xMove x) o := by
  intro P r μ a v hg hr hv
  cases hv
  refine ⟨a.eval x, fun w => ?_, ev_sound hg hr x⟩
  rcases ho with ho | ho <;> simp [execOp, ho]
theorem pure_pick {o : Oper} {c x y : Operand} (ho : o.op = .pick c x y) : PureOK (xPick c x y) o := by
  intro P r μ a v hg hr hv
  unfold xPick at hv
  have hc := ev_sound hg hr c
  split at hv
  · rename_i t ht
    rw [ht] at hc
    have hc : a.eval c = .bool t := by simpa [VR] using hc
    cases hv
    cases t with
    | true => exact ⟨a.eval x, fun w => by simp [execOp, ho, hc, asBool], ev_sound hg hr x⟩
    | false => exact ⟨a.eval y, fun w => by simp [execOp, ho, hc, asBool], ev_sound hg hr y⟩
  · cases hv
theorem load_load {o : Oper} {t : TypeId} {x : Operand} (ho : o.op = .load t x) : LoadOK (xLoad t x) o := by
  intro P r μ B0 h w a v hh hr hv
  unfold xLoad loadA at hv
  have hx := ev_sound hh.glob hr x
  split at hv
  · rename_i id off he
    rw [he] at hx
    obtain ⟨B, hB, hx⟩ := hx
    have hx : a.eval x = .pointer (some ⟨B.b, B.base + off, none⟩) := by simpa using hx
    cases hc : cellsAt h id with
    | none => rw [hc] at hv; cases hv
    | some y =>
      rw [hc] at hv
      obtain ⟨cv, h1, h2⟩ := readAt_sound hh hc hv hB
      exact ⟨cv, by simp [execOp, ho, Instr.loadAt, hx, Instr.sureAddr, h1], h2⟩
  · cases hv
theorem pure_extract {o : Oper} {x : Operand} {i : Nat} (ho : o.op = .extract x i) : PureOK (xExtract x i) o := by
  intro P r μ a v hg hr hv
  unfold xExtract at hv
  have hx := ev_sound hg hr x
  split at hv
  · rename_i l he
    rw [he] at hx
    obtain ⟨c, hc, hl⟩ := hx
    have hc : a.eval x = .tuple c := by simpa using hc
    split at hv
    · rename_i y t hd
      cases hv
      obtain ⟨u, hu, hv⟩ := VRL.drop_cons i hl hd
      have hu : c[i]? = some u := by simpa using hu
      exact ⟨u, fun w => by simp [execOp, ho, hc, Instr.extract, hu], hv⟩
    · cases hv
  · cases hv
theorem pure_nilCheck {o : Oper} {x : Operand} (ho : o.op = .nilCheck x) : PureOK (xNilCheck x) o := by
  intro P r μ a v hg hr hv
  unfold xNilCheck at hv
  have hx := ev_sound hg hr x
  split at hv
  · rename_i id off he
    rw [he] at hx
    cases hv
    have h2 := hx
    obtain ⟨B, hB, hx⟩ := hx
    have hx : a.eval x = .pointer (some ⟨B.b, B.base + off, none⟩) := by simpa using hx
    exact ⟨a.eval x, fun w => by simp [execOp, ho, hx], h2⟩
  · rename_i f p q he
    rw [he] at hx
    cases hv
    have h2 := hx
    obtain ⟨F, C, hx, _⟩ := hx
    have hx : a.eval x = .func (.func f) F C := by simpa using hx
    exact ⟨a.eval x, fun w => by simp [execOp, ho, hx], h2⟩
  · rename_i id he
    rw [he] at hx
    cases hv
    have h2 := hx
    obtain ⟨B, hB, hx⟩ := hx
    have hx : a.eval x = .func (.yield B.b) #[] #[] := by simpa using hx
    exact ⟨a.eval x, fun w => by simp [execOp, ho, hx], h2⟩
  · rename_i t u he
    rw [he] at hx
    cases hv
    have h2 := hx
    obtain ⟨y, hx, _⟩ := hx
    have hx : a.eval x = .iface t y := by simpa using hx
    exact ⟨a.eval x, fun w => by simp [execOp, ho, hx], h2⟩
  · cases hv
theorem pure_makeFunc {o : Oper} {fn : Fn} {f c : Array Operand} (ho : o.op = .makeFunc fn f c) : PureOK (xMakeFunc fn f c) o := by
  intro P r μ a v hg hr hv
  unfold xMakeFunc at hv
  cases hy : isYield fn with
  | true => rw [hy] at hv; cases hv
  | false =>
    rw [hy] at hv
    cases hv
    refine ⟨.func fn (f.map a.eval) (c.map a.eval), fun w => by simp [execOp, ho, Instr.makeFunc], _, _, rfl, hy, ?_, ?_⟩
    · simpa using evs_sound hg hr f.toList
    · simpa using evs_sound hg hr c.toList
theorem pure_makeInterface {o : Oper} {t : TypeId} {x : Operand} (ho : o.op = .makeInterface t x) : PureOK (xMakeInterface t x) o := by
  intro P r μ a v hg hr hv
  unfold xMakeInterface at hv
  cases hu : P.underlying t with
  | none => rw [hu] at hv; cases hv
  | some d =>
    rw [hu] at hv
    cases d <;> first
      | (cases hv; done)
      | (cases hv; exact ⟨.iface t (a.eval x), fun w => by simp [execOp, ho, Instr.makeInterface, run_underlying' hu], _, rfl, ev_sound hg hr x⟩)

/-! ### Composites -/
theorem okV_cells {μ : Mu} {a : AV} {v : Value} (h : VR1 μ a v) (hk : okV a = true) : VRL μ a.cells v.cells.toList :=
  h.cells (fun e => by subst e; cases hk) (fun l e => by subst e; cases hk)
theorem lay_ne {n : Nat} {a : AV} {off : Nat} {c t : Tr AV} (h : lay n a.cells off c = some t) : a ≠ .undef ∧ ∀ l, a ≠ .tup l := by
  have key : ∀ n, lay n (.cons .undef .nil) off c ≠ some t := by
    intro n hn
    cases n with
    | zero => cases hn
    | succ n => cases hn
  exact ⟨fun e => by subst e; exact key n h, fun l e => by subst e; exact key n h⟩
theorem tz_sound {P : Program} {t : TypeId} {z : AV} (μ : Mu) (h : tzcells P t = some z) : ∃ v, tzero P t = some v ∧ VRL μ z v.cells.toList := by
  unfold tzcells at h
  cases hz : tzero P t with
  | none => rw [hz] at h; cases h
  | some v =>
    rw [hz] at h
    change Bool.casesOn (motive := fun _ => Option AV) (okV (constAV v)) none (some (constAV v).cells) = some z at h
    cases hk : okV (constAV v) with
    | false => rw [hk] at h; cases h
    | true => rw [hk] at h; cases h; exact ⟨v, rfl, okV_cells (constAV_sound μ v) hk⟩

theorem getElem?_foldl_setIfInBounds (cs : List (Value × Nat)) (off : Nat) : ∀ (c : Array Value) (k : Nat) (s : Nat), (∀ i v j, cs[i]? = some (v, j) → j = s + i) → off + s + cs.length ≤ c.size →
    (cs.foldl (fun a x => a.setIfInBounds (off + x.2) x.1) c)[k]? = if off + s ≤ k ∧ k < off + s + cs.length then (cs[k - (off + s)]?).map (·.1) else c[k]? := by
  induction cs with
  | nil => intro c k s _ _; simp; omega
  | cons x t ih =>
    intro c k s hj hs
    obtain ⟨v, j⟩ := x
    have hj0 : j = s := by have := hj 0 v j rfl; omega
    subst hj0
    simp only [List.foldl_cons]
    rw [ih _ k (j + 1) (fun i v' j' e => by have := hj (i + 1) v' j' (by simpa using e); omega) (by simp at hs ⊢; omega)]
    simp only [List.length_cons] at hs ⊢
    by_cases h1 : off + (j + 1) ≤ k ∧ k < off + (j + 1) + t.length
    · rw [if_pos h1, if_pos (by omega)]
      rw [show k - (off + j) = (k - (off + (j + 1))) + 1 by omega]
      simp
    · rw [if_neg h1]
      by_cases h2 : k = off + j
      · subst h2
        rw [if_pos (by omega)]
        rw [Array.getElem?_setIfInBounds_self_of_lt (by omega)]
        simp
      · rw [if_neg (by omega), Array.getElem?_setIfInBounds_ne (by omega)]
theorem fill_one (cells : Array Value) (v : Value) (off : Nat) (h : off + v.cells.size ≤ cells.size) :
    (v.cells.zipIdx.foldl (fun cs x => cs.setIfInBounds (off + x.2) x.1) cells).toList = cells.toList.take off ++ v.cells.toList ++ cells.toList.drop (off + v.cells.toList.length) := by
  apply List.ext_getElem?
  intro k
  rw [Array.getElem?_toList, ← Array.foldl_toList, getElem?_foldl_setIfInBounds _ off cells k 0 (by
    intro i v' j e
    simp at e
    obtain ⟨h1, h2, h3⟩ := e
    omega) (by simpa using h)]
  have e1 : v.cells.zipIdx.toList.length = v.cells.size := by simp
  rw [e1]
  simp only [Nat.add_zero]
  by_cases h1 : off ≤ k ∧ k < off + v.cells.size
  · rw [if_pos h1, List.append_assoc, List.getElem?_append_right (by simp; omega), List.getElem?_append_left (by simp; omega)]
    have : min off cells.size = off := by omega
    simp [this]
    cases v.cells[k - off]? <;> simp
  · rw [if_neg h1]
    by_cases h2 : k < off
    · rw [List.append_assoc, List.getElem?_append_left (by simp; omega), List.getElem?_take_of_lt h2, Array.getElem?_toList]
    · rw [List.append_assoc, List.getElem?_append_right (by simp; omega), List.getElem?_append_right (by simp; omega)]
      simp only [List.length_take, Array.length_toList, List.getElem?_drop, Array.getElem?_toList]
      congr 1
      have : min off cells.size = off := by omega
      omega

theorem band_iff {a b : Bool} : band a b = true ↔ a = true ∧ b = true := by cases a <;> cases b <;> simp [band]
theorem fills_sound {μ : Mu} {a : Act} {r : Tr AV} (hg : Glob μ) (hr : RR μ r a.tmps) (place place' : Nat → Option (Nat × Nat)) (hp : ∀ i q, place i = some q → place' i = some q) (tot : Nat) :
    ∀ (ps : List (Nat × Operand)) {l l' : AV} {cells : Array Value}, VRL μ l cells.toList → cells.size = tot → fills place tot ps r l = some l' →
      ∃ cells', Instr.fill place' cells (ps.map fun x => (x.1, a.eval x.2)) = some cells' ∧ VRL μ l' cells'.toList ∧ cells'.size = tot
  | [], l, l', cells, hl, hs, h => by cases (show some l = some l' from h); exact ⟨cells, rfl, hl, hs⟩
  | p :: ps, l, l', cells, hl, hs, h => by
    change Option.casesOn (motive := fun _ => Option AV) (place p.1) none (fun q =>
      Bool.casesOn (motive := fun _ => Option AV) (band (band (okV (ev p.2 r)) (Nat.beq (ev p.2 r).cells.len q.2)) (Nat.ble (Nat.add q.1 q.2) tot)) none (fills place tot ps r (splice q.1 l (ev p.2 r).cells))) = some l' at h
    cases hq : place p.1 with
    | none => rw [hq] at h; cases h
    | some q =>
      rw [hq] at h
      obtain ⟨off, sz⟩ := q
      simp only at h
      cases hb : band (band (okV (ev p.2 r)) (Nat.beq (ev p.2 r).cells.len sz)) (Nat.ble (Nat.add off sz) tot) with
      | false => rw [hb] at h; cases h
      | true =>
        rw [hb] at h
        obtain ⟨hb1, hb2⟩ := band_iff.1 hb
        obtain ⟨hb0, hb1⟩ := band_iff.1 hb1
        have hv := okV_cells (ev_sound hg hr p.2) hb0
        have hlen := hv.len
        have e1 := Nat.eq_of_beq_eq_true hb1
        have e2 := Nat.le_of_ble_eq_true hb2
        change off + sz ≤ tot at e2
        have e3 : (a.eval p.2).cells.size = sz := by rw [← e1, hlen]; simp
        have hsp := splice_spec off hl hv (by simp; omega)
        have hfo := fill_one cells (a.eval p.2) off (by omega)
        rw [← hfo] at hsp
        obtain ⟨c', h1, h2, h3⟩ := fills_sound hg hr place place' hp tot ps hsp (by
          have := congrArg List.length hfo
          rw [Array.length_toList] at this
          rw [this]; simp; omega) h
        refine ⟨c', ?_, h2, h3⟩
        simp only [List.map_cons, Instr.fill, hp _ _ hq]
        rw [if_neg]
        · exact h1
        · simp; omega

theorem run_listMapM {α β : Type} {P : Program} {w : World} (f : α → Sem β) : ∀ (xs : List α) (ys : List β), xs.length = ys.length → (∀ (i : Nat) (x : α) (y : β), xs[i]? = some x → ys[i]? = some y → (f x).run P w = .ok y w) → (xs.mapM f).run P w = .ok ys w
  | [], [], _, _ => rfl
  | x :: xs, y :: ys, hl, h => by
    have h1 := h 0 x y rfl rfl
    have h2 := run_listMapM f xs ys (by simpa using hl) (fun i a b ha hb => h (i + 1) a b (by simpa using ha) (by simpa using hb))
    simp [List.mapM_cons, h1, h2]
  | [], _ :: _, hl, _ => absurd hl (by simp)
  | _ :: _, [], hl, _ => absurd hl (by simp)
theorem run_arrayMapM {α β : Type} {P : Program} {w : World} (f : α → Sem β) (xs : Array α) (ys : Array β) (hl : xs.size = ys.size) (h : ∀ (i : Nat) (x : α) (y : β), xs[i]? = some x → ys[i]? = some y → (f x).run P w = .ok y w) : (xs.mapM f).run P w = .ok ys w := by
  rw [Array.mapM_eq_mapM_toList]
  simp [run_listMapM f xs.toList ys.toList (by simpa using hl) (fun i x y h1 h2 => h i x y (by simpa using h1) (by simpa using h2))]

theorem pure_build {o : Oper} {t : TypeId} {ps : Array (Nat × Operand)} (ho : o.op = .build t ps) : PureOK (xBuild t ps) o := by
  intro P r μ a v hg hr hv
  unfold xBuild at hv
  cases hz : tzcells P t with
  | none => rw [hz] at hv; cases hv
  | some z =>
    rw [hz] at hv
    cases hpl : places P t with
    | none => simp only [hpl] at hv; cases hv
    | some pl =>
      simp only [hpl] at hv
      obtain ⟨zv, hz1, hz2⟩ := tz_sound μ hz
      cases hf : fills pl z.len ps.toList r z with
      | none => rw [hf] at hv; cases hv
      | some l =>
        rw [hf] at hv
        cases hv
        have hzl := hz2.len
        have key : ∀ pl', (∀ i q, pl i = some q → pl' i = some q) → ∃ c : Array Value, Instr.fill pl' zv.cells (ps.toList.map fun x => (x.1, a.eval x.2)) = some c ∧ VRL μ l c.toList :=
          fun pl' hpp => by
            obtain ⟨c, h1, h2, _⟩ := fills_sound hg hr pl pl' hpp z.len ps.toList hz2 (by rw [hzl]; simp) hf
            exact ⟨c, h1, h2⟩
        unfold places at hpl
        cases hu : P.underlying t with
        | none => rw [hu] at hpl; cases hpl
        | some d =>
          rw [hu] at hpl
          cases d with
          | struct fs =>
            change Bool.casesOn (motive := fun _ => Option (Nat → Option (Nat × Nat))) (fs.toList.all fun f => (tsz P f.type).isSome) none (some fun i => (fs[i]?).bind fun f => (tsz P f.type).map fun n => (f.offset, n)) = some pl at hpl
            cases hall : fs.toList.all fun f => (tsz P f.type).isSome with
            | false => rw [hall] at hpl; cases hpl
            | true =>
              rw [hall] at hpl
              cases hpl
              have hall' : ∀ f ∈ fs.toList, ∃ n, tsz P f.type = some n := fun f hf => by
                have := List.all_eq_true.1 hall f hf
                exact Option.isSome_iff_exists.1 this
              obtain ⟨c, h1, h2⟩ := key (fun i => (fs.map fun f => (f.offset, (tsz P f.type).getD 0))[i]?) (by
                intro i q e
                cases hfi : fs[i]? with
                | none => simp [hfi] at e
                | some f =>
                  simp only [hfi, Option.bind_some] at e
                  cases hn : tsz P f.type with
                  | none => rw [hn] at e; cases e
                  | some n => rw [hn] at e; cases e; simp [hfi, hn])
              refine ⟨.agg c, fun w => ?_, c, rfl, h2⟩
              have hm : (fs.mapM fun f => Functor.map (Prod.mk f.offset) (sizeOf f.type) : Sem _).run P w = .ok (fs.map fun f => (f.offset, (tsz P f.type).getD 0)) w := by
                apply run_arrayMapM
                · simp
                · intro i f y h3 h4
                  obtain ⟨n, hn⟩ := hall' f (by simpa using Array.mem_of_getElem? h3)
                  simp [h3, hn] at h4
                  simp [run_sizeOf' hn, ← h4]
              simp only [execOp, ho, Instr.build]
              simp [run_zero' hz1, run_underlying' hu]
              rw [hm]
              simp only [Array.getElem?_map] at h1
              simp [h1]
          | array n e =>
            cases hs : tsz P e with
            | none => simp [hs] at hpl
            | some sz =>
              simp [hs] at hpl
              obtain ⟨c, h1, h2⟩ := key (fun i => some (i * sz, sz)) (by intro i q e; rw [← hpl] at e; exact e)
              refine ⟨.agg c, fun w => ?_, c, rfl, h2⟩
              simp [execOp, ho, Instr.build, run_zero' hz1, run_underlying' hu, run_sizeOf' hs, h1]
          | _ => cases hpl
/-! ### Addresses and parts -/
theorem fieldOff_sound {P : Program} {s : TypeId} {f : Nat} {q : Nat × TypeId} (h : fieldOff P s f = some q) : ∃ fs fd, P.underlying s = some (.struct fs) ∧ fs[f]? = some fd ∧ fd.offset = q.1 ∧ fd.type = q.2 := by
  unfold fieldOff at h
  cases hu : P.underlying s with
  | none => rw [hu] at h; cases h
  | some d =>
    rw [hu] at h
    cases d with
    | struct fs =>
      cases hf : fs[f]? with
      | none => simp [hf] at h
      | some fd => simp [hf] at h; exact ⟨fs, fd, rfl, hf, by rw [← h], by rw [← h]⟩
    | _ => cases h
theorem pure_fieldAddr {o : Oper} {s : TypeId} {x : Operand} {f : Nat} (ho : o.op = .fieldAddr s x f) : PureOK (xFieldAddr s x f) o := by
  intro P r μ a v hg hr hv
  unfold xFieldAddr at hv
  have hx := ev_sound hg hr x
  split at hv
  · rename_i id off he
    rw [he] at hx
    obtain ⟨B, hB, hx⟩ := hx
    have hx : a.eval x = .pointer (some ⟨B.b, B.base + off, none⟩) := by simpa using hx
    cases hk : fieldOffNz P s f with
    | none => rw [hk] at hv; cases hv
    | some k =>
      rw [hk] at hv
      cases hv
      unfold fieldOffNz at hk
      cases hq : fieldOff P s f with
      | none => rw [hq] at hk; cases hk
      | some q =>
        rw [hq] at hk
        obtain ⟨fs, fd, h1, h2, h3, h4⟩ := fieldOff_sound hq
        cases hn : tsz P q.2 with
        | none => simp [hn] at hk
        | some n =>
          simp [hn] at hk
          obtain ⟨hn0, hk⟩ := hk
          refine ⟨.pointer (some ⟨B.b, B.base + (off + k), none⟩), fun w => ?_, B, hB, rfl⟩
          have hs : (sizeOf fd.type).run P w = .ok n w := run_sizeOf' (by rw [h4]; exact hn)
          simp [execOp, ho, hx, Instr.fieldAt, run_underlying' h1, h2, Instr.sureAddr, fieldPlace, hs, hn0, addr_add, h3, hk]
          omega
  · cases hv
theorem part_sound {P : Program} {μ : Mu} {t : TypeId} {l : AV} {cs : Array Value} {off : Nat} {v : AV} (hl : VRL μ l cs.toList) (hv : partA P t l off = some v) :
    ∃ cv, (∀ w, (part t cs off).run P w = .ok cv w) ∧ VR1 μ v cv := by
  unfold partA at hv
  cases ht : tload P t with
  | none => rw [ht] at hv; cases hv
  | some m =>
    rw [ht] at hv
    rcases tload_cases ht with ⟨rfl, ha⟩ | ⟨n, rfl, hs, ha⟩
    · simp only at hv
      split at hv
      · rename_i y u hd
        cases hv
        obtain ⟨cv, h1, h2⟩ := VRL.drop_cons off hl hd
        have h1 : cs[off]? = some cv := by simpa using h1
        exact ⟨cv, fun w => by simp [part, ha, h1], h2⟩
      · cases hv
    · change (takeL n (dropL off l)).map .agg = some v at hv
      cases htk : takeL n (dropL off l) with
      | none => rw [htk] at hv; cases hv
      | some l' =>
        rw [htk] at hv
        cases hv
        refine ⟨.agg (cs.extract off (off + n)), fun w => by simp [part, ha, run_sizeOf' hs], _, rfl, ?_⟩
        by_cases hle : off ≤ cs.toList.length ∨ n = 0
        · by_cases h00 : n = 0
          · subst h00
            cases (show some AV.nil = some l' from htk)
            have : (cs.extract off (off + 0)).toList = [] := by simp
            rw [this]; rfl
          have hle := hle.resolve_right h00
          have h1 := VRL.drop off hl hle
          have h2 := VRL.take n h1 htk
          have : (cs.extract off (off + n)).toList = (cs.toList.drop off).take n := by
            rw [Array.toList_extract, List.extract_eq_take_drop, Nat.add_sub_cancel_left]
          rw [this]; exact h2.1
        · exfalso
          have h0 : ¬ off ≤ cs.toList.length := fun e => hle (.inl e)
          have hn0 : n ≠ 0 := fun e => hle (.inr e)
          have h3 := hl.len
          have key : ∀ (k : Nat) (l : AV) (vs : List Value), VRL μ l vs → vs.length < k → dropL k l = .undef := by
            intro k
            induction k with
            | zero => intro l vs _ h; omega
            | succ k ih =>
              intro l vs h hk
              cases l with
              | cons y u => obtain ⟨v, r, rfl, _, h2⟩ := h; exact ih u r h2 (by simpa using hk)
              | nil => rfl
              | _ => exact h.elim
          rw [key off l _ hl (by omega)] at htk
          cases n with
          | zero => exact hn0 rfl
          | succ n => cases htk
theorem pure_field {o : Oper} {t : TypeId} {x : Operand} {f : Nat} (ho : o.op = .field t x f) : PureOK (xField t x f) o := by
  intro P r μ a v hg hr hv
  unfold xField at hv
  have hx := ev_sound hg hr x
  split at hv
  · rename_i l he
    rw [he] at hx
    obtain ⟨c, hc, hl⟩ := hx
    have hc : a.eval x = .agg c := by simpa using hc
    cases hq : fieldOff P t f with
    | none => rw [hq] at hv; cases hv
    | some q =>
      rw [hq] at hv
      obtain ⟨fs, fd, h1, h2, h3, h4⟩ := fieldOff_sound hq
      obtain ⟨cv, h5, h6⟩ := part_sound hl hv
      exact ⟨cv, fun w => by simp [execOp, ho, hc, Instr.field, run_underlying' h1, h2, asAgg, h3, h4, h5], h6⟩
  · cases hv
theorem idx_sound {μ : Mu} {x : AV} {cv : Value} (hx : VR1 μ x cv) {len : Nat} {k : Nat → Option AV} {v : AV} (h : idx x len k = some v) : ∃ kd i, cv = .int kd (Int.ofNat i) ∧ i < len ∧ k i = some v := by
  unfold idx at h
  split at h
  · rename_i kd i
    have hx : cv = .int kd (Int.ofNat i) := by simpa [VR] using hx
    cases hl : natLt i len with
    | false => rw [hl] at h; cases h
    | true => rw [hl] at h; exact ⟨kd, i, hx, natLt_iff.1 hl, h⟩
  · cases h
theorem pure_indexAddr {o : Oper} {t : TypeId} {x ix : Operand} (ho : o.op = .indexAddr t x ix) : PureOK (xIndexAddr t x ix) o := by
  intro P r μ a v hg hr hv
  unfold xIndexAddr at hv
  have hx := ev_sound hg hr x
  have hi := ev_sound hg hr ix
  split at hv
  · rename_i e id off len cap sz hu he
    rw [he] at hx
    obtain ⟨B, c, hB, hx, hc1, hc2, hc3⟩ := hx
    have hx : a.eval x = .slice (some ⟨B.b, B.base + off, none⟩) len c := by simpa using hx
    cases hz : tsz P e with
    | none => rw [hz] at hv; cases hv
    | some z =>
      simp only [hz] at hv
      cases hzs : Nat.beq z sz with
      | false => simp only [hzs] at hv; cases hv
      | true =>
        have hzs := Nat.eq_of_beq_eq_true hzs
        subst hzs
        simp only [Nat.beq_refl] at hv
        obtain ⟨kd, i, h1, h2, h3⟩ := idx_sound hi hv
        cases h3
        refine ⟨.pointer (some ⟨B.b, B.base + (off + i * z), none⟩), fun w => ?_, B, hB, rfl⟩
        simp [execOp, ho, hx, h1, Instr.indexAt, asIntOf, run_underlying' hu, run_sizeOf' hz, addr_add, h2]
        omega
  · rename_i len e id off hu he
    rw [he] at hx
    obtain ⟨B, hB, hx⟩ := hx
    have hx : a.eval x = .pointer (some ⟨B.b, B.base + off, none⟩) := by simpa using hx
    cases hz : tsz P e with
    | none => rw [hz] at hv; cases hv
    | some z =>
      simp only [hz] at hv
      obtain ⟨kd, i, h1, h2, h3⟩ := idx_sound hi hv
      cases h3
      refine ⟨.pointer (some ⟨B.b, B.base + (off + i * z), none⟩), fun w => ?_, B, hB, rfl⟩
      simp [execOp, ho, hx, h1, Instr.indexAt, asIntOf, run_underlying' hu, Instr.sureAddr, run_sizeOf' hz, addr_add, h2]
      omega
  · cases hv
theorem nthB_spec : ∀ (s : List Nat) (i b : Nat), nthB s i = some b → s[i]? = some b
  | [], i, b, h => by cases h
  | a :: s, 0, b, h => by cases (show some a = some b from h); rfl
  | a :: s, i + 1, b, h => by simpa using nthB_spec s i b h
theorem pure_index {o : Oper} {t : TypeId} {x ix : Operand} (ho : o.op = .index t x ix) : PureOK (xIndex t x ix) o := by
  intro P r μ a v hg hr hv
  unfold xIndex at hv
  have hx := ev_sound hg hr x
  have hi := ev_sound hg hr ix
  split at hv
  · rename_i s hu he
    rw [he] at hx
    obtain ⟨bs, hx, hs⟩ := hx
    have hx : a.eval x = .string bs := by simpa using hx
    split at hv
    · rename_i kd i hie
      rw [hie] at hi
      have hi : a.eval ix = .int kd (Int.ofNat i) := by simpa [VR] using hi
      cases hn : nthB s i with
      | none => rw [hn] at hv; cases hv
      | some b =>
        rw [hn] at hv
        cases hv
        have hb := nthB_spec _ _ _ hn
        rw [← hs] at hb
        simp only [List.getElem?_map] at hb
        cases hbi : bs.data.toList[i]? with
        | none => rw [hbi] at hb; cases hb
        | some u =>
          rw [hbi] at hb
          have hb : u.toNat = b := by simpa using hb
          refine ⟨.int .u8 b, fun w => ?_, rfl⟩
          have hsz : i < bs.size := by
            have := (List.getElem?_eq_some_iff.1 hbi).1
            rw [Array.length_toList] at this
            exact this
          have hbi' : bs[i]? = some u := by
            rw [Array.getElem?_toList] at hbi
            obtain ⟨hlt, he⟩ := Array.getElem?_eq_some_iff.1 hbi
            rw [getElem?_pos bs i hsz]
            exact congrArg some he
          have hrun : (Instr.index t (.string bs) (.int kd (i : Int))).run P w = .ok (.int .u8 b) w := by
            unfold Instr.index
            simp only [asIntOf, Sem.run_bind, Sem.run_pure, Result.andThen_ok, run_underlying' hu]
            rw [if_pos (Int.natCast_nonneg i)]
            rw [show ((i : Int)).toNat = i from rfl, hbi']
            simp only [Sem.run_pure, hb]
          simp [execOp, ho, hx, hi, hrun]
    · cases hv
  · rename_i len e l hu he
    rw [he] at hx
    obtain ⟨c, hc, hl⟩ := hx
    have hc : a.eval x = .agg c := by simpa using hc
    cases hz : tsz P e with
    | none => rw [hz] at hv; cases hv
    | some z =>
      simp only [hz] at hv
      obtain ⟨kd, i, h1, h2, h3⟩ := idx_sound hi hv
      obtain ⟨cv, h5, h6⟩ := part_sound hl h3
      refine ⟨cv, fun w => ?_, h6⟩
      have h5 : ∀ w, (part e c (i * z)).run P w = .ok cv w := h5
      simp [execOp, ho, hc, h1, Instr.index, asIntOf, run_underlying' hu, run_sizeOf' hz, h2, h5]
  · cases hv
end Go.Ev
