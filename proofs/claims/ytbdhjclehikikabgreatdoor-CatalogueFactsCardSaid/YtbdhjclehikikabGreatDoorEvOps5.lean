/- The operations that change memory: store, append, copy; calls. -/
import Derived.Test.YtbdhjclehikikabGreatDoorEvOps4
namespace Go.Ev
open Go.RowKit
set_option linter.unusedVariables false
set_option linter.unusedSimpArgs false

theorem setCell_heap_other (w : World) (a : Addr) (v : Value) (k : Nat) (h : k ≠ a.block) : (w.setCell a v).heap[k]? = w.heap[k]? := by
  simp only [World.setCell, Array.getElem?_modify]
  rw [if_neg (by omega)]
theorem setCell_heap_self (w : World) (b off : Nat) (v : Value) (c : Array Value) (el : TypeId) (fz : Nat × Nat) (h : w.heap[b]? = some (.cells c el fz)) :
    (w.setCell ⟨b, off, none⟩ v).heap[b]? = some (.cells (c.setIfInBounds off v) el fz) := by
  simp [World.setCell, Array.getElem?_modify, h]
theorem setCell_size (w : World) (a : Addr) (v : Value) : (w.setCell a v).heap.size = w.heap.size := by simp [World.setCell]
theorem setCells_spec (b : Nat) (el : TypeId) (fz : Nat × Nat) : ∀ (vs : List Value) (o : Nat) (w : World) (c : Array Value), w.heap[b]? = some (.cells c el fz) → o + vs.length ≤ c.size →
    ∃ c', (w.setCells b o vs).heap[b]? = some (.cells c' el fz) ∧ c'.size = c.size ∧ (∀ k, c'[k]? = if o ≤ k ∧ k < o + vs.length then vs[k - o]? else c[k]?) ∧ (∀ k, k ≠ b → (w.setCells b o vs).heap[k]? = w.heap[k]?) ∧
      (w.setCells b o vs).heap.size = w.heap.size ∧ (w.setCells b o vs).os = w.os ∧ (w.setCells b o vs).tape = w.tape ∧ (w.setCells b o vs).output = w.output
  | [], o, w, c, h, _ => ⟨c, h, rfl, fun k => by rw [if_neg (by simp)], fun _ _ => rfl, rfl, rfl, rfl, rfl⟩
  | v :: vs, o, w, c, h, hl => by
    simp only [List.length_cons] at hl
    have h1 := setCell_heap_self w b o v c el fz h
    obtain ⟨c', h2, h3, h4, h5, h6, h7, h8, h9⟩ := setCells_spec b el fz vs (o + 1) (w.setCell ⟨b, o, none⟩ v) (c.setIfInBounds o v) h1 (by simp; omega)
    refine ⟨c', h2, by rw [h3]; simp, fun k => ?_, fun k hk => ?_, by show ((w.setCell ⟨b, o, none⟩ v).setCells b (o + 1) vs).heap.size = _; rw [h6, setCell_size], h7, h8, h9⟩
    · rw [h4 k]
      simp only [List.length_cons]
      by_cases e1 : o + 1 ≤ k ∧ k < o + 1 + vs.length
      · rw [if_pos e1, if_pos (by omega), show k - o = (k - (o + 1)) + 1 by omega]; simp
      · rw [if_neg e1]
        by_cases e2 : k = o
        · subst e2
          rw [if_pos (by omega), Array.getElem?_setIfInBounds_self_of_lt (by omega)]
          simp
        · rw [if_neg (by omega), Array.getElem?_setIfInBounds_ne (by omega)]
    · show ((w.setCell ⟨b, o, none⟩ v).setCells b (o + 1) vs).heap[k]? = _
      rw [h5 k hk, setCell_heap_other _ _ _ _ hk]

/-- A row of cells is written. -/
theorem putAt_sound {P : Program} {μ : Mu} {B0 : Nat} {h h' : Heap} {w : World} (hr : HR μ B0 h w) {id : Pos} {off n : Nat} {l : AV} {vs : List Value} (hp : putAt id off n l h = some h') (hl : VRL μ l vs) {B : Blk} (hB : μ id = some B) :
    vs.length = n ∧ (storeCells ⟨B.b, B.base + off, none⟩ vs).run P w = .ok () (w.setCells B.b (B.base + off) vs) ∧ Post μ B0 h w μ h' (w.setCells B.b (B.base + off) vs) := by
  unfold putAt at hp
  cases hc : cellsAt h id with
  | none => rw [hc] at hp; cases hp
  | some x =>
    obtain ⟨t, m, ro⟩ := x
    rw [hc] at hp
    cases ro with
    | true => cases hp
    | false =>
      simp only at hp
      cases hb : Nat.ble (Nat.add off n) m with
      | false => rw [hb] at hp; cases hp
      | true =>
        rw [hb] at hp
        simp only at hp
        cases hlay : lay n l off t with
        | none => rw [hlay] at hp; cases hp
        | some t' =>
          rw [hlay] at hp
          cases hp
          have hb := Nat.le_of_ble_eq_true hb
          change off + n ≤ m at hb
          have hg := HR.cellsAt (μ := μ) (B0 := B0) (w := w) hc
          obtain ⟨h0, c, el, fz, h1, h2, h3, h4⟩ := hr.obj id B _ hB hg
          have h0 : m ≤ B.n := h0
          obtain ⟨hlen, hone, hget⟩ := lay_spec n hlay hl
          obtain ⟨c', g1, g2, g3, g4, g5, g6, g7, g8⟩ := setCells_spec B.b el fz vs (B.base + off) w c h1 (by omega)
          have hown := hr.own id B _ hB hg rfl
          refine ⟨hlen, ?_, fun _ _ => rfl, Nat.le_refl _, ?_, ⟨g6, g7, g8, by omega, fun k hk => g4 k (by omega)⟩⟩
          · have := run_storeCells_cells (P := P) B.b (B.base + off) vs 0 w (fun j hj => ?_) (fun j hj => ?_) hone
            · simpa using this
            · have hlt : B.base + off + 0 + j < c.size := by omega
              simp [World.cell?, h1]; omega
            · have hu := h3.1 (B.base + off + 0 + j) (by omega)
              obtain ⟨f1, f2⟩ := fz
              simp [World.frozen?, h1]
              intro e
              simp at hu
              exact hu e
          · refine hr.chg id B hB (.cells t' m false) rfl _ hg rfl (fun k hk => g4 k hk) (by omega) ⟨h0, c', el, fz, g1, by omega, ⟨by rw [g2]; exact h3.1, fun e => by cases e⟩, ?_⟩ _ ?_
            · intro k v hv
              rcases hget k v hv with ⟨a1, a2, cv, a3, a4⟩ | ⟨a1, a2⟩
              · refine ⟨by omega, cv, ?_, a4⟩
                rw [g3, if_pos (by omega), show B.base + k - (B.base + off) = k - off by omega, a3]
              · obtain ⟨b1, cv, b2, b3⟩ := h4 k v a2
                refine ⟨b1, cv, ?_, b3⟩
                rw [g3, if_neg (by omega), b2]
            · intro q p e
              rw [Tr.get_set] at e
              by_cases hq : q = id
              · rw [if_pos hq] at e; cases e; exact .inl ⟨hq, rfl⟩
              · rw [if_neg hq] at e; exact .inr ⟨hq, e⟩

/-- What an operation that may change memory comes to. -/
def EffPost (P : Program) (μ : Mu) (B0 : Nat) (h : Heap) (w : World) (a : Act) (o : Oper) : OR → Prop
  | .fail => True
  | .val v h' => ∃ cv μ' w', ((execOp a.eval o).run P w = .ok (.value cv) w' ∨ ((execOp a.eval o).run P w = .ok .skip w' ∧ cv = undef)) ∧ VR1 μ' v cv ∧ Post μ B0 h w μ' h' w'
  | .enter f args h' => h' = h ∧ ∃ cargs : Array Value, (execOp a.eval o).run P w = (callFunc f cargs).run P w ∧ VRL μ args cargs.toList
  | .round id args h' => h' = h ∧ ∃ (B : Blk) (cargs : Array Value), μ id = some B ∧ (execOp a.eval o).run P w = (Instr.yield B.b cargs).run P w ∧ VRL μ args cargs.toList
def EffOK (f : Program → Tr AV → Heap → OR) (o : Oper) : Prop :=
  ∀ (P : Program) (r : Tr AV) (μ : Mu) (B0 : Nat) (h : Heap) (w : World) (a : Act), HR μ B0 h w → RR μ r a.tmps → EffPost P μ B0 h w a o (f P r h)

theorem eff_store {o : Oper} {t : TypeId} {x y : Operand} (ho : o.op = .store t x y) : EffOK (xStore t x y) o := by
  intro P r μ B0 h w a hh hr
  have hx := ev_sound hh.glob hr x
  have hy := ev_sound hh.glob hr y
  unfold xStore
  split
  · rename_i id off ex
    rw [ex] at hx
    obtain ⟨B, hB, hx⟩ := hx
    have hx : a.eval x = .pointer (some ⟨B.b, B.base + off, none⟩) := by simpa using hx
    cases hz : tsz P t with
    | none => trivial
    | some n =>
      simp only
      cases hp : putAt id off n (ev y r).cells h with
      | none => trivial
      | some h' =>
        simp only
        have hne : (ev y r) ≠ .undef ∧ ∀ l, ev y r ≠ .tup l := by
          have hp' := hp
          unfold putAt at hp'
          cases hc : cellsAt h id with
          | none => rw [hc] at hp'; cases hp'
          | some x =>
            obtain ⟨t, m, ro⟩ := x
            rw [hc] at hp'
            cases ro with
            | true => cases hp'
            | false =>
              simp only at hp'
              cases hb : Nat.ble (Nat.add off n) m with
              | false => rw [hb] at hp'; cases hp'
              | true =>
                rw [hb] at hp'
                simp only at hp'
                cases hlay : lay n (ev y r).cells off t with
                | none => rw [hlay] at hp'; cases hp'
                | some t' => exact lay_ne hlay
        have hc := hy.cells hne.1 hne.2
        obtain ⟨h1, h2, h3⟩ := putAt_sound (P := P) hh hp hc hB
        refine ⟨undef, μ, _, .inr ⟨?_, rfl⟩, ⟨#[], rfl, rfl⟩, h3⟩
        have h1 : (a.eval y).cells.size = n := by simpa using h1
        simp [execOp, ho, hx, Instr.storeAt, Instr.sureAddr, storeVar, run_sizeOf' hz, h1, h2]
  · trivial

/-- The first elements of what is appended or copied. -/
theorem srcL_sound {P : Program} {μ : Mu} {B0 : Nat} {h : Heap} {w : World} (hh : HR μ B0 h w) {x : AV} {cx : Value} (hx : VR1 μ x cx) {n sz : Nat} {l : AV} (hl : srcL x n sz h = some l) (hn : ∃ m, srcN x = some m ∧ n ≤ m) :
    ∃ vs, VRL μ l vs ∧ ∀ w' : World, w'.heap = w.heap → (Builtin.firstCells sz n cx).run P w' = .ok vs.toArray w' := by
  obtain ⟨m, hm, hnm⟩ := hn
  unfold srcL at hl
  split at hl
  · rename_i id off len cap sz'
    obtain ⟨B, c, hB, hx, _⟩ := hx
    have hx : cx = .slice (some ⟨B.b, B.base + off, none⟩) len c := by simpa using hx
    cases hc : cellsAt h id with
    | none => rw [hc] at hl; cases hl
    | some q =>
      rw [hc] at hl
      obtain ⟨h0, cc, el, fz, h1, h2, h3, h4⟩ := hh.obj id B _ hB (HR.cellsAt (μ := μ) (B0 := B0) (w := w) hc)
      obtain ⟨vs, h5, h6, h7⟩ := coll_spec (f := fun k => cc[B.base + k]?) (fun k v e => (h4 k v e).2) _ hl
      refine ⟨vs, h5, fun w' hw' => ?_⟩
      have hrun := run_loadCells_list (P := P) w' ⟨B.b, B.base + off, none⟩ vs (fun j v hj => by
        rw [addr_add]
        exact cell_of (by rw [hw']; exact h1) (by have := h7 j v hj; rwa [show B.base + off + j = B.base + (off + j) by omega]))
      rw [h6] at hrun
      rw [hx]
      exact hrun
  · obtain ⟨B, off, c, hB, hx, _⟩ := hx
    cases hm
    have : n = 0 := by omega
    subst this
    have hx := (List.cons.inj hx).1
    cases hl
    refine ⟨[], rfl, fun w' hw' => ?_⟩
    rw [hx]
    simp [Builtin.firstCells, loadCells, loadCellsFrom]
  · have hx : cx = .slice none 0 0 := by simpa [VR] using hx
    cases hm
    have : n = 0 := by omega
    subst this
    cases hl
    exact ⟨[], rfl, fun w' hw' => by rw [hx]; rfl⟩
  · rename_i s
    obtain ⟨bs, hx, hbs⟩ := hx
    have hx := (List.cons.inj hx).1
    cases hm
    cases hl
    have key : ∀ (s : List Nat), VRL μ (bytesAV s) (s.map fun b : Nat => Value.int .u8 (b : Int)) := by
      intro s
      induction s with
      | nil => rfl
      | cons b s ih => exact ⟨_, _, rfl, rfl, ih⟩
    refine ⟨(s.take n).map fun b : Nat => Value.int .u8 (b : Int), key _, fun w' hw' => ?_⟩
    rw [hx]
    unfold Builtin.firstCells
    simp only [Sem.run_pure]
    congr 1
    apply Array.ext'
    rw [← hbs]
    simp [ByteArray.data_extract, Array.toList_extract, List.extract_eq_take_drop, Function.comp_def]
  · cases hl
theorem srcN_sound {P : Program} {w : World} {μ : Mu} {x : AV} {cx : Value} (hx : VR1 μ x cx) {n : Nat} (hn : srcN x = some n) : (Builtin.lenOf cx).run P w = .ok n w := by
  unfold srcN at hn
  split at hn
  · obtain ⟨B, c, hB, hx, _⟩ := hx
    cases hn
    have hx := (List.cons.inj hx).1
    rw [hx]; rfl
  · obtain ⟨B, off, c, hB, hx, _⟩ := hx
    cases hn
    have hx := (List.cons.inj hx).1
    rw [hx]; rfl
  · have hx : cx = .slice none 0 0 := by simpa [VR] using hx
    cases hn
    rw [hx]; rfl
  · rename_i s
    obtain ⟨bs, hx, hbs⟩ := hx
    cases hn
    have hx := (List.cons.inj hx).1
    rw [hx, ← hbs, List.length_map, Array.length_toList]; rfl
  · cases hn
/-- A slice's block is handed on under a new name. -/
theorem HR.repl {μ : Mu} {B0 : Nat} {h : Heap} {w w' : World} (hr : HR μ B0 h w) (id : Pos) (B B' : Blk) (hid : μ id = some B) (o0 : AO) (h0 : h.t.get id = some o0) (hro0 : o0.isRo = false) (hb' : B'.b = B.b) (o : AO)
    (hb : ∀ k, k ≠ B.b → w'.heap[k]? = w.heap[k]?) (hs : w.heap.size ≤ w'.heap.size) (ho : OBR (fun q => if q = h.n then some B' else μ q) w'.heap B' o) (t : Tr AO)
    (ht : ∀ q p, t.get q = some p → (q = h.n ∧ p = o) ∨ (q ≠ h.n ∧ q ≠ id ∧ h.t.get q = some p)) : HR (fun q => if q = h.n then some B' else μ q) B0 ⟨t, h.n.succ⟩ w' := by
  have hn : μ h.n = none := by
    cases e : μ h.n with
    | none => rfl
    | some C => exact absurd (hr.fresh _ _ e) (by omega)
  have hsz : h.n.succ.toNat = h.n.toNat + 1 := Pos.toNat_succ _
  have hle : μ.le (fun q => if q = h.n then some B' else μ q) := fun q C e => by
    show (if q = h.n then some B' else μ q) = some C
    rw [if_neg (fun e' => by subst e'; rw [hn] at e; cases e)]; exact e
  refine ⟨?_, ?_, ?_, ?_, ?_, hr.glob.mono hle, Nat.le_trans hr.size hs⟩
  · intro q C e
    by_cases hq : q = h.n
    · subst hq; show h.n.toNat < h.n.succ.toNat; omega
    · rw [if_neg hq] at e; have := hr.fresh q C e; show q.toNat < h.n.succ.toNat; omega
  · intro q p e
    rcases ht q p e with ⟨h1, h2⟩ | ⟨h1, h2, h3⟩
    · subst h1; show h.n.toNat < h.n.succ.toNat; omega
    · have := hr.live q p h3; show q.toNat < h.n.succ.toNat; omega
  · intro q C p e1 e2
    rcases ht q p e2 with ⟨h1, h2⟩ | ⟨h1, h2, h3⟩
    · subst h2; rw [if_pos h1] at e1; cases e1; exact ho
    · rw [if_neg h1] at e1
      exact ((hr.obj q C p e1 h3).heap (hb _ (hr.sep q id C B p o0 h2 e1 hid h3 h0))).mono hle
  · intro i j A C p q hij e1 e2 e3 e4
    rcases ht i p e3 with ⟨h1, h2⟩ | ⟨h1, h2, h3⟩
    · rcases ht j q e4 with ⟨h4, h5⟩ | ⟨h4, h5, h6⟩
      · exact absurd (h1.trans h4.symm) hij
      · rw [if_pos h1] at e1; rw [if_neg h4] at e2; cases e1
        rw [hb']
        exact fun e => hr.sep j id C B q o0 h5 e2 hid h6 h0 e.symm
    · rcases ht j q e4 with ⟨h4, h5⟩ | ⟨h4, h5, h6⟩
      · rw [if_pos h4] at e2; rw [if_neg h1] at e1; cases e2
        rw [hb']
        exact hr.sep i id A B p o0 h2 e1 hid h3 h0
      · rw [if_neg h1] at e1; rw [if_neg h4] at e2
        exact hr.sep i j A C p q hij e1 e2 h3 h6
  · intro q C p e1 e2 e3
    rcases ht q p e2 with ⟨h1, h2⟩ | ⟨h1, h2, h3⟩
    · rw [if_pos h1] at e1; cases e1; rw [hb']; exact hr.own id B o0 hid h0 hro0
    · rw [if_neg h1] at e1; exact hr.own q C p e1 h3 e3

theorem newCells_cases {l : AV} {n : Nat} {h : Heap} {k : MK} {v : AV} {h' : Heap} (e : newCells l n h k = .val v h') : ∃ t, lay n l 0 .leaf = some t ∧ v = k.av h.n ∧ h' = ⟨h.t.set (.cells t n false) h.n, h.n.succ⟩ := by
  unfold newCells at e
  cases hl : lay n l 0 .leaf with
  | none => rw [hl] at e; cases e
  | some t => rw [hl] at e; cases e; exact ⟨t, rfl, rfl, rfl⟩
theorem newCells_not {l : AV} {n : Nat} {h : Heap} {k : MK} : (∀ f a h', newCells l n h k ≠ .enter f a h') ∧ (∀ i a h', newCells l n h k ≠ .round i a h') := by
  constructor <;> intro f a h' e <;> unfold newCells at e <;> cases hl : lay n l 0 .leaf <;> rw [hl] at e <;> cases e
/-- A new block of cells, whose block has been made. -/
theorem newBlk {μ : Mu} {B0 : Nat} {h : Heap} {w : World} (hr : HR μ B0 h w) {l : AV} {n : Nat} {t : Tr AV} {vs : List Value} (hl : VRL μ l vs) (hlay : lay n l 0 .leaf = some t) (c : Array Value) (el : TypeId) (hc : ∀ (k : Nat) (v : Value), vs[k]? = some v → c[k]? = some v) (hn : n ≤ c.size) :
    HR (fun q => if q = h.n then some ⟨w.heap.size, 0, c.size⟩ else μ q) B0 ⟨h.t.set (.cells t n false) h.n, h.n.succ⟩ (w.alloc (.cells c el)) := by
  have hnone : μ h.n = none := by
    cases e : μ h.n with
    | none => rfl
    | some C => exact absurd (hr.fresh _ _ e) (by omega)
  have hsz : h.n.succ.toNat = h.n.toNat + 1 := Pos.toNat_succ _
  obtain ⟨hlen, hone, hget⟩ := lay_spec n hlay hl
  refine hr.new h.n hnone (.cells t n false) ⟨w.heap.size, 0, c.size⟩ _ _ (by omega) (by omega) rfl _ ?_ ⟨hn, c, el, (0, 0), ?_, by simp, ⟨fun o ho e => by omega, fun e => by cases e⟩, ?_⟩
  · intro q p e
    rw [Tr.get_set] at e
    by_cases hq : q = h.n
    · rw [if_pos hq] at e; cases e; exact .inl ⟨hq, rfl⟩
    · rw [if_neg hq] at e; exact .inr ⟨hq, e⟩
  · show (w.heap.push _)[w.heap.size]? = _
    simp
  · intro k v hv
    rcases hget k v hv with ⟨a1, a2, cv, a3, a4⟩ | ⟨a1, a2⟩
    · refine ⟨by show k < c.size; omega, cv, ?_, a4.mono ?_⟩
      · rw [Nat.zero_add]; exact hc k cv (by simpa using a3)
      · intro q C e
        show (if q = h.n then _ else μ q) = some C
        rw [if_neg (fun e' => by subst e'; rw [hnone] at e; cases e)]; exact e
    · cases a2

theorem growBy_le (n : Nat) : ∀ (r c : Nat), Builtin.growBy n r c ≤ max c (n + (n + 768) / 4)
  | 0, c => by simp [Builtin.growBy]; omega
  | r + 1, c => by
    unfold Builtin.growBy
    by_cases h : c ≥ n
    · rw [if_pos h]; omega
    · rw [if_neg h]
      have := growBy_le n r (c + (c + 768) / 4)
      omega
theorem nextslicecap_le (n c : Nat) (h : c < n) : Builtin.nextslicecap n c ≤ 2 * n + 192 := by
  unfold Builtin.nextslicecap
  split
  · omega
  · split
    · omega
    · have := growBy_le n 4 c
      omega
/-- What 'append' comes to where a new array is made. -/
theorem append_new {P : Program} {w : World} {ts : Array TypeId} {ty : TypeId} {as : Array Value} {st xt e : TypeId} {base : Option Addr} {sLen sCap n sz by_ : Nat} {cx : Value} {zv : Value} {old new : List Value} {dx : TypeDesc}
    (h1 : ts[0]? = some st) (h2 : ts[1]? = some xt) (h3 : as[0]? = some (.slice base sLen sCap)) (h4 : as[1]? = some cx) (hu : P.underlying st = some (.slice e)) (hs : tsz P e = some sz) (hby : tbytes P e = some by_)
    (hz : tzero P e = some zv) (hdx : P.underlying xt = some dx) (hni : ∀ k, dx ≠ .int k) (hn : ∀ w, (Builtin.lenOf cx).run P w = .ok n w)
    (hgt : sCap < sLen + n) (hsm : (sLen + n) * by_ ≤ 1073741824) (hsn : sLen + n ≤ 1152921504606846976) (h0 : 0 < sLen + n)
    (hold : ∀ w' : World, w'.heap = w.heap → (Builtin.firstCells sz sLen (.slice base sLen sCap)).run P w' = .ok old.toArray w') (hnew : ∀ w' : World, w'.heap = w.heap → (Builtin.firstCells sz n cx).run P w' = .ok new.toArray w') :
    ∃ newCap, sLen + n ≤ newCap ∧ (Builtin.append_ ts ty as).run P w = .ok (.slice (some ⟨w.heap.size, 0, none⟩) (sLen + n) newCap) (w.drew.alloc (.cells (old.toArray ++ new.toArray ++ Builtin.zeroCells zv.cells (newCap - (sLen + n))) e)) := by
  have hi : ∀ w : World, ∃ i, (typeInfo e).run P w = .ok i w ∧ i.bytes = by_ := fun w => tbytes_info hby
  obtain ⟨inf, hinf⟩ : ∃ i, P.info? e = some i := by obtain ⟨i, h, _⟩ := tsz_info hs; exact ⟨i, h⟩
  have hinf' : ∀ w : World, (typeInfo e).run P w = .ok inf w := fun w => run_typeInfo' hinf
  have hib : inf.bytes = by_ := by
    obtain ⟨i, h5, h6⟩ := hi w
    rw [hinf' w] at h5
    cases h5; exact h6
  have hcap : ¬ Builtin.nextslicecap (sLen + n) sCap * by_ > 2 ^ 48 := by
    have h5 := nextslicecap_le (sLen + n) sCap hgt
    have h6 : Builtin.nextslicecap (sLen + n) sCap * by_ ≤ (2 * (sLen + n) + 192) * by_ := Nat.mul_le_mul_right _ h5
    have h7 : by_ ≤ 1073741824 := by
      have : 1 * by_ ≤ (sLen + n) * by_ := Nat.mul_le_mul_right _ h0
      omega
    have h8 : (2 * (sLen + n) + 192) * by_ = 2 * ((sLen + n) * by_) + 192 * by_ := by rw [Nat.add_mul, Nat.mul_assoc]
    omega
  refine ⟨(Question.appendCap (sLen + n) sCap e).cut (w.tape w.drawn (.appendCap (sLen + n) sCap e)), by simp [Question.cut], ?_⟩
  generalize hq : (Question.appendCap (sLen + n) sCap e).cut (w.tape w.drawn (.appendCap (sLen + n) sCap e)) = newCap
  have hch : (choose (.appendCap (sLen + n) sCap e)).run P w = .ok newCap w.drew := by
    rw [run_choose, if_neg (by simp [Question.forced]), hq]; rfl
  have hzi : ∀ w : World, (underlying xt).run P w = .ok dx w := fun w => run_underlying' hdx
  have hzeros : (match dx with | .int _ => true | _ => false) = false := by
    cases dx <;> first | rfl | exact absurd rfl (hni _)
  have hbig : ¬ (((sLen + n : Nat) : Int) > IntKind.i64.max ∧ (False ∨ inf.bytes = 0)) := by
    have : IntKind.i64.max = 9223372036854775807 := rfl
    rw [this]; omega
  have hnle : ¬ sLen + n ≤ sCap := by omega
  have hbig2 : ¬ (((sLen + n : Nat) : Int) > IntKind.i64.max ∧ inf.bytes = 0) := fun e => hbig ⟨e.1, .inr e.2⟩
  have hcap2 : ¬ Builtin.nextslicecap (sLen + n) sCap * inf.bytes > 2 ^ 48 := by rw [hib]; exact hcap
  have hold2 := hold w.drew rfl
  have hnew2 := hnew w.drew rfl
  have hz2 : (zeroValue e).run P w.drew = .ok zv w.drew := run_zero' hz
  unfold Builtin.append_
  simp only [h1, h2, h3, h4, Sem.run_bind, run_underlying' hu, Result.andThen_ok, run_sizeOf' hs, hzi, Sem.run_pure, hzeros]
  simp only [Bool.false_eq_true, if_false, Sem.run_bind, hn, Result.andThen_ok]
  rw [if_neg hnle]
  simp only [Sem.run_bind, hinf', Result.andThen_ok, false_or]
  rw [if_neg hbig2]
  simp only [Sem.run_bind, hinf', Result.andThen_ok]
  rw [if_neg hcap2]
  simp only [Sem.run_bind, hinf', Result.andThen_ok, hch, run_askRoom, hold2, Bool.not_false, if_true, hnew2, hz2, newRow, run_newObj, Sem.run_pure]
  simp
  rfl
/-- What 'append' comes to where there is room. -/
theorem append_room {P : Program} {w w' : World} {ts : Array TypeId} {ty : TypeId} {as : Array Value} {st xt e : TypeId} {base : Option Addr} {sLen sCap n sz : Nat} {cx : Value} {new : List Value} {dx : TypeDesc}
    (h1 : ts[0]? = some st) (h2 : ts[1]? = some xt) (h3 : as[0]? = some (.slice base sLen sCap)) (h4 : as[1]? = some cx) (hu : P.underlying st = some (.slice e)) (hs : tsz P e = some sz)
    (hdx : P.underlying xt = some dx) (hni : ∀ k, dx ≠ .int k) (hn : ∀ w, (Builtin.lenOf cx).run P w = .ok n w) (hle : sLen + n ≤ sCap) (hnew : (Builtin.firstCells sz n cx).run P w = .ok new.toArray w)
    (hst : (base = none ∧ w' = w) ∨ ∃ a, base = some a ∧ (storeCells (a.add (sLen * sz)) new).run P w = .ok () w') :
    (Builtin.append_ ts ty as).run P w = .ok (.slice base (sLen + n) sCap) w' := by
  have hzi : ∀ w : World, (underlying xt).run P w = .ok dx w := fun w => run_underlying' hdx
  have hzeros : (match dx with | .int _ => true | _ => false) = false := by
    cases dx <;> first | rfl | exact absurd rfl (hni _)
  unfold Builtin.append_
  simp only [h1, h2, h3, h4, Sem.run_bind, run_underlying' hu, Result.andThen_ok, run_sizeOf' hs, hzi, Sem.run_pure, hzeros]
  simp only [Bool.false_eq_true, if_false, Sem.run_bind, hn, Result.andThen_ok]
  rw [if_pos hle]
  simp only [Bool.not_false, if_true, Sem.run_bind, hnew, Result.andThen_ok]
  rcases hst with ⟨rfl, rfl⟩ | ⟨a, rfl, hst⟩
  · rfl
  · simp [hst]

theorem appFresh_not (old new : AV) (id : Option Pos) (need sz : Nat) (h : Heap) : (∀ f a h', appFresh old new id need sz h ≠ .enter f a h') ∧ (∀ i a h', appFresh old new id need sz h ≠ .round i a h') := newCells_not
theorem appendA_not (sz by_ : Nat) (s x : AV) (n : Nat) (new : AV) (h : Heap) : (∀ f a h', appendA sz by_ s x n new h ≠ .enter f a h') ∧ (∀ i a h', appendA sz by_ s x n new h ≠ .round i a h') := by
  have key : ∀ (r : OR), (r = .fail ∨ (∃ v h', r = .val v h') ∨ (∃ a b c d e f, r = appFresh a b c d e f)) → (∀ f a h', r ≠ .enter f a h') ∧ (∀ i a h', r ≠ .round i a h') := by
    rintro r (rfl | ⟨v, h', rfl⟩ | ⟨a, b, c, d, e, f, rfl⟩)
    · exact ⟨(fun _ _ _ e => by cases e), (fun _ _ _ e => by cases e)⟩
    · exact ⟨(fun _ _ _ e => by cases e), (fun _ _ _ e => by cases e)⟩
    · exact appFresh_not a b c d e f
  apply key
  unfold appendA
  split
  · cases Nat.beq n 0 <;> simp only
    · cases Nat.ble (Nat.mul n (Nat.succ by_)) 1073741824 <;> simp only
      · (first | exact .inl rfl | exact .inl trivial)
      · exact .inr (.inr ⟨_, _, _, _, _, _, rfl⟩)
    · exact .inr (.inl ⟨_, _, rfl⟩)
  · rename_i id sz'
    cases Nat.beq n 0 <;> simp only
    · cases band (Nat.beq sz sz') (Nat.ble (Nat.mul n (Nat.succ by_)) 1073741824) <;> simp only
      · (first | exact .inl rfl | exact .inl trivial)
      · cases roCells h id <;> simp only
        · exact .inr (.inr ⟨_, _, _, _, _, _, rfl⟩)
        · (first | exact .inl rfl | exact .inl trivial)
    · exact .inr (.inl ⟨_, _, rfl⟩)
  · rename_i id off len cap sz'
    cases Nat.beq n 0 <;> simp only
    · cases band (Nat.beq sz sz') (Nat.ble (Nat.mul (Nat.add len n) (Nat.succ by_)) 1073741824) <;> simp only
      · (first | exact .inl rfl | exact .inl trivial)
      · cases Nat.ble (Nat.add len n) cap <;> simp only
        · cases cellsAt h id with
          | none => (first | exact .inl rfl | exact .inl trivial)
          | some q =>
            simp only
            cases q.2.2 <;> simp only
            · cases coll q.1 (Nat.mul len sz) off with
              | none => (first | exact .inl rfl | exact .inl trivial)
              | some old => exact .inr (.inr ⟨_, _, _, _, _, _, rfl⟩)
            · (first | exact .inl rfl | exact .inl trivial)
        · cases putAt id (Nat.add off (Nat.mul len sz)) (Nat.mul n sz) new h with
          | none => (first | exact .inl rfl | exact .inl trivial)
          | some h' => exact .inr (.inl ⟨_, _, rfl⟩)
    · exact .inr (.inl ⟨_, _, rfl⟩)
  · (first | exact .inl rfl | exact .inl trivial)
/-- A slice grows: in its own array, if there is room, or in a new one; nobody knows which. -/
theorem appFresh_sound {P : Program} {μ : Mu} {B0 : Nat} {h h' : Heap} {w : World} (hh : HR μ B0 h w) {ts : Array TypeId} {ty : TypeId} {as : Array Value} {t u e : TypeId} {sz by_ n : Nat} {zv : Value} {dx : TypeDesc} {cx : Value} {v new old : AV} {nvs ovs : List Value}
    (h1 : ts[0]? = some t) (h2 : ts[1]? = some u) (h4 : as[1]? = some cx) (hu : P.underlying t = some (.slice e)) (hsz : tsz P e = some sz) (hby : tbytes P e = some by_) (hz : tzero P e = some zv) (hzs : zv.cells.size = sz)
    (hdx : P.underlying u = some dx) (hni : ∀ k, dx ≠ .int k) (hlen : ∀ w, (Builtin.lenOf cx).run P w = .ok n w) (hnv : VRL μ new nvs) (hfirst : ∀ w' : World, w'.heap = w.heap → (Builtin.firstCells sz n cx).run P w' = .ok nvs.toArray w')
    {base : Option Addr} {len cap : Nat} (h3 : as[0]? = some (.slice base len cap)) (hov : VRL μ old ovs) (hold : ∀ w' : World, w'.heap = w.heap → (Builtin.firstCells sz len (.slice base len cap)).run P w' = .ok ovs.toArray w')
    (hn0 : 0 < n) (hsm : (len + n) * by_ ≤ 1073741824) (hsm2 : len + n ≤ 1152921504606846976) (id : Option Pos)
    (hbase : (base = none ∧ cap = 0 ∧ id = none ∧ len = 0) ∨ ∃ i B off, id = some i ∧ μ i = some B ∧ base = some ⟨B.b, B.base + off, none⟩ ∧ off + cap * sz ≤ B.n ∧ roCells h i = false ∧ ovs.length = len * sz ∧ (∀ (j : Nat) v, ovs[j]? = some v → w.cell? ⟨B.b, B.base + off + j, none⟩ = some v))
    (happ : appFresh old new id (len + n) sz h = .val v h') :
    ∃ cv μ' w', (Builtin.append_ ts ty as).run P w = .ok cv w' ∧ VR1 μ' v cv ∧ Post μ B0 h w μ' h' w' := by
  have hvs : VRL μ (app old new) (ovs ++ nvs) := VRL.app hnv hov
  have hsucc : h.n.succ.toNat = h.n.toNat + 1 := Pos.toNat_succ _
  -- a new array
  have fresh : ∀ (h0 : Heap) (t' : Tr AV), h0.n = h.n → HR μ B0 h0 w → lay ((len + n) * sz) (app old new) 0 .leaf = some t' → cap < len + n →
      ∃ cv μ' w', (Builtin.append_ ts ty as).run P w = .ok cv w' ∧ VR1 μ' (.slice h.n 0 (len + n) (len + n) sz) cv ∧ Post μ B0 h w μ' ⟨h0.t.set (.cells t' ((len + n) * sz) false) h.n, h.n.succ⟩ w' := by
    intro h0 t' e0 hh0 hlay hgt
    obtain ⟨newCap, hnc, hrun⟩ := append_new (P := P) (w := w) (ty := ty) (old := ovs) (new := nvs) h1 h2 h3 h4 hu hsz hby hz hdx hni hlen hgt hsm hsm2 (by omega) hold hfirst
    obtain ⟨hlen2, _, _⟩ := lay_spec _ hlay hvs
    have hzc : (Builtin.zeroCells zv.cells (newCap - (len + n))).size = (newCap - (len + n)) * sz := by simp [Builtin.zeroCells, hzs]
    have hcs : (ovs.toArray ++ nvs.toArray ++ Builtin.zeroCells zv.cells (newCap - (len + n))).size = newCap * sz := by
      rw [Array.size_append, hzc]
      have : (ovs.toArray ++ nvs.toArray).size = (len + n) * sz := by rw [← hlen2]; simp
      rw [this, ← Nat.add_mul, Nat.add_sub_cancel' hnc]
    have hHR := newBlk (w := w.drew) (HR.heapEq (w := w) (w' := w.drew) rfl hh0) hvs hlay (ovs.toArray ++ nvs.toArray ++ Builtin.zeroCells zv.cells (newCap - (len + n))) e (fun k v' hk => by
        rw [Array.getElem?_append_left (by
          have := (List.getElem?_eq_some_iff.1 hk).1
          simpa using this)]
        simpa using hk) (by rw [hcs]; exact Nat.mul_le_mul_right _ hnc)
    rw [e0] at hHR
    refine ⟨_, _, _, hrun, ⟨⟨w.heap.size, 0, (ovs.toArray ++ nvs.toArray ++ Builtin.zeroCells zv.cells (newCap - (len + n))).size⟩, newCap, ?_, rfl, hnc, Nat.le_refl _, ?_⟩, ?_, ?_, hHR, ?_⟩
    · show (if h.n = h.n then _ else _) = _
      rw [if_pos rfl]; rfl
    · show 0 + newCap * sz ≤ (ovs.toArray ++ nvs.toArray ++ Builtin.zeroCells zv.cells (newCap - (len + n))).size
      rw [hcs]; omega
    · intro q hq
      show (if q = h.n then _ else _) = _
      rw [if_neg (fun e' => by subst e'; omega)]
    · show h.n.toNat ≤ h.n.succ.toNat; omega
    · exact (Below.refl _ _).drew.alloc hh.size _
  rcases hbase with ⟨rfl, rfl, rfl, rfl⟩ | ⟨i, B, off, rfl, hB, rfl, hfit, hro, hol, hoc⟩
  · obtain ⟨t', hlay, rfl, rfl⟩ := newCells_cases happ
    exact fresh h t' rfl hh hlay (by omega)
  · obtain ⟨t', hlay, rfl, rfl⟩ := newCells_cases happ
    by_cases hgt : cap < len + n
    · exact fresh (kill i h) t' rfl (hh.kill i) hlay hgt
    · -- in place
      obtain ⟨hlen2, hone, hget⟩ := lay_spec _ hlay hvs
      have hnl : nvs.length = n * sz := by
        rw [List.length_append, hol] at hlen2
        change len * sz + nvs.length = (len + n) * sz at hlen2
        rw [Nat.add_mul] at hlen2; omega
      obtain ⟨q, hq⟩ : ∃ q, cellsAt h i = some q := by
        unfold roCells at hro
        cases e : cellsAt h i with
        | none => rw [e] at hro; cases hro
        | some q => exact ⟨q, rfl⟩
      have hqro : q.2.2 = false := by
        unfold roCells at hro
        rw [hq] at hro; exact hro
      have hg := HR.cellsAt (μ := μ) (B0 := B0) (w := w) hq
      rw [hqro] at hg
      obtain ⟨g0, c, el, fz, g1, g2, g3, g4⟩ := hh.obj i B _ hB hg
      have hown := hh.own i B _ hB hg rfl
      have hfit2 : off + (len + n) * sz ≤ B.n := by
        have : (len + n) * sz ≤ cap * sz := Nat.mul_le_mul_right _ (by omega)
        omega
      have hspl : (len + n) * sz = len * sz + n * sz := Nat.add_mul _ _ _
      have hspl2 : (len + n).mul sz = len * sz + n * sz := Nat.add_mul _ _ _
      obtain ⟨c', k1, k2, k3, k4, k5, k6, k7, k8⟩ := setCells_spec B.b el fz nvs (B.base + off + len * sz) w c g1 (by omega)
      have hst := run_storeCells_cells (P := P) B.b (B.base + off + len * sz) nvs 0 w (fun j hj => by
          simp [World.cell?, g1]; omega) (fun j hj => by
          have hu := g3.1 (B.base + off + len * sz + 0 + j) (by omega)
          obtain ⟨f1, f2⟩ := fz
          simp [World.frozen?, g1]
          intro e
          simp at hu
          exact hu e) (fun v hv => hone v (List.mem_append.2 (.inr hv)))
      have hrun := append_room (P := P) (w := w) (ty := ty) (new := nvs) h1 h2 h3 h4 hu hsz hdx hni hlen (by omega) (hfirst w rfl) (.inr ⟨_, rfl, by rw [addr_add]; exact hst⟩)
      refine ⟨_, fun q => if q = h.n then some ⟨B.b, B.base + off, B.n - off⟩ else μ q, _, hrun, ⟨⟨B.b, B.base + off, B.n - off⟩, cap, ?_, rfl, by omega, Nat.le_refl _, ?_⟩, ?_, ?_, ?_, ?_⟩
      · show (if h.n = h.n then _ else _) = _
        rw [if_pos rfl]
      · show 0 + cap * sz ≤ B.n - off
        omega
      · intro q hq
        show (if q = h.n then _ else _) = _
        rw [if_neg (fun e' => by subst e'; omega)]
      · show h.n.toNat ≤ h.n.succ.toNat; omega
      · refine hh.repl i B ⟨B.b, B.base + off, B.n - off⟩ hB _ hg rfl rfl (.cells t' ((len + n) * sz) false) (fun k hk => k4 k hk) (Nat.le_of_eq k5.symm) ?_ _ ?_
        · refine ⟨by show (len + n) * sz ≤ B.n - off; omega, c', el, fz, k1, by show B.base + off + (B.n - off) ≤ c'.size; omega, ⟨by rw [k2]; exact g3.1, fun e => by cases e⟩, ?_⟩
          intro k v hv
          rcases hget k v hv with ⟨a1, a2, cv, a3, a4⟩ | ⟨a1, a2⟩
          · refine ⟨by show k < B.n - off; omega, cv, ?_, a4.mono ?_⟩
            · show c'[B.base + off + k]? = some cv
              rw [k3]
              have a3 : (ovs ++ nvs)[k]? = some cv := by simpa using a3
              by_cases hk : k < len * sz
              · rw [if_neg (by omega)]
                rw [List.getElem?_append_left (by omega)] at a3
                have := hoc k cv a3
                simp [World.cell?, g1] at this
                exact this
              · rw [if_pos (by omega)]
                rw [List.getElem?_append_right (by omega), hol] at a3
                rw [show B.base + off + k - (B.base + off + len * sz) = k - len * sz by omega]
                exact a3
            · intro q C e
              show (if q = h.n then _ else μ q) = some C
              rw [if_neg (fun e' => by subst e'; exact absurd (hh.fresh _ _ e) (by omega))]; exact e
          · cases a2
        · intro q p e
          change (Tr.set (AO.cells t' ((len + n).mul sz) false) (Tr.del h.t i) h.n).get q = some p at e
          rw [Tr.get_set] at e
          by_cases hq : q = h.n
          · rw [if_pos hq] at e; cases e; exact .inl ⟨hq, rfl⟩
          · rw [if_neg hq] at e
            rw [Tr.get_del] at e
            by_cases hqi : q = i
            · rw [if_pos hqi] at e; cases e
            · rw [if_neg hqi] at e; exact .inr ⟨hq, hqi, e⟩
      · exact ⟨k6, k7, k8, Nat.le_of_eq k5.symm, fun k hk => k4 k (by omega)⟩
theorem firstCells_zero {P : Program} {w w' : World} {sz : Nat} {cx : Value} {r : Array Value} (h : (Builtin.firstCells sz 0 cx).run P w = .ok r w') : r = #[] := by
  unfold Builtin.firstCells at h
  split at h
  · simp [loadCells, loadCellsFrom] at h; exact h.1
  · simp at h; exact h.1
  · simp at h
    rw [← h.1]
  · simp at h
theorem appendA_sound {P : Program} {μ : Mu} {B0 : Nat} {h h' : Heap} {w : World} (hh : HR μ B0 h w) {ts : Array TypeId} {ty : TypeId} {as : Array Value} {t u e : TypeId} {sz by_ n : Nat} {zv : Value} {dx : TypeDesc} {cs cx : Value} {s x v new : AV} {nvs : List Value}
    (h1 : ts[0]? = some t) (h2 : ts[1]? = some u) (h3 : as[0]? = some cs) (h4 : as[1]? = some cx) (hu : P.underlying t = some (.slice e)) (hsz : tsz P e = some sz) (hby : tbytes P e = some by_) (hz : tzero P e = some zv) (hzs : zv.cells.size = sz)
    (hdx : P.underlying u = some dx) (hni : ∀ k, dx ≠ .int k) (hlen : ∀ w, (Builtin.lenOf cx).run P w = .ok n w) (hs : VR1 μ s cs) (hnv : VRL μ new nvs) (hfirst : ∀ w' : World, w'.heap = w.heap → (Builtin.firstCells sz n cx).run P w' = .ok nvs.toArray w')
    (happ : appendA sz by_ s x n new h = .val v h') :
    ∃ cv μ' w', (Builtin.append_ ts ty as).run P w = .ok cv w' ∧ VR1 μ' v cv ∧ Post μ B0 h w μ' h' w' := by
  -- nothing is appended
  have same : ∀ (base : Option Addr) (len cap : Nat), n = 0 → cs = .slice base len cap → len ≤ cap → nvs = [] → ∃ cv μ' w', (Builtin.append_ ts ty as).run P w = .ok cv w' ∧ VR1 μ' s cv ∧ Post μ B0 h w μ' h w' := by
    intro base len cap hn0 hcs hle hnil
    subst hn0; subst hcs; subst hnil
    have := append_room (P := P) (w := w) (w' := w) (ty := ty) (new := []) h1 h2 h3 h4 hu hsz hdx hni hlen (by omega) (hfirst w rfl) (by
      cases base with
      | none => exact .inl ⟨rfl, rfl⟩
      | some a => exact .inr ⟨a, rfl, rfl⟩)
    exact ⟨_, μ, w, this, hs, Post.refl hh⟩
  have hnil : n = 0 → nvs = [] := by
    intro e
    subst e
    have := firstCells_zero (hfirst w rfl)
    simpa using this
  unfold appendA at happ
  split at happ
  · -- nils
    have hcs : cs = .slice none 0 0 := by simpa [VR] using hs
    cases hn : Nat.beq n 0 with
    | true =>
      rw [hn] at happ
      cases happ
      have hn := Nat.eq_of_beq_eq_true hn
      exact same none 0 0 hn hcs (Nat.le_refl _) (hnil hn)
    | false =>
      rw [hn] at happ
      simp only at happ
      cases hb : Nat.ble (Nat.mul n (Nat.succ by_)) 1073741824 with
      | false => rw [hb] at happ; cases happ
      | true =>
        rw [hb] at happ
        have hb := Nat.le_of_ble_eq_true hb
        change n * (by_ + 1) ≤ 1073741824 at hb
        rw [Nat.mul_succ] at hb
        subst hcs
        have hn0 : 0 < n := by
          rcases Nat.eq_zero_or_pos n with e | e
          · subst e; cases hn
          · exact e
        refine appFresh_sound (len := 0) (cap := 0) hh h1 h2 h4 hu hsz hby hz hzs hdx hni hlen hnv hfirst h3 (old := .nil) (ovs := []) rfl (fun w' _ => ?_) hn0 (by rw [Nat.zero_add]; omega) (by omega) none (.inl ⟨rfl, rfl, rfl, rfl⟩) (by rw [Nat.zero_add]; exact happ)
        simp [Builtin.firstCells]
  · -- sle
    rename_i id sz'
    have hs' := hs
    obtain ⟨B, off, c, hB, hcs, hfit⟩ := hs'
    have hcs := (List.cons.inj hcs).1
    cases hn : Nat.beq n 0 with
    | true =>
      rw [hn] at happ
      cases happ
      have hn := Nat.eq_of_beq_eq_true hn
      exact same _ 0 c hn hcs (Nat.zero_le _) (hnil hn)
    | false =>
      rw [hn] at happ
      simp only at happ
      cases hb : band (Nat.beq sz sz') (Nat.ble (Nat.mul n (Nat.succ by_)) 1073741824) with
      | false => rw [hb] at happ; cases happ
      | true =>
        rw [hb] at happ
        simp only at happ
        obtain ⟨hb1, hb2⟩ := band_iff.1 hb
        have hb1 := Nat.eq_of_beq_eq_true hb1
        subst hb1
        have hb := Nat.le_of_ble_eq_true hb2
        change n * (by_ + 1) ≤ 1073741824 at hb
        rw [Nat.mul_succ] at hb
        subst hcs
        cases hro : roCells h id with
        | true => rw [hro] at happ; cases happ
        | false =>
          rw [hro] at happ
          have hn0 : 0 < n := by
            rcases Nat.eq_zero_or_pos n with e | e
            · subst e; cases hn
            · exact e
          refine appFresh_sound (len := 0) (cap := c) hh h1 h2 h4 hu hsz hby hz hzs hdx hni hlen hnv hfirst h3 (old := .nil) (ovs := []) rfl (fun w' _ => ?_) hn0 (by rw [Nat.zero_add]; omega) (by omega) (some id)
            (.inr ⟨id, B, off, rfl, hB, rfl, hfit, hro, by simp, by simp⟩) (by rw [Nat.zero_add]; exact happ)
          simp [Builtin.firstCells, loadCells, loadCellsFrom]
  · -- slice
    rename_i id off len cap sz'
    have hs' := hs
    obtain ⟨B, c, hB, hcs, hc1, hc2, hfit⟩ := hs'
    have hcs := (List.cons.inj hcs).1
    cases hn : Nat.beq n 0 with
    | true =>
      rw [hn] at happ
      cases happ
      have hn := Nat.eq_of_beq_eq_true hn
      exact same _ len c hn hcs (by omega) (hnil hn)
    | false =>
      rw [hn] at happ
      simp only at happ
      cases hb : band (Nat.beq sz sz') (Nat.ble (Nat.mul (Nat.add len n) (Nat.succ by_)) 1073741824) with
      | false => rw [hb] at happ; cases happ
      | true =>
        rw [hb] at happ
        simp only at happ
        obtain ⟨hb1, hb2⟩ := band_iff.1 hb
        have hb1 := Nat.eq_of_beq_eq_true hb1
        subst hb1
        have hb := Nat.le_of_ble_eq_true hb2
        change (len + n) * (by_ + 1) ≤ 1073741824 at hb
        rw [Nat.mul_succ] at hb
        subst hcs
        have hn0 : 0 < n := by
          rcases Nat.eq_zero_or_pos n with e | e
          · subst e; cases hn
          · exact e
        cases hroom : Nat.ble (Nat.add len n) cap with
        | false =>
          rw [hroom] at happ
          simp only at happ
          cases hq : cellsAt h id with
          | none => rw [hq] at happ; cases happ
          | some q =>
            rw [hq] at happ
            simp only at happ
            cases hro : q.2.2 with
            | true => rw [hro] at happ; cases happ
            | false =>
              rw [hro] at happ
              simp only at happ
              cases hco : coll q.1 (Nat.mul len sz) off with
              | none => rw [hco] at happ; cases happ
              | some old =>
                rw [hco] at happ
                obtain ⟨g0, cc, el, fz, g1, g2, g3, g4⟩ := hh.obj id B _ hB (HR.cellsAt (μ := μ) (B0 := B0) (w := w) hq)
                obtain ⟨ovs, g5, g6, g7⟩ := coll_spec (f := fun k => cc[B.base + k]?) (fun k v e => (g4 k v e).2) _ hco
                refine appFresh_sound (len := len) (cap := c) hh h1 h2 h4 hu hsz hby hz hzs hdx hni hlen hnv hfirst h3 g5 (fun w' hw' => ?_) hn0 (by omega) (by omega) (some id)
                  (.inr ⟨id, B, off, rfl, hB, rfl, hfit, by unfold roCells; rw [hq]; exact hro, g6, fun j v hj => ?_⟩) happ
                · have hrun := run_loadCells_list (P := P) w' ⟨B.b, B.base + off, none⟩ ovs (fun j v hj => by
                    rw [addr_add]
                    exact cell_of (by rw [hw']; exact g1) (by have := g7 j v hj; rwa [show B.base + off + j = B.base + (off + j) by omega]))
                  rw [g6] at hrun
                  exact hrun
                · exact cell_of g1 (by have := g7 j v hj; rwa [show B.base + off + j = B.base + (off + j) by omega])
        | true =>
          rw [hroom] at happ
          simp only at happ
          have hroom := Nat.le_of_ble_eq_true hroom
          change len + n ≤ cap at hroom
          cases hp : putAt id (Nat.add off (Nat.mul len sz)) (Nat.mul n sz) new h with
          | none => rw [hp] at happ; cases happ
          | some h2 =>
            rw [hp] at happ
            cases happ
            obtain ⟨p1, p2, p3⟩ := putAt_sound (P := P) hh hp hnv hB
            have hadd : (⟨B.b, B.base + off, none⟩ : Addr).add (len * sz) = ⟨B.b, B.base + (off + len * sz), none⟩ := by rw [addr_add, Nat.add_assoc]
            have hrun := append_room (P := P) (w := w) (ty := ty) (new := nvs) h1 h2 h3 h4 hu hsz hdx hni hlen (by omega) (hfirst w rfl) (.inr ⟨_, rfl, by rw [hadd]; exact p2⟩)
            exact ⟨_, μ, _, hrun, ⟨B, c, hB, rfl, hc1, hroom, hfit⟩, p3⟩
  · cases happ

theorem eff_append {o : Oper} {ts : Array TypeId} {as : Array Operand} (ho : o.op = .call ⟨.builtin .append, as, ts⟩) : EffOK (fun P r h => xAppend ts.toList (evs as.toList r) P h) o := by
  intro P r μ B0 h w a hh hr
  have hx := evs_sound hh.glob hr as.toList
  simp only
  unfold xAppend
  split
  · rename_i t u ts' s x rest hts hev
    rw [hev] at hx
    obtain ⟨cs, r1, hl, hs, cx, r2, e1, hx, _⟩ := hx
    subst e1
    have t0 : ts[0]? = some t := by rw [← Array.getElem?_toList, hts]; rfl
    have t1 : ts[1]? = some u := by rw [← Array.getElem?_toList, hts]; rfl
    have a0 : (as.map a.eval)[0]? = some cs := by rw [← Array.getElem?_toList, Array.toList_map, hl]; rfl
    have a1 : (as.map a.eval)[1]? = some cx := by rw [← Array.getElem?_toList, Array.toList_map, hl]; rfl
    have hexec : ∀ w', (∃ cv, (Builtin.append_ ts o.type (as.map a.eval)).run P w = .ok cv w') → ∀ cv, (Builtin.append_ ts o.type (as.map a.eval)).run P w = .ok cv w' → (execOp a.eval o).run P w = .ok (.value cv) w' := by
      intro w' _ cv hcv
      rw [execOp_builtin ho]
      simp [builtin, hcv]
    cases he : telem P t with
    | none => trivial
    | some e =>
      simp only
      cases hsz : tsz P e with
      | none => trivial
      | some sz =>
        simp only
        cases hby : tbytes P e with
        | none => trivial
        | some by_ =>
          simp only
          cases hz : tzcells P e with
          | none => trivial
          | some z =>
            simp only
            cases hb : band (Nat.beq z.len sz) (bnot (isIntT P u)) with
            | false => trivial
            | true =>
              simp only
              cases hn : srcN x with
              | none => trivial
              | some n =>
                simp only
                cases hsl : srcL x n sz h with
                | none => trivial
                | some new =>
                  simp only
                  obtain ⟨hb1, hb2⟩ := band_iff.1 hb
                  have hb1 := Nat.eq_of_beq_eq_true hb1
                  obtain ⟨zv, hz1, hz2⟩ := tz_sound μ hz
                  have hzs : zv.cells.size = sz := by rw [← hb1, hz2.len]; simp
                  have hu : P.underlying t = some (.slice e) := by
                    unfold telem at he
                    split at he
                    · rename_i e' hu; cases he; exact hu
                    · cases he
                  obtain ⟨dx, hdx, hni⟩ : ∃ dx, P.underlying u = some dx ∧ ∀ k, dx ≠ .int k := by
                    rw [bnot_eq] at hb2
                    unfold isIntT at hb2
                    split at hb2
                    · cases hb2
                    · rename_i d hd hu; exact ⟨d, hu, fun k e => hd k e⟩
                    · cases hb2
                  have hlen : ∀ w, (Builtin.lenOf cx).run P w = .ok n w := fun w => srcN_sound hx hn
                  obtain ⟨nvs, hnv, hfirst⟩ := srcL_sound (P := P) hh hx hsl ⟨n, hn, Nat.le_refl _⟩
                  cases happ : appendA sz by_ s x n new h with
                  | fail => trivial
                  | val v h' =>
                    obtain ⟨cv, μ', w', h1, h2, h3⟩ := appendA_sound (ty := o.type) hh t0 t1 a0 a1 hu hsz hby hz1 hzs hdx hni hlen hs hnv hfirst happ
                    exact ⟨cv, μ', w', .inl (hexec w' ⟨cv, h1⟩ cv h1), h2, h3⟩
                  | enter f args h' => exact absurd happ ((appendA_not sz by_ s x n new h).1 f args h')
                  | round i args h' => exact absurd happ ((appendA_not sz by_ s x n new h).2 i args h')
  · trivial
end Go.Ev
