/- The rest of the operations that compute, read, or make a block. -/
import Derived.Test.YtbdhjclehikikabGreatDoorEvOps3
namespace Go.Ev
open Go.RowKit
set_option linter.unusedVariables false
set_option linter.unusedSimpArgs false

theorem pure_un {o : Oper} {op : UnOp} {t : TypeId} {x : Operand} (ho : o.op = .unOp op t x) : PureOK (xUn op t x) o := by
  intro P r μ a v hg hr hv
  have hx := ev_sound hg hr x
  unfold xUn unA at hv
  split at hv
  · rename_i k n ex
    rw [ex] at hx
    have hx : a.eval x = .int k n := by simpa [VR] using hx
    cases hv
    exact ⟨.int k (k.wrap (0 - n)), fun w => by simp [execOp, ho, hx, Op.unary, Op.intArith], by rw [iwrap_eq]; rfl⟩
  · rename_i k p q ex
    rw [ex] at hx
    obtain ⟨n, hx, hn⟩ := hx
    have hx : a.eval x = .int k n := by simpa using hx
    cases hle : ile p q with
    | false => simp only [hle] at hv; cases hv
    | true =>
    simp only [hle] at hv
    rw [ile_dec] at hle
    have hn := hn.1 (of_decide_eq_true hle)
    obtain ⟨h1, h2⟩ := rngOf_sound (n := 0 - n) hv ⟨by show 0 - q ≤ 0 - n; omega, by show 0 - n ≤ 0 - p; omega⟩
    refine ⟨.int k (k.wrap (0 - n)), fun w => by simp [execOp, ho, hx, Op.unary, Op.intArith], ?_⟩
    rw [h1, h2]
    exact ⟨0 - n, rfl, InR.of ⟨by show 0 - q ≤ 0 - n; omega, by show 0 - n ≤ 0 - p; omega⟩⟩
  · rename_i b ex
    rw [ex] at hx
    have hx : a.eval x = .bool b := by simpa [VR] using hx
    cases hv
    exact ⟨.bool (!b), fun w => by simp [execOp, ho, hx, Op.unary], by rw [bnot_eq]; rfl⟩
  · cases hv

theorem bytesL_spec {μ : Mu} : ∀ {l : AV} {vs : List Value} {s : List Nat}, VRL μ l vs → bytesL l = some s → vs = s.map (fun b : Nat => Value.int .u8 (b : Int)) ∧ ∀ b ∈ s, b < 256 := by
  intro l
  induction l with
  | nil => intro vs s h hs; cases (show vs = [] from h); cases (show some [] = some s from hs); exact ⟨rfl, by simp⟩
  | cons x t ihx iht =>
    intro vs s h hs
    obtain ⟨v, r, rfl, h1, h2⟩ := h
    change bytesC x (bytesL t) = some s at hs
    unfold bytesC at hs
    split at hs
    · rename_i b
      have hv : v = .int .u8 (b : Int) := by simpa [VR] using h1
      cases hb : natLt b 256 with
      | false => rw [hb] at hs; cases hs
      | true =>
        simp only [hb] at hs
        cases ht : bytesL t with
        | none => simp only [ht] at hs; cases hs
        | some s' =>
          simp only [ht] at hs
          cases hs
          obtain ⟨h3, h4⟩ := iht h2 ht
          refine ⟨by rw [hv, h3]; rfl, ?_⟩
          intro c hc
          rcases List.mem_cons.1 hc with e | e
          · subst e; exact natLt_iff.1 hb
          · exact h4 c e
    · cases hs
  | _ => intro vs s h hs; exact h.elim
theorem bytesToString_run {P : Program} {w : World} (vs : List Value) (s : List Nat) (hvs : vs = s.map (fun b : Nat => Value.int .u8 (b : Int))) (hs : ∀ b ∈ s, b < 256) (b : ByteArray) :
    ∃ r : ByteArray, (forIn (m := Sem) vs.toArray b (fun c r => match c with
        | .int .u8 n => pure (ForInStep.yield (r.push (UInt8.ofNat n.toNat)))
        | _ => do
          stuck "bytesToString: byte expected"
          pure (ForInStep.yield r))).run P w = .ok r w ∧ r.data.toList.map UInt8.toNat = b.data.toList.map UInt8.toNat ++ s := by
  rw [← Array.forIn_toList]
  subst hvs
  simp only
  induction s generalizing b with
  | nil => exact ⟨b, by simp, by simp⟩
  | cons c s ih =>
    obtain ⟨r, h1, h2⟩ := ih (fun b hb => hs b (by simp [hb])) (b.push (UInt8.ofNat c))
    refine ⟨r, ?_, ?_⟩
    · simp only [List.map_cons, List.forIn_cons, Sem.run_bind, Sem.run_pure, Result.andThen_ok]
      simpa using h1
    · rw [h2]
      have hc : c < 256 := hs c (by simp)
      simp [ByteArray.push, UInt8.toNat_ofNat', Nat.mod_eq_of_lt hc]

theorem convA_sound {P : Program} {μ : Mu} {src dst : TypeId} {x v : AV} {cx : Value} (hx : VR1 μ x cx) (hv : convA P src dst x = some v) : ∃ cv, (∀ w, (convert src dst cx).run P w = .ok cv w) ∧ VR1 μ v cv := by
  unfold convA at hv
  split at hv
  · rename_i ds k hs hd
    split at hv
    · rename_i l n
      have hx : cx = .int l n := by simpa [VR] using hx
      cases hv
      exact ⟨.int k (k.wrap n), fun w => by simp [convert, run_underlying' hs, run_underlying' hd, hx, Conv.intToInt], by rw [iwrap_eq]; rfl⟩
    · rename_i l p q
      obtain ⟨n, hx, hn⟩ := hx
      have hx : cx = .int l n := by simpa using hx
      cases hle : ile p q with
      | false =>
        simp only [hle] at hv
        cases hf : band (fits k 0) (fits k 255) with
        | false => rw [hf] at hv; cases hv
        | true =>
          rw [hf] at hv
          cases hv
          have hle2 := hle
          rw [ile_dec] at hle2
          obtain ⟨f1, f2⟩ := band_iff.1 hf
          have f1 := fits_iff.1 f1
          have f2 := fits_iff.1 f2
          have hb := hn.2 (by have := of_decide_eq_false hle2; omega)
          refine ⟨.int k (k.wrap n), fun w => by simp [convert, run_underlying' hs, run_underlying' hd, hx, Conv.intToInt], ?_⟩
          rw [wrap_fits (fits_iff.2 ⟨by omega, by omega⟩)]
          exact ⟨n, rfl, hn⟩
      | true =>
      simp only [hle] at hv
      rw [ile_dec] at hle
      have hn := hn.1 (of_decide_eq_true hle)
      obtain ⟨h1, h2⟩ := rngOf_sound (n := n) hv hn
      exact ⟨.int k (k.wrap n), fun w => by simp [convert, run_underlying' hs, run_underlying' hd, hx, Conv.intToInt], by rw [h1, h2]; exact ⟨n, rfl, InR.of hn⟩⟩
    · cases hv
  · rename_i ds hs hd
    split at hv
    · rename_i s
      have h2 := hx
      obtain ⟨bs, hx, hb⟩ := hx
      have hx : cx = .string bs := by simpa using hx
      cases hv
      refine ⟨cx, fun w => ?_, h2⟩
      subst hx
      cases ds <;> simp [convert, run_underlying' hs, run_underlying' hd]
    · rename_i s
      have h2 := hx
      obtain ⟨bs, hx, hb⟩ := hx
      have hx : cx = .string bs := by simpa using hx
      cases hv
      refine ⟨cx, fun w => ?_, h2⟩
      subst hx
      cases ds <;> simp [convert, run_underlying' hs, run_underlying' hd]
    · cases hv
  · cases hv

theorem load_convert {o : Oper} {src dst : TypeId} {x : Operand} (ho : o.op = .convert src dst x) : LoadOK (xConvert src dst x) o := by
  intro P r μ B0 h w a v hh hr hv
  have hx := ev_sound hh.glob hr x
  unfold xConvert at hv
  split at hv
  · rename_i id off len cap sz ex
    rw [ex] at hx
    obtain ⟨B, c, hB, hx, _⟩ := hx
    have hx : a.eval x = .slice (some ⟨B.b, B.base + off, none⟩) len c := by simpa using hx
    split at hv
    · rename_i e hs hd
      split at hv
      · rename_i he
        cases hc : cellsAt h id with
        | none => rw [hc] at hv; cases hv
        | some y =>
          simp only [hc] at hv
          cases hcl : coll y.1 len off with
          | none => simp only [hcl] at hv; cases hv
          | some l =>
            simp only [hcl] at hv
            cases hbl : bytesL l with
            | none => rw [hbl] at hv; cases hv
            | some s =>
              rw [hbl] at hv
              cases hv
              obtain ⟨h0, cc, el, fz, h1, h2, h3, h4⟩ := hh.obj id B _ hB (HR.cellsAt (μ := μ) (B0 := B0) (w := w) hc)
              obtain ⟨vs, h5, h6, h7⟩ := coll_spec (f := fun k => cc[B.base + k]?) (fun k v e => (h4 k v e).2) len hcl
              obtain ⟨h8, h9⟩ := bytesL_spec h5 hbl
              have hl := run_loadCells_list (P := P) w ⟨B.b, B.base + off, none⟩ vs (fun j v hj => by
                rw [addr_add]
                exact cell_of h1 (by have := h7 j v hj; rwa [show B.base + off + j = B.base + (off + j) by omega]))
              rw [h6] at hl
              obtain ⟨rr, h10, h11⟩ := bytesToString_run (P := P) (w := w) vs s h8 h9 ByteArray.empty
              refine ⟨.string rr, ?_, rr, rfl, by simpa using h11⟩
              simp only [execOp, ho, hx, convert, Sem.run_bind, run_underlying' hs, run_underlying' hd, run_underlying' he, Result.andThen_ok, Conv.bytesToString, hl]
              exact congrArg (fun r : Result ByteArray => ((r.andThen fun a w' => Sem.run P (pure (Value.string a)) w').andThen fun a w' => Sem.run P (pure (Next.value a)) w')) h10
      · cases hv
    · cases hv
  · obtain ⟨cv, h1, h2⟩ := convA_sound hx hv
    exact ⟨cv, by simp [execOp, ho, h1], h2⟩
/-! ### Builtins that only compute -/
theorem execOp_builtin {o : Oper} {b : Builtin} {ts : Array TypeId} {as : Array Operand} (ho : o.op = .call ⟨.builtin b, as, ts⟩) (P : Program) (ρ : Operand → Value) (w : World) :
    (execOp ρ o).run P w = (builtin b ts o.type (as.map fun | .const _ => true | _ => false) (as.map ρ)).run P w := by
  simp [execOp, ho, resolve, invoke]
  rfl
theorem lenA_sound {P : Program} {μ : Mu} {t : TypeId} {x : AV} {cx : Value} {n : Nat} (hx : VR1 μ x cx) (h : lenA P t x = some n) (ts : Array TypeId) (as : Array Value) (ty : TypeId) (h1 : ts[0]? = some t) (h2 : as[0]? = some cx) (w : World) :
    (Builtin.len_ ts ty as).run P w = .ok (.int .i64 n) w := by
  unfold lenA at h
  split at h
  · rename_i hu
    split at h
    · rename_i s
      obtain ⟨bs, hx, hb⟩ := hx
      have hx : cx = .string bs := by simpa using hx
      cases h
      have : bs.size = s.length := by rw [← hb, List.length_map, Array.length_toList]; rfl
      simp [Builtin.len_, h1, h2, run_underlying' hu, hx, goInt, this]
    · cases h
  · rename_i e hu
    split at h
    · obtain ⟨B, c, hB, hx, _⟩ := hx
      cases h
      have hx := (List.cons.inj hx).1
      simp [Builtin.len_, h1, h2, run_underlying' hu, hx, goInt]
    · obtain ⟨B, o, c, hB, hx, _⟩ := hx
      cases h
      have hx := (List.cons.inj hx).1
      simp [Builtin.len_, h1, h2, run_underlying' hu, hx, goInt]
    · have hx : cx = .slice none 0 0 := by simpa [VR] using hx
      cases h
      simp [Builtin.len_, h1, h2, run_underlying' hu, hx, goInt]
    · cases h
  · rename_i e hu
    cases h
    simp [Builtin.len_, h1, h2, run_underlying' hu, goInt]
  · rename_i e hu
    split at h
    · rename_i m el hu2
      cases h
      simp [Builtin.len_, h1, h2, run_underlying' hu, run_underlying' hu2, goInt]
    · cases h
  · rename_i e hu
    split at h
    · have hx : cx = .map none := by simpa [VR] using hx
      cases h
      simp [Builtin.len_, h1, h2, run_underlying' hu, hx, goInt]
    · cases h
  · cases h
theorem pure_len {o : Oper} {ts : Array TypeId} {as : Array Operand} (ho : o.op = .call ⟨.builtin .len, as, ts⟩) : PureOK (fun P r => xLen ts.toList (evs as.toList r) P) o := by
  intro P r μ a v hg hr hv
  have hx := evs_sound hg hr as.toList
  simp only at hv
  unfold xLen at hv
  split at hv
  · rename_i t u x y hts hev
    rw [hev] at hx
    obtain ⟨cx, rest, hl, h1, h2⟩ := hx
    cases hn : lenA P t x with
    | none => rw [hn] at hv; cases hv
    | some n =>
      rw [hn] at hv
      cases hv
      refine ⟨.int .i64 n, fun w => ?_, rfl⟩
      rw [execOp_builtin ho]
      have e1 : ts[0]? = some t := by rw [← Array.getElem?_toList, hts]; rfl
      have e2 : (as.map a.eval)[0]? = some cx := by
        rw [← Array.getElem?_toList, Array.toList_map, hl]; rfl
      have := lenA_sound h1 hn ts (as.map a.eval) o.type e1 e2 w
      simp [builtin, this]
  · cases hv
theorem pure_min {o : Oper} {ts : Array TypeId} {as : Array Operand} (ho : o.op = .call ⟨.builtin .min, as, ts⟩) : PureOK (fun _ r => xMin ilt (evs as.toList r)) o := by
  intro P r μ a v hg hr hv
  have hx := evs_sound hg hr as.toList
  simp only at hv
  unfold xMin at hv
  split at hv
  · rename_i k p l q hev
    rw [hev] at hx
    obtain ⟨c1, r1, hl, h1, c2, r2, e2, h2, e3⟩ := hx
    have h1 : c1 = .int k p := by simpa [VR] using h1
    have h2 : c2 = .int l q := by simpa [VR] using h2
    cases (show r2 = [] from e3)
    subst e2
    cases hk : keq k l with
    | false => rw [hk] at hv; cases hv
    | true =>
      rw [hk] at hv
      cases hv
      have hke := keq_iff.1 hk
      subst hke
      refine ⟨.int k (if q < p then q else p), fun w => ?_, ?_⟩
      · rw [execOp_builtin ho]
        have : (as.map a.eval).toList = [.int k p, .int k q] := by rw [Array.toList_map, hl, h1, h2]
        simp only [builtin, Builtin.min_, this]
        simp [Builtin.min2]
      · rw [ilt_dec]
        by_cases hlt : q < p
        · rw [decide_eq_true hlt, if_pos hlt]; rfl
        · rw [decide_eq_false hlt, if_neg hlt]; rfl
  · cases hv
theorem pure_max {o : Oper} {ts : Array TypeId} {as : Array Operand} (ho : o.op = .call ⟨.builtin .max, as, ts⟩) : PureOK (fun _ r => xMin (fun b a => ilt a b) (evs as.toList r)) o := by
  intro P r μ a v hg hr hv
  have hx := evs_sound hg hr as.toList
  simp only at hv
  unfold xMin at hv
  split at hv
  · rename_i k p l q hev
    rw [hev] at hx
    obtain ⟨c1, r1, hl, h1, c2, r2, e2, h2, e3⟩ := hx
    have h1 : c1 = .int k p := by simpa [VR] using h1
    have h2 : c2 = .int l q := by simpa [VR] using h2
    cases (show r2 = [] from e3)
    subst e2
    cases hk : keq k l with
    | false => rw [hk] at hv; cases hv
    | true =>
      rw [hk] at hv
      cases hv
      have hke := keq_iff.1 hk
      subst hke
      refine ⟨.int k (if p < q then q else p), fun w => ?_, ?_⟩
      · rw [execOp_builtin ho]
        have : (as.map a.eval).toList = [.int k p, .int k q] := by rw [Array.toList_map, hl, h1, h2]
        simp only [builtin, Builtin.max_, this]
        simp [Builtin.max2]
      · show VR1 μ (.int k (Bool.casesOn (motive := fun _ => Int) (ilt p q) p q)) _
        rw [ilt_dec]
        by_cases hlt : p < q
        · rw [decide_eq_true hlt, if_pos hlt]; rfl
        · rw [decide_eq_false hlt, if_neg hlt]; rfl
  · cases hv

/-! ### What makes a block -/
theorem alloc_box {o : Oper} {t : TypeId} {x : Operand} (ho : o.op = .box t x) : AllocOK (xBox t x) o := by
  intro P r μ a A c hg hr hv hl
  cases hv
  obtain ⟨h1, h2⟩ := lay_ne hl
  have hx := (ev_sound hg hr x).cells h1 h2
  exact ⟨trivial, (a.eval x).cells, t, hx, fun w => by simp [execOp, ho, Instr.box, newVar, newRow, MK.val]⟩
theorem alloc_alloc {o : Oper} {t : TypeId} (ho : o.op = .alloc t) : AllocOK (xAlloc t) o := by
  intro P r μ a A c hg hr hv hl
  unfold xAlloc at hv
  cases hz : tzcells P t with
  | none => rw [hz] at hv; cases hv
  | some z =>
    rw [hz] at hv
    cases hv
    obtain ⟨zv, h1, h2⟩ := tz_sound μ hz
    exact ⟨trivial, zv.cells, t, h2, fun w => by simp [execOp, ho, Instr.alloc, run_zero' h1, newVar, newRow, MK.val]⟩
theorem reps_cells (z : Array Value) (n sz : Nat) (hz : z.size = sz) : ((Array.range (n * sz)).map fun i => z[i % z.size]!).toList = (List.replicate n z.toList).flatten := by
  apply List.ext_getElem?
  intro i
  rw [Array.toList_map, List.getElem?_map, Array.toList_range]
  induction n generalizing i with
  | zero => simp
  | succ n ih =>
    rw [List.replicate_succ, List.flatten_cons]
    by_cases hi : i < sz
    · rw [List.getElem?_append_left (by rw [Array.length_toList]; omega)]
      have h1 : i < (n + 1) * sz := by rw [Nat.succ_mul]; omega
      rw [List.getElem?_range h1]
      have h2 : i % z.size = i := Nat.mod_eq_of_lt (by omega)
      simp [h2, show i < z.size by omega]
    · rw [List.getElem?_append_right (by rw [Array.length_toList]; omega), Array.length_toList, hz, ← ih]
      by_cases h1 : i < (n + 1) * sz
      · have h2 : i - sz < n * sz := by rw [Nat.succ_mul] at h1; omega
        rw [List.getElem?_range h1, List.getElem?_range h2]
        have h3 : i % z.size = (i - sz) % z.size := by
          rw [hz]
          conv => lhs; rw [show i = (i - sz) + sz by omega]
          rw [Nat.add_mod_right]
        simp only [Option.map_some]
        rw [hz] at h3 ⊢
        rw [h3]
      · have h2 : ¬ i - sz < n * sz := by rw [Nat.succ_mul] at h1; omega
        rw [List.getElem?_eq_none (by rw [List.length_range]; omega), List.getElem?_eq_none (by rw [List.length_range]; omega)]
        rfl
theorem alloc_buildSlice {o : Oper} {t : TypeId} {n : Nat} {ps : Array (Nat × Operand)} (ho : o.op = .buildSlice t n ps) : AllocOK (xBuildSlice t n ps) o := by
  intro P r μ a A c hg hr hv hl
  unfold xBuildSlice at hv
  cases he : telem P t with
  | none => rw [he] at hv; cases hv
  | some e =>
    simp only [he] at hv
    cases hz : tzcells P e with
    | none => simp only [hz] at hv; cases hv
    | some z =>
      simp only [hz] at hv
      cases hs : tsz P e with
      | none => simp only [hs] at hv; cases hv
      | some sz =>
        simp only [hs] at hv
        cases hb : band (Nat.beq z.len sz) (Nat.ble (Nat.mul n sz) 16777216) with
        | false => simp only [hb] at hv; cases hv
        | true =>
          simp only [hb] at hv
          cases hf : fills (fun i => some (i * sz, sz)) (Nat.mul n sz) ps.toList r (reps n z) with
          | none => simp only [hf] at hv; cases hv
          | some l =>
            simp only [hf] at hv
            cases hv
            obtain ⟨hb1, hb2⟩ := band_iff.1 hb
            have hb1 := Nat.eq_of_beq_eq_true hb1
            have hb2 := Nat.le_of_ble_eq_true hb2
            change n * sz ≤ 16777216 at hb2
            obtain ⟨zv, hz1, hz2⟩ := tz_sound μ hz
            have hzs : zv.cells.size = sz := by rw [← hb1, hz2.len]; simp
            have hu : P.underlying t = some (.slice e) := by
              unfold telem at he
              split at he
              · rename_i e' hu; cases he; exact hu
              · cases he
            have hr0 := VRL.reps hz2 n
            rw [← reps_cells zv.cells n sz hzs] at hr0
            obtain ⟨c', h1, h2, h3⟩ := fills_sound hg hr (fun i => some (i * sz, sz)) (fun i => some (i * sz, sz)) (fun _ _ e => e) (Nat.mul n sz) ps.toList hr0 (by simp) hf
            refine ⟨⟨Nat.le_refl _, Nat.le_refl _⟩, c', e, h2, fun w => ?_⟩
            have hnot : ¬ n * sz > 2 ^ 24 := by omega
            by_cases h0 : n * sz = 0
            · have e1 : ∀ zz : Array Value, ((Array.range (n * sz)).map fun i => zz[i % zz.size]!) = #[] := by intro zz; rw [h0]; simp
              rw [e1] at h1
              simp [execOp, ho, Instr.buildSlice, run_underlying' hu, run_sizeOf' hs, h0, newRow, MK.val]
              rw [show Array.map (fun _ : Nat => (default : Value)) (Array.range 0) = #[] by simp, h1]
              simp
            · simp [execOp, ho, Instr.buildSlice, run_underlying' hu, run_sizeOf' hs, hnot, h0, run_zero' hz1, h1, newRow, MK.val]
theorem alloc_makeSlice {o : Oper} {t : TypeId} {x y : Operand} (ho : o.op = .makeSlice t x y) : AllocOK (xMakeSlice t x y) o := by
  intro P r μ a A c hg hr hv hl
  have hx := ev_sound hg hr x
  have hy := ev_sound hg hr y
  unfold xMakeSlice at hv
  cases he : telem P t with
  | none => rw [he] at hv; cases hv
  | some e =>
    simp only [he] at hv
    cases hz : tzcells P e with
    | none => simp only [hz] at hv; cases hv
    | some z =>
      simp only [hz] at hv
      cases hs : tsz P e with
      | none => simp only [hs] at hv; cases hv
      | some sz =>
        simp only [hs] at hv
        cases hby : tbytes P e with
        | none => simp only [hby] at hv; cases hv
        | some by_ =>
          simp only [hby] at hv
          split at hv
          · rename_i k1 ln k2 cp ex ey
            rw [ex] at hx; rw [ey] at hy
            have hx : a.eval x = .int k1 (ln : Int) := by simpa [VR] using hx
            have hy : a.eval y = .int k2 (cp : Int) := by simpa [VR] using hy
            cases hb : band (Nat.beq z.len sz) (band (Nat.ble ln cp) (band (Nat.ble cp 1048576) (Nat.ble by_ 1048576))) with
            | false => simp only [hb] at hv; cases hv
            | true =>
              simp only [hb] at hv
              cases hv
              obtain ⟨hb1, hb2⟩ := band_iff.1 hb
              obtain ⟨hb2, hb3⟩ := band_iff.1 hb2
              obtain ⟨hb3, hb4⟩ := band_iff.1 hb3
              have hb1 := Nat.eq_of_beq_eq_true hb1
              have hb2 := Nat.le_of_ble_eq_true hb2
              have hb3 := Nat.le_of_ble_eq_true hb3
              have hb4 := Nat.le_of_ble_eq_true hb4
              obtain ⟨zv, hz1, hz2⟩ := tz_sound μ hz
              have hzs : zv.cells.size = sz := by rw [← hb1, hz2.len]; simp
              have hu : P.underlying t = some (.slice e) := by
                unfold telem at he
                split at he
                · rename_i e' hu; cases he; exact hu
                · cases he
              have hr0 := VRL.reps hz2 cp
              rw [← reps_cells zv.cells cp sz hzs] at hr0
              refine ⟨⟨hb2, Nat.le_refl _⟩, _, e, hr0, fun w => ?_⟩
              obtain ⟨inf, hi, hib⟩ := tbytes_info (w := w) hby
              have w1 : IntKind.i64.wrap (ln : Int) = ln := IntWalk.i64_in _ (by omega)
              have w2 : IntKind.i64.wrap (cp : Int) = cp := IntWalk.i64_in _ (by omega)
              have hprod : (by_ : Int) * (cp : Int) ≤ 2 ^ 48 := by
                have : by_ * cp ≤ 1048576 * 1048576 := Nat.mul_le_mul hb4 hb3
                have h2 : ((by_ * cp : Nat) : Int) ≤ ((1048576 * 1048576 : Nat) : Int) := Int.ofNat_le.2 this
                rw [Int.natCast_mul] at h2
                omega
              have hlarge : ∀ n : Nat, n ≤ cp → (decide ((n : Int) < 0) || decide ((by_ : Int) * (n : Int) > 2 ^ 48)) = false := by
                intro n hn
                have : (by_ : Int) * (n : Int) ≤ (by_ : Int) * (cp : Int) := Int.mul_le_mul_of_nonneg_left (by omega) (by omega)
                rw [decide_eq_false (by omega), decide_eq_false (by omega)]; rfl
              have hrun : (Instr.makeSlice t (.int k1 (ln : Int)) (.int k2 (cp : Int))).run P w = .ok (.slice (some ⟨w.heap.size, 0, none⟩) ln cp) (w.alloc (.cells ((Array.range (cp * sz)).map fun i => zv.cells[i % zv.cells.size]!) e)) := by
                unfold Instr.makeSlice
                simp only [Sem.run_bind, run_underlying' hu, Result.andThen_ok, asInt, asIntOf, Sem.run_pure, hi, w1, w2, hib, hlarge cp (Nat.le_refl _), Bool.false_or]
                rw [if_neg (by simp; omega)]
                simp only [Sem.run_pure, Result.andThen_ok, run_askRoom, run_sizeOf' hs, Int.toNat_natCast]
                by_cases h0 : cp * sz = 0
                · simp [h0, newRow, run_sizeOf' hs]
                  rw [show Array.map (fun _ : Nat => (default : Value)) (Array.range 0) = #[] by simp, show Array.map (fun i => zv.cells[i % zv.cells.size]!) (Array.range 0) = #[] by simp]
                · simp [h0, run_zero' hz1, newRow, run_sizeOf' hs]
              simp [execOp, ho, hx, hy, hrun, MK.val]
          · cases hv
/-! ### Slices -/
theorem bound_sound {μ : Mu} {r : Tr AV} {a : Act} (hg : Glob μ) (hr : RR μ r a.tmps) {oo : Option Operand} {d m : Nat} {k : Nat → Option AV} {v : AV} (h : bound (oo.map (ev · r)) d m k = some v) :
    ∃ i, k i = some v ∧ ((oo = none ∧ i = d) ∨ (∃ x kd, oo = some x ∧ a.eval x = .int kd (i : Int) ∧ i ≤ m)) := by
  cases oo with
  | none => exact ⟨d, h, .inl ⟨rfl, rfl⟩⟩
  | some x =>
    have hx := ev_sound hg hr x
    simp only [Option.map_some] at h
    unfold bound at h
    split at h
    · rename_i e; cases e
    · rename_i kd i e
      have e := Option.some.inj e
      rw [e] at hx
      have hx : a.eval x = .int kd (i : Int) := by simpa [VR] using hx
      cases hb : Nat.ble i m with
      | false => rw [hb] at h; cases h
      | true => rw [hb] at h; exact ⟨i, h, .inr ⟨x, kd, rfl, hx, Nat.le_of_ble_eq_true hb⟩⟩
    · cases h
/-- The bounds of a slice expression. -/
theorem bounds_run {P : Program} {w : World} {a : Act} {lo hi : Option Operand} {isSlice : Bool} {len cap l h m : Nat} (hh : (hi = none ∧ h = len) ∨ (∃ x kd, hi = some x ∧ a.eval x = .int kd (h : Int) ∧ h ≤ m)) (hm : m ≤ cap)
    (hl : (lo = none ∧ l = 0) ∨ (∃ x kd, lo = some x ∧ a.eval x = .int kd (l : Int) ∧ l ≤ h)) :
    (Instr.sliceBounds isSlice len cap (lo.map a.eval) (hi.map a.eval) none).run P w = .ok (l, h, cap) w := by
  have sb : ∀ (x : Value) (kd : IntKind) (i y : Nat) (c : BoundsCode), x = .int kd (i : Int) → i ≤ y → (Instr.sliceBound x y c).run P w = .ok i w := by
    intro x kd i y c hx hi
    subst hx
    unfold Instr.sliceBound
    simp only [asIntOf, Sem.run_bind, Sem.run_pure, Result.andThen_ok]
    rw [if_pos ⟨by omega, by omega⟩]
    rfl
  rcases hh with ⟨rfl, rfl⟩ | ⟨x, kd, rfl, hx, hxm⟩ <;> rcases hl with ⟨rfl, rfl⟩ | ⟨y, kd', rfl, hy, hym⟩
  · simp [Instr.sliceBounds]
  · simp only [Instr.sliceBounds, Option.map_none, Option.map_some, Sem.run_bind, Sem.run_pure, Result.andThen_ok]
    rw [sb _ kd' l h _ hy hym]
    rfl
  · simp only [Instr.sliceBounds, Option.map_none, Option.map_some, Sem.run_bind, Sem.run_pure, Result.andThen_ok]
    rw [sb _ kd h cap _ hx (by omega)]
    rfl
  · simp only [Instr.sliceBounds, Option.map_none, Option.map_some, Sem.run_bind, Sem.run_pure, Result.andThen_ok]
    rw [sb _ kd h cap _ hx (by omega)]
    simp only [Result.andThen_ok]
    rw [sb _ kd' l h _ hy hym]
    rfl
theorem bytes_extract (bs : ByteArray) (l h : Nat) : (bs.extract l h).data.toList.map UInt8.toNat = subS (bs.data.toList.map UInt8.toNat) l (h - l) := by
  unfold subS
  rw [ByteArray.data_extract, Array.toList_extract, List.extract_eq_take_drop, List.map_take, List.map_drop]
theorem pure_slice {o : Oper} {t : TypeId} {x : Operand} {lo hi mx : Option Operand} (ho : o.op = .slice t x lo hi mx) : PureOK (xSlice t x lo hi mx) o := by
  intro P r μ a v hg hr hv
  have hx := ev_sound hg hr x
  cases mx with
  | some _ => cases hv
  | none =>
    unfold xSlice at hv
    simp only at hv
    split at hv
    · rename_i s hu ex
      rw [ex] at hx
      obtain ⟨bs, hx, hbs⟩ := hx
      have hx : a.eval x = .string bs := by simpa using hx
      have hsz : bs.size = s.length := by rw [← hbs, List.length_map, Array.length_toList]; rfl
      obtain ⟨hh, hv, h1⟩ := bound_sound hg hr hv
      obtain ⟨ll, hv, h2⟩ := bound_sound hg hr hv
      cases hv
      refine ⟨.string (bs.extract ll hh), fun w => ?_, _, rfl, ?_⟩
      · have := bounds_run (P := P) (w := w) (a := a) (isSlice := false) (len := bs.size) (cap := bs.size) (m := s.length) (h := hh) (l := ll) (by rw [hsz]; exact h1) (by omega) h2
        simp [execOp, ho, Instr.sliceAt, run_underlying' hu, Instr.slice, hx, this]
      · rw [bytes_extract, hbs]
    · rename_i e id off len cap sz hu ex
      rw [ex] at hx
      obtain ⟨B, c, hB, hx, hc1, hc2, hc3⟩ := hx
      have hx : a.eval x = .slice (some ⟨B.b, B.base + off, none⟩) len c := by simpa using hx
      cases hz : tsz P e with
      | none => simp only [hz] at hv; cases hv
      | some z =>
        simp only [hz] at hv
        cases hzs : Nat.beq z sz with
        | false => simp only [hzs] at hv; cases hv
        | true =>
          simp only [hzs] at hv
          have hzs := Nat.eq_of_beq_eq_true hzs
          subst hzs
          obtain ⟨hh, hv, h1⟩ := bound_sound hg hr hv
          obtain ⟨ll, hv, h2⟩ := bound_sound hg hr hv
          have hhc : hh ≤ cap := by rcases h1 with ⟨_, e⟩ | ⟨_, _, _, _, e⟩ <;> omega
          have hll : ll ≤ hh := by rcases h2 with ⟨_, e⟩ | ⟨_, _, _, _, e⟩ <;> omega
          have hrun : ∀ w, (Instr.slice t (a.eval x) (lo.map a.eval) (hi.map a.eval) none).run P w = .ok (.slice (if c = ll then some ⟨B.b, B.base + off, none⟩ else some ⟨B.b, B.base + off + ll * z, none⟩) (hh - ll) (c - ll)) w := by
            intro w
            have := bounds_run (P := P) (w := w) (a := a) (isSlice := true) (len := len) (cap := c) (m := cap) (h := hh) (l := ll) h1 hc1 h2
            rw [hx]
            unfold Instr.slice
            simp only [Sem.run_bind, run_underlying' hu, Result.andThen_ok, this, run_sizeOf' hz, Sem.run_pure]
            by_cases e : c = ll
            · rw [if_pos e, if_pos e]
            · rw [if_neg e, if_neg e]; simp [addr_add]
          have hexec : ∀ w, (execOp a.eval o).run P w = .ok (.value (.slice (if c = ll then some ⟨B.b, B.base + off, none⟩ else some ⟨B.b, B.base + off + ll * z, none⟩) (hh - ll) (c - ll))) w := by
            intro w
            simp [execOp, ho, Instr.sliceAt, run_underlying' hu, hrun]
          have hmul : off + (c - ll) * z + ll * z = off + c * z := by
            rw [Nat.add_assoc, ← Nat.add_mul, Nat.sub_add_cancel (by omega)]
          cases hb : band (Nat.beq ll cap) (natLt 0 cap) with
          | false =>
            rw [hb] at hv
            cases hv
            have hne : ll < c ∨ ll = 0 := by
              by_cases h0 : 0 < cap
              · left
                have : Nat.beq ll cap = false := by
                  cases hbb : Nat.beq ll cap with
                  | false => rfl
                  | true => rw [hbb, natLt_iff.2 h0] at hb; cases hb
                have : ll ≠ cap := fun e => by rw [e, Nat.beq_refl] at this; cases this
                omega
              · right; omega
            refine ⟨_, hexec, B, c - ll, hB, ?_, by omega, by omega, ?_⟩
            · by_cases e : c = ll
              · have : ll = 0 := by omega
                subst this
                rw [if_pos e]; simp
              · rw [if_neg e]
                show [Value.slice (some ⟨B.b, B.base + off + ll * z, none⟩) _ _] = [Value.slice (some ⟨B.b, B.base + (off + ll * z), none⟩) _ _]
                rw [Nat.add_assoc]
            · show off + ll * z + (c - ll) * z ≤ B.n
              omega
          | true =>
            rw [hb] at hv
            cases hv
            obtain ⟨hb1, hb2⟩ := band_iff.1 hb
            have hb1 := Nat.eq_of_beq_eq_true hb1
            have hlen0 : hh - ll = 0 := by omega
            by_cases e : c = ll
            · refine ⟨_, hexec, B, off, c - ll, hB, ?_, ?_⟩
              · rw [if_pos e, hlen0]
              · have : c - ll = 0 := by omega
                rw [this]; omega
            · refine ⟨_, hexec, B, off + ll * z, c - ll, hB, ?_, ?_⟩
              · rw [if_neg e, hlen0, Nat.add_assoc]
              · omega
    · rename_i e hu ex
      rw [ex] at hx
      have hx : a.eval x = .slice none 0 0 := by simpa [VR] using hx
      cases hz : tsz P e with
      | none => simp only [hz] at hv; cases hv
      | some z =>
        simp only [hz] at hv
        obtain ⟨hh, hv, h1⟩ := bound_sound hg hr hv
        obtain ⟨ll, hv, h2⟩ := bound_sound hg hr hv
        cases hv
        have hh0 : hh = 0 := by rcases h1 with ⟨_, e⟩ | ⟨_, _, _, _, e⟩ <;> omega
        have ll0 : ll = 0 := by rcases h2 with ⟨_, e⟩ | ⟨_, _, _, _, e⟩ <;> omega
        subst hh0; subst ll0
        refine ⟨.slice none 0 0, fun w => ?_, rfl⟩
        have := bounds_run (P := P) (w := w) (a := a) (isSlice := true) (len := 0) (cap := 0) (m := 0) (h := 0) (l := 0) h1 (Nat.le_refl _) h2
        simp [execOp, ho, Instr.sliceAt, run_underlying' hu, Instr.slice, hx, this, run_sizeOf' hz]
    · cases hv
theorem load_slice {o : Oper} {t : TypeId} {x : Operand} {lo hi mx : Option Operand} (ho : o.op = .slice t x lo hi mx) : LoadOK (xSliceL t x lo hi mx) o := by
  intro P r μ B0 h w a v hh' hr hv
  have hx := ev_sound hh'.glob hr x
  unfold xSliceL at hv
  split at hv
  · rename_i n e id off hu ex
    rw [ex] at hx
    obtain ⟨B, hB, hx⟩ := hx
    have hx : a.eval x = .pointer (some ⟨B.b, B.base + off, none⟩) := by simpa using hx
    cases mx with
    | some _ => cases hv
    | none =>
      simp only at hv
      cases hz : tsz P e with
      | none => simp only [hz] at hv; cases hv
      | some z =>
        simp only [hz] at hv
        cases hc : cellsAt h id with
        | none => simp only [hc] at hv; cases hv
        | some q =>
          simp only [hc] at hv
          cases hb : Nat.ble (Nat.add off (Nat.mul n z)) q.2.1 with
          | false => simp only [hb] at hv; cases hv
          | true =>
            simp only [hb] at hv
            have hb := Nat.le_of_ble_eq_true hb
            change off + n * z ≤ q.2.1 at hb
            obtain ⟨h0, _⟩ := hh'.obj id B _ hB (HR.cellsAt (μ := μ) (B0 := B0) (w := w) hc)
            obtain ⟨hh, hv, h1⟩ := bound_sound hh'.glob hr hv
            obtain ⟨ll, hv, h2⟩ := bound_sound hh'.glob hr hv
            cases hl : natLt ll n with
            | false => rw [hl] at hv; cases hv
            | true =>
              rw [hl] at hv
              cases hv
              have hl := natLt_iff.1 hl
              have hhn : hh ≤ n := by rcases h1 with ⟨_, e⟩ | ⟨_, _, _, _, e⟩ <;> omega
              have hmul : off + (n - ll) * z + ll * z = off + n * z := by
                rw [Nat.add_assoc, ← Nat.add_mul, Nat.sub_add_cancel (by omega)]
              refine ⟨.slice (some ⟨B.b, B.base + (off + ll * z), none⟩) (hh - ll) (n - ll), ?_, B, n - ll, hB, rfl, Nat.le_refl _, by omega, by show off + ll * z + (n - ll) * z ≤ B.n; omega⟩
              have := bounds_run (P := P) (w := w) (a := a) (isSlice := false) (len := n) (cap := n) (m := n) (h := hh) (l := ll) h1 (Nat.le_refl _) h2
              simp [execOp, ho, Instr.sliceAt, run_underlying' hu, hx, Instr.sureAddr, this, run_sizeOf' hz, addr_add, show n ≠ ll by omega]
              omega
  · obtain ⟨cv, h1, h2⟩ := pure_slice ho P r μ a v hh'.glob hr hv
    exact ⟨cv, h1 w, h2⟩
end Go.Ev
