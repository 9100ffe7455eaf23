/- Copy, calls; every operation of the evaluator's is sound. -/
import Derived.Test.YtbdhjclehikikabGreatDoorEvOps5
namespace Go.Ev
open Go.RowKit
set_option linter.unusedVariables false
set_option linter.unusedSimpArgs false

theorem firstCells0 {P : Program} {w : World} {μ : Mu} {x : AV} {cx : Value} (hx : VR1 μ x cx) {n : Nat} (hn : srcN x = some n) (sz : Nat) : (Builtin.firstCells sz 0 cx).run P w = .ok #[] w := by
  unfold srcN at hn
  split at hn
  · obtain ⟨B, c, hB, hx, _⟩ := hx
    have hx := (List.cons.inj hx).1
    rw [hx]; simp [Builtin.firstCells, loadCells, loadCellsFrom]
  · obtain ⟨B, off, c, hB, hx, _⟩ := hx
    have hx := (List.cons.inj hx).1
    rw [hx]; simp [Builtin.firstCells, loadCells, loadCellsFrom]
  · have hx : cx = .slice none 0 0 := by simpa [VR] using hx
    rw [hx]; simp [Builtin.firstCells]
  · obtain ⟨bs, hx, hbs⟩ := hx
    have hx := (List.cons.inj hx).1
    rw [hx]; simp [Builtin.firstCells]
  · cases hn

theorem eff_copy {o : Oper} {ts : Array TypeId} {as : Array Operand} (ho : o.op = .call ⟨.builtin .copy, as, ts⟩) : EffOK (fun P r h => xCopy ts.toList (evs as.toList r) P h) o := by
  intro P r μ B0 h w a hh hr
  have hx := evs_sound hh.glob hr as.toList
  simp only
  unfold xCopy
  split
  · rename_i t ts' d x rest hts hev
    rw [hev] at hx
    obtain ⟨cd, r1, hl, hd, cx, r2, e1, hx, _⟩ := hx
    subst e1
    have t0 : ts[0]? = some t := by rw [← Array.getElem?_toList, hts]; rfl
    have a0 : (as.map a.eval)[0]? = some cd := by rw [← Array.getElem?_toList, Array.toList_map, hl]; rfl
    have a1 : (as.map a.eval)[1]? = some cx := by rw [← Array.getElem?_toList, Array.toList_map, hl]; rfl
    have hexec : ∀ (cv : Value) (w' : World), (Builtin.copy_ ts o.type (as.map a.eval)).run P w = .ok cv w' → (execOp a.eval o).run P w = .ok (.value cv) w' := by
      intro cv w' hcv
      rw [execOp_builtin ho]
      simp [builtin, hcv]
    cases he : telem P t with
    | none => trivial
    | some e =>
      simp only
      have hu : P.underlying t = some (.slice e) := by
        unfold telem at he
        split at he
        · rename_i e' hu; cases he; exact hu
        · cases he
      cases hsz : tsz P e with
      | none => trivial
      | some sz =>
        simp only
        split
        · rename_i id off dl cap sz'
          obtain ⟨B, c, hB, hcd, hc1, hc2, hfit⟩ := hd
          have hcd := (List.cons.inj hcd).1
          subst hcd
          cases hzz : Nat.beq sz sz' with
          | false => trivial
          | true =>
            simp only
            have hzz := Nat.eq_of_beq_eq_true hzz
            subst hzz
            cases hn : srcN x with
            | none => trivial
            | some sn =>
              simp only
              cases hs : srcL x (Nat.min sn dl) sz h with
              | none => trivial
              | some new =>
                simp only
                cases hp : putAt id off (Nat.mul (Nat.min sn dl) sz) new h with
                | none => trivial
                | some h' =>
                  simp only
                  obtain ⟨vs, hv, hfirst⟩ := srcL_sound (P := P) hh hx hs ⟨sn, hn, Nat.min_le_left _ _⟩
                  obtain ⟨p1, p2, p3⟩ := putAt_sound (P := P) hh hp hv hB
                  have hf := hfirst w rfl
                  have hlen := srcN_sound (P := P) (w := w) hx hn
                  refine ⟨.int .i64 (Nat.min sn dl : Nat), μ, _, .inl (hexec _ _ ?_), rfl, p3⟩
                  unfold Builtin.copy_
                  simp only [t0, a0, a1, Sem.run_bind, run_underlying' hu, Result.andThen_ok, hlen, run_sizeOf' hsz, hf]
                  simp only [Sem.run_bind, p2, Result.andThen_ok, Sem.run_pure]
                  rfl
        · have hcd : cd = .slice none 0 0 := by simpa [VR] using hd
          subst hcd
          cases hn : srcN x with
          | none => trivial
          | some sn =>
            have hlen := srcN_sound (P := P) (w := w) hx hn
            have hf := firstCells0 (P := P) (w := w) hx hn sz
            refine ⟨.int .i64 0, μ, w, .inl (hexec _ _ ?_), rfl, Post.refl hh⟩
            unfold Builtin.copy_
            have : Nat.min sn 0 = 0 := Nat.min_zero sn
            simp only [t0, a0, a1, Sem.run_bind, run_underlying' hu, Result.andThen_ok, hlen, run_sizeOf' hsz, this, hf]
            rfl
        · obtain ⟨B, off, c, hB, hcd, hfit⟩ := hd
          have hcd := (List.cons.inj hcd).1
          subst hcd
          cases hn : srcN x with
          | none => trivial
          | some sn =>
            have hlen := srcN_sound (P := P) (w := w) hx hn
            have hf := firstCells0 (P := P) (w := w) hx hn sz
            refine ⟨.int .i64 0, μ, w, .inl (hexec _ _ ?_), rfl, Post.refl hh⟩
            unfold Builtin.copy_
            have : Nat.min sn 0 = 0 := Nat.min_zero sn
            simp only [t0, a0, a1, Sem.run_bind, run_underlying' hu, Result.andThen_ok, hlen, run_sizeOf' hsz, this, hf]
            rfl
        · trivial
  · trivial

theorem eff_call {o : Oper} {f : Operand} {as : Array Operand} {ts : Array TypeId} (ho : o.op = .call ⟨.value f, as, ts⟩) : EffOK (fun _ r h => callV (ev f r) (evs as.toList r) h) o := by
  intro P r μ B0 h w a hh hr
  have hf := ev_sound hh.glob hr f
  have hx := evs_sound hh.glob hr as.toList
  simp only
  unfold callV
  split
  · rename_i g p q ef
    rw [ef] at hf
    obtain ⟨F, C, hf, _, h1, h2⟩ := hf
    have hf : a.eval f = .func (.func g) F C := by simpa using hf
    refine ⟨rfl, F ++ as.map a.eval ++ C, ?_, ?_⟩
    · simp [execOp, ho, resolve, hf, Deferred.ofValue, invoke]
    · rw [Array.toList_append, Array.toList_append, List.append_assoc]
      refine VRL.app (VRL.app h2 ?_) h1
      simpa using hx
  · rename_i id ef
    rw [ef] at hf
    obtain ⟨B, hB, hf⟩ := hf
    have hf : a.eval f = .func (.yield B.b) #[] #[] := by simpa using hf
    refine ⟨rfl, B, as.map a.eval, hB, ?_, by simpa using hx⟩
    simp [execOp, ho, resolve, hf, Deferred.ofValue, invoke]
  · trivial

/-- What is told of an operation by its kind. -/
def ClsOK (o : Oper) : OC → Prop
  | .bad => True
  | .pure f => PureOK f o
  | .load f => LoadOK f o
  | .alloc f => AllocOK f o
  | .eff f => EffOK f o
theorem cls_sound (o : Oper) : ClsOK o (cls o.op) := by
  unfold cls
  split
  · rename_i x ho; exact pure_move (.inl ho)
  · rename_i x ho; exact pure_move (.inr ho)
  · rename_i ho; exact pure_pick ho
  · rename_i ho; exact alloc_alloc ho
  · rename_i ho; exact alloc_box ho
  · rename_i ho; exact pure_build ho
  · rename_i ho; exact alloc_buildSlice ho
  · rename_i ho; exact load_load ho
  · rename_i ho; exact eff_store ho
  · rename_i ho; exact pure_nilCheck ho
  · rename_i ho; exact pure_bin ho
  · rename_i ho; exact pure_un ho
  · rename_i ho; exact load_convert ho
  · rename_i ho; exact pure_makeInterface ho
  · rename_i ho; exact pure_makeFunc ho
  · rename_i ho; exact alloc_makeSlice ho
  · rename_i ho; exact load_slice ho
  · rename_i ho; exact pure_fieldAddr ho
  · rename_i ho; exact pure_field ho
  · rename_i ho; exact pure_indexAddr ho
  · rename_i ho; exact pure_index ho
  · rename_i ho; exact pure_extract ho
  · rename_i c ho
    obtain ⟨cl, as, ts⟩ := c
    unfold callC
    cases cl with
    | value f => exact eff_call ho
    | invoke _ _ => trivial
    | builtin b =>
      simp only
      unfold builtinC
      cases b <;> first
        | trivial
        | exact eff_append ho
        | exact pure_len ho
        | exact eff_copy ho
        | exact pure_min ho
        | exact pure_max ho
  · trivial
end Go.Ev
