/- The operations over numbers, strings, slices; the builtins that only compute; the operations that make a block. -/
import Derived.Test.YtbdhjclehikikabGreatDoorEvOps2
namespace Go.Ev
open Go.RowKit
set_option linter.unusedVariables false
set_option linter.unusedSimpArgs false

theorem eqGuard_run {P : Program} {w : World} (op : BinOp) (t : TypeId) (x y : Operand) (a b : Value) (h1 : ¬ (a = .nilIface ∧ b = .nilIface)) (h2 : ¬ ∃ c d, a = .agg c ∧ b = .agg d) : (eqGuard op t x y a b).run P w = .ok () w := by
  cases op <;> (first | (simp [eqGuard]; done) | skip) <;>
    (cases a <;> first | (simp [eqGuard]; done) | skip) <;> (cases b <;> first | (simp [eqGuard]; done) | (exact absurd ⟨rfl, rfl⟩ h1) | (exact absurd ⟨_, _, rfl, rfl⟩ h2))

theorem eq_nilp_nilp {P : Program} {w : World} {t e : TypeId} (d : Nat) (hu : P.underlying t = some (.pointer e)) : (Op.equalIn (d + 1) t (.pointer none) (.pointer none)).run P w = .ok true w := by
  simp [Op.equalIn, run_underlying' hu]
theorem eq_nilp_ptr {P : Program} {w : World} {t e : TypeId} (d : Nat) (a : Addr) (hu : P.underlying t = some (.pointer e)) : (Op.equalIn (d + 1) t (.pointer none) (.pointer (some a))).run P w = .ok false w := by
  simp [Op.equalIn, run_underlying' hu]
theorem eq_ptr_nilp {P : Program} {w : World} {t e : TypeId} (d : Nat) (a : Addr) (hu : P.underlying t = some (.pointer e)) : (Op.equalIn (d + 1) t (.pointer (some a)) (.pointer none)).run P w = .ok false w := by
  simp [Op.equalIn, run_underlying' hu]
theorem eq_ptr_ptr {P : Program} {w : World} {t e : TypeId} (d : Nat) (b x y n : Nat) (hu : P.underlying t = some (.pointer e)) (hn : tsz P e = some n) (h0 : n ≠ 0) :
    (Op.equalIn (d + 1) t (.pointer (some ⟨b, x, none⟩)) (.pointer (some ⟨b, y, none⟩))).run P w = .ok (Nat.beq x y) w := by
  simp [Op.equalIn, run_underlying' hu, run_sizeOf' hn, h0, sameAddr]
  rw [natBeq_dec]
  by_cases e : x = y
  · subst e; simp
  · rw [decide_eq_false e]; simp [e]
theorem eq_nils {P : Program} {w : World} {t e : TypeId} (d : Nat) (b : Option Addr) (n c : Nat) (hu : P.underlying t = some (.slice e)) : (Op.equalIn (d + 1) t (.slice b n c) (.slice none 0 0)).run P w = .ok b.isNone w := by
  cases b <;> simp [Op.equalIn, run_underlying' hu]
theorem eq_nilf_nilf {P : Program} {w : World} {t : TypeId} {ps rs : Array TypeId} {va : Bool} (d : Nat) (hu : P.underlying t = some (.func ps rs va)) : (Op.equalIn (d + 1) t .nilFunc .nilFunc).run P w = .ok true w := by
  simp [Op.equalIn, run_underlying' hu]
theorem eq_nilf_func {P : Program} {w : World} {t : TypeId} {ps rs : Array TypeId} {va : Bool} (d : Nat) (f : Fn) (F C : Array Value) (hu : P.underlying t = some (.func ps rs va)) : (Op.equalIn (d + 1) t .nilFunc (.func f F C)).run P w = .ok false w := by
  simp [Op.equalIn, run_underlying' hu]
theorem eq_func_nilf {P : Program} {w : World} {t : TypeId} {ps rs : Array TypeId} {va : Bool} (d : Nat) (f : Fn) (F C : Array Value) (hu : P.underlying t = some (.func ps rs va)) : (Op.equalIn (d + 1) t (.func f F C) .nilFunc).run P w = .ok false w := by
  simp [Op.equalIn, run_underlying' hu]

theorem eqlA_sound {P : Program} {μ : Mu} {t : TypeId} {x y : AV} {a b : Value} {r : Bool} (ha : VR1 μ x a) (hb : VR1 μ y b) (h : eqlA P t x y = some r) (ox oy : Operand) (op : BinOp) :
    (∀ w, (eqGuard op t ox oy a b).run P w = .ok () w) ∧ (∀ w, (Op.equal t a b).run P w = .ok r w) ∧ (∀ k n, a ≠ .int k n) ∧ (∀ s, a ≠ .string s) ∧ (∀ k n, a ≠ .float k n) ∧ (∀ k n m, a ≠ .complex k n m) := by
  have D1 : Op.maxDepth = 9999 + 1 := rfl
  unfold eqlA at h
  split at h
  · rename_i l m
    obtain ⟨ca, ha', hxs⟩ := ha
    obtain ⟨cb, hb', hys⟩ := hb
    have ea : a = .agg ca := by simpa using ha'
    have eb : b = .agg cb := by simpa using hb'
    cases hn : noGuard P t with
    | false => rw [hn] at h; cases h
    | true =>
      rw [hn] at h
      have hg : P.eqGuardType P.depth t = false := by unfold noGuard at hn; rw [bnot_eq] at hn; simpa using hn
      subst ea; subst eb
      refine ⟨fun w => run_eqGuard_agg w op t ox oy ca cb hg, fun w => ?_, by simp, by simp, by simp, by simp⟩
      exact eqV_sound 40 Op.maxDepth (by rw [D1]; omega) h ⟨ca, rfl, hxs⟩ ⟨cb, rfl, hys⟩ w
  · rename_i p q
    have ea : a = .bool p := by simpa [VR] using ha
    have eb : b = .bool q := by simpa [VR] using hb
    subst ea; subst eb
    split at h
    · rename_i hu
      cases h
      exact ⟨fun w => eqGuard_run _ _ _ _ _ _ (by simp) (by simp), fun w => by rw [beqBool]; exact run_equalIn_bool w 9999 t p q hu, by simp, by simp, by simp, by simp⟩
    · cases h
  · -- nilp nilp
    have ea : a = .pointer none := by simpa [VR] using ha
    have eb : b = .pointer none := by simpa [VR] using hb
    subst ea; subst eb
    split at h
    · rename_i e hu
      split at h
      · cases h
      · cases h
        exact ⟨fun w => eqGuard_run _ _ _ _ _ _ (by simp) (by simp), fun w => eq_nilp_nilp 9999 hu, by simp, by simp, by simp, by simp⟩
      · cases h
    · cases h
  · -- nilp ptr
    rename_i id0 off0
    have ea : a = .pointer none := by simpa [VR] using ha
    obtain ⟨B, hB, hb⟩ := hb
    have eb : b = .pointer (some ⟨B.b, B.base + off0, none⟩) := by simpa using hb
    subst ea; subst eb
    split at h
    · rename_i e hu
      split at h
      · cases h
      · cases h
        exact ⟨fun w => eqGuard_run _ _ _ _ _ _ (by simp) (by simp), fun w => eq_nilp_ptr 9999 _ hu, by simp, by simp, by simp, by simp⟩
      · cases h
    · cases h
  · -- ptr nilp
    rename_i id0 off0
    have eb : b = .pointer none := by simpa [VR] using hb
    obtain ⟨B, hB, ha⟩ := ha
    have ea : a = .pointer (some ⟨B.b, B.base + off0, none⟩) := by simpa using ha
    subst ea; subst eb
    split at h
    · rename_i e hu
      split at h
      · cases h
      · cases h
        exact ⟨fun w => eqGuard_run _ _ _ _ _ _ (by simp) (by simp), fun w => eq_ptr_nilp 9999 _ hu, by simp, by simp, by simp, by simp⟩
      · cases h
    · cases h
  · -- ptr ptr
    rename_i i oa j ob
    obtain ⟨B, hB, ha⟩ := ha
    have ea : a = .pointer (some ⟨B.b, B.base + oa, none⟩) := by simpa using ha
    obtain ⟨C, hC, hb⟩ := hb
    have eb : b = .pointer (some ⟨C.b, C.base + ob, none⟩) := by simpa using hb
    subst ea; subst eb
    split at h
    · rename_i e hu
      split at h
      · cases h
      · rename_i n hn0 hn
        change Bool.casesOn (motive := fun _ => Option Bool) (i.beq j) none (some (Nat.beq oa ob)) = some r at h
        cases hij : i.beq j with
        | false => rw [hij] at h; cases h
        | true =>
          rw [hij] at h
          cases h
          have := Pos.beq_eq i j hij
          subst this
          rw [hB] at hC
          cases hC
          exact ⟨fun w => eqGuard_run _ _ _ _ _ _ (by simp) (by simp), fun w => by
            have := eq_ptr_ptr (P := P) (w := w) 9999 B.b (B.base + oa) (B.base + ob) n hu hn (fun e => hn0 e)
            rw [natBeq_dec] at this ⊢
            rw [show decide (oa = ob) = decide (B.base + oa = B.base + ob) from decide_eq_decide.2 (by omega)]
            exact this, by simp, by simp, by simp, by simp⟩
      · cases h
    · cases h
  · -- nils nils
    have ea : a = .slice none 0 0 := by simpa [VR] using ha
    have eb : b = .slice none 0 0 := by simpa [VR] using hb
    subst ea; subst eb
    split at h
    · rename_i e hu
      cases h
      exact ⟨fun w => eqGuard_run _ _ _ _ _ _ (by simp) (by simp), fun w => eq_nils 9999 none 0 0 hu, by simp, by simp, by simp, by simp⟩
    · cases h
  · -- slice nils
    rename_i id0 off0 len0 cap0 sz0
    have eb : b = .slice none 0 0 := by simpa [VR] using hb
    obtain ⟨B, c, hB, ha, _⟩ := ha
    have ea : a = .slice (some ⟨B.b, B.base + off0, none⟩) len0 c := by simpa using ha
    subst ea; subst eb
    split at h
    · rename_i e hu
      cases h
      exact ⟨fun w => eqGuard_run _ _ _ _ _ _ (by simp) (by simp), fun w => eq_nils 9999 _ _ c hu, by simp, by simp, by simp, by simp⟩
    · cases h
  · -- sle nils
    have eb : b = .slice none 0 0 := by simpa [VR] using hb
    obtain ⟨B, o, c, hB, ha, _⟩ := ha
    have ea : a = .slice (some ⟨B.b, B.base + o, none⟩) 0 c := by simpa using ha
    subst ea; subst eb
    split at h
    · rename_i e hu
      cases h
      exact ⟨fun w => eqGuard_run _ _ _ _ _ _ (by simp) (by simp), fun w => eq_nils 9999 _ _ c hu, by simp, by simp, by simp, by simp⟩
    · cases h
  · -- nilf nilf
    have ea : a = .nilFunc := by simpa [VR] using ha
    have eb : b = .nilFunc := by simpa [VR] using hb
    subst ea; subst eb
    split at h
    · rename_i hu
      cases h
      exact ⟨fun w => eqGuard_run _ _ _ _ _ _ (by simp) (by simp), fun w => eq_nilf_nilf 9999 hu, by simp, by simp, by simp, by simp⟩
    · cases h
  · -- nilf func
    rename_i fn0 f0 c0
    have ea : a = .nilFunc := by simpa [VR] using ha
    obtain ⟨F, C, hb, _⟩ := hb
    have eb : b = .func fn0 F C := by simpa using hb
    subst ea; subst eb
    split at h
    · rename_i hu
      cases h
      exact ⟨fun w => eqGuard_run _ _ _ _ _ _ (by simp) (by simp), fun w => eq_nilf_func 9999 _ _ _ hu, by simp, by simp, by simp, by simp⟩
    · cases h
  · -- func nilf
    rename_i fn0 f0 c0
    have eb : b = .nilFunc := by simpa [VR] using hb
    obtain ⟨F, C, ha, _⟩ := ha
    have ea : a = .func fn0 F C := by simpa using ha
    subst ea; subst eb
    split at h
    · rename_i hu
      cases h
      exact ⟨fun w => eqGuard_run _ _ _ _ _ _ (by simp) (by simp), fun w => eq_func_nilf 9999 _ _ _ hu, by simp, by simp, by simp, by simp⟩
    · cases h
  · -- yield nilf
    have eb : b = .nilFunc := by simpa [VR] using hb
    obtain ⟨B, hB, ha⟩ := ha
    have ea : a = .func (.yield B.b) #[] #[] := by simpa using ha
    subst ea; subst eb
    split at h
    · rename_i hu
      cases h
      exact ⟨fun w => eqGuard_run _ _ _ _ _ _ (by simp) (by simp), fun w => eq_func_nilf 9999 _ _ _ hu, by simp, by simp, by simp, by simp⟩
    · cases h
  · cases h

theorem binOp_eql {P : Program} {w : World} {t : TypeId} {a b : Value} {r : Bool} (h : (Op.equal t a b).run P w = .ok r w) (h1 : ∀ k n, a ≠ .int k n) (h2 : ∀ s, a ≠ .string s) (h3 : ∀ k n, a ≠ .float k n) (h4 : ∀ k n m, a ≠ .complex k n m) :
    (binOp .eql t a b).run P w = .ok (.bool r) w ∧ (binOp .neq t a b).run P w = .ok (.bool (!r)) w := by
  cases a <;> first
    | (exact absurd rfl (h1 _ _)) | (exact absurd rfl (h2 _)) | (exact absurd rfl (h3 _ _)) | (exact absurd rfl (h4 _ _ _))
    | (cases b <;> simp [binOp, h])

theorem pure_bin {o : Oper} {op : BinOp} {t u : TypeId} {x y : Operand} (ho : o.op = .binOp op t x y u) : PureOK (xBin op t x y u) o := by
  intro P r μ a v hg hr hv
  have hx := ev_sound hg hr x
  have hy := ev_sound hg hr y
  have fin : ∀ {cv : Value}, (∀ w, (eqGuard op t x y (a.eval x) (a.eval y)).run P w = .ok () w) → (∀ w, (binOp op t (a.eval x) (a.eval y)).run P w = .ok cv w) → ∀ w, (execOp a.eval o).run P w = .ok (.value cv) w := by
    intro cv h1 h2 w
    simp [execOp, ho, h1, h2]
  unfold xBin binA at hv
  split at hv
  · rename_i k p l q ex ey
    rw [ex] at hx; rw [ey] at hy
    have hx : a.eval x = .int k p := by simpa [VR] using hx
    have hy : a.eval y = .int l q := by simpa [VR] using hy
    cases hs : isShift op with
    | true =>
      rw [hs] at hv
      obtain ⟨cv, h1, h2⟩ := shiftA_sound hs t (k := k) (l := l) hv
      exact ⟨cv, fin (fun w => by rw [hx, hy]; exact eqGuard_int op t x y k l p q) (fun w => by rw [hx, hy]; exact h1 P w), h2 μ⟩
    | false =>
      rw [hs] at hv
      cases hk : keq k l with
      | false => simp only [hk] at hv; cases hv
      | true =>
        simp only [hk] at hv
        have := keq_iff.1 hk
        subst this
        obtain ⟨cv, h1, h2⟩ := binII_sound hs hv
        exact ⟨cv, fin (fun w => by rw [hx, hy]; exact eqGuard_int op t x y k k p q) (fun w => by rw [hx, hy, binOp_int hs]; exact h1 P w), h2 μ⟩
  · rename_i k p p' l q ex ey
    rw [ex] at hx; rw [ey] at hy
    obtain ⟨n, hx, hn⟩ := hx
    have hx : a.eval x = .int k n := by simpa using hx
    have hy : a.eval y = .int l q := by simpa [VR] using hy
    cases hk : band (ile p p') (keq k l) with
    | false =>
      simp only [hk] at hv
      obtain ⟨hkl, hrem, hbin⟩ := remCls_sound hn hv
      subst hkl
      subst hrem
      obtain ⟨cv, h1, h2⟩ := binII_sound rfl hbin
      exact ⟨cv, fin (fun w => by rw [hx, hy]; exact eqGuard_int .rem t x y k k n q) (fun w => by rw [hx, hy, binOp_int rfl]; exact h1 P w), h2 μ⟩
    | true =>
      simp only [hk] at hv
      obtain ⟨hle, hk⟩ := band_iff.1 hk
      rw [ile_dec] at hle
      have hn := hn.1 (of_decide_eq_true hle)
      have := keq_iff.1 hk
      subst this
      obtain ⟨cv, h1, h2⟩ := binRR_sound (b := q) hn ⟨Int.le_refl _, Int.le_refl _⟩ hv t
      exact ⟨cv, fin (fun w => by rw [hx, hy]; exact eqGuard_int op t x y k k n q) (fun w => by rw [hx, hy]; exact h1 P w), h2 μ⟩
  · rename_i k p l q q' ex ey
    rw [ex] at hx; rw [ey] at hy
    obtain ⟨n, hy, hn⟩ := hy
    have hy : a.eval y = .int l n := by simpa using hy
    have hx : a.eval x = .int k p := by simpa [VR] using hx
    cases hk : band (ile q q') (keq k l) with
    | false => simp only [hk] at hv; cases hv
    | true =>
      simp only [hk] at hv
      obtain ⟨hle, hk⟩ := band_iff.1 hk
      rw [ile_dec] at hle
      have hn := hn.1 (of_decide_eq_true hle)
      have := keq_iff.1 hk
      subst this
      obtain ⟨cv, h1, h2⟩ := binRR_sound (a := p) ⟨Int.le_refl _, Int.le_refl _⟩ hn hv t
      exact ⟨cv, fin (fun w => by rw [hx, hy]; exact eqGuard_int op t x y k k p n) (fun w => by rw [hx, hy]; exact h1 P w), h2 μ⟩
  · rename_i k p p' l q q' ex ey
    rw [ex] at hx; rw [ey] at hy
    obtain ⟨m, hx, hm⟩ := hx
    obtain ⟨n, hy, hn⟩ := hy
    have hx : a.eval x = .int k m := by simpa using hx
    have hy : a.eval y = .int l n := by simpa using hy
    cases hk : band (ile p p') (band (ile q q') (keq k l)) with
    | false => simp only [hk] at hv; cases hv
    | true =>
      simp only [hk] at hv
      obtain ⟨hle, hk⟩ := band_iff.1 hk
      obtain ⟨hle2, hk⟩ := band_iff.1 hk
      rw [ile_dec] at hle hle2
      have hm := hm.1 (of_decide_eq_true hle)
      have hn := hn.1 (of_decide_eq_true hle2)
      have := keq_iff.1 hk
      subst this
      obtain ⟨cv, h1, h2⟩ := binRR_sound hm hn hv t
      exact ⟨cv, fin (fun w => by rw [hx, hy]; exact eqGuard_int op t x y k k m n) (fun w => by rw [hx, hy]; exact h1 P w), h2 μ⟩
  · rename_i p q ex ey
    rw [ex] at hx; rw [ey] at hy
    obtain ⟨sa, hx, hsa⟩ := hx
    obtain ⟨sb, hy, hsb⟩ := hy
    have hx : a.eval x = .string sa := by simpa using hx
    have hy : a.eval y = .string sb := by simpa using hy
    rw [← hsa, ← hsb] at hv
    obtain ⟨cv, h1, h2⟩ := strOp_sound hv
    refine ⟨cv, fin (fun w => by rw [hx, hy]; exact eqGuard_run _ _ _ _ _ _ (by simp) (by simp)) (fun w => ?_), h2 μ⟩
    rw [hx, hy, ← h1 P w]
    cases op <;> rfl
  · unfold binOther at hv
    split at hv
    · cases he : eqlA P t (ev x r) (ev y r) with
      | none => rw [he] at hv; cases hv
      | some b =>
        rw [he] at hv
        cases hv
        obtain ⟨h1, h2, h3, h4, h5, h6⟩ := eqlA_sound hx hy he x y .eql
        exact ⟨.bool b, fin h1 (fun w => (binOp_eql (h2 w) h3 h4 h5 h6).1), rfl⟩
    · cases he : eqlA P t (ev x r) (ev y r) with
      | none => rw [he] at hv; cases hv
      | some b =>
        rw [he] at hv
        cases hv
        obtain ⟨h1, h2, h3, h4, h5, h6⟩ := eqlA_sound hx hy he x y .neq
        exact ⟨.bool (!b), fin h1 (fun w => (binOp_eql (h2 w) h3 h4 h5 h6).2), by show VR1 μ (.bool (bnot b)) _; rw [bnot_eq]; rfl⟩
    · cases hv
end Go.Ev
