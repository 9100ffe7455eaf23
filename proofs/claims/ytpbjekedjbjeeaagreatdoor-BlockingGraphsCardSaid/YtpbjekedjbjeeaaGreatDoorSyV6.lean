/- Vectors of rationals: the scalar product. -/
import Derived.Test.YtpbjekedjbjeeaaGreatDoorSyV4
import Derived.Test.YtpbjekedjbjeeaaGreatDoorSyZ
import Derived.Test.YtpbjekedjbjeeaaGreatDoorSyC3
namespace Go.Sy
open Go.RowKit Go.Proofs
set_option linter.unusedVariables false
set_option linter.unusedSimpArgs false
set_option maxRecDepth 1000000
attribute [local irreducible] Cw SealV SealL PF Sub
attribute [local instance] tb0
noncomputable def tSum : List (Cn Tryz.prog) := [n_RAdd]
noncomputable def lQ3 (a : Q3) : AV := match eQ3.v a with | .agg l => l | _ => .nil
theorem lQ3_v (a : Q3) : eQ3.v a = .agg (lQ3 a) := rfl
theorem lQ3_pure (a : Q3) : PureL (lQ3 a) := eQ3.pureL [a]
def sumQ (a : Q3) : Q := Q.add (Q.add (Q.add (0, 0) a.1) a.2.1) a.2.2
def SumOK (a : Q3) : Prop := AddOK (0, 0) a.1 ∧ AddOK (Q.add (0, 0) a.1) a.2.1 ∧ AddOK (Q.add (Q.add (0, 0) a.1) a.2.1) a.2.2
set_option maxHeartbeats 0 in
theorem c_Sum3 (a : Q3) (h : SumOK a) : PFp 216 (.cons (.ro 3 (lQ3 a)) .nil) (eRat.v (sumQ a)) := by
  obtain ⟨⟨x0, y0⟩, ⟨x1, y1⟩, ⟨x2, y2⟩⟩ := a
  obtain ⟨h0, h1, h2⟩ := h
  refine PF.of_wp (c := _) p_mixed (by decide) (fn := Tryz.f216) rfl rfl rfl (.cons .ro .nil) (call := callT tSum) (fun B0 => callT_ok p_callable _ B0) ?_
  intro B0
  conv => whnf
  refine Cw.unroll p_mixed rfl rfl (callT_ok p_callable _ B0) 4 ?_
  conv => whnf
  refine IdxP.go 0 rfl (by decide) ?_
  conv => whnf
  refine ⟨_, rfl, ?_⟩
  conv => whnf
  refine callT_go (l := tSum) (by decide) 0 (c := n_RAdd) rfl ((0, 0), (x0, y0)) h0 ?_ ?_ ?_
  · exact ⟨⟨trivial, trivial, trivial, trivial, trivial⟩, ⟨trivial, trivial, trivial, trivial, trivial⟩, trivial⟩
  · rfl
  conv => whnf
  repeat first | refine ⟨⟨_, rfl, rfl⟩, ?_⟩ | refine ⟨trivial, ?_⟩
  conv => whnf
  refine IdxP.go 1 rfl (by decide) ?_
  conv => whnf
  refine ⟨_, rfl, ?_⟩
  conv => whnf
  refine callT_go (l := tSum) (by decide) 0 (c := n_RAdd) rfl (Q.add (0, 0) (x0, y0), (x1, y1)) h1 ?_ ?_ ?_
  · exact ⟨⟨trivial, trivial, trivial, trivial, trivial⟩, ⟨trivial, trivial, trivial, trivial, trivial⟩, trivial⟩
  · rfl
  conv => whnf
  repeat first | refine ⟨⟨_, rfl, rfl⟩, ?_⟩ | refine ⟨trivial, ?_⟩
  conv => whnf
  refine IdxP.go 2 rfl (by decide) ?_
  conv => whnf
  refine ⟨_, rfl, ?_⟩
  conv => whnf
  refine callT_go (l := tSum) (by decide) 0 (c := n_RAdd) rfl (Q.add (Q.add (0, 0) (x0, y0)) (x1, y1), (x2, y2)) h2 ?_ ?_ ?_
  · exact ⟨⟨trivial, trivial, trivial, trivial, trivial⟩, ⟨trivial, trivial, trivial, trivial, trivial⟩, trivial⟩
  · rfl
  conv => whnf
  repeat first | refine ⟨⟨_, rfl, rfl⟩, ?_⟩ | refine ⟨trivial, ?_⟩
  conv => whnf
  exact SealV.same rfl (eRat.pureV (sumQ ((x0, y0), (x1, y1), (x2, y2))))
noncomputable def n_Sum3 : Cn Tryz.prog :=
  Cn.mk 216 false Q3 (fun a => .cons (.ro 3 (lQ3 a)) .nil) (fun a => eRat.v (sumQ a)) SumOK
    (fun a b _ _ h => by
      injection h with h1 _
      injection h1 with _ h2
      have : eQ3.v a = eQ3.v b := by rw [lQ3_v, lQ3_v, h2]
      rw [eQ3.v_inj this])
    (fun a => ⟨lQ3_pure a, trivial⟩) (fun a => eRat.pureV _) (fun h => by cases h) (fun a h => c_Sum3 a h) (hasbody rfl rfl)
noncomputable def tDot : List (Cn Tryz.prog) := [n_eachMul, n_Sum3]
def dotQ (a b : Q3) : Q := sumQ (op3 Q.mul a b)
def DotOK (a b : Q3) : Prop := ok3 MulOK a b ∧ SumOK (op3 Q.mul a b)
theorem c_VDot (a b : Q3) (h : DotOK a b) : PFp 162 (.cons (eQ3.v a) (.cons (eQ3.v b) .nil)) (eRat.v (dotQ a b)) := by
  obtain ⟨⟨x0, y0⟩, ⟨x1, y1⟩, ⟨x2, y2⟩⟩ := a
  obtain ⟨⟨u0, v0⟩, ⟨u1, v1⟩, ⟨u2, v2⟩⟩ := b
  obtain ⟨h1, h2⟩ := h
  refine PF.of_wp (c := _) p_mixed (by decide) (fn := Tryz.f162) rfl rfl rfl (.cons (eQ3.pureV _) (.cons (eQ3.pureV _) .nil)) (call := callZ (callT tDot)) (fun B0 => callZ_ok (callT_ok p_callable _ B0)) ?_
  intro B0
  conv => whnf
  refine callZ_go (l := tDot) (by decide) 0 (c := n_eachMul) rfl (((x0, y0), (x1, y1), (x2, y2)), ((u0, v0), (u1, v1), (u2, v2))) h1 borQ3 rfl ?_
  conv => whnf
  refine callZ_go (l := tDot) (by decide) 1 (c := n_Sum3) rfl (op3 Q.mul ((x0, y0), (x1, y1), (x2, y2)) ((u0, v0), (u1, v1), (u2, v2))) h2 ?_ ?_ ?_
  · exact ⟨trivial, trivial⟩
  · rfl
  conv => whnf
  exact SealV.same rfl (eRat.pureV (dotQ ((x0, y0), (x1, y1), (x2, y2)) ((u0, v0), (u1, v1), (u2, v2))))
noncomputable def n_VDot : Cn Tryz.prog := .of2 eQ3 eQ3 eRat 162 false DotOK dotQ (fun e => by cases e) c_VDot (hasbody rfl rfl)
end Go.Sy
/- The contracts of vectors, as a table for the evaluator. -/
namespace Go.Sy
open Go.RowKit Go.Proofs
set_option linter.unusedVariables false
set_option linter.unusedSimpArgs false
set_option maxRecDepth 1000000
attribute [local instance] tb0
noncomputable section
def rQ3 : eQ3.Rd := rRat.pair (rRat.pair rRat)
def b3 (f : Q → Q → Bool) (a b : Q3) : Bool := band (f a.1 b.1) (band (f a.2.1 b.2.1) (f a.2.2 b.2.2))
theorem b3_ok {f : Q → Q → Bool} {R : Q → Q → Prop} (hf : ∀ {p q}, f p q = true → R p q) {a b : Q3} (h : b3 f a b = true) : ok3 R a b := by
  obtain ⟨h1, h2⟩ := band_iff.1 h
  obtain ⟨h2, h3⟩ := band_iff.1 h2
  exact ⟨hf h1, hf h2, hf h3⟩
def subB (p q : Q) : Bool := addB p (Q.neg q)
theorem subB_ok {p q : Q} (h : subB p q = true) : SubOK p q := addB_ok h
def crB (p q r s : Q) : Bool := band (mulB p q) (band (mulB r s) (subB (Q.mul p q) (Q.mul r s)))
theorem crB_ok {p q r s : Q} (h : crB p q r s = true) : crOK p q r s := by
  obtain ⟨h1, h2⟩ := band_iff.1 h
  obtain ⟨h2, h3⟩ := band_iff.1 h2
  exact ⟨mulB_ok h1, mulB_ok h2, subB_ok h3⟩
def crossB (a b : Q3) : Bool := band (crB a.2.1 b.2.2 a.2.2 b.2.1) (band (crB a.2.2 b.1 a.1 b.2.2) (crB a.1 b.2.1 a.2.1 b.1))
theorem crossB_ok {a b : Q3} (h : crossB a b = true) : CrossOK a b := by
  obtain ⟨h1, h2⟩ := band_iff.1 h
  obtain ⟨h2, h3⟩ := band_iff.1 h2
  exact ⟨crB_ok h1, crB_ok h2, crB_ok h3⟩
def sumB (a : Q3) : Bool := band (addB (0, 0) a.1) (band (addB (Q.add (0, 0) a.1) a.2.1) (addB (Q.add (Q.add (0, 0) a.1) a.2.1) a.2.2))
theorem sumB_ok {a : Q3} (h : sumB a = true) : SumOK a := by
  obtain ⟨h1, h2⟩ := band_iff.1 h
  obtain ⟨h2, h3⟩ := band_iff.1 h2
  exact ⟨addB_ok h1, addB_ok h2, addB_ok h3⟩
def dotB (a b : Q3) : Bool := band (b3 mulB a b) (sumB (op3 Q.mul a b))
theorem dotB_ok {a b : Q3} (h : dotB a b = true) : DotOK a b := by
  obtain ⟨h1, h2⟩ := band_iff.1 h
  exact ⟨b3_ok mulB_ok h1, sumB_ok h2⟩
def cmpB (p q : Q) : Bool := sh4 p q
def d_RSub : Dc Tryz.prog := ⟨n_RSub, dec2 rRat rRat, fun a => subB a.1 a.2, fun _ _ h => dec2_ok h, fun _ h => subB_ok h⟩
def d_VCompare : Dc Tryz.prog := ⟨n_VCompare, dec2 rQ3 rQ3, fun a => b3 cmpB a.1 a.2, fun _ _ h => dec2_ok h, fun _ h => b3_ok cmp_ok h⟩
def d_VAdd : Dc Tryz.prog := ⟨n_VAdd, dec2 rQ3 rQ3, fun a => b3 addB a.1 a.2, fun _ _ h => dec2_ok h, fun _ h => b3_ok addB_ok h⟩
def d_VSub : Dc Tryz.prog := ⟨n_VSub, dec2 rQ3 rQ3, fun a => b3 subB a.1 a.2, fun _ _ h => dec2_ok h, fun _ h => b3_ok subB_ok h⟩
def d_VNeg : Dc Tryz.prog := ⟨n_VNeg, dec1 rQ3, fun a => b3 subB z3 a, fun _ _ h => dec1_ok h, fun _ h => b3_ok subB_ok h⟩
def d_VCross : Dc Tryz.prog := ⟨n_VCross, dec2 rQ3 rQ3, fun a => crossB a.1 a.2, fun _ _ h => dec2_ok h, fun _ h => crossB_ok h⟩
def d_VDot : Dc Tryz.prog := ⟨n_VDot, dec2 rQ3 rQ3, fun a => dotB a.1 a.2, fun _ _ h => dec2_ok h, fun _ h => dotB_ok h⟩
/-- Vectors. -/
def dcVec : List (Dc Tryz.prog) := [d_RSub, d_VCompare, d_VAdd, d_VSub, d_VNeg, d_VCross, d_VDot]
end
end Go.Sy
