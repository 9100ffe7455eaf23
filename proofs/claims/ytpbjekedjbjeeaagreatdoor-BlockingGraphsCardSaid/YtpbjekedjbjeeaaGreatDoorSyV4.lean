/- Vectors of rationals: each. -/
import Derived.Test.YtpbjekedjbjeeaaGreatDoorSyR3
import Derived.Test.YtpbjekedjbjeeaaGreatDoorSyUn
namespace Go.Sy
open Go.RowKit Go.Proofs
set_option linter.unusedVariables false
set_option linter.unusedSimpArgs false
set_option maxRecDepth 1000000
attribute [local irreducible] Cw SealV SealL PF Sub
attribute [local instance] tb0
/-- A vector of rationals. -/
abbrev Q3 := Q × Q × Q
noncomputable def eQ3 : Enc Q3 := eRat.pair (eRat.pair eRat)
theorem c_each (g : FuncId) (op : Q → Q → Q) (ok : Q → Q → Prop) (pf : ∀ p q, ok p q → PFp g (.cons (eRat.v p) (.cons (eRat.v q) .nil)) (eRat.v (op p q))) (bd : ∃ fn, Tryz.prog.funcs[g]? = some fn ∧ fn.body.isSome = true)
    (a b : Q3) (h0 : ok a.1 b.1) (h1 : ok a.2.1 b.2.1) (h2 : ok a.2.2 b.2.2) :
    PFp 167 (.cons (eQ3.v a) (.cons (eQ3.v b) (.cons (.func (.func g) .nil .nil) .nil))) (eQ3.v (op a.1 b.1, op a.2.1 b.2.1, op a.2.2 b.2.2)) := by
  obtain ⟨⟨x0, y0⟩, ⟨x1, y1⟩, ⟨x2, y2⟩⟩ := a
  obtain ⟨⟨u0, v0⟩, ⟨u1, v1⟩, ⟨u2, v2⟩⟩ := b
  refine PF.of_wp (c := _) p_mixed (by decide) (fn := Tryz.f167) rfl rfl rfl (.cons (eQ3.pureV _) (.cons (eQ3.pureV _) (.cons .fn .nil))) (call := callT [Cn.of2 eRat eRat eRat g false ok op (fun e => by cases e) pf bd]) (fun B0 => callT_ok p_callable _ B0) ?_
  intro B0
  conv => whnf
  refine Cw.unroll p_mixed rfl rfl (callT_ok p_callable _ B0) 4 ?_
  conv => whnf
  refine callT_go (l := [Cn.of2 eRat eRat eRat g false ok op (fun e => by cases e) pf bd]) (List.nodup_cons.2 ⟨List.not_mem_nil, List.nodup_nil⟩) 0 (c := Cn.of2 eRat eRat eRat g false ok op (fun e => by cases e) pf bd) rfl ((x0, y0), (u0, v0)) h0 ?_ ?_ ?_
  · exact ⟨⟨trivial, trivial, trivial, trivial, trivial⟩, ⟨trivial, trivial, trivial, trivial, trivial⟩, trivial⟩
  · rfl
  conv => whnf
  repeat first | refine ⟨⟨_, rfl, rfl⟩, ?_⟩ | refine ⟨trivial, ?_⟩
  conv => whnf
  refine callT_go (l := [Cn.of2 eRat eRat eRat g false ok op (fun e => by cases e) pf bd]) (List.nodup_cons.2 ⟨List.not_mem_nil, List.nodup_nil⟩) 0 (c := Cn.of2 eRat eRat eRat g false ok op (fun e => by cases e) pf bd) rfl ((x1, y1), (u1, v1)) h1 ?_ ?_ ?_
  · exact ⟨⟨trivial, trivial, trivial, trivial, trivial⟩, ⟨trivial, trivial, trivial, trivial, trivial⟩, trivial⟩
  · rfl
  conv => whnf
  repeat first | refine ⟨⟨_, rfl, rfl⟩, ?_⟩ | refine ⟨trivial, ?_⟩
  conv => whnf
  refine callT_go (l := [Cn.of2 eRat eRat eRat g false ok op (fun e => by cases e) pf bd]) (List.nodup_cons.2 ⟨List.not_mem_nil, List.nodup_nil⟩) 0 (c := Cn.of2 eRat eRat eRat g false ok op (fun e => by cases e) pf bd) rfl ((x2, y2), (u2, v2)) h2 ?_ ?_ ?_
  · exact ⟨⟨trivial, trivial, trivial, trivial, trivial⟩, ⟨trivial, trivial, trivial, trivial, trivial⟩, trivial⟩
  · rfl
  conv => whnf
  repeat first | refine ⟨⟨_, rfl, rfl⟩, ?_⟩ | refine ⟨trivial, ?_⟩
  conv => whnf
  exact SealV.same rfl (eQ3.pureV (op (x0, y0) (u0, v0), op (x1, y1) (u1, v1), op (x2, y2) (u2, v2)))
/-- each, with one of the package's functions. -/
noncomputable def n_each (g : FuncId) (op : Q → Q → Q) (ok : Q → Q → Prop) (pf : ∀ p q, ok p q → PFp g (.cons (eRat.v p) (.cons (eRat.v q) .nil)) (eRat.v (op p q))) (bd : ∃ fn, Tryz.prog.funcs[g]? = some fn ∧ fn.body.isSome = true) : Cn Tryz.prog :=
  Cn.mk 167 false (Q3 × Q3) (fun p => .cons (eQ3.v p.1) (.cons (eQ3.v p.2) (.cons (.func (.func g) .nil .nil) .nil))) (fun p => eQ3.v (op p.1.1 p.2.1, op p.1.2.1 p.2.2.1, op p.1.2.2 p.2.2.2))
    (fun p => ok p.1.1 p.2.1 ∧ ok p.1.2.1 p.2.2.1 ∧ ok p.1.2.2 p.2.2.2)
    (fun a b _ _ h => by
      injection h with h1 h2
      injection h2 with h2 _
      rw [eQ3.v_inj h1, eQ3.v_inj h2])
    (fun a => ⟨eQ3.dpV _, eQ3.dpV _, ⟨trivial, trivial⟩, trivial⟩) (fun a => eQ3.pureV _) (fun h => by cases h) (fun p h => c_each g op ok pf bd p.1 p.2 h.1 h.2.1 h.2.2) (hasbody rfl rfl)
def op3 (op : Q → Q → Q) (a b : Q3) : Q3 := (op a.1 b.1, op a.2.1 b.2.1, op a.2.2 b.2.2)
def ok3 (ok : Q → Q → Prop) (a b : Q3) : Prop := ok a.1 b.1 ∧ ok a.2.1 b.2.1 ∧ ok a.2.2 b.2.2
end Go.Sy
/- Vectors of rationals: the comparison. -/
namespace Go.Sy
open Go.RowKit Go.Proofs
set_option linter.unusedVariables false
set_option linter.unusedSimpArgs false
set_option maxRecDepth 1000000
attribute [local irreducible] Cw SealV SealL PF Sub
attribute [local instance] tb0
noncomputable def tVC : List (Cn Tryz.prog) := [n_RCompare]
def cmpQ3 (a b : Q3) : Int := match ieq (Q.cmp a.1 b.1) 0 with | false => Q.cmp a.1 b.1 | true => (match ieq (Q.cmp a.2.1 b.2.1) 0 with | false => Q.cmp a.2.1 b.2.1 | true => Q.cmp a.2.2 b.2.2)
theorem bnot_t {b : Bool} (h : bnot b = true) : b = false := by cases b <;> first | rfl | cases h
theorem bnot_f {b : Bool} (h : bnot b = false) : b = true := by cases b <;> first | rfl | cases h
theorem c_VCompare (a b : Q3) (h : ok3 CmpOK a b) : PFp 123 (.cons (eQ3.v a) (.cons (eQ3.v b) .nil)) ((eInt .i64).v (cmpQ3 a b)) := by
  obtain ⟨⟨x0, y0⟩, ⟨x1, y1⟩, ⟨x2, y2⟩⟩ := a
  obtain ⟨⟨u0, v0⟩, ⟨u1, v1⟩, ⟨u2, v2⟩⟩ := b
  obtain ⟨h0, h1, h2⟩ := h
  refine PF.of_wp (c := _) p_mixed (by decide) (fn := Tryz.f123) rfl rfl rfl (.cons (eQ3.pureV _) (.cons (eQ3.pureV _) .nil)) (call := callT tVC) (fun B0 => callT_ok p_callable _ B0) ?_
  intro B0
  conv => whnf
  refine Cw.unroll p_mixed rfl rfl (callT_ok p_callable _ B0) 4 ?_
  conv => whnf
  refine callT_go (l := tVC) (by decide) 0 (c := n_RCompare) rfl ((x0, y0), (u0, v0)) h0 ?_ ?_ ?_
  · exact ⟨⟨trivial, trivial, trivial, trivial, trivial⟩, ⟨trivial, trivial, trivial, trivial, trivial⟩, trivial⟩
  · rfl
  conv => whnf
  repeat first | refine ⟨⟨_, rfl, rfl⟩, ?_⟩ | refine ⟨trivial, ?_⟩
  conv => whnf
  refine bSplit (fun hq => ?_) (fun hq => ?_)
  · have e0 : ieq (Q.cmp (x0, y0) (u0, v0)) 0 = false := bnot_t hq
    have ev : cmpQ3 ((x0, y0), (x1, y1), (x2, y2)) ((u0, v0), (u1, v1), (u2, v2)) = Q.cmp (x0, y0) (u0, v0) := by simp only [cmpQ3, e0]
    rw [ev]
    conv => whnf
    exact SealV.same rfl PureV.int
  have e0 : ieq (Q.cmp (x0, y0) (u0, v0)) 0 = true := bnot_f hq
  conv => whnf
  refine callT_go (l := tVC) (by decide) 0 (c := n_RCompare) rfl ((x1, y1), (u1, v1)) h1 ?_ ?_ ?_
  · exact ⟨⟨trivial, trivial, trivial, trivial, trivial⟩, ⟨trivial, trivial, trivial, trivial, trivial⟩, trivial⟩
  · rfl
  conv => whnf
  repeat first | refine ⟨⟨_, rfl, rfl⟩, ?_⟩ | refine ⟨trivial, ?_⟩
  conv => whnf
  refine bSplit (fun hq => ?_) (fun hq => ?_)
  · have e1 : ieq (Q.cmp (x1, y1) (u1, v1)) 0 = false := bnot_t hq
    have ev : cmpQ3 ((x0, y0), (x1, y1), (x2, y2)) ((u0, v0), (u1, v1), (u2, v2)) = Q.cmp (x1, y1) (u1, v1) := by simp only [cmpQ3, e0, e1]
    rw [ev]
    conv => whnf
    exact SealV.same rfl PureV.int
  have e1 : ieq (Q.cmp (x1, y1) (u1, v1)) 0 = true := bnot_f hq
  conv => whnf
  refine callT_go (l := tVC) (by decide) 0 (c := n_RCompare) rfl ((x2, y2), (u2, v2)) h2 ?_ ?_ ?_
  · exact ⟨⟨trivial, trivial, trivial, trivial, trivial⟩, ⟨trivial, trivial, trivial, trivial, trivial⟩, trivial⟩
  · rfl
  conv => whnf
  repeat first | refine ⟨⟨_, rfl, rfl⟩, ?_⟩ | refine ⟨trivial, ?_⟩
  conv => whnf
  refine bSplit (fun hq => ?_) (fun hq => ?_)
  · have e2 : ieq (Q.cmp (x2, y2) (u2, v2)) 0 = false := bnot_t hq
    have ev : cmpQ3 ((x0, y0), (x1, y1), (x2, y2)) ((u0, v0), (u1, v1), (u2, v2)) = Q.cmp (x2, y2) (u2, v2) := by simp only [cmpQ3, e0, e1]
    rw [ev]
    conv => whnf
    exact SealV.same rfl PureV.int
  have e2 : ieq (Q.cmp (x2, y2) (u2, v2)) 0 = true := bnot_f hq
  conv => whnf
  have ev : cmpQ3 ((x0, y0), (x1, y1), (x2, y2)) ((u0, v0), (u1, v1), (u2, v2)) = 0 := by simp only [cmpQ3, e0, e1]; exact ieq_iff.1 e2
  rw [ev]
  exact SealV.same rfl PureV.int
end Go.Sy
/- Vectors of rationals: sums, differences, the cross product. -/
namespace Go.Sy
open Go.RowKit Go.Proofs
set_option linter.unusedVariables false
set_option linter.unusedSimpArgs false
set_option maxRecDepth 1000000
attribute [local irreducible] Cw SealV SealL PF Sub
attribute [local instance] tb0
noncomputable def tRSub : List (Cn Tryz.prog) := [n_RNeg, n_RAdd]
def Q.sub (p q : Q) : Q := Q.add p (Q.neg q)
def SubOK (p q : Q) : Prop := AddOK p (Q.neg q)
theorem c_RSub (p q : Q) (h : SubOK p q) : PFp 228 (.cons (eRat.v p) (.cons (eRat.v q) .nil)) (eRat.v (Q.sub p q)) := by
  obtain ⟨n, d⟩ := p
  obtain ⟨m, e⟩ := q
  refine PF.of_wp (c := _) p_mixed (by decide) (fn := Tryz.f228) rfl rfl rfl (.cons (eRat.pureV _) (.cons (eRat.pureV _) .nil)) (call := callT tRSub) (fun B0 => callT_ok p_callable _ B0) ?_
  intro B0
  conv => whnf
  refine callT_go (l := tRSub) (by decide) 0 (c := n_RNeg) rfl (m, e) trivial ?_ ?_ ?_
  · exact ⟨⟨trivial, trivial, trivial, trivial, trivial⟩, trivial⟩
  · rfl
  conv => whnf
  repeat first | refine ⟨⟨_, rfl, rfl⟩, ?_⟩ | refine ⟨trivial, ?_⟩
  conv => whnf
  refine callT_go (l := tRSub) (by decide) 1 (c := n_RAdd) rfl ((n, d), Q.neg (m, e)) h ?_ ?_ ?_
  · exact ⟨⟨trivial, trivial, trivial, trivial, trivial⟩, ⟨trivial, trivial, trivial, trivial, trivial⟩, trivial⟩
  · rfl
  conv => whnf
  exact SealV.same rfl (eRat.pureV (Q.add (n, d) (Q.neg (m, e))))
noncomputable def n_RSub : Cn Tryz.prog := .of2 eRat eRat eRat 228 false SubOK Q.sub (fun e => by cases e) c_RSub (hasbody rfl rfl)
noncomputable def n_eachAdd : Cn Tryz.prog := n_each 80 Q.add AddOK c_RAdd (hasbody rfl rfl)
noncomputable def n_eachSub : Cn Tryz.prog := n_each 228 Q.sub SubOK c_RSub (hasbody rfl rfl)
noncomputable def n_eachMul : Cn Tryz.prog := n_each 169 Q.mul MulOK c_RMul (hasbody rfl rfl)
theorem borQ3 {h : Heap} {a b : Q3} {g : FuncId} : BorOK h (.cons (eQ3.v a) (.cons (eQ3.v b) (.cons (.func (.func g) .nil .nil) .nil))) := by
  obtain ⟨⟨x0, y0⟩, ⟨x1, y1⟩, ⟨x2, y2⟩⟩ := a
  obtain ⟨⟨u0, v0⟩, ⟨u1, v1⟩, ⟨u2, v2⟩⟩ := b
  exact ⟨⟨trivial, trivial, trivial, trivial, trivial, trivial, trivial, trivial, trivial, trivial, trivial, trivial, trivial⟩, ⟨trivial, trivial, trivial, trivial, trivial, trivial, trivial, trivial, trivial, trivial, trivial, trivial, trivial⟩, trivial, trivial⟩
theorem c_VAdd (a b : Q3) (h : ok3 AddOK a b) : PFp 138 (.cons (eQ3.v a) (.cons (eQ3.v b) .nil)) (eQ3.v (op3 Q.add a b)) := by
  obtain ⟨⟨x0, y0⟩, ⟨x1, y1⟩, ⟨x2, y2⟩⟩ := a
  obtain ⟨⟨u0, v0⟩, ⟨u1, v1⟩, ⟨u2, v2⟩⟩ := b
  refine PF.of_wp (c := _) p_mixed (by decide) (fn := Tryz.f138) rfl rfl rfl (.cons (eQ3.pureV _) (.cons (eQ3.pureV _) .nil)) (call := callT [n_eachAdd]) (fun B0 => callT_ok p_callable _ B0) ?_
  intro B0
  conv => whnf
  refine callT_go (l := [n_eachAdd]) (List.nodup_cons.2 ⟨List.not_mem_nil, List.nodup_nil⟩) 0 (c := n_eachAdd) rfl (((x0, y0), (x1, y1), (x2, y2)), ((u0, v0), (u1, v1), (u2, v2))) h borQ3 rfl ?_
  conv => whnf
  exact SealV.same rfl (eQ3.pureV (op3 Q.add ((x0, y0), (x1, y1), (x2, y2)) ((u0, v0), (u1, v1), (u2, v2))))
theorem c_VSub (a b : Q3) (h : ok3 SubOK a b) : PFp 274 (.cons (eQ3.v a) (.cons (eQ3.v b) .nil)) (eQ3.v (op3 Q.sub a b)) := by
  obtain ⟨⟨x0, y0⟩, ⟨x1, y1⟩, ⟨x2, y2⟩⟩ := a
  obtain ⟨⟨u0, v0⟩, ⟨u1, v1⟩, ⟨u2, v2⟩⟩ := b
  refine PF.of_wp (c := _) p_mixed (by decide) (fn := Tryz.f274) rfl rfl rfl (.cons (eQ3.pureV _) (.cons (eQ3.pureV _) .nil)) (call := callT [n_eachSub]) (fun B0 => callT_ok p_callable _ B0) ?_
  intro B0
  conv => whnf
  refine callT_go (l := [n_eachSub]) (List.nodup_cons.2 ⟨List.not_mem_nil, List.nodup_nil⟩) 0 (c := n_eachSub) rfl (((x0, y0), (x1, y1), (x2, y2)), ((u0, v0), (u1, v1), (u2, v2))) h borQ3 rfl ?_
  conv => whnf
  exact SealV.same rfl (eQ3.pureV (op3 Q.sub ((x0, y0), (x1, y1), (x2, y2)) ((u0, v0), (u1, v1), (u2, v2))))
def z3 : Q3 := ((0, 0), (0, 0), (0, 0))
theorem c_VNeg (a : Q3) (h : ok3 SubOK z3 a) : PFp 224 (.cons (eQ3.v a) .nil) (eQ3.v (op3 Q.sub z3 a)) := by
  obtain ⟨⟨x0, y0⟩, ⟨x1, y1⟩, ⟨x2, y2⟩⟩ := a
  refine PF.of_wp (c := _) p_mixed (by decide) (fn := Tryz.f224) rfl rfl rfl (.cons (eQ3.pureV _) .nil) (call := callT [n_eachSub]) (fun B0 => callT_ok p_callable _ B0) ?_
  intro B0
  conv => whnf
  refine callT_go (l := [n_eachSub]) (List.nodup_cons.2 ⟨List.not_mem_nil, List.nodup_nil⟩) 0 (c := n_eachSub) rfl (z3, ((x0, y0), (x1, y1), (x2, y2))) h ?_ ?_ ?_
  · exact ⟨⟨trivial, trivial, trivial, trivial, trivial, trivial, trivial, trivial, trivial, trivial, trivial, trivial, trivial⟩, ⟨trivial, trivial, trivial, trivial, trivial, trivial, trivial, trivial, trivial, trivial, trivial, trivial, trivial⟩, trivial, trivial⟩
  · rfl
  conv => whnf
  exact SealV.same rfl (eQ3.pureV (op3 Q.sub z3 ((x0, y0), (x1, y1), (x2, y2))))
noncomputable def n_VAdd : Cn Tryz.prog := .of2 eQ3 eQ3 eQ3 138 false (ok3 AddOK) (op3 Q.add) (fun e => by cases e) c_VAdd (hasbody rfl rfl)
noncomputable def n_VSub : Cn Tryz.prog := .of2 eQ3 eQ3 eQ3 274 false (ok3 SubOK) (op3 Q.sub) (fun e => by cases e) c_VSub (hasbody rfl rfl)
noncomputable def n_VNeg : Cn Tryz.prog := .of1 eQ3 eQ3 224 false (fun a => ok3 SubOK z3 a) (fun a => op3 Q.sub z3 a) (fun e => by cases e) c_VNeg (hasbody rfl rfl)
noncomputable def n_VCompare : Cn Tryz.prog := .of2 eQ3 eQ3 (eInt .i64) 123 true (ok3 CmpOK) cmpQ3 (flat_int _) c_VCompare (hasbody rfl rfl)
end Go.Sy
/- Vectors of rationals: the cross product. -/
namespace Go.Sy
open Go.RowKit Go.Proofs
set_option linter.unusedVariables false
set_option linter.unusedSimpArgs false
set_option maxRecDepth 1000000
attribute [local irreducible] Cw SealV SealL PF Sub
attribute [local instance] tb0
noncomputable def tCross : List (Cn Tryz.prog) := [n_RMul, n_RSub]
/-- A coordinate of the cross product. -/
def crQ (p q r s : Q) : Q := Q.sub (Q.mul p q) (Q.mul r s)
def crOK (p q r s : Q) : Prop := MulOK p q ∧ MulOK r s ∧ SubOK (Q.mul p q) (Q.mul r s)
def crossQ (a b : Q3) : Q3 := (crQ a.2.1 b.2.2 a.2.2 b.2.1, crQ a.2.2 b.1 a.1 b.2.2, crQ a.1 b.2.1 a.2.1 b.1)
def CrossOK (a b : Q3) : Prop := crOK a.2.1 b.2.2 a.2.2 b.2.1 ∧ crOK a.2.2 b.1 a.1 b.2.2 ∧ crOK a.1 b.2.1 a.2.1 b.1
set_option maxHeartbeats 0 in
theorem c_VCross (a b : Q3) (h : CrossOK a b) : PFp 222 (.cons (eQ3.v a) (.cons (eQ3.v b) .nil)) (eQ3.v (crossQ a b)) := by
  obtain ⟨⟨x0, y0⟩, ⟨x1, y1⟩, ⟨x2, y2⟩⟩ := a
  obtain ⟨⟨u0, v0⟩, ⟨u1, v1⟩, ⟨u2, v2⟩⟩ := b
  obtain ⟨h0, h1, h2⟩ := h
  refine PF.of_wp (c := _) p_mixed (by decide) (fn := Tryz.f222) rfl rfl rfl (.cons (eQ3.pureV _) (.cons (eQ3.pureV _) .nil)) (call := callT tCross) (fun B0 => callT_ok p_callable _ B0) ?_
  intro B0
  conv => whnf
  refine Cw.unroll p_mixed rfl rfl (callT_ok p_callable _ B0) 4 ?_
  conv => whnf
  refine ⟨by decide, ?_⟩
  conv => whnf
  refine ⟨by decide, ?_⟩
  conv => whnf
  refine callT_go (l := tCross) (by decide) 0 (c := n_RMul) rfl ((x1, y1), (u2, v2)) h0.1 ?_ ?_ ?_
  · exact ⟨⟨trivial, trivial, trivial, trivial, trivial⟩, ⟨trivial, trivial, trivial, trivial, trivial⟩, trivial⟩
  · rfl
  conv => whnf
  repeat first | refine ⟨⟨_, rfl, rfl⟩, ?_⟩ | refine ⟨trivial, ?_⟩
  conv => whnf
  refine callT_go (l := tCross) (by decide) 0 (c := n_RMul) rfl ((x2, y2), (u1, v1)) h0.2.1 ?_ ?_ ?_
  · exact ⟨⟨trivial, trivial, trivial, trivial, trivial⟩, ⟨trivial, trivial, trivial, trivial, trivial⟩, trivial⟩
  · rfl
  conv => whnf
  repeat first | refine ⟨⟨_, rfl, rfl⟩, ?_⟩ | refine ⟨trivial, ?_⟩
  conv => whnf
  refine callT_go (l := tCross) (by decide) 1 (c := n_RSub) rfl (Q.mul (x1, y1) (u2, v2), Q.mul (x2, y2) (u1, v1)) h0.2.2 ?_ ?_ ?_
  · exact ⟨⟨trivial, trivial, trivial, trivial, trivial⟩, ⟨trivial, trivial, trivial, trivial, trivial⟩, trivial⟩
  · rfl
  conv => whnf
  repeat first | refine ⟨⟨_, rfl, rfl⟩, ?_⟩ | refine ⟨trivial, ?_⟩
  conv => whnf
  refine ⟨by decide, ?_⟩
  conv => whnf
  refine ⟨by decide, ?_⟩
  conv => whnf
  refine callT_go (l := tCross) (by decide) 0 (c := n_RMul) rfl ((x2, y2), (u0, v0)) h1.1 ?_ ?_ ?_
  · exact ⟨⟨trivial, trivial, trivial, trivial, trivial⟩, ⟨trivial, trivial, trivial, trivial, trivial⟩, trivial⟩
  · rfl
  conv => whnf
  repeat first | refine ⟨⟨_, rfl, rfl⟩, ?_⟩ | refine ⟨trivial, ?_⟩
  conv => whnf
  refine callT_go (l := tCross) (by decide) 0 (c := n_RMul) rfl ((x0, y0), (u2, v2)) h1.2.1 ?_ ?_ ?_
  · exact ⟨⟨trivial, trivial, trivial, trivial, trivial⟩, ⟨trivial, trivial, trivial, trivial, trivial⟩, trivial⟩
  · rfl
  conv => whnf
  repeat first | refine ⟨⟨_, rfl, rfl⟩, ?_⟩ | refine ⟨trivial, ?_⟩
  conv => whnf
  refine callT_go (l := tCross) (by decide) 1 (c := n_RSub) rfl (Q.mul (x2, y2) (u0, v0), Q.mul (x0, y0) (u2, v2)) h1.2.2 ?_ ?_ ?_
  · exact ⟨⟨trivial, trivial, trivial, trivial, trivial⟩, ⟨trivial, trivial, trivial, trivial, trivial⟩, trivial⟩
  · rfl
  conv => whnf
  repeat first | refine ⟨⟨_, rfl, rfl⟩, ?_⟩ | refine ⟨trivial, ?_⟩
  conv => whnf
  refine ⟨by decide, ?_⟩
  conv => whnf
  refine ⟨by decide, ?_⟩
  conv => whnf
  refine callT_go (l := tCross) (by decide) 0 (c := n_RMul) rfl ((x0, y0), (u1, v1)) h2.1 ?_ ?_ ?_
  · exact ⟨⟨trivial, trivial, trivial, trivial, trivial⟩, ⟨trivial, trivial, trivial, trivial, trivial⟩, trivial⟩
  · rfl
  conv => whnf
  repeat first | refine ⟨⟨_, rfl, rfl⟩, ?_⟩ | refine ⟨trivial, ?_⟩
  conv => whnf
  refine callT_go (l := tCross) (by decide) 0 (c := n_RMul) rfl ((x1, y1), (u0, v0)) h2.2.1 ?_ ?_ ?_
  · exact ⟨⟨trivial, trivial, trivial, trivial, trivial⟩, ⟨trivial, trivial, trivial, trivial, trivial⟩, trivial⟩
  · rfl
  conv => whnf
  repeat first | refine ⟨⟨_, rfl, rfl⟩, ?_⟩ | refine ⟨trivial, ?_⟩
  conv => whnf
  refine callT_go (l := tCross) (by decide) 1 (c := n_RSub) rfl (Q.mul (x0, y0) (u1, v1), Q.mul (x1, y1) (u0, v0)) h2.2.2 ?_ ?_ ?_
  · exact ⟨⟨trivial, trivial, trivial, trivial, trivial⟩, ⟨trivial, trivial, trivial, trivial, trivial⟩, trivial⟩
  · rfl
  conv => whnf
  repeat first | refine ⟨⟨_, rfl, rfl⟩, ?_⟩ | refine ⟨trivial, ?_⟩
  conv => whnf
  exact SealV.same rfl (eQ3.pureV (crossQ ((x0, y0), (x1, y1), (x2, y2)) ((u0, v0), (u1, v1), (u2, v2))))
noncomputable def n_VCross : Cn Tryz.prog := .of2 eQ3 eQ3 eQ3 222 false CrossOK crossQ (fun e => by cases e) c_VCross (hasbody rfl rfl)
end Go.Sy
