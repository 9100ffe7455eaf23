/- Vectors of rationals: each. -/
import Derived.Test.YtemoafmennfhhaaGreatDoorSyR3
import Derived.Test.YtemoafmennfhhaaGreatDoorSyAlt4
import Derived.Test.YtemoafmennfhhaaGreatDoorSyC3
namespace Go.Sy
open Go.RowKit Go.Proofs
set_option linter.unusedVariables false
set_option linter.unusedSimpArgs false
set_option maxRecDepth 1000000
attribute [local irreducible] Cw SealV SealL PF Sub
attribute [local instance] tb0
abbrev Q3:=Q × Q × Q
noncomputable def eQ3 : Enc Q3:=eRat.pair (eRat.pair eRat)
theorem c_each (g : FuncId) (op : Q → Q → Q) (ok : Q → Q → Prop) (pf : ∀ p q,ok p q → PFp g (.cons (eRat.v p) (.cons (eRat.v q) .nil)) (eRat.v (op p q))) (bd : ∃ fn,Tryz.prog.funcs[g]? = some fn∧fn.body.isSome = true)
    (a b : Q3) (h0 : ok a.1 b.1) (h1 : ok a.2.1 b.2.1) (h2 : ok a.2.2 b.2.2) :
    PFp 292 (.cons (eQ3.v a) (.cons (eQ3.v b) (.cons (.func (.func g) .nil .nil) .nil))) (eQ3.v (op a.1 b.1,op a.2.1 b.2.1,op a.2.2 b.2.2)):=by
  obtain ⟨⟨x0,y0⟩,⟨x1,y1⟩,⟨x2,y2⟩⟩:=a
  obtain ⟨⟨u0,v0⟩,⟨u1,v1⟩,⟨u2,v2⟩⟩:=b
  refine PF.of_wp (c:=_) p_mixed (by decide) (fn:=Tryz.f292) rfl rfl rfl (.cons (eQ3.pureV _) (.cons (eQ3.pureV _) (.cons .fn .nil))) (call:=callT [Cn.of2 eRat eRat eRat g false ok op (fun e=>by cases e) pf bd]) (fun B0=>callT_ok p_callable _ B0) ?_
  intro B0
  conv=>whnf
  refine Cw.unroll p_mixed rfl rfl (callT_ok p_callable _ B0) 4 ?_
  conv=>whnf
  refine callT_go (l:=[Cn.of2 eRat eRat eRat g false ok op (fun e=>by cases e) pf bd]) (List.nodup_cons.2 ⟨List.not_mem_nil,List.nodup_nil⟩) 0 (c:=Cn.of2 eRat eRat eRat g false ok op (fun e=>by cases e) pf bd) rfl ((x0,y0),(u0,v0)) h0 ?_ ?_ ?_
  · exact ⟨⟨trivial,trivial,trivial,trivial,trivial⟩,⟨trivial,trivial,trivial,trivial,trivial⟩,trivial⟩
  · rfl
  conv=>whnf
  repeat first | refine ⟨⟨_,rfl,rfl⟩,?_⟩ | refine ⟨trivial,?_⟩
  conv=>whnf
  refine callT_go (l:=[Cn.of2 eRat eRat eRat g false ok op (fun e=>by cases e) pf bd]) (List.nodup_cons.2 ⟨List.not_mem_nil,List.nodup_nil⟩) 0 (c:=Cn.of2 eRat eRat eRat g false ok op (fun e=>by cases e) pf bd) rfl ((x1,y1),(u1,v1)) h1 ?_ ?_ ?_
  · exact ⟨⟨trivial,trivial,trivial,trivial,trivial⟩,⟨trivial,trivial,trivial,trivial,trivial⟩,trivial⟩
  · rfl
  conv=>whnf
  repeat first | refine ⟨⟨_,rfl,rfl⟩,?_⟩ | refine ⟨trivial,?_⟩
  conv=>whnf
  refine callT_go (l:=[Cn.of2 eRat eRat eRat g false ok op (fun e=>by cases e) pf bd]) (List.nodup_cons.2 ⟨List.not_mem_nil,List.nodup_nil⟩) 0 (c:=Cn.of2 eRat eRat eRat g false ok op (fun e=>by cases e) pf bd) rfl ((x2,y2),(u2,v2)) h2 ?_ ?_ ?_
  · exact ⟨⟨trivial,trivial,trivial,trivial,trivial⟩,⟨trivial,trivial,trivial,trivial,trivial⟩,trivial⟩
  · rfl
  conv=>whnf
  repeat first | refine ⟨⟨_,rfl,rfl⟩,?_⟩ | refine ⟨trivial,?_⟩
  conv=>whnf
  exact SealV.same rfl (eQ3.pureV (op (x0,y0) (u0,v0),op (x1,y1) (u1,v1),op (x2,y2) (u2,v2)))
noncomputable def n_each (g : FuncId) (op : Q → Q → Q) (ok : Q → Q → Prop) (pf : ∀ p q,ok p q → PFp g (.cons (eRat.v p) (.cons (eRat.v q) .nil)) (eRat.v (op p q))) (bd : ∃ fn,Tryz.prog.funcs[g]? = some fn∧fn.body.isSome = true) : Cn Tryz.prog :=
  Cn.mk 292 false (Q3 × Q3) (fun p=>.cons (eQ3.v p.1) (.cons (eQ3.v p.2) (.cons (.func (.func g) .nil .nil) .nil))) (fun p=>eQ3.v (op p.1.1 p.2.1,op p.1.2.1 p.2.2.1,op p.1.2.2 p.2.2.2))
    (fun p=>ok p.1.1 p.2.1∧ok p.1.2.1 p.2.2.1∧ok p.1.2.2 p.2.2.2)
    (fun a b _ _ h=>by
      injection h with h1 h2
      injection h2 with h2 _
      rw [eQ3.v_inj h1,eQ3.v_inj h2])
    (fun a=>⟨eQ3.dpV _,eQ3.dpV _,⟨trivial,trivial⟩,trivial⟩) (fun a=>eQ3.pureV _) (fun h=>by cases h) (fun p h=>c_each g op ok pf bd p.1 p.2 h.1 h.2.1 h.2.2) (hasbody rfl rfl)
def op3 (op : Q → Q → Q) (a b : Q3) : Q3:=(op a.1 b.1,op a.2.1 b.2.1,op a.2.2 b.2.2)
def ok3 (ok : Q → Q → Prop) (a b : Q3) : Prop:=ok a.1 b.1∧ok a.2.1 b.2.1∧ok a.2.2 b.2.2
end Go.Sy
namespace Go.Sy
open Go.RowKit Go.Proofs
set_option linter.unusedVariables false
set_option linter.unusedSimpArgs false
set_option maxRecDepth 1000000
attribute [local irreducible] Cw SealV SealL PF Sub
attribute [local instance] tb0
noncomputable def tVC : List (Cn Tryz.prog):=[n_RCompare]
def cmpQ3 (a b : Q3) : Int:=match ieq (Q.cmp a.1 b.1) 0 with | false=>Q.cmp a.1 b.1 | true=>(match ieq (Q.cmp a.2.1 b.2.1) 0 with | false=>Q.cmp a.2.1 b.2.1 | true=>Q.cmp a.2.2 b.2.2)
theorem bnot_t {b : Bool} (h : bnot b = true) : b = false:=by cases b <;> first | rfl | cases h
theorem bnot_f {b : Bool} (h : bnot b = false) : b = true:=by cases b <;> first | rfl | cases h
theorem c_VCompare (a b : Q3) (h : ok3 CmpOK a b) : PFp 211 (.cons (eQ3.v a) (.cons (eQ3.v b) .nil)) ((eInt .i64).v (cmpQ3 a b)):=by
  obtain ⟨⟨x0,y0⟩,⟨x1,y1⟩,⟨x2,y2⟩⟩:=a
  obtain ⟨⟨u0,v0⟩,⟨u1,v1⟩,⟨u2,v2⟩⟩:=b
  obtain ⟨h0,h1,h2⟩:=h
  refine PF.of_wp (c:=_) p_mixed (by decide) (fn:=Tryz.f211) rfl rfl rfl (.cons (eQ3.pureV _) (.cons (eQ3.pureV _) .nil)) (call:=callT tVC) (fun B0=>callT_ok p_callable _ B0) ?_
  intro B0
  conv=>whnf
  refine Cw.unroll p_mixed rfl rfl (callT_ok p_callable _ B0) 4 ?_
  conv=>whnf
  refine callT_go (l:=tVC) (by decide) 0 (c:=n_RCompare) rfl ((x0,y0),(u0,v0)) h0 ?_ ?_ ?_
  · exact ⟨⟨trivial,trivial,trivial,trivial,trivial⟩,⟨trivial,trivial,trivial,trivial,trivial⟩,trivial⟩
  · rfl
  conv=>whnf
  repeat first | refine ⟨⟨_,rfl,rfl⟩,?_⟩ | refine ⟨trivial,?_⟩
  conv=>whnf
  refine bSplit (fun hq=>?_) (fun hq=>?_)
  · have e0 : ieq (Q.cmp (x0,y0) (u0,v0)) 0 = false:=bnot_t hq
    have ev : cmpQ3 ((x0,y0),(x1,y1),(x2,y2)) ((u0,v0),(u1,v1),(u2,v2)) = Q.cmp (x0,y0) (u0,v0):=by simp only [cmpQ3,e0]
    rw [ev]
    conv=>whnf
    exact SealV.same rfl PureV.int
  have e0 : ieq (Q.cmp (x0,y0) (u0,v0)) 0 = true:=bnot_f hq
  conv=>whnf
  refine callT_go (l:=tVC) (by decide) 0 (c:=n_RCompare) rfl ((x1,y1),(u1,v1)) h1 ?_ ?_ ?_
  · exact ⟨⟨trivial,trivial,trivial,trivial,trivial⟩,⟨trivial,trivial,trivial,trivial,trivial⟩,trivial⟩
  · rfl
  conv=>whnf
  repeat first | refine ⟨⟨_,rfl,rfl⟩,?_⟩ | refine ⟨trivial,?_⟩
  conv=>whnf
  refine bSplit (fun hq=>?_) (fun hq=>?_)
  · have e1 : ieq (Q.cmp (x1,y1) (u1,v1)) 0 = false:=bnot_t hq
    have ev : cmpQ3 ((x0,y0),(x1,y1),(x2,y2)) ((u0,v0),(u1,v1),(u2,v2)) = Q.cmp (x1,y1) (u1,v1):=by simp only [cmpQ3,e0,e1]
    rw [ev]
    conv=>whnf
    exact SealV.same rfl PureV.int
  have e1 : ieq (Q.cmp (x1,y1) (u1,v1)) 0 = true:=bnot_f hq
  conv=>whnf
  refine callT_go (l:=tVC) (by decide) 0 (c:=n_RCompare) rfl ((x2,y2),(u2,v2)) h2 ?_ ?_ ?_
  · exact ⟨⟨trivial,trivial,trivial,trivial,trivial⟩,⟨trivial,trivial,trivial,trivial,trivial⟩,trivial⟩
  · rfl
  conv=>whnf
  repeat first | refine ⟨⟨_,rfl,rfl⟩,?_⟩ | refine ⟨trivial,?_⟩
  conv=>whnf
  refine bSplit (fun hq=>?_) (fun hq=>?_)
  · have e2 : ieq (Q.cmp (x2,y2) (u2,v2)) 0 = false:=bnot_t hq
    have ev : cmpQ3 ((x0,y0),(x1,y1),(x2,y2)) ((u0,v0),(u1,v1),(u2,v2)) = Q.cmp (x2,y2) (u2,v2):=by simp only [cmpQ3,e0,e1]
    rw [ev]
    conv=>whnf
    exact SealV.same rfl PureV.int
  have e2 : ieq (Q.cmp (x2,y2) (u2,v2)) 0 = true:=bnot_f hq
  conv=>whnf
  have ev : cmpQ3 ((x0,y0),(x1,y1),(x2,y2)) ((u0,v0),(u1,v1),(u2,v2)) = 0:=by simp only [cmpQ3,e0,e1]; exact ieq_iff.1 e2
  rw [ev]
  exact SealV.same rfl PureV.int
end Go.Sy
namespace Go.Sy
open Go.RowKit Go.Proofs
set_option linter.unusedVariables false
set_option linter.unusedSimpArgs false
set_option maxRecDepth 1000000
attribute [local irreducible] Cw SealV SealL PF Sub
attribute [local instance] tb0
noncomputable def tRSub : List (Cn Tryz.prog):=[n_RNeg,n_RAdd]
def Q.sub (p q : Q) : Q:=Q.add p (Q.neg q)
def SubOK (p q : Q) : Prop:=AddOK p (Q.neg q)
theorem c_RSub (p q : Q) (h : SubOK p q) : PFp 293 (.cons (eRat.v p) (.cons (eRat.v q) .nil)) (eRat.v (Q.sub p q)):=by
  obtain ⟨n,d⟩:=p
  obtain ⟨m,e⟩:=q
  refine PF.of_wp (c:=_) p_mixed (by decide) (fn:=Tryz.f293) rfl rfl rfl (.cons (eRat.pureV _) (.cons (eRat.pureV _) .nil)) (call:=callT tRSub) (fun B0=>callT_ok p_callable _ B0) ?_
  intro B0
  conv=>whnf
  refine callT_go (l:=tRSub) (by decide) 0 (c:=n_RNeg) rfl (m,e) trivial ?_ ?_ ?_
  · exact ⟨⟨trivial,trivial,trivial,trivial,trivial⟩,trivial⟩
  · rfl
  conv=>whnf
  repeat first | refine ⟨⟨_,rfl,rfl⟩,?_⟩ | refine ⟨trivial,?_⟩
  conv=>whnf
  refine callT_go (l:=tRSub) (by decide) 1 (c:=n_RAdd) rfl ((n,d),Q.neg (m,e)) h ?_ ?_ ?_
  · exact ⟨⟨trivial,trivial,trivial,trivial,trivial⟩,⟨trivial,trivial,trivial,trivial,trivial⟩,trivial⟩
  · rfl
  conv=>whnf
  exact SealV.same rfl (eRat.pureV (Q.add (n,d) (Q.neg (m,e))))
noncomputable def n_RSub : Cn Tryz.prog:=.of2 eRat eRat eRat 293 false SubOK Q.sub (fun e=>by cases e) c_RSub (hasbody rfl rfl)
noncomputable def n_eachAdd : Cn Tryz.prog:=n_each 174 Q.add AddOK c_RAdd (hasbody rfl rfl)
noncomputable def n_eachSub : Cn Tryz.prog:=n_each 293 Q.sub SubOK c_RSub (hasbody rfl rfl)
noncomputable def n_eachMul : Cn Tryz.prog:=n_each 324 Q.mul MulOK c_RMul (hasbody rfl rfl)
theorem borQ3 {h : Heap} {a b : Q3} {g : FuncId} : BorOK h (.cons (eQ3.v a) (.cons (eQ3.v b) (.cons (.func (.func g) .nil .nil) .nil))):=by
  obtain ⟨⟨x0,y0⟩,⟨x1,y1⟩,⟨x2,y2⟩⟩:=a
  obtain ⟨⟨u0,v0⟩,⟨u1,v1⟩,⟨u2,v2⟩⟩:=b
  exact ⟨⟨trivial,trivial,trivial,trivial,trivial,trivial,trivial,trivial,trivial,trivial,trivial,trivial,trivial⟩,⟨trivial,trivial,trivial,trivial,trivial,trivial,trivial,trivial,trivial,trivial,trivial,trivial,trivial⟩,trivial,trivial⟩
theorem c_VAdd (a b : Q3) (h : ok3 AddOK a b) : PFp 386 (.cons (eQ3.v a) (.cons (eQ3.v b) .nil)) (eQ3.v (op3 Q.add a b)):=by
  obtain ⟨⟨x0,y0⟩,⟨x1,y1⟩,⟨x2,y2⟩⟩:=a
  obtain ⟨⟨u0,v0⟩,⟨u1,v1⟩,⟨u2,v2⟩⟩:=b
  refine PF.of_wp (c:=_) p_mixed (by decide) (fn:=Tryz.f386) rfl rfl rfl (.cons (eQ3.pureV _) (.cons (eQ3.pureV _) .nil)) (call:=callT [n_eachAdd]) (fun B0=>callT_ok p_callable _ B0) ?_
  intro B0
  conv=>whnf
  refine callT_go (l:=[n_eachAdd]) (List.nodup_cons.2 ⟨List.not_mem_nil,List.nodup_nil⟩) 0 (c:=n_eachAdd) rfl (((x0,y0),(x1,y1),(x2,y2)),((u0,v0),(u1,v1),(u2,v2))) h borQ3 rfl ?_
  conv=>whnf
  exact SealV.same rfl (eQ3.pureV (op3 Q.add ((x0,y0),(x1,y1),(x2,y2)) ((u0,v0),(u1,v1),(u2,v2))))
theorem c_VSub (a b : Q3) (h : ok3 SubOK a b) : PFp 339 (.cons (eQ3.v a) (.cons (eQ3.v b) .nil)) (eQ3.v (op3 Q.sub a b)):=by
  obtain ⟨⟨x0,y0⟩,⟨x1,y1⟩,⟨x2,y2⟩⟩:=a
  obtain ⟨⟨u0,v0⟩,⟨u1,v1⟩,⟨u2,v2⟩⟩:=b
  refine PF.of_wp (c:=_) p_mixed (by decide) (fn:=Tryz.f339) rfl rfl rfl (.cons (eQ3.pureV _) (.cons (eQ3.pureV _) .nil)) (call:=callT [n_eachSub]) (fun B0=>callT_ok p_callable _ B0) ?_
  intro B0
  conv=>whnf
  refine callT_go (l:=[n_eachSub]) (List.nodup_cons.2 ⟨List.not_mem_nil,List.nodup_nil⟩) 0 (c:=n_eachSub) rfl (((x0,y0),(x1,y1),(x2,y2)),((u0,v0),(u1,v1),(u2,v2))) h borQ3 rfl ?_
  conv=>whnf
  exact SealV.same rfl (eQ3.pureV (op3 Q.sub ((x0,y0),(x1,y1),(x2,y2)) ((u0,v0),(u1,v1),(u2,v2))))
def z3 : Q3:=((0,0),(0,0),(0,0))
theorem c_VNeg (a : Q3) (h : ok3 SubOK z3 a) : PFp 231 (.cons (eQ3.v a) .nil) (eQ3.v (op3 Q.sub z3 a)):=by
  obtain ⟨⟨x0,y0⟩,⟨x1,y1⟩,⟨x2,y2⟩⟩:=a
  refine PF.of_wp (c:=_) p_mixed (by decide) (fn:=Tryz.f231) rfl rfl rfl (.cons (eQ3.pureV _) .nil) (call:=callT [n_eachSub]) (fun B0=>callT_ok p_callable _ B0) ?_
  intro B0
  conv=>whnf
  refine callT_go (l:=[n_eachSub]) (List.nodup_cons.2 ⟨List.not_mem_nil,List.nodup_nil⟩) 0 (c:=n_eachSub) rfl (z3,((x0,y0),(x1,y1),(x2,y2))) h ?_ ?_ ?_
  · exact ⟨⟨trivial,trivial,trivial,trivial,trivial,trivial,trivial,trivial,trivial,trivial,trivial,trivial,trivial⟩,⟨trivial,trivial,trivial,trivial,trivial,trivial,trivial,trivial,trivial,trivial,trivial,trivial,trivial⟩,trivial,trivial⟩
  · rfl
  conv=>whnf
  exact SealV.same rfl (eQ3.pureV (op3 Q.sub z3 ((x0,y0),(x1,y1),(x2,y2))))
noncomputable def n_VAdd : Cn Tryz.prog:=.of2 eQ3 eQ3 eQ3 386 false (ok3 AddOK) (op3 Q.add) (fun e=>by cases e) c_VAdd (hasbody rfl rfl)
noncomputable def n_VSub : Cn Tryz.prog:=.of2 eQ3 eQ3 eQ3 339 false (ok3 SubOK) (op3 Q.sub) (fun e=>by cases e) c_VSub (hasbody rfl rfl)
noncomputable def n_VNeg : Cn Tryz.prog:=.of1 eQ3 eQ3 231 false (fun a=>ok3 SubOK z3 a) (fun a=>op3 Q.sub z3 a) (fun e=>by cases e) c_VNeg (hasbody rfl rfl)
noncomputable def n_VCompare : Cn Tryz.prog:=.of2 eQ3 eQ3 (eInt .i64) 211 true (ok3 CmpOK) cmpQ3 (flat_int _) c_VCompare (hasbody rfl rfl)
end Go.Sy
namespace Go.Sy
open Go.RowKit Go.Proofs
set_option linter.unusedVariables false
set_option linter.unusedSimpArgs false
set_option maxRecDepth 1000000
attribute [local irreducible] Cw SealV SealL PF Sub
attribute [local instance] tb0
noncomputable def tCross : List (Cn Tryz.prog):=[n_RMul,n_RSub]
def crQ (p q r s : Q) : Q:=Q.sub (Q.mul p q) (Q.mul r s)
def crOK (p q r s : Q) : Prop:=MulOK p q∧MulOK r s∧SubOK (Q.mul p q) (Q.mul r s)
def crossQ (a b : Q3) : Q3:=(crQ a.2.1 b.2.2 a.2.2 b.2.1,crQ a.2.2 b.1 a.1 b.2.2,crQ a.1 b.2.1 a.2.1 b.1)
def CrossOK (a b : Q3) : Prop:=crOK a.2.1 b.2.2 a.2.2 b.2.1∧crOK a.2.2 b.1 a.1 b.2.2∧crOK a.1 b.2.1 a.2.1 b.1
set_option maxHeartbeats 0 in
theorem c_VCross (a b : Q3) (h : CrossOK a b) : PFp 314 (.cons (eQ3.v a) (.cons (eQ3.v b) .nil)) (eQ3.v (crossQ a b)):=by
  obtain ⟨⟨x0,y0⟩,⟨x1,y1⟩,⟨x2,y2⟩⟩:=a
  obtain ⟨⟨u0,v0⟩,⟨u1,v1⟩,⟨u2,v2⟩⟩:=b
  obtain ⟨h0,h1,h2⟩:=h
  refine PF.of_wp (c:=_) p_mixed (by decide) (fn:=Tryz.f314) rfl rfl rfl (.cons (eQ3.pureV _) (.cons (eQ3.pureV _) .nil)) (call:=callT tCross) (fun B0=>callT_ok p_callable _ B0) ?_
  intro B0
  conv=>whnf
  refine Cw.unroll p_mixed rfl rfl (callT_ok p_callable _ B0) 4 ?_
  conv=>whnf
  refine ⟨by decide,?_⟩
  conv=>whnf
  refine ⟨by decide,?_⟩
  conv=>whnf
  refine callT_go (l:=tCross) (by decide) 0 (c:=n_RMul) rfl ((x1,y1),(u2,v2)) h0.1 ?_ ?_ ?_
  · exact ⟨⟨trivial,trivial,trivial,trivial,trivial⟩,⟨trivial,trivial,trivial,trivial,trivial⟩,trivial⟩
  · rfl
  conv=>whnf
  repeat first | refine ⟨⟨_,rfl,rfl⟩,?_⟩ | refine ⟨trivial,?_⟩
  conv=>whnf
  refine callT_go (l:=tCross) (by decide) 0 (c:=n_RMul) rfl ((x2,y2),(u1,v1)) h0.2.1 ?_ ?_ ?_
  · exact ⟨⟨trivial,trivial,trivial,trivial,trivial⟩,⟨trivial,trivial,trivial,trivial,trivial⟩,trivial⟩
  · rfl
  conv=>whnf
  repeat first | refine ⟨⟨_,rfl,rfl⟩,?_⟩ | refine ⟨trivial,?_⟩
  conv=>whnf
  refine callT_go (l:=tCross) (by decide) 1 (c:=n_RSub) rfl (Q.mul (x1,y1) (u2,v2),Q.mul (x2,y2) (u1,v1)) h0.2.2 ?_ ?_ ?_
  · exact ⟨⟨trivial,trivial,trivial,trivial,trivial⟩,⟨trivial,trivial,trivial,trivial,trivial⟩,trivial⟩
  · rfl
  conv=>whnf
  repeat first | refine ⟨⟨_,rfl,rfl⟩,?_⟩ | refine ⟨trivial,?_⟩
  conv=>whnf
  refine ⟨by decide,?_⟩
  conv=>whnf
  refine ⟨by decide,?_⟩
  conv=>whnf
  refine callT_go (l:=tCross) (by decide) 0 (c:=n_RMul) rfl ((x2,y2),(u0,v0)) h1.1 ?_ ?_ ?_
  · exact ⟨⟨trivial,trivial,trivial,trivial,trivial⟩,⟨trivial,trivial,trivial,trivial,trivial⟩,trivial⟩
  · rfl
  conv=>whnf
  repeat first | refine ⟨⟨_,rfl,rfl⟩,?_⟩ | refine ⟨trivial,?_⟩
  conv=>whnf
  refine callT_go (l:=tCross) (by decide) 0 (c:=n_RMul) rfl ((x0,y0),(u2,v2)) h1.2.1 ?_ ?_ ?_
  · exact ⟨⟨trivial,trivial,trivial,trivial,trivial⟩,⟨trivial,trivial,trivial,trivial,trivial⟩,trivial⟩
  · rfl
  conv=>whnf
  repeat first | refine ⟨⟨_,rfl,rfl⟩,?_⟩ | refine ⟨trivial,?_⟩
  conv=>whnf
  refine callT_go (l:=tCross) (by decide) 1 (c:=n_RSub) rfl (Q.mul (x2,y2) (u0,v0),Q.mul (x0,y0) (u2,v2)) h1.2.2 ?_ ?_ ?_
  · exact ⟨⟨trivial,trivial,trivial,trivial,trivial⟩,⟨trivial,trivial,trivial,trivial,trivial⟩,trivial⟩
  · rfl
  conv=>whnf
  repeat first | refine ⟨⟨_,rfl,rfl⟩,?_⟩ | refine ⟨trivial,?_⟩
  conv=>whnf
  refine ⟨by decide,?_⟩
  conv=>whnf
  refine ⟨by decide,?_⟩
  conv=>whnf
  refine callT_go (l:=tCross) (by decide) 0 (c:=n_RMul) rfl ((x0,y0),(u1,v1)) h2.1 ?_ ?_ ?_
  · exact ⟨⟨trivial,trivial,trivial,trivial,trivial⟩,⟨trivial,trivial,trivial,trivial,trivial⟩,trivial⟩
  · rfl
  conv=>whnf
  repeat first | refine ⟨⟨_,rfl,rfl⟩,?_⟩ | refine ⟨trivial,?_⟩
  conv=>whnf
  refine callT_go (l:=tCross) (by decide) 0 (c:=n_RMul) rfl ((x1,y1),(u0,v0)) h2.2.1 ?_ ?_ ?_
  · exact ⟨⟨trivial,trivial,trivial,trivial,trivial⟩,⟨trivial,trivial,trivial,trivial,trivial⟩,trivial⟩
  · rfl
  conv=>whnf
  repeat first | refine ⟨⟨_,rfl,rfl⟩,?_⟩ | refine ⟨trivial,?_⟩
  conv=>whnf
  refine callT_go (l:=tCross) (by decide) 1 (c:=n_RSub) rfl (Q.mul (x0,y0) (u1,v1),Q.mul (x1,y1) (u0,v0)) h2.2.2 ?_ ?_ ?_
  · exact ⟨⟨trivial,trivial,trivial,trivial,trivial⟩,⟨trivial,trivial,trivial,trivial,trivial⟩,trivial⟩
  · rfl
  conv=>whnf
  repeat first | refine ⟨⟨_,rfl,rfl⟩,?_⟩ | refine ⟨trivial,?_⟩
  conv=>whnf
  exact SealV.same rfl (eQ3.pureV (crossQ ((x0,y0),(x1,y1),(x2,y2)) ((u0,v0),(u1,v1),(u2,v2))))
noncomputable def n_VCross : Cn Tryz.prog:=.of2 eQ3 eQ3 eQ3 314 false CrossOK crossQ (fun e=>by cases e) c_VCross (hasbody rfl rfl)
end Go.Sy
namespace Go.Sy
open Go.RowKit Go.Proofs
set_option linter.unusedVariables false
set_option linter.unusedSimpArgs false
set_option maxRecDepth 1000000
attribute [local irreducible] Cw SealV SealL PF Sub
attribute [local instance] tb0
noncomputable def tSum : List (Cn Tryz.prog):=[n_RAdd]
noncomputable def lQ3 (a : Q3) : AV:=match eQ3.v a with | .agg l=>l | _=>.nil
theorem lQ3_v (a : Q3) : eQ3.v a = .agg (lQ3 a):=rfl
theorem lQ3_pure (a : Q3) : PureL (lQ3 a):=eQ3.pureL [a]
def sumQ (a : Q3) : Q:=Q.add (Q.add (Q.add (0,0) a.1) a.2.1) a.2.2
def SumOK (a : Q3) : Prop:=AddOK (0,0) a.1∧AddOK (Q.add (0,0) a.1) a.2.1∧AddOK (Q.add (Q.add (0,0) a.1) a.2.1) a.2.2
set_option maxHeartbeats 0 in
theorem c_Sum3 (a : Q3) (h : SumOK a) : PFp 381 (.cons (.ro 3 (lQ3 a)) .nil) (eRat.v (sumQ a)):=by
  obtain ⟨⟨x0,y0⟩,⟨x1,y1⟩,⟨x2,y2⟩⟩:=a
  obtain ⟨h0,h1,h2⟩:=h
  refine PF.of_wp (c:=_) p_mixed (by decide) (fn:=Tryz.f381) rfl rfl rfl (.cons .ro .nil) (call:=callT tSum) (fun B0=>callT_ok p_callable _ B0) ?_
  intro B0
  conv=>whnf
  refine Cw.unroll p_mixed rfl rfl (callT_ok p_callable _ B0) 4 ?_
  conv=>whnf
  refine IdxP.go 0 rfl (by decide) ?_
  conv=>whnf
  refine ⟨_,rfl,?_⟩
  conv=>whnf
  refine callT_go (l:=tSum) (by decide) 0 (c:=n_RAdd) rfl ((0,0),(x0,y0)) h0 ?_ ?_ ?_
  · exact ⟨⟨trivial,trivial,trivial,trivial,trivial⟩,⟨trivial,trivial,trivial,trivial,trivial⟩,trivial⟩
  · rfl
  conv=>whnf
  repeat first | refine ⟨⟨_,rfl,rfl⟩,?_⟩ | refine ⟨trivial,?_⟩
  conv=>whnf
  refine IdxP.go 1 rfl (by decide) ?_
  conv=>whnf
  refine ⟨_,rfl,?_⟩
  conv=>whnf
  refine callT_go (l:=tSum) (by decide) 0 (c:=n_RAdd) rfl (Q.add (0,0) (x0,y0),(x1,y1)) h1 ?_ ?_ ?_
  · exact ⟨⟨trivial,trivial,trivial,trivial,trivial⟩,⟨trivial,trivial,trivial,trivial,trivial⟩,trivial⟩
  · rfl
  conv=>whnf
  repeat first | refine ⟨⟨_,rfl,rfl⟩,?_⟩ | refine ⟨trivial,?_⟩
  conv=>whnf
  refine IdxP.go 2 rfl (by decide) ?_
  conv=>whnf
  refine ⟨_,rfl,?_⟩
  conv=>whnf
  refine callT_go (l:=tSum) (by decide) 0 (c:=n_RAdd) rfl (Q.add (Q.add (0,0) (x0,y0)) (x1,y1),(x2,y2)) h2 ?_ ?_ ?_
  · exact ⟨⟨trivial,trivial,trivial,trivial,trivial⟩,⟨trivial,trivial,trivial,trivial,trivial⟩,trivial⟩
  · rfl
  conv=>whnf
  repeat first | refine ⟨⟨_,rfl,rfl⟩,?_⟩ | refine ⟨trivial,?_⟩
  conv=>whnf
  exact SealV.same rfl (eRat.pureV (sumQ ((x0,y0),(x1,y1),(x2,y2))))
noncomputable def n_Sum3 : Cn Tryz.prog :=
  Cn.mk 381 false Q3 (fun a=>.cons (.ro 3 (lQ3 a)) .nil) (fun a=>eRat.v (sumQ a)) SumOK
    (fun a b _ _ h=>by
      injection h with h1 _
      injection h1 with _ h2
      have : eQ3.v a = eQ3.v b:=by rw [lQ3_v,lQ3_v,h2]
      rw [eQ3.v_inj this])
    (fun a=>⟨lQ3_pure a,trivial⟩) (fun a=>eRat.pureV _) (fun h=>by cases h) (fun a h=>c_Sum3 a h) (hasbody rfl rfl)
noncomputable def tDot : List (Cn Tryz.prog):=[n_eachMul,n_Sum3]
def dotQ (a b : Q3) : Q:=sumQ (op3 Q.mul a b)
def DotOK (a b : Q3) : Prop:=ok3 MulOK a b∧SumOK (op3 Q.mul a b)
theorem c_VDot (a b : Q3) (h : DotOK a b) : PFp 319 (.cons (eQ3.v a) (.cons (eQ3.v b) .nil)) (eRat.v (dotQ a b)):=by
  obtain ⟨⟨x0,y0⟩,⟨x1,y1⟩,⟨x2,y2⟩⟩:=a
  obtain ⟨⟨u0,v0⟩,⟨u1,v1⟩,⟨u2,v2⟩⟩:=b
  obtain ⟨h1,h2⟩:=h
  refine PF.of_wp (c:=_) p_mixed (by decide) (fn:=Tryz.f319) rfl rfl rfl (.cons (eQ3.pureV _) (.cons (eQ3.pureV _) .nil)) (call:=callZ (callT tDot)) (fun B0=>callZ_ok (callT_ok p_callable _ B0)) ?_
  intro B0
  conv=>whnf
  refine callZ_go (l:=tDot) (by decide) 0 (c:=n_eachMul) rfl (((x0,y0),(x1,y1),(x2,y2)),((u0,v0),(u1,v1),(u2,v2))) h1 borQ3 rfl ?_
  conv=>whnf
  refine callZ_go (l:=tDot) (by decide) 1 (c:=n_Sum3) rfl (op3 Q.mul ((x0,y0),(x1,y1),(x2,y2)) ((u0,v0),(u1,v1),(u2,v2))) h2 ?_ ?_ ?_
  · exact ⟨trivial,trivial⟩
  · rfl
  conv=>whnf
  exact SealV.same rfl (eRat.pureV (dotQ ((x0,y0),(x1,y1),(x2,y2)) ((u0,v0),(u1,v1),(u2,v2))))
noncomputable def n_VDot : Cn Tryz.prog:=.of2 eQ3 eQ3 eRat 319 false DotOK dotQ (fun e=>by cases e) c_VDot (hasbody rfl rfl)
end Go.Sy
namespace Go.Sy
open Go.RowKit Go.Proofs
set_option linter.unusedVariables false
set_option linter.unusedSimpArgs false
set_option maxRecDepth 1000000
attribute [local instance] tb0
noncomputable section
def rQ3 : eQ3.Rd:=rRat.pair (rRat.pair rRat)
def b3 (f : Q → Q → Bool) (a b : Q3) : Bool:=band (f a.1 b.1) (band (f a.2.1 b.2.1) (f a.2.2 b.2.2))
theorem b3_ok {f : Q → Q → Bool} {R : Q → Q → Prop} (hf : ∀ {p q},f p q = true → R p q) {a b : Q3} (h : b3 f a b = true) : ok3 R a b:=by
  obtain ⟨h1,h2⟩:=band_iff.1 h
  obtain ⟨h2,h3⟩:=band_iff.1 h2
  exact ⟨hf h1,hf h2,hf h3⟩
def subB (p q : Q) : Bool:=addB p (Q.neg q)
theorem subB_ok {p q : Q} (h : subB p q = true) : SubOK p q:=addB_ok h
def crB (p q r s : Q) : Bool:=band (mulB p q) (band (mulB r s) (subB (Q.mul p q) (Q.mul r s)))
theorem crB_ok {p q r s : Q} (h : crB p q r s = true) : crOK p q r s:=by
  obtain ⟨h1,h2⟩:=band_iff.1 h
  obtain ⟨h2,h3⟩:=band_iff.1 h2
  exact ⟨mulB_ok h1,mulB_ok h2,subB_ok h3⟩
def crossB (a b : Q3) : Bool:=band (crB a.2.1 b.2.2 a.2.2 b.2.1) (band (crB a.2.2 b.1 a.1 b.2.2) (crB a.1 b.2.1 a.2.1 b.1))
theorem crossB_ok {a b : Q3} (h : crossB a b = true) : CrossOK a b:=by
  obtain ⟨h1,h2⟩:=band_iff.1 h
  obtain ⟨h2,h3⟩:=band_iff.1 h2
  exact ⟨crB_ok h1,crB_ok h2,crB_ok h3⟩
def sumB (a : Q3) : Bool:=band (addB (0,0) a.1) (band (addB (Q.add (0,0) a.1) a.2.1) (addB (Q.add (Q.add (0,0) a.1) a.2.1) a.2.2))
theorem sumB_ok {a : Q3} (h : sumB a = true) : SumOK a:=by
  obtain ⟨h1,h2⟩:=band_iff.1 h
  obtain ⟨h2,h3⟩:=band_iff.1 h2
  exact ⟨addB_ok h1,addB_ok h2,addB_ok h3⟩
def dotB (a b : Q3) : Bool:=band (b3 mulB a b) (sumB (op3 Q.mul a b))
theorem dotB_ok {a b : Q3} (h : dotB a b = true) : DotOK a b:=by
  obtain ⟨h1,h2⟩:=band_iff.1 h
  exact ⟨b3_ok mulB_ok h1,sumB_ok h2⟩
def cmpB (p q : Q) : Bool:=sh4 p q
def d_RSub : Dc Tryz.prog:=⟨n_RSub,dec2 rRat rRat,fun a=>subB a.1 a.2,fun _ _ h=>dec2_ok h,fun _ h=>subB_ok h⟩
def d_VCompare : Dc Tryz.prog:=⟨n_VCompare,dec2 rQ3 rQ3,fun a=>b3 cmpB a.1 a.2,fun _ _ h=>dec2_ok h,fun _ h=>b3_ok cmp_ok h⟩
def d_VAdd : Dc Tryz.prog:=⟨n_VAdd,dec2 rQ3 rQ3,fun a=>b3 addB a.1 a.2,fun _ _ h=>dec2_ok h,fun _ h=>b3_ok addB_ok h⟩
def d_VSub : Dc Tryz.prog:=⟨n_VSub,dec2 rQ3 rQ3,fun a=>b3 subB a.1 a.2,fun _ _ h=>dec2_ok h,fun _ h=>b3_ok subB_ok h⟩
def d_VNeg : Dc Tryz.prog:=⟨n_VNeg,dec1 rQ3,fun a=>b3 subB z3 a,fun _ _ h=>dec1_ok h,fun _ h=>b3_ok subB_ok h⟩
def d_VCross : Dc Tryz.prog:=⟨n_VCross,dec2 rQ3 rQ3,fun a=>crossB a.1 a.2,fun _ _ h=>dec2_ok h,fun _ h=>crossB_ok h⟩
def d_VDot : Dc Tryz.prog:=⟨n_VDot,dec2 rQ3 rQ3,fun a=>dotB a.1 a.2,fun _ _ h=>dec2_ok h,fun _ h=>dotB_ok h⟩
def dcVec : List (Dc Tryz.prog):=[d_RSub,d_VCompare,d_VAdd,d_VSub,d_VNeg,d_VCross,d_VDot]
end
end Go.Sy
