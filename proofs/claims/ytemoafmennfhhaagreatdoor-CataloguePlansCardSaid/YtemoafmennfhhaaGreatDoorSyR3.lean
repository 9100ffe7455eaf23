/- The program of this seat. -/
import Derived.Test.YtemoafmennfhhaaGreatDoorSyBig
import Derived.Test.YtemoafmennfhhaaGreatDoorProg
import Derived.KernelRfl
namespace Go.Sy
open Go.RowKit Go.Proofs
set_option linter.unusedVariables false
set_option maxRecDepth 1000000
set_option maxHeartbeats 0
attribute [local instance] tb0
theorem p_mixed : Tryz.prog.follows .mixedOrders = true:=by kernel_rfl
theorem p_callable : Callable Tryz.prog:=callable_of (by kernel_rfl)
abbrev PFp (f : FuncId) (xs v : AV) : Prop:=PF Tryz.prog f xs v
end Go.Sy
namespace Go.Sy
open Go.RowKit Go.Proofs
set_option linter.unusedVariables false
set_option maxRecDepth 1000000
set_option maxHeartbeats 0
attribute [local irreducible] Cw SealV SealL PF Sub
attribute [local instance] tb0
theorem c_trim (l : List Int) (hd : DG l) (hs : l.length < 4294967296) : PFp 224 (.cons (eDig.v l) .nil) (eMag.v (val l)):=by
  refine PF.of_wp (c:=_) p_mixed (by decide) (fn:=Tryz.f224) rfl rfl rfl ?_ (call:=callT []) (fun B0=>callT_ok p_callable [] B0) ?_
  · exact .cons (eDig.pureV _) .nil
  · intro B0
    conv=>whnf
    refine Cw.loop (ι:=Nat) (fun k=>regsT [(0,eDig.v (l.take k))]) (fun _=>[]) (fun _=>⟨heapT [],pathOf 64⟩)
      (fun k=>k ≤ l.length∧val (l.take k) = val l) (fun k=>k) ?_ l.length ⟨Nat.le_refl _,by simp⟩ ?_
    · rintro k ⟨hk,hv⟩
      refine wp_sound p_mixed rfl rfl (callT_ok p_callable [] B0) _ ?_
      conv=>whnf
      have hl : (l.take k).length = k:=List.length_take_of_le hk
      refine bSplit (fun h=>?_) (fun h=>?_)
      · have h:=ilt_iff.1 h
        have h0 : 0 < k:=by rw [hl] at h; exact Int.ofNat_lt.1 h
        have e1 : iwrap .i64 (Int.sub (Int.ofNat (l.take k).length) 1) = ((k - 1 : Nat) : Int):=by
          rw [hl,show Int.sub (Int.ofNat k) 1 = ((k - 1 : Nat) : Int) by show (k : Int) - 1 = _; omega]
          exact iwrap_i64 (by omega) (by omega)
        conv=>whnf
        refine IdxP.go (k - 1) e1 (by omega) ?_
        conv=>whnf
        refine ⟨_,(eInt .u32).rd rfl (by omega : k - 1 < (l.take k).length),?_⟩
        conv=>whnf
        refine bSplit (fun h1=>?_) (fun h1=>?_)
        · conv=>whnf
          refine BndP.go (k - 1) e1 (by omega) ?_
          conv=>whnf
          refine ⟨_,(eInt .u32).takeL_l (by omega : k - 1 ≤ (l.take k).length),?_⟩
          conv=>whnf
          have hz : (l.take k)[k - 1]'(by omega) = 0:=ieq_iff.1 h1
          have hk1 : l.take (k - 1) = (l.take k).take (k - 1):=by rw [List.take_take,Nat.min_eq_left (by omega)]
          refine ⟨k - 1,⟨by omega,?_⟩,by omega,?_⟩
          · rw [← hv]
            have:=val_take_succ (l:=l.take k) (i:=k - 1) (by omega)
            rw [show k - 1 + 1 = k by omega,List.take_take,Nat.min_self,hz] at this
            rw [hk1,this]
            simp
          · refine Sub.of [] [] rfl rfl rfl ⟨⟨?_,?_⟩,trivial⟩ trivial
            · rw [hk1,List.length_take_of_le (by omega)]; rfl
            · rw [hk1]; rfl
        · have hnz : (l.take k)[k - 1]'(by omega) ≠ 0:=ieq_no.1 h1
          have ht : Trim (l.take k):=by
            unfold Trim
            rw [List.getLast?_eq_getElem?,List.getElem?_eq_getElem (by omega)]
            intro e
            apply hnz
            have e:=Option.some.inj e
            simp only [hl] at e
            exact e
          have hdg : l.take k = dg (val l):=by rw [← hv,dg_val (hd.take k) ht]
          conv=>whnf
          rw [hdg]
          exact SealV.pure (eMag.pureV _)
      · have h:=ilt_no.1 h
        have h0 : k = 0:=by rw [hl] at h; exact Int.ofNat_le.1 h |> Nat.le_zero.1
        have hdg : l.take k = dg (val l):=by rw [← hv,h0]; rfl
        conv=>whnf
        rw [hdg]
        exact SealV.pure (eMag.pureV _)
    · refine Sub.of [] [] rfl rfl rfl ⟨⟨?_,?_⟩,trivial⟩ trivial
      · rw [List.take_length]
      · rw [List.take_length]
theorem hasbody {f : FuncId} {fn : Func} (h : Tryz.prog.funcs[f]? = some fn) (hb : fn.body.isSome = true) : ∃ fn,Tryz.prog.funcs[f]? = some fn∧fn.body.isSome = true:=⟨fn,h,hb⟩
noncomputable def n_trim : Cn Tryz.prog:=.of1 eDig eMag 224 false (fun l=>DG l∧l.length < 4294967296) val (fun e=>by cases e) (fun l h=>c_trim l h.1 h.2) (hasbody rfl rfl)
def cmpN (a b : Nat) : Int:=if a < b then -1 else if b < a then 1 else 0
theorem cmp_high {a b i : Nat} (h : a / 4294967296 ^ (i + 1) = b / 4294967296 ^ (i + 1)) (hlt : a / 4294967296 ^ i % 4294967296 < b / 4294967296 ^ i % 4294967296) : a < b:=by
  apply Nat.lt_of_not_le
  intro hle
  have h1:=Nat.div_le_div_right (c:=4294967296 ^ i) hle
  rw [Nat.pow_succ,← Nat.div_div_eq_div_mul,← Nat.div_div_eq_div_mul] at h
  omega
theorem c_order (a b : Nat) (ha : nd a < 4294967296) (hb : nd b < 4294967296) : PFp 222 (.cons (eMag.v a) (.cons (eMag.v b) .nil)) ((eInt .i64).v (cmpN a b)):=by
  refine PF.of_wp (c:=_) p_mixed (by decide) (fn:=Tryz.f222) rfl rfl rfl ?_ (call:=callT []) (fun B0=>callT_ok p_callable [] B0) ?_
  · exact .cons (eMag.pureV _) (.cons (eMag.pureV _) .nil)
  · intro B0
    have la:=dg_length a
    have lb:=dg_length b
    conv=>whnf
    refine bSplit (fun h=>?_) (fun h=>?_)
    · have h:=ine_iff.1 h
      rw [la,lb] at h
      conv=>whnf
      refine bSplit (fun h1=>?_) (fun h1=>?_)
      · have h1:=ilt_iff.1 h1
        rw [la,lb] at h1
        have hlt : a < b:=Nat.lt_of_lt_of_le (lt_nd a) (le_of_nd (Int.ofNat_lt.1 h1))
        have : cmpN a b = -1:=if_pos hlt
        rw [this]
        conv=>whnf
        exact SealV.pure .int
      · have h1:=ilt_no.1 h1
        rw [la,lb] at h1
        have hne : nd a ≠ nd b:=fun e=>h (by rw [e])
        have hle : nd b ≤ nd a:=Int.ofNat_le.1 h1
        have hlt : b < a:=Nat.lt_of_lt_of_le (lt_nd b) (le_of_nd (by omega))
        have : cmpN a b = 1:=by unfold cmpN; rw [if_neg (by omega),if_pos hlt]
        rw [this]
        conv=>whnf
        exact SealV.pure .int
    · have h:=ine_no.1 h
      have hl : nd a = nd b:=by rw [← la,← lb]; exact Int.ofNat.inj h
      conv=>whnf
      refine Cw.loop (ι:=Nat) (fun j=>regsT [(0,eMag.v a),(1,eMag.v b),(5,.int .i64 ((j : Int) - 1))]) (fun _=>[]) (fun _=>⟨heapT [],pathOf 64⟩)
        (fun j=>j ≤ nd a∧a / 4294967296 ^ j = b / 4294967296 ^ j) (fun j=>j) ?_ (nd a) ⟨Nat.le_refl _,?_⟩ ?_
      · rintro j ⟨hj,he⟩
        refine wp_sound p_mixed rfl rfl (callT_ok p_callable [] B0) _ ?_
        conv=>whnf
        refine bSplit (fun h1=>?_) (fun h1=>?_)
        · have h1:=ile_iff.1 h1
          have hi : j - 1 < (dg a).length:=by rw [la]; omega
          have hi' : j - 1 < (dg b).length:=by rw [lb]; omega
          conv=>whnf
          refine IdxP.go (j - 1) (by omega) hi ?_
          conv=>whnf
          refine ⟨_,(eInt .u32).rd rfl hi,?_⟩
          conv=>whnf
          refine IdxP.go (j - 1) (by omega) hi' ?_
          conv=>whnf
          refine ⟨_,(eInt .u32).rd rfl hi',?_⟩
          conv=>whnf
          have he' : a / 4294967296 ^ (j - 1 + 1) = b / 4294967296 ^ (j - 1 + 1):=by rw [show j - 1 + 1 = j by omega]; exact he
          refine bSplit (fun h2=>?_) (fun h2=>?_)
          · have h2:=ine_iff.1 h2
            rw [dg_getElem,dg_getElem] at h2
            conv=>whnf
            refine IdxP.go (j - 1) (by omega) hi ?_
            conv=>whnf
            refine ⟨_,(eInt .u32).rd rfl hi,?_⟩
            conv=>whnf
            refine IdxP.go (j - 1) (by omega) hi' ?_
            conv=>whnf
            refine ⟨_,(eInt .u32).rd rfl hi',?_⟩
            conv=>whnf
            refine bSplit (fun h3=>?_) (fun h3=>?_)
            · have h3:=ilt_iff.1 h3
              rw [dg_getElem,dg_getElem] at h3
              have hlt : a < b:=cmp_high he' (Int.ofNat_lt.1 h3)
              have : cmpN a b = -1:=if_pos hlt
              rw [this]
              conv=>whnf
              exact SealV.pure .int
            · have h3:=ilt_no.1 h3
              rw [dg_getElem,dg_getElem] at h3
              have hlt : b < a:=cmp_high he'.symm (by omega)
              have : cmpN a b = 1:=by unfold cmpN; rw [if_neg (by omega),if_pos hlt]
              rw [this]
              conv=>whnf
              exact SealV.pure .int
          · have h2:=ine_no.1 h2
            rw [dg_getElem,dg_getElem] at h2
            have h2:=Int.ofNat.inj h2
            conv=>whnf
            refine ⟨j - 1,⟨by omega,?_⟩,by omega,?_⟩
            · rw [Nat.pow_succ,← Nat.div_div_eq_div_mul,← Nat.div_div_eq_div_mul] at he'
              omega
            · refine Sub.of [] [] rfl rfl rfl ⟨⟨rfl,rfl⟩,⟨rfl,rfl⟩,?_,trivial⟩ trivial
              show iwrap .i64 ((j : Int) - 1 - 1) = ((j - 1 : Nat) : Int) - 1
              rw [iwrap_i64 (by omega) (by omega)]
              omega
        · have h1:=ile_no.1 h1
          have hj0 : j = 0:=by omega
          subst hj0
          have hab : a = b:=by simpa using he
          have : cmpN a b = 0:=by unfold cmpN; rw [if_neg (by omega),if_neg (by omega)]
          rw [this]
          conv=>whnf
          exact SealV.pure .int
      · rw [Nat.div_eq_of_lt (lt_nd a),hl,Nat.div_eq_of_lt (lt_nd b)]
      · refine Sub.of [] [] rfl rfl rfl ⟨⟨rfl,rfl⟩,⟨rfl,rfl⟩,?_,trivial⟩ trivial
        show iwrap .i64 (((dg a).length : Int) - 1) = _
        rw [la,iwrap_i64 (by omega) (by omega)]
noncomputable def n_order : Cn Tryz.prog:=.of2 eMag eMag (eInt .i64) 222 true (fun a b=>nd a < 4294967296∧nd b < 4294967296) cmpN (fun _ y x hx=>by rw [List.mem_singleton.1 hx]; rfl) (fun a b h=>c_order a b h.1 h.2) (hasbody rfl rfl)
end Go.Sy
namespace Go.Sy
open Go.RowKit Go.Proofs
set_option linter.unusedVariables false
set_option maxRecDepth 1000000
set_option maxHeartbeats 0
attribute [local irreducible] Cw SealV SealL PF Sub
attribute [local instance] tb0
theorem sgn_abs (neg : Bool) (m : Nat) : (sgn neg m).natAbs = m:=by cases neg <;> simp [sgn]
theorem sgn_neg (neg : Bool) (m : Nat) : decide (sgn neg m < 0) = (neg && decide (0 < m)):=by
  cases neg
  · show decide ((m : Int) < 0) = _
    rw [Bool.false_and]
    exact decide_eq_false (by omega)
  · simp [sgn]
theorem c_signed (neg : Bool) (l : List Int) (hd : DG l) (hs : l.length < 4294967296) : PFp 262 (.cons (eBool.v neg) (.cons (eDig.v l) .nil)) (eBig.v (sgn neg (val l))):=by
  refine PF.of_wp (c:=_) p_mixed (by decide) (fn:=Tryz.f262) rfl rfl rfl ?_ (call:=callT [n_trim]) (fun B0=>callT_ok p_callable [n_trim] B0) ?_
  · exact .cons (eBool.pureV _) (.cons (eDig.pureV _) .nil)
  · intro B0
    have e1 : decide (sgn neg (val l) < 0) = (neg && decide (0 < (dg (val l)).length)):=by
      rw [sgn_neg]
      congr 1
      rw [dg_length]
      by_cases h0 : val l = 0
      · rw [h0]; simp [nd]
      · rw [nd_pos h0]; simp; omega
    have e2 : eBig.v (sgn neg (val l)) = .agg (.cons (.bool (neg && decide (0 < (dg (val l)).length))) (.cons (eMag.v (val l)) .nil)):=by
      show AV.agg (.cons (.bool (decide (sgn neg (val l) < 0))) (.cons (eMag.v (sgn neg (val l)).natAbs) .nil)) = _
      rw [e1,sgn_abs]
    rw [e2]
    conv=>whnf
    refine callT_go (l:=[n_trim]) (by decide) 0 (c:=n_trim) rfl l ⟨hd,hs⟩ ?_ ?_ ?_
    · exact ⟨trivial,trivial⟩
    · rfl
    cases neg with
    | true =>
      conv=>whnf
      rw [Bool.true_and,← show ilt 0 (Int.ofNat (dg (val l)).length) = decide (0 < (dg (val l)).length) by rw [ilt_dec]; simp]
      exact SealV.pure (.agg (.cons .bool (.cons (eMag.pureV _) .nil)))
    | false =>
      conv=>whnf
      exact SealV.pure (.agg (.cons .bool (.cons (eMag.pureV _) .nil)))
noncomputable def n_signed : Cn Tryz.prog:=.of2 eBool eDig eBig 262 false (fun _ l=>DG l∧l.length < 4294967296) (fun neg l=>sgn neg (val l)) (fun e=>by cases e) (fun neg l h=>c_signed neg l h.1 h.2) (hasbody rfl rfl)
theorem SealV.same {h : Heap} {u v : AV} (e : u = v) (hv : PureV v) : SealV h u v:=by subst e; exact SealV.pure hv
theorem eBig_v (z : Int) : eBig.v z = .agg (.cons (.bool (decide (z < 0))) (.cons (eMag.v z.natAbs) .nil)):=rfl
theorem eBig_of {b : Bool} {z : Int} {m : Nat} (h1 : decide (z < 0) = b) (h2 : z.natAbs = m) : eBig.v z = .agg (.cons (.bool b) (.cons (eMag.v m) .nil)):=by rw [eBig_v,h1,h2]
theorem flat_int (k : IntKind) : true = true → ∀ y,∀ a ∈ (eInt k).cs y,flatC a = true:=fun _ y x hx=>by rw [List.mem_singleton.1 hx]; rfl
theorem flat_bool : true = true → ∀ y,∀ a ∈ eBool.cs y,flatC a = true:=fun _ y x hx=>by rw [List.mem_singleton.1 hx]; rfl
theorem len_dg_zero {v : Nat} : ieq (Int.ofNat (dg v).length) 0 = true ↔ v = 0:=by
  rw [ieq_iff,dg_length]
  by_cases h : v = 0
  · subst h; simp [nd]
  · rw [nd_pos h]
    constructor
    · intro e; exact absurd (Int.ofNat.inj e) (Nat.succ_ne_zero _)
    · intro e; exact absurd e h
theorem len_dg_pos {v : Nat} : ilt 0 (Int.ofNat (dg v).length) = decide (0 < v):=by
  rw [ilt_dec,dg_length]
  by_cases h : v = 0
  · subst h; simp [nd]
  · rw [nd_pos h]
    have h1 : (0 : Int) < Int.ofNat (v.log2 / 32 + 1):=Int.ofNat_lt.2 (Nat.succ_pos _)
    have h2 : 0 < v:=by omega
    simp only [h1,h2,decide_true]
theorem c_Sign (z : Int) : PFp 161 (.cons (eBig.v z) .nil) ((eInt .i64).v z.sign):=by
  refine PF.of_wp (c:=_) p_mixed (by decide) (fn:=Tryz.f161) rfl rfl rfl ?_ (call:=callT []) (fun B0=>callT_ok p_callable [] B0) ?_
  · exact .cons (eBig.pureV _) .nil
  · intro B0
    rw [eBig_v]
    conv=>whnf
    refine bSplit (fun h=>?_) (fun h=>?_)
    · have h:=len_dg_zero.1 h
      have hz : z = 0:=Int.natAbs_eq_zero.1 h
      subst hz
      conv=>whnf
      exact SealV.pure .int
    · have hz : z ≠ 0:=fun e=>by rw [len_dg_zero.2 (by rw [e]; rfl)] at h; cases h
      conv=>whnf
      refine bSplit (fun h1=>?_) (fun h1=>?_)
      · have h1:=of_decide_eq_true h1
        rw [show z.sign = -1 from Int.sign_eq_neg_one_of_neg h1]
        conv=>whnf
        exact SealV.pure .int
      · have h1:=of_decide_eq_false h1
        rw [show z.sign = 1 from Int.sign_eq_one_of_pos (by omega)]
        conv=>whnf
        exact SealV.pure .int
noncomputable def n_Sign : Cn Tryz.prog:=.of1 eBig (eInt .i64) 161 true (fun _=>True) Int.sign (flat_int _) (fun z _=>c_Sign z) (hasbody rfl rfl)
theorem c_Neg (z : Int) : PFp 280 (.cons (eBig.v z) .nil) (eBig.v (-z)):=by
  refine PF.of_wp (c:=_) p_mixed (by decide) (fn:=Tryz.f280) rfl rfl rfl ?_ (call:=callT []) (fun B0=>callT_ok p_callable [] B0) ?_
  · exact .cons (eBig.pureV _) .nil
  · intro B0
    rw [eBig_v]
    conv=>whnf
    refine bSplit (fun h=>?_) (fun h=>?_)
    · have h:=bnot_yes.1 h
      have h:=of_decide_eq_false h
      conv=>whnf
      rw [len_dg_pos]
      refine SealV.same ?_ (eBig.pureV _)
      exact (eBig_of (z:=-z) (m:=z.natAbs) (b:=decide (0 < z.natAbs)) (by congr 1; simp only [eq_iff_iff]; omega) (by simp)).symm
    · have h:=bnot_no.1 h
      have h':=of_decide_eq_true h
      conv=>whnf
      rw [h]
      refine SealV.same ?_ (eBig.pureV _)
      exact (eBig_of (z:=-z) (m:=z.natAbs) (b:=false) (decide_eq_false (by omega)) (by simp)).symm
noncomputable def n_Neg : Cn Tryz.prog:=.of1 eBig eBig 280 false (fun _=>True) (fun z=>-z) (fun e=>by cases e) (fun z _=>c_Neg z) (hasbody rfl rfl)
def cmpZ (a b : Int) : Int:=if a < b then -1 else if b < a then 1 else 0
def SZ (z : Int) : Prop:=nd z.natAbs < 134217728
theorem c_Compare (a b : Int) (ha : SZ a) (hb : SZ b) : PFp 202 (.cons (eBig.v a) (.cons (eBig.v b) .nil)) ((eInt .i64).v (cmpZ a b)):=by
  unfold SZ at ha hb
  refine PF.of_wp (c:=_) p_mixed (by decide) (fn:=Tryz.f202) rfl rfl rfl ?_ (call:=callT [n_order]) (fun B0=>callT_ok p_callable [n_order] B0) ?_
  · exact .cons (eBig.pureV _) (.cons (eBig.pureV _) .nil)
  · intro B0
    rw [eBig_v,eBig_v]
    rcases Int.lt_or_le a 0 with h1 | h1
    · rcases Int.lt_or_le b 0 with h2 | h2
      · rw [decide_eq_true h1,decide_eq_true h2]
        conv=>whnf
        refine callT_go (l:=[n_order]) (by decide) 0 (c:=n_order) rfl (b.natAbs,a.natAbs) ⟨by show nd b.natAbs < _; omega,by show nd a.natAbs < _; omega⟩ ?_ ?_ ?_
        · exact ⟨trivial,trivial,trivial⟩
        · rfl
        · conv=>whnf
          rw [show cmpZ a b = cmpN b.natAbs a.natAbs by unfold cmpZ cmpN; split <;> split <;> (try split) <;> first | rfl | omega]
          exact SealV.pure .int
      · rw [decide_eq_true h1,decide_eq_false (show ¬ b < 0 by omega)]
        conv=>whnf
        rw [show cmpZ a b = -1 from if_pos (by omega)]
        exact SealV.pure .int
    · rcases Int.lt_or_le b 0 with h2 | h2
      · rw [decide_eq_false (show ¬ a < 0 by omega),decide_eq_true h2]
        conv=>whnf
        rw [show cmpZ a b = 1 by unfold cmpZ; rw [if_neg (by omega),if_pos (by omega)]]
        exact SealV.pure .int
      · rw [decide_eq_false (show ¬ a < 0 by omega),decide_eq_false (show ¬ b < 0 by omega)]
        conv=>whnf
        refine callT_go (l:=[n_order]) (by decide) 0 (c:=n_order) rfl (a.natAbs,b.natAbs) ⟨by show nd a.natAbs < _; omega,by show nd b.natAbs < _; omega⟩ ?_ ?_ ?_
        · exact ⟨trivial,trivial,trivial⟩
        · rfl
        · conv=>whnf
          rw [show cmpZ a b = cmpN a.natAbs b.natAbs by unfold cmpZ cmpN; split <;> split <;> (try split) <;> first | rfl | omega]
          exact SealV.pure .int
noncomputable def n_Compare : Cn Tryz.prog:=.of2 eBig eBig (eInt .i64) 202 true (fun a b=>SZ a∧SZ b) cmpZ (flat_int _) (fun a b h=>c_Compare a b h.1 h.2) (hasbody rfl rfl)
end Go.Sy
namespace Go.Sy
open Go.RowKit Go.Proofs
set_option linter.unusedVariables false
set_option maxRecDepth 1000000
set_option maxHeartbeats 0
attribute [local irreducible] Cw SealV SealL PF Sub
attribute [local instance] tb0
theorem plus_step {x y i c : Nat} {p : List Int} (hp : p.length = i) (hv : val p + 4294967296 ^ i * c = x % 4294967296 ^ i + y % 4294967296 ^ i) (t : Nat) (ht : t = c + x / 4294967296 ^ i % 4294967296 + y / 4294967296 ^ i % 4294967296) :
    val (p++[((t % 4294967296 : Nat) : Int)]) + 4294967296 ^ (i + 1) * (t / 4294967296) = x % 4294967296 ^ (i + 1) + y % 4294967296 ^ (i + 1):=by
  rw [val_snoc,hp,show (((t % 4294967296 : Nat) : Int)).toNat = t % 4294967296 from rfl,Nat.mod_pow_succ,Nat.mod_pow_succ,Nat.pow_succ,Nat.mul_assoc]
  have e : 4294967296 ^ i * t = 4294967296 ^ i * (t % 4294967296) + 4294967296 ^ i * (4294967296 * (t / 4294967296)):=by rw [← Nat.mul_add,Nat.mod_add_div]
  have e2 : 4294967296 ^ i * t = 4294967296 ^ i * c + 4294967296 ^ i * (x / 4294967296 ^ i % 4294967296) + 4294967296 ^ i * (y / 4294967296 ^ i % 4294967296):=by rw [ht,Nat.mul_add,Nat.mul_add]
  omega
theorem plus_end {x y n c : Nat} {p : List Int} (hd : DG p) (hp : p.length = n) (hx : nd x ≤ n) (hy : nd y ≤ n) (hc : c ≤ 1) (hv : val p + 4294967296 ^ n * c = x % 4294967296 ^ n + y % 4294967296 ^ n) : p++[(c : Int)] = dgN (n + 1) (x + y):=by
  have h1 : x < 4294967296 ^ n:=Nat.lt_of_lt_of_le (lt_nd x) (Nat.pow_le_pow_right (by decide) hx)
  have h2 : y < 4294967296 ^ n:=Nat.lt_of_lt_of_le (lt_nd y) (Nat.pow_le_pow_right (by decide) hy)
  rw [Nat.mod_eq_of_lt h1,Nat.mod_eq_of_lt h2] at hv
  apply val_inj
  · exact DG.append.2 ⟨hd,DG.cons.2 ⟨by omega,.nil⟩⟩
  · exact dgN_DG _ _
  · rw [dgN_length]; simp [hp]
  · rw [val_dgN,val_snoc,hp,show ((c : Int)).toNat = c from rfl,hv,Nat.mod_eq_of_lt]
    rw [Nat.pow_succ]; omega
theorem digit_zero {y i : Nat} (h : nd y ≤ i) : y / 4294967296 ^ i % 4294967296 = 0:=by
  rw [Nat.div_eq_of_lt (Nat.lt_of_lt_of_le (lt_nd y) (Nat.pow_le_pow_right (by decide) h))]
theorem c_plus (a b : Nat) (ha : nd a < 134217728) (hb : nd b < 134217728) : PFp 278 (.cons (eMag.v a) (.cons (eMag.v b) .nil)) (eDig.v (dgN (max (nd a) (nd b) + 1) (a + b))):=by
  refine PF.of_wp (c:=_) p_mixed (by decide) (fn:=Tryz.f278) rfl rfl rfl ?_ (call:=callT []) (fun B0=>callT_ok p_callable [] B0) ?_
  · exact .cons (eMag.pureV _) (.cons (eMag.pureV _) .nil)
  · intro B0
    have hx : ∃ x y,nd y ≤ nd x∧x + y = a + b∧max (nd a) (nd b) = nd x∧nd x < 134217728∧((x = a∧y = b∧¬ nd a < nd b) ∨ (x = b∧y = a∧nd a < nd b)):=by
      by_cases h : nd a < nd b
      · exact ⟨b,a,by omega,by omega,by omega,by omega,.inr ⟨rfl,rfl,h⟩⟩
      · exact ⟨a,b,by omega,by omega,by omega,by omega,.inl ⟨rfl,rfl,h⟩⟩
    obtain ⟨x,y,hyx,hs,hm,hxs,hc⟩:=hx
    rw [hm,← hs]
    have lx:=dg_length x
    have ly:=dg_length y
    rcases hc with ⟨rfl,rfl,hc⟩ | ⟨rfl,rfl,hc⟩
    all_goals
      conv=>whnf
      refine bSplit (fun h=>?_) (fun h=>?_)
    any_goals
      exfalso
      first
        | have h:=ilt_iff.1 h
          rw [dg_length,dg_length] at h
          exact hc (Int.ofNat_lt.1 h)
        | have h:=ilt_no.1 h
          rw [dg_length,dg_length] at h
          have:=Int.ofNat_le.1 h
          omega
    all_goals
      conv=>whnf
    all_goals
      clear hs hm ha hb h hc
      have e0 : iwrap .i64 (Int.add (Int.ofNat (dg x).length) 1) = ((nd x + 1 : Nat) : Int):=by
        rw [lx]
        exact iwrap_i64 (by show (-9223372036854775808 : Int) ≤ ((nd x : Nat) : Int) + 1; omega) (by show ((nd x : Nat) : Int) + 1 < _; omega)
      refine (eInt .u32).mk' (x:=0) (nd x + 1) (nd x + 1) e0 e0 (Nat.le_refl _) (by show (nd x + 1) * (4 + 1) ≤ _; omega) ?_
      conv=>whnf
      refine Cw.loop (ι:=Nat × List Int × Nat)
        (fun q=>regsT [(0,eMag.v x),(1,eMag.v y),(5,.gs (pathOf 64) (nd x + 1) 1),(6,.int .u64 q.2.2),(20,eMag.v x),(21,.int .i64 (nd x)),(22,.int .i64 q.1)]) (fun _=>[])
        (fun q=>⟨heapT [(pathOf 64,.gl ((eInt .u32).l (q.2.1++List.replicate (nd x + 1 - q.1) 0)) false)],pathOf 65⟩)
        (fun q=>q.1 ≤ nd x∧q.2.1.length = q.1∧DG q.2.1∧q.2.2 ≤ 1∧val q.2.1 + 4294967296 ^ q.1 * q.2.2 = x % 4294967296 ^ q.1 + y % 4294967296 ^ q.1)
        (fun q=>nd x - q.1) ?_ (0,[],0) ⟨Nat.zero_le _,rfl,.nil,by decide,by simp [val,Nat.mod_one]⟩ ?_
      · rintro ⟨i,p,c⟩ ⟨hi,hp,hd,hc,hv⟩
        simp only at hi hp hd hc hv
        refine wp_sound p_mixed rfl rfl (callT_ok p_callable [] B0) _ ?_
        conv=>whnf
        refine bSplit (fun h=>?_) (fun h=>?_)
        · have h : i < nd x:=Int.ofNat_lt.1 (ilt_iff.1 h)
          have hix : i < (dg x).length:=by omega
          have hx:=dg_getElem hix
          have ex : iwrap .u64 (dg x)[i] = ((x / 4294967296 ^ i % 4294967296 : Nat) : Int):=by rw [hx]; exact iwrap_u64 (by omega) (by omega)
          have ec : iwrap .u64 (Int.add (c : Int) (iwrap .u64 (dg x)[i])) = ((c + x / 4294967296 ^ i % 4294967296 : Nat) : Int):=by
            rw [ex]; exact iwrap_u64 (n:=(c : Int) + _) (by omega) (by omega)
          conv=>whnf
          refine IdxP.go i rfl hix ?_
          conv=>whnf
          refine ⟨_,(eInt .u32).rd rfl hix,?_⟩
          conv=>whnf
          refine bSplit (fun h2=>?_) (fun h2=>?_)
          · have h2 : i < (dg y).length:=Int.ofNat_lt.1 (ilt_iff.1 h2)
            have hy:=dg_getElem h2
            have ey : iwrap .u64 (dg y)[i] = ((y / 4294967296 ^ i % 4294967296 : Nat) : Int):=by rw [hy]; exact iwrap_u64 (by omega) (by omega)
            have ht : iwrap .u64 (Int.add (iwrap .u64 (Int.add (c : Int) (iwrap .u64 (dg x)[i]))) (iwrap .u64 (dg y)[i])) = ((c + x / 4294967296 ^ i % 4294967296 + y / 4294967296 ^ i % 4294967296 : Nat) : Int):=by
              rw [ec,ey]; exact iwrap_u64 (n:=((_ : Nat) : Int) + _) (by omega) (by omega)
            conv=>whnf
            refine IdxP.go i rfl h2 ?_
            conv=>whnf
            refine ⟨_,(eInt .u32).rd rfl h2,?_⟩
            conv=>whnf
            have hsum:=plus_step (x:=x) (y:=y) hp hv (c + x / 4294967296 ^ i % 4294967296 + y / 4294967296 ^ i % 4294967296) rfl
            refine IdxP.go i rfl (by omega) ?_
            conv=>whnf
            refine (eInt .u32).st (xs:=p++List.replicate (nd x + 1 - i) 0) (i:=i) _ (by simp; omega) ?_
            conv=>whnf
            refine ⟨⟨by show (0 : Int) ≤ iwrap .u64 _; rw [ht]; omega,by decide⟩,?_⟩
            conv=>whnf
            refine ⟨(i + 1,p++[(((c + x / 4294967296 ^ i % 4294967296 + y / 4294967296 ^ i % 4294967296) % 4294967296 : Nat) : Int)],(c + x / 4294967296 ^ i % 4294967296 + y / 4294967296 ^ i % 4294967296) / 4294967296),⟨by show i + 1 ≤ nd x; omega,by simp [hp],DG.append.2 ⟨hd,DG.cons.2 ⟨by omega,.nil⟩⟩,by show (c + x / 4294967296 ^ i % 4294967296 + y / 4294967296 ^ i % 4294967296) / 4294967296 ≤ 1; omega,hsum⟩,by show nd x - (i + 1) < nd x - i; omega,?_⟩
            refine Sub.of [(pathOf 64,some (pathOf 64))] [] rfl rfl rfl ⟨⟨rfl,rfl⟩,⟨rfl,rfl⟩,⟨rfl,rfl⟩,?_,⟨rfl,rfl⟩,rfl,?_,trivial⟩ ⟨⟨?_,rfl,(eInt .u32).pureL _⟩,trivial⟩
            · show Int.ofNat (Nat.div (iwrap .u64 _).toNat 4294967296) = _
              rw [ht]; rfl
            · exact iwrap_i64 (n:=(i : Int) + 1) (by omega) (by omega)
            · show (eInt .u32).l ((p++List.replicate (nd x + 1 - i) 0).set i (iwrap .u32 (iwrap .u64 _))) = (eInt .u32).l ((p++[_])++List.replicate (nd x + 1 - (i + 1)) 0)
              rw [ht,wrap_u32]
              rw [← hp] at *
              rw [set_zeros (by omega)]
              rfl
          · have h2 : (dg y).length ≤ i:=Int.ofNat_le.1 (ilt_no.1 h2)
            have hy0:=digit_zero (y:=y) (i:=i) (by omega)
            have ht:=ec
            conv=>whnf
            have hsum:=plus_step (x:=x) (y:=y) hp hv (c + x / 4294967296 ^ i % 4294967296) (by rw [hy0]; rfl)
            refine IdxP.go i rfl (by omega) ?_
            conv=>whnf
            refine (eInt .u32).st (xs:=p++List.replicate (nd x + 1 - i) 0) (i:=i) _ (by simp; omega) ?_
            conv=>whnf
            refine ⟨⟨by show (0 : Int) ≤ iwrap .u64 _; rw [ht]; omega,by decide⟩,?_⟩
            conv=>whnf
            refine ⟨(i + 1,p++[(((c + x / 4294967296 ^ i % 4294967296) % 4294967296 : Nat) : Int)],(c + x / 4294967296 ^ i % 4294967296) / 4294967296),⟨by show i + 1 ≤ nd x; omega,by simp [hp],DG.append.2 ⟨hd,DG.cons.2 ⟨by omega,.nil⟩⟩,by show (c + x / 4294967296 ^ i % 4294967296) / 4294967296 ≤ 1; omega,hsum⟩,by show nd x - (i + 1) < nd x - i; omega,?_⟩
            refine Sub.of [(pathOf 64,some (pathOf 64))] [] rfl rfl rfl ⟨⟨rfl,rfl⟩,⟨rfl,rfl⟩,⟨rfl,rfl⟩,?_,⟨rfl,rfl⟩,rfl,?_,trivial⟩ ⟨⟨?_,rfl,(eInt .u32).pureL _⟩,trivial⟩
            · show Int.ofNat (Nat.div (iwrap .u64 _).toNat 4294967296) = _
              rw [ht]; rfl
            · exact iwrap_i64 (n:=(i : Int) + 1) (by omega) (by omega)
            · show (eInt .u32).l ((p++List.replicate (nd x + 1 - i) 0).set i (iwrap .u32 (iwrap .u64 _))) = (eInt .u32).l ((p++[_])++List.replicate (nd x + 1 - (i + 1)) 0)
              rw [ht,wrap_u32]
              rw [← hp] at *
              rw [set_zeros (by omega)]
              rfl
        · have h : nd x ≤ i:=Int.ofNat_le.1 (ilt_no.1 h)
          have hin : i = nd x:=by omega
          subst hin
          have hfin:=plus_end hd hp (Nat.le_refl _) hyx hc hv
          conv=>whnf
          refine IdxP.go (nd x) (congrArg Int.ofNat lx) (by omega) ?_
          conv=>whnf
          refine (eInt .u32).st (xs:=p++List.replicate (nd x + 1 - nd x) 0) (i:=nd x) _ (by simp; omega) ?_
          conv=>whnf
          have hset : (p++List.replicate (nd x + 1 - nd x) 0).set (nd x) (iwrap .u32 (c : Int)) = dgN (nd x + 1) (x + y):=by
            rw [← hfin,iwrap_u32 (by omega) (by omega),show nd x + 1 - nd x = 1 by omega]
            conv=>lhs; arg 2; rw [← hp]
            rw [set_zeros (by decide)]
            simp
          exact (eInt .u32).give rfl hset (by rw [dgN_length])
      · refine Sub.of [(pathOf 64,some (pathOf 64))] [] rfl rfl rfl ⟨⟨rfl,rfl⟩,⟨rfl,rfl⟩,⟨rfl,rfl⟩,rfl,⟨rfl,rfl⟩,congrArg Int.ofNat lx,rfl,trivial⟩ ⟨⟨rfl,rfl,(eInt .u32).pureL _⟩,trivial⟩
noncomputable def n_plus : Cn Tryz.prog:=.of2 eMag eMag eDig 278 false (fun a b=>nd a < 134217728∧nd b < 134217728) (fun a b=>dgN (max (nd a) (nd b) + 1) (a + b)) (fun e=>by cases e) (fun a b h=>c_plus a b h.1 h.2) (hasbody rfl rfl)
theorem minus_step {x y i c : Nat} {p : List Int} (hp : p.length = i) (hv : val p + y % 4294967296 ^ i = x % 4294967296 ^ i + 4294967296 ^ i * c) (t : Int) (c' : Nat) (ht : t = (x / 4294967296 ^ i % 4294967296 : Nat) - (c : Int) - (y / 4294967296 ^ i % 4294967296 : Nat)) (h1 : 0 ≤ t + 4294967296 * c') (h2 : t + 4294967296 * c' < 4294967296) :
    val (p++[t + 4294967296 * c']) + y % 4294967296 ^ (i + 1) = x % 4294967296 ^ (i + 1) + 4294967296 ^ (i + 1) * c':=by
  rw [val_snoc,hp,Nat.mod_pow_succ,Nat.mod_pow_succ,Nat.pow_succ,Nat.mul_assoc]
  obtain ⟨d,hd⟩:=Int.eq_ofNat_of_zero_le h1
  rw [hd,show ((d : Int)).toNat = d from rfl]
  have e : d + c + y / 4294967296 ^ i % 4294967296 = x / 4294967296 ^ i % 4294967296 + 4294967296 * c':=by omega
  have e2:=congrArg (fun z=>4294967296 ^ i * z) e
  simp only [Nat.mul_add] at e2
  omega
theorem minus_end {x y n c : Nat} {p : List Int} (hd : DG p) (hp : p.length = n) (hx : nd x ≤ n) (hy : y ≤ x) (hv : val p + y % 4294967296 ^ n = x % 4294967296 ^ n + 4294967296 ^ n * c) : p = dgN n (x - y):=by
  have h1 : x < 4294967296 ^ n:=Nat.lt_of_lt_of_le (lt_nd x) (Nat.pow_le_pow_right (by decide) hx)
  have h3:=val_lt hd
  rw [hp] at h3
  rw [Nat.mod_eq_of_lt h1,Nat.mod_eq_of_lt (by omega)] at hv
  apply val_inj hd (dgN_DG _ _)
  · rw [dgN_length,hp]
  · rw [val_dgN,Nat.mod_eq_of_lt (by omega)]
    cases c with
    | zero=>omega
    | succ c=>rw [Nat.mul_succ] at hv; omega
theorem nd_mono {x y : Nat} (h : y ≤ x) : nd y ≤ nd x:=nd_le (Nat.lt_of_le_of_lt h (lt_nd x))
theorem c_minus (x y : Nat) (hxs : nd x < 134217728) (hyx : y ≤ x) : PFp 279 (.cons (eMag.v x) (.cons (eMag.v y) .nil)) (eDig.v (dgN (nd x) (x - y))):=by
  refine PF.of_wp (c:=_) p_mixed (by decide) (fn:=Tryz.f279) rfl rfl rfl ?_ (call:=callT []) (fun B0=>callT_ok p_callable [] B0) ?_
  · exact .cons (eMag.pureV _) (.cons (eMag.pureV _) .nil)
  · intro B0
    have lx:=dg_length x
    have ly:=dg_length y
    have hnd:=nd_mono hyx
    conv=>whnf
    have e0 : Int.ofNat (dg x).length = ((nd x : Nat) : Int):=congrArg Int.ofNat lx
    refine (eInt .u32).mk' (x:=0) (nd x) (nd x) e0 e0 (Nat.le_refl _) (by show nd x * (4 + 1) ≤ _; omega) ?_
    conv=>whnf
    refine Cw.loop (ι:=Nat × List Int × Nat)
      (fun q=>regsT [(0,eMag.v x),(1,eMag.v y),(5,.gs (pathOf 64) (nd x) 1),(6,.int .i64 q.2.2),(13,eMag.v x),(14,.int .i64 (nd x)),(15,.int .i64 q.1)]) (fun _=>[])
      (fun q=>⟨heapT [(pathOf 64,.gl ((eInt .u32).l (q.2.1++List.replicate (nd x - q.1) 0)) false)],pathOf 65⟩)
      (fun q=>q.1 ≤ nd x∧q.2.1.length = q.1∧DG q.2.1∧q.2.2 ≤ 1∧val q.2.1 + y % 4294967296 ^ q.1 = x % 4294967296 ^ q.1 + 4294967296 ^ q.1 * q.2.2)
      (fun q=>nd x - q.1) ?_ (0,[],0) ⟨Nat.zero_le _,rfl,.nil,by decide,by simp [val,Nat.mod_one]⟩ ?_
    · rintro ⟨i,p,c⟩ ⟨hi,hp,hd,hc,hv⟩
      simp only at hi hp hd hc hv
      refine wp_sound p_mixed rfl rfl (callT_ok p_callable [] B0) _ ?_
      conv=>whnf
      refine bSplit (fun h=>?_) (fun h=>?_)
      · have h : i < nd x:=Int.ofNat_lt.1 (ilt_iff.1 h)
        have hix : i < (dg x).length:=by omega
        have hx:=dg_getElem hix
        have ec : iwrap .i64 (Int.sub (iwrap .i64 (dg x)[i]) (c : Int)) = ((x / 4294967296 ^ i % 4294967296 : Nat) : Int) - (c : Int):=by
          rw [show iwrap .i64 (dg x)[i] = ((x / 4294967296 ^ i % 4294967296 : Nat) : Int) by rw [hx]; exact iwrap_i64 (by omega) (by omega)]
          exact iwrap_i64 (n:=_ - _) (by omega) (by omega)
        conv=>whnf
        refine IdxP.go i rfl hix ?_
        conv=>whnf
        refine ⟨_,(eInt .u32).rd rfl hix,?_⟩
        conv=>whnf
        refine bSplit (fun h2=>?_) (fun h2=>?_)
        · have h2 : i < (dg y).length:=Int.ofNat_lt.1 (ilt_iff.1 h2)
          have hy:=dg_getElem h2
          have ht : iwrap .i64 (Int.sub (iwrap .i64 (Int.sub (iwrap .i64 (dg x)[i]) (c : Int))) (iwrap .i64 (dg y)[i])) = ((x / 4294967296 ^ i % 4294967296 : Nat) : Int) - (c : Int) - ((y / 4294967296 ^ i % 4294967296 : Nat) : Int):=by
            rw [ec,show iwrap .i64 (dg y)[i] = ((y / 4294967296 ^ i % 4294967296 : Nat) : Int) by rw [hy]; exact iwrap_i64 (by omega) (by omega)]
            exact iwrap_i64 (n:=_ - _) (by omega) (by omega)
          conv=>whnf
          refine IdxP.go i rfl h2 ?_
          conv=>whnf
          refine ⟨_,(eInt .u32).rd rfl h2,?_⟩
          conv=>whnf
          have hyt : ((x / 4294967296 ^ i % 4294967296 : Nat) : Int) - (c : Int) - ((y / 4294967296 ^ i % 4294967296 : Nat) : Int) = (x / 4294967296 ^ i % 4294967296 : Nat) - (c : Int) - (y / 4294967296 ^ i % 4294967296 : Nat):=rfl
          refine bSplit (fun h3=>?_) (fun h3=>?_)
          · have h3:=ilt_iff.1 h3
            have h3 : (((x / 4294967296 ^ i % 4294967296 : Nat) : Int) - (c : Int) - ((y / 4294967296 ^ i % 4294967296 : Nat) : Int) : Int) < 0:=by rw [← ht]; exact h3
            have hstep:=minus_step (x:=x) (y:=y) hp hv (((x / 4294967296 ^ i % 4294967296 : Nat) : Int) - (c : Int) - ((y / 4294967296 ^ i % 4294967296 : Nat) : Int)) 1 hyt (by omega) (by omega)
            conv=>whnf
            refine IdxP.go i rfl (by omega) ?_
            conv=>whnf
            refine (eInt .u32).st (xs:=p++List.replicate (nd x - i) 0) (i:=i) _ (by simp; omega) ?_
            conv=>whnf
            refine ⟨(i + 1,p++[(((x / 4294967296 ^ i % 4294967296 : Nat) : Int) - (c : Int) - ((y / 4294967296 ^ i % 4294967296 : Nat) : Int)) + 4294967296 * 1],1),⟨by show i + 1 ≤ nd x; omega,by simp [hp],DG.append.2 ⟨hd,DG.cons.2 ⟨by omega,.nil⟩⟩,by simp,hstep⟩,by show nd x - (i + 1) < nd x - i; omega,?_⟩
            refine Sub.of [(pathOf 64,some (pathOf 64))] [] rfl rfl rfl ⟨⟨rfl,rfl⟩,⟨rfl,rfl⟩,⟨rfl,rfl⟩,rfl,⟨rfl,rfl⟩,rfl,?_,trivial⟩ ⟨⟨?_,rfl,(eInt .u32).pureL _⟩,trivial⟩
            · exact iwrap_i64 (n:=(i : Int) + 1) (by omega) (by omega)
            · show (eInt .u32).l ((p++List.replicate (nd x - i) 0).set i (iwrap .u32 (iwrap .i64 _))) = (eInt .u32).l ((p++[_])++List.replicate (nd x - (i + 1)) 0)
              rw [ht,wrap_u32,show (((x / 4294967296 ^ i % 4294967296 : Nat) : Int) - (c : Int) - ((y / 4294967296 ^ i % 4294967296 : Nat) : Int)) % 4294967296 = (((x / 4294967296 ^ i % 4294967296 : Nat) : Int) - (c : Int) - ((y / 4294967296 ^ i % 4294967296 : Nat) : Int)) + 4294967296 * 1 by omega]
              rw [← hp] at *
              rw [set_zeros (by omega)]
              rfl
          · have h3:=ilt_no.1 h3
            have h3 : (0 : Int) ≤ ((x / 4294967296 ^ i % 4294967296 : Nat) : Int) - (c : Int) - ((y / 4294967296 ^ i % 4294967296 : Nat) : Int):=by rw [← ht]; exact h3
            have hstep:=minus_step (x:=x) (y:=y) hp hv (((x / 4294967296 ^ i % 4294967296 : Nat) : Int) - (c : Int) - ((y / 4294967296 ^ i % 4294967296 : Nat) : Int)) 0 hyt (by omega) (by omega)
            conv=>whnf
            refine IdxP.go i rfl (by omega) ?_
            conv=>whnf
            refine (eInt .u32).st (xs:=p++List.replicate (nd x - i) 0) (i:=i) _ (by simp; omega) ?_
            conv=>whnf
            refine ⟨(i + 1,p++[(((x / 4294967296 ^ i % 4294967296 : Nat) : Int) - (c : Int) - ((y / 4294967296 ^ i % 4294967296 : Nat) : Int)) + 4294967296 * 0],0),⟨by show i + 1 ≤ nd x; omega,by simp [hp],DG.append.2 ⟨hd,DG.cons.2 ⟨by omega,.nil⟩⟩,by simp,hstep⟩,by show nd x - (i + 1) < nd x - i; omega,?_⟩
            refine Sub.of [(pathOf 64,some (pathOf 64))] [] rfl rfl rfl ⟨⟨rfl,rfl⟩,⟨rfl,rfl⟩,⟨rfl,rfl⟩,rfl,⟨rfl,rfl⟩,rfl,?_,trivial⟩ ⟨⟨?_,rfl,(eInt .u32).pureL _⟩,trivial⟩
            · exact iwrap_i64 (n:=(i : Int) + 1) (by omega) (by omega)
            · show (eInt .u32).l ((p++List.replicate (nd x - i) 0).set i (iwrap .u32 (iwrap .i64 _))) = (eInt .u32).l ((p++[_])++List.replicate (nd x - (i + 1)) 0)
              rw [ht,wrap_u32,show (((x / 4294967296 ^ i % 4294967296 : Nat) : Int) - (c : Int) - ((y / 4294967296 ^ i % 4294967296 : Nat) : Int)) % 4294967296 = (((x / 4294967296 ^ i % 4294967296 : Nat) : Int) - (c : Int) - ((y / 4294967296 ^ i % 4294967296 : Nat) : Int)) + 4294967296 * 0 by omega]
              rw [← hp] at *
              rw [set_zeros (by omega)]
              rfl
        · have h2 : (dg y).length ≤ i:=Int.ofNat_le.1 (ilt_no.1 h2)
          have hy0:=digit_zero (y:=y) (i:=i) (by omega)
          have ht:=ec
          conv=>whnf
          have hyt : ((x / 4294967296 ^ i % 4294967296 : Nat) : Int) - (c : Int) = (x / 4294967296 ^ i % 4294967296 : Nat) - (c : Int) - (y / 4294967296 ^ i % 4294967296 : Nat):=by rw [hy0]; simp
          refine bSplit (fun h3=>?_) (fun h3=>?_)
          · have h3:=ilt_iff.1 h3
            have h3 : (((x / 4294967296 ^ i % 4294967296 : Nat) : Int) - (c : Int) : Int) < 0:=by rw [← ht]; exact h3
            have hstep:=minus_step (x:=x) (y:=y) hp hv (((x / 4294967296 ^ i % 4294967296 : Nat) : Int) - (c : Int)) 1 hyt (by omega) (by omega)
            conv=>whnf
            refine IdxP.go i rfl (by omega) ?_
            conv=>whnf
            refine (eInt .u32).st (xs:=p++List.replicate (nd x - i) 0) (i:=i) _ (by simp; omega) ?_
            conv=>whnf
            refine ⟨(i + 1,p++[(((x / 4294967296 ^ i % 4294967296 : Nat) : Int) - (c : Int)) + 4294967296 * 1],1),⟨by show i + 1 ≤ nd x; omega,by simp [hp],DG.append.2 ⟨hd,DG.cons.2 ⟨by omega,.nil⟩⟩,by simp,hstep⟩,by show nd x - (i + 1) < nd x - i; omega,?_⟩
            refine Sub.of [(pathOf 64,some (pathOf 64))] [] rfl rfl rfl ⟨⟨rfl,rfl⟩,⟨rfl,rfl⟩,⟨rfl,rfl⟩,rfl,⟨rfl,rfl⟩,rfl,?_,trivial⟩ ⟨⟨?_,rfl,(eInt .u32).pureL _⟩,trivial⟩
            · exact iwrap_i64 (n:=(i : Int) + 1) (by omega) (by omega)
            · show (eInt .u32).l ((p++List.replicate (nd x - i) 0).set i (iwrap .u32 (iwrap .i64 _))) = (eInt .u32).l ((p++[_])++List.replicate (nd x - (i + 1)) 0)
              rw [ht,wrap_u32,show (((x / 4294967296 ^ i % 4294967296 : Nat) : Int) - (c : Int)) % 4294967296 = (((x / 4294967296 ^ i % 4294967296 : Nat) : Int) - (c : Int)) + 4294967296 * 1 by omega]
              rw [← hp] at *
              rw [set_zeros (by omega)]
              rfl
          · have h3:=ilt_no.1 h3
            have h3 : (0 : Int) ≤ ((x / 4294967296 ^ i % 4294967296 : Nat) : Int) - (c : Int):=by rw [← ht]; exact h3
            have hstep:=minus_step (x:=x) (y:=y) hp hv (((x / 4294967296 ^ i % 4294967296 : Nat) : Int) - (c : Int)) 0 hyt (by omega) (by omega)
            conv=>whnf
            refine IdxP.go i rfl (by omega) ?_
            conv=>whnf
            refine (eInt .u32).st (xs:=p++List.replicate (nd x - i) 0) (i:=i) _ (by simp; omega) ?_
            conv=>whnf
            refine ⟨(i + 1,p++[(((x / 4294967296 ^ i % 4294967296 : Nat) : Int) - (c : Int)) + 4294967296 * 0],0),⟨by show i + 1 ≤ nd x; omega,by simp [hp],DG.append.2 ⟨hd,DG.cons.2 ⟨by omega,.nil⟩⟩,by simp,hstep⟩,by show nd x - (i + 1) < nd x - i; omega,?_⟩
            refine Sub.of [(pathOf 64,some (pathOf 64))] [] rfl rfl rfl ⟨⟨rfl,rfl⟩,⟨rfl,rfl⟩,⟨rfl,rfl⟩,rfl,⟨rfl,rfl⟩,rfl,?_,trivial⟩ ⟨⟨?_,rfl,(eInt .u32).pureL _⟩,trivial⟩
            · exact iwrap_i64 (n:=(i : Int) + 1) (by omega) (by omega)
            · show (eInt .u32).l ((p++List.replicate (nd x - i) 0).set i (iwrap .u32 (iwrap .i64 _))) = (eInt .u32).l ((p++[_])++List.replicate (nd x - (i + 1)) 0)
              rw [ht,wrap_u32,show (((x / 4294967296 ^ i % 4294967296 : Nat) : Int) - (c : Int)) % 4294967296 = (((x / 4294967296 ^ i % 4294967296 : Nat) : Int) - (c : Int)) + 4294967296 * 0 by omega]
              rw [← hp] at *
              rw [set_zeros (by omega)]
              rfl
      · have h : nd x ≤ i:=Int.ofNat_le.1 (ilt_no.1 h)
        have hin : i = nd x:=by omega
        subst hin
        have hfin:=minus_end hd hp (Nat.le_refl _) hyx hv
        conv=>whnf
        exact (eInt .u32).give rfl (by rw [← hfin]; simp) (by rw [dgN_length])
    · refine Sub.of [(pathOf 64,some (pathOf 64))] [] rfl rfl rfl ⟨⟨rfl,rfl⟩,⟨rfl,rfl⟩,⟨rfl,rfl⟩,rfl,⟨rfl,rfl⟩,e0,rfl,trivial⟩ ⟨⟨rfl,rfl,(eInt .u32).pureL _⟩,trivial⟩
noncomputable def n_minus : Cn Tryz.prog:=.of2 eMag eMag eDig 279 false (fun a b=>nd a < 134217728∧b ≤ a) (fun a b=>dgN (nd a) (a - b)) (fun e=>by cases e) (fun a b h=>c_minus a b h.1 h.2) (hasbody rfl rfl)
end Go.Sy
namespace Go.Sy
open Go.RowKit Go.Proofs
set_option linter.unusedVariables false
set_option maxRecDepth 1000000
set_option maxHeartbeats 0
attribute [local irreducible] Cw SealV SealL PF Sub
attribute [local instance] tb0
noncomputable def tAdd : List (Cn Tryz.prog):=[n_plus,n_minus,n_order,n_signed]
theorem val_plus (m n : Nat) : val (dgN (max (nd m) (nd n) + 1) (m + n)) = m + n:=by
  rw [val_dgN,Nat.mod_eq_of_lt]
  have h1 : m < 4294967296 ^ max (nd m) (nd n):=Nat.lt_of_lt_of_le (lt_nd m) (Nat.pow_le_pow_right (by decide) (Nat.le_max_left _ _))
  have h2 : n < 4294967296 ^ max (nd m) (nd n):=Nat.lt_of_lt_of_le (lt_nd n) (Nat.pow_le_pow_right (by decide) (Nat.le_max_right _ _))
  rw [Nat.pow_succ]; omega
theorem val_minus (m n : Nat) : val (dgN (nd m) (m - n)) = m - n:=by
  rw [val_dgN,Nat.mod_eq_of_lt]
  have:=lt_nd m
  omega
theorem c_Add (a b : Int) (ha : SZ a) (hb : SZ b) : PFp 214 (.cons (eBig.v a) (.cons (eBig.v b) .nil)) (eBig.v (a + b)):=by
  unfold SZ at ha hb
  refine PF.of_wp (c:=_) p_mixed (by decide) (fn:=Tryz.f214) rfl rfl rfl ?_ (call:=callT tAdd) (fun B0=>callT_ok p_callable tAdd B0) ?_
  · exact .cons (eBig.pureV _) (.cons (eBig.pureV _) .nil)
  · intro B0
    rw [eBig_v a,eBig_v b]
    by_cases h1 : a < 0
    · by_cases h2 : b < 0
      · rw [decide_eq_true h1,decide_eq_true h2]
        conv=>whnf
        refine callT_go (l:=tAdd) (by decide) 0 (c:=n_plus) rfl (a.natAbs,b.natAbs) ⟨ha,hb⟩ ?_ ?_ ?_
        · exact ⟨trivial,trivial,trivial⟩
        · rfl
        conv=>whnf
        repeat refine ⟨⟨_,rfl,rfl⟩,?_⟩
        conv=>whnf
        refine callT_go (l:=tAdd) (by decide) 3 (c:=n_signed) rfl (true,dgN (max (nd a.natAbs) (nd b.natAbs) + 1) (a.natAbs + b.natAbs)) ⟨dgN_DG _ _,by show (dgN _ _).length < _; rw [dgN_length]; omega⟩ ?_ ?_ ?_
        · exact ⟨trivial,trivial,trivial⟩
        · rfl
        conv=>whnf
        repeat refine ⟨⟨_,rfl,rfl⟩,?_⟩
        conv=>whnf
        refine SealV.same ?_ (eBig.pureV _)
        show eBig.v (sgn true (val _)) = _
        rw [val_plus]
        exact congrArg eBig.v (by simp only [sgn]; omega)
      · rw [decide_eq_true h1,decide_eq_false h2]
        conv=>whnf
        refine callT_go (l:=tAdd) (by decide) 2 (c:=n_order) rfl (a.natAbs,b.natAbs) ⟨by show nd a.natAbs < _; omega,by show nd b.natAbs < _; omega⟩ ?_ ?_ ?_
        · exact ⟨trivial,trivial,trivial⟩
        · rfl
        conv=>whnf
        refine bSplit (fun h=>?_) (fun h=>?_)
        · have h:=ile_iff.1 h
          have h : b.natAbs ≤ a.natAbs:=by
            have h : (0 : Int) ≤ cmpN a.natAbs b.natAbs:=h
            unfold cmpN at h
            split at h
            · omega
            · omega
          conv=>whnf
          refine callT_go (l:=tAdd) (by decide) 1 (c:=n_minus) rfl (a.natAbs,b.natAbs) ⟨ha,by show b.natAbs ≤ a.natAbs; omega⟩ ?_ ?_ ?_
          · exact ⟨trivial,trivial,trivial⟩
          · rfl
          conv=>whnf
          repeat refine ⟨⟨_,rfl,rfl⟩,?_⟩
          conv=>whnf
          refine callT_go (l:=tAdd) (by decide) 3 (c:=n_signed) rfl (true,dgN (nd a.natAbs) (a.natAbs - b.natAbs)) ⟨dgN_DG _ _,by show (dgN _ _).length < _; rw [dgN_length]; omega⟩ ?_ ?_ ?_
          · exact ⟨trivial,trivial,trivial⟩
          · rfl
          conv=>whnf
          repeat refine ⟨⟨_,rfl,rfl⟩,?_⟩
          conv=>whnf
          refine SealV.same ?_ (eBig.pureV _)
          show eBig.v (sgn true (val _)) = _
          rw [val_minus]
          exact congrArg eBig.v (by simp only [sgn]; omega)
        · have h:=ile_no.1 h
          have h : a.natAbs < b.natAbs:=by
            have h : cmpN a.natAbs b.natAbs < (0 : Int):=h
            unfold cmpN at h
            split at h
            · omega
            · split at h <;> omega
          conv=>whnf
          refine callT_go (l:=tAdd) (by decide) 1 (c:=n_minus) rfl (b.natAbs,a.natAbs) ⟨hb,by show a.natAbs ≤ b.natAbs; omega⟩ ?_ ?_ ?_
          · exact ⟨trivial,trivial,trivial⟩
          · rfl
          conv=>whnf
          repeat refine ⟨⟨_,rfl,rfl⟩,?_⟩
          conv=>whnf
          refine callT_go (l:=tAdd) (by decide) 3 (c:=n_signed) rfl (false,dgN (nd b.natAbs) (b.natAbs - a.natAbs)) ⟨dgN_DG _ _,by show (dgN _ _).length < _; rw [dgN_length]; omega⟩ ?_ ?_ ?_
          · exact ⟨trivial,trivial,trivial⟩
          · rfl
          conv=>whnf
          repeat refine ⟨⟨_,rfl,rfl⟩,?_⟩
          conv=>whnf
          refine SealV.same ?_ (eBig.pureV _)
          show eBig.v (sgn false (val _)) = _
          rw [val_minus]
          exact congrArg eBig.v (by simp only [sgn]; omega)
    · by_cases h2 : b < 0
      · rw [decide_eq_false h1,decide_eq_true h2]
        conv=>whnf
        refine callT_go (l:=tAdd) (by decide) 2 (c:=n_order) rfl (a.natAbs,b.natAbs) ⟨by show nd a.natAbs < _; omega,by show nd b.natAbs < _; omega⟩ ?_ ?_ ?_
        · exact ⟨trivial,trivial,trivial⟩
        · rfl
        conv=>whnf
        refine bSplit (fun h=>?_) (fun h=>?_)
        · have h:=ile_iff.1 h
          have h : b.natAbs ≤ a.natAbs:=by
            have h : (0 : Int) ≤ cmpN a.natAbs b.natAbs:=h
            unfold cmpN at h
            split at h
            · omega
            · omega
          conv=>whnf
          refine callT_go (l:=tAdd) (by decide) 1 (c:=n_minus) rfl (a.natAbs,b.natAbs) ⟨ha,by show b.natAbs ≤ a.natAbs; omega⟩ ?_ ?_ ?_
          · exact ⟨trivial,trivial,trivial⟩
          · rfl
          conv=>whnf
          repeat refine ⟨⟨_,rfl,rfl⟩,?_⟩
          conv=>whnf
          refine callT_go (l:=tAdd) (by decide) 3 (c:=n_signed) rfl (false,dgN (nd a.natAbs) (a.natAbs - b.natAbs)) ⟨dgN_DG _ _,by show (dgN _ _).length < _; rw [dgN_length]; omega⟩ ?_ ?_ ?_
          · exact ⟨trivial,trivial,trivial⟩
          · rfl
          conv=>whnf
          repeat refine ⟨⟨_,rfl,rfl⟩,?_⟩
          conv=>whnf
          refine SealV.same ?_ (eBig.pureV _)
          show eBig.v (sgn false (val _)) = _
          rw [val_minus]
          exact congrArg eBig.v (by simp only [sgn]; omega)
        · have h:=ile_no.1 h
          have h : a.natAbs < b.natAbs:=by
            have h : cmpN a.natAbs b.natAbs < (0 : Int):=h
            unfold cmpN at h
            split at h
            · omega
            · split at h <;> omega
          conv=>whnf
          refine callT_go (l:=tAdd) (by decide) 1 (c:=n_minus) rfl (b.natAbs,a.natAbs) ⟨hb,by show a.natAbs ≤ b.natAbs; omega⟩ ?_ ?_ ?_
          · exact ⟨trivial,trivial,trivial⟩
          · rfl
          conv=>whnf
          repeat refine ⟨⟨_,rfl,rfl⟩,?_⟩
          conv=>whnf
          refine callT_go (l:=tAdd) (by decide) 3 (c:=n_signed) rfl (true,dgN (nd b.natAbs) (b.natAbs - a.natAbs)) ⟨dgN_DG _ _,by show (dgN _ _).length < _; rw [dgN_length]; omega⟩ ?_ ?_ ?_
          · exact ⟨trivial,trivial,trivial⟩
          · rfl
          conv=>whnf
          repeat refine ⟨⟨_,rfl,rfl⟩,?_⟩
          conv=>whnf
          refine SealV.same ?_ (eBig.pureV _)
          show eBig.v (sgn true (val _)) = _
          rw [val_minus]
          exact congrArg eBig.v (by simp only [sgn]; omega)
      · rw [decide_eq_false h1,decide_eq_false h2]
        conv=>whnf
        refine callT_go (l:=tAdd) (by decide) 0 (c:=n_plus) rfl (a.natAbs,b.natAbs) ⟨ha,hb⟩ ?_ ?_ ?_
        · exact ⟨trivial,trivial,trivial⟩
        · rfl
        conv=>whnf
        repeat refine ⟨⟨_,rfl,rfl⟩,?_⟩
        conv=>whnf
        refine callT_go (l:=tAdd) (by decide) 3 (c:=n_signed) rfl (false,dgN (max (nd a.natAbs) (nd b.natAbs) + 1) (a.natAbs + b.natAbs)) ⟨dgN_DG _ _,by show (dgN _ _).length < _; rw [dgN_length]; omega⟩ ?_ ?_ ?_
        · exact ⟨trivial,trivial,trivial⟩
        · rfl
        conv=>whnf
        repeat refine ⟨⟨_,rfl,rfl⟩,?_⟩
        conv=>whnf
        refine SealV.same ?_ (eBig.pureV _)
        show eBig.v (sgn false (val _)) = _
        rw [val_plus]
        exact congrArg eBig.v (by simp only [sgn]; omega)
noncomputable def n_Add : Cn Tryz.prog:=.of2 eBig eBig eBig 214 false (fun a b=>SZ a∧SZ b) (fun a b=>a + b) (fun e=>by cases e) (fun a b h=>c_Add a b h.1 h.2) (hasbody rfl rfl)
noncomputable def tSub : List (Cn Tryz.prog):=[n_Add,n_Neg]
theorem c_Sub (a b : Int) (ha : SZ a) (hb : SZ b) : PFp 331 (.cons (eBig.v a) (.cons (eBig.v b) .nil)) (eBig.v (a - b)):=by
  refine PF.of_wp (c:=_) p_mixed (by decide) (fn:=Tryz.f331) rfl rfl rfl ?_ (call:=callT tSub) (fun B0=>callT_ok p_callable tSub B0) ?_
  · exact .cons (eBig.pureV _) (.cons (eBig.pureV _) .nil)
  · intro B0
    rw [eBig_v a,eBig_v b]
    conv=>whnf
    refine callT_go (l:=tSub) (by decide) 1 (c:=n_Neg) rfl b trivial ?_ ?_ ?_
    · exact ⟨⟨trivial,trivial,trivial⟩,trivial⟩
    · rfl
    conv=>whnf
    repeat refine ⟨⟨_,rfl,rfl⟩,?_⟩
    conv=>whnf
    refine callT_go (l:=tSub) (by decide) 0 (c:=n_Add) rfl (a,-b) ⟨ha,by unfold SZ at hb ⊢; rw [Int.natAbs_neg]; exact hb⟩ ?_ ?_ ?_
    · exact ⟨⟨trivial,trivial,trivial⟩,⟨trivial,trivial,trivial⟩,trivial⟩
    · rfl
    conv=>whnf
    repeat refine ⟨⟨_,rfl,rfl⟩,?_⟩
    conv=>whnf
    exact SealV.same (congrArg eBig.v (Int.sub_eq_add_neg ..).symm) (eBig.pureV _)
noncomputable def n_Sub : Cn Tryz.prog:=.of2 eBig eBig eBig 331 false (fun a b=>SZ a∧SZ b) (fun a b=>a - b) (fun e=>by cases e) (fun a b h=>c_Sub a b h.1 h.2) (hasbody rfl rfl)
end Go.Sy
namespace Go.Sy
open Go.RowKit Go.Proofs
set_option linter.unusedVariables false
set_option maxRecDepth 1000000
set_option maxHeartbeats 0
attribute [local irreducible] Cw SealV SealL PF Sub
attribute [local instance] tb0
noncomputable abbrev bigAV (s : Bool) (m : Nat) : AV:=.agg (.cons (.bool s) (.cons (eMag.v m) .nil))
theorem mul_step {l : List Int} {A B i k c : Nat} (hj : i + k < l.length) (hd : DG l) (hv : val l + 4294967296 ^ (i + k) * c = A % 4294967296 ^ i * B + A / 4294967296 ^ i % 4294967296 * (4294967296 ^ i * (B % 4294967296 ^ k))) (t : Nat) (ht : t = A / 4294967296 ^ i % 4294967296 * (B / 4294967296 ^ k % 4294967296) + l[i + k].toNat + c) :
    val (l.set (i + k) ((t % 4294967296 : Nat) : Int)) + 4294967296 ^ (i + (k + 1)) * (t / 4294967296) = A % 4294967296 ^ i * B + A / 4294967296 ^ i % 4294967296 * (4294967296 ^ i * (B % 4294967296 ^ (k + 1))):=by
  have h1:=val_set hj ((t % 4294967296 : Nat) : Int)
  rw [show (((t % 4294967296 : Nat) : Int)).toNat = t % 4294967296 from rfl] at h1
  rw [Nat.mod_pow_succ,show i + (k + 1) = i + k + 1 from rfl,Nat.pow_succ,Nat.mul_assoc]
  generalize A / 4294967296 ^ i % 4294967296 = x at *
  generalize hy : B / 4294967296 ^ k % 4294967296 = y at *
  have e : 4294967296 ^ (i + k) * t = 4294967296 ^ (i + k) * (t % 4294967296) + 4294967296 ^ (i + k) * (4294967296 * (t / 4294967296)):=by rw [← Nat.mul_add,Nat.mod_add_div]
  have e2 : 4294967296 ^ (i + k) * t = 4294967296 ^ (i + k) * (x * y) + 4294967296 ^ (i + k) * l[i + k].toNat + 4294967296 ^ (i + k) * c:=by rw [ht,Nat.mul_add,Nat.mul_add]
  have e3 : x * (4294967296 ^ i * (B % 4294967296 ^ k + 4294967296 ^ k * y)) = x * (4294967296 ^ i * (B % 4294967296 ^ k)) + 4294967296 ^ (i + k) * (x * y):=by
    rw [Nat.mul_add,Nat.mul_add,Nat.pow_add]
    congr 1
    rw [← Nat.mul_assoc (4294967296 ^ i),Nat.mul_left_comm]
  rw [e3]
  omega
theorem mul_row {l : List Int} {A B i c n : Nat} (hj : i + n < l.length) (hz : l[i + n] = 0) (hc : c < 4294967296) (hn : B < 4294967296 ^ n) (hv : val l + 4294967296 ^ (i + n) * c = A % 4294967296 ^ i * B + A / 4294967296 ^ i % 4294967296 * (4294967296 ^ i * (B % 4294967296 ^ n))) :
    val (l.set (i + n) (c : Int)) = A % 4294967296 ^ (i + 1) * B:=by
  have h1:=val_set hj (c : Int)
  rw [hz,show ((c : Int)).toNat = c from rfl] at h1
  rw [Nat.mod_eq_of_lt hn] at hv
  rw [Nat.mod_pow_succ,Nat.add_mul]
  simp only [Int.toNat_zero,Nat.mul_zero,Nat.add_zero] at h1
  rw [h1,hv]
  congr 1
  rw [Nat.mul_left_comm,Nat.mul_assoc]
theorem mul_t {x y o c : Nat} (h : x * y ≤ 4294967295 * 4294967295) (ho : o < 4294967296) (hc : c < 4294967296) : iwrap .u64 (Int.add (c : Int) (iwrap .u64 (Int.add ((x * y : Nat) : Int) (o : Int)))) = ((x * y + o + c : Nat) : Int):=by
  have h1 : iwrap .u64 (Int.add ((x * y : Nat) : Int) (o : Int)) = ((x * y + o : Nat) : Int):=(iwrap_u64 (n:=((x * y : Nat) : Int) + (o : Int)) (by omega) (by omega)).trans (by omega)
  rw [h1]
  exact (iwrap_u64 (n:=(c : Int) + ((x * y + o : Nat) : Int)) (by omega) (by omega)).trans (by omega)
theorem c_Mul' (s1 s2 : Bool) (A B : Nat) (ha : nd A < 67108864) (hb : nd B < 67108864) : PFp 216 (.cons (bigAV s1 A) (.cons (bigAV s2 B) .nil)) (eBig.v (sgn (s1 != s2) (A * B))):=by
  refine PF.of_wp (c:=_) p_mixed (by decide) (fn:=Tryz.f216) rfl rfl rfl ?_ (call:=callT [n_signed]) (fun B0=>callT_ok p_callable [n_signed] B0) ?_
  · exact .cons (.agg (.cons .bool (.cons (eMag.pureV _) .nil))) (.cons (.agg (.cons .bool (.cons (eMag.pureV _) .nil))) .nil)
  · intro B0
    have la:=dg_length A
    have lb:=dg_length B
    conv=>whnf
    have e0 : iwrap .i64 (Int.add (Int.ofNat (dg A).length) (Int.ofNat (dg B).length)) = ((nd A + nd B : Nat) : Int):=by
      rw [la,lb]
      exact iwrap_i64 (n:=((nd A : Nat) : Int) + ((nd B : Nat) : Int)) (by omega) (by omega)
    refine (eInt .u32).mk' (x:=0) (nd A + nd B) (nd A + nd B) e0 e0 (Nat.le_refl _) (by show (nd A + nd B) * (4 + 1) ≤ _; omega) ?_
    conv=>whnf
    refine Cw.loop (ι:=Nat × List Int)
      (fun q=>regsT [(2,.ptr (pathOf 64) 0),(3,.ptr (pathOf 65) 0),(4,.ptr (pathOf 66) 0),(5,.gs (pathOf 67) (nd A + nd B) 1),(20,eMag.v A),(21,.int .i64 (nd A)),(22,.int .i64 q.1)]) (fun _=>[])
      (fun q=>⟨heapT [(pathOf 64,.cells (regsT [(0,.bool s1),(1,eMag.v A)]) 2 false),(pathOf 65,.cells (regsT [(0,.bool s2),(1,eMag.v B)]) 2 false),(pathOf 66,.cells .leaf 2 false),(pathOf 67,.gl ((eInt .u32).l q.2) false)],pathOf 68⟩)
      (fun q=>q.1 ≤ nd A∧q.2.length = nd A + nd B∧DG q.2∧(∀ j (hj : j < q.2.length),q.1 + nd B ≤ j → q.2[j] = 0)∧val q.2 = A % 4294967296 ^ q.1 * B)
      (fun q=>nd A - q.1) ?_ (0,List.replicate (nd A + nd B) 0) ⟨Nat.zero_le _,by simp,?_,?_,by simp [val_zeros,Nat.mod_one]⟩ ?_
    · rintro ⟨i,l⟩ ⟨hi,hl,hd,hz,hv⟩
      simp only at hi hl hd hz hv
      refine wp_sound p_mixed rfl rfl (callT_ok p_callable [n_signed] B0) _ ?_
      conv=>whnf
      refine bSplit (fun h=>?_) (fun h=>?_)
      · have h : i < nd A:=Int.ofNat_lt.1 (ilt_iff.1 h)
        have hix : i < (dg A).length:=by omega
        have hx:=dg_getElem hix
        conv=>whnf
        refine IdxP.go i rfl hix ?_
        conv=>whnf
        refine ⟨_,(eInt .u32).rd rfl hix,?_⟩
        conv=>whnf
        refine Cw.loop (ι:=Nat × List Int × Nat)
          (fun q=>regsT [(2,.ptr (pathOf 64) 0),(3,.ptr (pathOf 65) 0),(4,.ptr (pathOf 66) 0),(5,.gs (pathOf 67) (nd A + nd B) 1),(6,.int .i64 i),(7,.int .u32 (A / 4294967296 ^ i % 4294967296 : Nat)),(8,.int .u64 q.2.2),(20,eMag.v A),(21,.int .i64 (nd A)),(22,.int .i64 i),(28,eMag.v B),(29,.int .i64 (nd B)),(30,.int .i64 q.1)]) (fun _=>[])
          (fun q=>⟨heapT [(pathOf 64,.cells (regsT [(0,.bool s1),(1,eMag.v A)]) 2 false),(pathOf 65,.cells (regsT [(0,.bool s2),(1,eMag.v B)]) 2 false),(pathOf 66,.cells .leaf 2 false),(pathOf 67,.gl ((eInt .u32).l q.2.1) false)],pathOf 68⟩)
          (fun q=>q.1 ≤ nd B∧q.2.1.length = nd A + nd B∧DG q.2.1∧q.2.2 < 4294967296∧(∀ j (hj : j < q.2.1.length),i + nd B ≤ j → q.2.1[j] = 0)∧val q.2.1 + 4294967296 ^ (i + q.1) * q.2.2 = A % 4294967296 ^ i * B + A / 4294967296 ^ i % 4294967296 * (4294967296 ^ i * (B % 4294967296 ^ q.1)))
          (fun q=>nd B - q.1) ?_ (0,l,0) ⟨Nat.zero_le _,hl,hd,by show (0 : Nat) < _; decide,hz,by simp [hv,Nat.mod_one]⟩ ?_
        · rintro ⟨k,o,c⟩ ⟨hk,ho,hdo,hc,hzo,hvo⟩
          simp only at hk ho hdo hc hzo hvo
          refine wp_sound p_mixed rfl rfl (callT_ok p_callable [n_signed] B0) _ ?_
          conv=>whnf
          refine bSplit (fun h2=>?_) (fun h2=>?_)
          · have h2 : k < nd B:=Int.ofNat_lt.1 (ilt_iff.1 h2)
            have hky : k < (dg B).length:=by omega
            have hy:=dg_getElem hky
            have hj : i + k < o.length:=by omega
            have hoj:=hdo.get hj
            have eo : o[i + k] = (o[i + k].toNat : Int):=by omega
            have hxy : A / 4294967296 ^ i % 4294967296 * (B / 4294967296 ^ k % 4294967296) ≤ 4294967295 * 4294967295:=Nat.mul_le_mul (by omega) (by omega)
            have eij : iwrap .i64 (Int.add (i : Int) (k : Int)) = ((i + k : Nat) : Int):=iwrap_i64 (n:=(i : Int) + (k : Int)) (by omega) (by omega)
            have em : iwrap .u64 (Int.mul (iwrap .u64 ((A / 4294967296 ^ i % 4294967296 : Nat) : Int)) (iwrap .u64 (dg B)[k])) = ((A / 4294967296 ^ i % 4294967296 * (B / 4294967296 ^ k % 4294967296) : Nat) : Int):=by
              rw [hy,iwrap_u64 (n:=((A / 4294967296 ^ i % 4294967296 : Nat) : Int)) (by omega) (by omega),iwrap_u64 (n:=((B / 4294967296 ^ k % 4294967296 : Nat) : Int)) (by omega) (by omega)]
              rw [show Int.mul ((A / 4294967296 ^ i % 4294967296 : Nat) : Int) ((B / 4294967296 ^ k % 4294967296 : Nat) : Int) = ((A / 4294967296 ^ i % 4294967296 * (B / 4294967296 ^ k % 4294967296) : Nat) : Int) from rfl]
              exact iwrap_u64 (by omega) (by omega)
            have ht : iwrap .u64 (Int.add (c : Int) (iwrap .u64 (Int.add (iwrap .u64 (Int.mul (iwrap .u64 ((A / 4294967296 ^ i % 4294967296 : Nat) : Int)) (iwrap .u64 (dg B)[k]))) (iwrap .u64 o[i + k])))) = ((A / 4294967296 ^ i % 4294967296 * (B / 4294967296 ^ k % 4294967296) + o[i + k].toNat + c : Nat) : Int):=by
              rw [em,show iwrap .u64 o[i + k] = (o[i + k].toNat : Int) by rw [iwrap_u64 (by omega) (by omega)]; exact eo]
              exact mul_t hxy (by omega) hc
            have hstep:=mul_step (A:=A) (B:=B) hj hdo hvo _ rfl
            conv=>whnf
            refine IdxP.go k rfl hky ?_
            conv=>whnf
            refine ⟨_,(eInt .u32).rd rfl hky,?_⟩
            conv=>whnf
            refine IdxP.go (i + k) eij (by omega) ?_
            conv=>whnf
            refine ⟨_,(eInt .u32).rd rfl hj,?_⟩
            conv=>whnf
            refine IdxP.go (i + k) eij (by omega) ?_
            conv=>whnf
            refine (eInt .u32).st (xs:=o) (i:=i + k) _ hj ?_
            conv=>whnf
            refine ⟨⟨by show (0 : Int) ≤ iwrap .u64 _; rw [ht]; omega,by decide⟩,?_⟩
            conv=>whnf
            generalize htt : A / 4294967296 ^ i % 4294967296 * (B / 4294967296 ^ k % 4294967296) + o[i + k].toNat + c = t at ht hstep
            refine ⟨(k + 1,o.set (i + k) ((t % 4294967296 : Nat) : Int),t / 4294967296),⟨by show k + 1 ≤ nd B; omega,by simp [ho],hdo.set _ (by omega) (by omega),by show t / 4294967296 < _; omega,?_,hstep⟩,by show nd B - (k + 1) < nd B - k; omega,?_⟩
            · intro j hj' hle
              have hne : i + k ≠ j:=by omega
              simp only [List.getElem_set_ne hne]
              exact hzo j (by simpa using hj') hle
            · refine Sub.of [(pathOf 64,some (pathOf 64)),(pathOf 65,some (pathOf 65)),(pathOf 66,some (pathOf 66)),(pathOf 67,some (pathOf 67))] [] rfl rfl rfl ⟨rfl,rfl,rfl,⟨rfl,rfl⟩,rfl,rfl,?_,⟨rfl,rfl⟩,rfl,rfl,⟨rfl,rfl⟩,rfl,?_,trivial⟩ ⟨⟨rfl,rfl,trivial,rfl,trivial,⟨rfl,rfl⟩,trivial⟩,⟨rfl,rfl,trivial,rfl,trivial,⟨rfl,rfl⟩,trivial⟩,⟨rfl,rfl,trivial⟩,⟨?_,rfl,(eInt .u32).pureL _⟩,trivial⟩
              · show Int.ofNat (Nat.div (iwrap .u64 _).toNat 4294967296) = _
                rw [ht]; rfl
              · exact iwrap_i64 (n:=(k : Int) + 1) (by omega) (by omega)
              · show (eInt .u32).l (o.set (i + k) (iwrap .u32 (iwrap .u64 _))) = (eInt .u32).l (o.set (i + k) _)
                rw [ht,wrap_u32]
                rfl
          · have h2 : nd B ≤ k:=Int.ofNat_le.1 (ilt_no.1 h2)
            have hkn : k = nd B:=by omega
            subst hkn
            have hj : i + nd B < o.length:=by omega
            have eij : iwrap .i64 (Int.add (i : Int) (Int.ofNat (dg B).length)) = ((i + nd B : Nat) : Int):=by
              rw [lb]; exact iwrap_i64 (n:=(i : Int) + ((nd B : Nat) : Int)) (by omega) (by omega)
            have hrow:=mul_row hj (hzo _ hj (Nat.le_refl _)) hc (lt_nd B) hvo
            conv=>whnf
            refine IdxP.go (i + nd B) eij (by omega) ?_
            conv=>whnf
            refine (eInt .u32).st (xs:=o) (i:=i + nd B) _ hj ?_
            conv=>whnf
            refine ⟨(i + 1,o.set (i + nd B) (c : Int)),⟨by show i + 1 ≤ nd A; omega,by simp [ho],hdo.set _ (by omega) (by omega),?_,hrow⟩,by show nd A - (i + 1) < nd A - i; omega,?_⟩
            · intro j hj' hle
              have hne : i + nd B ≠ j:=by simp only at hle; omega
              simp only [List.getElem_set_ne hne]
              exact hzo j (by simpa using hj') (by simp only at hle; omega)
            · refine Sub.of [(pathOf 64,some (pathOf 64)),(pathOf 65,some (pathOf 65)),(pathOf 66,some (pathOf 66)),(pathOf 67,some (pathOf 67))] [] rfl rfl rfl ⟨rfl,rfl,rfl,⟨rfl,rfl⟩,⟨rfl,rfl⟩,rfl,?_,trivial⟩ ⟨⟨rfl,rfl,trivial,rfl,trivial,⟨rfl,rfl⟩,trivial⟩,⟨rfl,rfl,trivial,rfl,trivial,⟨rfl,rfl⟩,trivial⟩,⟨rfl,rfl,trivial⟩,⟨?_,rfl,(eInt .u32).pureL _⟩,trivial⟩
              · exact iwrap_i64 (n:=(i : Int) + 1) (by omega) (by omega)
              · show (eInt .u32).l (o.set (i + nd B) (iwrap .u32 (c : Int))) = (eInt .u32).l (o.set (i + nd B) _)
                rw [iwrap_u32 (by omega) (by omega)]
        · refine Sub.of [(pathOf 64,some (pathOf 64)),(pathOf 65,some (pathOf 65)),(pathOf 66,some (pathOf 66)),(pathOf 67,some (pathOf 67))] [] rfl rfl rfl ⟨rfl,rfl,rfl,⟨rfl,rfl⟩,rfl,hx,rfl,⟨rfl,rfl⟩,rfl,rfl,⟨rfl,rfl⟩,congrArg Int.ofNat lb,rfl,trivial⟩ ⟨⟨rfl,rfl,trivial,rfl,trivial,⟨rfl,rfl⟩,trivial⟩,⟨rfl,rfl,trivial,rfl,trivial,⟨rfl,rfl⟩,trivial⟩,⟨rfl,rfl,trivial⟩,⟨rfl,rfl,(eInt .u32).pureL _⟩,trivial⟩
      · have h : nd A ≤ i:=Int.ofNat_le.1 (ilt_no.1 h)
        have hin : i = nd A:=by omega
        subst hin
        rw [Nat.mod_eq_of_lt (lt_nd A)] at hv
        rw [← hv]
        cases s1 <;> cases s2
        · conv=>whnf
          refine callT_go (l:=[n_signed]) (by decide) 0 (c:=n_signed) rfl (false,l) ⟨hd,by show l.length < _; omega⟩ ?_ ?_ ?_
          · exact ⟨trivial,by show (nd A + nd B) * 1 = ((eInt .u32).l l).len; rw [Enc.len_l,hl]; rfl,trivial⟩
          · show AV.cons _ (.cons (.ro l.length _) .nil) = AV.cons _ (.cons (.ro (nd A + nd B) _) .nil)
            rw [hl]; rfl
          conv=>whnf
          repeat refine ⟨⟨_,rfl,rfl⟩,?_⟩
          conv=>whnf
          exact SealV.same rfl (eBig.pureV _)
        · conv=>whnf
          refine callT_go (l:=[n_signed]) (by decide) 0 (c:=n_signed) rfl (true,l) ⟨hd,by show l.length < _; omega⟩ ?_ ?_ ?_
          · exact ⟨trivial,by show (nd A + nd B) * 1 = ((eInt .u32).l l).len; rw [Enc.len_l,hl]; rfl,trivial⟩
          · show AV.cons _ (.cons (.ro l.length _) .nil) = AV.cons _ (.cons (.ro (nd A + nd B) _) .nil)
            rw [hl]; rfl
          conv=>whnf
          repeat refine ⟨⟨_,rfl,rfl⟩,?_⟩
          conv=>whnf
          exact SealV.same rfl (eBig.pureV _)
        · conv=>whnf
          refine callT_go (l:=[n_signed]) (by decide) 0 (c:=n_signed) rfl (true,l) ⟨hd,by show l.length < _; omega⟩ ?_ ?_ ?_
          · exact ⟨trivial,by show (nd A + nd B) * 1 = ((eInt .u32).l l).len; rw [Enc.len_l,hl]; rfl,trivial⟩
          · show AV.cons _ (.cons (.ro l.length _) .nil) = AV.cons _ (.cons (.ro (nd A + nd B) _) .nil)
            rw [hl]; rfl
          conv=>whnf
          repeat refine ⟨⟨_,rfl,rfl⟩,?_⟩
          conv=>whnf
          exact SealV.same rfl (eBig.pureV _)
        · conv=>whnf
          refine callT_go (l:=[n_signed]) (by decide) 0 (c:=n_signed) rfl (false,l) ⟨hd,by show l.length < _; omega⟩ ?_ ?_ ?_
          · exact ⟨trivial,by show (nd A + nd B) * 1 = ((eInt .u32).l l).len; rw [Enc.len_l,hl]; rfl,trivial⟩
          · show AV.cons _ (.cons (.ro l.length _) .nil) = AV.cons _ (.cons (.ro (nd A + nd B) _) .nil)
            rw [hl]; rfl
          conv=>whnf
          repeat refine ⟨⟨_,rfl,rfl⟩,?_⟩
          conv=>whnf
          exact SealV.same rfl (eBig.pureV _)
    · intro y hy; rw [List.eq_of_mem_replicate hy]; omega
    · intro j hj _; simp
    · refine Sub.of [(pathOf 64,some (pathOf 64)),(pathOf 65,some (pathOf 65)),(pathOf 66,some (pathOf 66)),(pathOf 67,some (pathOf 67))] [] rfl rfl rfl ⟨rfl,rfl,rfl,⟨rfl,rfl⟩,⟨rfl,rfl⟩,congrArg Int.ofNat la,rfl,trivial⟩ ⟨⟨rfl,rfl,trivial,rfl,trivial,⟨rfl,rfl⟩,trivial⟩,⟨rfl,rfl,trivial,rfl,trivial,⟨rfl,rfl⟩,trivial⟩,⟨rfl,rfl,trivial⟩,⟨rfl,rfl,(eInt .u32).pureL _⟩,trivial⟩
theorem big_mul (a b : Int) : sgn (decide (a < 0) != decide (b < 0)) (a.natAbs * b.natAbs) = a * b:=by
  rw [← Int.natAbs_mul]
  rcases Int.lt_or_le a 0 with h1 | h1 <;> rcases Int.lt_or_le b 0 with h2 | h2
  · rw [decide_eq_true h1,decide_eq_true h2]
    have:=Int.mul_pos_of_neg_of_neg h1 h2
    simp only [sgn,bne_self_eq_false]; omega
  · rw [decide_eq_true h1,decide_eq_false (by omega)]
    have:=Int.mul_nonpos_of_nonpos_of_nonneg (Int.le_of_lt h1) h2
    show -(((a * b).natAbs : Nat) : Int) = _
    omega
  · rw [decide_eq_false (by omega),decide_eq_true h2]
    have:=Int.mul_nonpos_of_nonneg_of_nonpos h1 (Int.le_of_lt h2)
    show -(((a * b).natAbs : Nat) : Int) = _
    omega
  · rw [decide_eq_false (show ¬ a < 0 by omega),decide_eq_false (show ¬ b < 0 by omega)]
    have:=Int.mul_nonneg h1 h2
    simp only [sgn,bne_self_eq_false]; omega
def SH (z : Int) : Prop:=nd z.natAbs < 67108864
theorem c_Mul (a b : Int) (ha : SH a) (hb : SH b) : PFp 216 (.cons (eBig.v a) (.cons (eBig.v b) .nil)) (eBig.v (a * b)):=by
  have:=c_Mul' (decide (a < 0)) (decide (b < 0)) a.natAbs b.natAbs ha hb
  rw [big_mul] at this
  exact this
noncomputable def n_Mul : Cn Tryz.prog:=.of2 eBig eBig eBig 216 false (fun a b=>SH a∧SH b) (fun a b=>a * b) (fun e=>by cases e) (fun a b h=>c_Mul a b h.1 h.2) (hasbody rfl rfl)
end Go.Sy
namespace Go.Sy
open Go.RowKit Go.Proofs
set_option linter.unusedVariables false
set_option maxRecDepth 1000000
set_option maxHeartbeats 0
attribute [local irreducible] Cw SealV SealL PF Sub
attribute [local instance] tb0
theorem c_From (n : Int) (h1 : -9223372036854775808 ≤ n) (h2 : n < 9223372036854775808) : PFp 218 (.cons ((eInt .i64).v n) .nil) (eBig.v n):=by
  refine PF.of_wp (c:=_) p_mixed (by decide) (fn:=Tryz.f218) rfl rfl rfl ?_ (call:=callT [n_signed]) (fun B0=>callT_ok p_callable [n_signed] B0) ?_
  · exact .cons .int .nil
  · intro B0
    conv=>whnf
    refine bSplit (fun h=>?_) (fun h=>?_)
    · have hn:=ilt_iff.1 h
      have eu : iwrap .u64 (Int.sub 0 (iwrap .u64 n)) = ((n.natAbs : Nat) : Int):=by
        rw [wrap_u64 n,wrap_u64]
        show ((0 : Int) - n % 18446744073709551616) % 18446744073709551616 = _
        omega
      conv=>whnf
      refine ⟨⟨by rw [eu]; omega,by decide⟩,?_⟩
      conv=>whnf
      have hl : [iwrap .u32 (iwrap .u64 (Int.sub 0 (iwrap .u64 n))),iwrap .u32 (Int.ofNat (Nat.div (iwrap .u64 (Int.sub 0 (iwrap .u64 n))).toNat 4294967296))] = [((n.natAbs % 4294967296 : Nat) : Int),((n.natAbs / 4294967296 : Nat) : Int)]:=by
        rw [eu,wrap_u32]
        congr 1
        congr 1
        exact iwrap_u32 (n:=((n.natAbs / 4294967296 : Nat) : Int)) (by omega) (by omega)
      refine callT_go (l:=[n_signed]) (by decide) 0 (c:=n_signed) rfl (ilt n 0,[iwrap .u32 (iwrap .u64 (Int.sub 0 (iwrap .u64 n))),iwrap .u32 (Int.ofNat (Nat.div (iwrap .u64 (Int.sub 0 (iwrap .u64 n))).toNat 4294967296))]) ⟨?_,by show (2 : Nat) < _; omega⟩ ?_ ?_ ?_
      · rw [hl]
        exact DG.cons.2 ⟨by omega,DG.cons.2 ⟨by omega,.nil⟩⟩
      · exact ⟨trivial,rfl,trivial⟩
      · rfl
      conv=>whnf
      repeat refine ⟨⟨_,rfl,rfl⟩,?_⟩
      conv=>whnf
      refine SealV.same (congrArg eBig.v (a₁:=sgn (ilt n 0) (val [iwrap .u32 (iwrap .u64 (Int.sub 0 (iwrap .u64 n))),iwrap .u32 (Int.ofNat (Nat.div (iwrap .u64 (Int.sub 0 (iwrap .u64 n))).toNat 4294967296))])) ?_) (eBig.pureV _)
      rw [hl,h]
      show -((((n.natAbs % 4294967296 : Nat) : Int).toNat + 4294967296 * (((n.natAbs / 4294967296 : Nat) : Int).toNat + 4294967296 * 0) : Nat) : Int) = n
      omega
    · have hn:=ilt_no.1 h
      have eu : iwrap .u64 n = ((n.natAbs : Nat) : Int):=by rw [iwrap_u64 hn (by omega)]; omega
      conv=>whnf
      refine ⟨⟨by rw [eu]; omega,by decide⟩,?_⟩
      conv=>whnf
      have hl : [iwrap .u32 (iwrap .u64 n),iwrap .u32 (Int.ofNat (Nat.div (iwrap .u64 n).toNat 4294967296))] = [((n.natAbs % 4294967296 : Nat) : Int),((n.natAbs / 4294967296 : Nat) : Int)]:=by
        rw [eu,wrap_u32]
        congr 1
        congr 1
        exact iwrap_u32 (n:=((n.natAbs / 4294967296 : Nat) : Int)) (by omega) (by omega)
      refine callT_go (l:=[n_signed]) (by decide) 0 (c:=n_signed) rfl (ilt n 0,[iwrap .u32 (iwrap .u64 n),iwrap .u32 (Int.ofNat (Nat.div (iwrap .u64 n).toNat 4294967296))]) ⟨?_,by show (2 : Nat) < _; omega⟩ ?_ ?_ ?_
      · rw [hl]
        exact DG.cons.2 ⟨by omega,DG.cons.2 ⟨by omega,.nil⟩⟩
      · exact ⟨trivial,rfl,trivial⟩
      · rfl
      conv=>whnf
      repeat refine ⟨⟨_,rfl,rfl⟩,?_⟩
      conv=>whnf
      refine SealV.same (congrArg eBig.v (a₁:=sgn (ilt n 0) (val [iwrap .u32 (iwrap .u64 n),iwrap .u32 (Int.ofNat (Nat.div (iwrap .u64 n).toNat 4294967296))])) ?_) (eBig.pureV _)
      rw [hl,h]
      show ((((n.natAbs % 4294967296 : Nat) : Int).toNat + 4294967296 * (((n.natAbs / 4294967296 : Nat) : Int).toNat + 4294967296 * 0) : Nat) : Int) = n
      omega
noncomputable def n_From : Cn Tryz.prog:=.of1 (eInt .i64) eBig 218 false (fun n=>-9223372036854775808 ≤ n∧n < 9223372036854775808) (fun n=>n) (fun e=>by cases e) (fun n h=>c_From n h.1 h.2) (hasbody rfl rfl)
end Go.Sy
namespace Go.Sy
open Go.RowKit Go.Proofs
set_option linter.unusedVariables false
set_option maxRecDepth 1000000
set_option maxHeartbeats 0
attribute [local irreducible] Cw SealV SealL PF Sub
attribute [local instance] tb0
theorem short_step {m d i r x q : Nat} (hd : 0 < d) (hr : r = m / 4294967296 ^ (i + 1) % d) (hx : x = m / 4294967296 ^ i % 4294967296) (hq : q = m / 4294967296 ^ (i + 1) / d) :
    (r * 4294967296 + x) / d + 4294967296 * q = m / 4294967296 ^ i / d∧(r * 4294967296 + x) % d = m / 4294967296 ^ i % d∧(d < 4294967296 → (r * 4294967296 + x) / d < 4294967296):=by
  have h1 : m / 4294967296 ^ i = m / 4294967296 ^ (i + 1) * 4294967296 + x:=by
    rw [hx,Nat.pow_succ,← Nat.div_div_eq_div_mul]; omega
  have h2 : m / 4294967296 ^ (i + 1) = d * q + r:=by rw [hq,hr]; exact (Nat.div_add_mod _ _).symm
  have h3 : m / 4294967296 ^ i = (r * 4294967296 + x) + d * (4294967296 * q):=by
    rw [h1,h2,Nat.add_mul,Nat.mul_assoc,Nat.mul_comm q]; omega
  refine ⟨?_,?_,fun hlt=>?_⟩
  · rw [h3,Nat.add_mul_div_left _ _ hd]
  · rw [h3,Nat.add_mul_mod_self_left]
  · rw [Nat.div_lt_iff_lt_mul hd]
    have hr' : r < d:=by rw [hr]; exact Nat.mod_lt _ hd
    have hx' : x < 4294967296:=by rw [hx]; exact Nat.mod_lt _ (by decide)
    have : (r + 1) * 4294967296 ≤ d * 4294967296:=Nat.mul_le_mul_right _ hr'
    omega
theorem set_front {n : Nat} {q : List Int} {x : Int} : (List.replicate (n + 1) (0 : Int)++q).set n x = List.replicate n 0++(x::q):=by
  rw [List.replicate_succ',List.append_assoc,List.set_append_right _ _ (by simp)]
  simp
theorem lor_add {r x : Nat} (hx : x < 4294967296) : Nat.lor (r * 4294967296) x = r * 4294967296 + x:=by
  have:=Nat.two_pow_add_eq_or_of_lt (i:=32) (b:=x) hx r
  rw [Nat.mul_comm r]
  exact this.symm
theorem c_short (m d : Nat) (hm : nd m < 134217728) (hd : 0 < d) (hdw : d < 4294967296) : PFp 223 (.cons (eMag.v m) (.cons ((eInt .u32).v d) .nil)) (.tup (.cons (eMag.v (m / d)) (.cons ((eInt .u32).v ((m % d : Nat) : Int)) .nil))):=by
  refine PF.of_wp (c:=_) p_mixed (by decide) (fn:=Tryz.f223) rfl rfl rfl ?_ (call:=callT [n_trim]) (fun B0=>callT_ok p_callable [n_trim] B0) ?_
  · exact .cons (eMag.pureV _) (.cons .int .nil)
  · intro B0
    have lm:=dg_length m
    conv=>whnf
    have e0 : Int.ofNat (dg m).length = ((nd m : Nat) : Int):=congrArg Int.ofNat lm
    refine (eInt .u32).mk' (x:=0) (nd m) (nd m) e0 e0 (Nat.le_refl _) (by show nd m * (4 + 1) ≤ _; omega) ?_
    conv=>whnf
    refine Cw.loop (ι:=Nat × List Int × Nat)
      (fun q=>regsT [(0,eMag.v m),(1,.int .u32 d),(6,.gs (pathOf 64) (nd m) 1),(7,.int .u64 q.2.2),(8,.int .i64 ((q.1 : Int) - 1))]) (fun _=>[])
      (fun q=>⟨heapT [(pathOf 64,.gl ((eInt .u32).l (List.replicate q.1 0++q.2.1)) false)],pathOf 65⟩)
      (fun q=>q.1 ≤ nd m∧q.1 + q.2.1.length = nd m∧DG q.2.1∧q.2.2 = m / 4294967296 ^ q.1 % d∧val q.2.1 = m / 4294967296 ^ q.1 / d)
      (fun q=>q.1) ?_ (nd m,[],0) ⟨Nat.le_refl _,rfl,.nil,?_,?_⟩ ?_
    · rintro ⟨j,q,r⟩ ⟨hj,hl,hq,hr,hv⟩
      simp only at hj hl hq hr hv
      refine wp_sound p_mixed rfl rfl (callT_ok p_callable [n_trim] B0) _ ?_
      conv=>whnf
      refine bSplit (fun h=>?_) (fun h=>?_)
      · have h:=ile_iff.1 h
        obtain ⟨i,rfl⟩ : ∃ i,j = i + 1:=⟨j - 1,by omega⟩
        have hi : i < (dg m).length:=by omega
        have hx:=dg_getElem hi
        have ei : (((i + 1 : Nat) : Int) - 1) = (i : Int):=by omega
        have hrd : r < d:=by rw [hr]; exact Nat.mod_lt _ hd
        obtain ⟨s1,s2,s3⟩:=short_step hd hr rfl hv
        have s3:=s3 hdw
        have hxw : m / 4294967296 ^ i % 4294967296 < 4294967296:=Nat.mod_lt _ (by decide)
        have esh : iwrap .u64 (Int.mul (r : Int) 4294967296) = ((r * 4294967296 : Nat) : Int):=iwrap_u64 (n:=(r : Int) * 4294967296) (by omega) (by omega)
        have ex : iwrap .u64 (dg m)[i] = ((m / 4294967296 ^ i % 4294967296 : Nat) : Int):=by rw [hx]; exact iwrap_u64 (by omega) (by omega)
        have eor : Int.ofNat (Nat.lor (iwrap .u64 (Int.mul (r : Int) 4294967296)).toNat (iwrap .u64 (dg m)[i]).toNat) = ((r * 4294967296 + m / 4294967296 ^ i % 4294967296 : Nat) : Int):=by
          rw [esh,ex]
          exact congrArg Int.ofNat (lor_add hxw)
        conv=>whnf
        refine ⟨by decide,?_⟩
        conv=>whnf
        refine IdxP.go i ei hi ?_
        conv=>whnf
        refine ⟨_,(eInt .u32).rd rfl hi,?_⟩
        conv=>whnf
        refine ⟨⟨?_,?_,?_,?_⟩,?_⟩
        · show (0 : Int) ≤ iwrap .u64 (Int.mul (r : Int) 4294967296)
          rw [esh]; omega
        · show fits .u64 (iwrap .u64 (Int.mul (r : Int) 4294967296)) = true
          rw [esh]; exact fits_iff.2 ⟨by show -(0 : Int) ≤ _; omega,by show _ < (18446744073709551616 : Int); omega⟩
        · rw [ex]; omega
        · rw [ex]; exact fits_iff.2 ⟨by show -(0 : Int) ≤ _; omega,by show _ < (18446744073709551616 : Int); omega⟩
        have ed : iwrap .u64 (d : Int) = (d : Int):=iwrap_u64 (by omega) (by omega)
        have hRb : r * 4294967296 + m / 4294967296 ^ i % 4294967296 < 18446744073709551616:=by omega
        generalize hR : r * 4294967296 + m / 4294967296 ^ i % 4294967296 = R at *
        have hRq : R / d ≤ R:=Nat.div_le_self _ _
        have hRr : R % d < d:=Nat.mod_lt _ hd
        have eq0 : Int.tdiv (Int.ofNat (Nat.lor (iwrap .u64 (Int.mul (r : Int) 4294967296)).toNat (iwrap .u64 (dg m)[i]).toNat)) (iwrap .u64 (d : Int)) = ((R / d : Nat) : Int):=by rw [eor,ed,← Int.ofNat_tdiv]
        have er : Int.tmod (Int.ofNat (Nat.lor (iwrap .u64 (Int.mul (r : Int) 4294967296)).toNat (iwrap .u64 (dg m)[i]).toNat)) (iwrap .u64 (d : Int)) = ((R % d : Nat) : Int):=by
          rw [eor,ed,← Int.ofNat_tmod]
        generalize R / d = Q at *
        generalize R % d = T at *
        have eq1 : iwrap .u32 (iwrap .u64 (Int.tdiv (Int.ofNat (Nat.lor (iwrap .u64 (Int.mul (r : Int) 4294967296)).toNat (iwrap .u64 (dg m)[i]).toNat)) (iwrap .u64 (d : Int)))) = (Q : Int):=by
          rw [eq0,iwrap_u64 (by omega) (by omega),iwrap_u32 (by omega) (by omega)]
        conv=>whnf
        refine ⟨by rw [ed]; omega,?_⟩
        conv=>whnf
        refine IdxP.go i ei (by omega) ?_
        conv=>whnf
        refine (eInt .u32).st (xs:=List.replicate (i + 1) 0++q) (i:=i) _ (by simp; omega) ?_
        conv=>whnf
        refine ⟨by rw [ed]; omega,?_⟩
        conv=>whnf
        refine ⟨(i,(Q : Int)::q,T),⟨by show i ≤ nd m; omega,by show i + (q.length + 1) = nd m; omega,DG.cons.2 ⟨by omega,hq⟩,s2,?_⟩,by show i < i + 1; omega,?_⟩
        · show (Q : Int).toNat + 4294967296 * val q = _
          rw [← s1]; rfl
        · refine Sub.of [(pathOf 64,some (pathOf 64))] [] rfl rfl rfl ⟨⟨rfl,rfl⟩,rfl,⟨rfl,rfl⟩,er,?_,trivial⟩ ⟨⟨?_,rfl,(eInt .u32).pureL _⟩,trivial⟩
          · show iwrap .i64 (((i + 1 : Nat) : Int) - 1 - 1) = (i : Int) - 1
            rw [iwrap_i64 (by omega) (by omega)]; omega
          · show (eInt .u32).l ((List.replicate (i + 1) 0++q).set i (iwrap .u32 (iwrap .u64 (Int.tdiv (Int.ofNat (Nat.lor (iwrap .u64 (Int.mul (r : Int) 4294967296)).toNat (iwrap .u64 (dg m)[i]).toNat)) (iwrap .u64 (d : Int)))))) = (eInt .u32).l (List.replicate i 0++_)
            rw [eq1,set_front]
      · have h:=ile_no.1 h
        have hj0 : j = 0:=by simp only at h; omega
        subst hj0
        have hv : val q = m / d:=by simpa using hv
        have hr : r = m % d:=by simpa using hr
        conv=>whnf
        refine callT_go (l:=[n_trim]) (by decide) 0 (c:=n_trim) rfl q ⟨hq,by omega⟩ ?_ ?_ ?_
        · exact ⟨by show nd m * 1 = ((eInt .u32).l q).len; rw [Enc.len_l]; show nd m * 1 = q.length * 1; omega,trivial⟩
        · show AV.cons (.ro q.length _) .nil = AV.cons (.ro (nd m) _) .nil
          rw [show q.length = nd m by omega]; rfl
        conv=>whnf
        repeat refine ⟨⟨_,rfl,rfl⟩,?_⟩
        conv=>whnf
        rw [← hv,← hr]
        refine SealV.same ?_ (.tup (.cons (eMag.pureV _) (.cons .int .nil)))
        show AV.tup (.cons (eMag.v (val q)) (.cons (.int .u32 (iwrap .u32 (r : Int))) .nil)) = _
        rw [iwrap_u32 (by omega) (by rw [hr]; have:=Nat.mod_lt m hd; omega)]
        rfl
    · show 0 = _; rw [Nat.div_eq_of_lt (lt_nd m),Nat.zero_mod]
    · show 0 = _; rw [Nat.div_eq_of_lt (lt_nd m),Nat.zero_div]
    · refine Sub.of [(pathOf 64,some (pathOf 64))] [] rfl rfl rfl ⟨⟨rfl,rfl⟩,rfl,⟨rfl,rfl⟩,rfl,?_,trivial⟩ ⟨⟨?_,rfl,(eInt .u32).pureL _⟩,trivial⟩
      · show iwrap .i64 (((dg m).length : Int) - 1) = _
        rw [lm,iwrap_i64 (by omega) (by omega)]
      · simp
noncomputable def n_short : Cn Tryz.prog:=.of2t eMag (eInt .u32) eMag (eInt .u32) 223 (fun m d=>nd m < 134217728∧0 < d∧d < 4294967296) (fun m d=>m / d.toNat) (fun m d=>((m % d.toNat : Nat) : Int)) (fun m d h=>by
  obtain ⟨n,rfl⟩:=Int.eq_ofNat_of_zero_le (Int.le_of_lt h.2.1)
  exact c_short m n h.1 (by omega) (by omega)) (hasbody rfl rfl)
end Go.Sy
namespace Go.Sy
open Go.RowKit Go.Proofs
set_option linter.unusedVariables false
set_option maxRecDepth 1000000
set_option maxHeartbeats 0
attribute [local irreducible] Cw SealV SealL PF Sub
attribute [local instance] tb0
noncomputable def tDiv : List (Cn Tryz.prog):=[n_order,n_short,n_trim]
def DivOK (a b : Nat) : Prop:=nd a < 134217728∧nd b < 134217728∧0 < b∧(a < b ∨ b < 4294967296)
theorem nd_one {b : Nat} (h : 0 < b) (h2 : b < 4294967296) : nd b = 1:=by
  apply Nat.le_antisymm
  · exact nd_le (by omega)
  · rw [nd_pos (by omega)]; omega
theorem c_divide (a b : Nat) (h : DivOK a b) : PFp 189 (.cons (eMag.v a) (.cons (eMag.v b) .nil)) (.tup (.cons (eMag.v (a / b)) (.cons (eMag.v (a % b)) .nil))):=by
  obtain ⟨ha,hb,h0,hc⟩:=h
  refine PF.of_wp (c:=_) p_mixed (by decide) (fn:=Tryz.f189) rfl rfl rfl ?_ (call:=callT tDiv) (fun B0=>callT_ok p_callable tDiv B0) ?_
  · exact .cons (eMag.pureV _) (.cons (eMag.pureV _) .nil)
  · intro B0
    have lb:=dg_length b
    conv=>whnf
    refine callT_go (l:=tDiv) (by decide) 0 (c:=n_order) rfl (a,b) ⟨by show nd a < _; omega,by show nd b < _; omega⟩ ?_ ?_ ?_
    · exact ⟨trivial,trivial,trivial⟩
    · rfl
    conv=>whnf
    refine bSplit (fun h=>?_) (fun h=>?_)
    · have h : cmpN a b < 0:=ilt_iff.1 h
      have hlt : a < b:=by
        unfold cmpN at h
        split at h
        · assumption
        · split at h <;> omega
      rw [Nat.div_eq_of_lt hlt,Nat.mod_eq_of_lt hlt]
      conv=>whnf
      exact SealV.tup (.cons SealV.nils (.cons (SealV.pure (eMag.pureV _)) .nil))
    · have h : 0 ≤ cmpN a b:=ilt_no.1 h
      have hle : b ≤ a:=by
        unfold cmpN at h
        split at h
        · omega
        · omega
      have hw : b < 4294967296:=by omega
      have hn:=nd_one h0 hw
      conv=>whnf
      refine bSplit (fun h1=>?_) (fun h1=>?_)
      · have hi : 0 < (dg b).length:=by omega
        have hx:=dg_getElem hi
        rw [Nat.pow_zero,Nat.div_one,Nat.mod_eq_of_lt hw] at hx
        conv=>whnf
        refine IdxP.go 0 rfl hi ?_
        conv=>whnf
        refine ⟨_,(eInt .u32).rd rfl hi,?_⟩
        conv=>whnf
        rw [hx]
        refine callT_go (l:=tDiv) (by decide) 1 (c:=n_short) rfl (a,(b : Int)) ⟨ha,by show (0 : Int) < (b : Int); omega,by show (b : Int) < _; omega⟩ ?_ ?_ ?_
        · exact ⟨trivial,trivial,trivial⟩
        · rfl
        conv=>whnf
        repeat refine ⟨⟨_,rfl,rfl⟩,?_⟩
        conv=>whnf
        have hm : a % b < b:=Nat.mod_lt _ h0
        refine callT_go (l:=tDiv) (by decide) 2 (c:=n_trim) rfl [((a % b : Nat) : Int)] ⟨DG.cons.2 ⟨by omega,.nil⟩,by show (1 : Nat) < _; omega⟩ ?_ ?_ ?_
        · exact ⟨rfl,trivial⟩
        · rfl
        conv=>whnf
        repeat refine ⟨⟨_,rfl,rfl⟩,?_⟩
        conv=>whnf
        refine SealV.same ?_ (.tup (.cons (eMag.pureV _) (.cons (eMag.pureV _) .nil)))
        show AV.tup (.cons (eMag.v (a / b)) (.cons (eMag.v (a % b + 4294967296 * 0)) .nil)) = _
        rfl
      · exfalso
        have h1:=ieq_no.1 h1
        apply h1
        rw [lb,hn]; rfl
noncomputable def n_divide : Cn Tryz.prog:=.of2t eMag eMag eMag eMag 189 DivOK (fun a b=>a / b) (fun a b=>a % b) c_divide (hasbody rfl rfl)
def GcdOK (a b : Int) : Prop:=SZ a∧SZ b∧(b.natAbs < 4294967296 ∨ a.natAbs < 4294967296)
theorem c_Gcd (a b : Int) (h : GcdOK a b) : PFp 149 (.cons (eBig.v a) (.cons (eBig.v b) .nil)) (eBig.v (Nat.gcd a.natAbs b.natAbs)):=by
  obtain ⟨ha,hb,hc⟩:=h
  unfold SZ at ha hb
  refine PF.of_wp (c:=_) p_mixed (by decide) (fn:=Tryz.f149) rfl rfl rfl ?_ (call:=callT [n_divide]) (fun B0=>callT_ok p_callable [n_divide] B0) ?_
  · exact .cons (eBig.pureV _) (.cons (eBig.pureV _) .nil)
  · intro B0
    rw [eBig_v a,eBig_v b]
    generalize a.natAbs = A at *
    generalize b.natAbs = B at *
    conv=>whnf
    refine Cw.loop (ι:=Nat × Nat)
      (fun q=>regsT [(4,.ptr (pathOf 66) 0),(5,eMag.v q.1),(6,eMag.v q.2)]) (fun _=>[])
      (fun q=>⟨heapT [(pathOf 66,.cells (regsT [(0,.bool false),(1,.nils)]) 2 false)],pathOf 67⟩)
      (fun q=>nd q.1 < 134217728∧nd q.2 < 134217728∧(q.2 < 4294967296 ∨ (q.1 < q.2∧q.1 < 4294967296))∧Nat.gcd q.1 q.2 = Nat.gcd A B)
      (fun q=>q.2) ?_ (A,B) ⟨ha,hb,?_,rfl⟩ ?_
    · rintro ⟨x,y⟩ ⟨hx,hy,hc,hg⟩
      simp only at hx hy hc hg
      refine wp_sound p_mixed rfl rfl (callT_ok p_callable [n_divide] B0) _ ?_
      conv=>whnf
      refine bSplit (fun h=>?_) (fun h=>?_)
      · rw [show ilt 0 (Int.ofNat (dg (x,y).snd).length) = decide (0 < y) from len_dg_pos] at h
        have h0:=of_decide_eq_true h
        have hm:=Nat.mod_lt x h0
        conv=>whnf
        refine callT_go (l:=[n_divide]) (by decide) 0 (c:=n_divide) rfl (x,y) ⟨hx,hy,h0,by show x < y ∨ y < 4294967296; omega⟩ ?_ ?_ ?_
        · exact ⟨trivial,trivial,trivial⟩
        · rfl
        conv=>whnf
        repeat refine ⟨⟨_,rfl,rfl⟩,?_⟩
        conv=>whnf
        refine ⟨(y,x % y),⟨hy,Nat.lt_of_le_of_lt (nd_mono (Nat.le_of_lt hm)) hy,?_,?_⟩,hm,?_⟩
        · left
          show x % y < 4294967296
          rcases hc with hc | ⟨h1,h2⟩
          · omega
          · rw [Nat.mod_eq_of_lt h1]; exact h2
        · show Nat.gcd y (x % y) = _
          rw [← hg,Nat.gcd_comm x y,Nat.gcd_rec y x,Nat.gcd_comm]
        · refine Sub.of [(pathOf 66,some (pathOf 66))] [] rfl rfl rfl ⟨rfl,⟨rfl,rfl⟩,⟨rfl,rfl⟩,trivial⟩ ⟨⟨rfl,rfl,trivial,rfl,trivial,trivial,trivial⟩,trivial⟩
      · rw [show ilt 0 (Int.ofNat (dg (x,y).snd).length) = decide (0 < y) from len_dg_pos] at h
        have h0 : y = 0:=by have:=of_decide_eq_false h; omega
        subst h0
        rw [Nat.gcd_zero_right] at hg
        rw [← hg]
        conv=>whnf
        refine SealV.same ?_ (eBig.pureV _)
        rfl
    · show B < 4294967296 ∨ (A < B∧A < 4294967296)
      omega
    · refine Sub.of [(pathOf 66,some (pathOf 66))] [] rfl rfl rfl ⟨rfl,⟨rfl,rfl⟩,⟨rfl,rfl⟩,trivial⟩ ⟨⟨rfl,rfl,trivial,rfl,trivial,trivial,trivial⟩,trivial⟩
noncomputable def n_Gcd : Cn Tryz.prog:=.of2 eBig eBig eBig 149 false GcdOK (fun a b=>(Nat.gcd a.natAbs b.natAbs : Nat)) (fun e=>by cases e) c_Gcd (hasbody rfl rfl)
end Go.Sy
namespace Go.Sy
open Go.RowKit Go.Proofs
set_option linter.unusedVariables false
set_option linter.unusedSimpArgs false
set_option maxRecDepth 1000000
set_option maxHeartbeats 0
attribute [local irreducible] Cw SealV SealL PF Sub
attribute [local instance] tb0
theorem c_signedM (neg : Bool) (m : Nat) (h : nd m < 4294967296) : PFp 262 (.cons (eBool.v neg) (.cons (eMag.v m) .nil)) (eBig.v (sgn neg m)):=by
  have:=c_signed neg (dg m) (dg_DG m) (by rw [dg_length]; exact h)
  rw [val_dg] at this
  exact this
noncomputable def n_signedM : Cn Tryz.prog:=.of2 eBool eMag eBig 262 false (fun _ m=>nd m < 4294967296) sgn (fun e=>by cases e) c_signedM (hasbody rfl rfl)
noncomputable def tDivMod : List (Cn Tryz.prog):=[n_Sign,n_divide,n_signedM,n_From,n_Sub,n_Add]
def DMOK (a b : Int) : Prop:=SZ a∧SZ b∧(b = 0 ∨ a.natAbs < b.natAbs ∨ b.natAbs < 4294967296)
def dmQ (a b : Int) : Int:=if b = 0 then 0 else Int.fdiv a b
def dmR (a b : Int) : Int:=if b = 0 then 0 else Int.fmod a b
def dmE (a b : Int) : Int:=if b = 0 then 19 else 0
theorem dm_pos {a b q r : Int} (h : 0 < b) (h1 : r + b * q = a) (h2 : 0 ≤ r) (h3 : r < b) : dmQ a b = q∧dmR a b = r∧dmE a b = 0:=by
  have:=(Int.fdiv_fmod_unique h).2 ⟨h1,h2,h3⟩
  unfold dmQ dmR dmE
  rw [if_neg (by omega),if_neg (by omega),if_neg (by omega)]
  exact ⟨this.1,this.2,rfl⟩
theorem dm_neg {a b q r : Int} (h : b < 0) (h1 : r + b * q = a) (h2 : b < r) (h3 : r ≤ 0) : dmQ a b = q∧dmR a b = r∧dmE a b = 0:=by
  have:=(Int.fdiv_fmod_unique' h).2 ⟨h1,h2,h3⟩
  unfold dmQ dmR dmE
  rw [if_neg (by omega),if_neg (by omega),if_neg (by omega)]
  exact ⟨this.1,this.2,rfl⟩
theorem sgn_zero {s : Bool} {m : Nat} : ieq (Int.sign (sgn s m)) 0 = true ↔ m = 0:=by
  rw [ieq_iff,Int.sign_eq_zero_iff_zero]
  cases s <;> simp [sgn]
theorem sgn_lt {s : Bool} {m : Nat} (h : m ≠ 0) : decide (sgn s m < 0) = s:=by
  cases s
  · exact decide_eq_false (by simp only [sgn]; omega)
  · exact decide_eq_true (by simp only [sgn]; omega)
theorem mul_sgn {b : Int} {s : Bool} (hb : decide (b < 0) = s) (x : Bool) (q : Nat) : b * sgn x q = sgn (x != s) (b.natAbs * q):=by
  subst hb
  rcases Int.lt_or_le b 0 with h | h
  · obtain ⟨n,hn⟩ : ∃ n : Nat,b = -(n : Int):=⟨b.natAbs,by omega⟩
    subst hn
    rw [decide_eq_true h]
    cases x <;> simp [sgn,Int.neg_mul,Int.mul_neg]
  · obtain ⟨n,rfl⟩:=Int.eq_ofNat_of_zero_le h
    rw [decide_eq_false (by omega)]
    cases x <;> simp [sgn,Int.neg_mul,Int.mul_neg]
theorem SZ_sgn {s : Bool} {m : Nat} (h : nd m < 134217728) : SZ (sgn s m):=by unfold SZ; rw [sgn_abs]; exact h
theorem SZ_one : SZ 1:=by unfold SZ; decide
theorem c_DivMod (a b : Int) (h : DMOK a b) : PFp 281 (.cons (eBig.v a) (.cons (eBig.v b) .nil)) (.tup (.cons (eBig.v (dmQ a b)) (.cons (eBig.v (dmR a b)) (.cons ((eInt .i64).v (dmE a b)) .nil)))):=by
  obtain ⟨ha,hb,hc⟩:=h
  unfold SZ at ha hb
  refine PF.of_wp (c:=_) p_mixed (by decide) (fn:=Tryz.f281) rfl rfl rfl ?_ (call:=callT tDivMod) (fun B0=>callT_ok p_callable tDivMod B0) ?_
  · exact .cons (eBig.pureV _) (.cons (eBig.pureV _) .nil)
  · intro B0
    by_cases h0 : b = 0
    · subst h0
      conv=>whnf
      refine callT_go (l:=tDivMod) (by decide) 0 (c:=n_Sign) rfl (0 : Int) trivial ?_ ?_ ?_
      · exact ⟨⟨trivial,trivial,trivial⟩,trivial⟩
      · rfl
      conv=>whnf
      repeat refine ⟨⟨_,rfl,rfl⟩,?_⟩
      conv=>whnf
      refine SealV.tup (.cons ?_ (.cons ?_ (.cons (SealV.pure .int) .nil)))
      · exact SealV.agg (.cons (SealV.pure .bool) (.cons SealV.nils .nil))
      · exact SealV.agg (.cons (SealV.pure .bool) (.cons SealV.nils .nil))
    have hB : 0 < b.natAbs:=by omega
    have hQ : nd (a.natAbs / b.natAbs) ≤ nd a.natAbs:=nd_mono (Nat.div_le_self _ _)
    have hRl : nd (a.natAbs % b.natAbs) ≤ nd a.natAbs:=nd_mono (Nat.mod_le _ _)
    have hRb:=Nat.mod_lt a.natAbs hB
    have hdm:=Nat.div_add_mod a.natAbs b.natAbs
    rcases Int.lt_or_le a 0 with hna | hna <;> rcases Int.lt_or_le b 0 with hnb | hnb
    · rw [eBig_v a,eBig_v b,decide_eq_true (show a < 0 by omega),decide_eq_true (show b < 0 by omega)]
      have hmul : b * sgn false (a.natAbs / b.natAbs) = -((b.natAbs * (a.natAbs / b.natAbs) : Nat) : Int):=mul_sgn (s:=true) (decide_eq_true (show b < 0 by omega)) false _
      conv=>whnf
      refine callT_go (l:=tDivMod) (by decide) 0 (c:=n_Sign) rfl b trivial ?_ ?_ ?_
      · exact ⟨⟨trivial,trivial,trivial⟩,trivial⟩
      · show AV.cons (eBig.v b) .nil = _; rw [eBig_v b,decide_eq_true (show b < 0 by omega)]; rfl
      conv=>whnf
      repeat refine ⟨⟨_,rfl,rfl⟩,?_⟩
      conv=>whnf
      refine bSplit (fun h=>?_) (fun h=>?_)
      · exact absurd (Int.sign_eq_zero_iff_zero.1 (ieq_iff.1 h)) h0
      conv=>whnf
      refine callT_go (l:=tDivMod) (by decide) 1 (c:=n_divide) rfl (a.natAbs,b.natAbs) ⟨ha,hb,hB,by show a.natAbs < b.natAbs ∨ b.natAbs < 4294967296; omega⟩ ?_ ?_ ?_
      · exact ⟨trivial,trivial,trivial⟩
      · rfl
      conv=>whnf
      repeat refine ⟨⟨_,rfl,rfl⟩,?_⟩
      conv=>whnf
      refine callT_go (l:=tDivMod) (by decide) 2 (c:=n_signedM) rfl (false,a.natAbs / b.natAbs) (by show nd (a.natAbs / b.natAbs) < _; omega) ?_ ?_ ?_
      · exact ⟨trivial,trivial,trivial⟩
      · rfl
      conv=>whnf
      repeat refine ⟨⟨_,rfl,rfl⟩,?_⟩
      conv=>whnf
      refine callT_go (l:=tDivMod) (by decide) 2 (c:=n_signedM) rfl (true,a.natAbs % b.natAbs) (by show nd (a.natAbs % b.natAbs) < _; omega) ?_ ?_ ?_
      · exact ⟨trivial,trivial,trivial⟩
      · rfl
      conv=>whnf
      repeat refine ⟨⟨_,rfl,rfl⟩,?_⟩
      conv=>whnf
      refine callT_go (l:=tDivMod) (by decide) 0 (c:=n_Sign) rfl (sgn true (a.natAbs % b.natAbs)) trivial ?_ ?_ ?_
      · exact ⟨⟨trivial,trivial,trivial⟩,trivial⟩
      · rfl
      conv=>whnf
      repeat refine ⟨⟨_,rfl,rfl⟩,?_⟩
      conv=>whnf
      refine bSplit (fun h1=>?_) (fun h1=>?_)
      · have hR : a.natAbs % b.natAbs ≠ 0:=fun e=>by rw [bnot_yes] at h1; rw [sgn_zero.2 e] at h1; cases h1
        conv=>whnf
        refine bSplit (fun h2=>?_) (fun h2=>?_)
        · exfalso
          have h3 : bnot (Bool.casesOn (motive:=fun _=>Bool) (decide (sgn true (a.natAbs % b.natAbs) < 0)) (bnot true) true) = true:=h2
          rw [sgn_lt hR] at h3
          cases h3
        · conv=>whnf
          repeat refine ⟨⟨_,rfl,rfl⟩,?_⟩
          conv=>whnf
          obtain ⟨e1,e2,e3⟩:=dm_neg (a:=a) (b:=b) (q:=sgn false (a.natAbs / b.natAbs)) (r:=sgn true (a.natAbs % b.natAbs)) (by omega) (by rw [hmul]; simp only [sgn]; omega) (by simp only [sgn]; omega) (by simp only [sgn]; omega)
          rw [e1,e2,e3]
          exact SealV.same rfl (.tup (.cons (eBig.pureV _) (.cons (eBig.pureV _) (.cons .int .nil))))
      · conv=>whnf
        repeat refine ⟨⟨_,rfl,rfl⟩,?_⟩
        conv=>whnf
        obtain ⟨e1,e2,e3⟩:=dm_neg (a:=a) (b:=b) (q:=sgn false (a.natAbs / b.natAbs)) (r:=sgn true (a.natAbs % b.natAbs)) (by omega) (by rw [hmul]; simp only [sgn]; omega) (by simp only [sgn]; omega) (by simp only [sgn]; omega)
        rw [e1,e2,e3]
        exact SealV.same rfl (.tup (.cons (eBig.pureV _) (.cons (eBig.pureV _) (.cons .int .nil))))
    · rw [eBig_v a,eBig_v b,decide_eq_true (show a < 0 by omega),decide_eq_false (show ¬ b < 0 by omega)]
      have hmul : b * sgn true (a.natAbs / b.natAbs) = -((b.natAbs * (a.natAbs / b.natAbs) : Nat) : Int):=mul_sgn (s:=false) (decide_eq_false (show ¬ b < 0 by omega)) true _
      conv=>whnf
      refine callT_go (l:=tDivMod) (by decide) 0 (c:=n_Sign) rfl b trivial ?_ ?_ ?_
      · exact ⟨⟨trivial,trivial,trivial⟩,trivial⟩
      · show AV.cons (eBig.v b) .nil = _; rw [eBig_v b,decide_eq_false (show ¬ b < 0 by omega)]; rfl
      conv=>whnf
      repeat refine ⟨⟨_,rfl,rfl⟩,?_⟩
      conv=>whnf
      refine bSplit (fun h=>?_) (fun h=>?_)
      · exact absurd (Int.sign_eq_zero_iff_zero.1 (ieq_iff.1 h)) h0
      conv=>whnf
      refine callT_go (l:=tDivMod) (by decide) 1 (c:=n_divide) rfl (a.natAbs,b.natAbs) ⟨ha,hb,hB,by show a.natAbs < b.natAbs ∨ b.natAbs < 4294967296; omega⟩ ?_ ?_ ?_
      · exact ⟨trivial,trivial,trivial⟩
      · rfl
      conv=>whnf
      repeat refine ⟨⟨_,rfl,rfl⟩,?_⟩
      conv=>whnf
      refine callT_go (l:=tDivMod) (by decide) 2 (c:=n_signedM) rfl (true,a.natAbs / b.natAbs) (by show nd (a.natAbs / b.natAbs) < _; omega) ?_ ?_ ?_
      · exact ⟨trivial,trivial,trivial⟩
      · rfl
      conv=>whnf
      repeat refine ⟨⟨_,rfl,rfl⟩,?_⟩
      conv=>whnf
      refine callT_go (l:=tDivMod) (by decide) 2 (c:=n_signedM) rfl (true,a.natAbs % b.natAbs) (by show nd (a.natAbs % b.natAbs) < _; omega) ?_ ?_ ?_
      · exact ⟨trivial,trivial,trivial⟩
      · rfl
      conv=>whnf
      repeat refine ⟨⟨_,rfl,rfl⟩,?_⟩
      conv=>whnf
      refine callT_go (l:=tDivMod) (by decide) 0 (c:=n_Sign) rfl (sgn true (a.natAbs % b.natAbs)) trivial ?_ ?_ ?_
      · exact ⟨⟨trivial,trivial,trivial⟩,trivial⟩
      · rfl
      conv=>whnf
      repeat refine ⟨⟨_,rfl,rfl⟩,?_⟩
      conv=>whnf
      refine bSplit (fun h1=>?_) (fun h1=>?_)
      · have hR : a.natAbs % b.natAbs ≠ 0:=fun e=>by rw [bnot_yes] at h1; rw [sgn_zero.2 e] at h1; cases h1
        conv=>whnf
        refine bSplit (fun h2=>?_) (fun h2=>?_)
        · conv=>whnf
          refine callT_go (l:=tDivMod) (by decide) 3 (c:=n_From) rfl (1 : Int) ⟨by show (-9223372036854775808 : Int) ≤ 1; omega,by show (1 : Int) < 9223372036854775808; omega⟩ ?_ ?_ ?_
          · exact ⟨trivial,trivial⟩
          · rfl
          conv=>whnf
          repeat refine ⟨⟨_,rfl,rfl⟩,?_⟩
          conv=>whnf
          refine callT_go (l:=tDivMod) (by decide) 4 (c:=n_Sub) rfl (sgn true (a.natAbs / b.natAbs),(1 : Int)) ⟨SZ_sgn (s:=true) (m:=a.natAbs / b.natAbs) (by omega),SZ_one⟩ ?_ ?_ ?_
          · exact ⟨⟨trivial,trivial,trivial⟩,⟨trivial,trivial,trivial⟩,trivial⟩
          · rfl
          conv=>whnf
          repeat refine ⟨⟨_,rfl,rfl⟩,?_⟩
          conv=>whnf
          refine callT_go (l:=tDivMod) (by decide) 5 (c:=n_Add) rfl (sgn true (a.natAbs % b.natAbs),b) ⟨SZ_sgn (s:=true) (m:=a.natAbs % b.natAbs) (by omega),hb⟩ ?_ ?_ ?_
          · exact ⟨⟨trivial,trivial,trivial⟩,⟨trivial,trivial,trivial⟩,trivial⟩
          · show AV.cons (eBig.v _) (.cons (eBig.v b) .nil) = _; rw [eBig_v b,decide_eq_false (show ¬ b < 0 by omega)]; rfl
          conv=>whnf
          repeat refine ⟨⟨_,rfl,rfl⟩,?_⟩
          conv=>whnf
          repeat refine ⟨⟨_,rfl,rfl⟩,?_⟩
          conv=>whnf
          obtain ⟨e1,e2,e3⟩:=dm_pos (a:=a) (b:=b) (q:=sgn true (a.natAbs / b.natAbs) - 1) (r:=sgn true (a.natAbs % b.natAbs) + b) (by omega) (by rw [Int.mul_sub,hmul]; simp only [sgn]; omega) (by simp only [sgn]; omega) (by simp only [sgn]; omega)
          rw [e1,e2,e3]
          exact SealV.same rfl (.tup (.cons (eBig.pureV _) (.cons (eBig.pureV _) (.cons .int .nil))))
        · exfalso
          have h3 : bnot (Bool.casesOn (motive:=fun _=>Bool) (decide (sgn true (a.natAbs % b.natAbs) < 0)) (bnot false) false) = false:=h2
          rw [sgn_lt hR] at h3
          cases h3
      · have hR : a.natAbs % b.natAbs = 0:=by rw [bnot_no] at h1; exact sgn_zero.1 h1
        conv=>whnf
        repeat refine ⟨⟨_,rfl,rfl⟩,?_⟩
        conv=>whnf
        obtain ⟨e1,e2,e3⟩:=dm_pos (a:=a) (b:=b) (q:=sgn true (a.natAbs / b.natAbs)) (r:=sgn true (a.natAbs % b.natAbs)) (by omega) (by rw [hmul]; simp only [sgn]; omega) (by simp only [sgn]; omega) (by simp only [sgn]; omega)
        rw [e1,e2,e3]
        exact SealV.same rfl (.tup (.cons (eBig.pureV _) (.cons (eBig.pureV _) (.cons .int .nil))))
    · rw [eBig_v a,eBig_v b,decide_eq_false (show ¬ a < 0 by omega),decide_eq_true (show b < 0 by omega)]
      have hmul : b * sgn true (a.natAbs / b.natAbs) = ((b.natAbs * (a.natAbs / b.natAbs) : Nat) : Int):=mul_sgn (s:=true) (decide_eq_true (show b < 0 by omega)) true _
      conv=>whnf
      refine callT_go (l:=tDivMod) (by decide) 0 (c:=n_Sign) rfl b trivial ?_ ?_ ?_
      · exact ⟨⟨trivial,trivial,trivial⟩,trivial⟩
      · show AV.cons (eBig.v b) .nil = _; rw [eBig_v b,decide_eq_true (show b < 0 by omega)]; rfl
      conv=>whnf
      repeat refine ⟨⟨_,rfl,rfl⟩,?_⟩
      conv=>whnf
      refine bSplit (fun h=>?_) (fun h=>?_)
      · exact absurd (Int.sign_eq_zero_iff_zero.1 (ieq_iff.1 h)) h0
      conv=>whnf
      refine callT_go (l:=tDivMod) (by decide) 1 (c:=n_divide) rfl (a.natAbs,b.natAbs) ⟨ha,hb,hB,by show a.natAbs < b.natAbs ∨ b.natAbs < 4294967296; omega⟩ ?_ ?_ ?_
      · exact ⟨trivial,trivial,trivial⟩
      · rfl
      conv=>whnf
      repeat refine ⟨⟨_,rfl,rfl⟩,?_⟩
      conv=>whnf
      refine callT_go (l:=tDivMod) (by decide) 2 (c:=n_signedM) rfl (true,a.natAbs / b.natAbs) (by show nd (a.natAbs / b.natAbs) < _; omega) ?_ ?_ ?_
      · exact ⟨trivial,trivial,trivial⟩
      · rfl
      conv=>whnf
      repeat refine ⟨⟨_,rfl,rfl⟩,?_⟩
      conv=>whnf
      refine callT_go (l:=tDivMod) (by decide) 2 (c:=n_signedM) rfl (false,a.natAbs % b.natAbs) (by show nd (a.natAbs % b.natAbs) < _; omega) ?_ ?_ ?_
      · exact ⟨trivial,trivial,trivial⟩
      · rfl
      conv=>whnf
      repeat refine ⟨⟨_,rfl,rfl⟩,?_⟩
      conv=>whnf
      refine callT_go (l:=tDivMod) (by decide) 0 (c:=n_Sign) rfl (sgn false (a.natAbs % b.natAbs)) trivial ?_ ?_ ?_
      · exact ⟨⟨trivial,trivial,trivial⟩,trivial⟩
      · rfl
      conv=>whnf
      repeat refine ⟨⟨_,rfl,rfl⟩,?_⟩
      conv=>whnf
      refine bSplit (fun h1=>?_) (fun h1=>?_)
      · have hR : a.natAbs % b.natAbs ≠ 0:=fun e=>by rw [bnot_yes] at h1; rw [sgn_zero.2 e] at h1; cases h1
        conv=>whnf
        refine callT_go (l:=tDivMod) (by decide) 3 (c:=n_From) rfl (1 : Int) ⟨by show (-9223372036854775808 : Int) ≤ 1; omega,by show (1 : Int) < 9223372036854775808; omega⟩ ?_ ?_ ?_
        · exact ⟨trivial,trivial⟩
        · rfl
        conv=>whnf
        repeat refine ⟨⟨_,rfl,rfl⟩,?_⟩
        conv=>whnf
        refine callT_go (l:=tDivMod) (by decide) 4 (c:=n_Sub) rfl (sgn true (a.natAbs / b.natAbs),(1 : Int)) ⟨SZ_sgn (s:=true) (m:=a.natAbs / b.natAbs) (by omega),SZ_one⟩ ?_ ?_ ?_
        · exact ⟨⟨trivial,trivial,trivial⟩,⟨trivial,trivial,trivial⟩,trivial⟩
        · rfl
        conv=>whnf
        repeat refine ⟨⟨_,rfl,rfl⟩,?_⟩
        conv=>whnf
        refine callT_go (l:=tDivMod) (by decide) 5 (c:=n_Add) rfl (sgn false (a.natAbs % b.natAbs),b) ⟨SZ_sgn (s:=false) (m:=a.natAbs % b.natAbs) (by omega),hb⟩ ?_ ?_ ?_
        · exact ⟨⟨trivial,trivial,trivial⟩,⟨trivial,trivial,trivial⟩,trivial⟩
        · show AV.cons (eBig.v _) (.cons (eBig.v b) .nil) = _; rw [eBig_v b,decide_eq_true (show b < 0 by omega)]; rfl
        conv=>whnf
        repeat refine ⟨⟨_,rfl,rfl⟩,?_⟩
        conv=>whnf
        repeat refine ⟨⟨_,rfl,rfl⟩,?_⟩
        conv=>whnf
        obtain ⟨e1,e2,e3⟩:=dm_neg (a:=a) (b:=b) (q:=sgn true (a.natAbs / b.natAbs) - 1) (r:=sgn false (a.natAbs % b.natAbs) + b) (by omega) (by rw [Int.mul_sub,hmul]; simp only [sgn]; omega) (by simp only [sgn]; omega) (by simp only [sgn]; omega)
        rw [e1,e2,e3]
        exact SealV.same rfl (.tup (.cons (eBig.pureV _) (.cons (eBig.pureV _) (.cons .int .nil))))
      · have hR : a.natAbs % b.natAbs = 0:=by rw [bnot_no] at h1; exact sgn_zero.1 h1
        conv=>whnf
        repeat refine ⟨⟨_,rfl,rfl⟩,?_⟩
        conv=>whnf
        obtain ⟨e1,e2,e3⟩:=dm_neg (a:=a) (b:=b) (q:=sgn true (a.natAbs / b.natAbs)) (r:=sgn false (a.natAbs % b.natAbs)) (by omega) (by rw [hmul]; simp only [sgn]; omega) (by simp only [sgn]; omega) (by simp only [sgn]; omega)
        rw [e1,e2,e3]
        exact SealV.same rfl (.tup (.cons (eBig.pureV _) (.cons (eBig.pureV _) (.cons .int .nil))))
    · rw [eBig_v a,eBig_v b,decide_eq_false (show ¬ a < 0 by omega),decide_eq_false (show ¬ b < 0 by omega)]
      have hmul : b * sgn false (a.natAbs / b.natAbs) = ((b.natAbs * (a.natAbs / b.natAbs) : Nat) : Int):=mul_sgn (s:=false) (decide_eq_false (show ¬ b < 0 by omega)) false _
      conv=>whnf
      refine callT_go (l:=tDivMod) (by decide) 0 (c:=n_Sign) rfl b trivial ?_ ?_ ?_
      · exact ⟨⟨trivial,trivial,trivial⟩,trivial⟩
      · show AV.cons (eBig.v b) .nil = _; rw [eBig_v b,decide_eq_false (show ¬ b < 0 by omega)]; rfl
      conv=>whnf
      repeat refine ⟨⟨_,rfl,rfl⟩,?_⟩
      conv=>whnf
      refine bSplit (fun h=>?_) (fun h=>?_)
      · exact absurd (Int.sign_eq_zero_iff_zero.1 (ieq_iff.1 h)) h0
      conv=>whnf
      refine callT_go (l:=tDivMod) (by decide) 1 (c:=n_divide) rfl (a.natAbs,b.natAbs) ⟨ha,hb,hB,by show a.natAbs < b.natAbs ∨ b.natAbs < 4294967296; omega⟩ ?_ ?_ ?_
      · exact ⟨trivial,trivial,trivial⟩
      · rfl
      conv=>whnf
      repeat refine ⟨⟨_,rfl,rfl⟩,?_⟩
      conv=>whnf
      refine callT_go (l:=tDivMod) (by decide) 2 (c:=n_signedM) rfl (false,a.natAbs / b.natAbs) (by show nd (a.natAbs / b.natAbs) < _; omega) ?_ ?_ ?_
      · exact ⟨trivial,trivial,trivial⟩
      · rfl
      conv=>whnf
      repeat refine ⟨⟨_,rfl,rfl⟩,?_⟩
      conv=>whnf
      refine callT_go (l:=tDivMod) (by decide) 2 (c:=n_signedM) rfl (false,a.natAbs % b.natAbs) (by show nd (a.natAbs % b.natAbs) < _; omega) ?_ ?_ ?_
      · exact ⟨trivial,trivial,trivial⟩
      · rfl
      conv=>whnf
      repeat refine ⟨⟨_,rfl,rfl⟩,?_⟩
      conv=>whnf
      refine callT_go (l:=tDivMod) (by decide) 0 (c:=n_Sign) rfl (sgn false (a.natAbs % b.natAbs)) trivial ?_ ?_ ?_
      · exact ⟨⟨trivial,trivial,trivial⟩,trivial⟩
      · rfl
      conv=>whnf
      repeat refine ⟨⟨_,rfl,rfl⟩,?_⟩
      conv=>whnf
      refine bSplit (fun h1=>?_) (fun h1=>?_)
      · have hR : a.natAbs % b.natAbs ≠ 0:=fun e=>by rw [bnot_yes] at h1; rw [sgn_zero.2 e] at h1; cases h1
        conv=>whnf
        · conv=>whnf
          repeat refine ⟨⟨_,rfl,rfl⟩,?_⟩
          conv=>whnf
          obtain ⟨e1,e2,e3⟩:=dm_pos (a:=a) (b:=b) (q:=sgn false (a.natAbs / b.natAbs)) (r:=sgn false (a.natAbs % b.natAbs)) (by omega) (by rw [hmul]; simp only [sgn]; omega) (by simp only [sgn]; omega) (by simp only [sgn]; omega)
          rw [e1,e2,e3]
          exact SealV.same rfl (.tup (.cons (eBig.pureV _) (.cons (eBig.pureV _) (.cons .int .nil))))
      · conv=>whnf
        repeat refine ⟨⟨_,rfl,rfl⟩,?_⟩
        conv=>whnf
        obtain ⟨e1,e2,e3⟩:=dm_pos (a:=a) (b:=b) (q:=sgn false (a.natAbs / b.natAbs)) (r:=sgn false (a.natAbs % b.natAbs)) (by omega) (by rw [hmul]; simp only [sgn]; omega) (by simp only [sgn]; omega) (by simp only [sgn]; omega)
        rw [e1,e2,e3]
        exact SealV.same rfl (.tup (.cons (eBig.pureV _) (.cons (eBig.pureV _) (.cons .int .nil))))
noncomputable def n_DivMod : Cn Tryz.prog:=.of2t3 eBig eBig eBig eBig (eInt .i64) 281 DMOK dmQ dmR dmE c_DivMod (hasbody rfl rfl)
end Go.Sy
namespace Go.Sy
open Go.RowKit Go.Proofs
set_option linter.unusedVariables false
set_option linter.unusedSimpArgs false
set_option maxRecDepth 1000000
set_option maxHeartbeats 0
attribute [local irreducible] Cw SealV SealL PF Sub
attribute [local instance] tb0
abbrev V3:=Int × Int × Int
noncomputable def eV3 : Enc V3:=((eInt .i64).pair ((eInt .i64).pair (eInt .i64)))
def w64 (n : Int) : Int:=iwrap .i64 n
def subV (a b : V3) : V3:=(w64 (Int.sub a.1 b.1),w64 (Int.sub a.2.1 b.2.1),w64 (Int.sub a.2.2 b.2.2))
def dotV (a b : V3) : Int:=w64 (Int.add (w64 (Int.add (w64 (Int.mul a.1 b.1)) (w64 (Int.mul a.2.1 b.2.1)))) (w64 (Int.mul a.2.2 b.2.2)))
def crossV (a b : V3) : V3:=(w64 (Int.sub (w64 (Int.mul a.2.1 b.2.2)) (w64 (Int.mul a.2.2 b.2.1))),w64 (Int.sub (w64 (Int.mul a.2.2 b.1)) (w64 (Int.mul a.1 b.2.2))),w64 (Int.sub (w64 (Int.mul a.1 b.2.1)) (w64 (Int.mul a.2.1 b.1))))
theorem c_sub (a b : V3) : PFp 412 (.cons (eV3.v a) (.cons (eV3.v b) .nil)) (eV3.v (subV a b)):=by
  obtain ⟨a0,a1,a2⟩:=a
  obtain ⟨b0,b1,b2⟩:=b
  refine PF.of_wp (c:=_) p_mixed (by decide) (fn:=Tryz.f412) rfl rfl rfl (.cons (eV3.pureV _) (.cons (eV3.pureV _) .nil)) (call:=callT []) (fun B0=>callT_ok p_callable [] B0) ?_
  intro B0
  conv=>whnf
  exact SealV.same rfl (eV3.pureV _)
theorem c_dot (a b : V3) : PFp 415 (.cons (eV3.v a) (.cons (eV3.v b) .nil)) ((eInt .i64).v (dotV a b)):=by
  obtain ⟨a0,a1,a2⟩:=a
  obtain ⟨b0,b1,b2⟩:=b
  refine PF.of_wp (c:=_) p_mixed (by decide) (fn:=Tryz.f415) rfl rfl rfl (.cons (eV3.pureV _) (.cons (eV3.pureV _) .nil)) (call:=callT []) (fun B0=>callT_ok p_callable [] B0) ?_
  intro B0
  conv=>whnf
  exact SealV.same rfl PureV.int
theorem c_cross (a b : V3) : PFp 411 (.cons (eV3.v a) (.cons (eV3.v b) .nil)) (eV3.v (crossV a b)):=by
  obtain ⟨a0,a1,a2⟩:=a
  obtain ⟨b0,b1,b2⟩:=b
  refine PF.of_wp (c:=_) p_mixed (by decide) (fn:=Tryz.f411) rfl rfl rfl (.cons (eV3.pureV _) (.cons (eV3.pureV _) .nil)) (call:=callT []) (fun B0=>callT_ok p_callable [] B0) ?_
  intro B0
  conv=>whnf
  exact SealV.same rfl (eV3.pureV _)
theorem flat_V3 : true = true → ∀ y,∀ a ∈ eV3.cs y,flatC a = true:=fun _ y x hx=>by
  obtain ⟨y0,y1,y2⟩:=y
  have hx : x ∈ [AV.int .i64 y0,AV.int .i64 y1,AV.int .i64 y2]:=hx
  simp only [List.mem_cons,List.mem_nil_iff,or_false] at hx
  rcases hx with rfl | rfl | rfl <;> rfl
noncomputable def n_sub : Cn Tryz.prog:=.of2 eV3 eV3 eV3 412 true (fun _ _=>True) subV flat_V3 (fun a b _=>c_sub a b) (hasbody rfl rfl)
noncomputable def n_dot : Cn Tryz.prog:=.of2 eV3 eV3 (eInt .i64) 415 true (fun _ _=>True) dotV (flat_int _) (fun a b _=>c_dot a b) (hasbody rfl rfl)
noncomputable def n_cross : Cn Tryz.prog:=.of2 eV3 eV3 eV3 411 true (fun _ _=>True) crossV flat_V3 (fun a b _=>c_cross a b) (hasbody rfl rfl)
end Go.Sy
namespace Go.Sy
open Go.RowKit Go.Proofs
set_option linter.unusedVariables false
set_option linter.unusedSimpArgs false
set_option maxRecDepth 1000000
set_option maxHeartbeats 0
attribute [local irreducible] Cw SealV SealL PF Sub
attribute [local instance] tb0
theorem fits_u64 {n : Int} (h1 : 0 ≤ n) (h2 : n < 18446744073709551616) : fits .u64 n = true:=fits_iff.2 ⟨by simpa [kneg] using h1,h2⟩
noncomputable def tSide : List (Cn Tryz.prog):=[n_sub,n_dot,n_cross]
def isZ (n : V3) : Bool:=band (ieq n.1 0) (band (ieq n.2.1 0) (band (ieq n.2.2 0) true))
def bitM (m : Nat) : Int:=iwrap .u64 (Int.mul 1 (Int.ofNat (Nat.pow 2 (Nat.min m 64))))
def orN (on m : Nat) : Nat:=Nat.lor on (bitM m).toNat
def sideStep (n o : V3) (m : Nat) (p : V3) (s : Nat × Bool × Bool) : Nat × Bool × Bool :=
  match ilt (dotV n (subV p o)) 0 with
  | true=>(s.1,true,s.2.2)
  | false=>(match ilt 0 (dotV n (subV p o)) with | true=>(s.1,s.2.1,true) | false=>(orN s.1 m,s.2.1,s.2.2))
def sideGo (n o : V3) : Nat → List V3 → Nat × Bool × Bool → Nat × Bool × Bool
  | _,[],s=>s
  | m,p::l,s=>sideGo n o (m + 1) l (sideStep n o m p s)
theorem sideGo_snoc {n o p : V3} : ∀ {l : List V3} {a : Nat} {s : Nat × Bool × Bool},sideGo n o a (l++[p]) s = sideStep n o (a + l.length) p (sideGo n o a l s)
  | [],a,s=>rfl
  | q::l,a,s=>by
    show sideGo n o (a + 1) (l++[p]) (sideStep n o a q s) = _
    rw [sideGo_snoc,List.length_cons,show a + 1 + l.length = a + (l.length + 1) by omega]
    rfl
theorem bitM_lt (m : Nat) : 0 ≤ bitM m∧bitM m < 18446744073709551616:=by
  unfold bitM
  rw [wrap_u64]
  omega
theorem orN_lt {on m : Nat} (h : on < 18446744073709551616) : orN on m < 18446744073709551616:=by
  have h1:=bitM_lt m
  have : (bitM m).toNat < 2 ^ 64:=by omega
  exact Nat.or_lt_two_pow (n:=64) h this
theorem sideStep_lt {n o p : V3} {m : Nat} {s : Nat × Bool × Bool} (h : s.1 < 18446744073709551616) : (sideStep n o m p s).1 < 18446744073709551616:=by
  unfold sideStep
  split
  · exact h
  · split
    · exact h
    · exact orN_lt h
theorem sideGo_lt {n o : V3} : ∀ {l : List V3} {a : Nat} {s : Nat × Bool × Bool},s.1 < 18446744073709551616 → (sideGo n o a l s).1 < 18446744073709551616
  | [],_,_,h=>h
  | p::l,_,_,h=>sideGo_lt (l:=l) (sideStep_lt h)
noncomputable def ePlane : Enc (V3 × Int):=eV3.pair (eInt .u64)
def sideN (l : List V3) (n o : V3) : (V3 × Int) × Bool :=
  ((match (sideGo n o 0 l (0,false,false)).2.2 with | true=>subV (0,0,0) n | false=>n,(((sideGo n o 0 l (0,false,false)).1 : Nat) : Int)),bnot (Bool.casesOn (motive:=fun _=>Bool) (sideGo n o 0 l (0,false,false)).2.1 (bnot (sideGo n o 0 l (0,false,false)).2.2) (sideGo n o 0 l (0,false,false)).2.2))
def sideL (l : List V3) (a b c : V3) : (V3 × Int) × Bool :=
  match isZ (crossV (subV b a) (subV c a)) with
  | true=>(((0,0,0),0),false)
  | false=>sideN l (crossV (subV b a) (subV c a)) a
theorem c_side (l : List V3) (i j k : Nat) (hl : l.length ≤ 4294967296) (hi : i < l.length) (hj : j < l.length) (hk : k < l.length) : PFp 416 (.cons (eV3.list.v l) (.cons ((eInt .i64).v i) (.cons ((eInt .i64).v j) (.cons ((eInt .i64).v k) .nil)))) (.tup (.cons (ePlane.v (sideL l l[i] l[j] l[k]).1) (.cons (eBool.v (sideL l l[i] l[j] l[k]).2) .nil))):=by
  refine PF.of_wp (c:=_) p_mixed (by decide) (fn:=Tryz.f416) rfl rfl rfl (.cons (eV3.list.pureV _) (.cons .int (.cons .int (.cons .int .nil)))) (call:=callT tSide) (fun B0=>callT_ok p_callable tSide B0) ?_
  intro B0
  conv=>whnf
  refine IdxP.go j rfl hj ?_
  conv=>whnf
  refine ⟨_,eV3.rd rfl hj,?_⟩
  conv=>whnf
  refine IdxP.go i rfl hi ?_
  conv=>whnf
  refine ⟨_,eV3.rd rfl hi,?_⟩
  conv=>whnf
  refine IdxP.go k rfl hk ?_
  conv=>whnf
  refine ⟨_,eV3.rd rfl hk,?_⟩
  conv=>whnf
  refine IdxP.go i rfl hi ?_
  conv=>whnf
  refine ⟨_,eV3.rd rfl hi,?_⟩
  conv=>whnf
  refine callT_go (l:=tSide) (by decide) 0 (c:=n_sub) rfl (l[j],l[i]) trivial ?_ ?_ ?_
  · repeat' first | exact trivial | refine ⟨?_,?_⟩
  · rfl
  conv=>whnf
  repeat (first | (refine ⟨⟨_,rfl,rfl⟩,?_⟩; conv=>whnf) | (refine ⟨trivial,?_⟩; conv=>whnf) | (refine ⟨?_,?_⟩; (· first | exact ⟨_,eV3.rd (P:=Tryz.prog) (t:=72) rfl hj,eV3.rd (P:=Tryz.prog) (t:=72) rfl hj⟩ | exact ⟨_,eV3.rd (P:=Tryz.prog) (t:=72) rfl hi,eV3.rd (P:=Tryz.prog) (t:=72) rfl hi⟩ | exact ⟨_,eV3.rd (P:=Tryz.prog) (t:=72) rfl hk,eV3.rd (P:=Tryz.prog) (t:=72) rfl hk⟩ | exact rfl); conv=>whnf))
  conv=>whnf
  refine callT_go (l:=tSide) (by decide) 0 (c:=n_sub) rfl (l[k],l[i]) trivial ?_ ?_ ?_
  · repeat' first | exact trivial | refine ⟨?_,?_⟩
  · rfl
  conv=>whnf
  repeat (first | (refine ⟨⟨_,rfl,rfl⟩,?_⟩; conv=>whnf) | (refine ⟨trivial,?_⟩; conv=>whnf) | (refine ⟨?_,?_⟩; (· first | exact ⟨_,eV3.rd (P:=Tryz.prog) (t:=72) rfl hj,eV3.rd (P:=Tryz.prog) (t:=72) rfl hj⟩ | exact ⟨_,eV3.rd (P:=Tryz.prog) (t:=72) rfl hi,eV3.rd (P:=Tryz.prog) (t:=72) rfl hi⟩ | exact ⟨_,eV3.rd (P:=Tryz.prog) (t:=72) rfl hk,eV3.rd (P:=Tryz.prog) (t:=72) rfl hk⟩ | exact rfl); conv=>whnf))
  conv=>whnf
  refine callT_go (l:=tSide) (by decide) 2 (c:=n_cross) rfl (subV l[j] l[i],subV l[k] l[i]) trivial ?_ ?_ ?_
  · repeat' first | exact trivial | refine ⟨?_,?_⟩
  · rfl
  conv=>whnf
  repeat (first | (refine ⟨⟨_,rfl,rfl⟩,?_⟩; conv=>whnf) | (refine ⟨trivial,?_⟩; conv=>whnf) | (refine ⟨?_,?_⟩; (· first | exact ⟨_,eV3.rd (P:=Tryz.prog) (t:=72) rfl hj,eV3.rd (P:=Tryz.prog) (t:=72) rfl hj⟩ | exact ⟨_,eV3.rd (P:=Tryz.prog) (t:=72) rfl hi,eV3.rd (P:=Tryz.prog) (t:=72) rfl hi⟩ | exact ⟨_,eV3.rd (P:=Tryz.prog) (t:=72) rfl hk,eV3.rd (P:=Tryz.prog) (t:=72) rfl hk⟩ | exact rfl); conv=>whnf))
  conv=>whnf
  unfold sideL
  refine bSplit (fun h=>?_) (fun h=>?_)
  · have hz : isZ (crossV (subV l[j] l[i]) (subV l[k] l[i])) = true:=h
    rw [hz]
    conv=>whnf
    exact SealV.same rfl (.tup (.cons (ePlane.pureV _) (.cons (eBool.pureV _) .nil)))
  · have hz : isZ (crossV (subV l[j] l[i]) (subV l[k] l[i])) = false:=h
    rw [hz]
    generalize crossV (subV l[j] l[i]) (subV l[k] l[i]) = n
    conv=>whnf
    obtain ⟨st,hS⟩ : ∃ st : Nat → Nat × Bool × Bool,∀ q,st q = sideGo n l[i] 0 (l.take q) (0,false,false):=⟨_,fun _=>rfl⟩
    have hst : ∀ q,(st q).1 < 18446744073709551616:=fun q=>by rw [hS]; exact sideGo_lt (by show (0 : Nat) < _; omega)
    have h00 : st 0 = (0,false,false):=by rw [hS]; rfl
    have hsucc : ∀ q (hq : q < l.length),st (q + 1) = sideStep n l[i] q l[q] (st q):=fun q hq=>by
      rw [hS,hS,List.take_succ_eq_append_getElem hq,sideGo_snoc,List.length_take_of_le (by omega),Nat.zero_add]
    have hend : sideGo n l[i] 0 l (0,false,false) = st l.length:=by rw [hS,List.take_length]
    refine Cw.loop (ι:=Nat) (fun q=>regsT [(0,eV3.list.v l),(1,.int .i64 (i : Int)),(8,.ptr (pathOf 64) 0),(10,.ptr (pathOf 65) 0),(11,.ptr (pathOf 66) 0),(12,.bool (st q).2.1),(13,.bool (st q).2.2),(42,eV3.list.v l),(43,.int .i64 (l.length : Int)),(44,.int .i64 (q : Int))]) (fun _=>[]) (fun q=>⟨heapT [(pathOf 64,.cells (regsT [(0,.int .i64 0),(1,.int .i64 0),(2,.int .i64 0),(3,.int .u64 0)]) 4 false),(pathOf 65,.cells (regsT [(0,.int .i64 n.1),(1,.int .i64 n.2.1),(2,.int .i64 n.2.2)]) 3 false),(pathOf 66,.cells (regsT [(0,.int .i64 n.1),(1,.int .i64 n.2.1),(2,.int .i64 n.2.2),(3,.int .u64 ((st q).1 : Nat))]) 4 false)],pathOf 67⟩) (fun q=>q ≤ l.length) (fun q=>l.length - q) ?_ 0 (Nat.zero_le _) ?_
    · intro q hq
      refine wp_sound p_mixed rfl rfl (callT_ok p_callable tSide B0) _ ?_
      conv=>whnf
      refine bSplit (fun h1=>?_) (fun h1=>?_)
      · have hq' : q < l.length:=Int.ofNat_lt.1 (ilt_iff.1 h1)
        have hidx : iwrap .i64 (Int.add (q : Int) 1) = ((q + 1 : Nat) : Int):=by
          show iwrap .i64 ((q : Int) + 1) = _
          rw [iwrap_i64 (by omega) (by omega)]
          omega
        conv=>whnf
        refine IdxP.go q rfl hq' ?_
        conv=>whnf
        refine ⟨_,eV3.rd rfl hq',?_⟩
        conv=>whnf
        refine IdxP.go i rfl hi ?_
        conv=>whnf
        refine ⟨_,eV3.rd rfl hi,?_⟩
        conv=>whnf
        refine callT_go (l:=tSide) (by decide) 0 (c:=n_sub) rfl (l[q],l[i]) trivial ?_ ?_ ?_
        · repeat' first | exact trivial | refine ⟨?_,?_⟩
        · rfl
        conv=>whnf
        repeat (first | (refine ⟨⟨_,rfl,rfl⟩,?_⟩; conv=>whnf) | (refine ⟨trivial,?_⟩; conv=>whnf) | (refine ⟨?_,?_⟩; (· first | exact ⟨_,eV3.rd (P:=Tryz.prog) (t:=72) rfl hj,eV3.rd (P:=Tryz.prog) (t:=72) rfl hj⟩ | exact ⟨_,eV3.rd (P:=Tryz.prog) (t:=72) rfl hi,eV3.rd (P:=Tryz.prog) (t:=72) rfl hi⟩ | exact ⟨_,eV3.rd (P:=Tryz.prog) (t:=72) rfl hk,eV3.rd (P:=Tryz.prog) (t:=72) rfl hk⟩ | exact ⟨_,eV3.rd (P:=Tryz.prog) (t:=72) rfl hq',eV3.rd (P:=Tryz.prog) (t:=72) rfl hq'⟩ | exact rfl); conv=>whnf))
        conv=>whnf
        refine callT_go (l:=tSide) (by decide) 1 (c:=n_dot) rfl (n,subV l[q] l[i]) trivial ?_ ?_ ?_
        · repeat' first | exact trivial | refine ⟨?_,?_⟩
        · rfl
        conv=>whnf
        repeat (first | (refine ⟨⟨_,rfl,rfl⟩,?_⟩; conv=>whnf) | (refine ⟨trivial,?_⟩; conv=>whnf) | (refine ⟨?_,?_⟩; (· first | exact ⟨_,eV3.rd (P:=Tryz.prog) (t:=72) rfl hj,eV3.rd (P:=Tryz.prog) (t:=72) rfl hj⟩ | exact ⟨_,eV3.rd (P:=Tryz.prog) (t:=72) rfl hi,eV3.rd (P:=Tryz.prog) (t:=72) rfl hi⟩ | exact ⟨_,eV3.rd (P:=Tryz.prog) (t:=72) rfl hk,eV3.rd (P:=Tryz.prog) (t:=72) rfl hk⟩ | exact rfl); conv=>whnf))
        conv=>whnf
        refine bSplit (fun h2=>?_) (fun h2=>?_)
        · have hstep : sideStep n l[i] q l[q] (st q) = ((st q).1,true,(st q).2.2):=by
            unfold sideStep
            rw [show ilt (dotV n (subV l[q] l[i])) 0 = true from h2]
          conv=>whnf
          refine ⟨q + 1,hq',by omega,?_⟩
          refine Sub.of [(pathOf 64,some (pathOf 64)),(pathOf 65,some (pathOf 65)),(pathOf 66,some (pathOf 66))] [] rfl rfl rfl ?_ ?_
          · repeat' first | exact trivial | exact rfl | refine And.intro ?_ ?_
            all_goals first | exact hidx | (rw [hsucc q hq',hstep]; exact rfl)
          · repeat' first | exact trivial | exact rfl | refine And.intro ?_ ?_
            all_goals first | exact hidx | (rw [hsucc q hq',hstep]; exact rfl)
        · refine bSplit (fun h3=>?_) (fun h3=>?_)
          · have hstep : sideStep n l[i] q l[q] (st q) = ((st q).1,(st q).2.1,true):=by
              unfold sideStep
              rw [show ilt (dotV n (subV l[q] l[i])) 0 = false from h2,show ilt 0 (dotV n (subV l[q] l[i])) = true from h3]
            conv=>whnf
            refine ⟨q + 1,hq',by omega,?_⟩
            refine Sub.of [(pathOf 64,some (pathOf 64)),(pathOf 65,some (pathOf 65)),(pathOf 66,some (pathOf 66))] [] rfl rfl rfl ?_ ?_
            · repeat' first | exact trivial | exact rfl | refine And.intro ?_ ?_
              all_goals first | exact hidx | (rw [hsucc q hq',hstep]; exact rfl)
            · repeat' first | exact trivial | exact rfl | refine And.intro ?_ ?_
              all_goals first | exact hidx | (rw [hsucc q hq',hstep]; exact rfl)
          · have hstep : sideStep n l[i] q l[q] (st q) = (orN (st q).1 q,(st q).2.1,(st q).2.2):=by
              unfold sideStep
              rw [show ilt (dotV n (subV l[q] l[i])) 0 = false from h2,show ilt 0 (dotV n (subV l[q] l[i])) = false from h3]
            conv=>whnf
            refine ⟨Int.natCast_nonneg q,?_⟩
            conv=>whnf
            refine ⟨⟨Int.natCast_nonneg _,fits_u64 (Int.natCast_nonneg _) (by have:=hst q; omega),(bitM_lt q).1,fits_u64 (bitM_lt q).1 (bitM_lt q).2⟩,?_⟩
            conv=>whnf
            repeat (first | (refine ⟨⟨_,rfl,rfl⟩,?_⟩; conv=>whnf) | (refine ⟨trivial,?_⟩; conv=>whnf))
            refine ⟨q + 1,hq',by omega,?_⟩
            refine Sub.of [(pathOf 64,some (pathOf 64)),(pathOf 65,some (pathOf 65)),(pathOf 66,some (pathOf 66))] [] rfl rfl rfl ?_ ?_
            · repeat' first | exact trivial | exact rfl | refine And.intro ?_ ?_
              all_goals first | exact hidx | (rw [hsucc q hq',hstep]; exact rfl)
            · repeat' first | exact trivial | exact rfl | refine And.intro ?_ ?_
              all_goals first | exact hidx | (rw [hsucc q hq',hstep]; exact rfl)
      · have hq1 : q = l.length:=by have:=ilt_no.1 h1; omega
        subst hq1
        have hb:=hst l.length
        generalize st l.length = s0 at hb hend ⊢
        obtain ⟨on,less,more⟩:=s0
        unfold sideN
        rw [hend]
        cases more with
        | true =>
          conv=>whnf
          refine callT_go (l:=tSide) (by decide) 0 (c:=n_sub) rfl (((0,0,0) : V3),n) trivial ?_ ?_ ?_
          · repeat' first | exact trivial | refine ⟨?_,?_⟩
          · rfl
          conv=>whnf
          repeat (first | (refine ⟨⟨_,rfl,rfl⟩,?_⟩; conv=>whnf) | (refine ⟨trivial,?_⟩; conv=>whnf) | (refine ⟨?_,?_⟩; (· first | exact ⟨_,eV3.rd (P:=Tryz.prog) (t:=72) rfl hj,eV3.rd (P:=Tryz.prog) (t:=72) rfl hj⟩ | exact ⟨_,eV3.rd (P:=Tryz.prog) (t:=72) rfl hi,eV3.rd (P:=Tryz.prog) (t:=72) rfl hi⟩ | exact ⟨_,eV3.rd (P:=Tryz.prog) (t:=72) rfl hk,eV3.rd (P:=Tryz.prog) (t:=72) rfl hk⟩ | exact rfl); conv=>whnf))
          conv=>whnf
          exact SealV.same rfl (.tup (.cons (ePlane.pureV _) (.cons (eBool.pureV _) .nil)))
        | false =>
          conv=>whnf
          exact SealV.same rfl (.tup (.cons (ePlane.pureV _) (.cons (eBool.pureV _) .nil)))
    · refine Sub.of [(pathOf 64,some (pathOf 64)),(pathOf 65,some (pathOf 65)),(pathOf 66,some (pathOf 66))] [] rfl rfl rfl ?_ ?_
      · repeat' first | exact trivial | exact rfl | refine And.intro ?_ ?_
        all_goals (rw [h00]; exact rfl)
      · repeat' first | exact trivial | exact rfl | refine And.intro ?_ ?_
        all_goals (rw [h00]; exact rfl)
noncomputable def n_side : Cn Tryz.prog where
  f:=416
  flat:=true
  α:=List V3 × Nat × Nat × Nat
  «as»:=fun a=>.cons (eV3.list.v a.1) (.cons ((eInt .i64).v a.2.1) (.cons ((eInt .i64).v a.2.2.1) (.cons ((eInt .i64).v a.2.2.2) .nil)))
  v:=fun a=>.tup (.cons (ePlane.v (sideL a.1 (a.1.getD a.2.1 (0,0,0)) (a.1.getD a.2.2.1 (0,0,0)) (a.1.getD a.2.2.2 (0,0,0))).1) (.cons (eBool.v (sideL a.1 (a.1.getD a.2.1 (0,0,0)) (a.1.getD a.2.2.1 (0,0,0)) (a.1.getD a.2.2.2 (0,0,0))).2) .nil))
  ok:=fun a=>a.1.length ≤ 4294967296∧a.2.1 < a.1.length∧a.2.2.1 < a.1.length∧a.2.2.2 < a.1.length
  inj:=fun a b _ _ h=>by
    obtain ⟨l,i,j,k⟩:=a
    obtain ⟨l',i',j',k'⟩:=b
    injection h with h1 h
    injection h with h2 h
    injection h with h3 h
    injection h with h4 _
    have e1 : l = l':=eV3.list.v_inj h1
    have e2 : (i : Int) = i':=(eInt .i64).v_inj h2
    have e3 : (j : Int) = j':=(eInt .i64).v_inj h3
    have e4 : (k : Int) = k':=(eInt .i64).v_inj h4
    have e2:=Int.ofNat.inj e2
    have e3:=Int.ofNat.inj e3
    have e4:=Int.ofNat.inj e4
    subst e1 e2 e3 e4
    rfl
  dp:=fun a=>⟨eV3.list.dpV _,trivial,trivial,trivial,trivial⟩
  pv:=fun a=>.tup (.cons (ePlane.pureV _) (.cons (eBool.pureV _) .nil))
  fl:=fun _ a=>by
    intro μ μ' cv hv
    obtain ⟨c,e,v1,r1,h1,h2,v2,r2,h3,h4,h5⟩:=hv
    refine ⟨c,e,v1,r1,h1,?_,v2,r2,h3,?_,h5⟩
    · exact ePlane.flatV _ (fun x hx=>by
        have hx : x ∈ [AV.int .i64 _,AV.int .i64 _,AV.int .i64 _,AV.int .u64 _]:=hx
        simp only [List.mem_cons,List.mem_nil_iff,or_false] at hx
        rcases hx with rfl | rfl | rfl | rfl <;> rfl) μ μ' v1 h2
    · exact eBool.flatV _ (flat_bool rfl _) μ μ' v2 h4
  pf:=fun a h=>by
    obtain ⟨l,i,j,k⟩:=a
    obtain ⟨h1,h2,h3,h4⟩:=h
    have:=c_side l i j k h1 h2 h3 h4
    have e : ∀ {q : Nat} (hq : q < l.length),l.getD q (0,0,0) = l[q]:=fun hq=>by rw [List.getD_eq_getElem?_getD,List.getElem?_eq_getElem hq]; rfl
    show PF _ _ _ (.tup (.cons (ePlane.v (sideL l (l.getD i (0,0,0)) (l.getD j (0,0,0)) (l.getD k (0,0,0))).1) (.cons (eBool.v (sideL l (l.getD i (0,0,0)) (l.getD j (0,0,0)) (l.getD k (0,0,0))).2) .nil)))
    rw [e h2,e h3,e h4]
    exact this
  bd:=hasbody rfl rfl
end Go.Sy
namespace Go.Sy
open Go.RowKit Go.Proofs
set_option linter.unusedVariables false
set_option linter.unusedSimpArgs false
set_option maxRecDepth 1000000
set_option maxHeartbeats 0
attribute [local irreducible] Cw SealV SealL PF Sub
attribute [local instance] tb0
abbrev Q:=Int × Int
noncomputable def eRat : Enc Q:=eBig.pair eBig
def Q.dn (q : Q) : Int:=if q.2 = 0 then 1 else q.2
def Q.whole (q : Q) : Bool:=decide (q.2 = 0 ∨ q.2 = 1)
theorem c_one : PFp 188 .nil (eBig.v 1):=by
  refine PF.of_wp (c:=_) p_mixed (by decide) (fn:=Tryz.f188) rfl rfl rfl .nil (call:=callT [n_From]) (fun B0=>callT_ok p_callable [n_From] B0) ?_
  intro B0
  conv=>whnf
  refine callT_go (l:=[n_From]) (by decide) 0 (c:=n_From) rfl (1 : Int) ⟨by show (-9223372036854775808 : Int) ≤ 1; omega,by show (1 : Int) < 9223372036854775808; omega⟩ ?_ ?_ ?_
  · exact ⟨trivial,trivial⟩
  · rfl
  conv=>whnf
  repeat first | refine ⟨⟨_,rfl,rfl⟩,?_⟩ | refine ⟨trivial,?_⟩
  conv=>whnf
  exact SealV.same rfl (eBig.pureV _)
noncomputable def n_one : Cn Tryz.prog:=.of0 eBig 188 1 c_one (hasbody rfl rfl)
noncomputable def tWhole : List (Cn Tryz.prog):=[n_Sign,n_one,n_Compare]
theorem c_whole (n d : Int) (hd : SZ d) : PFp 213 (.cons (eRat.v (n,d)) .nil) (eBool.v (Q.whole (n,d))):=by
  refine PF.of_wp (c:=_) p_mixed (by decide) (fn:=Tryz.f213) rfl rfl rfl (.cons (eRat.pureV _) .nil) (call:=callT tWhole) (fun B0=>callT_ok p_callable tWhole B0) ?_
  intro B0
  conv=>whnf
  refine callT_go (l:=tWhole) (by decide) 0 (c:=n_Sign) rfl d trivial ?_ ?_ ?_
  · exact ⟨⟨trivial,trivial,trivial⟩,trivial⟩
  · rfl
  conv=>whnf
  repeat first | refine ⟨⟨_,rfl,rfl⟩,?_⟩ | refine ⟨trivial,?_⟩
  conv=>whnf
  refine bSplit (fun h=>?_) (fun h=>?_)
  · have h0 : d = 0:=Int.sign_eq_zero_iff_zero.1 (ieq_iff.1 h)
    have hw : Q.whole (n,d) = true:=decide_eq_true (.inl h0)
    rw [hw]
    conv=>whnf
    repeat first | refine ⟨⟨_,rfl,rfl⟩,?_⟩ | refine ⟨trivial,?_⟩
    conv=>whnf
    exact SealV.pure .bool
  · have h0 : d ≠ 0:=fun e=>ieq_no.1 h (by rw [e]; rfl)
    have hw : Q.whole (n,d) = ieq (cmpZ d 1) 0:=by
      unfold Q.whole
      rw [ieq_dec]
      congr 1
      simp only [eq_iff_iff]
      show (d = 0 ∨ d = 1) ↔ _
      unfold cmpZ
      constructor
      · rintro (h | h)
        · exact absurd h h0
        · rw [if_neg (by omega),if_neg (by omega)]
      · intro h
        split at h
        · omega
        · split at h <;> omega
    rw [hw]
    conv=>whnf
    refine callT_go (l:=tWhole) (by decide) 1 (c:=n_one) rfl () trivial ?_ ?_ ?_
    · exact trivial
    · rfl
    conv=>whnf
    repeat first | refine ⟨⟨_,rfl,rfl⟩,?_⟩ | refine ⟨trivial,?_⟩
    conv=>whnf
    refine callT_go (l:=tWhole) (by decide) 2 (c:=n_Compare) rfl (d,(1 : Int)) ⟨hd,SZ_one⟩ ?_ ?_ ?_
    · exact ⟨⟨trivial,trivial,trivial⟩,⟨trivial,trivial,trivial⟩,trivial⟩
    · rfl
    conv=>whnf
    repeat first | refine ⟨⟨_,rfl,rfl⟩,?_⟩ | refine ⟨trivial,?_⟩
    conv=>whnf
    exact SealV.pure .bool
noncomputable def n_whole : Cn Tryz.prog:=.of1 eRat eBool 213 true (fun q=>SZ q.2) Q.whole flat_bool (fun q h=>c_whole q.1 q.2 h) (hasbody rfl rfl)
noncomputable def tDen : List (Cn Tryz.prog):=[n_Sign,n_one]
theorem c_Den (n d : Int) : PFp 147 (.cons (eRat.v (n,d)) .nil) (eBig.v (Q.dn (n,d))):=by
  refine PF.of_wp (c:=_) p_mixed (by decide) (fn:=Tryz.f147) rfl rfl rfl (.cons (eRat.pureV _) .nil) (call:=callT tDen) (fun B0=>callT_ok p_callable tDen B0) ?_
  intro B0
  conv=>whnf
  refine callT_go (l:=tDen) (by decide) 0 (c:=n_Sign) rfl d trivial ?_ ?_ ?_
  · exact ⟨⟨trivial,trivial,trivial⟩,trivial⟩
  · rfl
  conv=>whnf
  refine bSplit (fun h=>?_) (fun h=>?_)
  · have h0 : d = 0:=Int.sign_eq_zero_iff_zero.1 (ieq_iff.1 h)
    rw [show Q.dn (n,d) = 1 from if_pos h0]
    conv=>whnf
    refine callT_go (l:=tDen) (by decide) 1 (c:=n_one) rfl () trivial ?_ ?_ ?_
    · exact trivial
    · rfl
    conv=>whnf
    repeat first | refine ⟨⟨_,rfl,rfl⟩,?_⟩ | refine ⟨trivial,?_⟩
    conv=>whnf
    exact SealV.same rfl (eBig.pureV _)
  · have h0 : d ≠ 0:=fun e=>ieq_no.1 h (by rw [e]; rfl)
    rw [show Q.dn (n,d) = d from if_neg h0]
    conv=>whnf
    repeat first | refine ⟨⟨_,rfl,rfl⟩,?_⟩ | refine ⟨trivial,?_⟩
    conv=>whnf
    exact SealV.same rfl (eBig.pureV _)
noncomputable def n_Den : Cn Tryz.prog:=.of1 eRat eBig 147 false (fun _=>True) Q.dn (fun e=>by cases e) (fun q _=>c_Den q.1 q.2) (hasbody rfl rfl)
theorem c_RSign (n d : Int) : PFp 107 (.cons (eRat.v (n,d)) .nil) ((eInt .i64).v n.sign):=by
  refine PF.of_wp (c:=_) p_mixed (by decide) (fn:=Tryz.f107) rfl rfl rfl (.cons (eRat.pureV _) .nil) (call:=callT [n_Sign]) (fun B0=>callT_ok p_callable [n_Sign] B0) ?_
  intro B0
  conv=>whnf
  refine callT_go (l:=[n_Sign]) (by decide) 0 (c:=n_Sign) rfl n trivial ?_ ?_ ?_
  · exact ⟨⟨trivial,trivial,trivial⟩,trivial⟩
  · rfl
  conv=>whnf
  exact SealV.pure .int
noncomputable def n_RSign : Cn Tryz.prog:=.of1 eRat (eInt .i64) 107 true (fun _=>True) (fun q=>q.1.sign) (flat_int _) (fun q _=>c_RSign q.1 q.2) (hasbody rfl rfl)
theorem c_RFrom (n : Int) (h1 : -9223372036854775808 ≤ n) (h2 : n < 9223372036854775808) : PFp 176 (.cons ((eInt .i64).v n) .nil) (eRat.v (n,0)):=by
  refine PF.of_wp (c:=_) p_mixed (by decide) (fn:=Tryz.f176) rfl rfl rfl (.cons .int .nil) (call:=callT [n_From]) (fun B0=>callT_ok p_callable [n_From] B0) ?_
  intro B0
  conv=>whnf
  refine callT_go (l:=[n_From]) (by decide) 0 (c:=n_From) rfl n ⟨h1,h2⟩ ?_ ?_ ?_
  · exact ⟨trivial,trivial⟩
  · rfl
  conv=>whnf
  repeat first | refine ⟨⟨_,rfl,rfl⟩,?_⟩ | refine ⟨trivial,?_⟩
  conv=>whnf
  exact SealV.agg (.cons (SealV.pure .bool) (.cons (SealV.pure (eMag.pureV _)) (.cons (SealV.pure .bool) (.cons SealV.nils .nil))))
noncomputable def n_RFrom : Cn Tryz.prog:=.of1 (eInt .i64) eRat 176 false (fun n=>-9223372036854775808 ≤ n∧n < 9223372036854775808) (fun n=>(n,0)) (fun e=>by cases e) (fun n h=>c_RFrom n h.1 h.2) (hasbody rfl rfl)
end Go.Sy
namespace Go.Sy
open Go.RowKit Go.Proofs
set_option linter.unusedVariables false
set_option linter.unusedSimpArgs false
set_option maxRecDepth 1000000
set_option maxHeartbeats 0
attribute [local irreducible] Cw SealV SealL PF Sub
attribute [local instance] tb0
noncomputable def tRed : List (Cn Tryz.prog):=[n_Sign,n_Neg,n_Gcd,n_one,n_Compare,n_DivMod]
def redQ (n d : Int) : Q:=if d < 0 then (dmQ (-n) (Nat.gcd n.natAbs d.natAbs : Nat),dmQ (-d) (Nat.gcd n.natAbs d.natAbs : Nat)) else (dmQ n (Nat.gcd n.natAbs d.natAbs : Nat),dmQ d (Nat.gcd n.natAbs d.natAbs : Nat))
def RedOK (n d : Int) : Prop:=SZ n∧SZ d∧d ≠ 0∧(d.natAbs < 4294967296 ∨ (n.natAbs < 4294967296∧n ≠ 0))
theorem dmQ_one (n : Int) : dmQ n 1 = n:=by
  unfold dmQ
  rw [if_neg (by decide)]
  exact Int.fdiv_one n
theorem SZ_neg {n : Int} (h : SZ n) : SZ (-n):=by unfold SZ at h ⊢; rw [Int.natAbs_neg]; exact h
theorem c_reduced (n d : Int) (h : RedOK n d) : PFp 215 (.cons (eBig.v n) (.cons (eBig.v d) .nil)) (eRat.v (redQ n d)):=by
  obtain ⟨hn,hd,h0,hc⟩:=h
  refine PF.of_wp (c:=_) p_mixed (by decide) (fn:=Tryz.f215) rfl rfl rfl (.cons (eBig.pureV _) (.cons (eBig.pureV _) .nil)) (call:=callT tRed) (fun B0=>callT_ok p_callable tRed B0) ?_
  intro B0
  have hgl : Nat.gcd n.natAbs d.natAbs < 4294967296:=by
    rcases hc with hc | ⟨hc,hz⟩
    · exact Nat.lt_of_le_of_lt (Nat.gcd_le_right _ (by omega)) hc
    · exact Nat.lt_of_le_of_lt (Nat.gcd_le_left _ (by omega)) hc
  have hg0 : 0 < Nat.gcd n.natAbs d.natAbs:=Nat.gcd_pos_of_pos_right _ (by omega)
  unfold redQ
  generalize hgg : Nat.gcd n.natAbs d.natAbs = g at *
  have hgs : SZ (g : Int):=by
    unfold SZ
    rw [show (g : Int).natAbs = g from rfl,nd_one hg0 hgl]
    decide
  conv=>whnf
  refine callT_go (l:=tRed) (by decide) 0 (c:=n_Sign) rfl d trivial ?_ ?_ ?_
  · exact ⟨⟨trivial,trivial,trivial⟩,trivial⟩
  · rfl
  conv=>whnf
  repeat first | refine ⟨⟨_,rfl,rfl⟩,?_⟩ | refine ⟨trivial,?_⟩
  conv=>whnf
  refine bSplit (fun h=>?_) (fun h=>?_)
  · have hlt : d < 0:=by
      have h:=ilt_iff.1 h
      exact Int.sign_neg_iff.1 h
    have hg : GcdOK (-n) (-d):=⟨SZ_neg hn,SZ_neg hd,by rw [Int.natAbs_neg,Int.natAbs_neg]; omega⟩
    have hd1 : DMOK (-n) (g : Int):=⟨SZ_neg hn,hgs,.inr (.inr hgl)⟩
    have hd2 : DMOK (-d) (g : Int):=⟨SZ_neg hd,hgs,.inr (.inr hgl)⟩
    have hgg' : Nat.gcd (-n).natAbs (-d).natAbs = g:=by rw [Int.natAbs_neg,Int.natAbs_neg]; exact hgg
    rw [if_pos hlt,← hgg']
    conv=>whnf
    refine callT_go (l:=tRed) (by decide) 1 (c:=n_Neg) rfl n trivial ?_ ?_ ?_
    · exact ⟨⟨trivial,trivial,trivial⟩,trivial⟩
    · rfl
    conv=>whnf
    repeat first | refine ⟨⟨_,rfl,rfl⟩,?_⟩ | refine ⟨trivial,?_⟩
    conv=>whnf
    refine callT_go (l:=tRed) (by decide) 1 (c:=n_Neg) rfl d trivial ?_ ?_ ?_
    · exact ⟨⟨trivial,trivial,trivial⟩,trivial⟩
    · rfl
    conv=>whnf
    repeat first | refine ⟨⟨_,rfl,rfl⟩,?_⟩ | refine ⟨trivial,?_⟩
    conv=>whnf
    refine callT_go (l:=tRed) (by decide) 2 (c:=n_Gcd) rfl (-n,-d) hg ?_ ?_ ?_
    · exact ⟨⟨trivial,trivial,trivial⟩,⟨trivial,trivial,trivial⟩,trivial⟩
    · rfl
    conv=>whnf
    repeat first | refine ⟨⟨_,rfl,rfl⟩,?_⟩ | refine ⟨trivial,?_⟩
    conv=>whnf
    refine callT_go (l:=tRed) (by decide) 3 (c:=n_one) rfl () trivial ?_ ?_ ?_
    · exact trivial
    · rfl
    conv=>whnf
    repeat first | refine ⟨⟨_,rfl,rfl⟩,?_⟩ | refine ⟨trivial,?_⟩
    conv=>whnf
    refine callT_go (l:=tRed) (by decide) 4 (c:=n_Compare) rfl (((Nat.gcd (-n).natAbs (-d).natAbs : Nat) : Int),(1 : Int)) (by show SZ ((Nat.gcd (-n).natAbs (-d).natAbs : Nat) : Int)∧SZ 1; rw [hgg']; exact ⟨hgs,SZ_one⟩) ?_ ?_ ?_
    · exact ⟨⟨trivial,trivial,trivial⟩,⟨trivial,trivial,trivial⟩,trivial⟩
    · rfl
    conv=>whnf
    repeat first | refine ⟨⟨_,rfl,rfl⟩,?_⟩ | refine ⟨trivial,?_⟩
    conv=>whnf
    refine bSplit (fun h1=>?_) (fun h1=>?_)
    · conv=>whnf
      refine callT_go (l:=tRed) (by decide) 5 (c:=n_DivMod) rfl (-n,((Nat.gcd (-n).natAbs (-d).natAbs : Nat) : Int)) (by show DMOK (-n) ((Nat.gcd (-n).natAbs (-d).natAbs : Nat) : Int); rw [hgg']; exact hd1) ?_ ?_ ?_
      · exact ⟨⟨trivial,trivial,trivial⟩,⟨trivial,trivial,trivial⟩,trivial⟩
      · rfl
      conv=>whnf
      repeat first | refine ⟨⟨_,rfl,rfl⟩,?_⟩ | refine ⟨trivial,?_⟩
      conv=>whnf
      refine callT_go (l:=tRed) (by decide) 5 (c:=n_DivMod) rfl (-d,((Nat.gcd (-n).natAbs (-d).natAbs : Nat) : Int)) (by show DMOK (-d) ((Nat.gcd (-n).natAbs (-d).natAbs : Nat) : Int); rw [hgg']; exact hd2) ?_ ?_ ?_
      · exact ⟨⟨trivial,trivial,trivial⟩,⟨trivial,trivial,trivial⟩,trivial⟩
      · rfl
      conv=>whnf
      repeat first | refine ⟨⟨_,rfl,rfl⟩,?_⟩ | refine ⟨trivial,?_⟩
      conv=>whnf
      exact SealV.same rfl (eRat.pureV _)
    · have hg1 : ((Nat.gcd (-n).natAbs (-d).natAbs : Nat) : Int) = 1:=by
        have h1 : cmpZ ((Nat.gcd (-n).natAbs (-d).natAbs : Nat) : Int) 1 = 0:=ine_no.1 h1
        unfold cmpZ at h1
        split at h1
        · omega
        · split at h1 <;> omega
      rw [hg1,dmQ_one,dmQ_one]
      conv=>whnf
      repeat first | refine ⟨⟨_,rfl,rfl⟩,?_⟩ | refine ⟨trivial,?_⟩
      conv=>whnf
      exact SealV.same rfl (eRat.pureV _)
  · have hge : ¬ d < 0:=fun hlt=>by
      have h:=ilt_no.1 h
      have:=Int.sign_neg_iff.2 hlt
      omega
    have hgg' : Nat.gcd n.natAbs d.natAbs = g:=hgg
    have hg : GcdOK n d:=⟨hn,hd,by omega⟩
    have hd1 : DMOK n (g : Int):=⟨hn,hgs,.inr (.inr hgl)⟩
    have hd2 : DMOK d (g : Int):=⟨hd,hgs,.inr (.inr hgl)⟩
    rw [if_neg hge,← hgg']
    conv=>whnf
    refine callT_go (l:=tRed) (by decide) 2 (c:=n_Gcd) rfl (n,d) hg ?_ ?_ ?_
    · exact ⟨⟨trivial,trivial,trivial⟩,⟨trivial,trivial,trivial⟩,trivial⟩
    · rfl
    conv=>whnf
    repeat first | refine ⟨⟨_,rfl,rfl⟩,?_⟩ | refine ⟨trivial,?_⟩
    conv=>whnf
    refine callT_go (l:=tRed) (by decide) 3 (c:=n_one) rfl () trivial ?_ ?_ ?_
    · exact trivial
    · rfl
    conv=>whnf
    repeat first | refine ⟨⟨_,rfl,rfl⟩,?_⟩ | refine ⟨trivial,?_⟩
    conv=>whnf
    refine callT_go (l:=tRed) (by decide) 4 (c:=n_Compare) rfl (((Nat.gcd n.natAbs d.natAbs : Nat) : Int),(1 : Int)) (by show SZ ((Nat.gcd n.natAbs d.natAbs : Nat) : Int)∧SZ 1; rw [hgg']; exact ⟨hgs,SZ_one⟩) ?_ ?_ ?_
    · exact ⟨⟨trivial,trivial,trivial⟩,⟨trivial,trivial,trivial⟩,trivial⟩
    · rfl
    conv=>whnf
    repeat first | refine ⟨⟨_,rfl,rfl⟩,?_⟩ | refine ⟨trivial,?_⟩
    conv=>whnf
    refine bSplit (fun h1=>?_) (fun h1=>?_)
    · conv=>whnf
      refine callT_go (l:=tRed) (by decide) 5 (c:=n_DivMod) rfl (n,((Nat.gcd n.natAbs d.natAbs : Nat) : Int)) (by show DMOK (n) ((Nat.gcd n.natAbs d.natAbs : Nat) : Int); rw [hgg']; exact hd1) ?_ ?_ ?_
      · exact ⟨⟨trivial,trivial,trivial⟩,⟨trivial,trivial,trivial⟩,trivial⟩
      · rfl
      conv=>whnf
      repeat first | refine ⟨⟨_,rfl,rfl⟩,?_⟩ | refine ⟨trivial,?_⟩
      conv=>whnf
      refine callT_go (l:=tRed) (by decide) 5 (c:=n_DivMod) rfl (d,((Nat.gcd n.natAbs d.natAbs : Nat) : Int)) (by show DMOK (d) ((Nat.gcd n.natAbs d.natAbs : Nat) : Int); rw [hgg']; exact hd2) ?_ ?_ ?_
      · exact ⟨⟨trivial,trivial,trivial⟩,⟨trivial,trivial,trivial⟩,trivial⟩
      · rfl
      conv=>whnf
      repeat first | refine ⟨⟨_,rfl,rfl⟩,?_⟩ | refine ⟨trivial,?_⟩
      conv=>whnf
      exact SealV.same rfl (eRat.pureV _)
    · have hg1 : ((Nat.gcd n.natAbs d.natAbs : Nat) : Int) = 1:=by
        have h1 : cmpZ ((Nat.gcd n.natAbs d.natAbs : Nat) : Int) 1 = 0:=ine_no.1 h1
        unfold cmpZ at h1
        split at h1
        · omega
        · split at h1 <;> omega
      rw [hg1,dmQ_one,dmQ_one]
      conv=>whnf
      repeat first | refine ⟨⟨_,rfl,rfl⟩,?_⟩ | refine ⟨trivial,?_⟩
      conv=>whnf
      exact SealV.same rfl (eRat.pureV _)
noncomputable def n_reduced : Cn Tryz.prog:=.of2 eBig eBig eRat 215 false RedOK redQ (fun e=>by cases e) c_reduced (hasbody rfl rfl)
end Go.Sy
namespace Go.Sy
open Go.RowKit Go.Proofs
set_option linter.unusedVariables false
set_option linter.unusedSimpArgs false
set_option maxRecDepth 1000000
set_option maxHeartbeats 0
attribute [local irreducible] Cw SealV SealL PF Sub
attribute [local instance] tb0
theorem SH.sz {z : Int} (h : SH z) : SZ z:=by unfold SH at h; unfold SZ; omega
theorem SH_dn {n d : Int} (h : SH d) : SH (Q.dn (n,d)):=by
  unfold Q.dn
  split
  · unfold SH; decide
  · exact h
theorem nd_mul (a b : Nat) : nd (a * b) ≤ nd a + nd b:=by
  apply nd_le
  rw [Nat.pow_add]
  exact Nat.mul_lt_mul'' (lt_nd a) (lt_nd b)
theorem SZ_mul {a b : Int} (ha : SH a) (hb : SH b) : SZ (a * b):=by
  unfold SH at ha hb
  unfold SZ
  rw [Int.natAbs_mul]
  have:=nd_mul a.natAbs b.natAbs
  omega
def Q.neg (p : Q) : Q:=(-p.1,p.2)
theorem c_RNeg (n d : Int) : PFp 344 (.cons (eRat.v (n,d)) .nil) (eRat.v (Q.neg (n,d))):=by
  refine PF.of_wp (c:=_) p_mixed (by decide) (fn:=Tryz.f344) rfl rfl rfl (.cons (eRat.pureV _) .nil) (call:=callT [n_Neg]) (fun B0=>callT_ok p_callable [n_Neg] B0) ?_
  intro B0
  conv=>whnf
  refine callT_go (l:=[n_Neg]) (by decide) 0 (c:=n_Neg) rfl n trivial ?_ ?_ ?_
  · exact ⟨⟨trivial,trivial,trivial⟩,trivial⟩
  · rfl
  conv=>whnf
  repeat first | refine ⟨⟨_,rfl,rfl⟩,?_⟩ | refine ⟨trivial,?_⟩
  conv=>whnf
  exact SealV.same rfl (eRat.pureV _)
noncomputable def n_RNeg : Cn Tryz.prog:=.of1 eRat eRat 344 false (fun _=>True) Q.neg (fun e=>by cases e) (fun q _=>c_RNeg q.1 q.2) (hasbody rfl rfl)
def OK2 (R : Q → Q → Prop) (p q : Q) : Prop:=SH p.1∧SH p.2∧SH q.1∧SH q.2∧R p q
noncomputable def tCmp : List (Cn Tryz.prog):=[n_whole,n_Compare,n_Den,n_Mul]
def Q.cmp (p q : Q) : Int:=if (Q.whole p && Q.whole q) = true then cmpZ p.1 q.1 else cmpZ (p.1 * Q.dn q) (q.1 * Q.dn p)
def CmpOK : Q → Q → Prop:=OK2 fun _ _=>True
theorem c_RCompare (p q : Q) (h : CmpOK p q) : PFp 217 (.cons (eRat.v p) (.cons (eRat.v q) .nil)) ((eInt .i64).v (Q.cmp p q)):=by
  obtain ⟨n,d⟩:=p
  obtain ⟨m,e⟩:=q
  obtain ⟨hn,hd,hm,he,hr⟩:=h
  have hdn : SH (Q.dn (n,d)):=SH_dn hd
  have hen : SH (Q.dn (m,e)):=SH_dn he
  refine PF.of_wp (c:=_) p_mixed (by decide) (fn:=Tryz.f217) rfl rfl rfl (.cons (eRat.pureV _) (.cons (eRat.pureV _) .nil)) (call:=callT tCmp) (fun B0=>callT_ok p_callable tCmp B0) ?_
  intro B0
  conv=>whnf
  refine callT_go (l:=tCmp) (by decide) 0 (c:=n_whole) rfl (n,d) (SH.sz hd) ?_ ?_ ?_
  · exact ⟨⟨trivial,trivial,trivial,trivial,trivial⟩,trivial⟩
  · rfl
  conv=>whnf
  repeat first | refine ⟨⟨_,rfl,rfl⟩,?_⟩ | refine ⟨trivial,?_⟩
  conv=>whnf
  refine bSplit (fun h1=>?_) (fun h1=>?_)
  · have h1 : Q.whole (n,d) = true:=h1
    conv=>whnf
    refine callT_go (l:=tCmp) (by decide) 0 (c:=n_whole) rfl (m,e) (SH.sz he) ?_ ?_ ?_
    · exact ⟨⟨trivial,trivial,trivial,trivial,trivial⟩,trivial⟩
    · rfl
    conv=>whnf
    repeat first | refine ⟨⟨_,rfl,rfl⟩,?_⟩ | refine ⟨trivial,?_⟩
    conv=>whnf
    refine bSplit (fun h2=>?_) (fun h2=>?_)
    · have h2 : Q.whole (m,e) = true:=h2
      rw [show Q.cmp (n,d) (m,e) = _ from if_pos (by rw [h1,h2]; rfl)]
      conv=>whnf
      repeat first | refine ⟨⟨_,rfl,rfl⟩,?_⟩ | refine ⟨trivial,?_⟩
      conv=>whnf
      refine callT_go (l:=tCmp) (by decide) 1 (c:=n_Compare) rfl (n,m) ⟨SH.sz hn,SH.sz hm⟩ ?_ ?_ ?_
      · exact ⟨⟨trivial,trivial,trivial⟩,⟨trivial,trivial,trivial⟩,trivial⟩
      · rfl
      conv=>whnf
      repeat first | refine ⟨⟨_,rfl,rfl⟩,?_⟩ | refine ⟨trivial,?_⟩
      conv=>whnf
      exact SealV.pure .int
    · have h2 : Q.whole (m,e) = false:=h2
      have hw : (Q.whole (n,d) && Q.whole (m,e)) = false:=by rw [h2,Bool.and_false]
      rw [show Q.cmp (n,d) (m,e) = _ from if_neg (by rw [hw]; decide)]
      conv=>whnf
      repeat first | refine ⟨⟨_,rfl,rfl⟩,?_⟩ | refine ⟨trivial,?_⟩
      conv=>whnf
      refine callT_go (l:=tCmp) (by decide) 2 (c:=n_Den) rfl (m,e) trivial ?_ ?_ ?_
      · exact ⟨⟨trivial,trivial,trivial,trivial,trivial⟩,trivial⟩
      · rfl
      conv=>whnf
      repeat first | refine ⟨⟨_,rfl,rfl⟩,?_⟩ | refine ⟨trivial,?_⟩
      conv=>whnf
      refine callT_go (l:=tCmp) (by decide) 3 (c:=n_Mul) rfl (n,Q.dn (m,e)) ⟨hn,hen⟩ ?_ ?_ ?_
      · exact ⟨⟨trivial,trivial,trivial⟩,⟨trivial,trivial,trivial⟩,trivial⟩
      · rfl
      conv=>whnf
      repeat first | refine ⟨⟨_,rfl,rfl⟩,?_⟩ | refine ⟨trivial,?_⟩
      conv=>whnf
      refine callT_go (l:=tCmp) (by decide) 2 (c:=n_Den) rfl (n,d) trivial ?_ ?_ ?_
      · exact ⟨⟨trivial,trivial,trivial,trivial,trivial⟩,trivial⟩
      · rfl
      conv=>whnf
      repeat first | refine ⟨⟨_,rfl,rfl⟩,?_⟩ | refine ⟨trivial,?_⟩
      conv=>whnf
      refine callT_go (l:=tCmp) (by decide) 3 (c:=n_Mul) rfl (m,Q.dn (n,d)) ⟨hm,hdn⟩ ?_ ?_ ?_
      · exact ⟨⟨trivial,trivial,trivial⟩,⟨trivial,trivial,trivial⟩,trivial⟩
      · rfl
      conv=>whnf
      repeat first | refine ⟨⟨_,rfl,rfl⟩,?_⟩ | refine ⟨trivial,?_⟩
      conv=>whnf
      refine callT_go (l:=tCmp) (by decide) 1 (c:=n_Compare) rfl (n * Q.dn (m,e),m * Q.dn (n,d)) ⟨SZ_mul hn hen,SZ_mul hm hdn⟩ ?_ ?_ ?_
      · exact ⟨⟨trivial,trivial,trivial⟩,⟨trivial,trivial,trivial⟩,trivial⟩
      · rfl
      conv=>whnf
      repeat first | refine ⟨⟨_,rfl,rfl⟩,?_⟩ | refine ⟨trivial,?_⟩
      conv=>whnf
      exact SealV.pure .int
  · have h1 : Q.whole (n,d) = false:=h1
    have hw : (Q.whole (n,d) && Q.whole (m,e)) = false:=by rw [h1,Bool.false_and]
    rw [show Q.cmp (n,d) (m,e) = _ from if_neg (by rw [hw]; decide)]
    conv=>whnf
    repeat first | refine ⟨⟨_,rfl,rfl⟩,?_⟩ | refine ⟨trivial,?_⟩
    conv=>whnf
    refine callT_go (l:=tCmp) (by decide) 2 (c:=n_Den) rfl (m,e) trivial ?_ ?_ ?_
    · exact ⟨⟨trivial,trivial,trivial,trivial,trivial⟩,trivial⟩
    · rfl
    conv=>whnf
    repeat first | refine ⟨⟨_,rfl,rfl⟩,?_⟩ | refine ⟨trivial,?_⟩
    conv=>whnf
    refine callT_go (l:=tCmp) (by decide) 3 (c:=n_Mul) rfl (n,Q.dn (m,e)) ⟨hn,hen⟩ ?_ ?_ ?_
    · exact ⟨⟨trivial,trivial,trivial⟩,⟨trivial,trivial,trivial⟩,trivial⟩
    · rfl
    conv=>whnf
    repeat first | refine ⟨⟨_,rfl,rfl⟩,?_⟩ | refine ⟨trivial,?_⟩
    conv=>whnf
    refine callT_go (l:=tCmp) (by decide) 2 (c:=n_Den) rfl (n,d) trivial ?_ ?_ ?_
    · exact ⟨⟨trivial,trivial,trivial,trivial,trivial⟩,trivial⟩
    · rfl
    conv=>whnf
    repeat first | refine ⟨⟨_,rfl,rfl⟩,?_⟩ | refine ⟨trivial,?_⟩
    conv=>whnf
    refine callT_go (l:=tCmp) (by decide) 3 (c:=n_Mul) rfl (m,Q.dn (n,d)) ⟨hm,hdn⟩ ?_ ?_ ?_
    · exact ⟨⟨trivial,trivial,trivial⟩,⟨trivial,trivial,trivial⟩,trivial⟩
    · rfl
    conv=>whnf
    repeat first | refine ⟨⟨_,rfl,rfl⟩,?_⟩ | refine ⟨trivial,?_⟩
    conv=>whnf
    refine callT_go (l:=tCmp) (by decide) 1 (c:=n_Compare) rfl (n * Q.dn (m,e),m * Q.dn (n,d)) ⟨SZ_mul hn hen,SZ_mul hm hdn⟩ ?_ ?_ ?_
    · exact ⟨⟨trivial,trivial,trivial⟩,⟨trivial,trivial,trivial⟩,trivial⟩
    · rfl
    conv=>whnf
    repeat first | refine ⟨⟨_,rfl,rfl⟩,?_⟩ | refine ⟨trivial,?_⟩
    conv=>whnf
    exact SealV.pure .int
noncomputable def n_RCompare : Cn Tryz.prog:=.of2 eRat eRat (eInt .i64) 217 true CmpOK Q.cmp (flat_int _) c_RCompare (hasbody rfl rfl)
noncomputable def tRAdd : List (Cn Tryz.prog):=[n_whole,n_Add,n_Den,n_Mul,n_reduced]
def Q.add (p q : Q) : Q:=if (Q.whole p && Q.whole q) = true then (p.1 + q.1,0) else redQ (p.1 * Q.dn q + q.1 * Q.dn p) (Q.dn p * Q.dn q)
def AddOK : Q → Q → Prop:=OK2 fun p q=>(Q.whole p && Q.whole q) = false → RedOK (p.1 * Q.dn q + q.1 * Q.dn p) (Q.dn p * Q.dn q)
theorem c_RAdd (p q : Q) (h : AddOK p q) : PFp 174 (.cons (eRat.v p) (.cons (eRat.v q) .nil)) (eRat.v (Q.add p q)):=by
  obtain ⟨n,d⟩:=p
  obtain ⟨m,e⟩:=q
  obtain ⟨hn,hd,hm,he,hr⟩:=h
  have hdn : SH (Q.dn (n,d)):=SH_dn hd
  have hen : SH (Q.dn (m,e)):=SH_dn he
  refine PF.of_wp (c:=_) p_mixed (by decide) (fn:=Tryz.f174) rfl rfl rfl (.cons (eRat.pureV _) (.cons (eRat.pureV _) .nil)) (call:=callT tRAdd) (fun B0=>callT_ok p_callable tRAdd B0) ?_
  intro B0
  conv=>whnf
  refine callT_go (l:=tRAdd) (by decide) 0 (c:=n_whole) rfl (n,d) (SH.sz hd) ?_ ?_ ?_
  · exact ⟨⟨trivial,trivial,trivial,trivial,trivial⟩,trivial⟩
  · rfl
  conv=>whnf
  repeat first | refine ⟨⟨_,rfl,rfl⟩,?_⟩ | refine ⟨trivial,?_⟩
  conv=>whnf
  refine bSplit (fun h1=>?_) (fun h1=>?_)
  · have h1 : Q.whole (n,d) = true:=h1
    conv=>whnf
    refine callT_go (l:=tRAdd) (by decide) 0 (c:=n_whole) rfl (m,e) (SH.sz he) ?_ ?_ ?_
    · exact ⟨⟨trivial,trivial,trivial,trivial,trivial⟩,trivial⟩
    · rfl
    conv=>whnf
    repeat first | refine ⟨⟨_,rfl,rfl⟩,?_⟩ | refine ⟨trivial,?_⟩
    conv=>whnf
    refine bSplit (fun h2=>?_) (fun h2=>?_)
    · have h2 : Q.whole (m,e) = true:=h2
      rw [show Q.add (n,d) (m,e) = _ from if_pos (by rw [h1,h2]; rfl)]
      conv=>whnf
      repeat first | refine ⟨⟨_,rfl,rfl⟩,?_⟩ | refine ⟨trivial,?_⟩
      conv=>whnf
      refine callT_go (l:=tRAdd) (by decide) 1 (c:=n_Add) rfl (n,m) ⟨SH.sz hn,SH.sz hm⟩ ?_ ?_ ?_
      · exact ⟨⟨trivial,trivial,trivial⟩,⟨trivial,trivial,trivial⟩,trivial⟩
      · rfl
      conv=>whnf
      repeat first | refine ⟨⟨_,rfl,rfl⟩,?_⟩ | refine ⟨trivial,?_⟩
      conv=>whnf
      exact SealV.agg (.cons (SealV.pure .bool) (.cons (SealV.pure (eMag.pureV _)) (.cons (SealV.pure .bool) (.cons SealV.nils .nil))))
    · have h2 : Q.whole (m,e) = false:=h2
      have hw : (Q.whole (n,d) && Q.whole (m,e)) = false:=by rw [h2,Bool.and_false]
      rw [show Q.add (n,d) (m,e) = _ from if_neg (by rw [hw]; decide)]
      conv=>whnf
      repeat first | refine ⟨⟨_,rfl,rfl⟩,?_⟩ | refine ⟨trivial,?_⟩
      conv=>whnf
      refine callT_go (l:=tRAdd) (by decide) 2 (c:=n_Den) rfl (m,e) trivial ?_ ?_ ?_
      · exact ⟨⟨trivial,trivial,trivial,trivial,trivial⟩,trivial⟩
      · rfl
      conv=>whnf
      repeat first | refine ⟨⟨_,rfl,rfl⟩,?_⟩ | refine ⟨trivial,?_⟩
      conv=>whnf
      refine callT_go (l:=tRAdd) (by decide) 3 (c:=n_Mul) rfl (n,Q.dn (m,e)) ⟨hn,hen⟩ ?_ ?_ ?_
      · exact ⟨⟨trivial,trivial,trivial⟩,⟨trivial,trivial,trivial⟩,trivial⟩
      · rfl
      conv=>whnf
      repeat first | refine ⟨⟨_,rfl,rfl⟩,?_⟩ | refine ⟨trivial,?_⟩
      conv=>whnf
      refine callT_go (l:=tRAdd) (by decide) 2 (c:=n_Den) rfl (n,d) trivial ?_ ?_ ?_
      · exact ⟨⟨trivial,trivial,trivial,trivial,trivial⟩,trivial⟩
      · rfl
      conv=>whnf
      repeat first | refine ⟨⟨_,rfl,rfl⟩,?_⟩ | refine ⟨trivial,?_⟩
      conv=>whnf
      refine callT_go (l:=tRAdd) (by decide) 3 (c:=n_Mul) rfl (m,Q.dn (n,d)) ⟨hm,hdn⟩ ?_ ?_ ?_
      · exact ⟨⟨trivial,trivial,trivial⟩,⟨trivial,trivial,trivial⟩,trivial⟩
      · rfl
      conv=>whnf
      repeat first | refine ⟨⟨_,rfl,rfl⟩,?_⟩ | refine ⟨trivial,?_⟩
      conv=>whnf
      refine callT_go (l:=tRAdd) (by decide) 1 (c:=n_Add) rfl (n * Q.dn (m,e),m * Q.dn (n,d)) ⟨SZ_mul hn hen,SZ_mul hm hdn⟩ ?_ ?_ ?_
      · exact ⟨⟨trivial,trivial,trivial⟩,⟨trivial,trivial,trivial⟩,trivial⟩
      · rfl
      conv=>whnf
      repeat first | refine ⟨⟨_,rfl,rfl⟩,?_⟩ | refine ⟨trivial,?_⟩
      conv=>whnf
      refine callT_go (l:=tRAdd) (by decide) 2 (c:=n_Den) rfl (n,d) trivial ?_ ?_ ?_
      · exact ⟨⟨trivial,trivial,trivial,trivial,trivial⟩,trivial⟩
      · rfl
      conv=>whnf
      repeat first | refine ⟨⟨_,rfl,rfl⟩,?_⟩ | refine ⟨trivial,?_⟩
      conv=>whnf
      refine callT_go (l:=tRAdd) (by decide) 2 (c:=n_Den) rfl (m,e) trivial ?_ ?_ ?_
      · exact ⟨⟨trivial,trivial,trivial,trivial,trivial⟩,trivial⟩
      · rfl
      conv=>whnf
      repeat first | refine ⟨⟨_,rfl,rfl⟩,?_⟩ | refine ⟨trivial,?_⟩
      conv=>whnf
      refine callT_go (l:=tRAdd) (by decide) 3 (c:=n_Mul) rfl (Q.dn (n,d),Q.dn (m,e)) ⟨hdn,hen⟩ ?_ ?_ ?_
      · exact ⟨⟨trivial,trivial,trivial⟩,⟨trivial,trivial,trivial⟩,trivial⟩
      · rfl
      conv=>whnf
      repeat first | refine ⟨⟨_,rfl,rfl⟩,?_⟩ | refine ⟨trivial,?_⟩
      conv=>whnf
      refine callT_go (l:=tRAdd) (by decide) 4 (c:=n_reduced) rfl (n * Q.dn (m,e) + m * Q.dn (n,d),Q.dn (n,d) * Q.dn (m,e)) (hr hw) ?_ ?_ ?_
      · exact ⟨⟨trivial,trivial,trivial⟩,⟨trivial,trivial,trivial⟩,trivial⟩
      · rfl
      conv=>whnf
      repeat first | refine ⟨⟨_,rfl,rfl⟩,?_⟩ | refine ⟨trivial,?_⟩
      conv=>whnf
      exact SealV.same rfl (eRat.pureV _)
  · have h1 : Q.whole (n,d) = false:=h1
    have hw : (Q.whole (n,d) && Q.whole (m,e)) = false:=by rw [h1,Bool.false_and]
    rw [show Q.add (n,d) (m,e) = _ from if_neg (by rw [hw]; decide)]
    conv=>whnf
    repeat first | refine ⟨⟨_,rfl,rfl⟩,?_⟩ | refine ⟨trivial,?_⟩
    conv=>whnf
    refine callT_go (l:=tRAdd) (by decide) 2 (c:=n_Den) rfl (m,e) trivial ?_ ?_ ?_
    · exact ⟨⟨trivial,trivial,trivial,trivial,trivial⟩,trivial⟩
    · rfl
    conv=>whnf
    repeat first | refine ⟨⟨_,rfl,rfl⟩,?_⟩ | refine ⟨trivial,?_⟩
    conv=>whnf
    refine callT_go (l:=tRAdd) (by decide) 3 (c:=n_Mul) rfl (n,Q.dn (m,e)) ⟨hn,hen⟩ ?_ ?_ ?_
    · exact ⟨⟨trivial,trivial,trivial⟩,⟨trivial,trivial,trivial⟩,trivial⟩
    · rfl
    conv=>whnf
    repeat first | refine ⟨⟨_,rfl,rfl⟩,?_⟩ | refine ⟨trivial,?_⟩
    conv=>whnf
    refine callT_go (l:=tRAdd) (by decide) 2 (c:=n_Den) rfl (n,d) trivial ?_ ?_ ?_
    · exact ⟨⟨trivial,trivial,trivial,trivial,trivial⟩,trivial⟩
    · rfl
    conv=>whnf
    repeat first | refine ⟨⟨_,rfl,rfl⟩,?_⟩ | refine ⟨trivial,?_⟩
    conv=>whnf
    refine callT_go (l:=tRAdd) (by decide) 3 (c:=n_Mul) rfl (m,Q.dn (n,d)) ⟨hm,hdn⟩ ?_ ?_ ?_
    · exact ⟨⟨trivial,trivial,trivial⟩,⟨trivial,trivial,trivial⟩,trivial⟩
    · rfl
    conv=>whnf
    repeat first | refine ⟨⟨_,rfl,rfl⟩,?_⟩ | refine ⟨trivial,?_⟩
    conv=>whnf
    refine callT_go (l:=tRAdd) (by decide) 1 (c:=n_Add) rfl (n * Q.dn (m,e),m * Q.dn (n,d)) ⟨SZ_mul hn hen,SZ_mul hm hdn⟩ ?_ ?_ ?_
    · exact ⟨⟨trivial,trivial,trivial⟩,⟨trivial,trivial,trivial⟩,trivial⟩
    · rfl
    conv=>whnf
    repeat first | refine ⟨⟨_,rfl,rfl⟩,?_⟩ | refine ⟨trivial,?_⟩
    conv=>whnf
    refine callT_go (l:=tRAdd) (by decide) 2 (c:=n_Den) rfl (n,d) trivial ?_ ?_ ?_
    · exact ⟨⟨trivial,trivial,trivial,trivial,trivial⟩,trivial⟩
    · rfl
    conv=>whnf
    repeat first | refine ⟨⟨_,rfl,rfl⟩,?_⟩ | refine ⟨trivial,?_⟩
    conv=>whnf
    refine callT_go (l:=tRAdd) (by decide) 2 (c:=n_Den) rfl (m,e) trivial ?_ ?_ ?_
    · exact ⟨⟨trivial,trivial,trivial,trivial,trivial⟩,trivial⟩
    · rfl
    conv=>whnf
    repeat first | refine ⟨⟨_,rfl,rfl⟩,?_⟩ | refine ⟨trivial,?_⟩
    conv=>whnf
    refine callT_go (l:=tRAdd) (by decide) 3 (c:=n_Mul) rfl (Q.dn (n,d),Q.dn (m,e)) ⟨hdn,hen⟩ ?_ ?_ ?_
    · exact ⟨⟨trivial,trivial,trivial⟩,⟨trivial,trivial,trivial⟩,trivial⟩
    · rfl
    conv=>whnf
    repeat first | refine ⟨⟨_,rfl,rfl⟩,?_⟩ | refine ⟨trivial,?_⟩
    conv=>whnf
    refine callT_go (l:=tRAdd) (by decide) 4 (c:=n_reduced) rfl (n * Q.dn (m,e) + m * Q.dn (n,d),Q.dn (n,d) * Q.dn (m,e)) (hr hw) ?_ ?_ ?_
    · exact ⟨⟨trivial,trivial,trivial⟩,⟨trivial,trivial,trivial⟩,trivial⟩
    · rfl
    conv=>whnf
    repeat first | refine ⟨⟨_,rfl,rfl⟩,?_⟩ | refine ⟨trivial,?_⟩
    conv=>whnf
    exact SealV.same rfl (eRat.pureV _)
noncomputable def n_RAdd : Cn Tryz.prog:=.of2 eRat eRat eRat 174 false AddOK Q.add (fun e=>by cases e) c_RAdd (hasbody rfl rfl)
noncomputable def tRMul : List (Cn Tryz.prog):=[n_whole,n_Den,n_Mul,n_reduced]
def Q.mul (p q : Q) : Q:=if (Q.whole p && Q.whole q) = true then (p.1 * q.1,0) else redQ (p.1 * q.1) (Q.dn p * Q.dn q)
def MulOK : Q → Q → Prop:=OK2 fun p q=>(Q.whole p && Q.whole q) = false → RedOK (p.1 * q.1) (Q.dn p * Q.dn q)
theorem c_RMul (p q : Q) (h : MulOK p q) : PFp 324 (.cons (eRat.v p) (.cons (eRat.v q) .nil)) (eRat.v (Q.mul p q)):=by
  obtain ⟨n,d⟩:=p
  obtain ⟨m,e⟩:=q
  obtain ⟨hn,hd,hm,he,hr⟩:=h
  have hdn : SH (Q.dn (n,d)):=SH_dn hd
  have hen : SH (Q.dn (m,e)):=SH_dn he
  refine PF.of_wp (c:=_) p_mixed (by decide) (fn:=Tryz.f324) rfl rfl rfl (.cons (eRat.pureV _) (.cons (eRat.pureV _) .nil)) (call:=callT tRMul) (fun B0=>callT_ok p_callable tRMul B0) ?_
  intro B0
  conv=>whnf
  refine callT_go (l:=tRMul) (by decide) 0 (c:=n_whole) rfl (n,d) (SH.sz hd) ?_ ?_ ?_
  · exact ⟨⟨trivial,trivial,trivial,trivial,trivial⟩,trivial⟩
  · rfl
  conv=>whnf
  repeat first | refine ⟨⟨_,rfl,rfl⟩,?_⟩ | refine ⟨trivial,?_⟩
  conv=>whnf
  refine bSplit (fun h1=>?_) (fun h1=>?_)
  · have h1 : Q.whole (n,d) = true:=h1
    conv=>whnf
    refine callT_go (l:=tRMul) (by decide) 0 (c:=n_whole) rfl (m,e) (SH.sz he) ?_ ?_ ?_
    · exact ⟨⟨trivial,trivial,trivial,trivial,trivial⟩,trivial⟩
    · rfl
    conv=>whnf
    repeat first | refine ⟨⟨_,rfl,rfl⟩,?_⟩ | refine ⟨trivial,?_⟩
    conv=>whnf
    refine bSplit (fun h2=>?_) (fun h2=>?_)
    · have h2 : Q.whole (m,e) = true:=h2
      rw [show Q.mul (n,d) (m,e) = _ from if_pos (by rw [h1,h2]; rfl)]
      conv=>whnf
      repeat first | refine ⟨⟨_,rfl,rfl⟩,?_⟩ | refine ⟨trivial,?_⟩
      conv=>whnf
      refine callT_go (l:=tRMul) (by decide) 2 (c:=n_Mul) rfl (n,m) ⟨hn,hm⟩ ?_ ?_ ?_
      · exact ⟨⟨trivial,trivial,trivial⟩,⟨trivial,trivial,trivial⟩,trivial⟩
      · rfl
      conv=>whnf
      repeat first | refine ⟨⟨_,rfl,rfl⟩,?_⟩ | refine ⟨trivial,?_⟩
      conv=>whnf
      exact SealV.agg (.cons (SealV.pure .bool) (.cons (SealV.pure (eMag.pureV _)) (.cons (SealV.pure .bool) (.cons SealV.nils .nil))))
    · have h2 : Q.whole (m,e) = false:=h2
      have hw : (Q.whole (n,d) && Q.whole (m,e)) = false:=by rw [h2,Bool.and_false]
      rw [show Q.mul (n,d) (m,e) = _ from if_neg (by rw [hw]; decide)]
      conv=>whnf
      repeat first | refine ⟨⟨_,rfl,rfl⟩,?_⟩ | refine ⟨trivial,?_⟩
      conv=>whnf
      refine callT_go (l:=tRMul) (by decide) 2 (c:=n_Mul) rfl (n,m) ⟨hn,hm⟩ ?_ ?_ ?_
      · exact ⟨⟨trivial,trivial,trivial⟩,⟨trivial,trivial,trivial⟩,trivial⟩
      · rfl
      conv=>whnf
      repeat first | refine ⟨⟨_,rfl,rfl⟩,?_⟩ | refine ⟨trivial,?_⟩
      conv=>whnf
      refine callT_go (l:=tRMul) (by decide) 1 (c:=n_Den) rfl (n,d) trivial ?_ ?_ ?_
      · exact ⟨⟨trivial,trivial,trivial,trivial,trivial⟩,trivial⟩
      · rfl
      conv=>whnf
      repeat first | refine ⟨⟨_,rfl,rfl⟩,?_⟩ | refine ⟨trivial,?_⟩
      conv=>whnf
      refine callT_go (l:=tRMul) (by decide) 1 (c:=n_Den) rfl (m,e) trivial ?_ ?_ ?_
      · exact ⟨⟨trivial,trivial,trivial,trivial,trivial⟩,trivial⟩
      · rfl
      conv=>whnf
      repeat first | refine ⟨⟨_,rfl,rfl⟩,?_⟩ | refine ⟨trivial,?_⟩
      conv=>whnf
      refine callT_go (l:=tRMul) (by decide) 2 (c:=n_Mul) rfl (Q.dn (n,d),Q.dn (m,e)) ⟨hdn,hen⟩ ?_ ?_ ?_
      · exact ⟨⟨trivial,trivial,trivial⟩,⟨trivial,trivial,trivial⟩,trivial⟩
      · rfl
      conv=>whnf
      repeat first | refine ⟨⟨_,rfl,rfl⟩,?_⟩ | refine ⟨trivial,?_⟩
      conv=>whnf
      refine callT_go (l:=tRMul) (by decide) 3 (c:=n_reduced) rfl (n * m,Q.dn (n,d) * Q.dn (m,e)) (hr hw) ?_ ?_ ?_
      · exact ⟨⟨trivial,trivial,trivial⟩,⟨trivial,trivial,trivial⟩,trivial⟩
      · rfl
      conv=>whnf
      repeat first | refine ⟨⟨_,rfl,rfl⟩,?_⟩ | refine ⟨trivial,?_⟩
      conv=>whnf
      exact SealV.same rfl (eRat.pureV _)
  · have h1 : Q.whole (n,d) = false:=h1
    have hw : (Q.whole (n,d) && Q.whole (m,e)) = false:=by rw [h1,Bool.false_and]
    rw [show Q.mul (n,d) (m,e) = _ from if_neg (by rw [hw]; decide)]
    conv=>whnf
    repeat first | refine ⟨⟨_,rfl,rfl⟩,?_⟩ | refine ⟨trivial,?_⟩
    conv=>whnf
    refine callT_go (l:=tRMul) (by decide) 2 (c:=n_Mul) rfl (n,m) ⟨hn,hm⟩ ?_ ?_ ?_
    · exact ⟨⟨trivial,trivial,trivial⟩,⟨trivial,trivial,trivial⟩,trivial⟩
    · rfl
    conv=>whnf
    repeat first | refine ⟨⟨_,rfl,rfl⟩,?_⟩ | refine ⟨trivial,?_⟩
    conv=>whnf
    refine callT_go (l:=tRMul) (by decide) 1 (c:=n_Den) rfl (n,d) trivial ?_ ?_ ?_
    · exact ⟨⟨trivial,trivial,trivial,trivial,trivial⟩,trivial⟩
    · rfl
    conv=>whnf
    repeat first | refine ⟨⟨_,rfl,rfl⟩,?_⟩ | refine ⟨trivial,?_⟩
    conv=>whnf
    refine callT_go (l:=tRMul) (by decide) 1 (c:=n_Den) rfl (m,e) trivial ?_ ?_ ?_
    · exact ⟨⟨trivial,trivial,trivial,trivial,trivial⟩,trivial⟩
    · rfl
    conv=>whnf
    repeat first | refine ⟨⟨_,rfl,rfl⟩,?_⟩ | refine ⟨trivial,?_⟩
    conv=>whnf
    refine callT_go (l:=tRMul) (by decide) 2 (c:=n_Mul) rfl (Q.dn (n,d),Q.dn (m,e)) ⟨hdn,hen⟩ ?_ ?_ ?_
    · exact ⟨⟨trivial,trivial,trivial⟩,⟨trivial,trivial,trivial⟩,trivial⟩
    · rfl
    conv=>whnf
    repeat first | refine ⟨⟨_,rfl,rfl⟩,?_⟩ | refine ⟨trivial,?_⟩
    conv=>whnf
    refine callT_go (l:=tRMul) (by decide) 3 (c:=n_reduced) rfl (n * m,Q.dn (n,d) * Q.dn (m,e)) (hr hw) ?_ ?_ ?_
    · exact ⟨⟨trivial,trivial,trivial⟩,⟨trivial,trivial,trivial⟩,trivial⟩
    · rfl
    conv=>whnf
    repeat first | refine ⟨⟨_,rfl,rfl⟩,?_⟩ | refine ⟨trivial,?_⟩
    conv=>whnf
    exact SealV.same rfl (eRat.pureV _)
noncomputable def n_RMul : Cn Tryz.prog:=.of2 eRat eRat eRat 324 false MulOK Q.mul (fun e=>by cases e) c_RMul (hasbody rfl rfl)
end Go.Sy
