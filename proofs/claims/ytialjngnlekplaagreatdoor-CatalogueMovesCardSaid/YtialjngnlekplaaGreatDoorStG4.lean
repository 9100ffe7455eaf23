/- meeting.Interval of two boxes along an axis: the walk (printed by genG.py). -/
import Derived.Test.YtialjngnlekplaaGreatDoorStG3
namespace Go.Sy
open Go.RowKit Go.Proofs
set_option linter.unusedVariables false
set_option linter.unusedSimpArgs false
set_option maxRecDepth 1000000
set_option maxHeartbeats 0
attribute [local irreducible] Cw SealV SealL PF Sub
theorem c_Iv0 (n : Cn Tryz.prog) (hf : n.f = 212) (hfl : n.flat = false) (a b : Bx) (ha : BxOK n a) (hb : BxOK n b) :
    PF Tryz.prog 235 (.cons (shV a.sh) (.cons (shV b.sh) (.cons (eQ3.v ((-1,0),(0,0),(0,0))) .nil))) (ivVal (gapQ a.sh b.sh) ((-1,0),(0,0),(0,0)) ((1,0),(0,0),(0,0)) (1,0) (-1,0) [((0,0),(-1,0),(0,0)),((0,0),(0,0),(-1,0)),((0,0),(0,0),(1,0)),((0,0),(1,0),(0,0))]):=by
  have hg : ∀ n ∈ axL6,GapOK a.sh b.sh n:=fun n hn=>(bx_gap ha.1 hb.1 n hn).1
  have hw : ∀ n ∈ axL6,Wh 100000000 (gapQ a.sh b.sh n):=fun n hn=>(bx_gap ha.1 hb.1 n hn).2
  refine PF.of_wp (c:=_) p_mixed (by decide) (fn:=Tryz.f235) rfl rfl rfl (.cons (shV_pure _) (.cons (shV_pure _) (.cons (eQ3.pureV _) .nil))) (call:=callW (tIv n hf hfl)) (fun B0=>callW_ok _ B0) ?_
  intro B0
  have D:=tIv_nodup n hf hfl
  conv=>whnf
  refine callW_gov D 0 (c:=Cn.lift tb1 n_VIsZero) rfl rfl ((-1,0),(0,0),(0,0)) (isz_ok _ (by simp[axL6])) (v:=.bool false) (hv:=rfl) (hk:=?_)
  conv=>whnf
  repeat (refine nx ?_;conv=>whnf)
  refine callW_go D 1 (c:=n_AxB n hf hfl) rfl rfl (a,b) ⟨ha,hb⟩ (hk:=?_)
  conv=>whnf
  repeat (refine nx ?_;conv=>whnf)
  refine Cw.unroll p_mixed rfl rfl (callW_ok _ B0) 7 ?_
  conv=>whnf
  refine IdxP.go 0 rfl (by decide) ?_
  conv=>whnf
  refine ⟨_,eQ3.rd (xs:=axL6) rfl (by decide),?_⟩
  conv=>whnf
  refine callW_go D 2 (c:=Cn.lift tb1 n_gap) rfl rfl ((a.sh,b.sh),((-1,0),(0,0),(0,0))) (hg ((-1,0),(0,0),(0,0)) (by simp[axL6])) (hk:=?_)
  conv=>whnf
  repeat (refine nx ?_;conv=>whnf)
  refine callW_gov D 3 (c:=Cn.lift tb1 n_VDot) rfl rfl (((-1,0),(0,0),(0,0)),((-1,0),(0,0),(0,0))) (dot_ok _ _ (by simp[axL6]) (by simp[axL6])) (v:=eRat.v (1,0)) (hv:=(congrArg eRat.v (by decide))) (hk:=?_)
  conv=>whnf
  repeat (refine nx ?_;conv=>whnf)
  refine callW_gov D 4 (c:=Cn.lift tb1 n_RSign) rfl rfl (1,0) trivial (v:=.int .i64 1) (hv:=rfl) (hk:=?_)
  conv=>whnf
  repeat (refine nx ?_;conv=>whnf)
  refine callW_go D 5 (c:=Cn.lift tb1 n_RDiv) rfl rfl (gapQ a.sh b.sh ((-1,0),(0,0),(0,0)),(1,0)) (div_ok1 (hw _ (by simp[axL6]))) (hk:=?_)
  conv=>whnf
  repeat (refine nx ?_;conv=>whnf)
  refine ⟨_,_,rfl,?_⟩
  conv=>whnf
  repeat (refine nx ?_;conv=>whnf)
  refine IdxP.go 1 rfl (by decide) ?_
  conv=>whnf
  refine ⟨_,eQ3.rd (xs:=axL6) rfl (by decide),?_⟩
  conv=>whnf
  refine callW_go D 2 (c:=Cn.lift tb1 n_gap) rfl rfl ((a.sh,b.sh),((0,0),(-1,0),(0,0))) (hg ((0,0),(-1,0),(0,0)) (by simp[axL6])) (hk:=?_)
  conv=>whnf
  repeat (refine nx ?_;conv=>whnf)
  refine callW_gov D 3 (c:=Cn.lift tb1 n_VDot) rfl rfl (((0,0),(-1,0),(0,0)),((-1,0),(0,0),(0,0))) (dot_ok _ _ (by simp[axL6]) (by simp[axL6])) (v:=eRat.v (0,0)) (hv:=(congrArg eRat.v (by decide))) (hk:=?_)
  conv=>whnf
  repeat (refine nx ?_;conv=>whnf)
  refine callW_gov D 4 (c:=Cn.lift tb1 n_RSign) rfl rfl (0,0) trivial (v:=.int .i64 0) (hv:=rfl) (hk:=?_)
  conv=>whnf
  repeat (refine nx ?_;conv=>whnf)
  refine callW_go D 4 (c:=Cn.lift tb1 n_RSign) rfl rfl (gapQ a.sh b.sh ((0,0),(-1,0),(0,0))) trivial (hk:=?_)
  conv=>whnf
  repeat (refine nx ?_;conv=>whnf)
  refine bSplit (fun h1=>?_) (fun h1=>?_)
  · have h1 : ile 0 (gapQ a.sh b.sh ((0,0),(-1,0),(0,0))).1.sign = true:=h1
    rw [ivVal_any (o:=((0,0),(-1,0),(0,0))) (by simp) h1]
    conv=>whnf
    repeat (refine nx ?_;conv=>whnf)
    exact SealV.tup (.cons (SealV.agg (.cons (SealV.pure .bool) (.cons SealV.nils (.cons (SealV.pure .bool) (.cons SealV.nils .nil))))) (.cons (SealV.agg (.cons (SealV.pure .bool) (.cons SealV.nils (.cons (SealV.pure .bool) (.cons SealV.nils .nil))))) (.cons (SealV.pure .bool) (.cons (SealV.pure .int) .nil))))
  have h1 : ile 0 (gapQ a.sh b.sh ((0,0),(-1,0),(0,0))).1.sign = false:=h1
  conv=>whnf
  refine IdxP.go 2 rfl (by decide) ?_
  conv=>whnf
  refine ⟨_,eQ3.rd (xs:=axL6) rfl (by decide),?_⟩
  conv=>whnf
  refine callW_go D 2 (c:=Cn.lift tb1 n_gap) rfl rfl ((a.sh,b.sh),((0,0),(0,0),(-1,0))) (hg ((0,0),(0,0),(-1,0)) (by simp[axL6])) (hk:=?_)
  conv=>whnf
  repeat (refine nx ?_;conv=>whnf)
  refine callW_gov D 3 (c:=Cn.lift tb1 n_VDot) rfl rfl (((0,0),(0,0),(-1,0)),((-1,0),(0,0),(0,0))) (dot_ok _ _ (by simp[axL6]) (by simp[axL6])) (v:=eRat.v (0,0)) (hv:=(congrArg eRat.v (by decide))) (hk:=?_)
  conv=>whnf
  repeat (refine nx ?_;conv=>whnf)
  refine callW_gov D 4 (c:=Cn.lift tb1 n_RSign) rfl rfl (0,0) trivial (v:=.int .i64 0) (hv:=rfl) (hk:=?_)
  conv=>whnf
  repeat (refine nx ?_;conv=>whnf)
  refine callW_go D 4 (c:=Cn.lift tb1 n_RSign) rfl rfl (gapQ a.sh b.sh ((0,0),(0,0),(-1,0))) trivial (hk:=?_)
  conv=>whnf
  repeat (refine nx ?_;conv=>whnf)
  refine bSplit (fun h2=>?_) (fun h2=>?_)
  · have h2 : ile 0 (gapQ a.sh b.sh ((0,0),(0,0),(-1,0))).1.sign = true:=h2
    rw [ivVal_any (o:=((0,0),(0,0),(-1,0))) (by simp) h2]
    conv=>whnf
    repeat (refine nx ?_;conv=>whnf)
    exact SealV.tup (.cons (SealV.agg (.cons (SealV.pure .bool) (.cons SealV.nils (.cons (SealV.pure .bool) (.cons SealV.nils .nil))))) (.cons (SealV.agg (.cons (SealV.pure .bool) (.cons SealV.nils (.cons (SealV.pure .bool) (.cons SealV.nils .nil))))) (.cons (SealV.pure .bool) (.cons (SealV.pure .int) .nil))))
  have h2 : ile 0 (gapQ a.sh b.sh ((0,0),(0,0),(-1,0))).1.sign = false:=h2
  conv=>whnf
  refine IdxP.go 3 rfl (by decide) ?_
  conv=>whnf
  refine ⟨_,eQ3.rd (xs:=axL6) rfl (by decide),?_⟩
  conv=>whnf
  refine callW_go D 2 (c:=Cn.lift tb1 n_gap) rfl rfl ((a.sh,b.sh),((0,0),(0,0),(1,0))) (hg ((0,0),(0,0),(1,0)) (by simp[axL6])) (hk:=?_)
  conv=>whnf
  repeat (refine nx ?_;conv=>whnf)
  refine callW_gov D 3 (c:=Cn.lift tb1 n_VDot) rfl rfl (((0,0),(0,0),(1,0)),((-1,0),(0,0),(0,0))) (dot_ok _ _ (by simp[axL6]) (by simp[axL6])) (v:=eRat.v (0,0)) (hv:=(congrArg eRat.v (by decide))) (hk:=?_)
  conv=>whnf
  repeat (refine nx ?_;conv=>whnf)
  refine callW_gov D 4 (c:=Cn.lift tb1 n_RSign) rfl rfl (0,0) trivial (v:=.int .i64 0) (hv:=rfl) (hk:=?_)
  conv=>whnf
  repeat (refine nx ?_;conv=>whnf)
  refine callW_go D 4 (c:=Cn.lift tb1 n_RSign) rfl rfl (gapQ a.sh b.sh ((0,0),(0,0),(1,0))) trivial (hk:=?_)
  conv=>whnf
  repeat (refine nx ?_;conv=>whnf)
  refine bSplit (fun h3=>?_) (fun h3=>?_)
  · have h3 : ile 0 (gapQ a.sh b.sh ((0,0),(0,0),(1,0))).1.sign = true:=h3
    rw [ivVal_any (o:=((0,0),(0,0),(1,0))) (by simp) h3]
    conv=>whnf
    repeat (refine nx ?_;conv=>whnf)
    exact SealV.tup (.cons (SealV.agg (.cons (SealV.pure .bool) (.cons SealV.nils (.cons (SealV.pure .bool) (.cons SealV.nils .nil))))) (.cons (SealV.agg (.cons (SealV.pure .bool) (.cons SealV.nils (.cons (SealV.pure .bool) (.cons SealV.nils .nil))))) (.cons (SealV.pure .bool) (.cons (SealV.pure .int) .nil))))
  have h3 : ile 0 (gapQ a.sh b.sh ((0,0),(0,0),(1,0))).1.sign = false:=h3
  conv=>whnf
  refine IdxP.go 4 rfl (by decide) ?_
  conv=>whnf
  refine ⟨_,eQ3.rd (xs:=axL6) rfl (by decide),?_⟩
  conv=>whnf
  refine callW_go D 2 (c:=Cn.lift tb1 n_gap) rfl rfl ((a.sh,b.sh),((0,0),(1,0),(0,0))) (hg ((0,0),(1,0),(0,0)) (by simp[axL6])) (hk:=?_)
  conv=>whnf
  repeat (refine nx ?_;conv=>whnf)
  refine callW_gov D 3 (c:=Cn.lift tb1 n_VDot) rfl rfl (((0,0),(1,0),(0,0)),((-1,0),(0,0),(0,0))) (dot_ok _ _ (by simp[axL6]) (by simp[axL6])) (v:=eRat.v (0,0)) (hv:=(congrArg eRat.v (by decide))) (hk:=?_)
  conv=>whnf
  repeat (refine nx ?_;conv=>whnf)
  refine callW_gov D 4 (c:=Cn.lift tb1 n_RSign) rfl rfl (0,0) trivial (v:=.int .i64 0) (hv:=rfl) (hk:=?_)
  conv=>whnf
  repeat (refine nx ?_;conv=>whnf)
  refine callW_go D 4 (c:=Cn.lift tb1 n_RSign) rfl rfl (gapQ a.sh b.sh ((0,0),(1,0),(0,0))) trivial (hk:=?_)
  conv=>whnf
  repeat (refine nx ?_;conv=>whnf)
  refine bSplit (fun h4=>?_) (fun h4=>?_)
  · have h4 : ile 0 (gapQ a.sh b.sh ((0,0),(1,0),(0,0))).1.sign = true:=h4
    rw [ivVal_any (o:=((0,0),(1,0),(0,0))) (by simp) h4]
    conv=>whnf
    repeat (refine nx ?_;conv=>whnf)
    exact SealV.tup (.cons (SealV.agg (.cons (SealV.pure .bool) (.cons SealV.nils (.cons (SealV.pure .bool) (.cons SealV.nils .nil))))) (.cons (SealV.agg (.cons (SealV.pure .bool) (.cons SealV.nils (.cons (SealV.pure .bool) (.cons SealV.nils .nil))))) (.cons (SealV.pure .bool) (.cons (SealV.pure .int) .nil))))
  have h4 : ile 0 (gapQ a.sh b.sh ((0,0),(1,0),(0,0))).1.sign = false:=h4
  conv=>whnf
  refine IdxP.go 5 rfl (by decide) ?_
  conv=>whnf
  refine ⟨_,eQ3.rd (xs:=axL6) rfl (by decide),?_⟩
  conv=>whnf
  refine callW_go D 2 (c:=Cn.lift tb1 n_gap) rfl rfl ((a.sh,b.sh),((1,0),(0,0),(0,0))) (hg ((1,0),(0,0),(0,0)) (by simp[axL6])) (hk:=?_)
  conv=>whnf
  repeat (refine nx ?_;conv=>whnf)
  refine callW_gov D 3 (c:=Cn.lift tb1 n_VDot) rfl rfl (((1,0),(0,0),(0,0)),((-1,0),(0,0),(0,0))) (dot_ok _ _ (by simp[axL6]) (by simp[axL6])) (v:=eRat.v (-1,0)) (hv:=(congrArg eRat.v (by decide))) (hk:=?_)
  conv=>whnf
  repeat (refine nx ?_;conv=>whnf)
  refine callW_gov D 4 (c:=Cn.lift tb1 n_RSign) rfl rfl (-1,0) trivial (v:=.int .i64 (-1)) (hv:=rfl) (hk:=?_)
  conv=>whnf
  repeat (refine nx ?_;conv=>whnf)
  refine callW_go D 5 (c:=Cn.lift tb1 n_RDiv) rfl rfl (gapQ a.sh b.sh ((1,0),(0,0),(0,0)),(-1,0)) (div_ok2 (hw _ (by simp[axL6]))) (hk:=?_)
  conv=>whnf
  repeat (refine nx ?_;conv=>whnf)
  refine ⟨_,_,rfl,?_⟩
  conv=>whnf
  repeat (refine nx ?_;conv=>whnf)
  refine callW_go D 6 (c:=Cn.lift tb1 n_RCompare) rfl rfl (Q.div (gapQ a.sh b.sh ((-1,0),(0,0),(0,0))) (1,0),Q.div (gapQ a.sh b.sh ((1,0),(0,0),(0,0))) (-1,0)) (cmp_ok2 (hw _ (by simp[axL6])) (hw _ (by simp[axL6]))) (hk:=?_)
  conv=>whnf
  repeat (refine nx ?_;conv=>whnf)
  have hos : ([((0,0),(-1,0),(0,0)),((0,0),(0,0),(-1,0)),((0,0),(0,0),(1,0)),((0,0),(1,0),(0,0))] : List Q3).any (fun o=>ile 0 (gapQ a.sh b.sh o).1.sign) = false:=by simp only [List.any_cons,List.any_nil,h1,h2,h3,h4,Bool.or_false]
  refine bSplit (fun h6=>?_) (fun h6=>?_)
  · have h6 : ile 0 (Q.cmp (Q.div (gapQ a.sh b.sh ((-1,0),(0,0),(0,0))) (1,0)) (Q.div (gapQ a.sh b.sh ((1,0),(0,0),(0,0))) (-1,0))) = true:=h6
    rw [ivVal_no hos h6]
    conv=>whnf
    repeat (refine nx ?_;conv=>whnf)
    exact SealV.tup (.cons (SealV.agg (.cons (SealV.pure .bool) (.cons SealV.nils (.cons (SealV.pure .bool) (.cons SealV.nils .nil))))) (.cons (SealV.agg (.cons (SealV.pure .bool) (.cons SealV.nils (.cons (SealV.pure .bool) (.cons SealV.nils .nil))))) (.cons (SealV.pure .bool) (.cons (SealV.pure .int) .nil))))
  have h6 : ile 0 (Q.cmp (Q.div (gapQ a.sh b.sh ((-1,0),(0,0),(0,0))) (1,0)) (Q.div (gapQ a.sh b.sh ((1,0),(0,0),(0,0))) (-1,0))) = false:=h6
  rw [ivVal_yes hos h6]
  conv=>whnf
  repeat (refine nx ?_;conv=>whnf)
  exact SealV.pure (ivSome_pure (Q.div (gapQ a.sh b.sh ((-1,0),(0,0),(0,0))) (1,0)) (Q.div (gapQ a.sh b.sh ((1,0),(0,0),(0,0))) (-1,0)))
theorem c_Iv1 (n : Cn Tryz.prog) (hf : n.f = 212) (hfl : n.flat = false) (a b : Bx) (ha : BxOK n a) (hb : BxOK n b) :
    PF Tryz.prog 235 (.cons (shV a.sh) (.cons (shV b.sh) (.cons (eQ3.v ((0,0),(-1,0),(0,0))) .nil))) (ivVal (gapQ a.sh b.sh) ((0,0),(-1,0),(0,0)) ((0,0),(1,0),(0,0)) (1,0) (-1,0) [((-1,0),(0,0),(0,0)),((0,0),(0,0),(-1,0)),((0,0),(0,0),(1,0)),((1,0),(0,0),(0,0))]):=by
  have hg : ∀ n ∈ axL6,GapOK a.sh b.sh n:=fun n hn=>(bx_gap ha.1 hb.1 n hn).1
  have hw : ∀ n ∈ axL6,Wh 100000000 (gapQ a.sh b.sh n):=fun n hn=>(bx_gap ha.1 hb.1 n hn).2
  refine PF.of_wp (c:=_) p_mixed (by decide) (fn:=Tryz.f235) rfl rfl rfl (.cons (shV_pure _) (.cons (shV_pure _) (.cons (eQ3.pureV _) .nil))) (call:=callW (tIv n hf hfl)) (fun B0=>callW_ok _ B0) ?_
  intro B0
  have D:=tIv_nodup n hf hfl
  conv=>whnf
  refine callW_gov D 0 (c:=Cn.lift tb1 n_VIsZero) rfl rfl ((0,0),(-1,0),(0,0)) (isz_ok _ (by simp[axL6])) (v:=.bool false) (hv:=rfl) (hk:=?_)
  conv=>whnf
  repeat (refine nx ?_;conv=>whnf)
  refine callW_go D 1 (c:=n_AxB n hf hfl) rfl rfl (a,b) ⟨ha,hb⟩ (hk:=?_)
  conv=>whnf
  repeat (refine nx ?_;conv=>whnf)
  refine Cw.unroll p_mixed rfl rfl (callW_ok _ B0) 7 ?_
  conv=>whnf
  refine IdxP.go 0 rfl (by decide) ?_
  conv=>whnf
  refine ⟨_,eQ3.rd (xs:=axL6) rfl (by decide),?_⟩
  conv=>whnf
  refine callW_go D 2 (c:=Cn.lift tb1 n_gap) rfl rfl ((a.sh,b.sh),((-1,0),(0,0),(0,0))) (hg ((-1,0),(0,0),(0,0)) (by simp[axL6])) (hk:=?_)
  conv=>whnf
  repeat (refine nx ?_;conv=>whnf)
  refine callW_gov D 3 (c:=Cn.lift tb1 n_VDot) rfl rfl (((-1,0),(0,0),(0,0)),((0,0),(-1,0),(0,0))) (dot_ok _ _ (by simp[axL6]) (by simp[axL6])) (v:=eRat.v (0,0)) (hv:=(congrArg eRat.v (by decide))) (hk:=?_)
  conv=>whnf
  repeat (refine nx ?_;conv=>whnf)
  refine callW_gov D 4 (c:=Cn.lift tb1 n_RSign) rfl rfl (0,0) trivial (v:=.int .i64 0) (hv:=rfl) (hk:=?_)
  conv=>whnf
  repeat (refine nx ?_;conv=>whnf)
  refine callW_go D 4 (c:=Cn.lift tb1 n_RSign) rfl rfl (gapQ a.sh b.sh ((-1,0),(0,0),(0,0))) trivial (hk:=?_)
  conv=>whnf
  repeat (refine nx ?_;conv=>whnf)
  refine bSplit (fun h0=>?_) (fun h0=>?_)
  · have h0 : ile 0 (gapQ a.sh b.sh ((-1,0),(0,0),(0,0))).1.sign = true:=h0
    rw [ivVal_any (o:=((-1,0),(0,0),(0,0))) (by simp) h0]
    conv=>whnf
    repeat (refine nx ?_;conv=>whnf)
    exact SealV.tup (.cons (SealV.agg (.cons (SealV.pure .bool) (.cons SealV.nils (.cons (SealV.pure .bool) (.cons SealV.nils .nil))))) (.cons (SealV.agg (.cons (SealV.pure .bool) (.cons SealV.nils (.cons (SealV.pure .bool) (.cons SealV.nils .nil))))) (.cons (SealV.pure .bool) (.cons (SealV.pure .int) .nil))))
  have h0 : ile 0 (gapQ a.sh b.sh ((-1,0),(0,0),(0,0))).1.sign = false:=h0
  conv=>whnf
  refine IdxP.go 1 rfl (by decide) ?_
  conv=>whnf
  refine ⟨_,eQ3.rd (xs:=axL6) rfl (by decide),?_⟩
  conv=>whnf
  refine callW_go D 2 (c:=Cn.lift tb1 n_gap) rfl rfl ((a.sh,b.sh),((0,0),(-1,0),(0,0))) (hg ((0,0),(-1,0),(0,0)) (by simp[axL6])) (hk:=?_)
  conv=>whnf
  repeat (refine nx ?_;conv=>whnf)
  refine callW_gov D 3 (c:=Cn.lift tb1 n_VDot) rfl rfl (((0,0),(-1,0),(0,0)),((0,0),(-1,0),(0,0))) (dot_ok _ _ (by simp[axL6]) (by simp[axL6])) (v:=eRat.v (1,0)) (hv:=(congrArg eRat.v (by decide))) (hk:=?_)
  conv=>whnf
  repeat (refine nx ?_;conv=>whnf)
  refine callW_gov D 4 (c:=Cn.lift tb1 n_RSign) rfl rfl (1,0) trivial (v:=.int .i64 1) (hv:=rfl) (hk:=?_)
  conv=>whnf
  repeat (refine nx ?_;conv=>whnf)
  refine callW_go D 5 (c:=Cn.lift tb1 n_RDiv) rfl rfl (gapQ a.sh b.sh ((0,0),(-1,0),(0,0)),(1,0)) (div_ok1 (hw _ (by simp[axL6]))) (hk:=?_)
  conv=>whnf
  repeat (refine nx ?_;conv=>whnf)
  refine ⟨_,_,rfl,?_⟩
  conv=>whnf
  repeat (refine nx ?_;conv=>whnf)
  refine IdxP.go 2 rfl (by decide) ?_
  conv=>whnf
  refine ⟨_,eQ3.rd (xs:=axL6) rfl (by decide),?_⟩
  conv=>whnf
  refine callW_go D 2 (c:=Cn.lift tb1 n_gap) rfl rfl ((a.sh,b.sh),((0,0),(0,0),(-1,0))) (hg ((0,0),(0,0),(-1,0)) (by simp[axL6])) (hk:=?_)
  conv=>whnf
  repeat (refine nx ?_;conv=>whnf)
  refine callW_gov D 3 (c:=Cn.lift tb1 n_VDot) rfl rfl (((0,0),(0,0),(-1,0)),((0,0),(-1,0),(0,0))) (dot_ok _ _ (by simp[axL6]) (by simp[axL6])) (v:=eRat.v (0,0)) (hv:=(congrArg eRat.v (by decide))) (hk:=?_)
  conv=>whnf
  repeat (refine nx ?_;conv=>whnf)
  refine callW_gov D 4 (c:=Cn.lift tb1 n_RSign) rfl rfl (0,0) trivial (v:=.int .i64 0) (hv:=rfl) (hk:=?_)
  conv=>whnf
  repeat (refine nx ?_;conv=>whnf)
  refine callW_go D 4 (c:=Cn.lift tb1 n_RSign) rfl rfl (gapQ a.sh b.sh ((0,0),(0,0),(-1,0))) trivial (hk:=?_)
  conv=>whnf
  repeat (refine nx ?_;conv=>whnf)
  refine bSplit (fun h2=>?_) (fun h2=>?_)
  · have h2 : ile 0 (gapQ a.sh b.sh ((0,0),(0,0),(-1,0))).1.sign = true:=h2
    rw [ivVal_any (o:=((0,0),(0,0),(-1,0))) (by simp) h2]
    conv=>whnf
    repeat (refine nx ?_;conv=>whnf)
    exact SealV.tup (.cons (SealV.agg (.cons (SealV.pure .bool) (.cons SealV.nils (.cons (SealV.pure .bool) (.cons SealV.nils .nil))))) (.cons (SealV.agg (.cons (SealV.pure .bool) (.cons SealV.nils (.cons (SealV.pure .bool) (.cons SealV.nils .nil))))) (.cons (SealV.pure .bool) (.cons (SealV.pure .int) .nil))))
  have h2 : ile 0 (gapQ a.sh b.sh ((0,0),(0,0),(-1,0))).1.sign = false:=h2
  conv=>whnf
  refine IdxP.go 3 rfl (by decide) ?_
  conv=>whnf
  refine ⟨_,eQ3.rd (xs:=axL6) rfl (by decide),?_⟩
  conv=>whnf
  refine callW_go D 2 (c:=Cn.lift tb1 n_gap) rfl rfl ((a.sh,b.sh),((0,0),(0,0),(1,0))) (hg ((0,0),(0,0),(1,0)) (by simp[axL6])) (hk:=?_)
  conv=>whnf
  repeat (refine nx ?_;conv=>whnf)
  refine callW_gov D 3 (c:=Cn.lift tb1 n_VDot) rfl rfl (((0,0),(0,0),(1,0)),((0,0),(-1,0),(0,0))) (dot_ok _ _ (by simp[axL6]) (by simp[axL6])) (v:=eRat.v (0,0)) (hv:=(congrArg eRat.v (by decide))) (hk:=?_)
  conv=>whnf
  repeat (refine nx ?_;conv=>whnf)
  refine callW_gov D 4 (c:=Cn.lift tb1 n_RSign) rfl rfl (0,0) trivial (v:=.int .i64 0) (hv:=rfl) (hk:=?_)
  conv=>whnf
  repeat (refine nx ?_;conv=>whnf)
  refine callW_go D 4 (c:=Cn.lift tb1 n_RSign) rfl rfl (gapQ a.sh b.sh ((0,0),(0,0),(1,0))) trivial (hk:=?_)
  conv=>whnf
  repeat (refine nx ?_;conv=>whnf)
  refine bSplit (fun h3=>?_) (fun h3=>?_)
  · have h3 : ile 0 (gapQ a.sh b.sh ((0,0),(0,0),(1,0))).1.sign = true:=h3
    rw [ivVal_any (o:=((0,0),(0,0),(1,0))) (by simp) h3]
    conv=>whnf
    repeat (refine nx ?_;conv=>whnf)
    exact SealV.tup (.cons (SealV.agg (.cons (SealV.pure .bool) (.cons SealV.nils (.cons (SealV.pure .bool) (.cons SealV.nils .nil))))) (.cons (SealV.agg (.cons (SealV.pure .bool) (.cons SealV.nils (.cons (SealV.pure .bool) (.cons SealV.nils .nil))))) (.cons (SealV.pure .bool) (.cons (SealV.pure .int) .nil))))
  have h3 : ile 0 (gapQ a.sh b.sh ((0,0),(0,0),(1,0))).1.sign = false:=h3
  conv=>whnf
  refine IdxP.go 4 rfl (by decide) ?_
  conv=>whnf
  refine ⟨_,eQ3.rd (xs:=axL6) rfl (by decide),?_⟩
  conv=>whnf
  refine callW_go D 2 (c:=Cn.lift tb1 n_gap) rfl rfl ((a.sh,b.sh),((0,0),(1,0),(0,0))) (hg ((0,0),(1,0),(0,0)) (by simp[axL6])) (hk:=?_)
  conv=>whnf
  repeat (refine nx ?_;conv=>whnf)
  refine callW_gov D 3 (c:=Cn.lift tb1 n_VDot) rfl rfl (((0,0),(1,0),(0,0)),((0,0),(-1,0),(0,0))) (dot_ok _ _ (by simp[axL6]) (by simp[axL6])) (v:=eRat.v (-1,0)) (hv:=(congrArg eRat.v (by decide))) (hk:=?_)
  conv=>whnf
  repeat (refine nx ?_;conv=>whnf)
  refine callW_gov D 4 (c:=Cn.lift tb1 n_RSign) rfl rfl (-1,0) trivial (v:=.int .i64 (-1)) (hv:=rfl) (hk:=?_)
  conv=>whnf
  repeat (refine nx ?_;conv=>whnf)
  refine callW_go D 5 (c:=Cn.lift tb1 n_RDiv) rfl rfl (gapQ a.sh b.sh ((0,0),(1,0),(0,0)),(-1,0)) (div_ok2 (hw _ (by simp[axL6]))) (hk:=?_)
  conv=>whnf
  repeat (refine nx ?_;conv=>whnf)
  refine ⟨_,_,rfl,?_⟩
  conv=>whnf
  repeat (refine nx ?_;conv=>whnf)
  refine IdxP.go 5 rfl (by decide) ?_
  conv=>whnf
  refine ⟨_,eQ3.rd (xs:=axL6) rfl (by decide),?_⟩
  conv=>whnf
  refine callW_go D 2 (c:=Cn.lift tb1 n_gap) rfl rfl ((a.sh,b.sh),((1,0),(0,0),(0,0))) (hg ((1,0),(0,0),(0,0)) (by simp[axL6])) (hk:=?_)
  conv=>whnf
  repeat (refine nx ?_;conv=>whnf)
  refine callW_gov D 3 (c:=Cn.lift tb1 n_VDot) rfl rfl (((1,0),(0,0),(0,0)),((0,0),(-1,0),(0,0))) (dot_ok _ _ (by simp[axL6]) (by simp[axL6])) (v:=eRat.v (0,0)) (hv:=(congrArg eRat.v (by decide))) (hk:=?_)
  conv=>whnf
  repeat (refine nx ?_;conv=>whnf)
  refine callW_gov D 4 (c:=Cn.lift tb1 n_RSign) rfl rfl (0,0) trivial (v:=.int .i64 0) (hv:=rfl) (hk:=?_)
  conv=>whnf
  repeat (refine nx ?_;conv=>whnf)
  refine callW_go D 4 (c:=Cn.lift tb1 n_RSign) rfl rfl (gapQ a.sh b.sh ((1,0),(0,0),(0,0))) trivial (hk:=?_)
  conv=>whnf
  repeat (refine nx ?_;conv=>whnf)
  refine bSplit (fun h5=>?_) (fun h5=>?_)
  · have h5 : ile 0 (gapQ a.sh b.sh ((1,0),(0,0),(0,0))).1.sign = true:=h5
    rw [ivVal_any (o:=((1,0),(0,0),(0,0))) (by simp) h5]
    conv=>whnf
    repeat (refine nx ?_;conv=>whnf)
    exact SealV.tup (.cons (SealV.agg (.cons (SealV.pure .bool) (.cons SealV.nils (.cons (SealV.pure .bool) (.cons SealV.nils .nil))))) (.cons (SealV.agg (.cons (SealV.pure .bool) (.cons SealV.nils (.cons (SealV.pure .bool) (.cons SealV.nils .nil))))) (.cons (SealV.pure .bool) (.cons (SealV.pure .int) .nil))))
  have h5 : ile 0 (gapQ a.sh b.sh ((1,0),(0,0),(0,0))).1.sign = false:=h5
  conv=>whnf
  refine callW_go D 6 (c:=Cn.lift tb1 n_RCompare) rfl rfl (Q.div (gapQ a.sh b.sh ((0,0),(-1,0),(0,0))) (1,0),Q.div (gapQ a.sh b.sh ((0,0),(1,0),(0,0))) (-1,0)) (cmp_ok2 (hw _ (by simp[axL6])) (hw _ (by simp[axL6]))) (hk:=?_)
  conv=>whnf
  repeat (refine nx ?_;conv=>whnf)
  have hos : ([((-1,0),(0,0),(0,0)),((0,0),(0,0),(-1,0)),((0,0),(0,0),(1,0)),((1,0),(0,0),(0,0))] : List Q3).any (fun o=>ile 0 (gapQ a.sh b.sh o).1.sign) = false:=by simp only [List.any_cons,List.any_nil,h0,h2,h3,h5,Bool.or_false]
  refine bSplit (fun h6=>?_) (fun h6=>?_)
  · have h6 : ile 0 (Q.cmp (Q.div (gapQ a.sh b.sh ((0,0),(-1,0),(0,0))) (1,0)) (Q.div (gapQ a.sh b.sh ((0,0),(1,0),(0,0))) (-1,0))) = true:=h6
    rw [ivVal_no hos h6]
    conv=>whnf
    repeat (refine nx ?_;conv=>whnf)
    exact SealV.tup (.cons (SealV.agg (.cons (SealV.pure .bool) (.cons SealV.nils (.cons (SealV.pure .bool) (.cons SealV.nils .nil))))) (.cons (SealV.agg (.cons (SealV.pure .bool) (.cons SealV.nils (.cons (SealV.pure .bool) (.cons SealV.nils .nil))))) (.cons (SealV.pure .bool) (.cons (SealV.pure .int) .nil))))
  have h6 : ile 0 (Q.cmp (Q.div (gapQ a.sh b.sh ((0,0),(-1,0),(0,0))) (1,0)) (Q.div (gapQ a.sh b.sh ((0,0),(1,0),(0,0))) (-1,0))) = false:=h6
  rw [ivVal_yes hos h6]
  conv=>whnf
  repeat (refine nx ?_;conv=>whnf)
  exact SealV.pure (ivSome_pure (Q.div (gapQ a.sh b.sh ((0,0),(-1,0),(0,0))) (1,0)) (Q.div (gapQ a.sh b.sh ((0,0),(1,0),(0,0))) (-1,0)))
theorem c_Iv2 (n : Cn Tryz.prog) (hf : n.f = 212) (hfl : n.flat = false) (a b : Bx) (ha : BxOK n a) (hb : BxOK n b) :
    PF Tryz.prog 235 (.cons (shV a.sh) (.cons (shV b.sh) (.cons (eQ3.v ((0,0),(0,0),(-1,0))) .nil))) (ivVal (gapQ a.sh b.sh) ((0,0),(0,0),(-1,0)) ((0,0),(0,0),(1,0)) (1,0) (-1,0) [((-1,0),(0,0),(0,0)),((0,0),(-1,0),(0,0)),((0,0),(1,0),(0,0)),((1,0),(0,0),(0,0))]):=by
  have hg : ∀ n ∈ axL6,GapOK a.sh b.sh n:=fun n hn=>(bx_gap ha.1 hb.1 n hn).1
  have hw : ∀ n ∈ axL6,Wh 100000000 (gapQ a.sh b.sh n):=fun n hn=>(bx_gap ha.1 hb.1 n hn).2
  refine PF.of_wp (c:=_) p_mixed (by decide) (fn:=Tryz.f235) rfl rfl rfl (.cons (shV_pure _) (.cons (shV_pure _) (.cons (eQ3.pureV _) .nil))) (call:=callW (tIv n hf hfl)) (fun B0=>callW_ok _ B0) ?_
  intro B0
  have D:=tIv_nodup n hf hfl
  conv=>whnf
  refine callW_gov D 0 (c:=Cn.lift tb1 n_VIsZero) rfl rfl ((0,0),(0,0),(-1,0)) (isz_ok _ (by simp[axL6])) (v:=.bool false) (hv:=rfl) (hk:=?_)
  conv=>whnf
  repeat (refine nx ?_;conv=>whnf)
  refine callW_go D 1 (c:=n_AxB n hf hfl) rfl rfl (a,b) ⟨ha,hb⟩ (hk:=?_)
  conv=>whnf
  repeat (refine nx ?_;conv=>whnf)
  refine Cw.unroll p_mixed rfl rfl (callW_ok _ B0) 7 ?_
  conv=>whnf
  refine IdxP.go 0 rfl (by decide) ?_
  conv=>whnf
  refine ⟨_,eQ3.rd (xs:=axL6) rfl (by decide),?_⟩
  conv=>whnf
  refine callW_go D 2 (c:=Cn.lift tb1 n_gap) rfl rfl ((a.sh,b.sh),((-1,0),(0,0),(0,0))) (hg ((-1,0),(0,0),(0,0)) (by simp[axL6])) (hk:=?_)
  conv=>whnf
  repeat (refine nx ?_;conv=>whnf)
  refine callW_gov D 3 (c:=Cn.lift tb1 n_VDot) rfl rfl (((-1,0),(0,0),(0,0)),((0,0),(0,0),(-1,0))) (dot_ok _ _ (by simp[axL6]) (by simp[axL6])) (v:=eRat.v (0,0)) (hv:=(congrArg eRat.v (by decide))) (hk:=?_)
  conv=>whnf
  repeat (refine nx ?_;conv=>whnf)
  refine callW_gov D 4 (c:=Cn.lift tb1 n_RSign) rfl rfl (0,0) trivial (v:=.int .i64 0) (hv:=rfl) (hk:=?_)
  conv=>whnf
  repeat (refine nx ?_;conv=>whnf)
  refine callW_go D 4 (c:=Cn.lift tb1 n_RSign) rfl rfl (gapQ a.sh b.sh ((-1,0),(0,0),(0,0))) trivial (hk:=?_)
  conv=>whnf
  repeat (refine nx ?_;conv=>whnf)
  refine bSplit (fun h0=>?_) (fun h0=>?_)
  · have h0 : ile 0 (gapQ a.sh b.sh ((-1,0),(0,0),(0,0))).1.sign = true:=h0
    rw [ivVal_any (o:=((-1,0),(0,0),(0,0))) (by simp) h0]
    conv=>whnf
    repeat (refine nx ?_;conv=>whnf)
    exact SealV.tup (.cons (SealV.agg (.cons (SealV.pure .bool) (.cons SealV.nils (.cons (SealV.pure .bool) (.cons SealV.nils .nil))))) (.cons (SealV.agg (.cons (SealV.pure .bool) (.cons SealV.nils (.cons (SealV.pure .bool) (.cons SealV.nils .nil))))) (.cons (SealV.pure .bool) (.cons (SealV.pure .int) .nil))))
  have h0 : ile 0 (gapQ a.sh b.sh ((-1,0),(0,0),(0,0))).1.sign = false:=h0
  conv=>whnf
  refine IdxP.go 1 rfl (by decide) ?_
  conv=>whnf
  refine ⟨_,eQ3.rd (xs:=axL6) rfl (by decide),?_⟩
  conv=>whnf
  refine callW_go D 2 (c:=Cn.lift tb1 n_gap) rfl rfl ((a.sh,b.sh),((0,0),(-1,0),(0,0))) (hg ((0,0),(-1,0),(0,0)) (by simp[axL6])) (hk:=?_)
  conv=>whnf
  repeat (refine nx ?_;conv=>whnf)
  refine callW_gov D 3 (c:=Cn.lift tb1 n_VDot) rfl rfl (((0,0),(-1,0),(0,0)),((0,0),(0,0),(-1,0))) (dot_ok _ _ (by simp[axL6]) (by simp[axL6])) (v:=eRat.v (0,0)) (hv:=(congrArg eRat.v (by decide))) (hk:=?_)
  conv=>whnf
  repeat (refine nx ?_;conv=>whnf)
  refine callW_gov D 4 (c:=Cn.lift tb1 n_RSign) rfl rfl (0,0) trivial (v:=.int .i64 0) (hv:=rfl) (hk:=?_)
  conv=>whnf
  repeat (refine nx ?_;conv=>whnf)
  refine callW_go D 4 (c:=Cn.lift tb1 n_RSign) rfl rfl (gapQ a.sh b.sh ((0,0),(-1,0),(0,0))) trivial (hk:=?_)
  conv=>whnf
  repeat (refine nx ?_;conv=>whnf)
  refine bSplit (fun h1=>?_) (fun h1=>?_)
  · have h1 : ile 0 (gapQ a.sh b.sh ((0,0),(-1,0),(0,0))).1.sign = true:=h1
    rw [ivVal_any (o:=((0,0),(-1,0),(0,0))) (by simp) h1]
    conv=>whnf
    repeat (refine nx ?_;conv=>whnf)
    exact SealV.tup (.cons (SealV.agg (.cons (SealV.pure .bool) (.cons SealV.nils (.cons (SealV.pure .bool) (.cons SealV.nils .nil))))) (.cons (SealV.agg (.cons (SealV.pure .bool) (.cons SealV.nils (.cons (SealV.pure .bool) (.cons SealV.nils .nil))))) (.cons (SealV.pure .bool) (.cons (SealV.pure .int) .nil))))
  have h1 : ile 0 (gapQ a.sh b.sh ((0,0),(-1,0),(0,0))).1.sign = false:=h1
  conv=>whnf
  refine IdxP.go 2 rfl (by decide) ?_
  conv=>whnf
  refine ⟨_,eQ3.rd (xs:=axL6) rfl (by decide),?_⟩
  conv=>whnf
  refine callW_go D 2 (c:=Cn.lift tb1 n_gap) rfl rfl ((a.sh,b.sh),((0,0),(0,0),(-1,0))) (hg ((0,0),(0,0),(-1,0)) (by simp[axL6])) (hk:=?_)
  conv=>whnf
  repeat (refine nx ?_;conv=>whnf)
  refine callW_gov D 3 (c:=Cn.lift tb1 n_VDot) rfl rfl (((0,0),(0,0),(-1,0)),((0,0),(0,0),(-1,0))) (dot_ok _ _ (by simp[axL6]) (by simp[axL6])) (v:=eRat.v (1,0)) (hv:=(congrArg eRat.v (by decide))) (hk:=?_)
  conv=>whnf
  repeat (refine nx ?_;conv=>whnf)
  refine callW_gov D 4 (c:=Cn.lift tb1 n_RSign) rfl rfl (1,0) trivial (v:=.int .i64 1) (hv:=rfl) (hk:=?_)
  conv=>whnf
  repeat (refine nx ?_;conv=>whnf)
  refine callW_go D 5 (c:=Cn.lift tb1 n_RDiv) rfl rfl (gapQ a.sh b.sh ((0,0),(0,0),(-1,0)),(1,0)) (div_ok1 (hw _ (by simp[axL6]))) (hk:=?_)
  conv=>whnf
  repeat (refine nx ?_;conv=>whnf)
  refine ⟨_,_,rfl,?_⟩
  conv=>whnf
  repeat (refine nx ?_;conv=>whnf)
  refine IdxP.go 3 rfl (by decide) ?_
  conv=>whnf
  refine ⟨_,eQ3.rd (xs:=axL6) rfl (by decide),?_⟩
  conv=>whnf
  refine callW_go D 2 (c:=Cn.lift tb1 n_gap) rfl rfl ((a.sh,b.sh),((0,0),(0,0),(1,0))) (hg ((0,0),(0,0),(1,0)) (by simp[axL6])) (hk:=?_)
  conv=>whnf
  repeat (refine nx ?_;conv=>whnf)
  refine callW_gov D 3 (c:=Cn.lift tb1 n_VDot) rfl rfl (((0,0),(0,0),(1,0)),((0,0),(0,0),(-1,0))) (dot_ok _ _ (by simp[axL6]) (by simp[axL6])) (v:=eRat.v (-1,0)) (hv:=(congrArg eRat.v (by decide))) (hk:=?_)
  conv=>whnf
  repeat (refine nx ?_;conv=>whnf)
  refine callW_gov D 4 (c:=Cn.lift tb1 n_RSign) rfl rfl (-1,0) trivial (v:=.int .i64 (-1)) (hv:=rfl) (hk:=?_)
  conv=>whnf
  repeat (refine nx ?_;conv=>whnf)
  refine callW_go D 5 (c:=Cn.lift tb1 n_RDiv) rfl rfl (gapQ a.sh b.sh ((0,0),(0,0),(1,0)),(-1,0)) (div_ok2 (hw _ (by simp[axL6]))) (hk:=?_)
  conv=>whnf
  repeat (refine nx ?_;conv=>whnf)
  refine ⟨_,_,rfl,?_⟩
  conv=>whnf
  repeat (refine nx ?_;conv=>whnf)
  refine IdxP.go 4 rfl (by decide) ?_
  conv=>whnf
  refine ⟨_,eQ3.rd (xs:=axL6) rfl (by decide),?_⟩
  conv=>whnf
  refine callW_go D 2 (c:=Cn.lift tb1 n_gap) rfl rfl ((a.sh,b.sh),((0,0),(1,0),(0,0))) (hg ((0,0),(1,0),(0,0)) (by simp[axL6])) (hk:=?_)
  conv=>whnf
  repeat (refine nx ?_;conv=>whnf)
  refine callW_gov D 3 (c:=Cn.lift tb1 n_VDot) rfl rfl (((0,0),(1,0),(0,0)),((0,0),(0,0),(-1,0))) (dot_ok _ _ (by simp[axL6]) (by simp[axL6])) (v:=eRat.v (0,0)) (hv:=(congrArg eRat.v (by decide))) (hk:=?_)
  conv=>whnf
  repeat (refine nx ?_;conv=>whnf)
  refine callW_gov D 4 (c:=Cn.lift tb1 n_RSign) rfl rfl (0,0) trivial (v:=.int .i64 0) (hv:=rfl) (hk:=?_)
  conv=>whnf
  repeat (refine nx ?_;conv=>whnf)
  refine callW_go D 4 (c:=Cn.lift tb1 n_RSign) rfl rfl (gapQ a.sh b.sh ((0,0),(1,0),(0,0))) trivial (hk:=?_)
  conv=>whnf
  repeat (refine nx ?_;conv=>whnf)
  refine bSplit (fun h4=>?_) (fun h4=>?_)
  · have h4 : ile 0 (gapQ a.sh b.sh ((0,0),(1,0),(0,0))).1.sign = true:=h4
    rw [ivVal_any (o:=((0,0),(1,0),(0,0))) (by simp) h4]
    conv=>whnf
    repeat (refine nx ?_;conv=>whnf)
    exact SealV.tup (.cons (SealV.agg (.cons (SealV.pure .bool) (.cons SealV.nils (.cons (SealV.pure .bool) (.cons SealV.nils .nil))))) (.cons (SealV.agg (.cons (SealV.pure .bool) (.cons SealV.nils (.cons (SealV.pure .bool) (.cons SealV.nils .nil))))) (.cons (SealV.pure .bool) (.cons (SealV.pure .int) .nil))))
  have h4 : ile 0 (gapQ a.sh b.sh ((0,0),(1,0),(0,0))).1.sign = false:=h4
  conv=>whnf
  refine IdxP.go 5 rfl (by decide) ?_
  conv=>whnf
  refine ⟨_,eQ3.rd (xs:=axL6) rfl (by decide),?_⟩
  conv=>whnf
  refine callW_go D 2 (c:=Cn.lift tb1 n_gap) rfl rfl ((a.sh,b.sh),((1,0),(0,0),(0,0))) (hg ((1,0),(0,0),(0,0)) (by simp[axL6])) (hk:=?_)
  conv=>whnf
  repeat (refine nx ?_;conv=>whnf)
  refine callW_gov D 3 (c:=Cn.lift tb1 n_VDot) rfl rfl (((1,0),(0,0),(0,0)),((0,0),(0,0),(-1,0))) (dot_ok _ _ (by simp[axL6]) (by simp[axL6])) (v:=eRat.v (0,0)) (hv:=(congrArg eRat.v (by decide))) (hk:=?_)
  conv=>whnf
  repeat (refine nx ?_;conv=>whnf)
  refine callW_gov D 4 (c:=Cn.lift tb1 n_RSign) rfl rfl (0,0) trivial (v:=.int .i64 0) (hv:=rfl) (hk:=?_)
  conv=>whnf
  repeat (refine nx ?_;conv=>whnf)
  refine callW_go D 4 (c:=Cn.lift tb1 n_RSign) rfl rfl (gapQ a.sh b.sh ((1,0),(0,0),(0,0))) trivial (hk:=?_)
  conv=>whnf
  repeat (refine nx ?_;conv=>whnf)
  refine bSplit (fun h5=>?_) (fun h5=>?_)
  · have h5 : ile 0 (gapQ a.sh b.sh ((1,0),(0,0),(0,0))).1.sign = true:=h5
    rw [ivVal_any (o:=((1,0),(0,0),(0,0))) (by simp) h5]
    conv=>whnf
    repeat (refine nx ?_;conv=>whnf)
    exact SealV.tup (.cons (SealV.agg (.cons (SealV.pure .bool) (.cons SealV.nils (.cons (SealV.pure .bool) (.cons SealV.nils .nil))))) (.cons (SealV.agg (.cons (SealV.pure .bool) (.cons SealV.nils (.cons (SealV.pure .bool) (.cons SealV.nils .nil))))) (.cons (SealV.pure .bool) (.cons (SealV.pure .int) .nil))))
  have h5 : ile 0 (gapQ a.sh b.sh ((1,0),(0,0),(0,0))).1.sign = false:=h5
  conv=>whnf
  refine callW_go D 6 (c:=Cn.lift tb1 n_RCompare) rfl rfl (Q.div (gapQ a.sh b.sh ((0,0),(0,0),(-1,0))) (1,0),Q.div (gapQ a.sh b.sh ((0,0),(0,0),(1,0))) (-1,0)) (cmp_ok2 (hw _ (by simp[axL6])) (hw _ (by simp[axL6]))) (hk:=?_)
  conv=>whnf
  repeat (refine nx ?_;conv=>whnf)
  have hos : ([((-1,0),(0,0),(0,0)),((0,0),(-1,0),(0,0)),((0,0),(1,0),(0,0)),((1,0),(0,0),(0,0))] : List Q3).any (fun o=>ile 0 (gapQ a.sh b.sh o).1.sign) = false:=by simp only [List.any_cons,List.any_nil,h0,h1,h4,h5,Bool.or_false]
  refine bSplit (fun h6=>?_) (fun h6=>?_)
  · have h6 : ile 0 (Q.cmp (Q.div (gapQ a.sh b.sh ((0,0),(0,0),(-1,0))) (1,0)) (Q.div (gapQ a.sh b.sh ((0,0),(0,0),(1,0))) (-1,0))) = true:=h6
    rw [ivVal_no hos h6]
    conv=>whnf
    repeat (refine nx ?_;conv=>whnf)
    exact SealV.tup (.cons (SealV.agg (.cons (SealV.pure .bool) (.cons SealV.nils (.cons (SealV.pure .bool) (.cons SealV.nils .nil))))) (.cons (SealV.agg (.cons (SealV.pure .bool) (.cons SealV.nils (.cons (SealV.pure .bool) (.cons SealV.nils .nil))))) (.cons (SealV.pure .bool) (.cons (SealV.pure .int) .nil))))
  have h6 : ile 0 (Q.cmp (Q.div (gapQ a.sh b.sh ((0,0),(0,0),(-1,0))) (1,0)) (Q.div (gapQ a.sh b.sh ((0,0),(0,0),(1,0))) (-1,0))) = false:=h6
  rw [ivVal_yes hos h6]
  conv=>whnf
  repeat (refine nx ?_;conv=>whnf)
  exact SealV.pure (ivSome_pure (Q.div (gapQ a.sh b.sh ((0,0),(0,0),(-1,0))) (1,0)) (Q.div (gapQ a.sh b.sh ((0,0),(0,0),(1,0))) (-1,0)))
end Go.Sy
