/- meeting.Interval of two boxes along an axis: the walk (printed by genG.py). -/
import Derived.Test.YtemoafmennfhhaaGreatDoorStG3
namespace Go.Sy
open Go.RowKit Go.Proofs
set_option linter.unusedVariables false
set_option linter.unusedSimpArgs false
set_option maxRecDepth 1000000
set_option maxHeartbeats 0
attribute [local irreducible] Cw SealV SealL PF Sub
theorem c_Iv0 (n : Cn Tryz.prog) (hf : n.f = 313) (hfl : n.flat = false) (a b : Bx) (ha : BxOK n a) (hb : BxOK n b) :
    PF Tryz.prog 277 (.cons (shV a.sh) (.cons (shV b.sh) (.cons (eQ3.v ((-1,0),(0,0),(0,0))) .nil))) (ivVal (gapQ a.sh b.sh) ((-1,0),(0,0),(0,0)) ((1,0),(0,0),(0,0)) (1,0) (-1,0) [((0,0),(-1,0),(0,0)),((0,0),(0,0),(-1,0)),((0,0),(0,0),(1,0)),((0,0),(1,0),(0,0))]):=by
  have hg : ∀ n ∈ axL6,GapOK a.sh b.sh n:=fun n hn=>(bx_gap ha.1 hb.1 n hn).1
  have hw : ∀ n ∈ axL6,Wh 100000000 (gapQ a.sh b.sh n):=fun n hn=>(bx_gap ha.1 hb.1 n hn).2
  refine PF.of_wp (c:=_) p_mixed (by decide) (fn:=Tryz.f277) rfl rfl rfl (.cons (shV_pure _) (.cons (shV_pure _) (.cons (eQ3.pureV _) .nil))) (call:=callW (tIv n hf hfl)) (fun B0=>callW_ok _ B0) ?_
  intro B0
  conv=>whnf
  refine callW_gov (tIv_nodup n hf hfl) 0 (c:=Cn.lift tb1 n_VIsZero) rfl rfl ((-1,0),(0,0),(0,0)) (isz_ok _ (by simp [axL6])) (v:=.bool false) (hv:=rfl) (hk:=?_)
  conv=>whnf
  repeat (refine nx ?_; conv=>whnf)
  refine callW_go (tIv_nodup n hf hfl) 1 (c:=n_AxB n hf hfl) rfl rfl (a,b) ⟨ha,hb⟩ (hk:=?_)
  conv=>whnf
  repeat (refine nx ?_; conv=>whnf)
  refine Cw.unroll p_mixed rfl rfl (callW_ok _ B0) 7 ?_
  conv=>whnf
  refine IdxP.go 0 rfl (by decide) ?_
  conv=>whnf
  refine ⟨_,eQ3.rd (xs:=axL6) rfl (by decide),?_⟩
  conv=>whnf
  refine callW_go (tIv_nodup n hf hfl) 2 (c:=Cn.lift tb1 n_gap) rfl rfl ((a.sh,b.sh),((-1,0),(0,0),(0,0))) (hg ((-1,0),(0,0),(0,0)) (by simp [axL6])) (hk:=?_)
  conv=>whnf
  repeat (refine nx ?_; conv=>whnf)
  refine callW_gov (tIv_nodup n hf hfl) 3 (c:=Cn.lift tb1 n_VDot) rfl rfl (((-1,0),(0,0),(0,0)),((-1,0),(0,0),(0,0))) (dot_ok _ _ (by simp [axL6]) (by simp [axL6])) (v:=eRat.v (1,0)) (hv:=(congrArg eRat.v (by decide))) (hk:=?_)
  conv=>whnf
  repeat (refine nx ?_; conv=>whnf)
  refine callW_gov (tIv_nodup n hf hfl) 4 (c:=Cn.lift tb1 n_RSign) rfl rfl (1,0) trivial (v:=.int .i64 1) (hv:=rfl) (hk:=?_)
  conv=>whnf
  repeat (refine nx ?_; conv=>whnf)
  refine callW_go (tIv_nodup n hf hfl) 5 (c:=Cn.lift tb1 n_RDiv) rfl rfl (gapQ a.sh b.sh ((-1,0),(0,0),(0,0)),(1,0)) (div_ok1 (hw _ (by simp [axL6]))) (hk:=?_)
  conv=>whnf
  repeat (refine nx ?_; conv=>whnf)
  refine ⟨_,_,rfl,?_⟩
  conv=>whnf
  repeat (refine nx ?_; conv=>whnf)
  refine IdxP.go 1 rfl (by decide) ?_
  conv=>whnf
  refine ⟨_,eQ3.rd (xs:=axL6) rfl (by decide),?_⟩
  conv=>whnf
  refine callW_go (tIv_nodup n hf hfl) 2 (c:=Cn.lift tb1 n_gap) rfl rfl ((a.sh,b.sh),((0,0),(-1,0),(0,0))) (hg ((0,0),(-1,0),(0,0)) (by simp [axL6])) (hk:=?_)
  conv=>whnf
  repeat (refine nx ?_; conv=>whnf)
  refine callW_gov (tIv_nodup n hf hfl) 3 (c:=Cn.lift tb1 n_VDot) rfl rfl (((0,0),(-1,0),(0,0)),((-1,0),(0,0),(0,0))) (dot_ok _ _ (by simp [axL6]) (by simp [axL6])) (v:=eRat.v (0,0)) (hv:=(congrArg eRat.v (by decide))) (hk:=?_)
  conv=>whnf
  repeat (refine nx ?_; conv=>whnf)
  refine callW_gov (tIv_nodup n hf hfl) 4 (c:=Cn.lift tb1 n_RSign) rfl rfl (0,0) trivial (v:=.int .i64 0) (hv:=rfl) (hk:=?_)
  conv=>whnf
  repeat (refine nx ?_; conv=>whnf)
  refine callW_go (tIv_nodup n hf hfl) 4 (c:=Cn.lift tb1 n_RSign) rfl rfl (gapQ a.sh b.sh ((0,0),(-1,0),(0,0))) trivial (hk:=?_)
  conv=>whnf
  repeat (refine nx ?_; conv=>whnf)
  refine bSplit (fun h1=>?_) (fun h1=>?_)
  · have h1 : ile 0 (gapQ a.sh b.sh ((0,0),(-1,0),(0,0))).1.sign = true:=h1
    rw [ivVal_any (o:=((0,0),(-1,0),(0,0))) (by simp) h1]
    conv=>whnf
    repeat (refine nx ?_; conv=>whnf)
    exact SealV.tup (.cons (SealV.agg (.cons (SealV.pure .bool) (.cons SealV.nils (.cons (SealV.pure .bool) (.cons SealV.nils .nil))))) (.cons (SealV.agg (.cons (SealV.pure .bool) (.cons SealV.nils (.cons (SealV.pure .bool) (.cons SealV.nils .nil))))) (.cons (SealV.pure .bool) (.cons (SealV.pure .int) .nil))))
  have h1 : ile 0 (gapQ a.sh b.sh ((0,0),(-1,0),(0,0))).1.sign = false:=h1
  conv=>whnf
  refine IdxP.go 2 rfl (by decide) ?_
  conv=>whnf
  refine ⟨_,eQ3.rd (xs:=axL6) rfl (by decide),?_⟩
  conv=>whnf
  refine callW_go (tIv_nodup n hf hfl) 2 (c:=Cn.lift tb1 n_gap) rfl rfl ((a.sh,b.sh),((0,0),(0,0),(-1,0))) (hg ((0,0),(0,0),(-1,0)) (by simp [axL6])) (hk:=?_)
  conv=>whnf
  repeat (refine nx ?_; conv=>whnf)
  refine callW_gov (tIv_nodup n hf hfl) 3 (c:=Cn.lift tb1 n_VDot) rfl rfl (((0,0),(0,0),(-1,0)),((-1,0),(0,0),(0,0))) (dot_ok _ _ (by simp [axL6]) (by simp [axL6])) (v:=eRat.v (0,0)) (hv:=(congrArg eRat.v (by decide))) (hk:=?_)
  conv=>whnf
  repeat (refine nx ?_; conv=>whnf)
  refine callW_gov (tIv_nodup n hf hfl) 4 (c:=Cn.lift tb1 n_RSign) rfl rfl (0,0) trivial (v:=.int .i64 0) (hv:=rfl) (hk:=?_)
  conv=>whnf
  repeat (refine nx ?_; conv=>whnf)
  refine callW_go (tIv_nodup n hf hfl) 4 (c:=Cn.lift tb1 n_RSign) rfl rfl (gapQ a.sh b.sh ((0,0),(0,0),(-1,0))) trivial (hk:=?_)
  conv=>whnf
  repeat (refine nx ?_; conv=>whnf)
  refine bSplit (fun h2=>?_) (fun h2=>?_)
  · have h2 : ile 0 (gapQ a.sh b.sh ((0,0),(0,0),(-1,0))).1.sign = true:=h2
    rw [ivVal_any (o:=((0,0),(0,0),(-1,0))) (by simp) h2]
    conv=>whnf
    repeat (refine nx ?_; conv=>whnf)
    exact SealV.tup (.cons (SealV.agg (.cons (SealV.pure .bool) (.cons SealV.nils (.cons (SealV.pure .bool) (.cons SealV.nils .nil))))) (.cons (SealV.agg (.cons (SealV.pure .bool) (.cons SealV.nils (.cons (SealV.pure .bool) (.cons SealV.nils .nil))))) (.cons (SealV.pure .bool) (.cons (SealV.pure .int) .nil))))
  have h2 : ile 0 (gapQ a.sh b.sh ((0,0),(0,0),(-1,0))).1.sign = false:=h2
  conv=>whnf
  refine IdxP.go 3 rfl (by decide) ?_
  conv=>whnf
  refine ⟨_,eQ3.rd (xs:=axL6) rfl (by decide),?_⟩
  conv=>whnf
  refine callW_go (tIv_nodup n hf hfl) 2 (c:=Cn.lift tb1 n_gap) rfl rfl ((a.sh,b.sh),((0,0),(0,0),(1,0))) (hg ((0,0),(0,0),(1,0)) (by simp [axL6])) (hk:=?_)
  conv=>whnf
  repeat (refine nx ?_; conv=>whnf)
  refine callW_gov (tIv_nodup n hf hfl) 3 (c:=Cn.lift tb1 n_VDot) rfl rfl (((0,0),(0,0),(1,0)),((-1,0),(0,0),(0,0))) (dot_ok _ _ (by simp [axL6]) (by simp [axL6])) (v:=eRat.v (0,0)) (hv:=(congrArg eRat.v (by decide))) (hk:=?_)
  conv=>whnf
  repeat (refine nx ?_; conv=>whnf)
  refine callW_gov (tIv_nodup n hf hfl) 4 (c:=Cn.lift tb1 n_RSign) rfl rfl (0,0) trivial (v:=.int .i64 0) (hv:=rfl) (hk:=?_)
  conv=>whnf
  repeat (refine nx ?_; conv=>whnf)
  refine callW_go (tIv_nodup n hf hfl) 4 (c:=Cn.lift tb1 n_RSign) rfl rfl (gapQ a.sh b.sh ((0,0),(0,0),(1,0))) trivial (hk:=?_)
  conv=>whnf
  repeat (refine nx ?_; conv=>whnf)
  refine bSplit (fun h3=>?_) (fun h3=>?_)
  · have h3 : ile 0 (gapQ a.sh b.sh ((0,0),(0,0),(1,0))).1.sign = true:=h3
    rw [ivVal_any (o:=((0,0),(0,0),(1,0))) (by simp) h3]
    conv=>whnf
    repeat (refine nx ?_; conv=>whnf)
    exact SealV.tup (.cons (SealV.agg (.cons (SealV.pure .bool) (.cons SealV.nils (.cons (SealV.pure .bool) (.cons SealV.nils .nil))))) (.cons (SealV.agg (.cons (SealV.pure .bool) (.cons SealV.nils (.cons (SealV.pure .bool) (.cons SealV.nils .nil))))) (.cons (SealV.pure .bool) (.cons (SealV.pure .int) .nil))))
  have h3 : ile 0 (gapQ a.sh b.sh ((0,0),(0,0),(1,0))).1.sign = false:=h3
  conv=>whnf
  refine IdxP.go 4 rfl (by decide) ?_
  conv=>whnf
  refine ⟨_,eQ3.rd (xs:=axL6) rfl (by decide),?_⟩
  conv=>whnf
  refine callW_go (tIv_nodup n hf hfl) 2 (c:=Cn.lift tb1 n_gap) rfl rfl ((a.sh,b.sh),((0,0),(1,0),(0,0))) (hg ((0,0),(1,0),(0,0)) (by simp [axL6])) (hk:=?_)
  conv=>whnf
  repeat (refine nx ?_; conv=>whnf)
  refine callW_gov (tIv_nodup n hf hfl) 3 (c:=Cn.lift tb1 n_VDot) rfl rfl (((0,0),(1,0),(0,0)),((-1,0),(0,0),(0,0))) (dot_ok _ _ (by simp [axL6]) (by simp [axL6])) (v:=eRat.v (0,0)) (hv:=(congrArg eRat.v (by decide))) (hk:=?_)
  conv=>whnf
  repeat (refine nx ?_; conv=>whnf)
  refine callW_gov (tIv_nodup n hf hfl) 4 (c:=Cn.lift tb1 n_RSign) rfl rfl (0,0) trivial (v:=.int .i64 0) (hv:=rfl) (hk:=?_)
  conv=>whnf
  repeat (refine nx ?_; conv=>whnf)
  refine callW_go (tIv_nodup n hf hfl) 4 (c:=Cn.lift tb1 n_RSign) rfl rfl (gapQ a.sh b.sh ((0,0),(1,0),(0,0))) trivial (hk:=?_)
  conv=>whnf
  repeat (refine nx ?_; conv=>whnf)
  refine bSplit (fun h4=>?_) (fun h4=>?_)
  · have h4 : ile 0 (gapQ a.sh b.sh ((0,0),(1,0),(0,0))).1.sign = true:=h4
    rw [ivVal_any (o:=((0,0),(1,0),(0,0))) (by simp) h4]
    conv=>whnf
    repeat (refine nx ?_; conv=>whnf)
    exact SealV.tup (.cons (SealV.agg (.cons (SealV.pure .bool) (.cons SealV.nils (.cons (SealV.pure .bool) (.cons SealV.nils .nil))))) (.cons (SealV.agg (.cons (SealV.pure .bool) (.cons SealV.nils (.cons (SealV.pure .bool) (.cons SealV.nils .nil))))) (.cons (SealV.pure .bool) (.cons (SealV.pure .int) .nil))))
  have h4 : ile 0 (gapQ a.sh b.sh ((0,0),(1,0),(0,0))).1.sign = false:=h4
  conv=>whnf
  refine IdxP.go 5 rfl (by decide) ?_
  conv=>whnf
  refine ⟨_,eQ3.rd (xs:=axL6) rfl (by decide),?_⟩
  conv=>whnf
  refine callW_go (tIv_nodup n hf hfl) 2 (c:=Cn.lift tb1 n_gap) rfl rfl ((a.sh,b.sh),((1,0),(0,0),(0,0))) (hg ((1,0),(0,0),(0,0)) (by simp [axL6])) (hk:=?_)
  conv=>whnf
  repeat (refine nx ?_; conv=>whnf)
  refine callW_gov (tIv_nodup n hf hfl) 3 (c:=Cn.lift tb1 n_VDot) rfl rfl (((1,0),(0,0),(0,0)),((-1,0),(0,0),(0,0))) (dot_ok _ _ (by simp [axL6]) (by simp [axL6])) (v:=eRat.v (-1,0)) (hv:=(congrArg eRat.v (by decide))) (hk:=?_)
  conv=>whnf
  repeat (refine nx ?_; conv=>whnf)
  refine callW_gov (tIv_nodup n hf hfl) 4 (c:=Cn.lift tb1 n_RSign) rfl rfl (-1,0) trivial (v:=.int .i64 (-1)) (hv:=rfl) (hk:=?_)
  conv=>whnf
  repeat (refine nx ?_; conv=>whnf)
  refine callW_go (tIv_nodup n hf hfl) 5 (c:=Cn.lift tb1 n_RDiv) rfl rfl (gapQ a.sh b.sh ((1,0),(0,0),(0,0)),(-1,0)) (div_ok2 (hw _ (by simp [axL6]))) (hk:=?_)
  conv=>whnf
  repeat (refine nx ?_; conv=>whnf)
  refine ⟨_,_,rfl,?_⟩
  conv=>whnf
  repeat (refine nx ?_; conv=>whnf)
  refine callW_go (tIv_nodup n hf hfl) 6 (c:=Cn.lift tb1 n_RCompare) rfl rfl (Q.div (gapQ a.sh b.sh ((-1,0),(0,0),(0,0))) (1,0),Q.div (gapQ a.sh b.sh ((1,0),(0,0),(0,0))) (-1,0)) (cmp_ok2 (hw _ (by simp [axL6])) (hw _ (by simp [axL6]))) (hk:=?_)
  conv=>whnf
  repeat (refine nx ?_; conv=>whnf)
  have hos : ([((0,0),(-1,0),(0,0)),((0,0),(0,0),(-1,0)),((0,0),(0,0),(1,0)),((0,0),(1,0),(0,0))] : List Q3).any (fun o=>ile 0 (gapQ a.sh b.sh o).1.sign) = false:=by simp only [List.any_cons,List.any_nil,h1,h2,h3,h4,Bool.or_false]
  refine bSplit (fun h6=>?_) (fun h6=>?_)
  · have h6 : ile 0 (Q.cmp (Q.div (gapQ a.sh b.sh ((-1,0),(0,0),(0,0))) (1,0)) (Q.div (gapQ a.sh b.sh ((1,0),(0,0),(0,0))) (-1,0))) = true:=h6
    rw [ivVal_no hos h6]
    conv=>whnf
    repeat (refine nx ?_; conv=>whnf)
    exact SealV.tup (.cons (SealV.agg (.cons (SealV.pure .bool) (.cons SealV.nils (.cons (SealV.pure .bool) (.cons SealV.nils .nil))))) (.cons (SealV.agg (.cons (SealV.pure .bool) (.cons SealV.nils (.cons (SealV.pure .bool) (.cons SealV.nils .nil))))) (.cons (SealV.pure .bool) (.cons (SealV.pure .int) .nil))))
  have h6 : ile 0 (Q.cmp (Q.div (gapQ a.sh b.sh ((-1,0),(0,0),(0,0))) (1,0)) (Q.div (gapQ a.sh b.sh ((1,0),(0,0),(0,0))) (-1,0))) = false:=h6
  rw [ivVal_yes hos h6]
  conv=>whnf
  repeat (refine nx ?_; conv=>whnf)
  exact SealV.pure (ivSome_pure (Q.div (gapQ a.sh b.sh ((-1,0),(0,0),(0,0))) (1,0)) (Q.div (gapQ a.sh b.sh ((1,0),(0,0),(0,0))) (-1,0)))
theorem c_Iv1 (n : Cn Tryz.prog) (hf : n.f = 313) (hfl : n.flat = false) (a b : Bx) (ha : BxOK n a) (hb : BxOK n b) :
    PF Tryz.prog 277 (.cons (shV a.sh) (.cons (shV b.sh) (.cons (eQ3.v ((0,0),(-1,0),(0,0))) .nil))) (ivVal (gapQ a.sh b.sh) ((0,0),(-1,0),(0,0)) ((0,0),(1,0),(0,0)) (1,0) (-1,0) [((-1,0),(0,0),(0,0)),((0,0),(0,0),(-1,0)),((0,0),(0,0),(1,0)),((1,0),(0,0),(0,0))]):=by
  have hg : ∀ n ∈ axL6,GapOK a.sh b.sh n:=fun n hn=>(bx_gap ha.1 hb.1 n hn).1
  have hw : ∀ n ∈ axL6,Wh 100000000 (gapQ a.sh b.sh n):=fun n hn=>(bx_gap ha.1 hb.1 n hn).2
  refine PF.of_wp (c:=_) p_mixed (by decide) (fn:=Tryz.f277) rfl rfl rfl (.cons (shV_pure _) (.cons (shV_pure _) (.cons (eQ3.pureV _) .nil))) (call:=callW (tIv n hf hfl)) (fun B0=>callW_ok _ B0) ?_
  intro B0
  conv=>whnf
  refine callW_gov (tIv_nodup n hf hfl) 0 (c:=Cn.lift tb1 n_VIsZero) rfl rfl ((0,0),(-1,0),(0,0)) (isz_ok _ (by simp [axL6])) (v:=.bool false) (hv:=rfl) (hk:=?_)
  conv=>whnf
  repeat (refine nx ?_; conv=>whnf)
  refine callW_go (tIv_nodup n hf hfl) 1 (c:=n_AxB n hf hfl) rfl rfl (a,b) ⟨ha,hb⟩ (hk:=?_)
  conv=>whnf
  repeat (refine nx ?_; conv=>whnf)
  refine Cw.unroll p_mixed rfl rfl (callW_ok _ B0) 7 ?_
  conv=>whnf
  refine IdxP.go 0 rfl (by decide) ?_
  conv=>whnf
  refine ⟨_,eQ3.rd (xs:=axL6) rfl (by decide),?_⟩
  conv=>whnf
  refine callW_go (tIv_nodup n hf hfl) 2 (c:=Cn.lift tb1 n_gap) rfl rfl ((a.sh,b.sh),((-1,0),(0,0),(0,0))) (hg ((-1,0),(0,0),(0,0)) (by simp [axL6])) (hk:=?_)
  conv=>whnf
  repeat (refine nx ?_; conv=>whnf)
  refine callW_gov (tIv_nodup n hf hfl) 3 (c:=Cn.lift tb1 n_VDot) rfl rfl (((-1,0),(0,0),(0,0)),((0,0),(-1,0),(0,0))) (dot_ok _ _ (by simp [axL6]) (by simp [axL6])) (v:=eRat.v (0,0)) (hv:=(congrArg eRat.v (by decide))) (hk:=?_)
  conv=>whnf
  repeat (refine nx ?_; conv=>whnf)
  refine callW_gov (tIv_nodup n hf hfl) 4 (c:=Cn.lift tb1 n_RSign) rfl rfl (0,0) trivial (v:=.int .i64 0) (hv:=rfl) (hk:=?_)
  conv=>whnf
  repeat (refine nx ?_; conv=>whnf)
  refine callW_go (tIv_nodup n hf hfl) 4 (c:=Cn.lift tb1 n_RSign) rfl rfl (gapQ a.sh b.sh ((-1,0),(0,0),(0,0))) trivial (hk:=?_)
  conv=>whnf
  repeat (refine nx ?_; conv=>whnf)
  refine bSplit (fun h0=>?_) (fun h0=>?_)
  · have h0 : ile 0 (gapQ a.sh b.sh ((-1,0),(0,0),(0,0))).1.sign = true:=h0
    rw [ivVal_any (o:=((-1,0),(0,0),(0,0))) (by simp) h0]
    conv=>whnf
    repeat (refine nx ?_; conv=>whnf)
    exact SealV.tup (.cons (SealV.agg (.cons (SealV.pure .bool) (.cons SealV.nils (.cons (SealV.pure .bool) (.cons SealV.nils .nil))))) (.cons (SealV.agg (.cons (SealV.pure .bool) (.cons SealV.nils (.cons (SealV.pure .bool) (.cons SealV.nils .nil))))) (.cons (SealV.pure .bool) (.cons (SealV.pure .int) .nil))))
  have h0 : ile 0 (gapQ a.sh b.sh ((-1,0),(0,0),(0,0))).1.sign = false:=h0
  conv=>whnf
  refine IdxP.go 1 rfl (by decide) ?_
  conv=>whnf
  refine ⟨_,eQ3.rd (xs:=axL6) rfl (by decide),?_⟩
  conv=>whnf
  refine callW_go (tIv_nodup n hf hfl) 2 (c:=Cn.lift tb1 n_gap) rfl rfl ((a.sh,b.sh),((0,0),(-1,0),(0,0))) (hg ((0,0),(-1,0),(0,0)) (by simp [axL6])) (hk:=?_)
  conv=>whnf
  repeat (refine nx ?_; conv=>whnf)
  refine callW_gov (tIv_nodup n hf hfl) 3 (c:=Cn.lift tb1 n_VDot) rfl rfl (((0,0),(-1,0),(0,0)),((0,0),(-1,0),(0,0))) (dot_ok _ _ (by simp [axL6]) (by simp [axL6])) (v:=eRat.v (1,0)) (hv:=(congrArg eRat.v (by decide))) (hk:=?_)
  conv=>whnf
  repeat (refine nx ?_; conv=>whnf)
  refine callW_gov (tIv_nodup n hf hfl) 4 (c:=Cn.lift tb1 n_RSign) rfl rfl (1,0) trivial (v:=.int .i64 1) (hv:=rfl) (hk:=?_)
  conv=>whnf
  repeat (refine nx ?_; conv=>whnf)
  refine callW_go (tIv_nodup n hf hfl) 5 (c:=Cn.lift tb1 n_RDiv) rfl rfl (gapQ a.sh b.sh ((0,0),(-1,0),(0,0)),(1,0)) (div_ok1 (hw _ (by simp [axL6]))) (hk:=?_)
  conv=>whnf
  repeat (refine nx ?_; conv=>whnf)
  refine ⟨_,_,rfl,?_⟩
  conv=>whnf
  repeat (refine nx ?_; conv=>whnf)
  refine IdxP.go 2 rfl (by decide) ?_
  conv=>whnf
  refine ⟨_,eQ3.rd (xs:=axL6) rfl (by decide),?_⟩
  conv=>whnf
  refine callW_go (tIv_nodup n hf hfl) 2 (c:=Cn.lift tb1 n_gap) rfl rfl ((a.sh,b.sh),((0,0),(0,0),(-1,0))) (hg ((0,0),(0,0),(-1,0)) (by simp [axL6])) (hk:=?_)
  conv=>whnf
  repeat (refine nx ?_; conv=>whnf)
  refine callW_gov (tIv_nodup n hf hfl) 3 (c:=Cn.lift tb1 n_VDot) rfl rfl (((0,0),(0,0),(-1,0)),((0,0),(-1,0),(0,0))) (dot_ok _ _ (by simp [axL6]) (by simp [axL6])) (v:=eRat.v (0,0)) (hv:=(congrArg eRat.v (by decide))) (hk:=?_)
  conv=>whnf
  repeat (refine nx ?_; conv=>whnf)
  refine callW_gov (tIv_nodup n hf hfl) 4 (c:=Cn.lift tb1 n_RSign) rfl rfl (0,0) trivial (v:=.int .i64 0) (hv:=rfl) (hk:=?_)
  conv=>whnf
  repeat (refine nx ?_; conv=>whnf)
  refine callW_go (tIv_nodup n hf hfl) 4 (c:=Cn.lift tb1 n_RSign) rfl rfl (gapQ a.sh b.sh ((0,0),(0,0),(-1,0))) trivial (hk:=?_)
  conv=>whnf
  repeat (refine nx ?_; conv=>whnf)
  refine bSplit (fun h2=>?_) (fun h2=>?_)
  · have h2 : ile 0 (gapQ a.sh b.sh ((0,0),(0,0),(-1,0))).1.sign = true:=h2
    rw [ivVal_any (o:=((0,0),(0,0),(-1,0))) (by simp) h2]
    conv=>whnf
    repeat (refine nx ?_; conv=>whnf)
    exact SealV.tup (.cons (SealV.agg (.cons (SealV.pure .bool) (.cons SealV.nils (.cons (SealV.pure .bool) (.cons SealV.nils .nil))))) (.cons (SealV.agg (.cons (SealV.pure .bool) (.cons SealV.nils (.cons (SealV.pure .bool) (.cons SealV.nils .nil))))) (.cons (SealV.pure .bool) (.cons (SealV.pure .int) .nil))))
  have h2 : ile 0 (gapQ a.sh b.sh ((0,0),(0,0),(-1,0))).1.sign = false:=h2
  conv=>whnf
  refine IdxP.go 3 rfl (by decide) ?_
  conv=>whnf
  refine ⟨_,eQ3.rd (xs:=axL6) rfl (by decide),?_⟩
  conv=>whnf
  refine callW_go (tIv_nodup n hf hfl) 2 (c:=Cn.lift tb1 n_gap) rfl rfl ((a.sh,b.sh),((0,0),(0,0),(1,0))) (hg ((0,0),(0,0),(1,0)) (by simp [axL6])) (hk:=?_)
  conv=>whnf
  repeat (refine nx ?_; conv=>whnf)
  refine callW_gov (tIv_nodup n hf hfl) 3 (c:=Cn.lift tb1 n_VDot) rfl rfl (((0,0),(0,0),(1,0)),((0,0),(-1,0),(0,0))) (dot_ok _ _ (by simp [axL6]) (by simp [axL6])) (v:=eRat.v (0,0)) (hv:=(congrArg eRat.v (by decide))) (hk:=?_)
  conv=>whnf
  repeat (refine nx ?_; conv=>whnf)
  refine callW_gov (tIv_nodup n hf hfl) 4 (c:=Cn.lift tb1 n_RSign) rfl rfl (0,0) trivial (v:=.int .i64 0) (hv:=rfl) (hk:=?_)
  conv=>whnf
  repeat (refine nx ?_; conv=>whnf)
  refine callW_go (tIv_nodup n hf hfl) 4 (c:=Cn.lift tb1 n_RSign) rfl rfl (gapQ a.sh b.sh ((0,0),(0,0),(1,0))) trivial (hk:=?_)
  conv=>whnf
  repeat (refine nx ?_; conv=>whnf)
  refine bSplit (fun h3=>?_) (fun h3=>?_)
  · have h3 : ile 0 (gapQ a.sh b.sh ((0,0),(0,0),(1,0))).1.sign = true:=h3
    rw [ivVal_any (o:=((0,0),(0,0),(1,0))) (by simp) h3]
    conv=>whnf
    repeat (refine nx ?_; conv=>whnf)
    exact SealV.tup (.cons (SealV.agg (.cons (SealV.pure .bool) (.cons SealV.nils (.cons (SealV.pure .bool) (.cons SealV.nils .nil))))) (.cons (SealV.agg (.cons (SealV.pure .bool) (.cons SealV.nils (.cons (SealV.pure .bool) (.cons SealV.nils .nil))))) (.cons (SealV.pure .bool) (.cons (SealV.pure .int) .nil))))
  have h3 : ile 0 (gapQ a.sh b.sh ((0,0),(0,0),(1,0))).1.sign = false:=h3
  conv=>whnf
  refine IdxP.go 4 rfl (by decide) ?_
  conv=>whnf
  refine ⟨_,eQ3.rd (xs:=axL6) rfl (by decide),?_⟩
  conv=>whnf
  refine callW_go (tIv_nodup n hf hfl) 2 (c:=Cn.lift tb1 n_gap) rfl rfl ((a.sh,b.sh),((0,0),(1,0),(0,0))) (hg ((0,0),(1,0),(0,0)) (by simp [axL6])) (hk:=?_)
  conv=>whnf
  repeat (refine nx ?_; conv=>whnf)
  refine callW_gov (tIv_nodup n hf hfl) 3 (c:=Cn.lift tb1 n_VDot) rfl rfl (((0,0),(1,0),(0,0)),((0,0),(-1,0),(0,0))) (dot_ok _ _ (by simp [axL6]) (by simp [axL6])) (v:=eRat.v (-1,0)) (hv:=(congrArg eRat.v (by decide))) (hk:=?_)
  conv=>whnf
  repeat (refine nx ?_; conv=>whnf)
  refine callW_gov (tIv_nodup n hf hfl) 4 (c:=Cn.lift tb1 n_RSign) rfl rfl (-1,0) trivial (v:=.int .i64 (-1)) (hv:=rfl) (hk:=?_)
  conv=>whnf
  repeat (refine nx ?_; conv=>whnf)
  refine callW_go (tIv_nodup n hf hfl) 5 (c:=Cn.lift tb1 n_RDiv) rfl rfl (gapQ a.sh b.sh ((0,0),(1,0),(0,0)),(-1,0)) (div_ok2 (hw _ (by simp [axL6]))) (hk:=?_)
  conv=>whnf
  repeat (refine nx ?_; conv=>whnf)
  refine ⟨_,_,rfl,?_⟩
  conv=>whnf
  repeat (refine nx ?_; conv=>whnf)
  refine IdxP.go 5 rfl (by decide) ?_
  conv=>whnf
  refine ⟨_,eQ3.rd (xs:=axL6) rfl (by decide),?_⟩
  conv=>whnf
  refine callW_go (tIv_nodup n hf hfl) 2 (c:=Cn.lift tb1 n_gap) rfl rfl ((a.sh,b.sh),((1,0),(0,0),(0,0))) (hg ((1,0),(0,0),(0,0)) (by simp [axL6])) (hk:=?_)
  conv=>whnf
  repeat (refine nx ?_; conv=>whnf)
  refine callW_gov (tIv_nodup n hf hfl) 3 (c:=Cn.lift tb1 n_VDot) rfl rfl (((1,0),(0,0),(0,0)),((0,0),(-1,0),(0,0))) (dot_ok _ _ (by simp [axL6]) (by simp [axL6])) (v:=eRat.v (0,0)) (hv:=(congrArg eRat.v (by decide))) (hk:=?_)
  conv=>whnf
  repeat (refine nx ?_; conv=>whnf)
  refine callW_gov (tIv_nodup n hf hfl) 4 (c:=Cn.lift tb1 n_RSign) rfl rfl (0,0) trivial (v:=.int .i64 0) (hv:=rfl) (hk:=?_)
  conv=>whnf
  repeat (refine nx ?_; conv=>whnf)
  refine callW_go (tIv_nodup n hf hfl) 4 (c:=Cn.lift tb1 n_RSign) rfl rfl (gapQ a.sh b.sh ((1,0),(0,0),(0,0))) trivial (hk:=?_)
  conv=>whnf
  repeat (refine nx ?_; conv=>whnf)
  refine bSplit (fun h5=>?_) (fun h5=>?_)
  · have h5 : ile 0 (gapQ a.sh b.sh ((1,0),(0,0),(0,0))).1.sign = true:=h5
    rw [ivVal_any (o:=((1,0),(0,0),(0,0))) (by simp) h5]
    conv=>whnf
    repeat (refine nx ?_; conv=>whnf)
    exact SealV.tup (.cons (SealV.agg (.cons (SealV.pure .bool) (.cons SealV.nils (.cons (SealV.pure .bool) (.cons SealV.nils .nil))))) (.cons (SealV.agg (.cons (SealV.pure .bool) (.cons SealV.nils (.cons (SealV.pure .bool) (.cons SealV.nils .nil))))) (.cons (SealV.pure .bool) (.cons (SealV.pure .int) .nil))))
  have h5 : ile 0 (gapQ a.sh b.sh ((1,0),(0,0),(0,0))).1.sign = false:=h5
  conv=>whnf
  refine callW_go (tIv_nodup n hf hfl) 6 (c:=Cn.lift tb1 n_RCompare) rfl rfl (Q.div (gapQ a.sh b.sh ((0,0),(-1,0),(0,0))) (1,0),Q.div (gapQ a.sh b.sh ((0,0),(1,0),(0,0))) (-1,0)) (cmp_ok2 (hw _ (by simp [axL6])) (hw _ (by simp [axL6]))) (hk:=?_)
  conv=>whnf
  repeat (refine nx ?_; conv=>whnf)
  have hos : ([((-1,0),(0,0),(0,0)),((0,0),(0,0),(-1,0)),((0,0),(0,0),(1,0)),((1,0),(0,0),(0,0))] : List Q3).any (fun o=>ile 0 (gapQ a.sh b.sh o).1.sign) = false:=by simp only [List.any_cons,List.any_nil,h0,h2,h3,h5,Bool.or_false]
  refine bSplit (fun h6=>?_) (fun h6=>?_)
  · have h6 : ile 0 (Q.cmp (Q.div (gapQ a.sh b.sh ((0,0),(-1,0),(0,0))) (1,0)) (Q.div (gapQ a.sh b.sh ((0,0),(1,0),(0,0))) (-1,0))) = true:=h6
    rw [ivVal_no hos h6]
    conv=>whnf
    repeat (refine nx ?_; conv=>whnf)
    exact SealV.tup (.cons (SealV.agg (.cons (SealV.pure .bool) (.cons SealV.nils (.cons (SealV.pure .bool) (.cons SealV.nils .nil))))) (.cons (SealV.agg (.cons (SealV.pure .bool) (.cons SealV.nils (.cons (SealV.pure .bool) (.cons SealV.nils .nil))))) (.cons (SealV.pure .bool) (.cons (SealV.pure .int) .nil))))
  have h6 : ile 0 (Q.cmp (Q.div (gapQ a.sh b.sh ((0,0),(-1,0),(0,0))) (1,0)) (Q.div (gapQ a.sh b.sh ((0,0),(1,0),(0,0))) (-1,0))) = false:=h6
  rw [ivVal_yes hos h6]
  conv=>whnf
  repeat (refine nx ?_; conv=>whnf)
  exact SealV.pure (ivSome_pure (Q.div (gapQ a.sh b.sh ((0,0),(-1,0),(0,0))) (1,0)) (Q.div (gapQ a.sh b.sh ((0,0),(1,0),(0,0))) (-1,0)))
theorem c_Iv2 (n : Cn Tryz.prog) (hf : n.f = 313) (hfl : n.flat = false) (a b : Bx) (ha : BxOK n a) (hb : BxOK n b) :
    PF Tryz.prog 277 (.cons (shV a.sh) (.cons (shV b.sh) (.cons (eQ3.v ((0,0),(0,0),(-1,0))) .nil))) (ivVal (gapQ a.sh b.sh) ((0,0),(0,0),(-1,0)) ((0,0),(0,0),(1,0)) (1,0) (-1,0) [((-1,0),(0,0),(0,0)),((0,0),(-1,0),(0,0)),((0,0),(1,0),(0,0)),((1,0),(0,0),(0,0))]):=by
  have hg : ∀ n ∈ axL6,GapOK a.sh b.sh n:=fun n hn=>(bx_gap ha.1 hb.1 n hn).1
  have hw : ∀ n ∈ axL6,Wh 100000000 (gapQ a.sh b.sh n):=fun n hn=>(bx_gap ha.1 hb.1 n hn).2
  refine PF.of_wp (c:=_) p_mixed (by decide) (fn:=Tryz.f277) rfl rfl rfl (.cons (shV_pure _) (.cons (shV_pure _) (.cons (eQ3.pureV _) .nil))) (call:=callW (tIv n hf hfl)) (fun B0=>callW_ok _ B0) ?_
  intro B0
  conv=>whnf
  refine callW_gov (tIv_nodup n hf hfl) 0 (c:=Cn.lift tb1 n_VIsZero) rfl rfl ((0,0),(0,0),(-1,0)) (isz_ok _ (by simp [axL6])) (v:=.bool false) (hv:=rfl) (hk:=?_)
  conv=>whnf
  repeat (refine nx ?_; conv=>whnf)
  refine callW_go (tIv_nodup n hf hfl) 1 (c:=n_AxB n hf hfl) rfl rfl (a,b) ⟨ha,hb⟩ (hk:=?_)
  conv=>whnf
  repeat (refine nx ?_; conv=>whnf)
  refine Cw.unroll p_mixed rfl rfl (callW_ok _ B0) 7 ?_
  conv=>whnf
  refine IdxP.go 0 rfl (by decide) ?_
  conv=>whnf
  refine ⟨_,eQ3.rd (xs:=axL6) rfl (by decide),?_⟩
  conv=>whnf
  refine callW_go (tIv_nodup n hf hfl) 2 (c:=Cn.lift tb1 n_gap) rfl rfl ((a.sh,b.sh),((-1,0),(0,0),(0,0))) (hg ((-1,0),(0,0),(0,0)) (by simp [axL6])) (hk:=?_)
  conv=>whnf
  repeat (refine nx ?_; conv=>whnf)
  refine callW_gov (tIv_nodup n hf hfl) 3 (c:=Cn.lift tb1 n_VDot) rfl rfl (((-1,0),(0,0),(0,0)),((0,0),(0,0),(-1,0))) (dot_ok _ _ (by simp [axL6]) (by simp [axL6])) (v:=eRat.v (0,0)) (hv:=(congrArg eRat.v (by decide))) (hk:=?_)
  conv=>whnf
  repeat (refine nx ?_; conv=>whnf)
  refine callW_gov (tIv_nodup n hf hfl) 4 (c:=Cn.lift tb1 n_RSign) rfl rfl (0,0) trivial (v:=.int .i64 0) (hv:=rfl) (hk:=?_)
  conv=>whnf
  repeat (refine nx ?_; conv=>whnf)
  refine callW_go (tIv_nodup n hf hfl) 4 (c:=Cn.lift tb1 n_RSign) rfl rfl (gapQ a.sh b.sh ((-1,0),(0,0),(0,0))) trivial (hk:=?_)
  conv=>whnf
  repeat (refine nx ?_; conv=>whnf)
  refine bSplit (fun h0=>?_) (fun h0=>?_)
  · have h0 : ile 0 (gapQ a.sh b.sh ((-1,0),(0,0),(0,0))).1.sign = true:=h0
    rw [ivVal_any (o:=((-1,0),(0,0),(0,0))) (by simp) h0]
    conv=>whnf
    repeat (refine nx ?_; conv=>whnf)
    exact SealV.tup (.cons (SealV.agg (.cons (SealV.pure .bool) (.cons SealV.nils (.cons (SealV.pure .bool) (.cons SealV.nils .nil))))) (.cons (SealV.agg (.cons (SealV.pure .bool) (.cons SealV.nils (.cons (SealV.pure .bool) (.cons SealV.nils .nil))))) (.cons (SealV.pure .bool) (.cons (SealV.pure .int) .nil))))
  have h0 : ile 0 (gapQ a.sh b.sh ((-1,0),(0,0),(0,0))).1.sign = false:=h0
  conv=>whnf
  refine IdxP.go 1 rfl (by decide) ?_
  conv=>whnf
  refine ⟨_,eQ3.rd (xs:=axL6) rfl (by decide),?_⟩
  conv=>whnf
  refine callW_go (tIv_nodup n hf hfl) 2 (c:=Cn.lift tb1 n_gap) rfl rfl ((a.sh,b.sh),((0,0),(-1,0),(0,0))) (hg ((0,0),(-1,0),(0,0)) (by simp [axL6])) (hk:=?_)
  conv=>whnf
  repeat (refine nx ?_; conv=>whnf)
  refine callW_gov (tIv_nodup n hf hfl) 3 (c:=Cn.lift tb1 n_VDot) rfl rfl (((0,0),(-1,0),(0,0)),((0,0),(0,0),(-1,0))) (dot_ok _ _ (by simp [axL6]) (by simp [axL6])) (v:=eRat.v (0,0)) (hv:=(congrArg eRat.v (by decide))) (hk:=?_)
  conv=>whnf
  repeat (refine nx ?_; conv=>whnf)
  refine callW_gov (tIv_nodup n hf hfl) 4 (c:=Cn.lift tb1 n_RSign) rfl rfl (0,0) trivial (v:=.int .i64 0) (hv:=rfl) (hk:=?_)
  conv=>whnf
  repeat (refine nx ?_; conv=>whnf)
  refine callW_go (tIv_nodup n hf hfl) 4 (c:=Cn.lift tb1 n_RSign) rfl rfl (gapQ a.sh b.sh ((0,0),(-1,0),(0,0))) trivial (hk:=?_)
  conv=>whnf
  repeat (refine nx ?_; conv=>whnf)
  refine bSplit (fun h1=>?_) (fun h1=>?_)
  · have h1 : ile 0 (gapQ a.sh b.sh ((0,0),(-1,0),(0,0))).1.sign = true:=h1
    rw [ivVal_any (o:=((0,0),(-1,0),(0,0))) (by simp) h1]
    conv=>whnf
    repeat (refine nx ?_; conv=>whnf)
    exact SealV.tup (.cons (SealV.agg (.cons (SealV.pure .bool) (.cons SealV.nils (.cons (SealV.pure .bool) (.cons SealV.nils .nil))))) (.cons (SealV.agg (.cons (SealV.pure .bool) (.cons SealV.nils (.cons (SealV.pure .bool) (.cons SealV.nils .nil))))) (.cons (SealV.pure .bool) (.cons (SealV.pure .int) .nil))))
  have h1 : ile 0 (gapQ a.sh b.sh ((0,0),(-1,0),(0,0))).1.sign = false:=h1
  conv=>whnf
  refine IdxP.go 2 rfl (by decide) ?_
  conv=>whnf
  refine ⟨_,eQ3.rd (xs:=axL6) rfl (by decide),?_⟩
  conv=>whnf
  refine callW_go (tIv_nodup n hf hfl) 2 (c:=Cn.lift tb1 n_gap) rfl rfl ((a.sh,b.sh),((0,0),(0,0),(-1,0))) (hg ((0,0),(0,0),(-1,0)) (by simp [axL6])) (hk:=?_)
  conv=>whnf
  repeat (refine nx ?_; conv=>whnf)
  refine callW_gov (tIv_nodup n hf hfl) 3 (c:=Cn.lift tb1 n_VDot) rfl rfl (((0,0),(0,0),(-1,0)),((0,0),(0,0),(-1,0))) (dot_ok _ _ (by simp [axL6]) (by simp [axL6])) (v:=eRat.v (1,0)) (hv:=(congrArg eRat.v (by decide))) (hk:=?_)
  conv=>whnf
  repeat (refine nx ?_; conv=>whnf)
  refine callW_gov (tIv_nodup n hf hfl) 4 (c:=Cn.lift tb1 n_RSign) rfl rfl (1,0) trivial (v:=.int .i64 1) (hv:=rfl) (hk:=?_)
  conv=>whnf
  repeat (refine nx ?_; conv=>whnf)
  refine callW_go (tIv_nodup n hf hfl) 5 (c:=Cn.lift tb1 n_RDiv) rfl rfl (gapQ a.sh b.sh ((0,0),(0,0),(-1,0)),(1,0)) (div_ok1 (hw _ (by simp [axL6]))) (hk:=?_)
  conv=>whnf
  repeat (refine nx ?_; conv=>whnf)
  refine ⟨_,_,rfl,?_⟩
  conv=>whnf
  repeat (refine nx ?_; conv=>whnf)
  refine IdxP.go 3 rfl (by decide) ?_
  conv=>whnf
  refine ⟨_,eQ3.rd (xs:=axL6) rfl (by decide),?_⟩
  conv=>whnf
  refine callW_go (tIv_nodup n hf hfl) 2 (c:=Cn.lift tb1 n_gap) rfl rfl ((a.sh,b.sh),((0,0),(0,0),(1,0))) (hg ((0,0),(0,0),(1,0)) (by simp [axL6])) (hk:=?_)
  conv=>whnf
  repeat (refine nx ?_; conv=>whnf)
  refine callW_gov (tIv_nodup n hf hfl) 3 (c:=Cn.lift tb1 n_VDot) rfl rfl (((0,0),(0,0),(1,0)),((0,0),(0,0),(-1,0))) (dot_ok _ _ (by simp [axL6]) (by simp [axL6])) (v:=eRat.v (-1,0)) (hv:=(congrArg eRat.v (by decide))) (hk:=?_)
  conv=>whnf
  repeat (refine nx ?_; conv=>whnf)
  refine callW_gov (tIv_nodup n hf hfl) 4 (c:=Cn.lift tb1 n_RSign) rfl rfl (-1,0) trivial (v:=.int .i64 (-1)) (hv:=rfl) (hk:=?_)
  conv=>whnf
  repeat (refine nx ?_; conv=>whnf)
  refine callW_go (tIv_nodup n hf hfl) 5 (c:=Cn.lift tb1 n_RDiv) rfl rfl (gapQ a.sh b.sh ((0,0),(0,0),(1,0)),(-1,0)) (div_ok2 (hw _ (by simp [axL6]))) (hk:=?_)
  conv=>whnf
  repeat (refine nx ?_; conv=>whnf)
  refine ⟨_,_,rfl,?_⟩
  conv=>whnf
  repeat (refine nx ?_; conv=>whnf)
  refine IdxP.go 4 rfl (by decide) ?_
  conv=>whnf
  refine ⟨_,eQ3.rd (xs:=axL6) rfl (by decide),?_⟩
  conv=>whnf
  refine callW_go (tIv_nodup n hf hfl) 2 (c:=Cn.lift tb1 n_gap) rfl rfl ((a.sh,b.sh),((0,0),(1,0),(0,0))) (hg ((0,0),(1,0),(0,0)) (by simp [axL6])) (hk:=?_)
  conv=>whnf
  repeat (refine nx ?_; conv=>whnf)
  refine callW_gov (tIv_nodup n hf hfl) 3 (c:=Cn.lift tb1 n_VDot) rfl rfl (((0,0),(1,0),(0,0)),((0,0),(0,0),(-1,0))) (dot_ok _ _ (by simp [axL6]) (by simp [axL6])) (v:=eRat.v (0,0)) (hv:=(congrArg eRat.v (by decide))) (hk:=?_)
  conv=>whnf
  repeat (refine nx ?_; conv=>whnf)
  refine callW_gov (tIv_nodup n hf hfl) 4 (c:=Cn.lift tb1 n_RSign) rfl rfl (0,0) trivial (v:=.int .i64 0) (hv:=rfl) (hk:=?_)
  conv=>whnf
  repeat (refine nx ?_; conv=>whnf)
  refine callW_go (tIv_nodup n hf hfl) 4 (c:=Cn.lift tb1 n_RSign) rfl rfl (gapQ a.sh b.sh ((0,0),(1,0),(0,0))) trivial (hk:=?_)
  conv=>whnf
  repeat (refine nx ?_; conv=>whnf)
  refine bSplit (fun h4=>?_) (fun h4=>?_)
  · have h4 : ile 0 (gapQ a.sh b.sh ((0,0),(1,0),(0,0))).1.sign = true:=h4
    rw [ivVal_any (o:=((0,0),(1,0),(0,0))) (by simp) h4]
    conv=>whnf
    repeat (refine nx ?_; conv=>whnf)
    exact SealV.tup (.cons (SealV.agg (.cons (SealV.pure .bool) (.cons SealV.nils (.cons (SealV.pure .bool) (.cons SealV.nils .nil))))) (.cons (SealV.agg (.cons (SealV.pure .bool) (.cons SealV.nils (.cons (SealV.pure .bool) (.cons SealV.nils .nil))))) (.cons (SealV.pure .bool) (.cons (SealV.pure .int) .nil))))
  have h4 : ile 0 (gapQ a.sh b.sh ((0,0),(1,0),(0,0))).1.sign = false:=h4
  conv=>whnf
  refine IdxP.go 5 rfl (by decide) ?_
  conv=>whnf
  refine ⟨_,eQ3.rd (xs:=axL6) rfl (by decide),?_⟩
  conv=>whnf
  refine callW_go (tIv_nodup n hf hfl) 2 (c:=Cn.lift tb1 n_gap) rfl rfl ((a.sh,b.sh),((1,0),(0,0),(0,0))) (hg ((1,0),(0,0),(0,0)) (by simp [axL6])) (hk:=?_)
  conv=>whnf
  repeat (refine nx ?_; conv=>whnf)
  refine callW_gov (tIv_nodup n hf hfl) 3 (c:=Cn.lift tb1 n_VDot) rfl rfl (((1,0),(0,0),(0,0)),((0,0),(0,0),(-1,0))) (dot_ok _ _ (by simp [axL6]) (by simp [axL6])) (v:=eRat.v (0,0)) (hv:=(congrArg eRat.v (by decide))) (hk:=?_)
  conv=>whnf
  repeat (refine nx ?_; conv=>whnf)
  refine callW_gov (tIv_nodup n hf hfl) 4 (c:=Cn.lift tb1 n_RSign) rfl rfl (0,0) trivial (v:=.int .i64 0) (hv:=rfl) (hk:=?_)
  conv=>whnf
  repeat (refine nx ?_; conv=>whnf)
  refine callW_go (tIv_nodup n hf hfl) 4 (c:=Cn.lift tb1 n_RSign) rfl rfl (gapQ a.sh b.sh ((1,0),(0,0),(0,0))) trivial (hk:=?_)
  conv=>whnf
  repeat (refine nx ?_; conv=>whnf)
  refine bSplit (fun h5=>?_) (fun h5=>?_)
  · have h5 : ile 0 (gapQ a.sh b.sh ((1,0),(0,0),(0,0))).1.sign = true:=h5
    rw [ivVal_any (o:=((1,0),(0,0),(0,0))) (by simp) h5]
    conv=>whnf
    repeat (refine nx ?_; conv=>whnf)
    exact SealV.tup (.cons (SealV.agg (.cons (SealV.pure .bool) (.cons SealV.nils (.cons (SealV.pure .bool) (.cons SealV.nils .nil))))) (.cons (SealV.agg (.cons (SealV.pure .bool) (.cons SealV.nils (.cons (SealV.pure .bool) (.cons SealV.nils .nil))))) (.cons (SealV.pure .bool) (.cons (SealV.pure .int) .nil))))
  have h5 : ile 0 (gapQ a.sh b.sh ((1,0),(0,0),(0,0))).1.sign = false:=h5
  conv=>whnf
  refine callW_go (tIv_nodup n hf hfl) 6 (c:=Cn.lift tb1 n_RCompare) rfl rfl (Q.div (gapQ a.sh b.sh ((0,0),(0,0),(-1,0))) (1,0),Q.div (gapQ a.sh b.sh ((0,0),(0,0),(1,0))) (-1,0)) (cmp_ok2 (hw _ (by simp [axL6])) (hw _ (by simp [axL6]))) (hk:=?_)
  conv=>whnf
  repeat (refine nx ?_; conv=>whnf)
  have hos : ([((-1,0),(0,0),(0,0)),((0,0),(-1,0),(0,0)),((0,0),(1,0),(0,0)),((1,0),(0,0),(0,0))] : List Q3).any (fun o=>ile 0 (gapQ a.sh b.sh o).1.sign) = false:=by simp only [List.any_cons,List.any_nil,h0,h1,h4,h5,Bool.or_false]
  refine bSplit (fun h6=>?_) (fun h6=>?_)
  · have h6 : ile 0 (Q.cmp (Q.div (gapQ a.sh b.sh ((0,0),(0,0),(-1,0))) (1,0)) (Q.div (gapQ a.sh b.sh ((0,0),(0,0),(1,0))) (-1,0))) = true:=h6
    rw [ivVal_no hos h6]
    conv=>whnf
    repeat (refine nx ?_; conv=>whnf)
    exact SealV.tup (.cons (SealV.agg (.cons (SealV.pure .bool) (.cons SealV.nils (.cons (SealV.pure .bool) (.cons SealV.nils .nil))))) (.cons (SealV.agg (.cons (SealV.pure .bool) (.cons SealV.nils (.cons (SealV.pure .bool) (.cons SealV.nils .nil))))) (.cons (SealV.pure .bool) (.cons (SealV.pure .int) .nil))))
  have h6 : ile 0 (Q.cmp (Q.div (gapQ a.sh b.sh ((0,0),(0,0),(-1,0))) (1,0)) (Q.div (gapQ a.sh b.sh ((0,0),(0,0),(1,0))) (-1,0))) = false:=h6
  rw [ivVal_yes hos h6]
  conv=>whnf
  repeat (refine nx ?_; conv=>whnf)
  exact SealV.pure (ivSome_pure (Q.div (gapQ a.sh b.sh ((0,0),(0,0),(-1,0))) (1,0)) (Q.div (gapQ a.sh b.sh ((0,0),(0,0),(1,0))) (-1,0)))
end Go.Sy
namespace Go.Sy
open Go.RowKit Go.Proofs
set_option linter.unusedVariables false
set_option linter.unusedSimpArgs false
set_option maxRecDepth 1000000
set_option maxHeartbeats 0
attribute [local irreducible] Cw SealV SealL PF Sub
theorem c_Iv3 (n : Cn Tryz.prog) (hf : n.f = 313) (hfl : n.flat = false) (a b : Bx) (ha : BxOK n a) (hb : BxOK n b) :
    PF Tryz.prog 277 (.cons (shV a.sh) (.cons (shV b.sh) (.cons (eQ3.v ((0,0),(0,0),(1,0))) .nil))) (ivVal (gapQ a.sh b.sh) ((0,0),(0,0),(1,0)) ((0,0),(0,0),(-1,0)) (1,0) (-1,0) [((-1,0),(0,0),(0,0)),((0,0),(-1,0),(0,0)),((0,0),(1,0),(0,0)),((1,0),(0,0),(0,0))]):=by
  have hg : ∀ n ∈ axL6,GapOK a.sh b.sh n:=fun n hn=>(bx_gap ha.1 hb.1 n hn).1
  have hw : ∀ n ∈ axL6,Wh 100000000 (gapQ a.sh b.sh n):=fun n hn=>(bx_gap ha.1 hb.1 n hn).2
  refine PF.of_wp (c:=_) p_mixed (by decide) (fn:=Tryz.f277) rfl rfl rfl (.cons (shV_pure _) (.cons (shV_pure _) (.cons (eQ3.pureV _) .nil))) (call:=callW (tIv n hf hfl)) (fun B0=>callW_ok _ B0) ?_
  intro B0
  conv=>whnf
  refine callW_gov (tIv_nodup n hf hfl) 0 (c:=Cn.lift tb1 n_VIsZero) rfl rfl ((0,0),(0,0),(1,0)) (isz_ok _ (by simp [axL6])) (v:=.bool false) (hv:=rfl) (hk:=?_)
  conv=>whnf
  repeat (refine nx ?_; conv=>whnf)
  refine callW_go (tIv_nodup n hf hfl) 1 (c:=n_AxB n hf hfl) rfl rfl (a,b) ⟨ha,hb⟩ (hk:=?_)
  conv=>whnf
  repeat (refine nx ?_; conv=>whnf)
  refine Cw.unroll p_mixed rfl rfl (callW_ok _ B0) 7 ?_
  conv=>whnf
  refine IdxP.go 0 rfl (by decide) ?_
  conv=>whnf
  refine ⟨_,eQ3.rd (xs:=axL6) rfl (by decide),?_⟩
  conv=>whnf
  refine callW_go (tIv_nodup n hf hfl) 2 (c:=Cn.lift tb1 n_gap) rfl rfl ((a.sh,b.sh),((-1,0),(0,0),(0,0))) (hg ((-1,0),(0,0),(0,0)) (by simp [axL6])) (hk:=?_)
  conv=>whnf
  repeat (refine nx ?_; conv=>whnf)
  refine callW_gov (tIv_nodup n hf hfl) 3 (c:=Cn.lift tb1 n_VDot) rfl rfl (((-1,0),(0,0),(0,0)),((0,0),(0,0),(1,0))) (dot_ok _ _ (by simp [axL6]) (by simp [axL6])) (v:=eRat.v (0,0)) (hv:=(congrArg eRat.v (by decide))) (hk:=?_)
  conv=>whnf
  repeat (refine nx ?_; conv=>whnf)
  refine callW_gov (tIv_nodup n hf hfl) 4 (c:=Cn.lift tb1 n_RSign) rfl rfl (0,0) trivial (v:=.int .i64 0) (hv:=rfl) (hk:=?_)
  conv=>whnf
  repeat (refine nx ?_; conv=>whnf)
  refine callW_go (tIv_nodup n hf hfl) 4 (c:=Cn.lift tb1 n_RSign) rfl rfl (gapQ a.sh b.sh ((-1,0),(0,0),(0,0))) trivial (hk:=?_)
  conv=>whnf
  repeat (refine nx ?_; conv=>whnf)
  refine bSplit (fun h0=>?_) (fun h0=>?_)
  · have h0 : ile 0 (gapQ a.sh b.sh ((-1,0),(0,0),(0,0))).1.sign = true:=h0
    rw [ivVal_any (o:=((-1,0),(0,0),(0,0))) (by simp) h0]
    conv=>whnf
    repeat (refine nx ?_; conv=>whnf)
    exact SealV.tup (.cons (SealV.agg (.cons (SealV.pure .bool) (.cons SealV.nils (.cons (SealV.pure .bool) (.cons SealV.nils .nil))))) (.cons (SealV.agg (.cons (SealV.pure .bool) (.cons SealV.nils (.cons (SealV.pure .bool) (.cons SealV.nils .nil))))) (.cons (SealV.pure .bool) (.cons (SealV.pure .int) .nil))))
  have h0 : ile 0 (gapQ a.sh b.sh ((-1,0),(0,0),(0,0))).1.sign = false:=h0
  conv=>whnf
  refine IdxP.go 1 rfl (by decide) ?_
  conv=>whnf
  refine ⟨_,eQ3.rd (xs:=axL6) rfl (by decide),?_⟩
  conv=>whnf
  refine callW_go (tIv_nodup n hf hfl) 2 (c:=Cn.lift tb1 n_gap) rfl rfl ((a.sh,b.sh),((0,0),(-1,0),(0,0))) (hg ((0,0),(-1,0),(0,0)) (by simp [axL6])) (hk:=?_)
  conv=>whnf
  repeat (refine nx ?_; conv=>whnf)
  refine callW_gov (tIv_nodup n hf hfl) 3 (c:=Cn.lift tb1 n_VDot) rfl rfl (((0,0),(-1,0),(0,0)),((0,0),(0,0),(1,0))) (dot_ok _ _ (by simp [axL6]) (by simp [axL6])) (v:=eRat.v (0,0)) (hv:=(congrArg eRat.v (by decide))) (hk:=?_)
  conv=>whnf
  repeat (refine nx ?_; conv=>whnf)
  refine callW_gov (tIv_nodup n hf hfl) 4 (c:=Cn.lift tb1 n_RSign) rfl rfl (0,0) trivial (v:=.int .i64 0) (hv:=rfl) (hk:=?_)
  conv=>whnf
  repeat (refine nx ?_; conv=>whnf)
  refine callW_go (tIv_nodup n hf hfl) 4 (c:=Cn.lift tb1 n_RSign) rfl rfl (gapQ a.sh b.sh ((0,0),(-1,0),(0,0))) trivial (hk:=?_)
  conv=>whnf
  repeat (refine nx ?_; conv=>whnf)
  refine bSplit (fun h1=>?_) (fun h1=>?_)
  · have h1 : ile 0 (gapQ a.sh b.sh ((0,0),(-1,0),(0,0))).1.sign = true:=h1
    rw [ivVal_any (o:=((0,0),(-1,0),(0,0))) (by simp) h1]
    conv=>whnf
    repeat (refine nx ?_; conv=>whnf)
    exact SealV.tup (.cons (SealV.agg (.cons (SealV.pure .bool) (.cons SealV.nils (.cons (SealV.pure .bool) (.cons SealV.nils .nil))))) (.cons (SealV.agg (.cons (SealV.pure .bool) (.cons SealV.nils (.cons (SealV.pure .bool) (.cons SealV.nils .nil))))) (.cons (SealV.pure .bool) (.cons (SealV.pure .int) .nil))))
  have h1 : ile 0 (gapQ a.sh b.sh ((0,0),(-1,0),(0,0))).1.sign = false:=h1
  conv=>whnf
  refine IdxP.go 2 rfl (by decide) ?_
  conv=>whnf
  refine ⟨_,eQ3.rd (xs:=axL6) rfl (by decide),?_⟩
  conv=>whnf
  refine callW_go (tIv_nodup n hf hfl) 2 (c:=Cn.lift tb1 n_gap) rfl rfl ((a.sh,b.sh),((0,0),(0,0),(-1,0))) (hg ((0,0),(0,0),(-1,0)) (by simp [axL6])) (hk:=?_)
  conv=>whnf
  repeat (refine nx ?_; conv=>whnf)
  refine callW_gov (tIv_nodup n hf hfl) 3 (c:=Cn.lift tb1 n_VDot) rfl rfl (((0,0),(0,0),(-1,0)),((0,0),(0,0),(1,0))) (dot_ok _ _ (by simp [axL6]) (by simp [axL6])) (v:=eRat.v (-1,0)) (hv:=(congrArg eRat.v (by decide))) (hk:=?_)
  conv=>whnf
  repeat (refine nx ?_; conv=>whnf)
  refine callW_gov (tIv_nodup n hf hfl) 4 (c:=Cn.lift tb1 n_RSign) rfl rfl (-1,0) trivial (v:=.int .i64 (-1)) (hv:=rfl) (hk:=?_)
  conv=>whnf
  repeat (refine nx ?_; conv=>whnf)
  refine callW_go (tIv_nodup n hf hfl) 5 (c:=Cn.lift tb1 n_RDiv) rfl rfl (gapQ a.sh b.sh ((0,0),(0,0),(-1,0)),(-1,0)) (div_ok2 (hw _ (by simp [axL6]))) (hk:=?_)
  conv=>whnf
  repeat (refine nx ?_; conv=>whnf)
  refine ⟨_,_,rfl,?_⟩
  conv=>whnf
  repeat (refine nx ?_; conv=>whnf)
  refine IdxP.go 3 rfl (by decide) ?_
  conv=>whnf
  refine ⟨_,eQ3.rd (xs:=axL6) rfl (by decide),?_⟩
  conv=>whnf
  refine callW_go (tIv_nodup n hf hfl) 2 (c:=Cn.lift tb1 n_gap) rfl rfl ((a.sh,b.sh),((0,0),(0,0),(1,0))) (hg ((0,0),(0,0),(1,0)) (by simp [axL6])) (hk:=?_)
  conv=>whnf
  repeat (refine nx ?_; conv=>whnf)
  refine callW_gov (tIv_nodup n hf hfl) 3 (c:=Cn.lift tb1 n_VDot) rfl rfl (((0,0),(0,0),(1,0)),((0,0),(0,0),(1,0))) (dot_ok _ _ (by simp [axL6]) (by simp [axL6])) (v:=eRat.v (1,0)) (hv:=(congrArg eRat.v (by decide))) (hk:=?_)
  conv=>whnf
  repeat (refine nx ?_; conv=>whnf)
  refine callW_gov (tIv_nodup n hf hfl) 4 (c:=Cn.lift tb1 n_RSign) rfl rfl (1,0) trivial (v:=.int .i64 1) (hv:=rfl) (hk:=?_)
  conv=>whnf
  repeat (refine nx ?_; conv=>whnf)
  refine callW_go (tIv_nodup n hf hfl) 5 (c:=Cn.lift tb1 n_RDiv) rfl rfl (gapQ a.sh b.sh ((0,0),(0,0),(1,0)),(1,0)) (div_ok1 (hw _ (by simp [axL6]))) (hk:=?_)
  conv=>whnf
  repeat (refine nx ?_; conv=>whnf)
  refine ⟨_,_,rfl,?_⟩
  conv=>whnf
  repeat (refine nx ?_; conv=>whnf)
  refine IdxP.go 4 rfl (by decide) ?_
  conv=>whnf
  refine ⟨_,eQ3.rd (xs:=axL6) rfl (by decide),?_⟩
  conv=>whnf
  refine callW_go (tIv_nodup n hf hfl) 2 (c:=Cn.lift tb1 n_gap) rfl rfl ((a.sh,b.sh),((0,0),(1,0),(0,0))) (hg ((0,0),(1,0),(0,0)) (by simp [axL6])) (hk:=?_)
  conv=>whnf
  repeat (refine nx ?_; conv=>whnf)
  refine callW_gov (tIv_nodup n hf hfl) 3 (c:=Cn.lift tb1 n_VDot) rfl rfl (((0,0),(1,0),(0,0)),((0,0),(0,0),(1,0))) (dot_ok _ _ (by simp [axL6]) (by simp [axL6])) (v:=eRat.v (0,0)) (hv:=(congrArg eRat.v (by decide))) (hk:=?_)
  conv=>whnf
  repeat (refine nx ?_; conv=>whnf)
  refine callW_gov (tIv_nodup n hf hfl) 4 (c:=Cn.lift tb1 n_RSign) rfl rfl (0,0) trivial (v:=.int .i64 0) (hv:=rfl) (hk:=?_)
  conv=>whnf
  repeat (refine nx ?_; conv=>whnf)
  refine callW_go (tIv_nodup n hf hfl) 4 (c:=Cn.lift tb1 n_RSign) rfl rfl (gapQ a.sh b.sh ((0,0),(1,0),(0,0))) trivial (hk:=?_)
  conv=>whnf
  repeat (refine nx ?_; conv=>whnf)
  refine bSplit (fun h4=>?_) (fun h4=>?_)
  · have h4 : ile 0 (gapQ a.sh b.sh ((0,0),(1,0),(0,0))).1.sign = true:=h4
    rw [ivVal_any (o:=((0,0),(1,0),(0,0))) (by simp) h4]
    conv=>whnf
    repeat (refine nx ?_; conv=>whnf)
    exact SealV.tup (.cons (SealV.agg (.cons (SealV.pure .bool) (.cons SealV.nils (.cons (SealV.pure .bool) (.cons SealV.nils .nil))))) (.cons (SealV.agg (.cons (SealV.pure .bool) (.cons SealV.nils (.cons (SealV.pure .bool) (.cons SealV.nils .nil))))) (.cons (SealV.pure .bool) (.cons (SealV.pure .int) .nil))))
  have h4 : ile 0 (gapQ a.sh b.sh ((0,0),(1,0),(0,0))).1.sign = false:=h4
  conv=>whnf
  refine IdxP.go 5 rfl (by decide) ?_
  conv=>whnf
  refine ⟨_,eQ3.rd (xs:=axL6) rfl (by decide),?_⟩
  conv=>whnf
  refine callW_go (tIv_nodup n hf hfl) 2 (c:=Cn.lift tb1 n_gap) rfl rfl ((a.sh,b.sh),((1,0),(0,0),(0,0))) (hg ((1,0),(0,0),(0,0)) (by simp [axL6])) (hk:=?_)
  conv=>whnf
  repeat (refine nx ?_; conv=>whnf)
  refine callW_gov (tIv_nodup n hf hfl) 3 (c:=Cn.lift tb1 n_VDot) rfl rfl (((1,0),(0,0),(0,0)),((0,0),(0,0),(1,0))) (dot_ok _ _ (by simp [axL6]) (by simp [axL6])) (v:=eRat.v (0,0)) (hv:=(congrArg eRat.v (by decide))) (hk:=?_)
  conv=>whnf
  repeat (refine nx ?_; conv=>whnf)
  refine callW_gov (tIv_nodup n hf hfl) 4 (c:=Cn.lift tb1 n_RSign) rfl rfl (0,0) trivial (v:=.int .i64 0) (hv:=rfl) (hk:=?_)
  conv=>whnf
  repeat (refine nx ?_; conv=>whnf)
  refine callW_go (tIv_nodup n hf hfl) 4 (c:=Cn.lift tb1 n_RSign) rfl rfl (gapQ a.sh b.sh ((1,0),(0,0),(0,0))) trivial (hk:=?_)
  conv=>whnf
  repeat (refine nx ?_; conv=>whnf)
  refine bSplit (fun h5=>?_) (fun h5=>?_)
  · have h5 : ile 0 (gapQ a.sh b.sh ((1,0),(0,0),(0,0))).1.sign = true:=h5
    rw [ivVal_any (o:=((1,0),(0,0),(0,0))) (by simp) h5]
    conv=>whnf
    repeat (refine nx ?_; conv=>whnf)
    exact SealV.tup (.cons (SealV.agg (.cons (SealV.pure .bool) (.cons SealV.nils (.cons (SealV.pure .bool) (.cons SealV.nils .nil))))) (.cons (SealV.agg (.cons (SealV.pure .bool) (.cons SealV.nils (.cons (SealV.pure .bool) (.cons SealV.nils .nil))))) (.cons (SealV.pure .bool) (.cons (SealV.pure .int) .nil))))
  have h5 : ile 0 (gapQ a.sh b.sh ((1,0),(0,0),(0,0))).1.sign = false:=h5
  conv=>whnf
  refine callW_go (tIv_nodup n hf hfl) 6 (c:=Cn.lift tb1 n_RCompare) rfl rfl (Q.div (gapQ a.sh b.sh ((0,0),(0,0),(1,0))) (1,0),Q.div (gapQ a.sh b.sh ((0,0),(0,0),(-1,0))) (-1,0)) (cmp_ok2 (hw _ (by simp [axL6])) (hw _ (by simp [axL6]))) (hk:=?_)
  conv=>whnf
  repeat (refine nx ?_; conv=>whnf)
  have hos : ([((-1,0),(0,0),(0,0)),((0,0),(-1,0),(0,0)),((0,0),(1,0),(0,0)),((1,0),(0,0),(0,0))] : List Q3).any (fun o=>ile 0 (gapQ a.sh b.sh o).1.sign) = false:=by simp only [List.any_cons,List.any_nil,h0,h1,h4,h5,Bool.or_false]
  refine bSplit (fun h6=>?_) (fun h6=>?_)
  · have h6 : ile 0 (Q.cmp (Q.div (gapQ a.sh b.sh ((0,0),(0,0),(1,0))) (1,0)) (Q.div (gapQ a.sh b.sh ((0,0),(0,0),(-1,0))) (-1,0))) = true:=h6
    rw [ivVal_no hos h6]
    conv=>whnf
    repeat (refine nx ?_; conv=>whnf)
    exact SealV.tup (.cons (SealV.agg (.cons (SealV.pure .bool) (.cons SealV.nils (.cons (SealV.pure .bool) (.cons SealV.nils .nil))))) (.cons (SealV.agg (.cons (SealV.pure .bool) (.cons SealV.nils (.cons (SealV.pure .bool) (.cons SealV.nils .nil))))) (.cons (SealV.pure .bool) (.cons (SealV.pure .int) .nil))))
  have h6 : ile 0 (Q.cmp (Q.div (gapQ a.sh b.sh ((0,0),(0,0),(1,0))) (1,0)) (Q.div (gapQ a.sh b.sh ((0,0),(0,0),(-1,0))) (-1,0))) = false:=h6
  rw [ivVal_yes hos h6]
  conv=>whnf
  repeat (refine nx ?_; conv=>whnf)
  exact SealV.pure (ivSome_pure (Q.div (gapQ a.sh b.sh ((0,0),(0,0),(1,0))) (1,0)) (Q.div (gapQ a.sh b.sh ((0,0),(0,0),(-1,0))) (-1,0)))
theorem c_Iv4 (n : Cn Tryz.prog) (hf : n.f = 313) (hfl : n.flat = false) (a b : Bx) (ha : BxOK n a) (hb : BxOK n b) :
    PF Tryz.prog 277 (.cons (shV a.sh) (.cons (shV b.sh) (.cons (eQ3.v ((0,0),(1,0),(0,0))) .nil))) (ivVal (gapQ a.sh b.sh) ((0,0),(1,0),(0,0)) ((0,0),(-1,0),(0,0)) (1,0) (-1,0) [((-1,0),(0,0),(0,0)),((0,0),(0,0),(-1,0)),((0,0),(0,0),(1,0)),((1,0),(0,0),(0,0))]):=by
  have hg : ∀ n ∈ axL6,GapOK a.sh b.sh n:=fun n hn=>(bx_gap ha.1 hb.1 n hn).1
  have hw : ∀ n ∈ axL6,Wh 100000000 (gapQ a.sh b.sh n):=fun n hn=>(bx_gap ha.1 hb.1 n hn).2
  refine PF.of_wp (c:=_) p_mixed (by decide) (fn:=Tryz.f277) rfl rfl rfl (.cons (shV_pure _) (.cons (shV_pure _) (.cons (eQ3.pureV _) .nil))) (call:=callW (tIv n hf hfl)) (fun B0=>callW_ok _ B0) ?_
  intro B0
  conv=>whnf
  refine callW_gov (tIv_nodup n hf hfl) 0 (c:=Cn.lift tb1 n_VIsZero) rfl rfl ((0,0),(1,0),(0,0)) (isz_ok _ (by simp [axL6])) (v:=.bool false) (hv:=rfl) (hk:=?_)
  conv=>whnf
  repeat (refine nx ?_; conv=>whnf)
  refine callW_go (tIv_nodup n hf hfl) 1 (c:=n_AxB n hf hfl) rfl rfl (a,b) ⟨ha,hb⟩ (hk:=?_)
  conv=>whnf
  repeat (refine nx ?_; conv=>whnf)
  refine Cw.unroll p_mixed rfl rfl (callW_ok _ B0) 7 ?_
  conv=>whnf
  refine IdxP.go 0 rfl (by decide) ?_
  conv=>whnf
  refine ⟨_,eQ3.rd (xs:=axL6) rfl (by decide),?_⟩
  conv=>whnf
  refine callW_go (tIv_nodup n hf hfl) 2 (c:=Cn.lift tb1 n_gap) rfl rfl ((a.sh,b.sh),((-1,0),(0,0),(0,0))) (hg ((-1,0),(0,0),(0,0)) (by simp [axL6])) (hk:=?_)
  conv=>whnf
  repeat (refine nx ?_; conv=>whnf)
  refine callW_gov (tIv_nodup n hf hfl) 3 (c:=Cn.lift tb1 n_VDot) rfl rfl (((-1,0),(0,0),(0,0)),((0,0),(1,0),(0,0))) (dot_ok _ _ (by simp [axL6]) (by simp [axL6])) (v:=eRat.v (0,0)) (hv:=(congrArg eRat.v (by decide))) (hk:=?_)
  conv=>whnf
  repeat (refine nx ?_; conv=>whnf)
  refine callW_gov (tIv_nodup n hf hfl) 4 (c:=Cn.lift tb1 n_RSign) rfl rfl (0,0) trivial (v:=.int .i64 0) (hv:=rfl) (hk:=?_)
  conv=>whnf
  repeat (refine nx ?_; conv=>whnf)
  refine callW_go (tIv_nodup n hf hfl) 4 (c:=Cn.lift tb1 n_RSign) rfl rfl (gapQ a.sh b.sh ((-1,0),(0,0),(0,0))) trivial (hk:=?_)
  conv=>whnf
  repeat (refine nx ?_; conv=>whnf)
  refine bSplit (fun h0=>?_) (fun h0=>?_)
  · have h0 : ile 0 (gapQ a.sh b.sh ((-1,0),(0,0),(0,0))).1.sign = true:=h0
    rw [ivVal_any (o:=((-1,0),(0,0),(0,0))) (by simp) h0]
    conv=>whnf
    repeat (refine nx ?_; conv=>whnf)
    exact SealV.tup (.cons (SealV.agg (.cons (SealV.pure .bool) (.cons SealV.nils (.cons (SealV.pure .bool) (.cons SealV.nils .nil))))) (.cons (SealV.agg (.cons (SealV.pure .bool) (.cons SealV.nils (.cons (SealV.pure .bool) (.cons SealV.nils .nil))))) (.cons (SealV.pure .bool) (.cons (SealV.pure .int) .nil))))
  have h0 : ile 0 (gapQ a.sh b.sh ((-1,0),(0,0),(0,0))).1.sign = false:=h0
  conv=>whnf
  refine IdxP.go 1 rfl (by decide) ?_
  conv=>whnf
  refine ⟨_,eQ3.rd (xs:=axL6) rfl (by decide),?_⟩
  conv=>whnf
  refine callW_go (tIv_nodup n hf hfl) 2 (c:=Cn.lift tb1 n_gap) rfl rfl ((a.sh,b.sh),((0,0),(-1,0),(0,0))) (hg ((0,0),(-1,0),(0,0)) (by simp [axL6])) (hk:=?_)
  conv=>whnf
  repeat (refine nx ?_; conv=>whnf)
  refine callW_gov (tIv_nodup n hf hfl) 3 (c:=Cn.lift tb1 n_VDot) rfl rfl (((0,0),(-1,0),(0,0)),((0,0),(1,0),(0,0))) (dot_ok _ _ (by simp [axL6]) (by simp [axL6])) (v:=eRat.v (-1,0)) (hv:=(congrArg eRat.v (by decide))) (hk:=?_)
  conv=>whnf
  repeat (refine nx ?_; conv=>whnf)
  refine callW_gov (tIv_nodup n hf hfl) 4 (c:=Cn.lift tb1 n_RSign) rfl rfl (-1,0) trivial (v:=.int .i64 (-1)) (hv:=rfl) (hk:=?_)
  conv=>whnf
  repeat (refine nx ?_; conv=>whnf)
  refine callW_go (tIv_nodup n hf hfl) 5 (c:=Cn.lift tb1 n_RDiv) rfl rfl (gapQ a.sh b.sh ((0,0),(-1,0),(0,0)),(-1,0)) (div_ok2 (hw _ (by simp [axL6]))) (hk:=?_)
  conv=>whnf
  repeat (refine nx ?_; conv=>whnf)
  refine ⟨_,_,rfl,?_⟩
  conv=>whnf
  repeat (refine nx ?_; conv=>whnf)
  refine IdxP.go 2 rfl (by decide) ?_
  conv=>whnf
  refine ⟨_,eQ3.rd (xs:=axL6) rfl (by decide),?_⟩
  conv=>whnf
  refine callW_go (tIv_nodup n hf hfl) 2 (c:=Cn.lift tb1 n_gap) rfl rfl ((a.sh,b.sh),((0,0),(0,0),(-1,0))) (hg ((0,0),(0,0),(-1,0)) (by simp [axL6])) (hk:=?_)
  conv=>whnf
  repeat (refine nx ?_; conv=>whnf)
  refine callW_gov (tIv_nodup n hf hfl) 3 (c:=Cn.lift tb1 n_VDot) rfl rfl (((0,0),(0,0),(-1,0)),((0,0),(1,0),(0,0))) (dot_ok _ _ (by simp [axL6]) (by simp [axL6])) (v:=eRat.v (0,0)) (hv:=(congrArg eRat.v (by decide))) (hk:=?_)
  conv=>whnf
  repeat (refine nx ?_; conv=>whnf)
  refine callW_gov (tIv_nodup n hf hfl) 4 (c:=Cn.lift tb1 n_RSign) rfl rfl (0,0) trivial (v:=.int .i64 0) (hv:=rfl) (hk:=?_)
  conv=>whnf
  repeat (refine nx ?_; conv=>whnf)
  refine callW_go (tIv_nodup n hf hfl) 4 (c:=Cn.lift tb1 n_RSign) rfl rfl (gapQ a.sh b.sh ((0,0),(0,0),(-1,0))) trivial (hk:=?_)
  conv=>whnf
  repeat (refine nx ?_; conv=>whnf)
  refine bSplit (fun h2=>?_) (fun h2=>?_)
  · have h2 : ile 0 (gapQ a.sh b.sh ((0,0),(0,0),(-1,0))).1.sign = true:=h2
    rw [ivVal_any (o:=((0,0),(0,0),(-1,0))) (by simp) h2]
    conv=>whnf
    repeat (refine nx ?_; conv=>whnf)
    exact SealV.tup (.cons (SealV.agg (.cons (SealV.pure .bool) (.cons SealV.nils (.cons (SealV.pure .bool) (.cons SealV.nils .nil))))) (.cons (SealV.agg (.cons (SealV.pure .bool) (.cons SealV.nils (.cons (SealV.pure .bool) (.cons SealV.nils .nil))))) (.cons (SealV.pure .bool) (.cons (SealV.pure .int) .nil))))
  have h2 : ile 0 (gapQ a.sh b.sh ((0,0),(0,0),(-1,0))).1.sign = false:=h2
  conv=>whnf
  refine IdxP.go 3 rfl (by decide) ?_
  conv=>whnf
  refine ⟨_,eQ3.rd (xs:=axL6) rfl (by decide),?_⟩
  conv=>whnf
  refine callW_go (tIv_nodup n hf hfl) 2 (c:=Cn.lift tb1 n_gap) rfl rfl ((a.sh,b.sh),((0,0),(0,0),(1,0))) (hg ((0,0),(0,0),(1,0)) (by simp [axL6])) (hk:=?_)
  conv=>whnf
  repeat (refine nx ?_; conv=>whnf)
  refine callW_gov (tIv_nodup n hf hfl) 3 (c:=Cn.lift tb1 n_VDot) rfl rfl (((0,0),(0,0),(1,0)),((0,0),(1,0),(0,0))) (dot_ok _ _ (by simp [axL6]) (by simp [axL6])) (v:=eRat.v (0,0)) (hv:=(congrArg eRat.v (by decide))) (hk:=?_)
  conv=>whnf
  repeat (refine nx ?_; conv=>whnf)
  refine callW_gov (tIv_nodup n hf hfl) 4 (c:=Cn.lift tb1 n_RSign) rfl rfl (0,0) trivial (v:=.int .i64 0) (hv:=rfl) (hk:=?_)
  conv=>whnf
  repeat (refine nx ?_; conv=>whnf)
  refine callW_go (tIv_nodup n hf hfl) 4 (c:=Cn.lift tb1 n_RSign) rfl rfl (gapQ a.sh b.sh ((0,0),(0,0),(1,0))) trivial (hk:=?_)
  conv=>whnf
  repeat (refine nx ?_; conv=>whnf)
  refine bSplit (fun h3=>?_) (fun h3=>?_)
  · have h3 : ile 0 (gapQ a.sh b.sh ((0,0),(0,0),(1,0))).1.sign = true:=h3
    rw [ivVal_any (o:=((0,0),(0,0),(1,0))) (by simp) h3]
    conv=>whnf
    repeat (refine nx ?_; conv=>whnf)
    exact SealV.tup (.cons (SealV.agg (.cons (SealV.pure .bool) (.cons SealV.nils (.cons (SealV.pure .bool) (.cons SealV.nils .nil))))) (.cons (SealV.agg (.cons (SealV.pure .bool) (.cons SealV.nils (.cons (SealV.pure .bool) (.cons SealV.nils .nil))))) (.cons (SealV.pure .bool) (.cons (SealV.pure .int) .nil))))
  have h3 : ile 0 (gapQ a.sh b.sh ((0,0),(0,0),(1,0))).1.sign = false:=h3
  conv=>whnf
  refine IdxP.go 4 rfl (by decide) ?_
  conv=>whnf
  refine ⟨_,eQ3.rd (xs:=axL6) rfl (by decide),?_⟩
  conv=>whnf
  refine callW_go (tIv_nodup n hf hfl) 2 (c:=Cn.lift tb1 n_gap) rfl rfl ((a.sh,b.sh),((0,0),(1,0),(0,0))) (hg ((0,0),(1,0),(0,0)) (by simp [axL6])) (hk:=?_)
  conv=>whnf
  repeat (refine nx ?_; conv=>whnf)
  refine callW_gov (tIv_nodup n hf hfl) 3 (c:=Cn.lift tb1 n_VDot) rfl rfl (((0,0),(1,0),(0,0)),((0,0),(1,0),(0,0))) (dot_ok _ _ (by simp [axL6]) (by simp [axL6])) (v:=eRat.v (1,0)) (hv:=(congrArg eRat.v (by decide))) (hk:=?_)
  conv=>whnf
  repeat (refine nx ?_; conv=>whnf)
  refine callW_gov (tIv_nodup n hf hfl) 4 (c:=Cn.lift tb1 n_RSign) rfl rfl (1,0) trivial (v:=.int .i64 1) (hv:=rfl) (hk:=?_)
  conv=>whnf
  repeat (refine nx ?_; conv=>whnf)
  refine callW_go (tIv_nodup n hf hfl) 5 (c:=Cn.lift tb1 n_RDiv) rfl rfl (gapQ a.sh b.sh ((0,0),(1,0),(0,0)),(1,0)) (div_ok1 (hw _ (by simp [axL6]))) (hk:=?_)
  conv=>whnf
  repeat (refine nx ?_; conv=>whnf)
  refine ⟨_,_,rfl,?_⟩
  conv=>whnf
  repeat (refine nx ?_; conv=>whnf)
  refine IdxP.go 5 rfl (by decide) ?_
  conv=>whnf
  refine ⟨_,eQ3.rd (xs:=axL6) rfl (by decide),?_⟩
  conv=>whnf
  refine callW_go (tIv_nodup n hf hfl) 2 (c:=Cn.lift tb1 n_gap) rfl rfl ((a.sh,b.sh),((1,0),(0,0),(0,0))) (hg ((1,0),(0,0),(0,0)) (by simp [axL6])) (hk:=?_)
  conv=>whnf
  repeat (refine nx ?_; conv=>whnf)
  refine callW_gov (tIv_nodup n hf hfl) 3 (c:=Cn.lift tb1 n_VDot) rfl rfl (((1,0),(0,0),(0,0)),((0,0),(1,0),(0,0))) (dot_ok _ _ (by simp [axL6]) (by simp [axL6])) (v:=eRat.v (0,0)) (hv:=(congrArg eRat.v (by decide))) (hk:=?_)
  conv=>whnf
  repeat (refine nx ?_; conv=>whnf)
  refine callW_gov (tIv_nodup n hf hfl) 4 (c:=Cn.lift tb1 n_RSign) rfl rfl (0,0) trivial (v:=.int .i64 0) (hv:=rfl) (hk:=?_)
  conv=>whnf
  repeat (refine nx ?_; conv=>whnf)
  refine callW_go (tIv_nodup n hf hfl) 4 (c:=Cn.lift tb1 n_RSign) rfl rfl (gapQ a.sh b.sh ((1,0),(0,0),(0,0))) trivial (hk:=?_)
  conv=>whnf
  repeat (refine nx ?_; conv=>whnf)
  refine bSplit (fun h5=>?_) (fun h5=>?_)
  · have h5 : ile 0 (gapQ a.sh b.sh ((1,0),(0,0),(0,0))).1.sign = true:=h5
    rw [ivVal_any (o:=((1,0),(0,0),(0,0))) (by simp) h5]
    conv=>whnf
    repeat (refine nx ?_; conv=>whnf)
    exact SealV.tup (.cons (SealV.agg (.cons (SealV.pure .bool) (.cons SealV.nils (.cons (SealV.pure .bool) (.cons SealV.nils .nil))))) (.cons (SealV.agg (.cons (SealV.pure .bool) (.cons SealV.nils (.cons (SealV.pure .bool) (.cons SealV.nils .nil))))) (.cons (SealV.pure .bool) (.cons (SealV.pure .int) .nil))))
  have h5 : ile 0 (gapQ a.sh b.sh ((1,0),(0,0),(0,0))).1.sign = false:=h5
  conv=>whnf
  refine callW_go (tIv_nodup n hf hfl) 6 (c:=Cn.lift tb1 n_RCompare) rfl rfl (Q.div (gapQ a.sh b.sh ((0,0),(1,0),(0,0))) (1,0),Q.div (gapQ a.sh b.sh ((0,0),(-1,0),(0,0))) (-1,0)) (cmp_ok2 (hw _ (by simp [axL6])) (hw _ (by simp [axL6]))) (hk:=?_)
  conv=>whnf
  repeat (refine nx ?_; conv=>whnf)
  have hos : ([((-1,0),(0,0),(0,0)),((0,0),(0,0),(-1,0)),((0,0),(0,0),(1,0)),((1,0),(0,0),(0,0))] : List Q3).any (fun o=>ile 0 (gapQ a.sh b.sh o).1.sign) = false:=by simp only [List.any_cons,List.any_nil,h0,h2,h3,h5,Bool.or_false]
  refine bSplit (fun h6=>?_) (fun h6=>?_)
  · have h6 : ile 0 (Q.cmp (Q.div (gapQ a.sh b.sh ((0,0),(1,0),(0,0))) (1,0)) (Q.div (gapQ a.sh b.sh ((0,0),(-1,0),(0,0))) (-1,0))) = true:=h6
    rw [ivVal_no hos h6]
    conv=>whnf
    repeat (refine nx ?_; conv=>whnf)
    exact SealV.tup (.cons (SealV.agg (.cons (SealV.pure .bool) (.cons SealV.nils (.cons (SealV.pure .bool) (.cons SealV.nils .nil))))) (.cons (SealV.agg (.cons (SealV.pure .bool) (.cons SealV.nils (.cons (SealV.pure .bool) (.cons SealV.nils .nil))))) (.cons (SealV.pure .bool) (.cons (SealV.pure .int) .nil))))
  have h6 : ile 0 (Q.cmp (Q.div (gapQ a.sh b.sh ((0,0),(1,0),(0,0))) (1,0)) (Q.div (gapQ a.sh b.sh ((0,0),(-1,0),(0,0))) (-1,0))) = false:=h6
  rw [ivVal_yes hos h6]
  conv=>whnf
  repeat (refine nx ?_; conv=>whnf)
  exact SealV.pure (ivSome_pure (Q.div (gapQ a.sh b.sh ((0,0),(1,0),(0,0))) (1,0)) (Q.div (gapQ a.sh b.sh ((0,0),(-1,0),(0,0))) (-1,0)))
theorem c_Iv5 (n : Cn Tryz.prog) (hf : n.f = 313) (hfl : n.flat = false) (a b : Bx) (ha : BxOK n a) (hb : BxOK n b) :
    PF Tryz.prog 277 (.cons (shV a.sh) (.cons (shV b.sh) (.cons (eQ3.v ((1,0),(0,0),(0,0))) .nil))) (ivVal (gapQ a.sh b.sh) ((1,0),(0,0),(0,0)) ((-1,0),(0,0),(0,0)) (1,0) (-1,0) [((0,0),(-1,0),(0,0)),((0,0),(0,0),(-1,0)),((0,0),(0,0),(1,0)),((0,0),(1,0),(0,0))]):=by
  have hg : ∀ n ∈ axL6,GapOK a.sh b.sh n:=fun n hn=>(bx_gap ha.1 hb.1 n hn).1
  have hw : ∀ n ∈ axL6,Wh 100000000 (gapQ a.sh b.sh n):=fun n hn=>(bx_gap ha.1 hb.1 n hn).2
  refine PF.of_wp (c:=_) p_mixed (by decide) (fn:=Tryz.f277) rfl rfl rfl (.cons (shV_pure _) (.cons (shV_pure _) (.cons (eQ3.pureV _) .nil))) (call:=callW (tIv n hf hfl)) (fun B0=>callW_ok _ B0) ?_
  intro B0
  conv=>whnf
  refine callW_gov (tIv_nodup n hf hfl) 0 (c:=Cn.lift tb1 n_VIsZero) rfl rfl ((1,0),(0,0),(0,0)) (isz_ok _ (by simp [axL6])) (v:=.bool false) (hv:=rfl) (hk:=?_)
  conv=>whnf
  repeat (refine nx ?_; conv=>whnf)
  refine callW_go (tIv_nodup n hf hfl) 1 (c:=n_AxB n hf hfl) rfl rfl (a,b) ⟨ha,hb⟩ (hk:=?_)
  conv=>whnf
  repeat (refine nx ?_; conv=>whnf)
  refine Cw.unroll p_mixed rfl rfl (callW_ok _ B0) 7 ?_
  conv=>whnf
  refine IdxP.go 0 rfl (by decide) ?_
  conv=>whnf
  refine ⟨_,eQ3.rd (xs:=axL6) rfl (by decide),?_⟩
  conv=>whnf
  refine callW_go (tIv_nodup n hf hfl) 2 (c:=Cn.lift tb1 n_gap) rfl rfl ((a.sh,b.sh),((-1,0),(0,0),(0,0))) (hg ((-1,0),(0,0),(0,0)) (by simp [axL6])) (hk:=?_)
  conv=>whnf
  repeat (refine nx ?_; conv=>whnf)
  refine callW_gov (tIv_nodup n hf hfl) 3 (c:=Cn.lift tb1 n_VDot) rfl rfl (((-1,0),(0,0),(0,0)),((1,0),(0,0),(0,0))) (dot_ok _ _ (by simp [axL6]) (by simp [axL6])) (v:=eRat.v (-1,0)) (hv:=(congrArg eRat.v (by decide))) (hk:=?_)
  conv=>whnf
  repeat (refine nx ?_; conv=>whnf)
  refine callW_gov (tIv_nodup n hf hfl) 4 (c:=Cn.lift tb1 n_RSign) rfl rfl (-1,0) trivial (v:=.int .i64 (-1)) (hv:=rfl) (hk:=?_)
  conv=>whnf
  repeat (refine nx ?_; conv=>whnf)
  refine callW_go (tIv_nodup n hf hfl) 5 (c:=Cn.lift tb1 n_RDiv) rfl rfl (gapQ a.sh b.sh ((-1,0),(0,0),(0,0)),(-1,0)) (div_ok2 (hw _ (by simp [axL6]))) (hk:=?_)
  conv=>whnf
  repeat (refine nx ?_; conv=>whnf)
  refine ⟨_,_,rfl,?_⟩
  conv=>whnf
  repeat (refine nx ?_; conv=>whnf)
  refine IdxP.go 1 rfl (by decide) ?_
  conv=>whnf
  refine ⟨_,eQ3.rd (xs:=axL6) rfl (by decide),?_⟩
  conv=>whnf
  refine callW_go (tIv_nodup n hf hfl) 2 (c:=Cn.lift tb1 n_gap) rfl rfl ((a.sh,b.sh),((0,0),(-1,0),(0,0))) (hg ((0,0),(-1,0),(0,0)) (by simp [axL6])) (hk:=?_)
  conv=>whnf
  repeat (refine nx ?_; conv=>whnf)
  refine callW_gov (tIv_nodup n hf hfl) 3 (c:=Cn.lift tb1 n_VDot) rfl rfl (((0,0),(-1,0),(0,0)),((1,0),(0,0),(0,0))) (dot_ok _ _ (by simp [axL6]) (by simp [axL6])) (v:=eRat.v (0,0)) (hv:=(congrArg eRat.v (by decide))) (hk:=?_)
  conv=>whnf
  repeat (refine nx ?_; conv=>whnf)
  refine callW_gov (tIv_nodup n hf hfl) 4 (c:=Cn.lift tb1 n_RSign) rfl rfl (0,0) trivial (v:=.int .i64 0) (hv:=rfl) (hk:=?_)
  conv=>whnf
  repeat (refine nx ?_; conv=>whnf)
  refine callW_go (tIv_nodup n hf hfl) 4 (c:=Cn.lift tb1 n_RSign) rfl rfl (gapQ a.sh b.sh ((0,0),(-1,0),(0,0))) trivial (hk:=?_)
  conv=>whnf
  repeat (refine nx ?_; conv=>whnf)
  refine bSplit (fun h1=>?_) (fun h1=>?_)
  · have h1 : ile 0 (gapQ a.sh b.sh ((0,0),(-1,0),(0,0))).1.sign = true:=h1
    rw [ivVal_any (o:=((0,0),(-1,0),(0,0))) (by simp) h1]
    conv=>whnf
    repeat (refine nx ?_; conv=>whnf)
    exact SealV.tup (.cons (SealV.agg (.cons (SealV.pure .bool) (.cons SealV.nils (.cons (SealV.pure .bool) (.cons SealV.nils .nil))))) (.cons (SealV.agg (.cons (SealV.pure .bool) (.cons SealV.nils (.cons (SealV.pure .bool) (.cons SealV.nils .nil))))) (.cons (SealV.pure .bool) (.cons (SealV.pure .int) .nil))))
  have h1 : ile 0 (gapQ a.sh b.sh ((0,0),(-1,0),(0,0))).1.sign = false:=h1
  conv=>whnf
  refine IdxP.go 2 rfl (by decide) ?_
  conv=>whnf
  refine ⟨_,eQ3.rd (xs:=axL6) rfl (by decide),?_⟩
  conv=>whnf
  refine callW_go (tIv_nodup n hf hfl) 2 (c:=Cn.lift tb1 n_gap) rfl rfl ((a.sh,b.sh),((0,0),(0,0),(-1,0))) (hg ((0,0),(0,0),(-1,0)) (by simp [axL6])) (hk:=?_)
  conv=>whnf
  repeat (refine nx ?_; conv=>whnf)
  refine callW_gov (tIv_nodup n hf hfl) 3 (c:=Cn.lift tb1 n_VDot) rfl rfl (((0,0),(0,0),(-1,0)),((1,0),(0,0),(0,0))) (dot_ok _ _ (by simp [axL6]) (by simp [axL6])) (v:=eRat.v (0,0)) (hv:=(congrArg eRat.v (by decide))) (hk:=?_)
  conv=>whnf
  repeat (refine nx ?_; conv=>whnf)
  refine callW_gov (tIv_nodup n hf hfl) 4 (c:=Cn.lift tb1 n_RSign) rfl rfl (0,0) trivial (v:=.int .i64 0) (hv:=rfl) (hk:=?_)
  conv=>whnf
  repeat (refine nx ?_; conv=>whnf)
  refine callW_go (tIv_nodup n hf hfl) 4 (c:=Cn.lift tb1 n_RSign) rfl rfl (gapQ a.sh b.sh ((0,0),(0,0),(-1,0))) trivial (hk:=?_)
  conv=>whnf
  repeat (refine nx ?_; conv=>whnf)
  refine bSplit (fun h2=>?_) (fun h2=>?_)
  · have h2 : ile 0 (gapQ a.sh b.sh ((0,0),(0,0),(-1,0))).1.sign = true:=h2
    rw [ivVal_any (o:=((0,0),(0,0),(-1,0))) (by simp) h2]
    conv=>whnf
    repeat (refine nx ?_; conv=>whnf)
    exact SealV.tup (.cons (SealV.agg (.cons (SealV.pure .bool) (.cons SealV.nils (.cons (SealV.pure .bool) (.cons SealV.nils .nil))))) (.cons (SealV.agg (.cons (SealV.pure .bool) (.cons SealV.nils (.cons (SealV.pure .bool) (.cons SealV.nils .nil))))) (.cons (SealV.pure .bool) (.cons (SealV.pure .int) .nil))))
  have h2 : ile 0 (gapQ a.sh b.sh ((0,0),(0,0),(-1,0))).1.sign = false:=h2
  conv=>whnf
  refine IdxP.go 3 rfl (by decide) ?_
  conv=>whnf
  refine ⟨_,eQ3.rd (xs:=axL6) rfl (by decide),?_⟩
  conv=>whnf
  refine callW_go (tIv_nodup n hf hfl) 2 (c:=Cn.lift tb1 n_gap) rfl rfl ((a.sh,b.sh),((0,0),(0,0),(1,0))) (hg ((0,0),(0,0),(1,0)) (by simp [axL6])) (hk:=?_)
  conv=>whnf
  repeat (refine nx ?_; conv=>whnf)
  refine callW_gov (tIv_nodup n hf hfl) 3 (c:=Cn.lift tb1 n_VDot) rfl rfl (((0,0),(0,0),(1,0)),((1,0),(0,0),(0,0))) (dot_ok _ _ (by simp [axL6]) (by simp [axL6])) (v:=eRat.v (0,0)) (hv:=(congrArg eRat.v (by decide))) (hk:=?_)
  conv=>whnf
  repeat (refine nx ?_; conv=>whnf)
  refine callW_gov (tIv_nodup n hf hfl) 4 (c:=Cn.lift tb1 n_RSign) rfl rfl (0,0) trivial (v:=.int .i64 0) (hv:=rfl) (hk:=?_)
  conv=>whnf
  repeat (refine nx ?_; conv=>whnf)
  refine callW_go (tIv_nodup n hf hfl) 4 (c:=Cn.lift tb1 n_RSign) rfl rfl (gapQ a.sh b.sh ((0,0),(0,0),(1,0))) trivial (hk:=?_)
  conv=>whnf
  repeat (refine nx ?_; conv=>whnf)
  refine bSplit (fun h3=>?_) (fun h3=>?_)
  · have h3 : ile 0 (gapQ a.sh b.sh ((0,0),(0,0),(1,0))).1.sign = true:=h3
    rw [ivVal_any (o:=((0,0),(0,0),(1,0))) (by simp) h3]
    conv=>whnf
    repeat (refine nx ?_; conv=>whnf)
    exact SealV.tup (.cons (SealV.agg (.cons (SealV.pure .bool) (.cons SealV.nils (.cons (SealV.pure .bool) (.cons SealV.nils .nil))))) (.cons (SealV.agg (.cons (SealV.pure .bool) (.cons SealV.nils (.cons (SealV.pure .bool) (.cons SealV.nils .nil))))) (.cons (SealV.pure .bool) (.cons (SealV.pure .int) .nil))))
  have h3 : ile 0 (gapQ a.sh b.sh ((0,0),(0,0),(1,0))).1.sign = false:=h3
  conv=>whnf
  refine IdxP.go 4 rfl (by decide) ?_
  conv=>whnf
  refine ⟨_,eQ3.rd (xs:=axL6) rfl (by decide),?_⟩
  conv=>whnf
  refine callW_go (tIv_nodup n hf hfl) 2 (c:=Cn.lift tb1 n_gap) rfl rfl ((a.sh,b.sh),((0,0),(1,0),(0,0))) (hg ((0,0),(1,0),(0,0)) (by simp [axL6])) (hk:=?_)
  conv=>whnf
  repeat (refine nx ?_; conv=>whnf)
  refine callW_gov (tIv_nodup n hf hfl) 3 (c:=Cn.lift tb1 n_VDot) rfl rfl (((0,0),(1,0),(0,0)),((1,0),(0,0),(0,0))) (dot_ok _ _ (by simp [axL6]) (by simp [axL6])) (v:=eRat.v (0,0)) (hv:=(congrArg eRat.v (by decide))) (hk:=?_)
  conv=>whnf
  repeat (refine nx ?_; conv=>whnf)
  refine callW_gov (tIv_nodup n hf hfl) 4 (c:=Cn.lift tb1 n_RSign) rfl rfl (0,0) trivial (v:=.int .i64 0) (hv:=rfl) (hk:=?_)
  conv=>whnf
  repeat (refine nx ?_; conv=>whnf)
  refine callW_go (tIv_nodup n hf hfl) 4 (c:=Cn.lift tb1 n_RSign) rfl rfl (gapQ a.sh b.sh ((0,0),(1,0),(0,0))) trivial (hk:=?_)
  conv=>whnf
  repeat (refine nx ?_; conv=>whnf)
  refine bSplit (fun h4=>?_) (fun h4=>?_)
  · have h4 : ile 0 (gapQ a.sh b.sh ((0,0),(1,0),(0,0))).1.sign = true:=h4
    rw [ivVal_any (o:=((0,0),(1,0),(0,0))) (by simp) h4]
    conv=>whnf
    repeat (refine nx ?_; conv=>whnf)
    exact SealV.tup (.cons (SealV.agg (.cons (SealV.pure .bool) (.cons SealV.nils (.cons (SealV.pure .bool) (.cons SealV.nils .nil))))) (.cons (SealV.agg (.cons (SealV.pure .bool) (.cons SealV.nils (.cons (SealV.pure .bool) (.cons SealV.nils .nil))))) (.cons (SealV.pure .bool) (.cons (SealV.pure .int) .nil))))
  have h4 : ile 0 (gapQ a.sh b.sh ((0,0),(1,0),(0,0))).1.sign = false:=h4
  conv=>whnf
  refine IdxP.go 5 rfl (by decide) ?_
  conv=>whnf
  refine ⟨_,eQ3.rd (xs:=axL6) rfl (by decide),?_⟩
  conv=>whnf
  refine callW_go (tIv_nodup n hf hfl) 2 (c:=Cn.lift tb1 n_gap) rfl rfl ((a.sh,b.sh),((1,0),(0,0),(0,0))) (hg ((1,0),(0,0),(0,0)) (by simp [axL6])) (hk:=?_)
  conv=>whnf
  repeat (refine nx ?_; conv=>whnf)
  refine callW_gov (tIv_nodup n hf hfl) 3 (c:=Cn.lift tb1 n_VDot) rfl rfl (((1,0),(0,0),(0,0)),((1,0),(0,0),(0,0))) (dot_ok _ _ (by simp [axL6]) (by simp [axL6])) (v:=eRat.v (1,0)) (hv:=(congrArg eRat.v (by decide))) (hk:=?_)
  conv=>whnf
  repeat (refine nx ?_; conv=>whnf)
  refine callW_gov (tIv_nodup n hf hfl) 4 (c:=Cn.lift tb1 n_RSign) rfl rfl (1,0) trivial (v:=.int .i64 1) (hv:=rfl) (hk:=?_)
  conv=>whnf
  repeat (refine nx ?_; conv=>whnf)
  refine callW_go (tIv_nodup n hf hfl) 5 (c:=Cn.lift tb1 n_RDiv) rfl rfl (gapQ a.sh b.sh ((1,0),(0,0),(0,0)),(1,0)) (div_ok1 (hw _ (by simp [axL6]))) (hk:=?_)
  conv=>whnf
  repeat (refine nx ?_; conv=>whnf)
  refine ⟨_,_,rfl,?_⟩
  conv=>whnf
  repeat (refine nx ?_; conv=>whnf)
  refine callW_go (tIv_nodup n hf hfl) 6 (c:=Cn.lift tb1 n_RCompare) rfl rfl (Q.div (gapQ a.sh b.sh ((1,0),(0,0),(0,0))) (1,0),Q.div (gapQ a.sh b.sh ((-1,0),(0,0),(0,0))) (-1,0)) (cmp_ok2 (hw _ (by simp [axL6])) (hw _ (by simp [axL6]))) (hk:=?_)
  conv=>whnf
  repeat (refine nx ?_; conv=>whnf)
  have hos : ([((0,0),(-1,0),(0,0)),((0,0),(0,0),(-1,0)),((0,0),(0,0),(1,0)),((0,0),(1,0),(0,0))] : List Q3).any (fun o=>ile 0 (gapQ a.sh b.sh o).1.sign) = false:=by simp only [List.any_cons,List.any_nil,h1,h2,h3,h4,Bool.or_false]
  refine bSplit (fun h6=>?_) (fun h6=>?_)
  · have h6 : ile 0 (Q.cmp (Q.div (gapQ a.sh b.sh ((1,0),(0,0),(0,0))) (1,0)) (Q.div (gapQ a.sh b.sh ((-1,0),(0,0),(0,0))) (-1,0))) = true:=h6
    rw [ivVal_no hos h6]
    conv=>whnf
    repeat (refine nx ?_; conv=>whnf)
    exact SealV.tup (.cons (SealV.agg (.cons (SealV.pure .bool) (.cons SealV.nils (.cons (SealV.pure .bool) (.cons SealV.nils .nil))))) (.cons (SealV.agg (.cons (SealV.pure .bool) (.cons SealV.nils (.cons (SealV.pure .bool) (.cons SealV.nils .nil))))) (.cons (SealV.pure .bool) (.cons (SealV.pure .int) .nil))))
  have h6 : ile 0 (Q.cmp (Q.div (gapQ a.sh b.sh ((1,0),(0,0),(0,0))) (1,0)) (Q.div (gapQ a.sh b.sh ((-1,0),(0,0),(0,0))) (-1,0))) = false:=h6
  rw [ivVal_yes hos h6]
  conv=>whnf
  repeat (refine nx ?_; conv=>whnf)
  exact SealV.pure (ivSome_pure (Q.div (gapQ a.sh b.sh ((1,0),(0,0),(0,0))) (1,0)) (Q.div (gapQ a.sh b.sh ((-1,0),(0,0),(0,0))) (-1,0)))
end Go.Sy
namespace Go.Sy
open Go.RowKit Go.Proofs
set_option linter.unusedVariables false
set_option linter.unusedSimpArgs false
set_option maxRecDepth 1000000
def axAt (k : Nat) : Q3:=axL6.getD k ((0,0),(0,0),(0,0))
def axOs (k : Nat) : List Q3:=match k with
  | 0=>[((0,0),(-1,0),(0,0)),((0,0),(0,0),(-1,0)),((0,0),(0,0),(1,0)),((0,0),(1,0),(0,0))]
  | 1=>[((-1,0),(0,0),(0,0)),((0,0),(0,0),(-1,0)),((0,0),(0,0),(1,0)),((1,0),(0,0),(0,0))]
  | 2=>[((-1,0),(0,0),(0,0)),((0,0),(-1,0),(0,0)),((0,0),(1,0),(0,0)),((1,0),(0,0),(0,0))]
  | 3=>[((-1,0),(0,0),(0,0)),((0,0),(-1,0),(0,0)),((0,0),(1,0),(0,0)),((1,0),(0,0),(0,0))]
  | 4=>[((-1,0),(0,0),(0,0)),((0,0),(0,0),(-1,0)),((0,0),(0,0),(1,0)),((1,0),(0,0),(0,0))]
  | _=>[((0,0),(-1,0),(0,0)),((0,0),(0,0),(-1,0)),((0,0),(0,0),(1,0)),((0,0),(1,0),(0,0))]
theorem axAt_inj : ∀ k < 6,∀ j < 6,axAt k = axAt j → k = j:=by decide
noncomputable section
def ivV (p : (Bx × Bx) × Nat) : AV:=ivVal (gapQ p.1.1.sh p.1.2.sh) (axAt p.2) (axAt (5 - p.2)) (1,0) (-1,0) (axOs p.2)
theorem ivV_pure (p : (Bx × Bx) × Nat) : PureV (ivV p):=by
  unfold ivV ivVal
  split
  · exact ivZero_pure
  · split
    · exact ivZero_pure
    · exact ivSome_pure _ _
def n_Iv (n : Cn Tryz.prog) (hf : n.f = 313) (hfl : n.flat = false) : Cn Tryz.prog :=
  Cn.mk 277 false ((Bx × Bx) × Nat) (fun p=>.cons (shV p.1.1.sh) (.cons (shV p.1.2.sh) (.cons (eQ3.v (axAt p.2)) .nil))) ivV (fun p=>BxOK n p.1.1∧BxOK n p.1.2∧p.2 < 6)
    (fun p q hp hq h=>by
      injection h with h1 h
      injection h with h2 h
      injection h with h3 _
      have e:=axAt_inj _ hp.2.2 _ hq.2.2 (eQ3.v_inj h3)
      have g : gapQ p.1.1.sh p.1.2.sh = gapQ q.1.1.sh q.1.2.sh:=funext fun n=>gapQ_eq (shV_inj h1) (shV_inj h2)
      unfold ivV
      rw [e,g])
    (fun p=>⟨shV_dp _,shV_dp _,eQ3.dpV _,trivial⟩) ivV_pure (fun h=>by cases h)
    (fun p h=>by
      obtain ⟨⟨a,b⟩,k⟩:=p
      obtain ⟨ha,hb,hk⟩:=h
      have ha : BxOK n a:=ha
      have hb : BxOK n b:=hb
      have hk : k < 6:=hk
      have hk : k = 0 ∨ k = 1 ∨ k = 2 ∨ k = 3 ∨ k = 4 ∨ k = 5:=by omega
      rcases hk with rfl | rfl | rfl | rfl | rfl | rfl
      · exact c_Iv0 n hf hfl a b ha hb
      · exact c_Iv1 n hf hfl a b ha hb
      · exact c_Iv2 n hf hfl a b ha hb
      · exact c_Iv3 n hf hfl a b ha hb
      · exact c_Iv4 n hf hfl a b ha hb
      · exact c_Iv5 n hf hfl a b ha hb) (hasbody rfl rfl)
/-! ### Arguments,read off -/
def zOf (s : Bool) (m : AV) : Int:=match m with | .cons (.int _ v) _=>Bool.rec (motive:=fun _=>Int) v (-v) s | _=>0
def rd4 (x : AV) : Option (Int × AV):=match x with | .cons (.bool s) (.cons (.ro _ m) (.cons _ (.cons _ r)))=>some (zOf s m,r) | _=>none
def rd12 (x : AV) : Option (Int × Int × Int):=oB (rd4 x) fun a=>oB (rd4 a.2) fun b=>oB (rd4 b.2) fun c=>some (a.1,b.1,c.1)
def bxDec (A : AV) : Option Bx:=match A with
  | .agg (.cons (.ro 8 V) _)=>oB (rd12 V) fun a=>oB (rd12 (dropL 84 V)) fun b=>some ⟨a.1,a.2.1,a.2.2,b.1,b.2.1,b.2.2⟩
  | _=>none
def smB (z : Int) : Bool:=Nat.ble (Nat.succ z.natAbs) 1000000
def bxSm (b : Bx) : Bool:=band (smB b.a) (band (smB b.b) (band (smB b.c) (band (smB b.x) (band (smB b.y) (smB b.z)))))
theorem bxSm_ok {b : Bx} (h : bxSm b = true) : b.ok:=by
  obtain ⟨h1,h⟩:=band_iff.1 h
  obtain ⟨h2,h⟩:=band_iff.1 h
  obtain ⟨h3,h⟩:=band_iff.1 h
  obtain ⟨h4,h⟩:=band_iff.1 h
  obtain ⟨h5,h6⟩:=band_iff.1 h
  exact ⟨Nat.le_of_ble_eq_true h1,Nat.le_of_ble_eq_true h2,Nat.le_of_ble_eq_true h3,Nat.le_of_ble_eq_true h4,Nat.le_of_ble_eq_true h5,Nat.le_of_ble_eq_true h6⟩
def bxGet (A : AV) : Option Bx:=oB (bxDec A) fun b=>bB (band (bxSm b) (aeq b.v A)) (some b)
theorem bxGet_ok {A : AV} {b : Bx} (h : bxGet A = some b) : shV b.sh = A:=by
  obtain ⟨c,h1,h⟩:=oB_some h
  obtain ⟨h2,h⟩:=bB_some h
  cases h
  obtain ⟨h3,h4⟩:=band_iff.1 h2
  rw [Bx.sh_v (bxSm_ok h3),aeq_eq h4]
theorem q3_v {a b c : Int} (ha : a.natAbs < 4294967296) (hb : b.natAbs < 4294967296) (hc : c.natAbs < 4294967296) : eQ3.v ((a,0),(b,0),(c,0)) = .agg (qz [a,b,c] .nil):=by
  show _ = AV.agg (qz [a] (qz [b] (qz [c] .nil)))
  rw [qz_one ha,qz_one hb,qz_one hc]
  rfl
def axAV (k : Nat) : AV:=match k with
  | 0=>.agg (qz [-1,0,0] .nil)
  | 1=>.agg (qz [0,-1,0] .nil)
  | 2=>.agg (qz [0,0,-1] .nil)
  | 3=>.agg (qz [0,0,1] .nil)
  | 4=>.agg (qz [0,1,0] .nil)
  | _=>.agg (qz [1,0,0] .nil)
theorem axAV_eq {k : Nat} (hk : k < 6) : eQ3.v (axAt k) = axAV k:=by
  have hk : k = 0 ∨ k = 1 ∨ k = 2 ∨ k = 3 ∨ k = 4 ∨ k = 5:=by omega
  rcases hk with rfl | rfl | rfl | rfl | rfl | rfl <;> exact q3_v (by decide) (by decide) (by decide)
def axGet1 (D : AV) (k : Nat) (o : Option Nat) : Option Nat:=Bool.rec (motive:=fun _=>Option Nat) o (some k) (aeq (axAV k) D)
def axGet (D : AV) : Option Nat:=axGet1 D 0 (axGet1 D 1 (axGet1 D 2 (axGet1 D 3 (axGet1 D 4 (axGet1 D 5 none)))))
theorem axGet1_ok {D : AV} {k j : Nat} {o : Option Nat} (hk : k < 6) (h : axGet1 D k o = some j) (ho : o = some j → j < 6∧eQ3.v (axAt j) = D) : j < 6∧eQ3.v (axAt j) = D:=by
  unfold axGet1 at h
  cases ha : aeq (axAV k) D with
  | true=>rw [ha] at h; cases h; exact ⟨hk,by rw [axAV_eq hk,aeq_eq ha]⟩
  | false=>rw [ha] at h; exact ho h
theorem axGet_ok {D : AV} {j : Nat} (h : axGet D = some j) : j < 6∧eQ3.v (axAt j) = D :=
  axGet1_ok (by decide) h fun h=>axGet1_ok (by decide) h fun h=>axGet1_ok (by decide) h fun h=>axGet1_ok (by decide) h fun h=>axGet1_ok (by decide) h fun h=>axGet1_ok (by decide) h fun h=>by cases h
/-! ### The directions of a box,by a table -/
def isDir (v : AV) : Bool:=bor2 (bor2 (bor2 (aeq v (dirV 1 1 1)) (aeq v (dirV 0 0 0))) (bor2 (aeq v (dirV 0 0 1)) (aeq v (dirV 0 1 0)))) (bor2 (bor2 (aeq v (dirV 0 1 1)) (aeq v (dirV 1 0 0))) (bor2 (aeq v (dirV 1 0 1)) (aeq v (dirV 1 1 0))))
theorem isDir_ok {v : AV} (h : isDir v = true) : ∃ d e f,v = dirV d e f∧d < 2∧e < 2∧f < 2:=by
  rcases bor2_iff.1 h with h | h <;> rcases bor2_iff.1 h with h | h <;> rcases bor2_iff.1 h with h | h
  · exact ⟨1,1,1,aeq_eq h,by decide,by decide,by decide⟩
  · exact ⟨0,0,0,aeq_eq h,by decide,by decide,by decide⟩
  · exact ⟨0,0,1,aeq_eq h,by decide,by decide,by decide⟩
  · exact ⟨0,1,0,aeq_eq h,by decide,by decide,by decide⟩
  · exact ⟨0,1,1,aeq_eq h,by decide,by decide,by decide⟩
  · exact ⟨1,0,0,aeq_eq h,by decide,by decide,by decide⟩
  · exact ⟨1,0,1,aeq_eq h,by decide,by decide,by decide⟩
  · exact ⟨1,1,0,aeq_eq h,by decide,by decide,by decide⟩
def dirB (l : List (AV × AV)) (b : Bx) : Bool:=match mFind l (.cons b.v .nil) 0 with | some i=>isDir (mAt l i).2 | none=>false
theorem dirB_ok {l : List (AV × AV)} {h : ∀ e ∈ l,PF Tryz.prog 313 e.1 e.2∧DP e.1∧DP e.2} {hb} {b : Bx} (hs : bxSm b = true) (hd : dirB l b = true) : BxOK (Cn.memo 313 l h hb) b:=by
  have hok:=bxSm_ok hs
  refine ⟨hok,?_⟩
  unfold dirB at hd
  split at hd
  · rename_i i hi
    obtain ⟨d,e,f,hv,h1,h2,h3⟩:=isDir_ok hd
    obtain ⟨k,x,e1,e2,e3⟩:=mFind_ok hi
    rw [Nat.zero_add] at e1
    subst e1
    have hat : mAt l i = x:=by unfold mAt; rw [e2]; rfl
    have hat1 : (mAt l i).1 = .cons b.v .nil:=by rw [hat]; exact e3
    refine ⟨i,d,e,f,⟨(List.getElem?_eq_some_iff.1 e2).1,by rw [hat1]; exact hi⟩,?_,hv,h1,h2,h3⟩
    show (mAt l i).1 = _
    rw [hat1,Bx.p_v hok]
  · cases hd
section
variable (l : List (AV × AV)) (h : ∀ e ∈ l,PF Tryz.prog 313 e.1 e.2∧DP e.1∧DP e.2) (hb : ∃ fn,Tryz.prog.funcs[313]? = some fn∧fn.body.isSome = true)
def bxB (b : Bx) : Bool:=band (bxSm b) (dirB l b)
def d_Iv : Dc Tryz.prog:=Dc.mk (n_Iv (Cn.memo 313 l h hb) rfl rfl)
  (fun x=>match x with | .cons A (.cons B (.cons D .nil))=>oB (bxGet A) fun a=>oB (bxGet B) fun b=>oB (axGet D) fun k=>some ((a,b),k) | _=>none)
  (fun p=>band (bxB l p.1.1) (band (bxB l p.1.2) (Nat.ble (Nat.succ p.2) 6)))
  (fun x p hx=>by
    split at hx
    · obtain ⟨a,h1,hx⟩:=oB_some hx
      obtain ⟨b,h2,hx⟩:=oB_some hx
      obtain ⟨k,h3,hx⟩:=oB_some hx
      cases hx
      show AV.cons (shV a.sh) (.cons (shV b.sh) (.cons (eQ3.v (axAt k)) .nil)) = _
      rw [bxGet_ok h1,bxGet_ok h2,(axGet_ok h3).2]
    · cases hx)
  (fun p hp=>by
    obtain ⟨h1,hp⟩:=band_iff.1 hp
    obtain ⟨h2,h3⟩:=band_iff.1 hp
    exact ⟨dirB_ok (band_iff.1 h1).1 (band_iff.1 h1).2,dirB_ok (band_iff.1 h2).1 (band_iff.1 h2).2,Nat.le_of_ble_eq_true h3⟩)
end
end
end Go.Sy
namespace Go.Sy
open Go.RowKit Go.Proofs
set_option linter.unusedVariables false
set_option linter.unusedSimpArgs false
set_option maxRecDepth 1000000
set_option maxHeartbeats 0
attribute [local irreducible] Cw SealV SealL PF Sub
noncomputable def tSt (n : Cn Tryz.prog) (hf : n.f = 313) (hfl : n.flat = false) : List (Cn Tryz.prog):=[n_AxB n hf hfl,Cn.lift tb1 n_gap,Cn.lift tb1 n_RSign]
theorem tSt_nodup (n : Cn Tryz.prog) (hf : n.f = 313) (hfl : n.flat = false) : ((tSt n hf hfl).map Cn.f).Nodup:=by
  show ([263,264,107] : List Nat).Nodup
  decide
def stGo (g : Q3 → Q) : List Q3 → Int → Int
  | [],s=>s
  | n::l,s=>match ieq (g n).1.sign 1 with | true=>1 | false=>stGo g l (match ieq (g n).1.sign 0 with | true=>2 | false=>s)
theorem c_St (n : Cn Tryz.prog) (hf : n.f = 313) (hfl : n.flat = false) (a b : Bx) (ha : BxOK n a) (hb : BxOK n b) :
    PF Tryz.prog 203 (.cons (shV a.sh) (.cons (shV b.sh) .nil)) ((eInt .i64).v (stGo (gapQ a.sh b.sh) axL6 3)):=by
  have hg : ∀ n ∈ axL6,GapOK a.sh b.sh n:=fun n hn=>(bx_gap ha.1 hb.1 n hn).1
  refine PF.of_wp (c:=_) p_mixed (by decide) (fn:=Tryz.f203) rfl rfl rfl (.cons (shV_pure _) (.cons (shV_pure _) .nil)) (call:=callT (tSt n hf hfl)) (fun B0=>callT_ok p_callable _ B0) ?_
  intro B0
  conv=>whnf
  refine callT_go (tSt_nodup n hf hfl) 0 (c:=n_AxB n hf hfl) rfl (a,b) ⟨ha,hb⟩ ?_ ?_ ?_
  · repeat' first | exact trivial | refine ⟨?_,?_⟩
  · rfl
  conv=>whnf
  repeat (first | (refine ⟨⟨_,rfl,rfl⟩,?_⟩; conv=>whnf) | (refine ⟨trivial,?_⟩; conv=>whnf))
  refine Cw.loop (ι:=Nat × Int) (fun q=>regsT [(2,.ptr (pathOf 64) 0),(3,.ptr (pathOf 65) 0),(5,.int .i64 q.2),(10,eQ3.list.v axL6),(11,.int .i64 6),(12,.int .i64 (q.1 : Int))]) (fun _=>[]) (fun _=>⟨heapT [(pathOf 64,.cells (regsT [(0,.ro a.sh.1.length (eQ3.l a.sh.1)),(1,.ro a.sh.2.1.1 (selL a.sh.2.1.2)),(2,.ro a.sh.2.2.1 (selL a.sh.2.2.2))]) 3 false),(pathOf 65,.cells (regsT [(0,.ro b.sh.1.length (eQ3.l b.sh.1)),(1,.ro b.sh.2.1.1 (selL b.sh.2.1.2)),(2,.ro b.sh.2.2.1 (selL b.sh.2.2.2))]) 3 false)],pathOf 66⟩) (fun q=>q.1 ≤ 6∧stGo (gapQ a.sh b.sh) (axL6.drop q.1) q.2 = stGo (gapQ a.sh b.sh) axL6 3) (fun q=>6 - q.1) ?_ (0,3) ⟨by decide,rfl⟩ ?_
  · rintro ⟨q,s⟩ ⟨hq,hfin⟩
    refine wp_sound p_mixed rfl rfl (callT_ok p_callable _ B0) _ ?_
    conv=>whnf
    refine bSplit (fun h1=>?_) (fun h1=>?_)
    · have hq' : q < axL6.length:=by have:=ilt_iff.1 h1; show q < 6; omega
      have hidx : iwrap .i64 (Int.add (q : Int) 1) = ((q + 1 : Nat) : Int):=by
        have hq'' : q < 6:=hq'
        show iwrap .i64 ((q : Int) + 1) = _
        rw [iwrap_i64 (by omega) (by omega)]
        omega
      have hd : axL6.drop q = axL6[q]::axL6.drop (q + 1):=List.drop_eq_getElem_cons hq'
      have hm : axL6[q] ∈ axL6:=List.getElem_mem hq'
      conv=>whnf
      refine IdxP.go q rfl hq' ?_
      conv=>whnf
      refine ⟨_,eQ3.rd rfl hq',?_⟩
      conv=>whnf
      refine callT_go (tSt_nodup n hf hfl) 1 (c:=Cn.lift tb1 n_gap) rfl ((a.sh,b.sh),axL6[q]) (hg _ hm) ?_ ?_ ?_
      · repeat' first | exact trivial | refine ⟨?_,?_⟩
      · rfl
      conv=>whnf
      repeat (first | (refine ⟨⟨_,rfl,rfl⟩,?_⟩; conv=>whnf) | (refine ⟨trivial,?_⟩; conv=>whnf) | (refine ⟨?_,?_⟩; (focus ((conv=>whnf); (try exact trivial); (try exact rfl); (try exact ⟨_,rfl,rfl⟩); done)); conv=>whnf))
      refine callT_go (tSt_nodup n hf hfl) 2 (c:=Cn.lift tb1 n_RSign) rfl (gapQ a.sh b.sh axL6[q]) trivial ?_ ?_ ?_
      · repeat' first | exact trivial | refine ⟨?_,?_⟩
      · rfl
      conv=>whnf
      repeat (first | (refine ⟨⟨_,rfl,rfl⟩,?_⟩; conv=>whnf) | (refine ⟨trivial,?_⟩; conv=>whnf) | (refine ⟨?_,?_⟩; (focus ((conv=>whnf); (try exact trivial); (try exact rfl); (try exact ⟨_,rfl,rfl⟩); done)); conv=>whnf))
      refine bSplit (fun h2=>?_) (fun h2=>?_)
      · have h2' : ieq (gapQ a.sh b.sh axL6[q]).1.sign 1 = true:=h2
        have hs : stGo (gapQ a.sh b.sh) axL6 3 = 1:=by
          rw [← hfin]
          show stGo (gapQ a.sh b.sh) (axL6.drop q) s = 1
          rw [hd]
          simp only [stGo,h2']
        rw [hs]
        conv=>whnf
        repeat (first | (refine ⟨⟨_,rfl,rfl⟩,?_⟩; conv=>whnf) | (refine ⟨trivial,?_⟩; conv=>whnf) | (refine ⟨?_,?_⟩; (focus ((conv=>whnf); (try exact trivial); (try exact rfl); (try exact ⟨_,rfl,rfl⟩); done)); conv=>whnf))
        exact SealV.pure .int
      · have h2' : ieq (gapQ a.sh b.sh axL6[q]).1.sign 1 = false:=h2
        conv=>whnf
        refine bSplit (fun h3=>?_) (fun h3=>?_)
        · have h3' : ieq (gapQ a.sh b.sh axL6[q]).1.sign 0 = true:=h3
          conv=>whnf
          refine ⟨(q + 1,2),⟨hq',?_⟩,?_,?_⟩
          · rw [← hfin]
            show _ = stGo (gapQ a.sh b.sh) (axL6.drop q) s
            rw [hd]
            simp only [stGo,h2',h3']
          · have : q < 6:=hq'
            show 6 - (q + 1) < 6 - q
            omega
          refine Sub.of [(pathOf 64,some (pathOf 64)),(pathOf 65,some (pathOf 65))] [] rfl rfl rfl ?_ ?_
          · repeat' first | exact trivial | exact rfl | refine And.intro ?_ ?_
            all_goals first | exact hidx | exact rfl | exact congrArg (AV.int IntKind.i64) hidx
          · repeat' first | exact trivial | exact rfl | refine And.intro ?_ ?_
        · have h3' : ieq (gapQ a.sh b.sh axL6[q]).1.sign 0 = false:=h3
          conv=>whnf
          refine ⟨(q + 1,s),⟨hq',?_⟩,?_,?_⟩
          · rw [← hfin]
            show _ = stGo (gapQ a.sh b.sh) (axL6.drop q) s
            rw [hd]
            simp only [stGo,h2',h3']
          · have : q < 6:=hq'
            show 6 - (q + 1) < 6 - q
            omega
          refine Sub.of [(pathOf 64,some (pathOf 64)),(pathOf 65,some (pathOf 65))] [] rfl rfl rfl ?_ ?_
          · repeat' first | exact trivial | exact rfl | refine And.intro ?_ ?_
            all_goals first | exact hidx | exact rfl | exact congrArg (AV.int IntKind.i64) hidx
          · repeat' first | exact trivial | exact rfl | refine And.intro ?_ ?_
    · have hq1 : q = 6:=by have:=ilt_no.1 h1; omega
      subst hq1
      have hs : s = stGo (gapQ a.sh b.sh) axL6 3:=hfin
      rw [← hs]
      conv=>whnf
      repeat (first | (refine ⟨⟨_,rfl,rfl⟩,?_⟩; conv=>whnf) | (refine ⟨trivial,?_⟩; conv=>whnf) | (refine ⟨?_,?_⟩; (focus ((conv=>whnf); (try exact trivial); (try exact rfl); (try exact ⟨_,rfl,rfl⟩); done)); conv=>whnf))
      exact SealV.pure .int
  · refine Sub.of [(pathOf 64,some (pathOf 64)),(pathOf 65,some (pathOf 65))] [] rfl rfl rfl ?_ ?_
    · repeat' first | exact trivial | exact rfl | refine And.intro ?_ ?_
    · repeat' first | exact trivial | exact rfl | refine And.intro ?_ ?_
noncomputable section
def n_St (n : Cn Tryz.prog) (hf : n.f = 313) (hfl : n.flat = false) : Cn Tryz.prog :=
  Cn.mk 203 false (Bx × Bx) (fun p=>.cons (shV p.1.sh) (.cons (shV p.2.sh) .nil)) (fun p=>.int .i64 (stGo (gapQ p.1.sh p.2.sh) axL6 3)) (fun p=>BxOK n p.1∧BxOK n p.2)
    (fun p q hp hq h=>by
      injection h with h1 h
      injection h with h2 _
      have g : gapQ p.1.sh p.2.sh = gapQ q.1.sh q.2.sh:=funext fun n=>gapQ_eq (shV_inj h1) (shV_inj h2)
      rw [g])
    (fun p=>⟨shV_dp _,shV_dp _,trivial⟩) (fun _=>PureV.int) (fun h=>by cases h)
    (fun p h=>c_St n hf hfl p.1 p.2 h.1 h.2) (hasbody rfl rfl)
section
variable (l : List (AV × AV)) (h : ∀ e ∈ l,PF Tryz.prog 313 e.1 e.2∧DP e.1∧DP e.2) (hb : ∃ fn,Tryz.prog.funcs[313]? = some fn∧fn.body.isSome = true)
def d_St : Dc Tryz.prog:=Dc.mk (n_St (Cn.memo 313 l h hb) rfl rfl)
  (fun x=>match x with | .cons A (.cons B .nil)=>oB (bxGet A) fun a=>oB (bxGet B) fun b=>some (a,b) | _=>none)
  (fun p=>band (bxB l p.1) (bxB l p.2))
  (fun x p hx=>by
    split at hx
    · obtain ⟨a,h1,hx⟩:=oB_some hx
      obtain ⟨b,h2,hx⟩:=oB_some hx
      cases hx
      show AV.cons (shV a.sh) (.cons (shV b.sh) .nil) = _
      rw [bxGet_ok h1,bxGet_ok h2]
    · cases hx)
  (fun p hp=>by
    obtain ⟨h1,h2⟩:=band_iff.1 hp
    exact ⟨dirB_ok (band_iff.1 h1).1 (band_iff.1 h1).2,dirB_ok (band_iff.1 h2).1 (band_iff.1 h2).2⟩)
end
end
end Go.Sy
