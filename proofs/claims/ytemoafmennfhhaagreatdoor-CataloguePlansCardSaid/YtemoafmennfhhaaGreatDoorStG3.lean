/- meeting.Axes of two boxes: its contract. -/
import Derived.Test.YtemoafmennfhhaaGreatDoorStAx2a
import Derived.Test.YtemoafmennfhhaaGreatDoorStAx2b
import Derived.Test.YtemoafmennfhhaaGreatDoorStAx2c
import Derived.Test.YtemoafmennfhhaaGreatDoorSyAlt4
import Derived.Test.YtemoafmennfhhaaGreatDoorSyV6
import Derived.Test.YtemoafmennfhhaaGreatDoorStAx1
import Derived.KernelRfl
namespace Go.Sy
open Go.RowKit Go.Proofs
set_option linter.unusedVariables false
set_option maxRecDepth 1000000
set_option maxHeartbeats 0
noncomputable def axBel (m : Nat) (x : R) : Bool:=Nat.rec (motive:=fun _=>Bool) true (fun i ih=>band ih (axLeaf axCall axN i x)) m
theorem axBel_get {x : R} {i : Nat} : ∀ {m : Nat},axBel m x = true → i < m → axLeaf axCall axN i x = true
  | 0,_,h=>absurd h (Nat.not_lt_zero _)
  | m + 1,h,hi=>by
    obtain ⟨h1,h2⟩:=band_iff.1 (show band (axBel m x) (axLeaf axCall axN m x) = true from h)
    rcases Nat.lt_or_ge i m with h3 | h3
    · exact axBel_get h1 h3
    · rw [show i = m by omega]; exact h2
theorem ax_next {m : Nat} (h : bCode 10 (axCx axCall) (nthSeq 7 axC) (axBel m) axR [] (axH axN) = true) (h2 : bCode 10 (axCx axCall) (nthSeq 7 axC) (axLeaf axCall axN m) axR [] (axH axN) = true) : bCode 10 (axCx axCall) (nthSeq 7 axC) (axBel (m + 1)) axR [] (axH axN) = true :=
  bCode_and 10 _ (k3:=axBel (m + 1)) (fun x a b=>band_iff.2 ⟨a,b⟩) h h2
theorem ax_all : bCode 10 (axCx axCall) (nthSeq 7 axC) (axFull axCall) axR [] (axH axN) = true:=by
  have h0 : bCode 10 (axCx axCall) (nthSeq 7 axC) (axBel 0) axR [] (axH axN) = true:=bCode_and 10 _ (k3:=axBel 0) (fun _ _ _=>rfl) ax_rng ax_rng
  have h30:=(ax_next (ax_next (ax_next (ax_next (ax_next (ax_next (ax_next (ax_next (ax_next (ax_next (ax_next (ax_next (ax_next (ax_next (ax_next (ax_next (ax_next (ax_next (ax_next (ax_next (ax_next (ax_next (ax_next (ax_next (ax_next (ax_next (ax_next (ax_next (ax_next (ax_next h0 ax_t0) ax_t1) ax_t2) ax_t3) ax_t4) ax_t5) ax_t6) ax_t7) ax_t8) ax_t9) ax_t10) ax_t11) ax_t12) ax_t13) ax_t14) ax_t15) ax_t16) ax_t17) ax_t18) ax_t19) ax_t20) ax_t21) ax_t22) ax_t23) ax_t24) ax_t25) ax_t26) ax_t27) ax_t28) ax_t29)
  refine bCode_and 10 _ (k3:=axFull axCall) (fun x a b=>?_) h30 ax_rng
  cases x with
  | fail=>cases b
  | exit i r m h=>cases b
  | ret r m h=>cases b
  | ok r m h =>
    have hlt : axCls axN h ≤ 29:=Nat.le_of_ble_eq_true b
    have hl:=axBel_get a (Nat.lt_succ_of_le hlt)
    change Bool.casesOn (motive:=fun _=>Bool) (Nat.beq (axCls axN h) (axCls axN h)) true (kFin Tryz.prog axFn axOut (xCode (dropSeq 8 axC) (axCx axCall) r m h)) = true at hl
    rw [Nat.beq_refl] at hl
    exact hl
theorem ax_tail (B0 : Nat) : Cw Tryz.prog B0 (axCx axCall) (dropSeq 7 axC) axR [] (axH axN) (fun x=>kFin Tryz.prog axFn axOut x = true) :=
  Cw.alt_rest p_mixed rfl rfl (axCall_ok B0) (N:=10) (a:=nthSeq 7 axC) (b:=dropSeq 8 axC) rfl ax_all
noncomputable section
end
noncomputable section
end
end Go.Sy
namespace Go.Sy
open Go.RowKit Go.Proofs
set_option linter.unusedVariables false
set_option linter.unusedSimpArgs false
set_option maxRecDepth 1000000
attribute [local irreducible] Cw SealV SealL PF Sub
attribute [local instance] tb0
noncomputable def tExt : List (Cn Tryz.prog):=[n_VDot,n_RCompare]
def extStep (n : Q3) (q : Nat) (v : Q3) (s : Q × Q) : Q × Q :=
  match ieq (q : Int) 0 with
  | true=>(dotQ n v,dotQ n v)
  | false=>((match ilt (Q.cmp (dotQ n v) s.1) 0 with | true=>dotQ n v | false=>s.1),(match ilt 0 (Q.cmp (dotQ n v) s.2) with | true=>dotQ n v | false=>s.2))
def extGo (n : Q3) : Nat → List Q3 → Q × Q → Q × Q
  | _,[],s=>s
  | q,v::l,s=>extGo n (q + 1) l (extStep n q v s)
def extOK (n : Q3) : Nat → List Q3 → Q × Q → Prop
  | _,[],_=>True
  | q,v::l,s=>DotOK n v∧(ieq (q : Int) 0 = false → CmpOK (dotQ n v) s.1∧CmpOK (dotQ n v) s.2)∧extOK n (q + 1) l (extStep n q v s)
theorem extGo_snoc {n v : Q3} : ∀ {l : List Q3} {a : Nat} {s : Q × Q},extGo n a (l++[v]) s = extStep n (a + l.length) v (extGo n a l s)
  | [],a,s=>rfl
  | u::l,a,s=>by
    show extGo n (a + 1) (l++[v]) (extStep n a u s) = _
    rw [extGo_snoc,List.length_cons,show a + 1 + l.length = a + (l.length + 1) by omega]
    rfl
theorem extOK_at {n : Q3} : ∀ {l : List Q3} {a : Nat} {s : Q × Q},extOK n a l s → ∀ (q : Nat) (hq : q < l.length),DotOK n l[q]∧(ieq ((a + q : Nat) : Int) 0 = false → CmpOK (dotQ n l[q]) (extGo n a (l.take q) s).1∧CmpOK (dotQ n l[q]) (extGo n a (l.take q) s).2)
  | [],_,_,_,q,hq=>absurd hq (Nat.not_lt_zero _)
  | v::l,a,s,h,0,_=>⟨h.1,h.2.1⟩
  | v::l,a,s,h,q + 1,hq=>by
    have:=extOK_at h.2.2 q (Nat.lt_of_succ_lt_succ hq)
    rw [show a + 1 + q = a + (q + 1) by omega] at this
    exact this
theorem bIfT {b : Bool} {kt kf : Prop} (h : b = true) (k : kt) : Bool.casesOn (motive:=fun _=>Prop) b kf kt:=by subst h; exact k
theorem bIfF {b : Bool} {kt kf : Prop} (h : b = false) (k : kf) : Bool.casesOn (motive:=fun _=>Prop) b kf kt:=by subst h; exact k
theorem c_Extent (l : List Q3) (nf ne : Nat) (lf le : AV) (n : Q3) (hl : l.length ≤ 4294967296) (hok : extOK n 0 l ((0,0),(0,0))) :
    PFp 316 (.cons (.agg (.cons (eQ3.list.v l) (.cons (.ro nf lf) (.cons (.ro ne le) .nil)))) (.cons (eQ3.v n) .nil)) (.tup (.cons (eRat.v (extGo n 0 l ((0,0),(0,0))).1) (.cons (eRat.v (extGo n 0 l ((0,0),(0,0))).2) .nil))):=by
  obtain ⟨⟨n0,m0⟩,⟨n1,m1⟩,⟨n2,m2⟩⟩:=n
  refine PF.of_wp (c:=_) p_mixed (by decide) (fn:=Tryz.f316) rfl rfl rfl (.cons (.agg (.cons (eQ3.list.pureV _) (.cons .ro (.cons .ro .nil)))) (.cons (eQ3.pureV _) .nil)) (call:=callT tExt) (fun B0=>callT_ok p_callable _ B0) ?_
  intro B0
  conv=>whnf
  obtain ⟨st,hS⟩ : ∃ st : Nat → Q × Q,∀ q,st q = extGo ((n0,m0),(n1,m1),(n2,m2)) 0 (l.take q) ((0,0),(0,0)):=⟨_,fun _=>rfl⟩
  have h00 : st 0 = ((0,0),(0,0)):=by rw [hS]; rfl
  have hsucc : ∀ q (hq : q < l.length),st (q + 1) = extStep ((n0,m0),(n1,m1),(n2,m2)) q l[q] (st q):=fun q hq=>by
    rw [hS,hS,List.take_succ_eq_append_getElem hq,extGo_snoc,List.length_take_of_le (by omega),Nat.zero_add]
  have hend : extGo ((n0,m0),(n1,m1),(n2,m2)) 0 l ((0,0),(0,0)) = st l.length:=by rw [hS,List.take_length]
  have hat : ∀ q (hq : q < l.length),DotOK ((n0,m0),(n1,m1),(n2,m2)) l[q]∧(ieq (q : Int) 0 = false → CmpOK (dotQ ((n0,m0),(n1,m1),(n2,m2)) l[q]) (st q).1∧CmpOK (dotQ ((n0,m0),(n1,m1),(n2,m2)) l[q]) (st q).2):=fun q hq=>by
    have:=extOK_at hok q hq
    rw [Nat.zero_add,← hS] at this
    exact this
  refine Cw.loop (ι:=Nat) (fun q=>regsT [(3,.ptr (pathOf 65) 0),(4,.ptr (pathOf 66) 0),(5,.ptr (pathOf 67) 0),(10,eQ3.list.v l),(11,.int .i64 (l.length : Int)),(12,.int .i64 (q : Int))]) (fun _=>[]) (fun q=>⟨heapT [(pathOf 65,.cells (regsT [(0,.bool (decide (((n0,m0) : Q).1 < 0))),(1,eMag.v ((n0,m0) : Q).1.natAbs),(2,.bool (decide (((n0,m0) : Q).2 < 0))),(3,eMag.v ((n0,m0) : Q).2.natAbs),(4,.bool (decide (((n1,m1) : Q).1 < 0))),(5,eMag.v ((n1,m1) : Q).1.natAbs),(6,.bool (decide (((n1,m1) : Q).2 < 0))),(7,eMag.v ((n1,m1) : Q).2.natAbs),(8,.bool (decide (((n2,m2) : Q).1 < 0))),(9,eMag.v ((n2,m2) : Q).1.natAbs),(10,.bool (decide (((n2,m2) : Q).2 < 0))),(11,eMag.v ((n2,m2) : Q).2.natAbs)]) 12 false),(pathOf 66,.cells (regsT [(0,.bool (decide ((st q).1.1 < 0))),(1,eMag.v (st q).1.1.natAbs),(2,.bool (decide ((st q).1.2 < 0))),(3,eMag.v (st q).1.2.natAbs)]) 4 false),(pathOf 67,.cells (regsT [(0,.bool (decide ((st q).2.1 < 0))),(1,eMag.v (st q).2.1.natAbs),(2,.bool (decide ((st q).2.2 < 0))),(3,eMag.v (st q).2.2.natAbs)]) 4 false)],pathOf 68⟩) (fun q=>q ≤ l.length) (fun q=>l.length - q) ?_ 0 (Nat.zero_le _) ?_
  · intro q hq
    refine wp_sound p_mixed rfl rfl (callT_ok p_callable tExt B0) _ ?_
    conv=>whnf
    refine bSplit (fun h1=>?_) (fun h1=>?_)
    · have hq' : q < l.length:=Int.ofNat_lt.1 (ilt_iff.1 h1)
      have hidx : iwrap .i64 (Int.add (q : Int) 1) = ((q + 1 : Nat) : Int):=by
        show iwrap .i64 ((q : Int) + 1) = _
        rw [iwrap_i64 (by omega) (by omega)]
        omega
      obtain ⟨hd,hc⟩:=hat q hq'
      conv=>whnf
      refine IdxP.go q rfl hq' ?_
      conv=>whnf
      refine ⟨_,eQ3.rd rfl hq',?_⟩
      conv=>whnf
      refine callT_go (l:=tExt) (by decide) 0 (c:=n_VDot) rfl (((n0,m0),(n1,m1),(n2,m2)),l[q]) hd ?_ ?_ ?_
      · repeat' first | exact trivial | refine ⟨?_,?_⟩
      · rfl
      conv=>whnf
      repeat (first | (refine ⟨⟨_,rfl,rfl⟩,?_⟩; conv=>whnf) | (refine ⟨trivial,?_⟩; conv=>whnf) | (refine ⟨⟨_,eQ3.rd (P:=Tryz.prog) (t:=183) rfl hq',eQ3.rd (P:=Tryz.prog) (t:=183) rfl hq'⟩,?_⟩; conv=>whnf))
      refine bSplit (fun h2=>?_) (fun h2=>?_)
      · have h2' : ieq (q : Int) 0 = true:=h2
        have hstep : extStep ((n0,m0),(n1,m1),(n2,m2)) q l[q] (st q) = (dotQ ((n0,m0),(n1,m1),(n2,m2)) l[q],dotQ ((n0,m0),(n1,m1),(n2,m2)) l[q]):=by unfold extStep; rw [h2']
        conv=>whnf
        repeat (first | (refine bIfT h2' ?_; conv=>whnf) | (refine ⟨⟨_,rfl,rfl⟩,?_⟩; conv=>whnf) | (refine ⟨trivial,?_⟩; conv=>whnf))
        refine ⟨q + 1,hq',by omega,?_⟩
        refine Sub.of [(pathOf 65,some (pathOf 65)),(pathOf 66,some (pathOf 66)),(pathOf 67,some (pathOf 67))] [] rfl rfl rfl ?_ ?_
        · repeat' first | exact trivial | exact rfl | refine And.intro ?_ ?_
          all_goals first | exact hidx | (rw [hsucc q hq',hstep]; done) | (rw [hsucc q hq',hstep]; exact rfl)
        · repeat' first | exact trivial | exact rfl | refine And.intro ?_ ?_
          all_goals first | exact hidx | (rw [hsucc q hq',hstep]; done) | (rw [hsucc q hq',hstep]; exact rfl)
      · have h2' : ieq (q : Int) 0 = false:=h2
        conv=>whnf
        repeat (first | (refine bIfF h2' ?_; conv=>whnf) | (refine ⟨⟨_,rfl,rfl⟩,?_⟩; conv=>whnf) | (refine ⟨trivial,?_⟩; conv=>whnf))
        refine callT_go (l:=tExt) (by decide) 1 (c:=n_RCompare) rfl (dotQ ((n0,m0),(n1,m1),(n2,m2)) l[q],(st q).1) (hc h2').1 ?_ ?_ ?_
        · repeat' first | exact trivial | refine ⟨?_,?_⟩
        · rfl
        conv=>whnf
        repeat (first | (refine ⟨⟨_,rfl,rfl⟩,?_⟩; conv=>whnf) | (refine ⟨trivial,?_⟩; conv=>whnf))
        refine bSplit (fun h3=>?_) (fun h3=>?_)
        · have h3' : ilt (Q.cmp (dotQ ((n0,m0),(n1,m1),(n2,m2)) l[q]) (st q).1) 0 = true:=h3
          conv=>whnf
          repeat (first | (refine bIfF h2' ?_; conv=>whnf) | (refine ⟨⟨_,rfl,rfl⟩,?_⟩; conv=>whnf) | (refine ⟨trivial,?_⟩; conv=>whnf))
          refine callT_go (l:=tExt) (by decide) 1 (c:=n_RCompare) rfl (dotQ ((n0,m0),(n1,m1),(n2,m2)) l[q],(st q).2) (hc h2').2 ?_ ?_ ?_
          · repeat' first | exact trivial | refine ⟨?_,?_⟩
          · rfl
          conv=>whnf
          repeat (first | (refine ⟨⟨_,rfl,rfl⟩,?_⟩; conv=>whnf) | (refine ⟨trivial,?_⟩; conv=>whnf))
          refine bSplit (fun h4=>?_) (fun h4=>?_)
          · have h4' : ilt 0 (Q.cmp (dotQ ((n0,m0),(n1,m1),(n2,m2)) l[q]) (st q).2) = true:=h4
            have hstep : extStep ((n0,m0),(n1,m1),(n2,m2)) q l[q] (st q) = (dotQ ((n0,m0),(n1,m1),(n2,m2)) l[q],dotQ ((n0,m0),(n1,m1),(n2,m2)) l[q]):=by unfold extStep; rw [h2']; simp only [h3',h4']
            conv=>whnf
            repeat (first | (refine ⟨⟨_,rfl,rfl⟩,?_⟩; conv=>whnf) | (refine ⟨trivial,?_⟩; conv=>whnf))
            refine ⟨q + 1,hq',by omega,?_⟩
            refine Sub.of [(pathOf 65,some (pathOf 65)),(pathOf 66,some (pathOf 66)),(pathOf 67,some (pathOf 67))] [] rfl rfl rfl ?_ ?_
            · repeat' first | exact trivial | exact rfl | refine And.intro ?_ ?_
              all_goals first | exact hidx | (rw [hsucc q hq',hstep]; done) | (rw [hsucc q hq',hstep]; exact rfl)
            · repeat' first | exact trivial | exact rfl | refine And.intro ?_ ?_
              all_goals first | exact hidx | (rw [hsucc q hq',hstep]; done) | (rw [hsucc q hq',hstep]; exact rfl)
          · have h4' : ilt 0 (Q.cmp (dotQ ((n0,m0),(n1,m1),(n2,m2)) l[q]) (st q).2) = false:=h4
            have hstep : extStep ((n0,m0),(n1,m1),(n2,m2)) q l[q] (st q) = (dotQ ((n0,m0),(n1,m1),(n2,m2)) l[q],(st q).2):=by unfold extStep; rw [h2']; simp only [h3',h4']
            conv=>whnf
            repeat (first | (refine ⟨⟨_,rfl,rfl⟩,?_⟩; conv=>whnf) | (refine ⟨trivial,?_⟩; conv=>whnf))
            refine ⟨q + 1,hq',by omega,?_⟩
            refine Sub.of [(pathOf 65,some (pathOf 65)),(pathOf 66,some (pathOf 66)),(pathOf 67,some (pathOf 67))] [] rfl rfl rfl ?_ ?_
            · repeat' first | exact trivial | exact rfl | refine And.intro ?_ ?_
              all_goals first | exact hidx | (rw [hsucc q hq',hstep]; done) | (rw [hsucc q hq',hstep]; exact rfl)
            · repeat' first | exact trivial | exact rfl | refine And.intro ?_ ?_
              all_goals first | exact hidx | (rw [hsucc q hq',hstep]; done) | (rw [hsucc q hq',hstep]; exact rfl)
        · have h3' : ilt (Q.cmp (dotQ ((n0,m0),(n1,m1),(n2,m2)) l[q]) (st q).1) 0 = false:=h3
          conv=>whnf
          repeat (first | (refine bIfF h2' ?_; conv=>whnf) | (refine ⟨⟨_,rfl,rfl⟩,?_⟩; conv=>whnf) | (refine ⟨trivial,?_⟩; conv=>whnf))
          refine callT_go (l:=tExt) (by decide) 1 (c:=n_RCompare) rfl (dotQ ((n0,m0),(n1,m1),(n2,m2)) l[q],(st q).2) (hc h2').2 ?_ ?_ ?_
          · repeat' first | exact trivial | refine ⟨?_,?_⟩
          · rfl
          conv=>whnf
          repeat (first | (refine ⟨⟨_,rfl,rfl⟩,?_⟩; conv=>whnf) | (refine ⟨trivial,?_⟩; conv=>whnf))
          refine bSplit (fun h4=>?_) (fun h4=>?_)
          · have h4' : ilt 0 (Q.cmp (dotQ ((n0,m0),(n1,m1),(n2,m2)) l[q]) (st q).2) = true:=h4
            have hstep : extStep ((n0,m0),(n1,m1),(n2,m2)) q l[q] (st q) = ((st q).1,dotQ ((n0,m0),(n1,m1),(n2,m2)) l[q]):=by unfold extStep; rw [h2']; simp only [h3',h4']
            conv=>whnf
            repeat (first | (refine ⟨⟨_,rfl,rfl⟩,?_⟩; conv=>whnf) | (refine ⟨trivial,?_⟩; conv=>whnf))
            refine ⟨q + 1,hq',by omega,?_⟩
            refine Sub.of [(pathOf 65,some (pathOf 65)),(pathOf 66,some (pathOf 66)),(pathOf 67,some (pathOf 67))] [] rfl rfl rfl ?_ ?_
            · repeat' first | exact trivial | exact rfl | refine And.intro ?_ ?_
              all_goals first | exact hidx | (rw [hsucc q hq',hstep]; done) | (rw [hsucc q hq',hstep]; exact rfl)
            · repeat' first | exact trivial | exact rfl | refine And.intro ?_ ?_
              all_goals first | exact hidx | (rw [hsucc q hq',hstep]; done) | (rw [hsucc q hq',hstep]; exact rfl)
          · have h4' : ilt 0 (Q.cmp (dotQ ((n0,m0),(n1,m1),(n2,m2)) l[q]) (st q).2) = false:=h4
            have hstep : extStep ((n0,m0),(n1,m1),(n2,m2)) q l[q] (st q) = ((st q).1,(st q).2):=by unfold extStep; rw [h2']; simp only [h3',h4']
            conv=>whnf
            repeat (first | (refine ⟨⟨_,rfl,rfl⟩,?_⟩; conv=>whnf) | (refine ⟨trivial,?_⟩; conv=>whnf))
            refine ⟨q + 1,hq',by omega,?_⟩
            refine Sub.of [(pathOf 65,some (pathOf 65)),(pathOf 66,some (pathOf 66)),(pathOf 67,some (pathOf 67))] [] rfl rfl rfl ?_ ?_
            · repeat' first | exact trivial | exact rfl | refine And.intro ?_ ?_
              all_goals first | exact hidx | (rw [hsucc q hq',hstep]; done) | (rw [hsucc q hq',hstep]; exact rfl)
            · repeat' first | exact trivial | exact rfl | refine And.intro ?_ ?_
              all_goals first | exact hidx | (rw [hsucc q hq',hstep]; done) | (rw [hsucc q hq',hstep]; exact rfl)
    · have hq1 : q = l.length:=by have:=ilt_no.1 h1; omega
      subst hq1
      rw [hend]
      conv=>whnf
      repeat (first | (refine ⟨⟨_,rfl,rfl⟩,?_⟩; conv=>whnf) | (refine ⟨trivial,?_⟩; conv=>whnf))
      exact SealV.same rfl (.tup (.cons (eRat.pureV (st l.length).1) (.cons (eRat.pureV (st l.length).2) .nil)))
  · refine Sub.of [(pathOf 65,some (pathOf 65)),(pathOf 66,some (pathOf 66)),(pathOf 67,some (pathOf 67))] [] rfl rfl rfl ?_ ?_
    · repeat' first | exact trivial | exact rfl | refine And.intro ?_ ?_
    · repeat' first | exact trivial | exact rfl | refine And.intro ?_ ?_
      all_goals (rw [h00]; first | exact rfl | exact ⟨rfl,rfl⟩)
end Go.Sy
namespace Go.Sy
open Go.RowKit Go.Proofs
set_option linter.unusedVariables false
set_option linter.unusedSimpArgs false
set_option maxRecDepth 1000000
attribute [local instance] tb0
noncomputable section
def selL (l : AV) : AV:=Bool.rec (motive:=fun _=>AV) .nil l (dpB l)
theorem selL_pure (l : AV) : PureL (selL l):=by
  unfold selL
  cases h : dpB l with
  | false=>exact .nil
  | true=>exact (dpB_ok h).2
abbrev ExtA:=(List Q3 × (Nat × AV) × (Nat × AV)) × Q3
def extV (p : ExtA) : AV:=.tup (.cons (eRat.v (extGo p.2 0 p.1.1 ((0,0),(0,0))).1) (.cons (eRat.v (extGo p.2 0 p.1.1 ((0,0),(0,0))).2) .nil))
def n_Extent : Cn Tryz.prog :=
  Cn.mk 316 false ExtA (fun p=>.cons (.agg (.cons (eQ3.list.v p.1.1) (.cons (.ro p.1.2.1.1 (selL p.1.2.1.2)) (.cons (.ro p.1.2.2.1 (selL p.1.2.2.2)) .nil)))) (.cons (eQ3.v p.2) .nil)) extV
    (fun p=>p.1.1.length ≤ 4294967296∧extOK p.2 0 p.1.1 ((0,0),(0,0)))
    (fun a b _ _ h=>by
      injection h with h1 h2
      injection h1 with h1
      injection h1 with h1 _
      injection h2 with h2 _
      unfold extV
      rw [eQ3.list.v_inj h1,eQ3.v_inj h2])
    (fun p=>⟨⟨eQ3.list.dpV _,selL_pure _,selL_pure _,trivial⟩,eQ3.dpV _,trivial⟩) (fun p=>.tup (.cons (eRat.pureV _) (.cons (eRat.pureV _) .nil))) (fun h=>by cases h)
    (fun p h=>c_Extent p.1.1 p.1.2.1.1 p.1.2.2.1 (selL p.1.2.1.2) (selL p.1.2.2.2) p.2 h.1 h.2) (hasbody rfl rfl)
theorem selL_of {l : AV} (h : dpB l = true) : selL l = l:=by unfold selL; rw [h]
end
end Go.Sy
namespace Go.Sy
open Go.RowKit Go.Proofs
set_option linter.unusedVariables false
set_option maxRecDepth 1000000
set_option maxHeartbeats 0
noncomputable def axPtT : List (AV × AV):=axEs.map fun e=>(.cons e.2 .nil,e.1)
theorem axPt_ran : ranAll Tryz.prog stov3 232 axPtT = true:=by decide +kernel
noncomputable def d_axPt : Dc Tryz.prog:=Dc.memo 232 axPtT (ranAll_ok p_mixed p_callable stov3_ok (by decide) axPt_ran) (hasbody rfl rfl)
noncomputable def stovP : Tgt → AV → Heap → Option CR:=ovD (dcTab (d_axPt::stdc3))
theorem stovP_ok (B0 : Nat) : OvOK Tryz.prog B0 stovP:=ovD_ok p_callable _ B0
end Go.Sy
namespace Go.Sy
open Go.RowKit Go.Proofs
set_option linter.unusedVariables false
set_option maxRecDepth 1000000
set_option maxHeartbeats 0
structure FaP where
  s : Bool
  k : Nat
  m : AV
  t : Bool
  j : Nat
  u : AV
  n : Nat
  l : AV
structure BxP where
  k : Nat
  m : AV
  f0 : FaP
  f1 : FaP
  f2 : FaP
  f3 : FaP
  f4 : FaP
  f5 : FaP
  n : Nat
  l : AV
noncomputable def fcP (n : List (Int × Nat)) (p : FaP) (t : AV) : AV:=qd n (.cons (.bool p.s) (.cons (.ro p.k p.m) (.cons (.bool p.t) (.cons (.ro p.j p.u) (.cons (.ro p.n p.l) t)))))
noncomputable def bxP (b : BxP) : AV:=.agg (.cons (.ro b.k b.m) (.cons (.ro 6 (fcP [(-1,0),(0,0),(0,0)] b.f0 (fcP [(0,0),(0,0),(-1,0)] b.f1 (fcP [(0,0),(-1,0),(0,0)] b.f2 (fcP [(0,0),(0,0),(1,0)] b.f3 (fcP [(0,0),(1,0),(0,0)] b.f4 (fcP [(1,0),(0,0),(0,0)] b.f5 .nil))))))) (.cons (.ro b.n b.l) .nil)))
noncomputable def axFour (a b : BxP) : Option St:=oB (argsR (.cons (bxP a) (.cons (bxP b) .nil)) 0 axFn.ntmps .leaf) fun r=>xPre 4 axC (axCx (callO Tryz.prog stovP 1000 30)) r [] (startWith Tabs.l 64)
noncomputable def stM (o : Option St) : List (AV × AV):=match o with | some s=>(match s.h.t.get (pathOf 66) with | some (.mp l)=>l | _=>[]) | none=>[]
theorem axFour_map (a b : BxP) : mpEq (stM (axFour a b)) axEs = true:=by kernel_rfl
end Go.Sy
namespace Go.Sy
open Go.RowKit Go.Proofs
set_option linter.unusedVariables false
set_option maxRecDepth 1000000
set_option maxHeartbeats 0
noncomputable def stR (o : Option St) (k : Nat) : Option AV:=match o with | some s=>s.r.get (pathOf k) | none=>none
noncomputable def stC (o : Option St) (id : Nat) (k : Nat) : Option AV:=match o with | some s=>(match s.h.t.get (pathOf id) with | some (.cells t _ _)=>t.get (pathOf k) | _=>none) | none=>none
noncomputable def stN (o : Option St) (id : Nat) : Option (Nat × Bool):=match o with | some s=>(match s.h.t.get (pathOf id) with | some (.cells _ n ro)=>some (n,ro) | _=>none) | none=>none
theorem axFour_m (a b : BxP) : (match axFour a b with | some s=>some s.m | none=>none) = some []:=by kernel_rfl
theorem axFour_n (a b : BxP) : (match axFour a b with | some s=>some s.h.n | none=>none) = some (pathOf 108):=by kernel_rfl
theorem axFour_r2 (a b : BxP) : stR (axFour a b) 2 = some (.ptr (pathOf 64) 0):=by kernel_rfl
theorem axFour_r3 (a b : BxP) : stR (axFour a b) 3 = some (.ptr (pathOf 65) 0):=by kernel_rfl
theorem axFour_r5 (a b : BxP) : stR (axFour a b) 5 = some (.ptr (pathOf 67) 0):=by kernel_rfl
theorem axFour_r6 (a b : BxP) : stR (axFour a b) 6 = some (.func (.func 311) .nil (.cons (.ptr (pathOf 67) 0) .nil)):=by kernel_rfl
theorem axFour_a0 (a b : BxP) : stC (axFour a b) 64 0 = some (.ro a.k a.m):=by kernel_rfl
theorem axFour_a2 (a b : BxP) : stC (axFour a b) 64 2 = some (.ro a.n a.l):=by kernel_rfl
theorem axFour_b0 (a b : BxP) : stC (axFour a b) 65 0 = some (.ro b.k b.m):=by kernel_rfl
theorem axFour_b2 (a b : BxP) : stC (axFour a b) 65 2 = some (.ro b.n b.l):=by kernel_rfl
theorem axFour_an (a b : BxP) : stN (axFour a b) 64 = some (3,false):=by kernel_rfl
theorem axFour_bn (a b : BxP) : stN (axFour a b) 65 = some (3,false):=by kernel_rfl
theorem axFour_v (a b : BxP) : stC (axFour a b) 67 0 = some (.map (pathOf 66)):=by kernel_rfl
theorem axFour_vn (a b : BxP) : stN (axFour a b) 67 = some (1,false):=by kernel_rfl
end Go.Sy
namespace Go.Sy
open Go.RowKit Go.Proofs
set_option linter.unusedVariables false
set_option maxRecDepth 1000000
set_option maxHeartbeats 0
attribute [local irreducible] Cw SealV SealL PF Sub
noncomputable def bxFs (b : BxP) : AV:=fcP [(-1,0),(0,0),(0,0)] b.f0 (fcP [(0,0),(0,0),(-1,0)] b.f1 (fcP [(0,0),(-1,0),(0,0)] b.f2 (fcP [(0,0),(0,0),(1,0)] b.f3 (fcP [(0,0),(1,0),(0,0)] b.f4 (fcP [(1,0),(0,0),(0,0)] b.f5 .nil)))))
noncomputable def cBx (b : BxP) : AO:=.cells (regsT [(0,.ro b.k b.m),(1,.ro 6 (bxFs b)),(2,.ro b.n b.l)]) 3 false
noncomputable def R4 : Tr AV:=regsT [(2,.ptr (pathOf 64) 0),(3,.ptr (pathOf 65) 0),(5,.ptr (pathOf 67) 0),(6,.func (.func 311) .nil (.cons (.ptr (pathOf 67) 0) .nil))]
noncomputable def H4 (a b : BxP) : Heap:=⟨heapT [(pathOf 64,cBx a),(pathOf 65,cBx b),(pathOf 66,.mp axEs),(pathOf 67,.cells (regsT [(0,.map (pathOf 66))]) 1 false)],pathOf 108⟩
noncomputable def dirV (d e f : Nat) : AV:=.ro 3 (qd [(0,d),(0,d),(1,d),(0,e),(1,e),(0,e),(1,f),(0,f),(0,f)] .nil)
theorem callT_one {n : Cn Tryz.prog} {F : FuncId} (hf : n.f = F) (hfl : n.flat = false) (x : n.α) (hx : n.ok x) {xs : AV} {h : Heap} (hbor : BorOK h xs) (has : n.as x = xs) (hb : borV false h xs = xs) (hl : lent xs = []) {v : AV} (hv : n.v x = v) {K : AV → Heap → Prop} (hk : K v h) :
    ∃ v h',callT [n] (.fn F) xs h = .ret v h'∧K v h':=by
  subst hf
  refine callT_go (l:=[n]) (by simp) 0 (c:=n) rfl x hx hbor (by rw [hfl,hb]; exact has) ?_
  rw [hfl,hl,hv]
  exact hk
noncomputable def R5 (D : AV) : Tr AV:=regsT [(2,.ptr (pathOf 64) 0),(5,.ptr (pathOf 67) 0),(6,.func (.func 311) .nil (.cons (.ptr (pathOf 67) 0) .nil)),(9,D)]
noncomputable def H5 (a : BxP) : Heap:=⟨heapT [(pathOf 64,cBx a),(pathOf 66,.mp axEs),(pathOf 67,.cells (regsT [(0,.map (pathOf 66))]) 1 false)],pathOf 108⟩
theorem ax_r8 (B0 : Nat) (a b : BxP) (n : Cn Tryz.prog) (hf : n.f = 313) (x : n.α) (hx : n.ok x) (hfl : n.flat = false) (has : n.as x = .cons (bxP b) .nil) (d e f : Nat) (hv : n.v x = dirV d e f) {c : Code} {kOk kRet : KC} {kEx : Nat → KC}
    (hQ : Cw Tryz.prog B0 (axCx (callT [n])) c (R5 (dirV d e f)) [] (H5 a) (QK kOk kRet kEx)) : Cw Tryz.prog B0 (axCx (callT [n])) (.seq (nthSeq 4 axC) c) R4 [] (H4 a b) (QK kOk kRet kEx):=by
  refine Cw.seq ?_
  refine wp_sound p_mixed rfl rfl (callT_ok p_callable _ B0) _ ?_
  conv=>whnf
  refine callT_one hf hfl x hx ?_ has rfl rfl hv ?_
  · repeat' first | exact trivial | refine ⟨?_,?_⟩
  conv=>whnf
  refine Cw.weaken (Sub.facts (s:=⟨_,[],_⟩) rfl (Nat.le_refl _) ?_ ?_) hQ
  · intro x hx
    rcases List.mem_cons.1 hx with rfl | hx
    · rfl
    rcases List.mem_cons.1 hx with rfl | hx
    · rfl
    rcases List.mem_cons.1 hx with rfl | hx
    · rfl
    rcases List.mem_cons.1 hx with rfl | hx
    · rfl
    cases hx
  · intro x hx
    rcases List.mem_cons.1 hx with rfl | hx
    · exact ⟨_,rfl,.inl rfl⟩
    rcases List.mem_cons.1 hx with rfl | hx
    · exact ⟨_,rfl,.inl rfl⟩
    rcases List.mem_cons.1 hx with rfl | hx
    · exact ⟨_,rfl,.inl rfl⟩
    cases hx
noncomputable def seqA (c : Code) : Code:=match c with | .seq a _=>a | c=>c
noncomputable def seqB (c : Code) : Code:=match c with | .seq _ b=>b | c=>c
noncomputable def R6 (D E : AV) : Tr AV:=regsT [(5,.ptr (pathOf 67) 0),(6,.func (.func 311) .nil (.cons (.ptr (pathOf 67) 0) .nil)),(9,D),(38,E),(39,.int .i64 (.ofNat 3)),(40,.int .i64 0)]
noncomputable def H6 : Heap:=⟨heapT [(pathOf 66,.mp axEs),(pathOf 67,.cells (regsT [(0,.map (pathOf 66))]) 1 false)],pathOf 108⟩
theorem ax_r9 (B0 : Nat) (a : BxP) (D : AV) (n : Cn Tryz.prog) (hf : n.f = 313) (x : n.α) (hx : n.ok x) (hfl : n.flat = false) (has : n.as x = .cons (bxP a) .nil) (d e f : Nat) (hv : n.v x = dirV d e f) {kOk kRet : KC} {kEx : Nat → KC}
    (hQ : Cw Tryz.prog B0 (axCx (callT [n])) (seqB (nthSeq 5 axC)) (R6 D (dirV d e f)) [] H6 (QK kOk kRet kEx)) : Cw Tryz.prog B0 (axCx (callT [n])) (nthSeq 5 axC) (R5 D) [] (H5 a) (QK kOk kRet kEx):=by
  refine Cw.seq (x:=seqA (nthSeq 5 axC)) (y:=seqB (nthSeq 5 axC)) ?_
  refine wp_sound p_mixed rfl rfl (callT_ok p_callable _ B0) _ ?_
  conv=>whnf
  refine callT_one hf hfl x hx ?_ has rfl rfl hv ?_
  · repeat' first | exact trivial | refine ⟨?_,?_⟩
  conv=>whnf
  refine Cw.weaken (Sub.facts (s:=⟨_,[],_⟩) rfl (Nat.le_refl _) ?_ ?_) hQ
  · intro x hx
    rcases List.mem_cons.1 hx with rfl | hx
    · rfl
    rcases List.mem_cons.1 hx with rfl | hx
    · rfl
    rcases List.mem_cons.1 hx with rfl | hx
    · rfl
    rcases List.mem_cons.1 hx with rfl | hx
    · rfl
    rcases List.mem_cons.1 hx with rfl | hx
    · rfl
    rcases List.mem_cons.1 hx with rfl | hx
    · rfl
    cases hx
  · intro x hx
    rcases List.mem_cons.1 hx with rfl | hx
    · exact ⟨_,rfl,.inl rfl⟩
    rcases List.mem_cons.1 hx with rfl | hx
    · exact ⟨_,rfl,.inl rfl⟩
    cases hx
noncomputable def axMid (D E : AV) : Option St :=
  R.casesOn (motive:=fun _=>Option St) (xCode (seqB (nthSeq 5 axC)) (axCx (callO Tryz.prog stovP 1000 30)) (R6 D E) [] H6) none (fun r m h=>R.casesOn (motive:=fun _=>Option St) (xCode (nthSeq 6 axC) (axCx (callO Tryz.prog stovP 1000 30)) r m h) none (fun r m h=>some ⟨r,m,h⟩) (fun _ _ _ _=>none) (fun _ _ _=>none)) (fun _ _ _ _=>none) (fun _ _ _=>none)
noncomputable def axMidB (D E : AV) : Bool:=match axMid D E with | some s=>canB 5 14 (pathOf 67) (pathOf 66) axN axEs s | none=>false
end Go.Sy
namespace Go.Sy
open Go.RowKit Go.Proofs
set_option linter.unusedVariables false
set_option maxRecDepth 1000000
set_option maxHeartbeats 0
noncomputable section
def mid2 (D : AV) (d e : Nat) : Bool:=band (axMidB D (dirV d e 0)) (axMidB D (dirV d e 1))
def mid8 (d e f : Nat) : Bool:=band (band (mid2 (dirV d e f) 0 0) (mid2 (dirV d e f) 0 1)) (band (mid2 (dirV d e f) 1 0) (mid2 (dirV d e f) 1 1))
end
theorem mid_000 : mid8 0 0 0 = true:=by decide +kernel
theorem mid_001 : mid8 0 0 1 = true:=by decide +kernel
theorem mid_010 : mid8 0 1 0 = true:=by decide +kernel
theorem mid_011 : mid8 0 1 1 = true:=by decide +kernel
theorem mid_100 : mid8 1 0 0 = true:=by decide +kernel
theorem mid_101 : mid8 1 0 1 = true:=by decide +kernel
theorem mid_110 : mid8 1 1 0 = true:=by decide +kernel
theorem mid_111 : mid8 1 1 1 = true:=by decide +kernel
theorem lt2 {n : Nat} (h : n < 2) : n = 0 ∨ n = 1:=by omega
theorem mid8_ok {d e f : Nat} (hd : d < 2) (he : e < 2) (hf : f < 2) : mid8 d e f = true:=by
  rcases lt2 hd with rfl | rfl <;> rcases lt2 he with rfl | rfl <;> rcases lt2 hf with rfl | rfl
  · exact mid_000
  · exact mid_001
  · exact mid_010
  · exact mid_011
  · exact mid_100
  · exact mid_101
  · exact mid_110
  · exact mid_111
theorem mid2_ok {D : AV} {d e f : Nat} (hf : f < 2) (h : mid2 D d e = true) : axMidB D (dirV d e f) = true:=by
  obtain ⟨h1,h2⟩:=band_iff.1 h
  rcases lt2 hf with rfl | rfl
  · exact h1
  · exact h2
theorem axMid_ok {d e f d' e' f' : Nat} (hd : d < 2) (he : e < 2) (hf : f < 2) (hd' : d' < 2) (he' : e' < 2) (hf' : f' < 2) : axMidB (dirV d e f) (dirV d' e' f') = true:=by
  obtain ⟨h1,h2⟩:=band_iff.1 (mid8_ok hd he hf)
  obtain ⟨h3,h4⟩:=band_iff.1 h1
  obtain ⟨h5,h6⟩:=band_iff.1 h2
  rcases lt2 hd' with rfl | rfl <;> rcases lt2 he' with rfl | rfl
  · exact mid2_ok hf' h3
  · exact mid2_ok hf' h4
  · exact mid2_ok hf' h5
  · exact mid2_ok hf' h6
theorem axFour_a1 (a b : BxP) : stC (axFour a b) 64 1 = some (.ro 6 (bxFs a)):=by kernel_rfl
theorem axFour_b1 (a b : BxP) : stC (axFour a b) 65 1 = some (.ro 6 (bxFs b)):=by kernel_rfl
theorem less_of {o : Option St} {s : St} (hs : o = some s) {id n : Nat} (hn : stN o id = some (n,false)) {R : List (Nat × AV)} (hR : ∀ x ∈ R,stC o id x.1 = some x.2) : ∃ p,s.h.t.get (pathOf id) = some p∧LessO p (.cells (regsT R) n false):=by
  subst hs
  change (match s.h.t.get (pathOf id) with | some (.cells _ n ro)=>some (n,ro) | _=>none) = some (n,false) at hn
  have hR : ∀ x ∈ R,(match s.h.t.get (pathOf id) with | some (.cells t _ _)=>t.get (pathOf x.1) | _=>none) = some x.2:=hR
  split at hn
  · rename_i t n' ro hg
    cases hn
    refine ⟨_,hg,.inr ⟨t,_,R,rfl,rfl,fun x hx=>?_⟩⟩
    have:=hR x hx
    rw [hg] at this
    exact this
  · cases hn
theorem axFour_some (a b : BxP) : ∃ s,axFour a b = some s:=by
  cases h : axFour a b with
  | none=>have:=axFour_m a b; rw [h] at this; cases this
  | some s=>exact ⟨s,rfl⟩
theorem axFour_sub (B0 : Nat) (a b : BxP) {s : St} (hs : axFour a b = some s) : Sub B0 axFn.ntmps s.r s.m s.h R4 [] (H4 a b):=by
  have hm:=axFour_m a b
  have hn:=axFour_n a b
  have hp:=axFour_map a b
  have hR : ∀ k,stR (axFour a b) k = s.r.get (pathOf k):=fun k=>by rw [hs]; rfl
  rw [hs] at hm hn hp
  refine Sub.facts (Option.some.inj hm) (Nat.le_of_eq (congrArg Pos.toNat (Option.some.inj hn))) ?_ ?_
  · intro x hx
    rw [← hR]
    rcases List.mem_cons.1 hx with rfl | hx
    · exact axFour_r2 a b
    rcases List.mem_cons.1 hx with rfl | hx
    · exact axFour_r3 a b
    rcases List.mem_cons.1 hx with rfl | hx
    · exact axFour_r5 a b
    rcases List.mem_cons.1 hx with rfl | hx
    · exact axFour_r6 a b
    cases hx
  · intro x hx
    rcases List.mem_cons.1 hx with rfl | hx
    · refine less_of hs (axFour_an a b) (fun x hx=>?_)
      rcases List.mem_cons.1 hx with rfl | hx
      · exact axFour_a0 a b
      rcases List.mem_cons.1 hx with rfl | hx
      · exact axFour_a1 a b
      rcases List.mem_cons.1 hx with rfl | hx
      · exact axFour_a2 a b
      cases hx
    rcases List.mem_cons.1 hx with rfl | hx
    · refine less_of hs (axFour_bn a b) (fun x hx=>?_)
      rcases List.mem_cons.1 hx with rfl | hx
      · exact axFour_b0 a b
      rcases List.mem_cons.1 hx with rfl | hx
      · exact axFour_b1 a b
      rcases List.mem_cons.1 hx with rfl | hx
      · exact axFour_b2 a b
      cases hx
    rcases List.mem_cons.1 hx with rfl | hx
    · refine ⟨.mp axEs,?_,.inl rfl⟩
      have hp : mpEq (match s.h.t.get (pathOf 66) with | some (.mp l)=>l | _=>[]) axEs = true:=hp
      split at hp
      · rename_i l hl; rw [mpEq_eq hp] at hl; exact hl
      · cases hp
    rcases List.mem_cons.1 hx with rfl | hx
    · refine less_of hs (axFour_vn a b) (fun x hx=>?_)
      rcases List.mem_cons.1 hx with rfl | hx
      · exact axFour_v a b
      cases hx
    cases hx
def DirOK (n : Cn Tryz.prog) (b : BxP) : Prop:=∃ (x : n.α) (d e f : Nat),n.ok x∧n.as x = .cons (bxP b) .nil∧n.v x = dirV d e f∧d < 2∧e < 2∧f < 2
theorem PF_axP (n : Cn Tryz.prog) (hf : n.f = 313) (hfl : n.flat = false) {a b : BxP} (ha : DirOK n a) (hb : DirOK n b) (hp : PureL (.cons (bxP a) (.cons (bxP b) .nil))) : PF Tryz.prog 263 (.cons (bxP a) (.cons (bxP b) .nil)) axOut:=by
  obtain ⟨s,hs⟩:=axFour_some a b
  obtain ⟨xa,da,ea,fa,oka,asa,va,hda,hea,hfa⟩:=ha
  obtain ⟨xb,db,eb,fb,okb,asb,vb,hdb,heb,hfb⟩:=hb
  obtain ⟨r,har,hpre⟩:=oB_some hs
  have hmid:=axMid_ok hdb heb hfb hda hea hfa
  refine PF.of_alt p_mixed (by decide) (fn:=axFn) rfl axC_ok har hp (fun B0=>callO_sound p_mixed p_callable (stovP_ok B0) 1000 30) hpre (fun B0=>axFour_sub B0 a b hs) (call':=callT [n]) (fuel':=1000) (fun B0=>?_)
  refine Cw.mono (fun x hx=>ofQK (k:=kFin Tryz.prog axFn axOut) hx) ?_
  refine ax_r8 B0 a b n hf xb okb hfl asb db eb fb vb (c:=dropSeq 5 axC) ?_
  refine Cw.seq (x:=nthSeq 5 axC) (y:=dropSeq 6 axC) ?_
  refine ax_r9 B0 a _ n hf xa oka hfl asa da ea fa va ?_
  unfold axMidB at hmid
  split at hmid
  · rename_i s2 hs2
    unfold axMid at hs2
    cases hx : xCode (seqB (nthSeq 5 axC)) (axCx (callO Tryz.prog stovP 1000 30)) (R6 (dirV db eb fb) (dirV da ea fa)) [] H6 with
    | fail=>rw [hx] at hs2; cases hs2
    | exit i r m h=>rw [hx] at hs2; cases hs2
    | ret r m h=>rw [hx] at hs2; cases hs2
    | ok r1 m1 h1 =>
      rw [hx] at hs2
      have hs2 : (R.casesOn (motive:=fun _=>Option St) (xCode (nthSeq 6 axC) (axCx (callO Tryz.prog stovP 1000 30)) r1 m1 h1) none (fun r m h=>some ⟨r,m,h⟩) (fun _ _ _ _=>none) (fun _ _ _=>none)) = some s2:=hs2
      cases hy : xCode (nthSeq 6 axC) (axCx (callO Tryz.prog stovP 1000 30)) r1 m1 h1 with
      | fail=>rw [hy] at hs2; cases hs2
      | exit i r m h=>rw [hy] at hs2; cases hs2
      | ret r m h=>rw [hy] at hs2; cases hs2
      | ok r2 m2 h2 =>
        rw [hy] at hs2
        cases hs2
        have hc:=callO_sound p_mixed p_callable (stovP_ok B0) 1000 30
        refine Cw.cx (call:=callO Tryz.prog stovP 1000 30) (fuel:=1000) ?_
        refine Cw.of_run (cx:=axCx (callO Tryz.prog stovP 1000 30)) rfl (code_sound p_mixed rfl hc _) hx (by simp) ?_
        show Cw Tryz.prog B0 (axCx (callT [n])) (.seq (nthSeq 6 axC) (dropSeq 7 axC)) r1 m1 h1 _
        refine Cw.seq ?_
        refine Cw.cx (call:=callO Tryz.prog stovP 1000 30) (fuel:=1000) ?_
        refine Cw.of_run (cx:=axCx (callO Tryz.prog stovP 1000 30)) rfl (code_sound p_mixed rfl hc _) hy (by simp) ?_
        show Cw Tryz.prog B0 (axCx (callT [n])) (dropSeq 7 axC) r2 m2 h2 _
        refine Cw.weaken (canB_sub hmid) ?_
        exact Cw.mono (fun x hx=>toQK rfl hx) (Cw.cx (ax_tail B0))
  · cases hmid
end Go.Sy
namespace Go.Sy
open Go.RowKit Go.Proofs
set_option linter.unusedVariables false
set_option linter.unusedSimpArgs false
set_option maxRecDepth 1000000
attribute [local irreducible] Cw SealV SealL PF Sub
attribute [local instance] tb0
noncomputable def tIsZ : List (Cn Tryz.prog):=[n_VCompare]
theorem c_VIsZero (a : Q3) (h : ok3 CmpOK a z3) : PFp 171 (.cons (eQ3.v a) .nil) (eBool.v (ieq (cmpQ3 a z3) 0)):=by
  obtain ⟨⟨x0,y0⟩,⟨x1,y1⟩,⟨x2,y2⟩⟩:=a
  refine PF.of_wp (c:=_) p_mixed (by decide) (fn:=Tryz.f171) rfl rfl rfl (.cons (eQ3.pureV _) .nil) (call:=callT tIsZ) (fun B0=>callT_ok p_callable _ B0) ?_
  intro B0
  conv=>whnf
  refine callT_go (l:=tIsZ) (by decide) 0 (c:=n_VCompare) rfl (((x0,y0),(x1,y1),(x2,y2)),z3) h ?_ ?_ ?_
  · repeat' first | exact trivial | refine ⟨?_,?_⟩
  · rfl
  conv=>whnf
  repeat first | refine ⟨⟨_,rfl,rfl⟩,?_⟩ | refine ⟨trivial,?_⟩
  conv=>whnf
  exact SealV.same rfl PureV.bool
noncomputable def n_VIsZero : Cn Tryz.prog:=.of1 eQ3 eBool 171 true (fun a=>ok3 CmpOK a z3) (fun a=>ieq (cmpQ3 a z3) 0) flat_bool (fun a h=>c_VIsZero a h) (hasbody rfl rfl)
noncomputable def tRDiv : List (Cn Tryz.prog):=[n_RSign,n_Den,n_Mul,n_reduced]
def DivQOK (p q : Q) : Prop:=q.1 ≠ 0∧OK2 (fun p q=>RedOK (p.1 * Q.dn q) (Q.dn p * q.1)) p q
def Q.div (p q : Q) : Q:=redQ (p.1 * Q.dn q) (Q.dn p * q.1)
theorem c_RDiv (p q : Q) (h : DivQOK p q) : PFp 177 (.cons (eRat.v p) (.cons (eRat.v q) .nil)) (.tup (.cons (eRat.v (Q.div p q)) (.cons ((eInt .i64).v 0) .nil))):=by
  obtain ⟨n,d⟩:=p
  obtain ⟨m,e⟩:=q
  obtain ⟨h0,hn,hd,hm,he,hr⟩:=h
  have h0 : m ≠ 0:=h0
  have hdn : SH (Q.dn (n,d)):=SH_dn hd
  have hen : SH (Q.dn (m,e)):=SH_dn he
  refine PF.of_wp (c:=_) p_mixed (by decide) (fn:=Tryz.f177) rfl rfl rfl (.cons (eRat.pureV _) (.cons (eRat.pureV _) .nil)) (call:=callT tRDiv) (fun B0=>callT_ok p_callable _ B0) ?_
  intro B0
  conv=>whnf
  refine callT_go (l:=tRDiv) (by decide) 0 (c:=n_RSign) rfl (m,e) trivial ?_ ?_ ?_
  · repeat' first | exact trivial | refine ⟨?_,?_⟩
  · rfl
  conv=>whnf
  repeat first | refine ⟨⟨_,rfl,rfl⟩,?_⟩ | refine ⟨trivial,?_⟩
  conv=>whnf
  refine bSplit (fun h1=>?_) (fun h1=>?_)
  · exfalso
    have h1 : ieq (Int.sign m) 0 = true:=h1
    exact h0 (Int.sign_eq_zero_iff_zero.1 (ieq_iff.1 h1))
  conv=>whnf
  refine callT_go (l:=tRDiv) (by decide) 1 (c:=n_Den) rfl (m,e) trivial ?_ ?_ ?_
  · repeat' first | exact trivial | refine ⟨?_,?_⟩
  · rfl
  conv=>whnf
  repeat first | refine ⟨⟨_,rfl,rfl⟩,?_⟩ | refine ⟨trivial,?_⟩
  conv=>whnf
  refine callT_go (l:=tRDiv) (by decide) 2 (c:=n_Mul) rfl (n,Q.dn (m,e)) ⟨hn,hen⟩ ?_ ?_ ?_
  · repeat' first | exact trivial | refine ⟨?_,?_⟩
  · rfl
  conv=>whnf
  repeat first | refine ⟨⟨_,rfl,rfl⟩,?_⟩ | refine ⟨trivial,?_⟩
  conv=>whnf
  refine callT_go (l:=tRDiv) (by decide) 1 (c:=n_Den) rfl (n,d) trivial ?_ ?_ ?_
  · repeat' first | exact trivial | refine ⟨?_,?_⟩
  · rfl
  conv=>whnf
  repeat first | refine ⟨⟨_,rfl,rfl⟩,?_⟩ | refine ⟨trivial,?_⟩
  conv=>whnf
  refine callT_go (l:=tRDiv) (by decide) 2 (c:=n_Mul) rfl (Q.dn (n,d),m) ⟨hdn,hm⟩ ?_ ?_ ?_
  · repeat' first | exact trivial | refine ⟨?_,?_⟩
  · rfl
  conv=>whnf
  repeat first | refine ⟨⟨_,rfl,rfl⟩,?_⟩ | refine ⟨trivial,?_⟩
  conv=>whnf
  refine callT_go (l:=tRDiv) (by decide) 3 (c:=n_reduced) rfl (n * Q.dn (m,e),Q.dn (n,d) * m) hr ?_ ?_ ?_
  · repeat' first | exact trivial | refine ⟨?_,?_⟩
  · rfl
  conv=>whnf
  repeat first | refine ⟨⟨_,rfl,rfl⟩,?_⟩ | refine ⟨trivial,?_⟩
  conv=>whnf
  exact SealV.same rfl (.tup (.cons (eRat.pureV (Q.div (n,d) (m,e))) (.cons PureV.int .nil)))
noncomputable def n_RDiv : Cn Tryz.prog:=.of2t eRat eRat eRat (eInt .i64) 177 DivQOK Q.div (fun _ _=>0) c_RDiv (hasbody rfl rfl)
abbrev ShA:=List Q3 × (Nat × AV) × (Nat × AV)
noncomputable def shV (s : ShA) : AV:=.agg (.cons (eQ3.list.v s.1) (.cons (.ro s.2.1.1 (selL s.2.1.2)) (.cons (.ro s.2.2.1 (selL s.2.2.2)) .nil)))
theorem shV_dp (s : ShA) : DP (shV s):=⟨eQ3.list.dpV _,selL_pure _,selL_pure _,trivial⟩
theorem shV_pure (s : ShA) : PureV (shV s):=.agg (.cons (eQ3.list.pureV _) (.cons .ro (.cons .ro .nil)))
noncomputable def tGap : List (Cn Tryz.prog):=[n_Extent,n_RSub]
def extQ (s : ShA) (n : Q3) : Q × Q:=extGo n 0 s.1 ((0,0),(0,0))
def gapQ (a b : ShA) (n : Q3) : Q:=Q.sub (extQ b n).1 (extQ a n).2
def ExtOK (s : ShA) (n : Q3) : Prop:=s.1.length ≤ 4294967296∧extOK n 0 s.1 ((0,0),(0,0))
def GapOK (a b : ShA) (n : Q3) : Prop:=ExtOK a n∧ExtOK b n∧SubOK (extQ b n).1 (extQ a n).2
theorem c_gap (a b : ShA) (n : Q3) (h : GapOK a b n) : PFp 264 (.cons (shV a) (.cons (shV b) (.cons (eQ3.v n) .nil))) (eRat.v (gapQ a b n)):=by
  obtain ⟨⟨n0,m0⟩,⟨n1,m1⟩,⟨n2,m2⟩⟩:=n
  obtain ⟨ha,hb,hs⟩:=h
  refine PF.of_wp (c:=_) p_mixed (by decide) (fn:=Tryz.f264) rfl rfl rfl (.cons (shV_pure _) (.cons (shV_pure _) (.cons (eQ3.pureV _) .nil))) (call:=callT tGap) (fun B0=>callT_ok p_callable _ B0) ?_
  intro B0
  conv=>whnf
  refine callT_go (l:=tGap) (by decide) 0 (c:=n_Extent) rfl (a,((n0,m0),(n1,m1),(n2,m2))) ha ?_ ?_ ?_
  · repeat' first | exact trivial | refine ⟨?_,?_⟩
  · rfl
  conv=>whnf
  repeat first | refine ⟨⟨_,rfl,rfl⟩,?_⟩ | refine ⟨trivial,?_⟩
  conv=>whnf
  refine callT_go (l:=tGap) (by decide) 0 (c:=n_Extent) rfl (b,((n0,m0),(n1,m1),(n2,m2))) hb ?_ ?_ ?_
  · repeat' first | exact trivial | refine ⟨?_,?_⟩
  · rfl
  conv=>whnf
  repeat first | refine ⟨⟨_,rfl,rfl⟩,?_⟩ | refine ⟨trivial,?_⟩
  conv=>whnf
  refine callT_go (l:=tGap) (by decide) 1 (c:=n_RSub) rfl ((extQ b ((n0,m0),(n1,m1),(n2,m2))).1,(extQ a ((n0,m0),(n1,m1),(n2,m2))).2) hs ?_ ?_ ?_
  · repeat' first | exact trivial | refine ⟨?_,?_⟩
  · rfl
  conv=>whnf
  repeat first | refine ⟨⟨_,rfl,rfl⟩,?_⟩ | refine ⟨trivial,?_⟩
  conv=>whnf
  exact SealV.same rfl (eRat.pureV (gapQ a b ((n0,m0),(n1,m1),(n2,m2))))
theorem shV_inj {a b : ShA} (h : shV a = shV b) : a.1 = b.1:=by
  injection h with h
  injection h with h _
  exact eQ3.list.v_inj h
theorem gapQ_eq {a b a' b' : ShA} {n : Q3} (ha : a.1 = a'.1) (hb : b.1 = b'.1) : gapQ a b n = gapQ a' b' n:=by
  unfold gapQ extQ
  rw [ha,hb]
noncomputable def n_gap : Cn Tryz.prog :=
  Cn.mk 264 false ((ShA × ShA) × Q3) (fun p=>.cons (shV p.1.1) (.cons (shV p.1.2) (.cons (eQ3.v p.2) .nil))) (fun p=>eRat.v (gapQ p.1.1 p.1.2 p.2)) (fun p=>GapOK p.1.1 p.1.2 p.2)
    (fun a b _ _ h=>by
      injection h with h1 h
      injection h with h2 h
      injection h with h3 _
      rw [eQ3.v_inj h3,gapQ_eq (shV_inj h1) (shV_inj h2)])
    (fun p=>⟨shV_dp _,shV_dp _,eQ3.dpV _,trivial⟩) (fun p=>eRat.pureV _) (fun h=>by cases h) (fun p h=>c_gap p.1.1 p.1.2 p.2 h) (hasbody rfl rfl)
end Go.Sy
namespace Go.Sy
open Go.RowKit Go.Proofs
set_option linter.unusedVariables false
set_option linter.unusedSimpArgs false
set_option maxRecDepth 1000000
theorem mg_eq {m : Nat} (h : m < 4294967296) : eMag.v m = mg m:=by
  cases m with
  | zero=>rfl
  | succ m =>
    have e : dg (m + 1) = [((m + 1 : Nat) : Int)]:=by
      unfold dg
      rw [nd_one (Nat.succ_pos m) h]
      show [(((m + 1) % 4294967296 : Nat) : Int)] = _
      rw [Nat.mod_eq_of_lt h]
    show AV.ro (dg (m + 1)).length ((eInt .u32).l (dg (m + 1))) = _
    rw [e]
    rfl
theorem qd_one {z : Int} (h : z.natAbs < 4294967296) (t : AV) : qd [(z,0)] t = .cons (.bool (decide (z < 0))) (.cons (eMag.v z.natAbs) (.cons (.bool false) (.cons (.ro 0 .nil) t))):=by
  rw [mg_eq h]
  cases z with
  | ofNat m =>
    have e : decide (Int.ofNat m < 0) = false:=decide_eq_false (by show ¬ ((m : Int) < 0); omega)
    rw [e]; rfl
  | negSucc m =>
    have e : decide (Int.negSucc m < 0) = true:=decide_eq_true (Int.negSucc_lt_zero m)
    rw [e]; rfl
theorem qz_one {z : Int} (h : z.natAbs < 4294967296) (t : AV) : qz [z] t = .cons (.bool (decide (z < 0))) (.cons (eMag.v z.natAbs) (.cons (.bool false) (.cons (.ro 0 .nil) t))):=by
  rw [← qd_one h]
  cases z <;> rfl
theorem q3_l {a b c : Int} (ha : a.natAbs < 4294967296) (hb : b.natAbs < 4294967296) (hc : c.natAbs < 4294967296) (l : List Q3) : eQ3.l (((a,0),(b,0),(c,0))::l) = qz [a,b,c] (eQ3.l l):=by
  show _ = qz [a] (qz [b] (qz [c] (eQ3.l l)))
  rw [qz_one ha,qz_one hb,qz_one hc]
  rfl
structure Bx where
  a : Int
  b : Int
  c : Int
  x : Int
  y : Int
  z : Int
def Bx.ok (b : Bx) : Prop:=b.a.natAbs < 1000000∧b.b.natAbs < 1000000∧b.c.natAbs < 1000000∧b.x.natAbs < 1000000∧b.y.natAbs < 1000000∧b.z.natAbs < 1000000
noncomputable def Bx.v (b : Bx) : AV:=bxo b.a b.b b.c b.x b.y b.z
noncomputable def bxFc (a b c x y z : Int) : AV :=
  qd [(-1,0),(0,0),(0,0)] (qd [(-a,0)] (.cons (bx4 [0,1,3,2]) (qd [(0,0),(0,0),(-1,0)] (qd [(-c,0)] (.cons (bx4 [0,2,6,4]) (qd [(0,0),(-1,0),(0,0)] (qd [(-b,0)] (.cons (bx4 [0,4,5,1])
    (qd [(0,0),(0,0),(1,0)] (qd [(z,0)] (.cons (bx4 [1,5,7,3]) (qd [(0,0),(1,0),(0,0)] (qd [(y,0)] (.cons (bx4 [2,3,7,6]) (qd [(1,0),(0,0),(0,0)] (qd [(x,0)] (.cons (bx4 [4,6,7,5]) .nil)))))))))))))))))
noncomputable def bxEc : AV:=iz .i64 [0,1,0,2,0,2,0,1,0,4,1,2,1,3,0,3,1,5,2,3,2,3,0,4,2,6,1,4,3,7,3,4,4,5,2,5,4,6,1,5,5,7,3,5,6,7,4,5] .nil
def Bx.l (b : Bx) : List Q3:=[((b.a,0),(b.b,0),(b.c,0)),((b.a,0),(b.b,0),(b.z,0)),((b.a,0),(b.y,0),(b.c,0)),((b.a,0),(b.y,0),(b.z,0)),((b.x,0),(b.b,0),(b.c,0)),((b.x,0),(b.b,0),(b.z,0)),((b.x,0),(b.y,0),(b.c,0)),((b.x,0),(b.y,0),(b.z,0))]
noncomputable def Bx.sh (b : Bx) : ShA:=(b.l,(6,bxFc b.a b.b b.c b.x b.y b.z),(12,bxEc))
theorem dpB_mg (m : Nat) : dpB (mg m) = true:=by cases m <;> rfl
theorem dpB_qd {t : AV} (h : dpB t = true) : ∀ (l : List (Int × Nat)),dpB (qd l t) = true
  | []=>h
  | (z,d)::l=>by
    have ih:=dpB_qd h l
    cases z with
    | ofNat m =>
      show band true (band (dpB (mg m)) (band true (band (dpB (mg d)) (dpB (qd l t))))) = true
      rw [dpB_mg,dpB_mg,ih]; rfl
    | negSucc m =>
      show band true (band (dpB (mg (Nat.succ m))) (band true (band (dpB (mg d)) (dpB (qd l t))))) = true
      rw [dpB_mg,dpB_mg,ih]; rfl
theorem dpB_c4 {l : List Int} {t : AV} (hl : dpB (bx4 l) = true) (h : dpB t = true) : dpB (.cons (bx4 l) t) = true:=band_iff.2 ⟨hl,h⟩
theorem dpB_bxFc (a b c x y z : Int) : dpB (bxFc a b c x y z) = true :=
  dpB_qd (dpB_qd (dpB_c4 rfl (dpB_qd (dpB_qd (dpB_c4 rfl (dpB_qd (dpB_qd (dpB_c4 rfl (dpB_qd (dpB_qd (dpB_c4 rfl (dpB_qd (dpB_qd (dpB_c4 rfl (dpB_qd (dpB_qd (dpB_c4 rfl rfl) _) _)) _) _)) _) _)) _) _)) _) _)) _) _
theorem Bx.sh_v {b : Bx} (h : b.ok) : shV b.sh = b.v:=by
  obtain ⟨h1,h2,h3,h4,h5,h6⟩:=h
  obtain ⟨a,b,c,x,y,z⟩:=b
  have h1 : a.natAbs < 4294967296:=Nat.lt_trans h1 (by decide)
  have h2 : b.natAbs < 4294967296:=Nat.lt_trans h2 (by decide)
  have h3 : c.natAbs < 4294967296:=Nat.lt_trans h3 (by decide)
  have h4 : x.natAbs < 4294967296:=Nat.lt_trans h4 (by decide)
  have h5 : y.natAbs < 4294967296:=Nat.lt_trans h5 (by decide)
  have h6 : z.natAbs < 4294967296:=Nat.lt_trans h6 (by decide)
  show AV.agg (.cons (.ro 8 (eQ3.l [((a,0),(b,0),(c,0)),((a,0),(b,0),(z,0)),((a,0),(y,0),(c,0)),((a,0),(y,0),(z,0)),((x,0),(b,0),(c,0)),((x,0),(b,0),(z,0)),((x,0),(y,0),(c,0)),((x,0),(y,0),(z,0))])) (.cons (.ro 6 (selL (bxFc a b c x y z))) (.cons (.ro 12 (selL bxEc)) .nil))) = _
  rw [selL_of (dpB_bxFc a b c x y z),selL_of (show dpB bxEc = true from rfl)]
  rw [q3_l h1 h2 h3,q3_l h1 h2 h6,q3_l h1 h5 h3,q3_l h1 h5 h6,q3_l h4 h2 h3,q3_l h4 h2 h6,q3_l h4 h5 h3,q3_l h4 h5 h6]
  rfl
noncomputable def faOf (w : Int) (l : List Int) : FaP:=⟨decide (w < 0),(dg w.natAbs).length,(eInt .u32).l (dg w.natAbs),false,0,.nil,4,iz .i64 l .nil⟩
noncomputable def Bx.p (b : Bx) : BxP:=⟨8,qz (bxL b.a b.b b.c b.x b.y b.z) .nil,faOf (-b.a) [0,1,3,2],faOf (-b.c) [0,2,6,4],faOf (-b.b) [0,4,5,1],faOf b.z [1,5,7,3],faOf b.y [2,3,7,6],faOf b.x [4,6,7,5],12,bxEc⟩
theorem Bx.p_v {b : Bx} (h : b.ok) : bxP b.p = b.v:=by
  obtain ⟨h1,h2,h3,h4,h5,h6⟩:=h
  obtain ⟨a,b,c,x,y,z⟩:=b
  have h1 : (-a).natAbs < 4294967296:=Nat.lt_trans (by rw [Int.natAbs_neg]; exact h1) (by decide)
  have h2 : (-b).natAbs < 4294967296:=Nat.lt_trans (by rw [Int.natAbs_neg]; exact h2) (by decide)
  have h3 : (-c).natAbs < 4294967296:=Nat.lt_trans (by rw [Int.natAbs_neg]; exact h3) (by decide)
  have h4 : x.natAbs < 4294967296:=Nat.lt_trans h4 (by decide)
  have h5 : y.natAbs < 4294967296:=Nat.lt_trans h5 (by decide)
  have h6 : z.natAbs < 4294967296:=Nat.lt_trans h6 (by decide)
  show _ = AV.agg (.cons (.ro 8 (qz (bxL a b c x y z) .nil)) (.cons (.ro 6 (bxFc a b c x y z)) (.cons (.ro 12 bxEc) .nil)))
  unfold bxFc
  rw [qd_one h1,qd_one h2,qd_one h3,qd_one h4,qd_one h5,qd_one h6]
  rfl
end Go.Sy
namespace Go.Sy
open Go.RowKit Go.Proofs
set_option linter.unusedVariables false
set_option linter.unusedSimpArgs false
def Wh (K : Nat) (q : Q) : Prop:=q.2 = 0∧q.1.natAbs ≤ K
def Wh3 (K : Nat) (v : Q3) : Prop:=Wh K v.1∧Wh K v.2.1∧Wh K v.2.2
theorem SH_small {z : Int} (h : z.natAbs < 4294967296) : SH z:=by
  have : nd z.natAbs ≤ 1:=nd_le (by simpa using h)
  unfold SH
  omega
theorem Wh.whole {K : Nat} {q : Q} (h : Wh K q) : Q.whole q = true:=by
  unfold Q.whole
  rw [h.1]
  rfl
theorem Wh.sh {K : Nat} {q : Q} (h : Wh K q) (hK : K < 4294967296) : SH q.1∧SH q.2:=⟨SH_small (Nat.lt_of_le_of_lt h.2 hK),by rw [h.1]; exact SH_small (by decide)⟩
theorem Wh.ok2 {A B : Nat} {p q : Q} (hp : Wh A p) (hq : Wh B q) (hA : A < 4294967296) (hB : B < 4294967296) {R : Q → Q → Prop} : OK2 (fun p q=>(Q.whole p && Q.whole q) = false → R p q) p q :=
  ⟨(hp.sh hA).1,(hp.sh hA).2,(hq.sh hB).1,(hq.sh hB).2,fun h=>by rw [hp.whole,hq.whole] at h; cases h⟩
theorem Wh.cmp {A B : Nat} {p q : Q} (hp : Wh A p) (hq : Wh B q) (hA : A < 4294967296) (hB : B < 4294967296) : CmpOK p q:=⟨(hp.sh hA).1,(hp.sh hA).2,(hq.sh hB).1,(hq.sh hB).2,trivial⟩
theorem Wh.mul {A B : Nat} {p q : Q} (hp : Wh A p) (hq : Wh B q) : Wh (A * B) (Q.mul p q):=by
  unfold Q.mul
  rw [hp.whole,hq.whole]
  refine ⟨rfl,?_⟩
  show (p.1 * q.1).natAbs ≤ _
  rw [Int.natAbs_mul]
  exact Nat.mul_le_mul hp.2 hq.2
theorem Wh.add {A B : Nat} {p q : Q} (hp : Wh A p) (hq : Wh B q) : Wh (A + B) (Q.add p q):=by
  unfold Q.add
  rw [hp.whole,hq.whole]
  refine ⟨rfl,?_⟩
  show (p.1 + q.1).natAbs ≤ _
  have:=Int.natAbs_add_le p.1 q.1
  have h1:=hp.2
  have h2:=hq.2
  omega
theorem Wh.neg {A : Nat} {p : Q} (hp : Wh A p) : Wh A (Q.neg p):=⟨hp.1,by show (-p.1).natAbs ≤ _; rw [Int.natAbs_neg]; exact hp.2⟩
theorem Wh.mono {A B : Nat} {p : Q} (hp : Wh A p) (h : A ≤ B) : Wh B p:=⟨hp.1,Nat.le_trans hp.2 h⟩
theorem Wh.zero (K : Nat) : Wh K (0,0):=⟨rfl,Nat.zero_le _⟩
theorem Wh3.dot {K : Nat} {n v : Q3} (hn : Wh3 1 n) (hv : Wh3 K v) (hK : K ≤ 100000000) : DotOK n v∧Wh (3 * K) (dotQ n v):=by
  obtain ⟨n1,n2,n3⟩:=hn
  obtain ⟨v1,v2,v3⟩:=hv
  have hK' : K < 4294967296:=by omega
  have m1 : Wh K (Q.mul n.1 v.1):=(n1.mul v1).mono (by omega)
  have m2 : Wh K (Q.mul n.2.1 v.2.1):=(n2.mul v2).mono (by omega)
  have m3 : Wh K (Q.mul n.2.2 v.2.2):=(n3.mul v3).mono (by omega)
  have s1:=(Wh.zero 0).add m1
  have s2:=s1.add m2
  have s3:=s2.add m3
  refine ⟨⟨⟨n1.ok2 v1 (by decide) hK',n2.ok2 v2 (by decide) hK',n3.ok2 v3 (by decide) hK'⟩,(Wh.zero 0).ok2 m1 (by decide) hK',s1.ok2 m2 (by omega) hK',s2.ok2 m3 (by omega) hK'⟩,s3.mono (by omega)⟩
theorem ext_wh {K : Nat} {n : Q3} (hn : Wh3 1 n) (hK : K ≤ 100000000) : ∀ {l : List Q3} {q : Nat} {s : Q × Q},(∀ v ∈ l,Wh3 K v) → Wh (3 * K) s.1 → Wh (3 * K) s.2 → extOK n q l s∧Wh (3 * K) (extGo n q l s).1∧Wh (3 * K) (extGo n q l s).2
  | [],q,s,_,h1,h2=>⟨trivial,h1,h2⟩
  | v::l,q,s,hl,h1,h2=>by
    obtain ⟨hd,hw⟩:=Wh3.dot hn (hl v List.mem_cons_self) hK
    have hs : Wh (3 * K) (extStep n q v s).1∧Wh (3 * K) (extStep n q v s).2:=by
      unfold extStep
      cases ieq (q : Int) 0 with
      | true=>exact ⟨hw,hw⟩
      | false =>
        refine ⟨?_,?_⟩
        · show Wh (3 * K) (match ilt (Q.cmp (dotQ n v) s.1) 0 with | true=>dotQ n v | false=>s.1)
          cases ilt (Q.cmp (dotQ n v) s.1) 0 with
          | true=>exact hw
          | false=>exact h1
        · show Wh (3 * K) (match ilt 0 (Q.cmp (dotQ n v) s.2) with | true=>dotQ n v | false=>s.2)
          cases ilt 0 (Q.cmp (dotQ n v) s.2) with
          | true=>exact hw
          | false=>exact h2
    obtain ⟨h3,h4⟩:=ext_wh hn hK (q:=q + 1) (fun u hu=>hl u (List.mem_cons_of_mem _ hu)) hs.1 hs.2
    exact ⟨⟨hd,fun _=>⟨hw.cmp h1 (by omega) (by omega),hw.cmp h2 (by omega) (by omega)⟩,h3⟩,h4⟩
theorem gap_wh {K : Nat} {a b : ShA} {n : Q3} (hn : Wh3 1 n) (hK : K ≤ 10000000) (ha : ∀ v ∈ a.1,Wh3 K v) (hb : ∀ v ∈ b.1,Wh3 K v) (la : a.1.length ≤ 4294967296) (lb : b.1.length ≤ 4294967296) : GapOK a b n∧Wh (6 * K) (gapQ a b n):=by
  obtain ⟨a1,a2,a3⟩:=ext_wh hn (by omega) (q:=0) (s:=((0,0),(0,0))) ha (Wh.zero _) (Wh.zero _)
  obtain ⟨b1,b2,b3⟩:=ext_wh hn (by omega) (q:=0) (s:=((0,0),(0,0))) hb (Wh.zero _) (Wh.zero _)
  have hs : AddOK (extGo n 0 b.1 ((0,0),(0,0))).1 (Q.neg (extGo n 0 a.1 ((0,0),(0,0))).2):=b2.ok2 a3.neg (by omega) (by omega)
  exact ⟨⟨⟨la,a1⟩,⟨lb,b1⟩,hs⟩,(b2.add a3.neg).mono (by omega)⟩
theorem redQ_one (n : Int) : redQ n 1 = (n,1):=by
  unfold redQ
  rw [if_neg (by decide)]
  have h : (Nat.gcd n.natAbs (1 : Int).natAbs : Nat) = 1:=Nat.gcd_one_right _
  rw [h]
  show (dmQ n 1,dmQ 1 1) = _
  rw [dmQ_one,dmQ_one]
theorem redQ_neg (n : Int) : redQ n (-1) = (-n,1):=by
  unfold redQ
  rw [if_pos (by decide)]
  have h : (Nat.gcd n.natAbs (-1 : Int).natAbs : Nat) = 1:=Nat.gcd_one_right _
  rw [h]
  show (dmQ (-n) 1,dmQ 1 1) = _
  rw [dmQ_one,dmQ_one]
theorem div_pos {K : Nat} {q : Q} (h : Wh K q) : Q.div q (1,0) = (q.1,1):=by
  obtain ⟨n,d⟩:=q
  have e : d = 0:=h.1
  subst e
  show redQ (n * 1) (1 * 1) = _
  rw [Int.mul_one]
  exact redQ_one n
theorem div_neg {K : Nat} {q : Q} (h : Wh K q) : Q.div q (-1,0) = (-q.1,1):=by
  obtain ⟨n,d⟩:=q
  have e : d = 0:=h.1
  subst e
  show redQ (n * 1) (1 * -1) = _
  rw [Int.mul_one]
  exact redQ_neg n
theorem SH_0 : SH 0:=SH_small (by decide)
theorem SH_1 : SH 1:=SH_small (by decide)
theorem div_ok {K : Nat} {q : Q} (h : Wh K q) (hK : K < 4294967296) {m : Int} (hm : m = 1 ∨ m = -1) : DivQOK q (m,0):=by
  obtain ⟨n,d⟩:=q
  have e : d = 0:=h.1
  subst e
  have h1 : m ≠ 0:=by omega
  have h2 : m.natAbs < 4294967296:=by omega
  refine ⟨h1,(h.sh hK).1,(h.sh hK).2,SH_small h2,SH_0,?_⟩
  show RedOK (n * 1) (1 * m)
  rw [Int.mul_one,Int.one_mul]
  exact ⟨(h.sh hK).1.sz,(SH_small h2).sz,h1,.inl h2⟩
theorem div_cmp {K : Nat} {p q : Q} (hp : Wh K p) (hq : Wh K q) (hK : K < 4294967296) : CmpOK (Q.div p (1,0)) (Q.div q (-1,0)):=by
  rw [div_pos hp,div_neg hq]
  exact ⟨(hp.sh hK).1,SH_1,(hq.neg.sh hK).1,SH_1,trivial⟩
end Go.Sy
namespace Go.Sy
open Go.RowKit Go.Proofs
set_option linter.unusedVariables false
set_option linter.unusedSimpArgs false
set_option maxRecDepth 1000000
set_option maxHeartbeats 0
def axL6 : List Q3:=[((-1,0),(0,0),(0,0)),((0,0),(-1,0),(0,0)),((0,0),(0,0),(-1,0)),((0,0),(0,0),(1,0)),((0,0),(1,0),(0,0)),((1,0),(0,0),(0,0))]
theorem axOut_eq : axOut = eQ3.list.v axL6:=by
  show _ = AV.ro 6 (eQ3.l axL6)
  unfold axL6
  rw [q3_l (by decide) (by decide) (by decide),q3_l (by decide) (by decide) (by decide),q3_l (by decide) (by decide) (by decide),q3_l (by decide) (by decide) (by decide),q3_l (by decide) (by decide) (by decide),q3_l (by decide) (by decide) (by decide)]
  rfl
def BxOK (n : Cn Tryz.prog) (b : Bx) : Prop:=b.ok∧DirOK n b.p
noncomputable def n_AxB (n : Cn Tryz.prog) (hf : n.f = 313) (hfl : n.flat = false) : Cn Tryz.prog :=
  Cn.mk 263 false (Bx × Bx) (fun p=>.cons (shV p.1.sh) (.cons (shV p.2.sh) .nil)) (fun _=>eQ3.list.v axL6) (fun p=>BxOK n p.1∧BxOK n p.2) (fun _ _ _ _ _=>rfl)
    (fun p=>⟨shV_dp _,shV_dp _,trivial⟩) (fun _=>eQ3.list.pureV _) (fun h=>by cases h)
    (fun p h=>by
      obtain ⟨⟨a1,a2⟩,b1,b2⟩:=h
      have e : AV.cons (shV p.1.sh) (.cons (shV p.2.sh) .nil) = .cons (bxP p.1.p) (.cons (bxP p.2.p) .nil):=by rw [Bx.sh_v a1,Bx.sh_v b1,Bx.p_v a1,Bx.p_v b1]
      rw [e]
      rw [← axOut_eq]
      refine PF_axP n hf hfl a2 b2 ?_
      rw [← e]
      exact .cons (shV_pure _) (.cons (shV_pure _) .nil)) (hasbody rfl rfl)
noncomputable def tIv (n : Cn Tryz.prog) (hf : n.f = 313) (hfl : n.flat = false) : List (Cn Tryz.prog) :=
  [Cn.lift tb1 n_VIsZero,n_AxB n hf hfl,Cn.lift tb1 n_gap,Cn.lift tb1 n_VDot,Cn.lift tb1 n_RSign,Cn.lift tb1 n_RDiv,Cn.lift tb1 n_RCompare]
noncomputable def callW (l : List (Cn Tryz.prog)) : Tgt → AV → Heap → CR:=fun t xs h =>
  match t with
  | .rd _=>.fail
  | .fn f=>Bool.casesOn (motive:=fun _=>CR) (Nat.beq f 329) (callT l (.fn f) xs h) (callFnA Tryz.prog f xs h (fun _ _ _=>.fail) 1000)
theorem callW_ok (l : List (Cn Tryz.prog)) (B0 : Nat) : CallOK Tryz.prog B0 (callW l):=by
  intro t xs h v h' hc μ w hr
  cases t with
  | rd id=>cases hc
  | fn f =>
    change Bool.casesOn (motive:=fun _=>CR) (Nat.beq f 329) (callT l (.fn f) xs h) (callFnA Tryz.prog f xs h (fun _ _ _=>.fail) 1000) = .ret v h' at hc
    cases hb : Nat.beq f 329 with
    | false=>rw [hb] at hc; exact callT_ok p_callable l B0 (.fn f) xs h v h' hc μ w hr
    | true =>
      rw [hb] at hc
      exact callFn_sound p_mixed p_callable (call:=fun _ _ _=>.fail) (fun t xs h v h' hc=>by cases hc) (fuel:=1000) hc hr
theorem nx {P Q : Prop} (q : Q) (p : P:=by first | exact ⟨_,rfl,rfl⟩ | exact trivial | (focus ((conv=>whnf); (try exact trivial); (try exact rfl); (try exact ⟨_,rfl,rfl⟩); done))) : P∧Q:=⟨p,q⟩
theorem callW_go {l : List (Cn Tryz.prog)} (hl : (l.map Cn.f).Nodup) (i : Nat) {c : Cn Tryz.prog} (hc : l[i]? = some c) (hn : Nat.beq c.f 329 = false) (a : c.α) (hok : c.ok a) {xs : AV} {h : Heap} (hbor : BorOK h xs:=by repeat' first | exact trivial | refine ⟨?_,?_⟩) (hxs : c.as a = borV c.flat h xs:=by rfl) {K : AV → Heap → Prop}
    (hk : K (c.v a) (match c.flat with | true=>h | false=>frz h (lent xs))) : ∃ v h',callW l (.fn c.f) xs h = .ret v h'∧K v h':=by
  obtain ⟨v,h',h1,h2⟩:=callT_go hl i hc a hok hbor hxs hk
  refine ⟨v,h',?_,h2⟩
  show Bool.casesOn (motive:=fun _=>CR) (Nat.beq c.f 329) (callT l (.fn c.f) xs h) (callFnA Tryz.prog c.f xs h (fun _ _ _=>.fail) 1000) = _
  rw [hn]
  exact h1
theorem tIv_nodup (n : Cn Tryz.prog) (hf : n.f = 313) (hfl : n.flat = false) : ((tIv n hf hfl).map Cn.f).Nodup:=by
  show ([171,263,264,319,107,177,217] : List Nat).Nodup
  decide
theorem callW_gov {l : List (Cn Tryz.prog)} (hl : (l.map Cn.f).Nodup) (i : Nat) {c : Cn Tryz.prog} (hc : l[i]? = some c) (hn : Nat.beq c.f 329 = false) (a : c.α) (hok : c.ok a) {xs : AV} {h : Heap} (hbor : BorOK h xs:=by repeat' first | exact trivial | refine ⟨?_,?_⟩) (hxs : c.as a = borV c.flat h xs:=by rfl) {v : AV} (hv : c.v a = v) {K : AV → Heap → Prop}
    (hk : K v (match c.flat with | true=>h | false=>frz h (lent xs))) : ∃ v h',callW l (.fn c.f) xs h = .ret v h'∧K v h':=callW_go hl i hc hn a hok hbor hxs (by rw [hv]; exact hk)
theorem ax_wh : ∀ n ∈ axL6,Wh3 1 n:=by
  intro n hn
  simp only [axL6,List.mem_cons,List.not_mem_nil,or_false] at hn
  rcases hn with rfl | rfl | rfl | rfl | rfl | rfl <;> exact ⟨⟨rfl,by decide⟩,⟨rfl,by decide⟩,⟨rfl,by decide⟩⟩
theorem isz_ok (d : Q3) (hd : d ∈ axL6) : (Cn.lift tb1 n_VIsZero).ok d:=by
  obtain ⟨h1,h2,h3⟩:=ax_wh d hd
  exact ⟨h1.cmp (Wh.zero 0) (by decide) (by decide),h2.cmp (Wh.zero 0) (by decide) (by decide),h3.cmp (Wh.zero 0) (by decide) (by decide)⟩
theorem dot_ok (n d : Q3) (hn : n ∈ axL6) (hd : d ∈ axL6) : (Cn.lift tb1 n_VDot).ok (n,d):=(Wh3.dot (ax_wh n hn) (ax_wh d hd) (by decide)).1
theorem div_ok1 {q : Q} (h : Wh 100000000 q) : (Cn.lift tb1 n_RDiv).ok (q,(1,0)):=div_ok h (by decide) (.inl rfl)
theorem div_ok2 {q : Q} (h : Wh 100000000 q) : (Cn.lift tb1 n_RDiv).ok (q,(-1,0)):=div_ok h (by decide) (.inr rfl)
theorem cmp_ok2 {p q : Q} (hp : Wh 100000000 p) (hq : Wh 100000000 q) : (Cn.lift tb1 n_RCompare).ok (Q.div p (1,0),Q.div q (-1,0)):=div_cmp hp hq (by decide)
theorem Bx.l_wh {b : Bx} (h : b.ok) : ∀ v ∈ b.l,Wh3 1000000 v:=by
  obtain ⟨h1,h2,h3,h4,h5,h6⟩:=h
  have w : ∀ {z : Int},z.natAbs < 1000000 → Wh 1000000 (z,0):=fun h=>⟨rfl,Nat.le_of_lt h⟩
  intro v hv
  simp only [Bx.l,List.mem_cons,List.not_mem_nil,or_false] at hv
  rcases hv with rfl | rfl | rfl | rfl | rfl | rfl | rfl | rfl
  · exact ⟨w h1,w h2,w h3⟩
  · exact ⟨w h1,w h2,w h6⟩
  · exact ⟨w h1,w h5,w h3⟩
  · exact ⟨w h1,w h5,w h6⟩
  · exact ⟨w h4,w h2,w h3⟩
  · exact ⟨w h4,w h2,w h6⟩
  · exact ⟨w h4,w h5,w h3⟩
  · exact ⟨w h4,w h5,w h6⟩
theorem bx_gap {a b : Bx} (ha : a.ok) (hb : b.ok) (n : Q3) (hn : n ∈ axL6) : GapOK a.sh b.sh n∧Wh 100000000 (gapQ a.sh b.sh n):=by
  obtain ⟨h1,h2⟩:=gap_wh (a:=a.sh) (b:=b.sh) (ax_wh n hn) (K:=1000000) (by decide) (Bx.l_wh ha) (Bx.l_wh hb) (by show 8 ≤ 4294967296; decide) (by show 8 ≤ 4294967296; decide)
  exact ⟨h1,h2.mono (by decide)⟩
noncomputable def ivZero : AV:=.tup (.cons (eRat.v (0,0)) (.cons (eRat.v (0,0)) (.cons (.bool false) (.cons (.int .i64 0) .nil))))
noncomputable def ivSome (f t : Q) : AV:=.tup (.cons (eRat.v f) (.cons (eRat.v t) (.cons (.bool true) (.cons (.int .i64 0) .nil))))
noncomputable def ivVal (g : Q3 → Q) (d nd : Q3) (p m : Q) (os : List Q3) : AV :=
  match os.any (fun o=>ile 0 (g o).1.sign) with
  | true=>ivZero
  | false=>(match ile 0 (Q.cmp (Q.div (g d) p) (Q.div (g nd) m)) with
    | true=>ivZero
    | false=>ivSome (Q.div (g d) p) (Q.div (g nd) m))
theorem ivZero_pure : PureV ivZero:=.tup (.cons (eRat.pureV _) (.cons (eRat.pureV _) (.cons .bool (.cons .int .nil))))
theorem ivSome_pure (f t : Q) : PureV (ivSome f t):=.tup (.cons (eRat.pureV _) (.cons (eRat.pureV _) (.cons .bool (.cons .int .nil))))
theorem ivVal_any {g : Q3 → Q} {d nd : Q3} {p m : Q} {os : List Q3} {o : Q3} (ho : o ∈ os) (h : ile 0 (g o).1.sign = true) : ivVal g d nd p m os = ivZero:=by
  unfold ivVal
  rw [show os.any (fun o=>ile 0 (g o).1.sign) = true from List.any_eq_true.2 ⟨o,ho,h⟩]
theorem ivVal_no {g : Q3 → Q} {d nd : Q3} {p m : Q} {os : List Q3} (ho : os.any (fun o=>ile 0 (g o).1.sign) = false) (h : ile 0 (Q.cmp (Q.div (g d) p) (Q.div (g nd) m)) = true) : ivVal g d nd p m os = ivZero:=by
  unfold ivVal
  rw [ho,h]
theorem ivVal_yes {g : Q3 → Q} {d nd : Q3} {p m : Q} {os : List Q3} (ho : os.any (fun o=>ile 0 (g o).1.sign) = false) (h : ile 0 (Q.cmp (Q.div (g d) p) (Q.div (g nd) m)) = false) : ivVal g d nd p m os = ivSome (Q.div (g d) p) (Q.div (g nd) m):=by
  unfold ivVal
  rw [ho,h]
end Go.Sy
