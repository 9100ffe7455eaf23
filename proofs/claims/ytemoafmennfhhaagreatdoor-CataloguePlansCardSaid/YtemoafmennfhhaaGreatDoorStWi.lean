/- sweep.Witness of boxes, by kind and scale: how the tables are told. -/
import Derived.Test.YtemoafmennfhhaaGreatDoorStGr
namespace Go.Sy
open Go.RowKit Go.Proofs
set_option linter.unusedVariables false
set_option maxRecDepth 1000000
set_option maxHeartbeats 0
noncomputable section
abbrev B6:=Int × Int × Int × Int × Int × Int
abbrev Q6:=Nat × Nat × Nat × Nat × Nat × Nat
def witCells (s : Int) (l : List B6) : AV:=List.rec (motive:=fun _=>AV) .nil (fun b _ r=>.cons (.ro 8 (qz (bxL (s * b.1) (s * b.2.1) (s * b.2.2.1) (s * b.2.2.2.1) (s * b.2.2.2.2.1) (s * b.2.2.2.2.2)) .nil))
  (.cons (bxF 0 0 0 0 0 0 (s * b.1) (s * b.2.1) (s * b.2.2.1) (s * b.2.2.2.1) (s * b.2.2.2.2.1) (s * b.2.2.2.2.2)) (.cons bxE r))) l
def witSol (s : Int) (l : List B6) : AV:=.agg (.cons (.int .i64 1) (.cons (.ro l.length (witCells s l)) .nil))
def digs (n : Nat) : List Nat:=Bool.rec (motive:=fun _=>List Nat) (Bool.rec (motive:=fun _=>List Nat) [48 + n / 100,48 + n / 10 % 10,48 + n % 10] [48 + n / 10,48 + n % 10] (Nat.ble n 99)) [48 + n] (Nat.ble n 9)
def halfT (n : Nat) : List Nat:=Bool.rec (motive:=fun _=>List Nat) (digs n++[47,50]) (digs (n / 2)) (Nat.beq (n % 2) 0)
def witRes (c d n : Nat) : AV:=Bool.rec (motive:=fun _=>AV)
  (.tup (.cons (.agg (.cons (.int .i64 0) (.cons (.int .i64 0) (.cons (.int .i64 c) (.cons (.int .i64 d) (.cons (.str (halfT n)) .nil)))))) (.cons (.bool true) (.cons (.int .i64 0) .nil))))
  (.tup (.cons (.agg (.cons (.int .i64 0) (.cons (.int .i64 0) (.cons (.int .i64 0) (.cons (.int .i64 0) (.cons (.str []) .nil)))))) (.cons (.bool false) (.cons (.int .i64 0) .nil)))) (Nat.beq n 0)
def wNth (l : List (List B6)) (i : Nat) : List B6:=Nat.rec (motive:=fun _=>List (List B6) → List B6) (fun l=>List.rec (motive:=fun _=>List B6) [] (fun x _ _=>x) l) (fun _ ih l=>ih (List.rec (motive:=fun _=>List (List B6)) [] (fun _ r _=>r) l)) i l
def witE (S : List (List B6)) (s : Nat) (q : Q6) : AV × AV :=
  (.cons (witSol s (wNth S q.1)) (.cons (witSol s (wNth S q.2.1)) (.cons (axAV q.2.2.1) (.cons (.int .i64 1) .nil))),witRes q.2.2.2.1 q.2.2.2.2.1 (s * q.2.2.2.2.2))
def wiT (S : List (List B6)) (s : Nat) (l : List Q6) : List (AV × AV):=List.rec (motive:=fun _=>List (AV × AV)) [] (fun q _ r=>witE S s q::r) l
end
noncomputable def stCd : List (AV × AV):=[
  ((.cons (.agg (.cons (.str [49]) (.cons (.str [48]) (.cons (.str [48]) .nil)))) .nil),(.int .i64 0)),
  ((.cons (.agg (.cons (.str [45,49]) (.cons (.str [48]) (.cons (.str [48]) .nil)))) .nil),(.int .i64 0)),
  ((.cons (.agg (.cons (.str [48]) (.cons (.str [49]) (.cons (.str [48]) .nil)))) .nil),(.int .i64 0)),
  ((.cons (.agg (.cons (.str [48]) (.cons (.str [45,49]) (.cons (.str [48]) .nil)))) .nil),(.int .i64 0)),
  ((.cons (.agg (.cons (.str [48]) (.cons (.str [48]) (.cons (.str [49]) .nil)))) .nil),(.int .i64 0)),
  ((.cons (.agg (.cons (.str [48]) (.cons (.str [48]) (.cons (.str [45,49]) .nil)))) .nil),(.int .i64 0))]
theorem stranCd : ranAll Tryz.prog (ovL stdc1) 115 stCd = true:=by decide +kernel
noncomputable def stPa : List (AV × AV):=[
  ((.cons (.agg (.cons (.str [49]) (.cons (.str [48]) (.cons (.str [48]) .nil)))) .nil),(.tup (.cons (.agg (qz [1,0,0] .nil)) (.cons (.int .i64 0) .nil)))),
  ((.cons (.agg (.cons (.str [45,49]) (.cons (.str [48]) (.cons (.str [48]) .nil)))) .nil),(.tup (.cons (.agg (qz [-1,0,0] .nil)) (.cons (.int .i64 0) .nil)))),
  ((.cons (.agg (.cons (.str [48]) (.cons (.str [49]) (.cons (.str [48]) .nil)))) .nil),(.tup (.cons (.agg (qz [0,1,0] .nil)) (.cons (.int .i64 0) .nil)))),
  ((.cons (.agg (.cons (.str [48]) (.cons (.str [45,49]) (.cons (.str [48]) .nil)))) .nil),(.tup (.cons (.agg (qz [0,-1,0] .nil)) (.cons (.int .i64 0) .nil)))),
  ((.cons (.agg (.cons (.str [48]) (.cons (.str [48]) (.cons (.str [49]) .nil)))) .nil),(.tup (.cons (.agg (qz [0,0,1] .nil)) (.cons (.int .i64 0) .nil)))),
  ((.cons (.agg (.cons (.str [48]) (.cons (.str [48]) (.cons (.str [45,49]) .nil)))) .nil),(.tup (.cons (.agg (qz [0,0,-1] .nil)) (.cons (.int .i64 0) .nil))))]
theorem stranPa : ranAll Tryz.prog (ovL stdc1) 116 stPa = true:=by decide +kernel
noncomputable def stdCd : Dc Tryz.prog:=Dc.memo 115 stCd (ranAll_ok p_mixed p_callable (ovL_ok stdc1) (by decide) stranCd) (hasbody rfl rfl)
noncomputable def stdPa : Dc Tryz.prog:=Dc.memo 116 stPa (ranAll_ok p_mixed p_callable (ovL_ok stdc1) (by decide) stranPa) (hasbody rfl rfl)
abbrev RanW (L : List (Dc Tryz.prog)) (l : List (AV × AV)) : Prop:=ranAll Tryz.prog (ovL L) 119 l = true
theorem wiT_app (S : List (List B6)) (s : Nat) (a b : List Q6) : wiT S s (a++b) = wiT S s a++wiT S s b:=by
  induction a with
  | nil=>rfl
  | cons q a ih=>exact congrArg (witE S s q::·) ih
theorem ranW_app {L : List (Dc Tryz.prog)} {S : List (List B6)} {s : Nat} {a b : List Q6} (ha : RanW L (wiT S s a)) (hb : RanW L (wiT S s b)) : RanW L (wiT S s (a++b)):=by
  show ranAll _ _ _ _ = true
  rw [wiT_app]
  exact ranAll_app ha hb
theorem wiT_mem {S : List (List B6)} {s : Nat} {q : Q6} : ∀ {l : List Q6},q ∈ l → witE S s q ∈ wiT S s l
  | x::l,h=>by
    rcases List.mem_cons.1 h with rfl | h
    · exact List.mem_cons_self
    · exact List.mem_cons_of_mem _ (wiT_mem h)
noncomputable def qHit (t : Nat × Nat × Nat) (q : Q6) : Bool:=band (Nat.beq q.1 t.1) (band (Nat.beq q.2.1 t.2.1) (Nat.beq q.2.2.1 t.2.2))
noncomputable def qFind (l : List Q6) (t : Nat × Nat × Nat) : Option Q6:=List.rec (motive:=fun _=>Option Q6) none (fun q _ r=>Bool.rec (motive:=fun _=>Option Q6) r (some q) (qHit t q)) l
theorem qFind_ok : ∀ {l : List Q6} {t : Nat × Nat × Nat} {q : Q6},qFind l t = some q → q ∈ l∧q.1 = t.1∧q.2.1 = t.2.1∧q.2.2.1 = t.2.2
  | [],t,q,h=>by cases h
  | x::l,t,q,h=>by
    change Bool.rec (motive:=fun _=>Option Q6) (qFind l t) (some x) (qHit t x) = some q at h
    cases hx : qHit t x with
    | true =>
      rw [hx] at h
      cases h
      obtain ⟨h1,h2⟩:=band_iff.1 hx
      obtain ⟨h2,h3⟩:=band_iff.1 h2
      exact ⟨List.mem_cons_self,Nat.eq_of_beq_eq_true h1,Nat.eq_of_beq_eq_true h2,Nat.eq_of_beq_eq_true h3⟩
    | false =>
      rw [hx] at h
      obtain ⟨h1,h2⟩:=qFind_ok (h : qFind l t = some q)
      exact ⟨List.mem_cons_of_mem _ h1,h2⟩
noncomputable def sFind (s : Nat) (S : List (List B6)) : AV → Nat → Option Nat:=List.rec (motive:=fun _=>AV → Nat → Option Nat) (fun _ _=>none) (fun x _ ih A i=>Bool.rec (motive:=fun _=>Option Nat) (ih A (Nat.succ i)) (some i) (aeq (witSol s x) A)) S
theorem sFind_ok {s : Nat} : ∀ {S : List (List B6)} {A : AV} {i j : Nat},sFind s S A i = some j → ∃ k,j = i + k∧k < S.length∧witSol s (wNth S k) = A
  | [],A,i,j,h=>by cases h
  | x::S,A,i,j,h=>by
    change Bool.rec (motive:=fun _=>Option Nat) (sFind s S A (Nat.succ i)) (some i) (aeq (witSol s x) A) = some j at h
    cases hx : aeq (witSol s x) A with
    | true=>rw [hx] at h; cases h; exact ⟨0,rfl,Nat.succ_pos _,aeq_eq hx⟩
    | false =>
      rw [hx] at h
      obtain ⟨k,h1,h2,h3⟩:=sFind_ok (h : sFind s S A (Nat.succ i) = some j)
      exact ⟨k + 1,by omega,by simpa using h2,h3⟩
noncomputable def allTo (p : Nat → Bool) (n : Nat) : Bool:=Nat.rec (motive:=fun _=>Bool) true (fun i ih=>band (p i) ih) n
theorem allTo_ok {p : Nat → Bool} : ∀ {n : Nat},allTo p n = true → ∀ i,i < n → p i = true
  | n + 1,h,i,hi=>by
    obtain ⟨h1,h2⟩:=band_iff.1 (show band (p n) (allTo p n) = true from h)
    rcases Nat.lt_succ_iff_lt_or_eq.1 hi with hi | rfl
    · exact allTo_ok h2 i hi
    · exact h1
noncomputable def solsB (s : Nat) (S : List (List B6)) : Bool:=allTo (fun i=>match sFind s S (witSol s (wNth S i)) 0 with | some j=>Nat.beq i j | none=>false) S.length
theorem solsB_inj {s : Nat} {S : List (List B6)} (h : solsB s S = true) {i j : Nat} (hi : i < S.length) (hj : j < S.length) (e : witSol s (wNth S i) = witSol s (wNth S j)) : i = j:=by
  have h1:=allTo_ok h i hi
  have h2:=allTo_ok h j hj
  simp only [e] at h1
  split at h1
  · rename_i k hk
    simp only [hk] at h2
    exact (Nat.eq_of_beq_eq_true h1).trans (Nat.eq_of_beq_eq_true h2).symm
  · cases h1
theorem axAV_inj {i j : Nat} (hi : i < 6) (hj : j < 6) (e : axAV i = axAV j) : i = j:=by
  rw [← axAV_eq hi,← axAV_eq hj] at e
  exact axAt_inj _ hi _ hj (eQ3.v_inj e)
noncomputable section
variable (S : List (List B6)) (s : Nat) (l : List Q6) (L : List (Dc Tryz.prog)) (hS : solsB s S = true) (h : RanW L (wiT S s l))
def witA (t : Nat × Nat × Nat) : AV:=match qFind l t with | some q=>(witE S s q).1 | none=>.nil
def witV (t : Nat × Nat × Nat) : AV:=match qFind l t with | some q=>(witE S s q).2 | none=>.nil
include h in
theorem wit_dp (t : Nat × Nat × Nat) : DP (witA S s l t)∧DP (witV S s l t):=by
  unfold witA witV
  cases hq : qFind l t with
  | none=>exact ⟨trivial,trivial⟩
  | some q=>exact (ranAll_ok p_mixed p_callable (ovL_ok L) (by decide) h _ (wiT_mem (qFind_ok hq).1)).2
def n_Wit : Cn Tryz.prog :=
  Cn.mk 119 false (Nat × Nat × Nat) (witA S s l) (witV S s l) (fun t=>(∃ q,qFind l t = some q)∧t.1 < S.length∧t.2.1 < S.length∧t.2.2 < 6)
    (fun t u ht hu e=>by
      obtain ⟨⟨q,hq⟩,h1,h2,h3⟩:=ht
      obtain ⟨⟨r,hr⟩,g1,g2,g3⟩:=hu
      obtain ⟨_,a1,a2,a3⟩:=qFind_ok hq
      obtain ⟨_,b1,b2,b3⟩:=qFind_ok hr
      simp only [witA,hq,hr,witE] at e
      injection e with e1 e
      injection e with e2 e
      injection e with e3 _
      rw [a1,b1] at e1
      rw [a2,b2] at e2
      rw [a3,b3] at e3
      have : t = u:=Prod.ext (solsB_inj hS h1 g1 e1) (Prod.ext (solsB_inj hS h2 g2 e2) (axAV_inj h3 g3 e3))
      rw [this])
    (fun t=>(wit_dp S s l L h t).1) (fun t=>PureV_of_DP (wit_dp S s l L h t).2) (fun h=>by cases h)
    (fun t ht=>by
      obtain ⟨⟨q,hq⟩,_⟩:=ht
      have:=(ranAll_ok p_mixed p_callable (ovL_ok L) (by decide) h _ (wiT_mem (qFind_ok hq).1)).1
      simpa only [witA,witV,hq] using this) (hasbody rfl rfl)
def d_Wit : Dc Tryz.prog:=Dc.mk (n_Wit S s l L hS h)
  (fun x=>match x with | .cons A (.cons B (.cons D (.cons K .nil)))=>oB (sFind s S A 0) fun i=>oB (sFind s S B 0) fun j=>oB (axGet D) fun k=>oB (qFind l (i,j,k)) fun q=>bB (aeq (.int .i64 1) K) (some (i,j,k)) | _=>none)
  (fun t=>band (match qFind l t with | some _=>true | none=>false) (band (Nat.ble (Nat.succ t.1) S.length) (band (Nat.ble (Nat.succ t.2.1) S.length) (Nat.ble (Nat.succ t.2.2) 6))))
  (fun x t hx=>by
    split at hx
    · obtain ⟨i,h1,hx⟩:=oB_some hx
      obtain ⟨j,h2,hx⟩:=oB_some hx
      obtain ⟨k,h3,hx⟩:=oB_some hx
      obtain ⟨q,h4,hx⟩:=oB_some hx
      obtain ⟨h5,hx⟩:=bB_some hx
      cases hx
      obtain ⟨i',e1,_,f1⟩:=sFind_ok h1
      obtain ⟨j',e2,_,f2⟩:=sFind_ok h2
      rw [Nat.zero_add] at e1 e2
      subst e1 e2
      obtain ⟨_,a1,a2,a3⟩:=qFind_ok h4
      show witA S s l _ = _
      simp only [witA,h4,witE,a1,a2,a3]
      rw [f1,f2,← axAV_eq (axGet_ok h3).1,(axGet_ok h3).2,aeq_eq h5]
    · cases hx)
  (fun t ht=>by
    obtain ⟨h1,ht⟩:=band_iff.1 ht
    obtain ⟨h2,ht⟩:=band_iff.1 ht
    obtain ⟨h3,h4⟩:=band_iff.1 ht
    refine ⟨?_,Nat.le_of_ble_eq_true h2,Nat.le_of_ble_eq_true h3,Nat.le_of_ble_eq_true h4⟩
    split at h1
    · rename_i q hq
      exact ⟨q,hq⟩
    · cases h1)
def gWit : List (Dc Tryz.prog):=d_Wit S s l L hS h::stdCd::stdPa::L
end
def stS0 : List (List B6):=[[(0,0,1,1,1,2)],[(0,0,0,1,1,1)],[(0,0,2,1,1,3)],[(0,0,3,1,1,4)],[(0,0,4,1,1,5)],[(0,0,5,1,1,6)]]
def stW0_0 : List Q6:=[(0,1,3,0,0,0),(2,1,3,0,0,0),(2,0,3,0,0,0),(3,1,3,0,0,0),(3,0,3,0,0,0),(3,2,3,0,0,0),(4,1,3,0,0,0),(4,0,3,0,0,0),(4,2,3,0,0,0),(4,3,3,0,0,0),(5,1,3,0,0,0),(5,0,3,0,0,0),(5,2,3,0,0,0),(5,3,3,0,0,0),(5,4,3,0,0,0)]
def stS1 : List (List B6):=[[(1,1,-1,2,2,2)],[(0,1,0,1,2,1),(2,1,0,3,2,1),(0,0,0,3,1,1),(0,2,0,3,3,1)],[(0,1,0,1,2,1),(2,1,0,3,2,1),(4,1,0,5,2,1),(0,0,0,5,1,1),(0,2,0,5,3,1)],[(3,1,-1,4,2,2)],[(0,1,0,1,2,1),(2,1,0,3,2,1),(4,1,0,5,2,1),(6,1,0,7,2,1),(0,0,0,7,1,1),(0,2,0,7,3,1)],[(5,1,-1,6,2,2)]]
def stW1_0 : List Q6:=[(0,1,3,0,0,0),(0,2,3,0,0,0),(0,3,3,0,0,0),(3,2,3,0,0,0),(0,4,3,0,0,0),(0,5,3,0,0,0),(3,4,3,0,0,0),(3,5,3,0,0,0),(5,4,3,0,0,0)]
def stS2 : List (List B6):=[[(1,0,1,4,1,2),(2,0,2,3,1,4)],[(0,0,0,5,1,1),(0,0,1,1,1,2),(4,0,1,5,1,2),(0,0,2,2,1,3),(3,0,2,5,1,3)],[(1,1,1,4,2,2),(2,1,2,3,2,4)],[(0,0,0,5,2,1),(0,0,1,1,2,2),(4,0,1,5,2,2),(0,0,2,2,2,3),(3,0,2,5,2,3)],[(1,2,1,4,3,2),(2,2,2,3,3,4)],[(0,0,0,5,3,1),(0,0,1,1,3,2),(4,0,1,5,3,2),(0,0,2,2,3,3),(3,0,2,5,3,3)]]
def stW2_0 : List Q6:=[(0,1,4,0,0,0),(2,3,4,0,0,0),(2,0,4,0,0,0),(0,3,4,0,0,0),(4,5,4,0,0,0)]
def stW2_1 : List Q6:=[(4,0,4,0,0,0),(4,2,4,0,0,0),(2,5,4,0,0,0),(0,5,4,0,0,0)]
def stS3 : List (List B6):=[[(0,0,0,1,5,1),(6,0,0,7,5,1),(1,0,0,6,1,1),(1,4,0,6,5,1)],[(4,2,-2,5,3,3),(10,2,-2,11,3,3),(5,2,-2,10,3,-1),(5,2,2,10,3,3)],[(8,0,0,9,5,1),(14,0,0,15,5,1),(9,0,0,14,1,1),(9,4,0,14,5,1)],[(12,2,-2,13,3,3),(18,2,-2,19,3,3),(13,2,-2,18,3,-1),(13,2,2,18,3,3)]]
def stW3_0 : List Q6:=[(0,1,5,0,0,8),(1,0,5,0,1,4),(0,1,0,1,0,4)]
def stW3_1 : List Q6:=[(1,0,0,0,0,8),(0,1,4,2,0,4),(1,0,4,0,3,4)]
def stW3_2 : List Q6:=[(0,1,1,3,0,4),(1,0,1,0,2,4),(0,1,3,1,3,4)]
def stW3_3 : List Q6:=[(1,0,3,2,1,4),(0,1,2,1,2,4),(1,0,2,3,1,4)]
def stW3_4 : List Q6:=[(0,2,5,0,0,16),(1,2,5,0,0,8),(2,0,5,0,0,0)]
def stW3_5 : List Q6:=[(2,1,5,0,1,4),(0,2,0,0,0,0),(1,2,0,1,0,4)]
def stW3_6 : List Q6:=[(2,0,0,0,0,16),(2,1,0,0,0,8),(0,2,4,0,0,0)]
def stW3_7 : List Q6:=[(1,2,4,1,3,4),(2,0,4,0,0,0),(2,1,4,2,1,4)]
def stW3_8 : List Q6:=[(0,2,1,0,0,0),(1,2,1,1,2,4),(2,0,1,0,0,0)]
def stW3_9 : List Q6:=[(2,1,1,3,1,4),(0,2,3,0,0,0),(1,2,3,2,0,4)]
def stW3_10 : List Q6:=[(2,0,3,0,0,0),(2,1,3,0,3,4),(0,2,2,0,0,0)]
def stW3_11 : List Q6:=[(1,2,2,3,0,4),(2,0,2,0,0,0),(2,1,2,0,2,4)]
def stW3_12 : List Q6:=[(0,3,5,0,0,24),(1,3,5,0,0,16),(2,3,5,0,0,8)]
def stW3_13 : List Q6:=[(3,0,5,0,0,0),(3,1,5,0,0,0),(3,2,5,0,1,4)]
def stW3_14 : List Q6:=[(0,3,0,0,0,0),(1,3,0,0,0,0),(2,3,0,1,0,4)]
def stW3_15 : List Q6:=[(3,0,0,0,0,24),(3,1,0,0,0,16),(3,2,0,0,0,8)]
def stW3_16 : List Q6:=[(0,3,4,0,0,0),(1,3,4,0,0,0),(2,3,4,2,0,4)]
def stW3_17 : List Q6:=[(3,0,4,0,0,0),(3,1,4,0,0,0),(3,2,4,0,3,4)]
def stW3_18 : List Q6:=[(0,3,1,0,0,0),(1,3,1,0,0,0),(2,3,1,3,0,4)]
def stW3_19 : List Q6:=[(3,0,1,0,0,0),(3,1,1,0,0,0),(3,2,1,0,2,4)]
def stW3_20 : List Q6:=[(0,3,3,0,0,0),(1,3,3,0,0,0),(2,3,3,1,3,4)]
def stW3_21 : List Q6:=[(3,0,3,0,0,0),(3,1,3,0,0,0),(3,2,3,2,1,4)]
def stW3_22 : List Q6:=[(0,3,2,0,0,0),(1,3,2,0,0,0),(2,3,2,1,2,4)]
def stW3_23 : List Q6:=[(3,0,2,0,0,0),(3,1,2,0,0,0),(3,2,2,3,1,4)]
def stS4 : List (List B6):=[[(0,0,2,3,3,3)],[(0,0,0,3,3,1),(0,0,1,1,3,2),(2,0,1,3,3,2),(1,0,1,2,1,2),(1,2,1,2,3,2)],[(1,1,1,2,2,2)],[(0,0,2,4,3,3)],[(0,0,0,4,3,1),(0,0,1,1,3,2),(3,0,1,4,3,2),(1,0,1,3,1,2),(1,2,1,3,3,2)],[(2,1,1,3,2,2)],[(0,0,2,5,3,3)],[(0,0,0,5,3,1),(0,0,1,1,3,2),(4,0,1,5,3,2),(1,0,1,4,1,2),(1,2,1,4,3,2)],[(3,1,1,4,2,2)]]
def stW4_0 : List Q6:=[(0,1,3,0,0,0),(0,2,3,0,0,0),(2,1,3,0,0,0),(3,4,3,0,0,0),(3,2,3,0,0,0),(3,5,3,0,0,0),(2,4,3,0,0,0),(2,5,3,0,0,0),(5,4,3,0,0,0),(6,7,3,0,0,0),(6,2,3,0,0,0)]
def stW4_1 : List Q6:=[(6,5,3,0,0,0),(6,8,3,0,0,0),(2,7,3,0,0,0),(2,8,3,0,0,0),(5,7,3,0,0,0),(5,8,3,0,0,0),(8,7,3,0,0,0)]
def stS5 : List (List B6):=[[(1,1,1,2,2,2)],[(0,0,0,1,3,3),(1,0,0,2,3,1),(1,0,2,2,3,3),(1,0,1,2,1,2),(1,2,1,2,3,2)],[(2,1,1,3,2,2)],[(0,0,0,1,3,3),(1,0,0,3,3,1),(1,0,2,3,3,3),(1,0,1,3,1,2),(1,2,1,3,3,2)],[(3,1,1,4,2,2)],[(0,0,0,1,3,3),(1,0,0,4,3,1),(1,0,2,4,3,3),(1,0,1,4,1,2),(1,2,1,4,3,2)],[(4,1,1,5,2,2)],[(0,0,0,1,3,3),(1,0,0,5,3,1),(1,0,2,5,3,3),(1,0,1,5,1,2),(1,2,1,5,3,2)]]
def stW5_0 : List Q6:=[(0,1,5,0,0,0),(2,3,5,0,0,0),(2,0,5,0,0,0),(0,3,5,0,0,0),(4,5,5,0,0,0),(4,0,5,0,0,0),(4,2,5,0,0,0),(2,5,5,0,0,0),(0,5,5,0,0,0)]
def stW5_1 : List Q6:=[(6,7,5,0,0,0),(6,0,5,0,0,0),(6,2,5,0,0,0),(6,4,5,0,0,0),(4,7,5,0,0,0),(2,7,5,0,0,0),(0,7,5,0,0,0)]
end Go.Sy
