/- The contracts of integers and rationals, as a table for the evaluator. -/
import Derived.Test.YtemoafmennfhhaaGreatDoorSyR3
import Derived.Test.YtemoafmennfhhaaGreatDoorSyDec
namespace Go.Sy
open Go.RowKit Go.Proofs
set_option linter.unusedVariables false
set_option linter.unusedSimpArgs false
set_option maxRecDepth 1000000
set_option maxHeartbeats 0
attribute [local instance] tb0
noncomputable section
def lieq : List Int → List Int → Bool:=List.rec (fun m=>match m with | []=>true | _=>false) (fun x _ ih m=>match m with | y::t=>band (ieq x y) (ih t) | []=>false)
theorem lieq_ok : ∀ {l m : List Int},lieq l m = true → l = m
  | [],[],_=>rfl
  | [],_::_,h=>by cases h
  | _::_,[],h=>by cases h
  | x::l,y::m,h=>by
    obtain ⟨h1,h2⟩:=band_iff.1 (h : band (ieq x y) (lieq l m) = true)
    rw [ieq_iff.1 h1,lieq_ok h2]
def rMag : eMag.Rd:=(rInt .u32).list.by (fun l=>bB (lieq (dg (val l)) l) (some (val l))) (fun a b h=>by
  obtain ⟨h1,h2⟩:=bB_some h
  cases h2
  exact lieq_ok h1)
def rBig : eBig.Rd:=(rBool.pair rMag).by (fun p=>bB (Bool.rec (motive:=fun _=>Bool) true (bnot (Nat.beq p.2 0)) p.1) (some (sgn p.1 p.2))) (fun a b h=>by
  obtain ⟨s,m⟩:=a
  obtain ⟨h1,h2⟩:=bB_some h
  cases h2
  cases s with
  | false=>show (decide (((m : Nat) : Int) < 0),(((m : Nat) : Int)).natAbs) = _; rw [decide_eq_false (by omega)]; rfl
  | true =>
    have h1 : bnot (Nat.beq m 0) = true:=h1
    have : m ≠ 0:=fun e=>by rw [e] at h1; cases h1
    show (decide (-((m : Nat) : Int) < 0),(-((m : Nat) : Int)).natAbs) = _
    rw [decide_eq_true (by omega),Int.natAbs_neg]; rfl)
def rRat : eRat.Rd:=rBig.pair rBig
def szB (z : Int) : Bool:=Nat.ble (Nat.succ (nd z.natAbs)) 134217728
def shB (z : Int) : Bool:=Nat.ble (Nat.succ (nd z.natAbs)) 67108864
theorem szB_ok {z : Int} (h : szB z = true) : SZ z:=Nat.le_of_ble_eq_true h
theorem shB_ok {z : Int} (h : shB z = true) : SH z:=Nat.le_of_ble_eq_true h
def bor2 (a b : Bool) : Bool:=Bool.rec (motive:=fun _=>Bool) b true a
theorem bor2_iff {a b : Bool} : bor2 a b = true ↔ a = true ∨ b = true:=by cases a <;> cases b <;> simp [bor2]
def oneB (z : Int) : Bool:=Nat.ble (Nat.succ z.natAbs) 4294967296
theorem oneB_ok {z : Int} (h : oneB z = true) : z.natAbs < 4294967296:=Nat.le_of_ble_eq_true h
def d_Sign : Dc Tryz.prog:=⟨n_Sign,dec1 rBig,fun _=>true,fun _ _ h=>dec1_ok h,fun _ _=>trivial⟩
def d_Neg : Dc Tryz.prog:=⟨n_Neg,dec1 rBig,fun _=>true,fun _ _ h=>dec1_ok h,fun _ _=>trivial⟩
def d_Compare : Dc Tryz.prog:=⟨n_Compare,dec2 rBig rBig,fun a=>band (szB a.1) (szB a.2),fun _ _ h=>dec2_ok h,fun _ h=>⟨szB_ok (band_iff.1 h).1,szB_ok (band_iff.1 h).2⟩⟩
def d_Add : Dc Tryz.prog:=⟨n_Add,dec2 rBig rBig,fun a=>band (szB a.1) (szB a.2),fun _ _ h=>dec2_ok h,fun _ h=>⟨szB_ok (band_iff.1 h).1,szB_ok (band_iff.1 h).2⟩⟩
def d_Sub : Dc Tryz.prog:=⟨n_Sub,dec2 rBig rBig,fun a=>band (szB a.1) (szB a.2),fun _ _ h=>dec2_ok h,fun _ h=>⟨szB_ok (band_iff.1 h).1,szB_ok (band_iff.1 h).2⟩⟩
def d_Mul : Dc Tryz.prog:=⟨n_Mul,dec2 rBig rBig,fun a=>band (shB a.1) (shB a.2),fun _ _ h=>dec2_ok h,fun _ h=>⟨shB_ok (band_iff.1 h).1,shB_ok (band_iff.1 h).2⟩⟩
def d_From : Dc Tryz.prog:=⟨n_From,dec1 (rInt .i64),fun n=>band (ile (-9223372036854775808) n) (ilt n 9223372036854775808),fun _ _ h=>dec1_ok h,fun _ h=>⟨ile_iff.1 (band_iff.1 h).1,ilt_iff.1 (band_iff.1 h).2⟩⟩
def d_Gcd : Dc Tryz.prog:=⟨n_Gcd,dec2 rBig rBig,fun a=>band (band (szB a.1) (szB a.2)) (bor2 (oneB a.2) (oneB a.1)),fun _ _ h=>dec2_ok h,fun _ h =>
  ⟨szB_ok (band_iff.1 (band_iff.1 h).1).1,szB_ok (band_iff.1 (band_iff.1 h).1).2,(bor2_iff.1 (band_iff.1 h).2).imp oneB_ok oneB_ok⟩⟩
def ltB (a b : Int) : Bool:=Nat.ble (Nat.succ a.natAbs) b.natAbs
theorem ltB_ok {a b : Int} (h : ltB a b = true) : a.natAbs < b.natAbs:=Nat.le_of_ble_eq_true h
def d_DivMod : Dc Tryz.prog:=⟨n_DivMod,dec2 rBig rBig,fun a=>band (band (szB a.1) (szB a.2)) (bor2 (ltB a.1 a.2) (oneB a.2)),fun _ _ h=>dec2_ok h,fun _ h =>
  ⟨szB_ok (band_iff.1 (band_iff.1 h).1).1,szB_ok (band_iff.1 (band_iff.1 h).1).2,.inr ((bor2_iff.1 (band_iff.1 h).2).imp ltB_ok oneB_ok)⟩⟩
def redB (n d : Int) : Bool:=band (band (szB n) (szB d)) (band (bnot (ieq d 0)) (bor2 (oneB d) (band (oneB n) (bnot (ieq n 0)))))
theorem redB_ok {n d : Int} (h : redB n d = true) : RedOK n d:=by
  obtain ⟨h1,h2⟩:=band_iff.1 h
  obtain ⟨h3,h4⟩:=band_iff.1 h1
  obtain ⟨h5,h6⟩:=band_iff.1 h2
  refine ⟨szB_ok h3,szB_ok h4,ine_iff.1 h5,?_⟩
  rcases bor2_iff.1 h6 with h7 | h7
  · exact .inl (oneB_ok h7)
  · exact .inr ⟨oneB_ok (band_iff.1 h7).1,ine_iff.1 (band_iff.1 h7).2⟩
def d_reduced : Dc Tryz.prog:=⟨n_reduced,dec2 rBig rBig,fun a=>redB a.1 a.2,fun _ _ h=>dec2_ok h,fun _ h=>redB_ok h⟩
def sh4 (p q : Q) : Bool:=band (band (shB p.1) (shB p.2)) (band (shB q.1) (shB q.2))
def whB (q : Q) : Bool:=bor2 (ieq q.2 0) (ieq q.2 1)
theorem whB_ok {q : Q} : whB q = Q.whole q:=by
  unfold whB Q.whole
  rw [ieq_dec,ieq_dec]
  by_cases h1 : q.2 = 0
  · rw [decide_eq_true h1,decide_eq_true (Or.inl h1)]; rfl
  · by_cases h2 : q.2 = 1
    · rw [decide_eq_false h1,decide_eq_true h2,decide_eq_true (Or.inr h2)]; rfl
    · rw [decide_eq_false h1,decide_eq_false h2,decide_eq_false (fun h=>h.elim h1 h2)]; rfl
theorem sh4_ok {p q : Q} {R : Q → Q → Prop} (h : sh4 p q = true) (hr : R p q) : OK2 R p q:=by
  obtain ⟨h1,h2⟩:=band_iff.1 h
  exact ⟨shB_ok (band_iff.1 h1).1,shB_ok (band_iff.1 h1).2,shB_ok (band_iff.1 h2).1,shB_ok (band_iff.1 h2).2,hr⟩
theorem cmp_ok {p q : Q} (h : sh4 p q = true) : CmpOK p q:=sh4_ok (R:=fun _ _=>True) h trivial
def d_RCompare : Dc Tryz.prog:=⟨n_RCompare,dec2 rRat rRat,fun a=>sh4 a.1 a.2,fun _ _ h=>dec2_ok h,fun _ h=>cmp_ok h⟩
def d_RNeg : Dc Tryz.prog:=⟨n_RNeg,dec1 rRat,fun _=>true,fun _ _ h=>dec1_ok h,fun _ _=>trivial⟩
theorem w2_ok {p q : Q} {b : Bool} {X : Prop} (h : bor2 (band (whB p) (whB q)) b = true) (hb : b = true → X) : (Q.whole p && Q.whole q) = false → X:=by
  intro hw
  rcases bor2_iff.1 h with h | h
  · obtain ⟨h1,h2⟩:=band_iff.1 h
    rw [whB_ok] at h1 h2
    rw [h1,h2] at hw
    cases hw
  · exact hb h
def addB (p q : Q) : Bool:=band (sh4 p q) (bor2 (band (whB p) (whB q)) (redB (p.1 * Q.dn q + q.1 * Q.dn p) (Q.dn p * Q.dn q)))
theorem addB_ok {p q : Q} (h : addB p q = true) : AddOK p q:=sh4_ok (R:=fun p q=>(Q.whole p && Q.whole q) = false → RedOK (p.1 * Q.dn q + q.1 * Q.dn p) (Q.dn p * Q.dn q)) (band_iff.1 h).1 (w2_ok (band_iff.1 h).2 redB_ok)
def mulB (p q : Q) : Bool:=band (sh4 p q) (bor2 (band (whB p) (whB q)) (redB (p.1 * q.1) (Q.dn p * Q.dn q)))
theorem mulB_ok {p q : Q} (h : mulB p q = true) : MulOK p q:=sh4_ok (R:=fun p q=>(Q.whole p && Q.whole q) = false → RedOK (p.1 * q.1) (Q.dn p * Q.dn q)) (band_iff.1 h).1 (w2_ok (band_iff.1 h).2 redB_ok)
def d_RAdd : Dc Tryz.prog:=⟨n_RAdd,dec2 rRat rRat,fun a=>addB a.1 a.2,fun _ _ h=>dec2_ok h,fun _ h=>addB_ok h⟩
def d_RMul : Dc Tryz.prog:=⟨n_RMul,dec2 rRat rRat,fun a=>mulB a.1 a.2,fun _ _ h=>dec2_ok h,fun _ h=>mulB_ok h⟩
def d_RSign : Dc Tryz.prog:=⟨n_RSign,dec1 rRat,fun _=>true,fun _ _ h=>dec1_ok h,fun _ _=>trivial⟩
def d_RFrom : Dc Tryz.prog:=⟨n_RFrom,dec1 (rInt .i64),fun n=>band (ile (-9223372036854775808) n) (ilt n 9223372036854775808),fun _ _ h=>dec1_ok h,fun _ h=>⟨ile_iff.1 (band_iff.1 h).1,ilt_iff.1 (band_iff.1 h).2⟩⟩
def d_whole : Dc Tryz.prog:=⟨n_whole,dec1 rRat,fun a=>szB a.2,fun _ _ h=>dec1_ok h,fun _ h=>szB_ok h⟩
def d_Den : Dc Tryz.prog:=⟨n_Den,dec1 rRat,fun _=>true,fun _ _ h=>dec1_ok h,fun _ _=>trivial⟩
def dcRat : List (Dc Tryz.prog):=[d_Sign,d_Neg,d_Compare,d_Add,d_Sub,d_Mul,d_From,d_Gcd,d_DivMod,d_reduced,d_RCompare,d_RNeg,d_RAdd,d_RMul,d_RSign,d_RFrom,d_whole,d_Den]
end
end Go.Sy
namespace Go.Sy
open Go.RowKit Go.Proofs
set_option linter.unusedVariables false
set_option maxRecDepth 1000000
set_option maxHeartbeats 0
attribute [local instance] tb0
noncomputable section
def rV3 : eV3.Rd:=(rInt .i64).pair ((rInt .i64).pair (rInt .i64))
def d_sub : Dc Tryz.prog:=⟨n_sub,dec2 rV3 rV3,fun _=>true,fun _ _ h=>dec2_ok h,fun _ _=>trivial⟩
def d_dot : Dc Tryz.prog:=⟨n_dot,dec2 rV3 rV3,fun _=>true,fun _ _ h=>dec2_ok h,fun _ _=>trivial⟩
def d_cross : Dc Tryz.prog:=⟨n_cross,dec2 rV3 rV3,fun _=>true,fun _ _ h=>dec2_ok h,fun _ _=>trivial⟩
def natI (a : AV) : Option Nat:=match a with | .int .i64 (.ofNat n)=>some n | _=>none
theorem natI_ok {a : AV} {n : Nat} (h : natI a = some n) : (eInt .i64).v (n : Int) = a:=by
  unfold natI at h
  split at h
  · cases h; rfl
  · cases h
def decSide (l : AV) : Option (List V3 × Nat × Nat × Nat):=match l with
  | .cons a (.cons b (.cons c (.cons d .nil)))=>oB (rV3.list.v a) fun x=>oB (natI b) fun i=>oB (natI c) fun j=>oB (natI d) fun k=>some (x,i,j,k)
  | _=>none
theorem decSide_ok {l : AV} {a : List V3 × Nat × Nat × Nat} (h : decSide l = some a) : AV.cons (eV3.list.v a.1) (.cons ((eInt .i64).v a.2.1) (.cons ((eInt .i64).v a.2.2.1) (.cons ((eInt .i64).v a.2.2.2) .nil))) = l:=by
  unfold decSide at h
  split at h
  · obtain ⟨x,h1,h⟩:=oB_some h
    obtain ⟨i,h2,h⟩:=oB_some h
    obtain ⟨j,h3,h⟩:=oB_some h
    obtain ⟨k,h4,h⟩:=oB_some h
    cases h
    rw [rV3.list.v_ok h1,natI_ok h2,natI_ok h3,natI_ok h4]
  · cases h
def ltN (a b : Nat) : Bool:=Nat.ble (Nat.succ a) b
def d_side : Dc Tryz.prog:=⟨n_side,decSide,fun a=>band (Nat.ble a.1.length 4294967296) (band (ltN a.2.1 a.1.length) (band (ltN a.2.2.1 a.1.length) (ltN a.2.2.2 a.1.length))),fun _ _ h=>decSide_ok h,fun _ h=>by
  obtain ⟨h1,h⟩:=band_iff.1 h
  obtain ⟨h2,h⟩:=band_iff.1 h
  obtain ⟨h3,h4⟩:=band_iff.1 h
  exact ⟨Nat.le_of_ble_eq_true h1,Nat.le_of_ble_eq_true h2,Nat.le_of_ble_eq_true h3,Nat.le_of_ble_eq_true h4⟩⟩
def dcCell : List (Dc Tryz.prog):=[d_sub,d_dot,d_cross,d_side]
end
end Go.Sy
