/- Contracts whose arguments can be read off: calls that the evaluator need not run. -/
import Derived.Test.YtemoafmennfhhaaGreatDoorSyBig
import Derived.Test.YtemoafmennfhhaaGreatDoorSyCn2
namespace Go.Sy
open Go.RowKit
set_option linter.unusedVariables false
set_option linter.unusedSectionVars false
section
variable [Tabs]
noncomputable section
/-! ### Values,reckoned out -/
def fNat {β : Type} (n : Nat) (k : Nat → β) : β:=Nat.rec (motive:=fun _=>β) (k 0) (fun m _=>k (Nat.succ m)) n
def fInt {β : Type} (z : Int) (k : Int → β) : β:=Int.rec (motive:=fun _=>β) (fun n=>fNat n fun n=>k (.ofNat n)) (fun n=>fNat n fun n=>k (.negSucc n)) z
def fAV {β : Type} (v : AV) : (AV → β) → β :=
  AV.rec (motive:=fun _=>(AV → β) → β) (fun k=>k .undef) (fun b k=>Bool.rec (motive:=fun _=>β) (k (.bool false)) (k (.bool true)) b) (fun i n k=>fInt n fun n=>k (.int i n)) (fun i a b k=>k (.rng i a b)) (fun s k=>k (.str s)) (fun m k=>k (.ustr m))
    (fun p o k=>k (.ptr p o)) (fun l n r k=>k (.rop l n)) (fun k=>k .nilp) (fun p a b c d k=>k (.slice p a b c d)) (fun n l r k=>fNat n fun n=>r fun l=>k (.ro n l)) (fun p a b k=>k (.gs p a b)) (fun p a k=>k (.sle p a)) (fun k=>k .nils)
    (fun p k=>k (.map p)) (fun k=>k .nilm) (fun f a b ra rb k=>k (.func f a b)) (fun p k=>k (.yield p)) (fun k=>k .nilf) (fun t v r k=>k (.iface t v)) (fun k=>k .nili) (fun l r k=>r fun l=>k (.agg l)) (fun l r k=>r fun l=>k (.tup l))
    (fun k=>k .nil) (fun h t rh rt k=>rh fun h=>rt fun t=>k (.cons h t)) v
theorem fNat_eq {β : Type} (n : Nat) (k : Nat → β) : fNat n k = k n:=by cases n <;> rfl
theorem fInt_eq {β : Type} (z : Int) (k : Int → β) : fInt z k = k z:=by
  cases z with
  | ofNat n=>exact fNat_eq n (fun n=>k (.ofNat n))
  | negSucc n=>exact fNat_eq n (fun n=>k (.negSucc n))
theorem fAV_eq {β : Type} (v : AV) : ∀ k : AV → β,fAV v k = k v:=by
  induction v with
  | bool b=>intro k; cases b <;> rfl
  | int i n=>intro k; exact fInt_eq n (fun n=>k (.int i n))
  | ro n l ih=>intro k; exact (fNat_eq n (fun n=>fAV l fun l=>k (.ro n l))).trans (ih fun l=>k (.ro n l))
  | agg l ih=>intro k; exact ih _
  | tup l ih=>intro k; exact ih _
  | cons h t ih1 ih2=>intro k; exact (ih1 _).trans (ih2 _)
  | _=>intro k; rfl
/-! ### What is lent,by plain recursion -/
def borR (flat : Bool) (h : Heap) (v : AV) : AV :=
  AV.rec (motive:=fun _=>AV) .undef (fun b=>.bool b) (fun i n=>.int i n) (fun i a b=>.rng i a b) (fun s=>.str s) (fun m=>.ustr m)
    (fun p o=>borV flat h (.ptr p o)) (fun l n r=>.rop l n) .nilp (fun p a b c d=>borV flat h (.slice p a b c d)) (fun n l r=>.ro n l) (fun p a b=>borV flat h (.gs p a b)) (fun p a=>.sle p a) (.ro 0 .nil)
    (fun p=>.map p) .nilm (fun f a b ra rb=>.func f a b) (fun p=>.yield p) .nilf (fun t v r=>.iface t v) .nili (fun l r=>.agg r) (fun l r=>.tup r)
    .nil (fun h t rh rt=>.cons rh rt) v
theorem borR_eq {flat : Bool} {h : Heap} (v : AV) : borR flat h v = borV flat h v:=by
  induction v with
  | agg l ih=>show AV.agg (borR flat h l) = _; rw [ih]; rfl
  | tup l ih=>show AV.tup (borR flat h l) = _; rw [ih]; rfl
  | cons a t ih1 ih2=>show AV.cons (borR flat h a) (borR flat h t) = _; rw [ih1,ih2]; rfl
  | _=>rfl
def borB (h : Heap) (v : AV) : Bool :=
  AV.rec (motive:=fun _=>Bool) true (fun b=>true) (fun i n=>true) (fun i a b=>true) (fun s=>true) (fun m=>true)
    (fun p o=>true) (fun l n r=>true) true (fun p a b c d=>true) (fun n l r=>true) (fun p n sz=>match h.t.get p with | some (.gl l _)=>Nat.beq (Nat.mul n sz) l.len | _=>true) (fun p a=>true) true
    (fun p=>true) true (fun f a b ra rb=>true) (fun p=>true) true (fun t v r=>true) true (fun l r=>r) (fun l r=>r)
    true (fun h t rh rt=>band rh rt) v
theorem borB_ok {h : Heap} (v : AV) (e : borB h v = true) : BorOK h v:=by
  induction v with
  | agg l ih=>exact ih e
  | tup l ih=>exact ih e
  | cons a t ih1 ih2=>exact ⟨ih1 (band_iff.1 e).1,ih2 (band_iff.1 e).2⟩
  | gs p n sz =>
    have e : (match h.t.get p with | some (.gl l _)=>Nat.beq (Nat.mul n sz) l.len | _=>true) = true:=e
    show (match h.t.get p with | some (.gl l _)=>n * sz = l.len | _=>True)
    split
    · rename_i l ro hg
      rw [hg] at e
      exact Nat.eq_of_beq_eq_true e
    · trivial
  | _=>trivial
def lentB (v : AV) : Bool :=
  AV.rec (motive:=fun _=>Bool) false (fun b=>false) (fun i n=>false) (fun i a b=>false) (fun s=>false) (fun m=>false)
    (fun p o=>false) (fun l n r=>false) false (fun p a b c d=>true) (fun n l r=>false) (fun p n sz=>true) (fun p a=>false) false
    (fun p=>false) false (fun f a b ra rb=>false) (fun p=>false) false (fun t v r=>false) false (fun l r=>r) (fun l r=>r)
    false (fun h t rh rt=>Bool.rec (motive:=fun _=>Bool) rt true rh) v
theorem lentB_no {v : AV} (e : lentB v = false) : lent v = []:=by
  induction v with
  | agg l ih=>exact ih e
  | tup l ih=>exact ih e
  | cons a t ih1 ih2 =>
    have e : Bool.rec (motive:=fun _=>Bool) (lentB t) true (lentB a) = false:=e
    cases ha : lentB a with
    | true=>rw [ha] at e; cases e
    | false =>
      rw [ha] at e
      show lent a++lent t = []
      rw [ih1 ha,ih2 e]
      rfl
  | slice p a b c d=>cases e
  | gs p n sz=>cases e
  | _=>rfl
/-! ### Contracts that can be used by the evaluator -/
structure Dc (P : Program) where
  c : Cn P
  dec : AV → Option c.α
  okb : c.α → Bool
  hdec : ∀ l a,dec l = some a → c.as a = l
  hok : ∀ a,okb a = true → c.ok a
variable {P : Program}
def flatB (v : AV) : Bool :=
  AV.rec (motive:=fun _=>Bool) false (fun b=>true) (fun i n=>true) (fun i a b=>false) (fun s=>true) (fun m=>false)
    (fun p o=>false) (fun l n r=>false) true (fun p a b c d=>false) (fun n l r=>true) (fun p n sz=>false) (fun p a=>false) false
    (fun p=>false) false (fun f a b ra rb=>false) (fun p=>false) false (fun t v r=>false) true (fun l r=>r) (fun l r=>r)
    true (fun h t rh rt=>Bool.rec (motive:=fun _=>Bool) false rt rh) v
theorem flatB_ok {flat : Bool} {h : Heap} {v : AV} (e : flatB v = true) : borV flat h v = v∧BorOK h v∧lent v = []:=by
  induction v with
  | agg l ih=>obtain ⟨h1,h2,h3⟩:=ih e; exact ⟨congrArg AV.agg h1,h2,h3⟩
  | tup l ih=>obtain ⟨h1,h2,h3⟩:=ih e; exact ⟨congrArg AV.tup h1,h2,h3⟩
  | cons a t ih1 ih2 =>
    have e : Bool.rec (motive:=fun _=>Bool) false (flatB t) (flatB a) = true:=e
    cases ha : flatB a with
    | false=>rw [ha] at e; cases e
    | true =>
      rw [ha] at e
      obtain ⟨h1,h2,h3⟩:=ih1 ha
      obtain ⟨h4,h5,h6⟩:=ih2 e
      refine ⟨?_,⟨h2,h5⟩,?_⟩
      · show AV.cons (borV flat h a) (borV flat h t) = _; rw [h1,h4]
      · show lent a++lent t = []; rw [h3,h6]; rfl
  | bool b=>exact ⟨rfl,trivial,rfl⟩
  | int k n=>exact ⟨rfl,trivial,rfl⟩
  | str s=>exact ⟨rfl,trivial,rfl⟩
  | nilp=>exact ⟨rfl,trivial,rfl⟩
  | ro n l _=>exact ⟨rfl,trivial,rfl⟩
  | nili=>exact ⟨rfl,trivial,rfl⟩
  | nil=>exact ⟨rfl,trivial,rfl⟩
  | _=>cases e
def Dc.got (d : Dc P) (o : Option d.c.α) (h : Heap) : Option CR :=
  Option.rec (motive:=fun _=>Option CR) none (fun a=>Bool.rec (motive:=fun _=>Option CR) none (fAV (d.c.v a) fun v=>some (.ret v h)) (d.okb a)) o
def Dc.run1 (d : Dc P) (as : AV) (h : Heap) : Option CR :=
  Bool.rec (motive:=fun _=>Option CR) none
    (fAV (borR d.c.flat h as) fun as'=>Option.rec (motive:=fun _=>Option CR) none
      (fun a=>Bool.rec (motive:=fun _=>Option CR) none
        (fAV (d.c.v a) fun v=>some (.ret v (Bool.rec (motive:=fun _=>Heap) (Bool.rec (motive:=fun _=>Heap) h (frz h (lent as)) (lentB as)) h d.c.flat))) (d.okb a)) (d.dec as')) (borB h as)
theorem Dc.run1_meets {d : Dc P} {as : AV} {h : Heap} {r : CR} (e : d.run1 as h = some r) : ∃ v h',r = .ret v h'∧d.c.meets d.c.f as h v h':=by
  unfold Dc.run1 at e
  cases hb : borB h as with
  | false=>rw [hb] at e; cases e
  | true =>
    rw [hb] at e
    have e : (fAV (borR d.c.flat h as) fun as'=>Option.rec (motive:=fun _=>Option CR) none (fun a=>Bool.rec (motive:=fun _=>Option CR) none (fAV (d.c.v a) fun v=>some (.ret v (Bool.rec (motive:=fun _=>Heap) (Bool.rec (motive:=fun _=>Heap) h (frz h (lent as)) (lentB as)) h d.c.flat))) (d.okb a)) (d.dec as')) = some r:=e
    rw [fAV_eq,borR_eq] at e
    cases hd : d.dec (borV d.c.flat h as) with
    | none=>rw [hd] at e; cases e
    | some a =>
      rw [hd] at e
      cases ho : d.okb a with
      | false=>simp only [ho] at e; cases e
      | true =>
        simp only [ho,fAV_eq] at e
        cases e
        refine ⟨_,_,rfl,rfl,borB_ok _ hb,⟨a,d.hok a ho,d.hdec _ a hd,rfl⟩,?_⟩
        cases d.c.flat with
        | true=>rfl
        | false =>
          simp only [Bool.false_eq_true,if_false]
          cases hl : lentB as with
          | true=>rfl
          | false=>rw [lentB_no hl]; rfl
def Dc.run (d : Dc P) (as : AV) (h : Heap) : Option CR:=Bool.rec (motive:=fun _=>Option CR) (d.run1 as h) (d.got (d.dec as) h) (flatB as)
theorem Dc.run_meets {d : Dc P} {as : AV} {h : Heap} {r : CR} (e : d.run as h = some r) : ∃ v h',r = .ret v h'∧d.c.meets d.c.f as h v h':=by
  unfold Dc.run at e
  cases hf : flatB as with
  | false=>rw [hf] at e; exact Dc.run1_meets e
  | true =>
    rw [hf] at e
    have e : d.got (d.dec as) h = some r:=e
    obtain ⟨h1,h2,h3⟩:=flatB_ok (flat:=d.c.flat) (h:=h) hf
    unfold Dc.got at e
    cases hd : d.dec as with
    | none=>rw [hd] at e; cases e
    | some a =>
      rw [hd] at e
      cases ho : d.okb a with
      | false=>simp only [ho] at e; cases e
      | true =>
        simp only [ho,fAV_eq] at e
        cases e
        refine ⟨_,_,rfl,rfl,h2,⟨a,d.hok a ho,by rw [h1]; exact d.hdec _ a hd,rfl⟩,?_⟩
        cases d.c.flat with
        | true=>rfl
        | false =>
          simp only [Bool.false_eq_true,if_false]
          rw [h3]
          rfl
def dcTab (l : List (Dc P)) : Tr (AV → Heap → Option CR):=List.rec .leaf (fun d _ t=>t.set d.run (pathOf d.c.f)) l
theorem dcTab_get {l : List (Dc P)} {f : FuncId} {g : AV → Heap → Option CR} (e : (dcTab l).get (pathOf f) = some g) : ∃ d : Dc P,d.c.f = f∧g = d.run:=by
  induction l with
  | nil=>cases e
  | cons d l ih =>
    change ((dcTab l).set d.run (pathOf d.c.f)).get (pathOf f) = some g at e
    rw [Tr.get_set] at e
    split at e
    · rename_i h
      cases e
      exact ⟨d,(pathOf_inj h).symm,rfl⟩
    · exact ih e
def ovD (t : Tr (AV → Heap → Option CR)) : Tgt → AV → Heap → Option CR:=fun g as h =>
  Tgt.casesOn (motive:=fun _=>Option CR) g (fun f=>Option.casesOn (motive:=fun _=>Option CR) (t.get (pathOf f)) none (fun d=>d as h)) (fun _=>none)
theorem ovD_ok (hcl : Callable P) (l : List (Dc P)) (B0 : Nat) : OvOK P B0 (ovD (dcTab l)):=by
  intro g as h v h' hc
  cases g with
  | rd id=>cases hc
  | fn f =>
    change (Option.casesOn (motive:=fun _=>Option CR) ((dcTab l).get (pathOf f)) none (fun d=>d as h)).getD CR.fail = .ret v h' at hc
    cases hg : (dcTab l).get (pathOf f) with
    | none=>rw [hg] at hc; cases hc
    | some g =>
      rw [hg] at hc
      obtain ⟨d,hf,rfl⟩:=dcTab_get hg
      have hc : (d.run as h).getD CR.fail = .ret v h':=hc
      cases hr : d.run as h with
      | none=>rw [hr] at hc; cases hc
      | some r =>
        rw [hr] at hc
        obtain ⟨v1,h1,rfl,hm⟩:=Dc.run_meets hr
        have hc : CR.ret v1 h1 = .ret v h':=hc
        cases hc
        rw [hf] at hm
        exact callT_ok hcl [d.c] B0 (.fn f) as h v h' (callT_mem (l:=[d.c]) (List.pairwise_singleton _ _) (List.mem_singleton.2 rfl) hm)
def ovOr (a b : Tgt → AV → Heap → Option CR) : Tgt → AV → Heap → Option CR:=fun g as h=>Option.casesOn (motive:=fun _=>Option CR) (a g as h) (b g as h) some
theorem OvOK.or {B0 : Nat} {a b : Tgt → AV → Heap → Option CR} (ha : OvOK P B0 a) (hb : OvOK P B0 b) : OvOK P B0 (ovOr a b):=by
  intro g as h v h' hc
  change (Option.casesOn (motive:=fun _=>Option CR) (a g as h) (b g as h) some).getD CR.fail = .ret v h' at hc
  cases he : a g as h with
  | none=>rw [he] at hc; exact hb g as h v h' hc
  | some r=>rw [he] at hc; exact ha g as h v h' (by show (a g as h).getD CR.fail = _; rw [he]; exact hc)
/-! ### Reading values off -/
structure Enc.Rd {α : Type} (E : Enc α) where
  rd : AV → Option (α × AV)
  ok : ∀ l x t,rd l = some (x,t) → l = E.c x t
def oB {α β : Type} (o : Option α) (f : α → Option β) : Option β:=Option.rec (motive:=fun _=>Option β) none f o
theorem oB_some {α β : Type} {o : Option α} {f : α → Option β} {y : β} (h : oB o f = some y) : ∃ x,o = some x∧f x = some y:=by
  cases o with
  | none=>cases h
  | some x=>exact ⟨x,rfl,h⟩
def bB {β : Type} (b : Bool) (o : Option β) : Option β:=Bool.rec (motive:=fun _=>Option β) none o b
theorem bB_some {β : Type} {b : Bool} {o : Option β} {y : β} (h : bB b o = some y) : b = true∧o = some y:=by
  cases b with
  | false=>cases h
  | true=>exact ⟨rfl,h⟩
def rInt (k : IntKind) : (eInt k).Rd where
  rd:=fun l=>match l with | .cons (.int k' n) t=>bB (keq k k') (some (n,t)) | _=>none
  ok:=fun l x t h=>by
    split at h
    · obtain ⟨h1,h2⟩:=bB_some h
      cases h2
      rw [keq_iff.1 h1]
      rfl
    · cases h
def rBool : eBool.Rd where
  rd:=fun l=>match l with | .cons (.bool b) t=>some (b,t) | _=>none
  ok:=fun l x t h=>by
    split at h
    · cases h; rfl
    · cases h
def rStr : eStr.Rd where
  rd:=fun l=>match l with | .cons (.str b) t=>some (b,t) | _=>none
  ok:=fun l x t h=>by
    split at h
    · cases h; rfl
    · cases h
def nilB (l : AV) : Bool:=match l with | .nil=>true | _=>false
theorem nilB_ok {l : AV} (h : nilB l = true) : l = .nil:=by
  unfold nilB at h
  split at h
  · rfl
  · cases h
def rdN {α : Type} {E : Enc α} (R : E.Rd) (n : Nat) : AV → Option (List α) :=
  Nat.rec (motive:=fun _=>AV → Option (List α)) (fun l=>bB (nilB l) (some [])) (fun _ ih l=>oB (R.rd l) fun p=>oB (ih p.2) fun r=>some (p.1::r)) n
theorem rdN_ok {α : Type} {E : Enc α} (R : E.Rd) : ∀ {n : Nat} {l : AV} {xs : List α},rdN R n l = some xs → l = E.l xs∧xs.length = n
  | 0,l,xs,h=>by
    change bB (nilB l) (some []) = some xs at h
    obtain ⟨h1,h2⟩:=bB_some h
    cases h2
    exact ⟨nilB_ok h1,rfl⟩
  | n + 1,l,xs,h=>by
    change (oB (R.rd l) fun p=>oB (rdN R n p.2) fun r=>some (p.1::r)) = some xs at h
    obtain ⟨⟨x,t⟩,h1,h⟩:=oB_some h
    obtain ⟨r,h2,h3⟩:=oB_some h
    cases h3
    obtain ⟨h4,h5⟩:=rdN_ok R h2
    exact ⟨by rw [R.ok _ _ _ h1]; show E.c x t = E.c x (E.l r); rw [← h4],by simp [h5]⟩
def Enc.Rd.list {α : Type} {E : Enc α} (R : E.Rd) : E.list.Rd where
  rd:=fun l=>match l with | .cons (.ro n l) t=>oB (rdN R n l) fun xs=>some (xs,t) | _=>none
  ok:=fun l x t h=>by
    split at h
    · obtain ⟨xs,h1,h2⟩:=oB_some h
      cases h2
      obtain ⟨h3,h4⟩:=rdN_ok R h1
      show _ = AV.cons (.ro x.length (E.l x)) t
      rw [h3,h4]
    · cases h
theorem c_pair {α β : Type} {A : Enc α} {B : Enc β} (x : α) (y : β) (t : AV) : (A.pair B).c (x,y) t = A.c x (B.c y t):=by
  show catL (A.cs x++B.cs y) t = catL (A.cs x) (catL (B.cs y) t)
  unfold catL
  rw [List.foldr_append]
def Enc.Rd.pair {α β : Type} {A : Enc α} {B : Enc β} (R : A.Rd) (S : B.Rd) : (A.pair B).Rd where
  rd:=fun l=>oB (R.rd l) fun p=>oB (S.rd p.2) fun q=>some ((p.1,q.1),q.2)
  ok:=fun l x t h=>by
    obtain ⟨p,h1,h⟩:=oB_some h
    obtain ⟨q,h2,h3⟩:=oB_some h
    cases h3
    rw [c_pair,R.ok _ p.1 p.2 h1,S.ok _ q.1 q.2 h2]
def Enc.Rd.by {α β : Type} {E : Enc α} (R : E.Rd) {f : β → α} {hf : ∀ x y,f x = f y → x = y} (g : α → Option β) (hg : ∀ a b,g a = some b → f b = a) : (E.by f hf).Rd where
  rd:=fun l=>oB (R.rd l) fun p=>oB (g p.1) fun b=>some (b,p.2)
  ok:=fun l x t h=>by
    obtain ⟨p,h1,h⟩:=oB_some h
    obtain ⟨q,h2,h3⟩:=oB_some h
    cases h3
    rw [R.ok _ p.1 p.2 h1,← hg _ _ h2]
    rfl
def Enc.Rd.struct {α : Type} {E : Enc α} (R : E.Rd) : E.struct.Rd where
  rd:=R.rd
  ok:=R.ok
def Enc.Rd.v {α : Type} {E : Enc α} (R : E.Rd) (a : AV) : Option α :=
  Bool.rec (motive:=fun _=>Option α) (oB (R.rd (.cons a .nil)) fun p=>bB (nilB p.2) (some p.1)) (match a with | .agg l=>oB (R.rd l) fun p=>bB (nilB p.2) (some p.1) | _=>none) E.agg
theorem Enc.Rd.v_ok {α : Type} {E : Enc α} (R : E.Rd) {a : AV} {x : α} (h : R.v a = some x) : E.v x = a:=by
  unfold Enc.Rd.v at h
  have hwf:=E.wf
  unfold Enc.v
  cases ha : E.agg with
  | true =>
    rw [ha] at h
    simp only at h
    split at h
    · obtain ⟨p,h1,h⟩:=oB_some h
      obtain ⟨h2,h3⟩:=bB_some h
      cases h3
      have:=R.ok _ p.1 p.2 h1
      rw [this,nilB_ok h2]
    · cases h
  | false =>
    rw [ha] at h
    simp only at h
    obtain ⟨p,h1,h⟩:=oB_some h
    obtain ⟨h2,h3⟩:=bB_some h
    cases h3
    have:=R.ok _ p.1 p.2 h1
    rw [nilB_ok h2] at this
    cases he : E.cs p.1 with
    | nil=>exact absurd he (E.ne_nil _)
    | cons b l =>
      unfold Enc.c at this
      rw [he] at this
      simp only
      injection this with h3 h4
      exact h3.symm
def dec1 {α : Type} {A : Enc α} (R : A.Rd) (l : AV) : Option α:=match l with | .cons a .nil=>R.v a | _=>none
theorem dec1_ok {α : Type} {A : Enc α} {R : A.Rd} {l : AV} {x : α} (h : dec1 R l = some x) : AV.cons (A.v x) .nil = l:=by
  unfold dec1 at h
  split at h
  · rw [R.v_ok h]
  · cases h
def dec2 {α β : Type} {A : Enc α} {B : Enc β} (R : A.Rd) (S : B.Rd) (l : AV) : Option (α × β):=match l with | .cons a (.cons b .nil)=>oB (R.v a) fun x=>oB (S.v b) fun y=>some (x,y) | _=>none
theorem dec2_ok {α β : Type} {A : Enc α} {B : Enc β} {R : A.Rd} {S : B.Rd} {l : AV} {x : α × β} (h : dec2 R S l = some x) : AV.cons (A.v x.1) (.cons (B.v x.2) .nil) = l:=by
  unfold dec2 at h
  split at h
  · obtain ⟨p,h1,h⟩:=oB_some h
    obtain ⟨q,h2,h3⟩:=oB_some h
    cases h3
    rw [R.v_ok h1,S.v_ok h2]
  · cases h
end
end
/-! ### With tables -/
theorem PF.any (T : Tabs) {P : Program} {f : FuncId} {as v : AV} (h : @PF tb0 P f as v) : @PF T P f as v:=fun s w hs _=>h s w hs (by
  intro i x hi
  change ([] : List (AV × Nat))[i]? = some x at hi
  simp at hi)
def Cn.lift (T : Tabs) {P : Program} (c : @Cn tb0 P) : @Cn T P :=
  @Cn.mk T P (@Cn.f tb0 P c) (@Cn.flat tb0 P c) (@Cn.α tb0 P c) (@Cn.as tb0 P c) (@Cn.v tb0 P c) (@Cn.ok tb0 P c) (@Cn.inj tb0 P c) (@Cn.dp tb0 P c) (@Cn.pv tb0 P c) (@Cn.fl tb0 P c) (fun a h=>PF.any T (@Cn.pf tb0 P c a h)) (@Cn.bd tb0 P c)
def Dc.lift (T : Tabs) {P : Program} (d : @Dc tb0 P) : @Dc T P :=
  @Dc.mk T P (Cn.lift T (@Dc.c tb0 P d)) (@Dc.dec tb0 P d) (@Dc.okb tb0 P d) (@Dc.hdec tb0 P d) (@Dc.hok tb0 P d)
end Go.Sy
