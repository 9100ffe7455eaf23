/- A loop of few rounds, round by round. -/
import Derived.Test.YtemoafmennfhhaaGreatDoorSyBig
import Derived.Test.YtemoafmennfhhaaGreatDoorSyDec
import Derived.Maps.RangeRun
namespace Go.Sy
open Go.RowKit
set_option linter.unusedVariables false
set_option linter.unusedSectionVars false
variable [Tabs] {P : Program} {B0 : Nat} {cx : Cx}
noncomputable def LW (P : Program) (B0 : Nat) (cx : Cx) (body : Code) (Q : R → Prop) : Nat → KC
  | 0,_,_,_=>False
  | n + 1,r,m,h=>wp P B0 cx body (fun r m h=>LW P B0 cx body Q n r m h) (fun r m h=>Q (.ret r m h)) (fun i r m h=>Q (.exit i r m h)) r m h
theorem LW_key (hm : P.follows .mixedOrders = true) (hP : cx.P = P) (hrd : cx.rd = none) (hcall : CallOK P B0 cx.call) {body : Code} {Q : R → Prop} : ∀ (n : Nat) {r : Tr AV} {m : List Pos} {h : Heap},LW P B0 cx body Q n r m h →
    ∀ (μ : Mu) (w : World) (b : Frame) (a : Act) (kk : List Item) (cs : List Frame),HR μ B0 h w → AR μ cx.nt r m a → FR0 cx b → ∃ x,Q x∧RW P B0 μ h.n w cx.nt b kk cs (lone (b.atR a (.code body::.inLoop body::kk)) cs w) x
  | 0,r,m,h,e=>e.elim
  | n + 1,r,m,h,e=>by
    intro μ w b a kk cs hr ha hf
    obtain ⟨z,h1,h2⟩:=wp_sound hm hP hrd hcall body e μ w b a (.inLoop body::kk) cs hr ha hf
    cases z with
    | fail=>exact h2.elim
    | ok r1 m1 h1' =>
      obtain ⟨μ1,a1,w1,hp,ha1,hs1⟩:=h2
      obtain ⟨x,e1,e2⟩:=LW_key hm hP hrd hcall n h1 μ1 w1 b a1 kk cs hp.rel ha1 hf
      exact ⟨x,e1,e2.ahead (hs1.trans (.one stepR_inLoop)) hp.below hp.seals⟩
    | exit i r1 m1 h1' =>
      obtain ⟨μ1,a1,w1,hp,ha1,k',he,hs1⟩:=h2
      exact ⟨.exit i r1 m1 h1',h1,μ1,a1,w1,hp,ha1,k',he,hs1⟩
    | ret r1 m1 h1' =>
      obtain ⟨μ1,a1,w1,hp,ha1,k',hs1⟩:=h2
      exact ⟨.ret r1 m1 h1',h1,μ1,a1,w1,hp,ha1,k',hs1⟩
theorem Cw.unroll (hm : P.follows .mixedOrders = true) (hP : cx.P = P) (hrd : cx.rd = none) (hcall : CallOK P B0 cx.call) (n : Nat) {body : Code} {Q : R → Prop} {r : Tr AV} {m : List Pos} {h : Heap} (hl : LW P B0 cx body Q n r m h) : Cw P B0 cx (.loop body) r m h Q:=by
  intro μ w b a kk cs hr ha hf
  obtain ⟨z,h1,h2⟩:=LW_key hm hP hrd hcall n hl μ w b a kk cs hr ha hf
  exact ⟨z,h1,h2.ahead (.one stepR_loop) (Below.refl _ _) (GrowK.refl _ _ _)⟩
end Go.Sy
namespace Go.Sy
open Go.RowKit
set_option linter.unusedVariables false
set_option linter.unusedSectionVars false
variable [Tabs]
noncomputable section
/-! ### A value without the names of blocks -/
theorem SealV.gsTake {h : Heap} {id : Pos} {n sz : Nat} {l l1 l' : AV} {ro : Bool} (hg : h.t.get id = some (.gl l ro)) (ht : takeL (Nat.mul n sz) l = some l1) (hl : SealL h l1 l') : SealV h (.gs id n sz) (.ro n l'):=by
  intro μ B0 w cv hr hv
  obtain ⟨B,hB,hx⟩:=hv
  have hob:=hr.obj id B _ hB hg
  rcases hob with ⟨h1,rfl⟩ | ⟨xs,h1,h2,c,el,fz,h3,h4,h5,h6,h7⟩
  · obtain ⟨g1,g2⟩:=VRL.take (μ:=μ) (Nat.mul n sz) (vs:=[]) (show VRL μ .nil [] from rfl) ht
    have h2:=hl μ B0 w [] hr (by simpa using g1)
    refine ⟨[],h2,?_⟩
    rcases hx with ⟨c,hx,hnc,_⟩ | ⟨e0,hx⟩
    · exact .inl ⟨_,_,c,hx,hnc,.inl rfl⟩
    · exact .inr ⟨e0,rfl,hx⟩
  · obtain ⟨g1,g2⟩:=VRL.take (Nat.mul n sz) h1 ht
    have hp:=hl μ B0 w _ hr g1
    refine ⟨_,hp,?_⟩
    rcases hx with ⟨c',hx,hnc,_⟩ | ⟨e0,hx⟩
    · refine .inl ⟨_,_,c',hx,hnc,?_⟩
      by_cases hin : (AO.gl l ro).inert B
      · obtain ⟨e1,_,e2⟩:=hin
        refine .inl ?_
        cases xs with
        | nil=>simp
        | cons _ _=>simp at h2; omega
      · refine .inr ⟨c,?_,fun j v hj=>h7 j v ?_⟩
        · show sealAll μ.s B0 w B.b = some c
          cases ro with
          | true=>exact (sealAll_grow hr).le _ _ (h6 rfl)
          | false=>exact sealAll_get hr ((hr.own id B _ hB hg rfl).resolve_left hin) h3
        · rw [List.getElem?_take] at hj
          split at hj
          · exact hj
          · cases hj
    · refine .inr ⟨e0,?_,hx⟩
      subst e0
      show xs.take (0 * sz) = []
      rw [Nat.zero_mul,List.take_zero]
def sealD (d : Nat) : Heap → AV → Option AV :=
  Nat.rec (motive:=fun _=>Heap → AV → Option AV) (fun _ _=>none)
    (fun _ ih h v=>match v with
      | .gs id n sz=>(match h.t.get id with | some (.gl l _)=>oB (takeL (Nat.mul n sz) l) fun l1=>oB (ih h l1) fun l'=>some (.ro n l') | _=>none)
      | .agg l=>oB (ih h l) fun l'=>some (.agg l')
      | .tup l=>oB (ih h l) fun l'=>some (.tup l')
      | .cons a t=>oB (ih h a) fun a'=>oB (ih h t) fun t'=>some (.cons a' t')
      | .nil=>some .nil
      | .nils=>some (.ro 0 .nil)
      | .int k n=>some (.int k n)
      | .bool b=>some (.bool b)
      | .str s=>some (.str s)
      | .ro n l=>some (.ro n l)
      | .nili=>some .nili
      | .nilp=>some .nilp
      | _=>none) d
theorem sealD_sound : ∀ (d : Nat) {h : Heap} {v v' : AV},sealD d h v = some v' → SealV h v v'∧SealL h v v'
  | 0,h,v,v',e=>by cases e
  | d + 1,h,v,v',e=>by
    have noL : ∀ {a : AV},(∀ μ xs,¬ VRL μ a xs) → SealL h a v':=fun hn μ B0 w xs _ hv=>(hn μ xs hv).elim
    cases v with
    | gs id n sz =>
      change (match h.t.get id with | some (.gl l _)=>oB (takeL (Nat.mul n sz) l) fun l1=>oB (sealD d h l1) fun l'=>some (.ro n l') | _=>none) = some v' at e
      cases hg : h.t.get id with
      | none=>rw [hg] at e; cases e
      | some o =>
        rw [hg] at e
        cases o with
        | gl l ro =>
          simp only at e
          obtain ⟨l1,h1,e⟩:=oB_some e
          obtain ⟨l',h2,h3⟩:=oB_some e
          cases h3
          exact ⟨SealV.gsTake hg h1 (sealD_sound d h2).2,noL fun _ _ hv=>hv⟩
        | _=>cases e
    | agg l =>
      obtain ⟨l',h2,h3⟩:=oB_some (show oB (sealD d h l) (fun l'=>some (.agg l')) = some v' from e)
      cases h3
      exact ⟨SealV.agg (sealD_sound d h2).2,noL fun _ _ hv=>hv⟩
    | tup l =>
      obtain ⟨l',h2,h3⟩:=oB_some (show oB (sealD d h l) (fun l'=>some (.tup l')) = some v' from e)
      cases h3
      exact ⟨SealV.tup (sealD_sound d h2).2,noL fun _ _ hv=>hv⟩
    | cons a t =>
      obtain ⟨a',h1,e⟩:=oB_some (show oB (sealD d h a) (fun a'=>oB (sealD d h t) fun t'=>some (.cons a' t')) = some v' from e)
      obtain ⟨t',h2,h3⟩:=oB_some e
      cases h3
      exact ⟨fun μ B0 w cv _ hv=>hv.elim,SealL.cons (sealD_sound d h1).1 (sealD_sound d h2).2⟩
    | nil=>cases e; exact ⟨fun μ B0 w cv _ hv=>hv.elim,SealL.nil⟩
    | nils=>cases e; exact ⟨SealV.nils,noL fun _ _ hv=>hv⟩
    | int k n=>cases e; exact ⟨SealV.pure .int,noL fun _ _ hv=>hv⟩
    | bool b=>cases e; exact ⟨SealV.pure .bool,noL fun _ _ hv=>hv⟩
    | str s=>cases e; exact ⟨SealV.pure .str,noL fun _ _ hv=>hv⟩
    | ro n l=>cases e; exact ⟨SealV.pure .ro,noL fun _ _ hv=>hv⟩
    | nili=>cases e; exact ⟨SealV.pure (fun _ _ _ _ h=>h),noL fun _ _ hv=>hv⟩
    | nilp=>cases e; exact ⟨SealV.pure .nilp,noL fun _ _ hv=>hv⟩
    | _=>cases e
/-! ### The same -/
def aeq (x : AV) : AV → Bool :=
  AV.rec (motive:=fun _=>AV → Bool) (fun _=>false) (fun b y=>match y with | .bool c=>Bool.rec (motive:=fun _=>Bool) (bnot c) c b | _=>false) (fun k n y=>match y with | .int l m=>band (keq k l) (ieq n m) | _=>false) (fun _ _ _ _=>false)
    (fun s y=>match y with | .str u=>lbeq s u | _=>false) (fun _ _=>false) (fun _ _ _=>false) (fun _ _ _ _=>false) (fun y=>match y with | .nilp=>true | _=>false) (fun _ _ _ _ _ _=>false)
    (fun n l r y=>match y with | .ro m u=>band (Nat.beq n m) (r u) | _=>false) (fun _ _ _ _=>false) (fun _ _ _=>false) (fun _=>false) (fun _ _=>false) (fun _=>false) (fun _ _ _ _ _ _=>false) (fun _ _=>false) (fun _=>false)
    (fun _ _ _ _=>false) (fun y=>match y with | .nili=>true | _=>false) (fun l r y=>match y with | .agg u=>r u | _=>false) (fun l r y=>match y with | .tup u=>r u | _=>false)
    (fun y=>match y with | .nil=>true | _=>false) (fun a t ra rt y=>match y with | .cons b u=>band (ra b) (rt u) | _=>false) x
theorem lbeq_eq2 {a b : List Nat} (h : lbeq a b = true) : a = b:=by
  rw [lbeq_dec] at h
  exact of_decide_eq_true h
theorem aeq_eq {x : AV} : ∀ {y : AV},aeq x y = true → x = y:=by
  induction x with
  | bool b =>
    intro y h
    cases y with
    | bool c=>cases b <;> cases c <;> first | rfl | cases h
    | _=>cases h
  | int k n =>
    intro y h
    cases y with
    | int l m =>
      obtain ⟨h1,h2⟩:=band_iff.1 (show band (keq k l) (ieq n m) = true from h)
      rw [keq_iff.1 h1,ieq_iff.1 h2]
    | _=>cases h
  | str s =>
    intro y h
    cases y with
    | str u=>rw [lbeq_eq2 (show lbeq s u = true from h)]
    | _=>cases h
  | nilp=>intro y h; cases y <;> first | rfl | cases h
  | nili=>intro y h; cases y <;> first | rfl | cases h
  | nil=>intro y h; cases y <;> first | rfl | cases h
  | ro n l ih =>
    intro y h
    cases y with
    | ro m u =>
      obtain ⟨h1,h2⟩:=band_iff.1 (show band (Nat.beq n m) (aeq l u) = true from h)
      rw [Nat.eq_of_beq_eq_true h1,ih h2]
    | _=>cases h
  | agg l ih =>
    intro y h
    cases y with
    | agg u=>rw [ih (show aeq l u = true from h)]
    | _=>cases h
  | tup l ih =>
    intro y h
    cases y with
    | tup u=>rw [ih (show aeq l u = true from h)]
    | _=>cases h
  | cons a t iha iht =>
    intro y h
    cases y with
    | cons b u =>
      obtain ⟨h1,h2⟩:=band_iff.1 (show band (aeq a b) (aeq t u) = true from h)
      rw [iha h1,iht h2]
    | _=>cases h
  | _=>intro y h; cases h
def dpB (x : AV) : Bool :=
  AV.rec (motive:=fun _=>Bool) true (fun _=>true) (fun _ _=>true) (fun _ _ _=>true) (fun _=>true) (fun _=>true) (fun _ _=>false) (fun _ _ _=>false) true (fun _ _ _ _ _=>false) (fun _ _ r=>r) (fun _ _ _=>false) (fun _ _=>false) true (fun _=>false) true (fun _ _ _ _ _=>false)
    (fun _=>false) true (fun _ _ _=>false) true (fun _ r=>r) (fun _ r=>r) true (fun _ _ ra rt=>band ra rt) x
theorem dpB_ok {x : AV} (h : dpB x = true) : DP x∧PureL x:=by
  have pl : ∀ {a : AV},(∀ μ xs,¬ VRL μ a xs) → PureL a:=fun hn μ μ' xs _ hv=>(hn μ xs hv).elim
  induction x with
  | cons a t iha iht =>
    obtain ⟨h1,h2⟩:=band_iff.1 (show band (dpB a) (dpB t) = true from h)
    exact ⟨⟨(iha h1).1,(iht h2).1⟩,.cons (PureV_of_DP (iha h1).1) (iht h2).2⟩
  | agg l ih=>exact ⟨(ih h).1,pl fun _ _ hv=>hv⟩
  | tup l ih=>exact ⟨(ih h).1,pl fun _ _ hv=>hv⟩
  | ro n l ih=>exact ⟨(ih h).2,pl fun _ _ hv=>hv⟩
  | nil=>exact ⟨trivial,.nil⟩
  | _=>first | exact ⟨trivial,pl fun _ _ hv=>hv⟩ | cases h
variable {P : Program}
theorem PF.of_run (hm : P.follows .mixedOrders = true) (hcl : Callable P) {ov : Tgt → AV → Heap → Option CR} (hov : ∀ B0,OvOK P B0 ov) {n fuel : Nat} {f : FuncId} {l v v' : AV} {h' : Heap} (hlen : Tabs.l.length ≤ 64) (hpure : PureL l)
    (hrun : callO P ov fuel n (.fn f) l (startWith Tabs.l 64) = .ret v h') (hseal : SealV h' v v') : PF P f l v':=by
  intro s w hs ht cargs hargs
  have hr:=start_HR hlen hs ht
  refine ((callO_sound (B0:=w.heap.size) hm hcl (hov _) fuel n (.fn f) l _ v h' hrun (mu0 w s) w hr).2 cargs (hpure (muS s) (mu0 w s) _ (fun _ _ e=>e) hargs)).mono fun e w' ⟨cv,μ',he,hv,hp⟩=>?_
  exact ⟨cv,sealAll μ'.s w.heap.size w',he,hp.seals.trans (sealAll_grow hp.rel),sealAll_ok hp.rel,hseal μ' w.heap.size w' cv hp.rel hv,hp.below⟩
def ranTo (P : Program) (ov : Tgt → AV → Heap → Option CR) (f : FuncId) (e : AV × AV) : Bool :=
  match callO P ov 1000 30 (.fn f) e.1 (startWith Tabs.l 64) with
  | .ret v h=>(match sealD 10000 h v with | some u=>aeq u e.2 | none=>false)
  | .fail=>false
def ranAll (P : Program) (ov : Tgt → AV → Heap → Option CR) (f : FuncId) (l : List (AV × AV)) : Bool:=List.rec true (fun e _ r=>band (band (dpB e.1) (dpB e.2)) (band (ranTo P ov f e) r)) l
theorem ranAll_ok (hm : P.follows .mixedOrders = true) (hcl : Callable P) {ov : Tgt → AV → Heap → Option CR} (hov : ∀ B0,OvOK P B0 ov) (hlen : Tabs.l.length ≤ 64) {f : FuncId} : ∀ {l : List (AV × AV)},ranAll P ov f l = true → ∀ e ∈ l,PF P f e.1 e.2∧DP e.1∧DP e.2
  | [],_,e,he=>by cases he
  | x::l,h,e,he=>by
    obtain ⟨h1,h2⟩:=band_iff.1 (show band (band (dpB x.1) (dpB x.2)) (band (ranTo P ov f x) (ranAll P ov f l)) = true from h)
    obtain ⟨h3,h4⟩:=band_iff.1 h1
    obtain ⟨h5,h6⟩:=band_iff.1 h2
    rcases List.mem_cons.1 he with rfl | he
    · refine ⟨?_,(dpB_ok h3).1,(dpB_ok h4).1⟩
      unfold ranTo at h5
      split at h5
      · rename_i v hh hrun
        split at h5
        · rename_i u hs
          rw [← aeq_eq h5]
          exact PF.of_run hm hcl hov hlen (dpB_ok h3).2 hrun (sealD_sound _ hs).1
        · cases h5
      · cases h5
    · exact ranAll_ok hm hcl hov hlen h6 e he
theorem ranAll_app {P : Program} {ov : Tgt → AV → Heap → Option CR} {f : FuncId} {a b : List (AV × AV)} (ha : ranAll P ov f a = true) (hb : ranAll P ov f b = true) : ranAll P ov f (a++b) = true:=by
  induction a with
  | nil=>exact hb
  | cons x a ih =>
    obtain ⟨h1,h2⟩:=band_iff.1 (show band (band (dpB x.1) (dpB x.2)) (band (ranTo P ov f x) (ranAll P ov f a)) = true from ha)
    obtain ⟨h3,h4⟩:=band_iff.1 h2
    exact band_iff.2 ⟨h1,band_iff.2 ⟨h3,ih h4⟩⟩
def mFind (l : List (AV × AV)) (x : AV) : Nat → Option Nat:=List.rec (motive:=fun _=>Nat → Option Nat) (fun _=>none) (fun e _ ih i=>Bool.rec (motive:=fun _=>Option Nat) (ih (Nat.succ i)) (some i) (aeq e.1 x)) l
theorem mFind_ok : ∀ {l : List (AV × AV)} {x : AV} {i j : Nat},mFind l x i = some j → ∃ k e,j = i + k∧l[k]? = some e∧e.1 = x
  | [],x,i,j,h=>by cases h
  | e::l,x,i,j,h=>by
    change Bool.rec (motive:=fun _=>Option Nat) (mFind l x (Nat.succ i)) (some i) (aeq e.1 x) = some j at h
    cases ha : aeq e.1 x with
    | true=>rw [ha] at h; cases h; exact ⟨0,e,rfl,rfl,aeq_eq ha⟩
    | false =>
      rw [ha] at h
      obtain ⟨k,e',h1,h2,h3⟩:=mFind_ok (h : mFind l x (Nat.succ i) = some j)
      exact ⟨k + 1,e',by omega,by simpa using h2,h3⟩
def mAt (l : List (AV × AV)) (i : Nat) : AV × AV:=(l[i]?).getD (.nil,.nil)
def Cn.memo (f : FuncId) (l : List (AV × AV)) (h : ∀ e ∈ l,PF P f e.1 e.2∧DP e.1∧DP e.2) (hb : ∃ fn,P.funcs[f]? = some fn∧fn.body.isSome = true) : Cn P :=
  have hat : ∀ i,DP (mAt l i).1∧DP (mAt l i).2:=fun i=>by
    unfold mAt
    cases hg : l[i]? with
    | none=>exact ⟨trivial,trivial⟩
    | some e=>exact (h e (List.mem_of_getElem? hg)).2
  Cn.mk f false Nat (fun i=>(mAt l i).1) (fun i=>(mAt l i).2) (fun i=>i < l.length∧mFind l (mAt l i).1 0 = some i)
    (fun a b ha hb e=>by
      have h2:=hb.2
      rw [← e,ha.2] at h2
      rw [Option.some.inj h2])
    (fun i=>(hat i).1) (fun i=>PureV_of_DP (hat i).2) (fun h=>by cases h)
    (fun i hi=>by
      have : l[i]? = some (mAt l i):=by unfold mAt; rw [List.getElem?_eq_getElem hi.1]; rfl
      exact (h _ (List.mem_of_getElem? this)).1) hb
def Dc.memo (f : FuncId) (l : List (AV × AV)) (h : ∀ e ∈ l,PF P f e.1 e.2∧DP e.1∧DP e.2) (hb : ∃ fn,P.funcs[f]? = some fn∧fn.body.isSome = true) : Dc P :=
  Dc.mk (Cn.memo f l h hb) (fun x=>oB (mFind l x 0) fun i=>bB (Nat.ble (Nat.succ i) l.length) (some i)) (fun i=>match mFind l (mAt l i).1 0 with | some j=>band (Nat.beq i j) (Nat.ble (Nat.succ i) l.length) | none=>false)
    (fun x i hx=>by
      obtain ⟨j,h1,h2⟩:=oB_some hx
      obtain ⟨h3,h4⟩:=bB_some h2
      cases h4
      obtain ⟨k,e,e1,e2,e3⟩:=mFind_ok h1
      rw [Nat.zero_add] at e1
      subst e1
      show (mAt l _).1 = x
      unfold mAt
      rw [e2]
      exact e3)
    (fun i hi=>by
      have hi : (match mFind l (mAt l i).1 0 with | some j=>band (Nat.beq i j) (Nat.ble (Nat.succ i) l.length) | none=>false) = true:=hi
      split at hi
      · rename_i j hj
        obtain ⟨h1,h2⟩:=band_iff.1 hi
        have:=Nat.eq_of_beq_eq_true h1
        subst this
        exact ⟨Nat.le_of_ble_eq_true h2,hj⟩
      · cases hi)
end
end Go.Sy
namespace Go.Sy
open Go.RowKit
set_option linter.unusedVariables false
set_option linter.unusedSimpArgs false
set_option linter.unusedSectionVars false
variable [Tabs]
noncomputable section
/-! ### The next entry -/
def memN (j : Nat) (l : List Nat) : Bool:=List.rec (motive:=fun _=>Bool) false (fun x _ ih=>Bool.rec (motive:=fun _=>Bool) ih true (Nat.beq j x)) l
def leftI (n : Nat) (seen : List Nat) : List Nat:=Nat.rec (motive:=fun _=>List Nat) [] (fun i ih=>Bool.rec (motive:=fun _=>List Nat) (i::ih) ih (memN i seen)) n
def mapAlts (f : Nat → AV × Heap) (l : List Nat) : List (AV × Heap):=List.rec (motive:=fun _=>List (AV × Heap)) [] (fun j _ ih=>f j::ih) l
def altEntry (l : List (AV × AV)) (j : Nat) : AV:=match l[j]? with | some e=>.tup (.cons (.bool true) (.cons e.1 (.cons e.2 .nil))) | none=>.undef
def altsNext (x : Operand) (r : Tr AV) (h : Heap) : Option (List (AV × Heap)) :=
  match ev x r with
  | .ptr id 0=>(match h.t.get id with
    | some (.mi m n seen)=>(match h.t.get m with
      | some (.mp l)=>Bool.casesOn (motive:=fun _=>Option (List (AV × Heap))) (Nat.beq l.length n) none
        (match leftI n seen with
         | []=>some [(.tup (.cons (.bool false) .nil),h)]
         | j::js=>some (mapAlts (fun j=>(altEntry l j,⟨h.t.set (.mi m n (j::seen)) id,h.n⟩)) (j::js)))
      | _=>none)
    | _=>none)
  | _=>none
end
theorem memN_iff {j : Nat} : ∀ {l : List Nat},memN j l = true ↔ j ∈ l
  | []=>by simp [memN]
  | x::l=>by
    change (Bool.rec (motive:=fun _=>Bool) (memN j l) true (Nat.beq j x)) = true ↔ _
    cases h : Nat.beq j x with
    | true=>simp [Nat.eq_of_beq_eq_true h]
    | false =>
      have : j ≠ x:=fun e=>by rw [e,Nat.beq_refl] at h; cases h
      simp [memN_iff (l:=l),this]
theorem leftI_mem {seen : List Nat} {j : Nat} : ∀ {n : Nat},j ∈ leftI n seen ↔ j < n∧j ∉ seen
  | 0=>by show j ∈ ([] : List Nat) ↔ _; simp
  | n + 1=>by
    change j ∈ (Bool.rec (motive:=fun _=>List Nat) (n::leftI n seen) (leftI n seen) (memN n seen)) ↔ _
    cases h : memN n seen with
    | true =>
      have h:=memN_iff.1 h
      rw [show (Bool.rec (motive:=fun _=>List Nat) (n::leftI n seen) (leftI n seen) true : List Nat) = leftI n seen from rfl,leftI_mem (n:=n)]
      constructor
      · rintro ⟨h1,h2⟩; exact ⟨by omega,h2⟩
      · rintro ⟨h1,h2⟩
        refine ⟨?_,h2⟩
        rcases Nat.lt_or_ge j n with h3 | h3
        · exact h3
        · have : j = n:=by omega
          subst this
          exact absurd h h2
    | false =>
      have h : n ∉ seen:=fun e=>by rw [memN_iff.2 e] at h; cases h
      rw [show (Bool.rec (motive:=fun _=>List Nat) (n::leftI n seen) (leftI n seen) false : List Nat) = n::leftI n seen from rfl,List.mem_cons,leftI_mem (n:=n)]
      constructor
      · rintro (h1 | ⟨h1,h2⟩)
        · subst h1; exact ⟨by omega,h⟩
        · exact ⟨by omega,h2⟩
      · rintro ⟨h1,h2⟩
        rcases Nat.lt_or_ge j n with h3 | h3
        · exact .inr ⟨h3,h2⟩
        · exact .inl (by omega)
theorem mapAlts_mem {f : Nat → AV × Heap} {j : Nat} : ∀ {l : List Nat},j ∈ l → f j ∈ mapAlts f l
  | x::l,h=>by
    change f j ∈ f x::mapAlts f l
    rcases List.mem_cons.1 h with rfl | h
    · exact List.mem_cons_self
    · exact List.mem_cons_of_mem _ (mapAlts_mem h)
theorem not_inert_mi {m : Pos} {n : Nat} {s : List Nat} {B : Blk} : ¬ (AO.mi m n s).inert B:=fun ⟨_,_,e⟩=>by cases e
variable {P : Program} {B0 : Nat}
theorem next_alt {o : Oper} {x : Operand} (ho : o.op = .next x false) {r : Tr AV} {μ : Mu} {h : Heap} {w : World} {a : Act} (hh : HR μ B0 h w) (hr : RR μ r a.tmps) {L : List (AV × Heap)} (hL : altsNext x r h = some L) :
    ∃ q ∈ L,EffPost P μ B0 h w a o (.val q.1 q.2):=by
  have hx:=ev_sound hh.glob hr x
  unfold altsNext at hL
  split at hL
  · rename_i id ex
    rw [ex] at hx
    obtain ⟨B,hB,hx⟩:=hx
    split at hL
    · rename_i m n seen hg
      obtain ⟨hb0,M,sn,hM,hw,hsn⟩:=hh.obj id B _ hB hg
      have hx : a.eval x = .pointer (some ⟨B.b,0,none⟩):=by rw [hb0] at hx; simpa using hx
      split at hL
      · rename_i l hgm
        obtain ⟨es,h1,h2⟩:=hh.obj m M _ hM hgm
        have hlen:=MR_len h2
        cases hn : Nat.beq l.length n with
        | false=>rw [hn] at hL; cases hL
        | true =>
          rw [hn] at hL
          have hn:=Nat.eq_of_beq_eq_true hn
          simp only at hL
          have hsz : es.size = n:=by rw [← hn,hlen]; simp
          have hin : ∀ j,j ∈ sn.toList ↔ j ∈ seen:=fun j=>by rw [hsn,List.mem_reverse]
          have hleft : ∀ e,e ∈ (leftOf es sn).toList ↔ e ∈ es.toList∧e.born ∉ seen:=fun e=>by
            unfold leftOf
            rw [Array.toList_filter,List.mem_filter]
            refine and_congr_right fun _=>?_
            rw [Bool.not_eq_true',← Bool.not_eq_true,Array.contains_iff_mem,← Array.mem_toList_iff,hin]
          have hborn : ∀ e ∈ es.toList,es.toList[e.born]? = some e∧e.born < n:=fun e he=>by
            obtain ⟨i,hi⟩:=List.getElem?_of_mem he
            have hil : i < l.length:=by have:=(List.getElem?_eq_some_iff.1 hi).1; omega
            obtain ⟨e',g1,_,_,g4⟩:=MR_get h2 i (x:=l[i]) (List.getElem?_eq_getElem hil)
            rw [hi] at g1
            cases g1
            have : e.born = i:=by omega
            rw [this]
            exact ⟨hi,by omega⟩
          have hrun:=run_next_at (P:=P) w o.type B.b M.b n n sn es es.size hw h1 (fun e he=>(hborn e he).2) (Nat.le_refl _)
          rcases hrun with ⟨hs0,hrun⟩ | ⟨e,he,w1,hw1,hrun⟩
          · have hnil : leftI n seen = []:=by
              rw [List.eq_nil_iff_forall_not_mem]
              intro j hj
              obtain ⟨hj1,hj2⟩:=leftI_mem.1 hj
              obtain ⟨e,g1,_,_,g4⟩:=MR_get h2 j (x:=l[j]'(by omega)) (List.getElem?_eq_getElem (by omega))
              have : e ∈ (leftOf es sn).toList:=(hleft e).2 ⟨List.mem_of_getElem? g1,by rw [g4]; simpa using hj2⟩
              have h0 : (leftOf es sn).toList.length = 0:=by simpa using hs0
              rw [List.length_eq_zero_iff.1 h0] at this
              cases this
            rw [hnil] at hL
            cases hL
            refine ⟨_,List.mem_cons_self,.tuple #[.bool false],μ,w,.inl ?_,⟨#[.bool false],rfl,.bool false,[],rfl,rfl,rfl⟩,Post.refl hh⟩
            simp only [execOp,ho,hx,Sem.run_bind,hrun,Result.andThen_ok,Sem.run_pure]
          · obtain ⟨he1,he2⟩:=(hleft e).1 he
            obtain ⟨hb1,hb2⟩:=hborn e he1
            have hmem : e.born ∈ leftI n seen:=leftI_mem.2 ⟨hb2,he2⟩
            have hLm : (altEntry l e.born,(⟨h.t.set (.mi m n (e.born::seen)) id,h.n⟩ : Heap)) ∈ L:=by
              split at hL
              · rename_i hnil; rw [hnil] at hmem; cases hmem
              · rename_i j js hjs
                cases hL
                rw [hjs] at hmem
                exact mapAlts_mem (f:=fun j=>(altEntry l j,(⟨h.t.set (.mi m n (j::seen)) id,h.n⟩ : Heap))) hmem
            refine ⟨_,hLm,?_⟩
            obtain ⟨e',g1,g2,g3,g4⟩:=MR_get h2 e.born (x:=l[e.born]'(by omega)) (List.getElem?_eq_getElem (by omega))
            rw [hb1] at g1
            cases g1
            have hent : altEntry l e.born = .tup (.cons (.bool true) (.cons (l[e.born]'(by omega)).1 (.cons (l[e.born]'(by omega)).2 .nil))):=by
              unfold altEntry
              rw [List.getElem?_eq_getElem (by omega)]
            rw [hent]
            have hp1 : Post μ B0 h w μ h w1:=by
              rcases hw1 with rfl | rfl
              · exact Post.refl hh
              · exact ⟨fun _ _=>rfl,Nat.le_refl _,HR.heapEq (w:=w) (w':=w.drew) rfl hh,(Below.refl _ _).drew,Grow.refl _ _⟩
            have hw' : w1.heap[B.b]? = some (.mapIter (some M.b) n sn n):=by rcases hw1 with rfl | rfl <;> exact hw
            have hsame : (ChangeMaps.setBlock w1 B.b (.mapIter (some M.b) n (sn.push e.born) es.size)).heap[B.b]? = some (.mapIter (some M.b) n (sn.push e.born) es.size):=by
              show (w1.heap.setIfInBounds B.b _)[B.b]? = _
              exact Array.getElem?_setIfInBounds_self_of_lt (Array.getElem?_eq_some_iff.1 hw').1
            have hother : ∀ k,k ≠ B.b → (ChangeMaps.setBlock w1 B.b (.mapIter (some M.b) n (sn.push e.born) es.size)).heap[k]? = w1.heap[k]?:=fun k hk=>by
              show (w1.heap.setIfInBounds B.b _)[k]? = _
              exact Array.getElem?_setIfInBounds_ne (fun e=>hk e.symm)
            have hp2 : Post μ B0 h w1 μ ⟨h.t.set (.mi m n (e.born::seen)) id,h.n⟩ (ChangeMaps.setBlock w1 B.b (.mapIter (some M.b) n (sn.push e.born) es.size)):=by
              refine ⟨fun _ _=>rfl,Nat.le_refl _,hp1.rel.chg id B hB (.mi m n (e.born::seen)) rfl (.mi m n seen) hg rfl not_inert_mi hother (by simp [ChangeMaps.setBlock]) ⟨hb0,M,sn.push e.born,hM,by rw [hsame,hsz],by simp [hsn]⟩ _ (fun q p e'=>?_),⟨rfl,rfl,rfl,by simp [ChangeMaps.setBlock],fun k hk=>hother k (fun e'=>?_)⟩,Grow.refl _ _⟩
              · rw [Tr.get_set] at e'
                by_cases hq : q = id
                · rw [if_pos hq] at e'; cases e'; exact .inl ⟨hq,rfl⟩
                · rw [if_neg hq] at e'; exact .inr ⟨hq,e'⟩
              · have:=(hh.own id B _ hB hg rfl).resolve_left not_inert_mi
                omega
            refine ⟨.tuple #[.bool true,e.key,e.val],μ,_,.inl ?_,⟨#[.bool true,e.key,e.val],rfl,_,_,rfl,rfl,_,_,rfl,g2,_,_,rfl,g3,rfl⟩,hp1.trans hp2⟩
            simp only [execOp,ho,hx,Sem.run_bind,hrun,Result.andThen_ok,Sem.run_pure]
      · cases hL
    · cases hL
  · cases hL
theorem opStep_of_eff {μ : Mu} {w : World} {b : Frame} {a : Act} {o : Oper} {h h' : Heap} {v : AV} (hnd : ∀ c,o.op ≠ .defer c) (hs : EffPost P μ B0 h w a o (.val v h')) : OpStep P B0 μ h w b a o v h':=by
  intro ops i rest k cs ho hw
  have hfin : ∀ u,(b.atR a (.inRegion ops (i::rest)::k)).finish u = b.atR (a.put o.dst u) (.inRegion ops rest::k):=by
    intro u; rw [Frame.finish_atR,ho]; rfl
  have hg:=stepGR_op (P:=P) (b:=b) (k:=k) (cs:=cs) (w:=w) (rest:=rest) ho hw
  rw [Oper.semAt_eq _ _ _ hnd] at hg
  obtain ⟨cv,μ',w',hrun,hv,hp⟩:=hs
  refine ⟨cv,μ',w',hv,hp,.one (step_lone_go ?_)⟩
  rcases hrun with hrun | ⟨hrun,rfl⟩
  · rw [hg,← hfin]; simp [stepG.apply,hrun]
  · rw [hg,← hfin]; simp [stepG.apply,hrun]
/-! ### Code,whatever the order of the maps' entries -/
noncomputable section
def allAlts (f : AV → Heap → Bool) (l : List (AV × Heap)) : Bool:=List.rec (motive:=fun _=>Bool) true (fun q _ ih=>band (f q.1 q.2) ih) l
def bNext (o : Oper) (x : Operand) (ops : Array Oper) (l : List Oper) (cx : Cx) (k : R → Bool) (r : Tr AV) (m : List Pos) (h : Heap) : Bool :=
  match altsNext x r h with
  | some L=>allAlts (fun v h'=>match putR o.dst cx.nt v r with | some r'=>k (doOps ops l cx r' m h') | none=>false) L
  | none=>false
def isNext (ops : Array Oper) (draw : Bool) : Option (Oper × Operand × List Oper) :=
  match draw,ops.toList with
  | false,o::l=>(match o.guard,o.op with | none,.next x false=>some (o,x,l) | _,_=>none)
  | _,_=>none
def bReg (ops : Array Oper) (draw : Bool) (cx : Cx) (k : R → Bool) (r : Tr AV) (m : List Pos) (h : Heap) : Bool :=
  match isNext ops draw with
  | some q=>bNext q.1 q.2.1 ops q.2.2 cx k r m h
  | none=>k (drawOps ops draw cx r m h)
abbrev BRun:=(R → Bool) → Tr AV → List Pos → Heap → Bool
def bIter (ra : BRun) (n : Nat) : BRun :=
  Nat.rec (motive:=fun _=>BRun) (fun _ _ _ _=>false) (fun _ ih k r m h=>ra (fun x=>R.casesOn (motive:=fun _=>Bool) x false (fun r m h=>ih k r m h) (fun i r m h=>k (.exit i r m h)) (fun r m h=>k (.ret r m h))) r m h) n
def bCode (N : Nat) (cx : Cx) (c : Code) : BRun :=
  Code.rec (motive:=fun _=>BRun)
    (fun k r m h=>k (.ok r m h))
    (fun _ ops draw k r m h=>bReg ops draw cx k r m h)
    (fun _ _ ra rb k r m h=>ra (fun x=>R.casesOn (motive:=fun _=>Bool) x false (fun r m h=>rb k r m h) (fun i r m h=>k (.exit i r m h)) (fun r m h=>k (.ret r m h))) r m h)
    (fun c _ _ ra rb k r m h=>match ev c r with | .bool t=>Bool.casesOn (motive:=fun _=>Bool) t (rb k r m h) (ra k r m h) | _=>false)
    (fun id _ ra k r m h=>ra (fun x=>R.casesOn (motive:=fun _=>Bool) x false (fun r m h=>k (.ok r m h)) (fun i r m h=>Bool.casesOn (motive:=fun _=>Bool) (Nat.beq i id) (k (.exit i r m h)) (k (.ok r m h))) (fun r m h=>k (.ret r m h))) r m h)
    (fun _ ra=>bIter ra N)
    (fun f ps a b _ _ k r m h=>k (xRangeFunc f ps a b cx r m h))
    (fun id k r m h=>k (.exit id r m h))
    (fun _ ra=>ra)
    (fun _ k r m h=>k (.ok r m h))
    (fun _ _ _ _ _=>false)
    (fun k r m h=>k (.ret r m h))
    (fun _ _ _ _ _=>false) c
end
theorem allAlts_mem {f : AV → Heap → Bool} : ∀ {l : List (AV × Heap)},allAlts f l = true → ∀ q ∈ l,f q.1 q.2 = true
  | [],_,q,hq=>by cases hq
  | x::l,h,q,hq=>by
    obtain ⟨h1,h2⟩:=band_iff.1 (show band (f x.1 x.2) (allAlts f l) = true from h)
    rcases List.mem_cons.1 hq with rfl | hq
    · exact h1
    · exact allAlts_mem h2 q hq
theorem isNext_some {ops : Array Oper} {draw : Bool} {q : Oper × Operand × List Oper} (h : isNext ops draw = some q) : draw = false∧ops.toList = q.1::q.2.2∧q.1.guard = none∧q.1.op = .next q.2.1 false:=by
  unfold isNext at h
  split at h
  · rename_i o l hl
    split at h
    · rename_i x hg hx
      cases h
      exact ⟨rfl,hl,hg,hx⟩
    · cases h
  · cases h
theorem RPost.toRW {μ : Mu} {h : Heap} {w : World} {nt : Nat} {b : Frame} {S : List Item → List Frame → Machine} {x : R} (hx : x ≠ .fail) (hp : RPost P B0 μ h w nt b S x) (k : List Item) (cs : List Frame) : RW P B0 μ h.n w nt b k cs (S k cs) x:=by
  cases x with
  | fail=>exact hx rfl
  | ok r m h'=>obtain ⟨μ',a',w',hp,h1,h2⟩:=hp k cs; exact ⟨μ',a',w',.of_post hp,h1,h2⟩
  | exit i r m h'=>obtain ⟨μ',a',w',hp,h1,h2⟩:=hp k cs; exact ⟨μ',a',w',.of_post hp,h1,h2⟩
  | ret r m h'=>obtain ⟨μ',a',w',hp,h1,h2⟩:=hp k cs; exact ⟨μ',a',w',.of_post hp,h1,h2⟩
section
variable {cx : Cx}
theorem bNext_sound (hP : cx.P = P) (hcall : CallOK P B0 cx.call) {id : Nat} {ops : Array Oper} {o : Oper} {x : Operand} {l : List Oper} (hl : ops.toList = o::l) (hgd : o.guard = none) (ho : o.op = .next x false) {k : R → Bool} (hk : k .fail = false) {r : Tr AV} {m : List Pos} {h : Heap}
    (hb : bNext o x ops l cx k r m h = true) : Cw P B0 cx (.region id ops false) r m h (fun x=>k x = true):=by
  intro μ w b a kk cs hr ha hf
  unfold bNext at hb
  split at hb
  · rename_i L hL
    obtain ⟨q,hq,hs⟩:=next_alt (P:=P) ho hr ha.rr hL
    have hq:=allAlts_mem hb q hq
    split at hq
    · rename_i r' hput
      have hne : doOps ops l cx r' m q.2 ≠ .fail:=fun e=>by rw [e,hk] at hq; cases hq
      refine ⟨_,hq,?_⟩
      have hop : ops[0]? = some o:=by rw [← Array.getElem?_toList,hl]; rfl
      have hst:=opStep_of_eff (b:=b) (fun c e=>by rw [ho] at e; cases e) hs
      have hwant : Region.wanted o (yielded ops a.tmps) = true:=by unfold Region.wanted; rw [hgd]
      obtain ⟨cv,μ',w',hv,hp,hsteps⟩:=hst ops 0 (List.range' 1 l.length) kk cs hop hwant
      obtain ⟨g1,g2,g3⟩:=putR_sound hput (ha.rr.mono (hp.mu hr)) ha.size hv
      have hrest:=doOps_sound hP hcall (b:=b) (ops:=ops) l 1 r' m q.2 μ' w' (a.put o.dst cv) (fun n o' hn=>by
        rw [← Array.getElem?_toList,hl,show 1 + n = n + 1 by omega]
        simpa using hn) hp.rel ⟨g1,g2,by rw [g3]; exact ha.dr.mono (hp.mu hr)⟩
      have hRW:=RPost.toRW hne hrest kk cs
      refine hRW.ahead ?_ hp.below (Aft.of_post hp).seals
      have h0:=stepR_region (P:=P) (b:=b) (a:=a) (k:=kk) (cs:=cs) (w:=w) (ops:=ops) (id:=id)
      have hsz : List.range ops.size = 0::List.range' 1 l.length:=by
        rw [← Array.length_toList,hl,List.length_cons,List.range_eq_range',List.range'_succ]
      rw [hsz] at h0
      exact (Steps.one h0).trans hsteps
    · cases hq
  · cases hb
theorem Cw.of_det (hm : P.follows .mixedOrders = true) (hP : cx.P = P) (hrd : cx.rd = none) (hcall : CallOK P B0 cx.call) {c : Code} {k : R → Bool} (hk : k .fail = false) {r : Tr AV} {m : List Pos} {h : Heap} (hb : k (xCode c cx r m h) = true) : Cw P B0 cx c r m h (fun x=>k x = true) :=
  Cw.of_run hrd (code_sound hm hP hcall c) rfl (fun e=>by rw [e,hk] at hb; cases hb) hb
theorem toQK {k : R → Bool} (hk : k .fail = false) {x : R} (h : k x = true) : QK (fun r m h=>k (.ok r m h) = true) (fun r m h=>k (.ret r m h) = true) (fun i r m h=>k (.exit i r m h) = true) x:=by
  cases x with
  | fail=>rw [hk] at h; cases h
  | _=>exact h
theorem ofQK {k : R → Bool} {x : R} (h : QK (fun r m h=>k (.ok r m h) = true) (fun r m h=>k (.ret r m h) = true) (fun i r m h=>k (.exit i r m h) = true) x) : k x = true:=by
  cases x with
  | fail=>exact h.elim
  | _=>exact h
theorem bIter_sound {body : Code} {ra : BRun} (hb : ∀ {k : R → Bool} {r : Tr AV} {m : List Pos} {h : Heap},k .fail = false → ra k r m h = true → Cw P B0 cx body r m h (fun x=>k x = true)) : ∀ (n : Nat) {k : R → Bool} {r : Tr AV} {m : List Pos} {h : Heap},k .fail = false → bIter ra n k r m h = true →
    ∀ (μ : Mu) (w : World) (b : Frame) (a : Act) (kk : List Item) (cs : List Frame),HR μ B0 h w → AR μ cx.nt r m a → FR0 cx b → ∃ x,k x = true∧RW P B0 μ h.n w cx.nt b kk cs (lone (b.atR a (.code body::.inLoop body::kk)) cs w) x
  | 0,k,r,m,h,_,e=>by cases e
  | n + 1,k,r,m,h,hk,e=>by
    intro μ w b a kk cs hr ha hf
    obtain ⟨z,h1,h2⟩:=hb (k:=fun x=>R.casesOn (motive:=fun _=>Bool) x false (fun r m h=>bIter ra n k r m h) (fun i r m h=>k (.exit i r m h)) (fun r m h=>k (.ret r m h))) rfl e μ w b a (.inLoop body::kk) cs hr ha hf
    cases z with
    | fail=>exact h2.elim
    | ok r1 m1 h1' =>
      obtain ⟨μ1,a1,w1,hp,ha1,hs1⟩:=h2
      obtain ⟨x,e1,e2⟩:=bIter_sound hb n hk h1 μ1 w1 b a1 kk cs hp.rel ha1 hf
      exact ⟨x,e1,e2.ahead (hs1.trans (.one stepR_inLoop)) hp.below hp.seals⟩
    | exit i r1 m1 h1' =>
      obtain ⟨μ1,a1,w1,hp,ha1,k',he,hs1⟩:=h2
      exact ⟨.exit i r1 m1 h1',h1,μ1,a1,w1,hp,ha1,k',he,hs1⟩
    | ret r1 m1 h1' =>
      obtain ⟨μ1,a1,w1,hp,ha1,k',hs1⟩:=h2
      exact ⟨.ret r1 m1 h1',h1,μ1,a1,w1,hp,ha1,k',hs1⟩
theorem bCode_sound (hm : P.follows .mixedOrders = true) (hP : cx.P = P) (hrd : cx.rd = none) (hcall : CallOK P B0 cx.call) (N : Nat) : ∀ (c : Code) {k : R → Bool} {r : Tr AV} {m : List Pos} {h : Heap},k .fail = false → bCode N cx c k r m h = true → Cw P B0 cx c r m h (fun x=>k x = true):=by
  intro c
  induction c with
  | skip=>intro k r m h hk e; exact Cw.of_det hm hP hrd hcall hk e
  | region id ops draw =>
    intro k r m h hk e
    change bReg ops draw cx k r m h = true at e
    unfold bReg at e
    split at e
    · rename_i q hq
      obtain ⟨rfl,h1,h2,h3⟩:=isNext_some hq
      exact bNext_sound hP hcall h1 h2 h3 hk e
    · exact Cw.of_det hm hP hrd hcall hk e
  | seq a b iha ihb =>
    intro k r m h hk e
    refine Cw.mono (fun x hx=>ofQK hx) (Cw.seq (Cw.mono ?_ (iha (k:=fun x=>R.casesOn (motive:=fun _=>Bool) x false (fun r m h=>bCode N cx b k r m h) (fun i r m h=>k (.exit i r m h)) (fun r m h=>k (.ret r m h))) rfl e)))
    intro x hx
    cases x with
    | fail=>cases hx
    | ok r m h=>exact Cw.mono (fun x hx=>toQK hk hx) (ihb hk hx)
    | exit i r m h=>exact hx
    | ret r m h=>exact hx
  | cond c a b iha ihb =>
    intro k r m h hk e
    change (match ev c r with | .bool t=>Bool.casesOn (motive:=fun _=>Bool) t (bCode N cx b k r m h) (bCode N cx a k r m h) | _=>false) = true at e
    split at e
    · rename_i t ht
      refine Cw.cond ht (fun h1=>?_) (fun h1=>?_)
      · subst h1; exact iha hk e
      · subst h1; exact ihb hk e
    · cases e
  | block id x ih =>
    intro k r m h hk e
    refine Cw.mono (fun x hx=>ofQK hx) (Cw.block (Cw.mono ?_ (ih (k:=fun x=>R.casesOn (motive:=fun _=>Bool) x false (fun r m h=>k (.ok r m h)) (fun i r m h=>Bool.casesOn (motive:=fun _=>Bool) (Nat.beq i id) (k (.exit i r m h)) (k (.ok r m h))) (fun r m h=>k (.ret r m h))) rfl e)))
    intro x hx
    cases x with
    | fail=>cases hx
    | ok r m h=>exact hx
    | exit i r m h =>
      change Bool.casesOn (motive:=fun _=>Prop) (Nat.beq i id) _ _
      have hx : Bool.casesOn (motive:=fun _=>Bool) (Nat.beq i id) (k (.exit i r m h)) (k (.ok r m h)) = true:=hx
      cases hi : Nat.beq i id with
      | true=>rw [hi] at hx; exact hx
      | false=>rw [hi] at hx; exact hx
    | ret r m h=>exact hx
  | loop x ih =>
    intro k r m h hk e
    intro μ w b a kk cs hr ha hf
    obtain ⟨z,h1,h2⟩:=bIter_sound (fun hk e=>ih hk e) N hk (show bIter (bCode N cx x) N k r m h = true from e) μ w b a kk cs hr ha hf
    exact ⟨z,h1,h2.ahead (.one stepR_loop) (Below.refl _ _) (GrowK.refl _ _ _)⟩
  | rangeFunc f ps a b _ _=>intro k r m h hk e; exact Cw.of_det hm hP hrd hcall hk e
  | exit id=>intro k r m h hk e; exact Cw.of_det hm hP hrd hcall hk e
  | scope x ih =>
    intro k r m h hk e
    exact Cw.mono (fun x hx=>ofQK hx) (Cw.scope (Cw.mono (fun x hx=>toQK hk hx) (ih hk e)))
  | label _=>intro k r m h hk e; exact Cw.of_det hm hP hrd hcall hk e
  | goto _=>intro k r m h hk e; cases e
  | ret=>intro k r m h hk e; exact Cw.of_det hm hP hrd hcall hk e
  | refuse _=>intro k r m h hk e; cases e
end
end Go.Sy
namespace Go.Sy
open Go.RowKit
set_option linter.unusedVariables false
set_option linter.unusedSimpArgs false
set_option linter.unusedSectionVars false
variable [Tabs]
variable {P : Program} {B0 : Nat} {cx : Cx}
/-! ### What is asked of every outcome,part by part -/
theorem allAlts_and {f1 f2 f3 : AV → Heap → Bool} (hf : ∀ v h,f1 v h = true → f2 v h = true → f3 v h = true) : ∀ {l : List (AV × Heap)},allAlts f1 l = true → allAlts f2 l = true → allAlts f3 l = true
  | [],_,_=>rfl
  | x::l,h1,h2=>by
    obtain ⟨a1,b1⟩:=band_iff.1 (show band (f1 x.1 x.2) (allAlts f1 l) = true from h1)
    obtain ⟨a2,b2⟩:=band_iff.1 (show band (f2 x.1 x.2) (allAlts f2 l) = true from h2)
    exact band_iff.2 ⟨hf _ _ a1 a2,allAlts_and hf b1 b2⟩
theorem bIter_and {ra : BRun} (hra : ∀ {k1 k2 k3 : R → Bool},(∀ x,k1 x = true → k2 x = true → k3 x = true) → ∀ {r m h},ra k1 r m h = true → ra k2 r m h = true → ra k3 r m h = true) : ∀ (n : Nat) {k1 k2 k3 : R → Bool},(∀ x,k1 x = true → k2 x = true → k3 x = true) → ∀ {r m h},bIter ra n k1 r m h = true → bIter ra n k2 r m h = true → bIter ra n k3 r m h = true
  | 0,_,_,_,_,_,_,_,h1,_=>by cases h1
  | n + 1,k1,k2,k3,hk,r,m,h,h1,h2=>by
    refine hra (k1:=fun x=>R.casesOn (motive:=fun _=>Bool) x false (fun r m h=>bIter ra n k1 r m h) (fun i r m h=>k1 (.exit i r m h)) (fun r m h=>k1 (.ret r m h)))
      (k2:=fun x=>R.casesOn (motive:=fun _=>Bool) x false (fun r m h=>bIter ra n k2 r m h) (fun i r m h=>k2 (.exit i r m h)) (fun r m h=>k2 (.ret r m h)))
      (k3:=fun x=>R.casesOn (motive:=fun _=>Bool) x false (fun r m h=>bIter ra n k3 r m h) (fun i r m h=>k3 (.exit i r m h)) (fun r m h=>k3 (.ret r m h))) ?_ h1 h2
    intro x e1 e2
    cases x with
    | fail=>cases e1
    | ok r m h=>exact bIter_and hra n hk e1 e2
    | exit i r m h=>exact hk _ e1 e2
    | ret r m h=>exact hk _ e1 e2
theorem bCode_and (N : Nat) : ∀ (c : Code) {k1 k2 k3 : R → Bool},(∀ x,k1 x = true → k2 x = true → k3 x = true) → ∀ {r m h},bCode N cx c k1 r m h = true → bCode N cx c k2 r m h = true → bCode N cx c k3 r m h = true:=by
  intro c
  induction c with
  | region id ops draw =>
    intro k1 k2 k3 hk r m h h1 h2
    change bReg ops draw cx k1 r m h = true at h1
    change bReg ops draw cx k2 r m h = true at h2
    show bReg ops draw cx k3 r m h = true
    unfold bReg at h1 h2 ⊢
    generalize isNext ops draw = z at h1 h2 ⊢
    cases z with
    | none=>exact hk _ h1 h2
    | some q =>
      simp only at h1 h2 ⊢
      unfold bNext at h1 h2 ⊢
      generalize altsNext q.2.1 r h = y at h1 h2 ⊢
      cases y with
      | none=>cases h1
      | some L =>
        refine allAlts_and (fun v h'=>?_) h1 h2
        intro e1 e2
        cases hp : putR q.1.dst cx.nt v r with
        | none=>simp only [hp] at e1; cases e1
        | some r'=>simp only [hp] at e1 e2 ⊢; exact hk _ e1 e2
  | seq a b iha ihb =>
    intro k1 k2 k3 hk r m h h1 h2
    refine iha (k1:=fun x=>R.casesOn (motive:=fun _=>Bool) x false (fun r m h=>bCode N cx b k1 r m h) (fun i r m h=>k1 (.exit i r m h)) (fun r m h=>k1 (.ret r m h)))
      (k2:=fun x=>R.casesOn (motive:=fun _=>Bool) x false (fun r m h=>bCode N cx b k2 r m h) (fun i r m h=>k2 (.exit i r m h)) (fun r m h=>k2 (.ret r m h)))
      (k3:=fun x=>R.casesOn (motive:=fun _=>Bool) x false (fun r m h=>bCode N cx b k3 r m h) (fun i r m h=>k3 (.exit i r m h)) (fun r m h=>k3 (.ret r m h))) ?_ h1 h2
    intro x e1 e2
    cases x with
    | fail=>cases e1
    | ok r m h=>exact ihb hk e1 e2
    | exit i r m h=>exact hk _ e1 e2
    | ret r m h=>exact hk _ e1 e2
  | cond c a b iha ihb =>
    intro k1 k2 k3 hk r m h h1 h2
    change (match ev c r with | .bool t=>Bool.casesOn (motive:=fun _=>Bool) t (bCode N cx b k1 r m h) (bCode N cx a k1 r m h) | _=>false) = true at h1
    change (match ev c r with | .bool t=>Bool.casesOn (motive:=fun _=>Bool) t (bCode N cx b k2 r m h) (bCode N cx a k2 r m h) | _=>false) = true at h2
    show (match ev c r with | .bool t=>Bool.casesOn (motive:=fun _=>Bool) t (bCode N cx b k3 r m h) (bCode N cx a k3 r m h) | _=>false) = true
    generalize ev c r = y at h1 h2 ⊢
    cases y with
    | bool t =>
      cases t with
      | true=>exact iha hk h1 h2
      | false=>exact ihb hk h1 h2
    | _=>cases h1
  | block id x ih =>
    intro k1 k2 k3 hk r m h h1 h2
    refine ih (k1:=fun x=>R.casesOn (motive:=fun _=>Bool) x false (fun r m h=>k1 (.ok r m h)) (fun i r m h=>Bool.casesOn (motive:=fun _=>Bool) (Nat.beq i id) (k1 (.exit i r m h)) (k1 (.ok r m h))) (fun r m h=>k1 (.ret r m h)))
      (k2:=fun x=>R.casesOn (motive:=fun _=>Bool) x false (fun r m h=>k2 (.ok r m h)) (fun i r m h=>Bool.casesOn (motive:=fun _=>Bool) (Nat.beq i id) (k2 (.exit i r m h)) (k2 (.ok r m h))) (fun r m h=>k2 (.ret r m h)))
      (k3:=fun x=>R.casesOn (motive:=fun _=>Bool) x false (fun r m h=>k3 (.ok r m h)) (fun i r m h=>Bool.casesOn (motive:=fun _=>Bool) (Nat.beq i id) (k3 (.exit i r m h)) (k3 (.ok r m h))) (fun r m h=>k3 (.ret r m h))) ?_ h1 h2
    intro x e1 e2
    cases x with
    | fail=>cases e1
    | ok r m h=>exact hk _ e1 e2
    | exit i r m h =>
      have e1 : Bool.casesOn (motive:=fun _=>Bool) (Nat.beq i id) (k1 (.exit i r m h)) (k1 (.ok r m h)) = true:=e1
      have e2 : Bool.casesOn (motive:=fun _=>Bool) (Nat.beq i id) (k2 (.exit i r m h)) (k2 (.ok r m h)) = true:=e2
      show Bool.casesOn (motive:=fun _=>Bool) (Nat.beq i id) (k3 (.exit i r m h)) (k3 (.ok r m h)) = true
      cases hi : Nat.beq i id with
      | true=>rw [hi] at e1 e2; exact hk _ e1 e2
      | false=>rw [hi] at e1 e2; exact hk _ e1 e2
    | ret r m h=>exact hk _ e1 e2
  | loop x ih=>intro k1 k2 k3 hk r m h h1 h2; exact bIter_and (ra:=bCode N cx x) (fun {k1 k2 k3} hk {r m h} e1 e2=>ih (k1:=k1) (k2:=k2) (k3:=k3) hk e1 e2) N hk (show bIter (bCode N cx x) N k1 r m h = true from h1) (show bIter (bCode N cx x) N k2 r m h = true from h2)
  | scope x ih=>intro k1 k2 k3 hk r m h h1 h2; exact ih hk h1 h2
  | goto _=>intro k1 k2 k3 hk r m h h1 h2; cases h1
  | refuse _=>intro k1 k2 k3 hk r m h h1 h2; cases h1
  | _=>intro k1 k2 k3 hk r m h h1 h2; exact hk _ h1 h2
/-! ### The first pieces -/
noncomputable section
def dropSeq (k : Nat) : Code → Code:=Nat.rec (motive:=fun _=>Code → Code) (fun c=>c) (fun _ ih c=>match c with | .seq _ b=>ih b | _=>.refuse "") k
structure St where
  r : Tr AV
  m : List Pos
  h : Heap
def xPre (k : Nat) : Code → Cx → Tr AV → List Pos → Heap → Option St :=
  Nat.rec (motive:=fun _=>Code → Cx → Tr AV → List Pos → Heap → Option St) (fun _ _ r m h=>some ⟨r,m,h⟩)
    (fun _ ih c cx r m h=>match c with
      | .seq a b=>R.casesOn (motive:=fun _=>Option St) (xCode a cx r m h) none (fun r m h=>ih b cx r m h) (fun _ _ _ _=>none) (fun _ _ _=>none)
      | _=>none) k
def finB (P : Program) (fn : Func) (v : AV) (r : Tr AV) (m : List Pos) (h : Heap) : Bool :=
  match takeMarks m h with
  | some h2=>(match resL P fn.results.toList r h2 with
    | some l=>(match sealD 10000 h2 (resV l) with | some u=>aeq u v | none=>false)
    | none=>false)
  | none=>false
def kFin (P : Program) (fn : Func) (v : AV) (x : R) : Bool :=
  R.casesOn (motive:=fun _=>Bool) x false (fun r m h=>finB P fn v r m h) (fun _ _ _ _=>false) (fun r m h=>finB P fn v r m h)
end
theorem finB_ok {fn : Func} {v : AV} {r : Tr AV} {m : List Pos} {h : Heap} (e : finB P fn v r m h = true) : Fin P fn v r m h:=by
  unfold finB at e
  unfold Fin
  split at e
  · rename_i h2 h1
    rw [h1]
    split at e
    · rename_i l hl
      split at e
      · rename_i u hu
        show fLo (resL P fn.results.toList r h2) (fun l=>fV (resV l) fun u=>SealV h2 u v)
        rw [hl]
        show fV (resV l) (fun u=>SealV h2 u v)
        rw [fV_eq,← aeq_eq e]
        exact (sealD_sound _ hu).1
      · cases e
    · cases e
  · cases e
theorem kFin_QK {fn : Func} {v : AV} {x : R} (e : kFin P fn v x = true) : QK (Fin P fn v) (Fin P fn v) (fun _ _ _ _=>False) x:=by
  cases x with
  | fail=>cases e
  | ok r m h=>exact finB_ok e
  | exit i r m h=>cases e
  | ret r m h=>exact finB_ok e
theorem xPre_sound (hm : P.follows .mixedOrders = true) (hP : cx.P = P) (hrd : cx.rd = none) (hcall : CallOK P B0 cx.call) {kOk kRet : KC} {kEx : Nat → KC} : ∀ (k : Nat) {c : Code} {r : Tr AV} {m : List Pos} {h : Heap} {s : St},xPre k c cx r m h = some s → Cw P B0 cx (dropSeq k c) s.r s.m s.h (QK kOk kRet kEx) → Cw P B0 cx c r m h (QK kOk kRet kEx)
  | 0,c,r,m,h,s,e,hs=>by cases e; exact hs
  | k + 1,c,r,m,h,s,e,hs=>by
    cases c with
    | seq a b =>
      change (R.casesOn (motive:=fun _=>Option St) (xCode a cx r m h) none (fun r m h=>xPre k b cx r m h) (fun _ _ _ _=>none) (fun _ _ _=>none)) = some s at e
      cases hx : xCode a cx r m h with
      | fail=>rw [hx] at e; cases e
      | exit i r m h=>rw [hx] at e; cases e
      | ret r m h=>rw [hx] at e; cases e
      | ok r1 m1 h1 =>
        rw [hx] at e
        exact Cw.seq (Cw.of_run hrd (code_sound hm hP hcall a) hx (by simp) (xPre_sound hm hP hrd hcall k e hs))
    | _=>cases e
theorem Cw.seqB (hm : P.follows .mixedOrders = true) (hP : cx.P = P) (hrd : cx.rd = none) (hcall : CallOK P B0 cx.call) {N : Nat} {a b : Code} {k : R → Bool} {r : Tr AV} {m : List Pos} {h : Heap} (hk : k .fail = false)
    (hb : bCode N cx a (fun x=>R.casesOn (motive:=fun _=>Bool) x false (fun r m h=>bCode N cx b k r m h) (fun i r m h=>k (.exit i r m h)) (fun r m h=>k (.ret r m h))) r m h = true) : Cw P B0 cx (.seq a b) r m h (fun x=>k x = true) :=
  bCode_sound hm hP hrd hcall N (.seq a b) hk hb
end Go.Sy
namespace Go.Sy
open Go.RowKit
set_option linter.unusedVariables false
set_option linter.unusedSimpArgs false
set_option linter.unusedSectionVars false
variable [Tabs]
variable {P : Program} {B0 : Nat}
theorem HR.lessA {μ : Mu} {h : Heap} {w : World} (hr : HR μ B0 h w) (t : Tr AO) (n' : Pos) (hn : h.n.toNat ≤ n'.toNat)
    (key : ∀ q p,t.get q = some p → ∃ o,h.t.get q = some o∧(∀ B,OBR μ w.heap B o → OBR μ w.heap B p)∧o.isRo = p.isRo∧∀ B,o.inert B → p.inert B) : HR μ B0 ⟨t,n'⟩ w:=by
  refine ⟨fun id B e=>Nat.lt_of_lt_of_le (hr.fresh id B e) hn,fun id o e=>?_,fun id B p e1 e2=>?_,fun i j A B o p hij e1 e2 e3 e4=>?_,fun id B p e1 e2 e3=>?_,hr.glob,hr.size,hr.sld,fun id B p e1 e2 e3=>?_,hr.tab⟩
  · obtain ⟨o',h1,_⟩:=key id o e
    exact Nat.lt_of_lt_of_le (hr.live id o' h1) hn
  · obtain ⟨o',h1,h2,_⟩:=key id p e2
    exact h2 B (hr.obj id B o' e1 h1)
  · obtain ⟨o',h1,_,_,h4⟩:=key i o e3
    obtain ⟨p',g1,_,_,g4⟩:=key j p e4
    rcases hr.sep i j A B o' p' hij e1 e2 h1 g1 with h | h | h
    · exact .inl h
    · exact .inr (.inl (h4 A h))
    · exact .inr (.inr (g4 B h))
  · obtain ⟨o',h1,_,h3,h4⟩:=key id p e2
    exact (hr.own id B o' e1 h1 (h3.trans e3)).imp (h4 B) (fun x=>x)
  · obtain ⟨o',h1,_,h3,h4⟩:=key id p e2
    exact (hr.apart id B o' e1 h1 (h3.trans e3)).imp (h4 B) (fun x=>x)
noncomputable section
def canR (sm so : Nat) (idB : Pos) : Tr AV:=(Tr.leaf.set (.ptr idB 0) (pathOf sm)).set .nils (pathOf so)
def canH (idB idM n' : Pos) (es : List (AV × AV)) : Heap:=⟨(Tr.leaf.set (.cells (Tr.leaf.set (.map idM) (pathOf 0)) 1 false) idB).set (.mp es) idM,n'⟩
def mpEq (l : List (AV × AV)) : List (AV × AV) → Bool :=
  List.rec (motive:=fun _=>List (AV × AV) → Bool) (fun k=>match k with | []=>true | _::_=>false) (fun x _ ih k=>match k with | []=>false | y::k=>band (aeq x.1 y.1) (band (aeq x.2 y.2) (ih k))) l
def canB (sm so : Nat) (idB idM n' : Pos) (es : List (AV × AV)) (s : St) : Bool :=
  match s.m,s.r.get (pathOf sm),s.r.get (pathOf so),s.h.t.get idB,s.h.t.get idM with
  | [],some (.ptr p 0),some .nils,some (.cells t 1 false),some (.mp l) =>
    band (p.beq idB) (band (Nat.ble s.h.n.toNat n'.toNat) (band (mpEq l es) (match t.get (pathOf 0) with | some (.map q)=>q.beq idM | _=>false)))
  | _,_,_,_,_=>false
end
theorem mpEq_eq : ∀ {l k : List (AV × AV)},mpEq l k = true → l = k
  | [],[],_=>rfl
  | [],_::_,h=>by cases h
  | _::_,[],h=>by cases h
  | x::l,y::k,h=>by
    obtain ⟨h1,h2⟩:=band_iff.1 (show band (aeq x.1 y.1) (band (aeq x.2 y.2) (mpEq l k)) = true from h)
    obtain ⟨h2,h3⟩:=band_iff.1 h2
    rw [mpEq_eq h3,show x = y from Prod.ext (aeq_eq h1) (aeq_eq h2)]
theorem canB_sub {nt sm so : Nat} {idB idM n' : Pos} {es : List (AV × AV)} {s : St} (h : canB sm so idB idM n' es s = true) : Sub B0 nt s.r s.m s.h (canR sm so idB) [] (canH idB idM n' es):=by
  unfold canB at h
  split at h
  · rename_i p t l hm hp hn hc hl
    obtain ⟨a1,b2⟩:=band_iff.1 h
    obtain ⟨a2,b3⟩:=band_iff.1 b2
    obtain ⟨a3,h4⟩:=band_iff.1 b3
    clear h b2 b3
    have h1:=Pos.beq_eq _ _ a1
    have h2:=Nat.le_of_ble_eq_true a2
    have h3:=mpEq_eq a3
    clear a1 a3
    subst h1; subst h3
    have h5 : t.get (pathOf 0) = some (.map idM):=by
      split at h4
      · rename_i q hq; rw [hq,Pos.beq_eq _ _ h4]
      · cases h4
    intro μ w a hr ha
    refine ⟨μ,.to h2,HR.lessA hr _ n' h2 (fun q o e=>?_),⟨fun k u hk=>?_,ha.size,by have:=ha.dr; rw [hm] at this; exact this⟩⟩
    · change ((Tr.leaf.set (.cells (Tr.leaf.set (.map idM) (pathOf 0)) 1 false) p).set (.mp l) idM).get q = some o at e
      rw [Tr.get_set] at e
      by_cases hq : q = idM
      · rw [if_pos hq] at e
        cases e
        subst hq
        exact ⟨_,hl,fun B h=>h,rfl,fun B h=>h⟩
      · rw [if_neg hq,Tr.get_set] at e
        by_cases hq2 : q = p
        · rw [if_pos hq2] at e
          cases e
          subst hq2
          refine ⟨_,hc,fun B hB=>?_,rfl,fun B hB=>absurd hB not_inert_cells⟩
          obtain ⟨h0,c,el,fz,g1,g2,g3,g4⟩:=hB
          refine ⟨h0,c,el,fz,g1,g2,g3,fun k v e=>?_⟩
          rw [Tr.get_set] at e
          by_cases hk : pathOf k = pathOf 0
          · rw [if_pos hk] at e
            cases e
            exact g4 k _ (by rw [hk]; exact h5)
          · rw [if_neg hk] at e; cases e
        · rw [if_neg hq2] at e; cases e
    · change ((Tr.leaf.set (.ptr p 0) (pathOf sm)).set .nils (pathOf so)).get (pathOf k) = some u at hk
      rw [Tr.get_set] at hk
      by_cases h1 : pathOf k = pathOf so
      · rw [if_pos h1] at hk
        cases hk
        exact ha.rr k _ (by rw [h1]; exact hn)
      · rw [if_neg h1,Tr.get_set] at hk
        by_cases h2 : pathOf k = pathOf sm
        · rw [if_pos h2] at hk
          cases hk
          exact ha.rr k _ (by rw [h2]; exact hp)
        · rw [if_neg h2] at hk; cases hk
  · cases h
theorem Cw.cx {f : FuncId} {nt fuel fuel' : Nat} {call call' : Tgt → AV → Heap → CR} {c : Code} {r : Tr AV} {m : List Pos} {h : Heap} {Q : R → Prop} (hc : Cw P B0 ⟨P,f,nt,none,call,fuel⟩ c r m h Q) : Cw P B0 ⟨P,f,nt,none,call',fuel'⟩ c r m h Q :=
  fun μ w b a k cs hr ha hb=>hc μ w b a k cs hr ha ⟨hb.1,hb.2,hb.3⟩
theorem PF.of_alt (hm : P.follows .mixedOrders = true) (hlen : Tabs.l.length ≤ 64) {f : FuncId} {fn : Func} {c : Code} (hf : P.funcs[f]? = some fn) (hb : fn.body = some c) {as v : AV} {r : Tr AV} (har : argsR as 0 fn.ntmps .leaf = some r) (hpure : PureL as)
    {call : Tgt → AV → Heap → CR} (hcall : ∀ B0,CallOK P B0 call) {k fuel : Nat} {s : St} (hpre : xPre k c ⟨P,f,fn.ntmps,none,call,fuel⟩ r [] (startWith Tabs.l 64) = some s) {r1 : Tr AV} {m1 : List Pos} {h1 : Heap} (hsub : ∀ B0,Sub B0 fn.ntmps s.r s.m s.h r1 m1 h1)
    {call' : Tgt → AV → Heap → CR} {fuel' : Nat} (htail : ∀ B0,Cw P B0 ⟨P,f,fn.ntmps,none,call',fuel'⟩ (dropSeq k c) r1 m1 h1 (fun x=>kFin P fn v x = true)) : PF P f as v:=by
  refine PF.of_cw hlen hf hb har hpure (call:=call) (h0:=startWith Tabs.l 64) (fun _ _ e=>e) rfl (fun B0=>?_)
  have h2 : Cw P B0 ⟨P,f,fn.ntmps,none,call,fuel⟩ (dropSeq k c) s.r s.m s.h (QK (Fin P fn v) (Fin P fn v) (fun _ _ _ _=>False)) :=
    Cw.weaken (cx:=⟨P,f,fn.ntmps,none,call,fuel⟩) (hsub B0) (Cw.mono (fun x hx=>kFin_QK hx) (Cw.cx (htail B0)))
  exact Cw.cx (xPre_sound (cx:=⟨P,f,fn.ntmps,none,call,fuel⟩) hm rfl rfl (hcall B0) k hpre h2)
theorem Cw.alt_rest (hm : P.follows .mixedOrders = true) {cx : Cx} (hP : cx.P = P) (hrd : cx.rd = none) (hcall : CallOK P B0 cx.call) {N : Nat} {c a b : Code} (hc : c = .seq a b) {fn : Func} {v : AV} {r : Tr AV} {m : List Pos} {h : Heap}
    (hb : bCode N cx a (fun x=>R.casesOn (motive:=fun _=>Bool) x false (fun r m h=>kFin P fn v (xCode b cx r m h)) (fun _ _ _ _=>false) (fun _ _ _=>false)) r m h = true) : Cw P B0 cx c r m h (fun x=>kFin P fn v x = true):=by
  subst hc
  have h1:=bCode_sound hm hP hrd hcall N a (k:=fun x=>R.casesOn (motive:=fun _=>Bool) x false (fun r m h=>kFin P fn v (xCode b cx r m h)) (fun _ _ _ _=>false) (fun _ _ _=>false)) rfl hb
  refine Cw.mono (fun x hx=>ofQK hx) (Cw.seq (Cw.mono ?_ h1))
  intro x hx
  cases x with
  | fail=>cases hx
  | ok r m h=>exact Cw.mono (fun x hx=>toQK rfl hx) (Cw.of_det hm hP hrd hcall (c:=b) (k:=kFin P fn v) rfl hx)
  | exit i r m h=>cases hx
  | ret r m h=>cases hx
end Go.Sy
namespace Go.Sy
open Go.RowKit
set_option linter.unusedVariables false
set_option linter.unusedSectionVars false
variable [Tabs] {P : Program} {B0 : Nat}
noncomputable section
def glz1 (id : Pos) (h : Heap) : Heap:=match h.t.get id with
  | some (.cells t n false)=>(match coll t n 0 with | some l=>⟨h.t.set (.gl l false) id,h.n⟩ | none=>h)
  | _=>h
def glz : AV → Heap → Heap
  | .cons (.slice id _ _ _ _) t,h=>glz t (glz1 id h)
  | .cons _ t,h=>glz t h
  | _,h=>h
def callZ (call : Tgt → AV → Heap → CR) : Tgt → AV → Heap → CR:=fun t as' h=>match t with | .fn f=>call (.fn f) as' (glz as' h) | .rd id=>call (.rd id) as' h
end
theorem glz1_n (id : Pos) (h : Heap) : (glz1 id h).n = h.n:=by
  unfold glz1
  split
  · split <;> rfl
  · rfl
theorem glz_n : ∀ (a : AV) (h : Heap),(glz a h).n = h.n:=by
  intro a
  induction a with
  | cons x t ihx iht =>
    intro h
    cases x <;> first | exact iht h | (show (glz t (glz1 _ h)).n = h.n; rw [iht,glz1_n])
  | _=>intro h; rfl
theorem glz1_HR {μ : Mu} {h : Heap} {w : World} (hr : HR μ B0 h w) (id : Pos) : HR μ B0 (glz1 id h) w:=by
  unfold glz1
  split
  · rename_i t n hg
    split
    · rename_i l hc
      refine HR.lessA hr _ h.n (Nat.le_refl _) (fun q p e=>?_)
      rw [Tr.get_set] at e
      by_cases hq : q = id
      · rw [if_pos hq] at e
        cases e
        subst hq
        refine ⟨_,hg,fun B hB=>?_,rfl,fun B hB=>absurd hB not_inert_cells⟩
        obtain ⟨h0,c,el,fz,h1,h2,h3,h4⟩:=hB
        obtain ⟨xs,h5,h6,h7⟩:=coll_spec (f:=fun k=>c[B.base + k]?) (fun k v e=>(h4 k v e).2) _ hc
        refine .inr ⟨xs,h5,?_,c,el,fz,h1,h2,?_,(fun e=>by cases e),fun j v hj=>by simpa using h7 j v hj⟩
        · omega
        · exact h3.1 rfl
      · rw [if_neg hq] at e
        exact ⟨p,e,fun B h=>h,rfl,fun B h=>h⟩
    · exact hr
  · exact hr
theorem glz_HR {μ : Mu} {w : World} : ∀ (a : AV) {h : Heap},HR μ B0 h w → HR μ B0 (glz a h) w:=by
  intro a
  induction a with
  | cons x t ihx iht =>
    intro h hr
    cases x <;> first | exact iht hr | exact iht (glz1_HR hr _)
  | _=>intro h hr; exact hr
theorem callZ_ok {call : Tgt → AV → Heap → CR} (hc : CallOK P B0 call) : CallOK P B0 (callZ call):=by
  intro t a h v h' e μ w hr
  cases t with
  | rd id=>exact hc (.rd id) a h v h' e μ w hr
  | fn f =>
    obtain ⟨h1,h2⟩:=hc (.fn f) a (glz a h) v h' e μ w (glz_HR a hr)
    refine ⟨h1,fun cargs hargs=>(h2 cargs hargs).mono fun e' w' ⟨cv,μ',g1,g2,g3⟩=>⟨cv,μ',g1,g2,?_⟩⟩
    have hn:=glz_n a h
    exact ⟨fun id hid=>g3.ext id (by rw [hn]; exact hid),by rw [← hn]; exact g3.le,g3.rel,g3.below,g3.seals⟩
theorem callZ_go {l : List (Cn P)} (hl : (l.map Cn.f).Nodup) (i : Nat) {c : Cn P} (hc : l[i]? = some c) (a : c.α) (hok : c.ok a) {as' : AV} {h : Heap} (hbor : BorOK (glz as' h) as') (has : c.as a = borV c.flat (glz as' h) as') {K : AV → Heap → Prop}
    (hk : K (c.v a) (match c.flat with | true=>glz as' h | false=>frz (glz as' h) (lent as'))) : ∃ v h',callZ (callT l) (.fn c.f) as' h = .ret v h'∧K v h' :=
  callT_go hl i hc a hok hbor has hk
end Go.Sy
namespace Go.Sy
set_option linter.unusedVariables false
noncomputable section
def iz (k : IntKind) (l : List Int) (t : AV) : AV:=List.rec (motive:=fun _=>AV) t (fun n _ r=>.cons (.int k n) r) l
def mg (m : Nat) : AV:=Nat.rec (motive:=fun _=>AV) (.ro 0 .nil) (fun _ _=>.ro 1 (.cons (.int .u32 (.ofNat m)) .nil)) m
def qz (l : List Int) (t : AV) : AV:=List.rec (motive:=fun _=>AV) t (fun n _ r=>Int.rec (motive:=fun _=>AV) (fun m=>.cons (.bool false) (.cons (mg m) (.cons (.bool false) (.cons (.ro 0 .nil) r)))) (fun m=>.cons (.bool true) (.cons (mg (Nat.succ m)) (.cons (.bool false) (.cons (.ro 0 .nil) r)))) n) l
def qd (l : List (Int × Nat)) (t : AV) : AV:=List.rec (motive:=fun _=>AV) t (fun n _ r=>Int.rec (motive:=fun _=>AV) (fun m=>.cons (.bool false) (.cons (mg m) (.cons (.bool false) (.cons (mg n.2) r)))) (fun m=>.cons (.bool true) (.cons (mg (Nat.succ m)) (.cons (.bool false) (.cons (mg n.2) r)))) n.1) l
end
end Go.Sy
namespace Go.Sy
set_option linter.unusedVariables false
noncomputable section
def bxL (a b c x y z : Int) : List Int:=[a,b,c,a,b,z,a,y,c,a,y,z,x,b,c,x,b,z,x,y,c,x,y,z]
def bxI (a b c x y z : Int) : AV:=.ro 8 (iz .i64 (bxL a b c x y z) .nil)
def bx4 (l : List Int) : AV:=.ro 4 (iz .i64 l .nil)
def bxF (d0 d1 d2 d3 d4 d5 : Nat) (a b c x y z : Int) : AV :=
  .ro 6 (qd [(-1,d0),(0,d0),(0,d0),(-a,0)] (.cons (bx4 [0,1,3,2]) (qd [(0,d1),(0,d1),(-1,d1),(-c,0)] (.cons (bx4 [0,2,6,4]) (qd [(0,d2),(-1,d2),(0,d2),(-b,0)] (.cons (bx4 [0,4,5,1])
    (qd [(0,d3),(0,d3),(1,d3),(z,0)] (.cons (bx4 [1,5,7,3]) (qd [(0,d4),(1,d4),(0,d4),(y,0)] (.cons (bx4 [2,3,7,6]) (qd [(1,d5),(0,d5),(0,d5),(x,0)] (.cons (bx4 [4,6,7,5]) .nil))))))))))))
def bxE : AV:=.ro 12 (iz .i64 [0,1,0,2,0,2,0,1,0,4,1,2,1,3,0,3,1,5,2,3,2,3,0,4,2,6,1,4,3,7,3,4,4,5,2,5,4,6,1,5,5,7,3,5,6,7,4,5] .nil)
def bx (d0 d1 d2 d3 d4 d5 : Nat) (a b c x y z : Int) : AV:=.agg (.cons (.ro 8 (qz (bxL a b c x y z) .nil)) (.cons (bxF d0 d1 d2 d3 d4 d5 a b c x y z) (.cons bxE .nil)))
def bxo : Int → Int → Int → Int → Int → Int → AV:=bx 0 0 0 0 0 0
def bxi : Int → Int → Int → Int → Int → Int → AV:=bx 1 1 1 1 1 1
def bxp (n : List Int) (m : Int) (t : AV) : AV:=iz .i64 n (.cons (.int .u64 m) t)
def bxR (a b c x y z : Int) : AV:=.tup (.cons (.ro 6 (bxp [-((y - b) * (z - c)),0,0] 15 (bxp [0,0,-((x - a) * (y - b))] 85 (bxp [0,-((x - a) * (z - c)),0] 51 (bxp [0,0,(x - a) * (y - b)] 170 (bxp [0,(x - a) * (z - c),0] 204 (bxp [(y - b) * (z - c),0,0] 240 .nil)))))))
  (.cons (.ro 6 (.cons (bx4 [0,1,3,2]) (.cons (bx4 [0,2,6,4]) (.cons (bx4 [0,4,5,1]) (.cons (bx4 [1,5,7,3]) (.cons (bx4 [2,3,7,6]) (.cons (bx4 [4,6,7,5]) .nil))))))) (.cons (.int .u64 255) .nil)))
end
end Go.Sy
namespace Go.Sy
open Go.RowKit
set_option linter.unusedVariables false
set_option linter.unusedSectionVars false
variable [Tabs]
variable {P : Program} {B0 : Nat}
theorem mem_regsT {k : Nat} {u : AV} : ∀ {R : List (Nat × AV)},(regsT R).get (pathOf k) = some u → (k,u) ∈ R
  | [],h=>by cases h
  | x::R,h=>by
    change (Tr.set x.2 (regsT R) (pathOf x.1)).get (pathOf k) = some u at h
    rw [Tr.get_set] at h
    by_cases he : pathOf k = pathOf x.1
    · rw [if_pos he] at h
      cases h
      rw [pathOf_inj he]
      exact List.mem_cons_self
    · rw [if_neg he] at h
      exact List.mem_cons_of_mem _ (mem_regsT h)
theorem mem_heapT {q : Pos} {o : AO} : ∀ {H : List (Pos × AO)},(heapT H).get q = some o → (q,o) ∈ H
  | [],h=>by cases h
  | x::H,h=>by
    change (Tr.set x.2 (heapT H) x.1).get q = some o at h
    rw [Tr.get_set] at h
    by_cases he : q = x.1
    · rw [if_pos he] at h
      cases h
      rw [he]
      exact List.mem_cons_self
    · rw [if_neg he] at h
      exact List.mem_cons_of_mem _ (mem_heapT h)
def LessO (o p : AO) : Prop:=o = p ∨ ∃ t n R,o = .cells t n false∧p = .cells (regsT R) n false∧∀ x ∈ R,t.get (pathOf x.1) = some x.2
theorem Sub.facts {nt : Nat} {s : St} {R : List (Nat × AV)} {H : List (Pos × AO)} {n' : Pos} (hm : s.m = []) (hn : s.h.n.toNat ≤ n'.toNat) (hR : ∀ x ∈ R,s.r.get (pathOf x.1) = some x.2) (hH : ∀ x ∈ H,∃ o,s.h.t.get x.1 = some o∧LessO o x.2) :
    Sub B0 nt s.r s.m s.h (regsT R) [] ⟨heapT H,n'⟩:=by
  intro μ w a hr ha
  refine ⟨μ,.to hn,HR.lessA hr _ n' hn (fun q p e=>?_),⟨fun k u hk=>ha.rr k u (hR (k,u) (mem_regsT hk)),ha.size,by have:=ha.dr; rw [hm] at this; exact this⟩⟩
  obtain ⟨o,h1,h2⟩:=hH (q,p) (mem_heapT e)
  refine ⟨o,h1,?_⟩
  rcases h2 with rfl | ⟨t,n,L,rfl,hp,hL⟩
  · exact ⟨fun B h=>h,rfl,fun B h=>h⟩
  · have hp : p = .cells (regsT L) n false:=hp
    subst hp
    refine ⟨fun B hB=>?_,rfl,fun B hB=>absurd hB not_inert_cells⟩
    obtain ⟨h0,c,el,fz,g1,g2,g3,g4⟩:=hB
    exact ⟨h0,c,el,fz,g1,g2,g3,fun k v e=>g4 k v (hL (k,v) (mem_regsT e))⟩
end Go.Sy
