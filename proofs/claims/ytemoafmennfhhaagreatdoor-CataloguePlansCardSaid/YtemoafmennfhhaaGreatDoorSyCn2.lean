/- Regions whose order is open: the invariant, step by step. -/
import Derived.Test.YtemoafmennfhhaaGreatDoorSyPlan2
import Derived.RangeFuncNested
namespace Go.Sy
open Go.RowKit
set_option linter.unusedVariables false
set_option linter.unusedSimpArgs false
set_option linter.unusedSectionVars false
variable [Tabs]
section good
variable {ops : Array Oper} {ms : Tr Nat} {pl : List PI} (G : Good ops ms pl)
include G
theorem Good.before {pr suf : List PI} {y x : PI} (e : pl = pr++y::suf) (hx : x ∈ pr) : okPair ops ms x y = true:=(G.pair pr y suf e).1 x hx
theorem Good.any {u z : PI} (hu : u ∈ pl) (hz : z ∈ pl) (hne : u ≠ z) : okPair ops ms u z = true ∨ okPair ops ms z u = true:=by
  obtain ⟨p1,p2,e⟩:=List.append_of_mem hz
  rw [e] at hu
  rcases List.mem_append.1 hu with h | h
  · exact .inl (G.before e h)
  · rcases List.mem_cons.1 h with h | h
    · exact absurd h hne
    · obtain ⟨q1,q2,e2⟩:=List.append_of_mem h
      right
      refine G.before (pr:=p1++z::q1) (suf:=q2) (by rw [e,e2]; simp) (by simp)
omit G in
theorem okPair_ne {x y : PI} (h : okPair ops ms x y = true) : x.i ≠ y.i:=by
  unfold okPair at h
  simp only [Bool.and_eq_true,Bool.not_eq_true'] at h
  intro e
  rw [e,Nat.beq_refl] at h
  exact absurd h.1.1.1 (by simp)
omit G in
theorem okPair_pre {x y : PI} (h : okPair ops ms x y = true) : pre ms y.i x.i = false:=by
  unfold okPair at h
  simp only [Bool.and_eq_true,Bool.not_eq_true'] at h
  exact h.1.1.2
omit G in
theorem okPair_ww {x y : PI} (h : okPair ops ms x y = true) {s : Nat} (h1 : x.o.dst = some s) (h2 : y.o.dst = some s) : False:=by
  unfold okPair at h
  simp only [Bool.and_eq_true] at h
  exact land0_test h.1.2 s ⟨dst_mask h1,dst_mask h2⟩
omit G in
theorem okPair_wr {x y : PI} (h : okPair ops ms x y = true) {s : Nat} (h1 : x.o.dst = some s) (h2 : s ∈ readL ops y.o) : pre ms x.i y.i = true:=by
  unfold okPair at h
  simp only [Bool.and_eq_true,Bool.or_eq_true] at h
  rcases h.2 with h | h
  · exact h
  · exact absurd ⟨dst_mask h1,readL_mask h2⟩ (land0_test h.1.1.1 s)
omit G in
theorem okPair_rw {x y : PI} (h : okPair ops ms x y = true) {s : Nat} (h1 : s ∈ readL ops x.o) (h2 : y.o.dst = some s) : pre ms x.i y.i = true:=by
  unfold okPair at h
  simp only [Bool.and_eq_true,Bool.or_eq_true] at h
  rcases h.2 with h | h
  · exact h
  · exact absurd ⟨readL_mask h1,dst_mask h2⟩ (land0_test h.1.1.2 s)
omit G in
theorem okPair_eff {x y : PI} (h : okPair ops ms x y = true) (h1 : x.eff = true) : pre ms x.i y.i = true:=by
  unfold okPair at h
  simp only [Bool.and_eq_true,Bool.or_eq_true] at h
  rcases h.2 with h | h
  · exact h
  · rw [h1] at h; exact absurd h.1.2 (by simp)
omit G in
theorem okPair_mem {x y : PI} (h : okPair ops ms x y = true) (h1 : pre ms x.i y.i = false) (h2 : y.eff = true) (h3 : isMem x.o = true) : ∃ p ∈ y.pend,p.1 = x.i:=by
  unfold okPair at h
  simp only [Bool.and_eq_true,Bool.or_eq_true] at h
  rcases h.2 with h | h
  · rw [h1] at h; cases h
  · rcases h.2 with (h | h) | h
    · rw [h2] at h; cases h
    · rw [h3] at h; cases h
    · obtain ⟨p,hp,e⟩:=List.any_eq_true.1 h
      exact ⟨p,hp,Nat.eq_of_beq_eq_true e⟩
theorem Good.inj {u z : PI} (hu : u ∈ pl) (hz : z ∈ pl) (e : u.i = z.i) : u = z:=by
  by_cases h : u = z
  · exact h
  · rcases G.any hu hz h with h | h
    · exact absurd e (okPair_ne h)
    · exact absurd e.symm (okPair_ne h)
theorem Good.ww {u z : PI} (hu : u ∈ pl) (hz : z ∈ pl) {s : Nat} (h1 : u.o.dst = some s) (h2 : z.o.dst = some s) : u = z:=by
  by_cases h : u = z
  · exact h
  · rcases G.any hu hz h with h | h
    · exact (okPair_ww h h1 h2).elim
    · exact (okPair_ww h h2 h1).elim
theorem Good.wr {u z : PI} (hu : u ∈ pl) (hz : z ∈ pl) (hne : u ≠ z) {s : Nat} (h1 : u.o.dst = some s) (h2 : s ∈ readL ops z.o) : pre ms u.i z.i = true ∨ pre ms z.i u.i = true:=by
  rcases G.any hu hz hne with h | h
  · exact .inl (okPair_wr h h1 h2)
  · exact .inr (okPair_rw h h2 h1)
end good
def FloatFact (P : Program) (o : Oper) (rp : Tr AV) (hc : Heap) (μ : Mu) (v : AV) (j : Option Pos) : Prop :=
  match cls o.op with
  | .pure f=>f P rp = some v
  | .load f=>f P rp hc = some v
  | .alloc f=>∃ A t id,j = some id∧f P rp = some A∧mkAO A.l A.n A.k = some t∧v = A.k.av id∧hc.t.get id = some t∧μ id = none∧id.toNat < hc.n.toNat
  | _=>False
def Fact (P : Program) (nt : Nat) (ops : Array Oper) (ms : Tr Nat) (r0 : Tr AV) (pr : List PI) (rc : Tr AV) (hc : Heap) (μ : Mu) (y : PI) (j : Option Pos) : Prop :=
  ∃ rp v,(∀ d,y.o.dst = some d → rc.get (pathOf d) = some v∧d < nt) ∧
    (∀ s ∈ readL ops y.o,((∃ z ∈ pr,z.i ≠ y.i∧z.o.dst = some s∧pre ms z.i y.i = true) → rp.get (pathOf s) = rc.get (pathOf s))∧((∀ z ∈ pr,z.i ≠ y.i → z.o.dst = some s → pre ms z.i y.i = false) → rp.get (pathOf s) = r0.get (pathOf s))) ∧
    ((wantedA ops y.o rp = .no∧v = .tup .nil) ∨ (wantedA ops y.o rp = .yes∧FloatFact P y.o rp hc μ v j))
structure Mid (P : Program) (B0 : Nat) (cx : Cx) (ops : Array Oper) (ms : Tr Nat) (pl : List PI) (r0 : Tr AV) (m : List Pos) (μ0 : Mu) (h0 : Heap) (w0 : World) (a0 : Act) (x : R)
    (D : Nat → Prop) (a : Act) (w : World) (pr suf : List PI) (rc : Tr AV) (hc : Heap) (μ : Mu) (J : Nat → Option Pos) : Prop where
  split : pl = pr++suf
  run : doPlan ops suf cx rc m hc = x
  done : ∀ i,D i → ∃ y ∈ pr,y.i = i
  effs : ∀ y ∈ pr,y.eff = true → D y.i
  post : Post μ0 B0 h0 w0 μ hc w
  size : a.tmps.size = cx.nt
  dfr : a.defers = a0.defers
  slots : ∀ s v,rc.get (pathOf s) = some v → (∀ y ∈ pr,¬ D y.i → y.o.dst ≠ some s) → ∃ cv,a.tmps[s]? = some cv∧VR1 μ v cv
  olds : ∀ y ∈ pr,¬ D y.i → ∀ s,y.o.dst = some s → ∀ v,r0.get (pathOf s) = some v → ∃ cv,a.tmps[s]? = some cv∧VR1 μ v cv
  unwr : ∀ s,(∀ y ∈ pr,y.o.dst ≠ some s) → rc.get (pathOf s) = r0.get (pathOf s)
  fact : ∀ y ∈ pr,¬ D y.i → Fact P cx.nt ops ms r0 pr rc hc μ y (J y.i)
  jlt : ∀ y ∈ pr,∀ q,J y.i = some q → q.toNat < hc.n.toNat
  jge : ∀ y ∈ pr,∀ q,J y.i = some q → h0.n.toNat ≤ q.toNat
  apart : ∀ y ∈ pr,∀ z ∈ pr,y.i ≠ z.i → ∀ p q,J y.i = some p → J z.i = some q → p ≠ q
variable {P : Program} {B0 : Nat} {cx : Cx} {ops : Array Oper} {ms : Tr Nat} {pl : List PI} {r0 : Tr AV} {m : List Pos} {μ0 : Mu} {h0 : Heap} {w0 : World} {a0 : Act} {x : R}
theorem pend_env (G : Good ops ms pl) {D : Nat → Prop} {a : Act} {w : World} {pr suf : List PI} {rc : Tr AV} {hc : Heap} {μ : Mu} {J : Nat → Option Pos} (M : Mid P B0 cx ops ms pl r0 m μ0 h0 w0 a0 x D a w pr suf rc hc μ J)
    {y : PI} (hy : y ∈ pr) (hyD : ¬ D y.i) (hready : ∀ j,pre ms j y.i = true → D j) (hclosed : ∀ i j,D i → pre ms j i = true → D j) {rp : Tr AV}
    (hrp : ∀ s ∈ readL ops y.o,((∃ z ∈ pr,z.i ≠ y.i∧z.o.dst = some s∧pre ms z.i y.i = true) → rp.get (pathOf s) = rc.get (pathOf s))∧((∀ z ∈ pr,z.i ≠ y.i → z.o.dst = some s → pre ms z.i y.i = false) → rp.get (pathOf s) = r0.get (pathOf s))) :
    ∀ s ∈ readL ops y.o,∀ v,rp.get (pathOf s) = some v → ∃ cv,a.tmps[s]? = some cv∧VR1 μ v cv:=by
  have hin : ∀ z ∈ pr,z ∈ pl:=fun z hz=>by rw [M.split]; exact List.mem_append.2 (.inl hz)
  intro s hs v hv
  obtain ⟨c1,c2⟩:=hrp s hs
  by_cases h1 : ∃ z ∈ pr,z.i ≠ y.i∧z.o.dst = some s∧pre ms z.i y.i = true
  · rw [c1 h1] at hv
    obtain ⟨z,hz,_,hzs,hzp⟩:=h1
    refine M.slots s v hv (fun u hu hud e=>?_)
    have:=G.ww (hin u hu) (hin z hz) e hzs
    subst this
    exact hud (hready _ hzp)
  · have h2 : ∀ z ∈ pr,z.i ≠ y.i → z.o.dst = some s → pre ms z.i y.i = false:=by
      intro z hz hne e
      cases hp : pre ms z.i y.i with
      | false=>rfl
      | true=>exact absurd ⟨z,hz,hne,e,hp⟩ h1
    rw [c2 h2] at hv
    by_cases h3 : ∃ z ∈ pr,z.o.dst = some s
    · obtain ⟨z,hz,hzs⟩:=h3
      have hzD : ¬ D z.i:=by
        intro hzD
        by_cases hzy : z = y
        · subst hzy; exact hyD hzD
        · rcases G.wr (hin z hz) (hin y hy) hzy hzs hs with e | e
          · rw [h2 z hz (fun e=>hzy (G.inj (hin z hz) (hin y hy) e)) hzs] at e; cases e
          · exact hyD (hclosed _ _ hzD e)
      exact M.olds z hz hzD s hzs v hv
    · have h4 : ∀ z ∈ pr,z.o.dst ≠ some s:=fun z hz e=>h3 ⟨z,hz,e⟩
      rw [← M.unwr s h4] at hv
      exact M.slots s v hv (fun u hu _=>h4 u hu)
theorem isEff_cases (o : Oper) : (isEff o = false∧((∃ f,cls o.op = .pure f) ∨ (∃ f,cls o.op = .load f) ∨ ∃ f,cls o.op = .alloc f)) ∨ isEff o = true:=by
  unfold isEff
  cases cls o.op with
  | bad=>exact .inr rfl
  | eff f=>exact .inr rfl
  | pure f=>exact .inl ⟨rfl,.inl ⟨f,rfl⟩⟩
  | load f=>exact .inl ⟨rfl,.inr (.inl ⟨f,rfl⟩)⟩
  | alloc f=>exact .inl ⟨rfl,.inr (.inr ⟨f,rfl⟩)⟩
theorem cls_not_defer {o : Op} (h : cls o ≠ .bad) : ∀ c,o ≠ .defer c:=by
  intro c e
  subst e
  exact h rfl
theorem float_step (hP : cx.P = P) (G : Good ops ms pl) {D : Nat → Prop} {a : Act} {w : World} {pr suf : List PI} {rc : Tr AV} {hc : Heap} {μ : Mu} {J : Nat → Option Pos} (M : Mid P B0 cx ops ms pl r0 m μ0 h0 w0 a0 x D a w pr suf rc hc μ J) (hH0 : HR μ0 B0 h0 w0)
    {y : PI} (hy : y ∈ pr) (hyD : ¬ D y.i) (hready : ∀ j,pre ms j y.i = true → D j) (hclosed : ∀ i j,D i → pre ms j i = true → D j) {b : Frame} (rest : List Nat) (k : List Item) (cs : List Frame) :
    ∃ a' w' μ',Steps P (lone (b.atR a (.inRegion ops (y.i::rest)::k)) cs w) (lone (b.atR a' (.inRegion ops rest::k)) cs w')∧Mid P B0 cx ops ms pl r0 m μ0 h0 w0 a0 x (fun i=>D i ∨ i = y.i) a' w' pr suf rc hc μ' J:=by
  have hin : ∀ z ∈ pr,z ∈ pl:=fun z hz=>by rw [M.split]; exact List.mem_append.2 (.inl hz)
  obtain ⟨rp,v,f1,f2,f3⟩:=M.fact y hy hyD
  have henv:=pend_env G M hy hyD hready hclosed f2
  obtain ⟨w1,w2⟩:=wanted_env henv
  obtain ⟨hop,heff⟩:=G.at_ y (hin y hy)
  have hrel:=M.post.rel
  have fin : ∀ (cv : Value) (w' : World) (μ' : Mu),Steps P (lone (b.atR a (.inRegion ops (y.i::rest)::k)) cs w) (lone (b.atR (a.put y.o.dst cv) (.inRegion ops rest::k)) cs w') → VR1 μ' v cv → μ.le μ' → Post μ0 B0 h0 w0 μ' hc w' →
      (∀ z ∈ pr,¬ D z.i → z.i ≠ y.i → ∀ q,J z.i = some q → μ q = none → μ' q = none) →
      ∃ a' w' μ',Steps P (lone (b.atR a (.inRegion ops (y.i::rest)::k)) cs w) (lone (b.atR a' (.inRegion ops rest::k)) cs w')∧Mid P B0 cx ops ms pl r0 m μ0 h0 w0 a0 x (fun i=>D i ∨ i = y.i) a' w' pr suf rc hc μ' J:=by
    intro cv w' μ' hst hv hle hp hoth
    have hsize : (a.put y.o.dst cv).tmps.size = cx.nt:=by
      cases hd : y.o.dst with
      | none=>exact M.size
      | some d=>simp [Act.put,M.size]
    have hself : ∀ s,y.o.dst = some s → (a.put y.o.dst cv).tmps[s]? = some cv:=by
      intro s hs
      obtain ⟨_,hlt⟩:=f1 s hs
      rw [hs]
      simp only [Act.put]
      exact Array.getElem?_setIfInBounds_self_of_lt (by rw [M.size]; exact hlt)
    have hother : ∀ s,y.o.dst ≠ some s → (a.put y.o.dst cv).tmps[s]? = a.tmps[s]?:=by
      intro s hs
      cases hd : y.o.dst with
      | none=>rfl
      | some d =>
        simp only [Act.put]
        rw [Array.getElem?_setIfInBounds_ne (fun e=>hs (by rw [hd,e]))]
    refine ⟨_,w',μ',hst,⟨M.split,M.run,?_,?_,hp,hsize,?_,?_,?_,M.unwr,?_,M.jlt,M.jge,M.apart⟩⟩
    · intro i hi
      rcases hi with hi | rfl
      · exact M.done i hi
      · exact ⟨y,hy,rfl⟩
    · exact fun z hz he=>.inl (M.effs z hz he)
    · rw [show (a.put y.o.dst cv).defers = a.defers by cases y.o.dst <;> rfl]; exact M.dfr
    · intro s u hu hno
      by_cases hs : y.o.dst = some s
      · obtain ⟨h1,_⟩:=f1 s hs
        rw [h1] at hu
        cases hu
        exact ⟨cv,hself s hs,hv⟩
      · obtain ⟨cu,h1,h2⟩:=M.slots s u hu (fun z hz hzD=>by
          by_cases hzy : z.i = y.i
          · have:=G.inj (hin z hz) (hin y hy) hzy
            subst this; exact hs
          · exact hno z hz (fun e=>e.elim hzD hzy))
        exact ⟨cu,by rw [hother s hs]; exact h1,h2.mono hle⟩
    · intro z hz hzD s hzs u hu
      have hzD' : ¬ D z.i:=fun e=>hzD (.inl e)
      have hzy : z ≠ y:=fun e=>hzD (.inr (by rw [e]))
      obtain ⟨cu,h1,h2⟩:=M.olds z hz hzD' s hzs u hu
      have hs : y.o.dst ≠ some s:=fun e=>hzy (G.ww (hin z hz) (hin y hy) hzs e)
      exact ⟨cu,by rw [hother s hs]; exact h1,h2.mono hle⟩
    · intro z hz hzD
      have hzD' : ¬ D z.i:=fun e=>hzD (.inl e)
      have hzy : z.i ≠ y.i:=fun e=>hzD (.inr e)
      obtain ⟨rq,u,g1,g2,g3⟩:=M.fact z hz hzD'
      refine ⟨rq,u,g1,g2,g3.imp id (fun g=>⟨g.1,?_⟩)⟩
      have g:=g.2
      unfold FloatFact at g ⊢
      cases hcl : cls z.o.op with
      | pure f=>rw [hcl] at g; exact g
      | load f=>rw [hcl] at g; exact g
      | alloc f =>
        rw [hcl] at g
        obtain ⟨A,t,id,e1,e2,e3,e4,e5,e6,e7⟩:=g
        exact ⟨A,t,id,e1,e2,e3,e4,e5,hoth z hz hzD' hzy id e1 e6,e7⟩
      | bad=>rw [hcl] at g; exact g
      | eff f=>rw [hcl] at g; exact g
  rcases f3 with ⟨hw,rfl⟩ | ⟨hw,hf⟩
  · exact fin undef w μ (skip_step hop (w2 hw)) ⟨#[],rfl,rfl⟩ (Mu.le_refl μ) M.post (fun _ _ _ _ _ _ e=>e)
  · obtain ⟨q,hq,hqe⟩:=op_env henv
    have hcs:=cls_sound y.o
    have hloc:=cls_local (r:=q) (r':=rp) y.o.op hqe
    unfold FloatFact at hf
    cases hcl : cls y.o.op with
    | bad=>rw [hcl] at hf; exact hf.elim
    | eff f=>rw [hcl] at hf; exact hf.elim
    | pure f =>
      rw [hcl] at hf hcs hloc
      have hnd:=cls_not_defer (o:=y.o.op) (by rw [hcl]; intro e; cases e)
      obtain ⟨cv,h1,h2⟩:=hcs P q μ a v hrel.glob hq (by rw [hloc P]; exact hf)
      exact fin cv w μ (val_step hop (w1 hw) hnd (h1 w)) h2 (Mu.le_refl μ) M.post (fun _ _ _ _ _ _ e=>e)
    | load f =>
      rw [hcl] at hf hcs hloc
      have hnd:=cls_not_defer (o:=y.o.op) (by rw [hcl]; intro e; cases e)
      obtain ⟨cv,h1,h2⟩:=hcs P q μ B0 hc w a v hrel hq (by rw [hloc P hc]; exact hf)
      exact fin cv w μ (val_step hop (w1 hw) hnd h1) h2 (Mu.le_refl μ) M.post (fun _ _ _ _ _ _ e=>e)
    | alloc f =>
      rw [hcl] at hf hcs hloc
      have hnd:=cls_not_defer (o:=y.o.op) (by rw [hcl]; intro e; cases e)
      obtain ⟨A,t,id,e1,e2,e3,rfl,e5,e6,e7⟩:=hf
      obtain ⟨hk,arr,el,xs,hv,hlen,hpre,hrun⟩:=hcs P q μ a A t hrel.glob hq (by rw [hloc P]; exact e2) e3
      have hHR:=hrel.bind e6 e7 hv e3 hlen hpre el e5
      have hle : μ.le (μ.put id ⟨w.heap.size,0,A.n⟩):=Mu.le_put e6 _
      refine fin _ _ _ (val_step hop (w1 hw) hnd (hrun w)) (MK_sound hk (Nat.le_refl _) (b:=w.heap.size) (Mu.put_same _ _ _)) hle ⟨?_,M.post.le,hHR,M.post.below.alloc hrel.size _,M.post.seals⟩ ?_
      · intro q hq
        have hge:=M.jge y hy id e1
        rw [Mu.put_other _ _ _ (fun e'=>by subst e'; omega)]
        exact M.post.ext q hq
      · intro z hz hzD hzy q hJ hq
        show (μ.put id _) q = none
        rw [Mu.put_other _ _ _ (M.apart z hz y hy hzy q id hJ e1)]
        exact hq
end Go.Sy
namespace Go.Sy
open Go.RowKit
set_option linter.unusedVariables false
set_option linter.unusedSimpArgs false
set_option linter.unusedSectionVars false
variable [Tabs]
variable {P : Program} {B0 : Nat} {cx : Cx} {ops : Array Oper} {ms : Tr Nat} {pl : List PI} {r0 : Tr AV} {m : List Pos} {μ0 : Mu} {h0 : Heap} {w0 : World} {a0 : Act} {x : R}
theorem putR_get {d : Option Tmp} {nt : Nat} {v : AV} {r r' : Tr AV} (hp : putR d nt v r = some r') :
    (∀ s,d = some s → r'.get (pathOf s) = some v∧s < nt)∧∀ s,d ≠ some s → r'.get (pathOf s) = r.get (pathOf s):=by
  unfold putR at hp
  cases d with
  | none=>cases hp; exact ⟨by simp,fun _ _=>rfl⟩
  | some d =>
    simp only at hp
    cases hl : natLt d nt with
    | false=>rw [hl] at hp; cases hp
    | true =>
      rw [hl] at hp
      cases hp
      refine ⟨fun s hs=>?_,fun s hs=>?_⟩
      · cases hs; rw [Tr.get_set,if_pos rfl]; exact ⟨rfl,natLt_iff.1 hl⟩
      · rw [Tr.get_set,if_neg (fun e=>hs (by rw [pathOf_inj e]))]
theorem FloatFact.mono {o : Oper} {rp : Tr AV} {hc hc' : Heap} {μ μ' : Mu} {v : AV} {j : Option Pos} (hf : FloatFact P o rp hc μ v j) (hn : hc.n.toNat ≤ hc'.n.toNat) (hload : ∀ f,cls o.op = .load f → f P rp hc = some v → f P rp hc' = some v)
    (hget : ∀ f id ob,cls o.op = .alloc f → j = some id → hc.t.get id = some ob → hc'.t.get id = some ob) (hμ : ∀ id,id.toNat < hc.n.toNat → μ' id = μ id) : FloatFact P o rp hc' μ' v j:=by
  unfold FloatFact at hf ⊢
  cases hcl : cls o.op with
  | pure f=>rw [hcl] at hf; exact hf
  | load f=>rw [hcl] at hf; exact hload f hcl hf
  | alloc f =>
    rw [hcl] at hf
    obtain ⟨A,t,id,e1,e2,e3,e4,e5,e6,e7⟩:=hf
    exact ⟨A,t,id,e1,e2,e3,e4,hget f id _ hcl e1 e5,by rw [hμ id e7]; exact e6,by omega⟩
  | bad=>rw [hcl] at hf; exact hf
  | eff f=>rw [hcl] at hf; exact hf
theorem add_float (G : Good ops ms pl) {D : Nat → Prop} {a : Act} {w : World} {pr t : List PI} {y : PI} {rc r' : Tr AV} {hc hc' : Heap} {μ : Mu} {J : Nat → Option Pos} (M : Mid P B0 cx ops ms pl r0 m μ0 h0 w0 a0 x D a w pr (y::t) rc hc μ J)
    (he : y.eff = false) {v : AV} (hp : putR y.o.dst cx.nt v rc = some r') (hrun : doPlan ops t cx r' m hc' = x) (hn : hc.n.toNat ≤ hc'.n.toNat) (hHR : HR μ B0 hc' w) (hget : ∀ id ob,hc.t.get id = some ob → hc'.t.get id = some ob)
    (hload : ∀ (f : Program → Tr AV → Heap → Option AV) rp v,LoadMono f → f P rp hc = some v → f P rp hc' = some v) (jn : Option Pos) (hj : ∀ q,jn = some q → q = hc.n∧hc.n.toNat < hc'.n.toNat)
    (hfact : (wantedA ops y.o rc = .no∧v = .tup .nil) ∨ (wantedA ops y.o rc = .yes∧FloatFact P y.o rc hc' μ v jn)) :
    Mid P B0 cx ops ms pl r0 m μ0 h0 w0 a0 x D a w (pr++[y]) t r' hc' μ (fun i=>if i = y.i then jn else J i):=by
  have hin : ∀ z ∈ pr,z ∈ pl:=fun z hz=>by rw [M.split]; exact List.mem_append.2 (.inl hz)
  have hyin : y ∈ pl:=by rw [M.split]; simp
  have hpair : ∀ z ∈ pr,okPair ops ms z y = true:=fun z hz=>G.before M.split hz
  have hne : ∀ z ∈ pr,z.i ≠ y.i:=fun z hz=>okPair_ne (hpair z hz)
  have hyD : ¬ D y.i:=fun hD=>by
    obtain ⟨z,hz,e⟩:=M.done _ hD
    exact hne z hz e
  obtain ⟨g1,g2⟩:=putR_get hp
  have hyw : ∀ z ∈ pr,∀ s,z.o.dst = some s → y.o.dst ≠ some s:=fun z hz s e1 e2=>okPair_ww (hpair z hz) e1 e2
  have mem : ∀ z,z ∈ pr++[y] → z ∈ pr ∨ z = y:=fun z hz=>by simpa using hz
  refine ⟨by rw [M.split]; simp,hrun,?_,?_,⟨M.post.ext,Nat.le_trans M.post.le hn,hHR,M.post.below,M.post.seals⟩,M.size,M.dfr,?_,?_,?_,?_,?_,?_,?_⟩
  · intro i hi
    obtain ⟨z,hz,e⟩:=M.done i hi
    exact ⟨z,by simp [hz],e⟩
  · intro z hz hze
    rcases mem z hz with h | h
    · exact M.effs z h hze
    · subst h; rw [he] at hze; cases hze
  · intro s u hu hno
    have hs:=hno y (by simp) hyD
    rw [g2 s hs] at hu
    exact M.slots s u hu (fun z hz hzD=>hno z (by simp [hz]) hzD)
  · intro z hz hzD s hzs u hu
    rcases mem z hz with h | h
    · exact M.olds z h hzD s hzs u hu
    · subst h
      have hnw : ∀ q ∈ pr,q.o.dst ≠ some s:=fun q hq e=>hyw q hq s e hzs
      rw [← M.unwr s hnw] at hu
      exact M.slots s u hu (fun q hq _=>hnw q hq)
  · intro s hs
    rw [g2 s (hs y (by simp))]
    exact M.unwr s (fun z hz=>hs z (by simp [hz]))
  · intro z hz hzD
    rcases mem z hz with h | h
    · obtain ⟨rp,u,f1,f2,f3⟩:=M.fact z h hzD
      rw [show (if z.i = y.i then jn else J z.i) = J z.i from if_neg (hne z h)]
      refine ⟨rp,u,fun d hd=>?_,fun s hs=>⟨?_,?_⟩,f3.imp id (fun f=>⟨f.1,f.2.mono hn (fun f hf=>hload f rp u (cls_mono _ f hf)) (fun f id ob _ _=>hget id ob) (fun _ _=>rfl)⟩)⟩
      · rw [g2 d (hyw z h d hd)]; exact f1 d hd
      · rintro ⟨q,hq,hqz,hqs,hqp⟩
        rcases mem q hq with h' | h'
        · rw [g2 s (hyw q h' s hqs)]
          exact (f2 s hs).1 ⟨q,h',hqz,hqs,hqp⟩
        · subst h'
          rw [okPair_pre (hpair z h)] at hqp; cases hqp
      · intro hq
        exact (f2 s hs).2 (fun q hq'=>hq q (by simp [hq']))
    · subst h
      rw [show (if z.i = z.i then jn else J z.i) = jn from if_pos rfl]
      refine ⟨rc,v,fun d hd=>g1 d hd,fun s hs=>⟨?_,?_⟩,hfact⟩
      · rintro ⟨q,hq,hqz,hqs,hqp⟩
        rcases mem q hq with h' | h'
        · exact (g2 s (hyw q h' s hqs)).symm
        · subst h'; exact absurd rfl hqz
      · intro hq
        refine M.unwr s (fun q hq' e=>?_)
        have:=hq q (by simp [hq']) (hne q hq') e
        rw [okPair_wr (hpair q hq') e hs] at this
        cases this
  · intro z hz q hq
    rcases mem z hz with h | h
    · rw [if_neg (hne z h)] at hq
      have:=M.jlt z h q hq; omega
    · subst h
      rw [if_pos rfl] at hq
      obtain ⟨rfl,hlt⟩:=hj q hq
      exact hlt
  · intro z hz q hq
    rcases mem z hz with h | h
    · rw [if_neg (hne z h)] at hq
      exact M.jge z h q hq
    · subst h
      rw [if_pos rfl] at hq
      obtain ⟨rfl,hlt⟩:=hj q hq
      exact M.post.le
  · intro z hz u hu hzu p q hp' hq'
    rcases mem z hz with h | h
    · rw [if_neg (hne z h)] at hp'
      rcases mem u hu with h2 | h2
      · rw [if_neg (hne u h2)] at hq'
        exact M.apart z h u h2 hzu p q hp' hq'
      · subst h2
        rw [if_pos rfl] at hq'
        obtain ⟨rfl,_⟩:=hj q hq'
        have:=M.jlt z h p hp'
        intro e; subst e; omega
    · subst h
      rw [if_pos rfl] at hp'
      obtain ⟨rfl,_⟩:=hj p hp'
      rcases mem u hu with h2 | h2
      · rw [if_neg (hne u h2)] at hq'
        have:=M.jlt u h2 q hq'
        intro e; subst e; omega
      · exact absurd h2.symm (fun e=>hzu (by rw [e]))
theorem advance (hP : cx.P = P) (G : Good ops ms pl) (hx : x ≠ .fail) {D : Nat → Prop} {a : Act} {w : World} {μ : Mu} : ∀ (suf : List PI) {pr : List PI} {rc : Tr AV} {hc : Heap} {J : Nat → Option Pos},
    Mid P B0 cx ops ms pl r0 m μ0 h0 w0 a0 x D a w pr suf rc hc μ J →
    ∃ pr' suf' rc' hc' J',Mid P B0 cx ops ms pl r0 m μ0 h0 w0 a0 x D a w pr' suf' rc' hc' μ J'∧(suf' = [] ∨ ∃ y t,suf' = y::t∧y.eff = true)
  | [],pr,rc,hc,J,M=>⟨pr,[],rc,hc,J,M,.inl rfl⟩
  | y::t,pr,rc,hc,J,M=>by
    cases he : y.eff with
    | true=>exact ⟨pr,y::t,rc,hc,J,M,.inr ⟨y,t,rfl,he⟩⟩
    | false =>
      have hyin : y ∈ pl:=by rw [M.split]; simp
      obtain ⟨hop,heff⟩:=G.at_ y hyin
      have hr:=M.run
      change doAt ops y.o cx rc m hc (fun r' m' h'=>Bool.casesOn (motive:=fun _=>R) (recheck ops cx.P y.pend rc hc h') .fail (doPlan ops t cx r' m' h')) = x at hr
      obtain ⟨v,h',r',h1,h2,h3⟩:=doAt_inv hr hx
      rw [G.none_ y hyin he] at h3
      have h3 : doPlan ops t cx r' m h' = x:=h3
      have hrel:=M.post.rel
      have hs : hc.n.succ.toNat = hc.n.toNat + 1:=Pos.toNat_succ _
      have hfr : ∀ id ob,hc.t.get id = some ob → id ≠ hc.n:=fun id ob e e'=>by have:=hrel.live id ob e; subst e'; omega
      rcases h1 with ⟨hw,hres⟩ | ⟨hw,rfl,rfl⟩
      · rcases isEff_cases y.o with ⟨_,hcl⟩ | hcl
        · have hxo : ∀ {res : OR},xOp y.o.op cx.P rc hc = res → (∀ f as h1,res ≠ .enter f as h1) → (∀ f as h1,res ≠ .round f as h1) → res = .val v h':=by
            intro res e n1 n2
            rcases hres with g | ⟨f,as,h1,g,_⟩ | ⟨f,as,h1,g,_⟩
            · rw [← e]; exact g
            · exact absurd (e.symm.trans g) (n1 f as h1)
            · exact absurd (e.symm.trans g) (n2 f as h1)
          rcases hcl with ⟨f,hcl⟩ | ⟨f,hcl⟩ | ⟨f,hcl⟩
          · cases hf : f P rc with
            | none =>
              have : OR.fail = OR.val v h':=hxo (by unfold xOp; rw [hcl,hP]; simp only [hf]) (by simp) (by simp)
              cases this
            | some u =>
              have : OR.val u hc = OR.val v h':=hxo (by unfold xOp; rw [hcl,hP]; simp only [hf]) (by simp) (by simp)
              cases this
              exact advance hP G hx t (add_float G M he h2 h3 (Nat.le_refl _) hrel (fun _ _ e=>e) (fun _ _ _ _ e=>e) none (by simp) (.inr ⟨hw,by unfold FloatFact; rw [hcl]; exact hf⟩))
          · cases hf : f P rc hc with
            | none =>
              have : OR.fail = OR.val v h':=hxo (by unfold xOp; rw [hcl,hP]; simp only [hf]) (by simp) (by simp)
              cases this
            | some u =>
              have : OR.val u hc = OR.val v h':=hxo (by unfold xOp; rw [hcl,hP]; simp only [hf]) (by simp) (by simp)
              cases this
              exact advance hP G hx t (add_float G M he h2 h3 (Nat.le_refl _) hrel (fun _ _ e=>e) (fun _ _ _ _ e=>e) none (by simp) (.inr ⟨hw,by unfold FloatFact; rw [hcl]; exact hf⟩))
          · cases hf : f P rc with
            | none =>
              have : OR.fail = OR.val v h':=hxo (by unfold xOp; rw [hcl,hP]; simp only [hf]) (by simp) (by simp)
              cases this
            | some A =>
              have hnc : newCells A.l A.n hc A.k = OR.val v h':=hxo (by unfold xOp; rw [hcl,hP]; simp only [hf]) newCells_not.1 newCells_not.2
              obtain ⟨tt,e1,rfl,rfl⟩:=newCells_cases hnc
              have hgg : ∀ id ob,hc.t.get id = some ob → (Tr.set tt hc.t hc.n).get id = some ob:=fun id ob e=>by
                rw [Tr.get_set,if_neg (hfr id ob e)]; exact e
              have hnone : μ hc.n = none:=by
                cases e : μ hc.n with
                | none=>rfl
                | some C=>exact absurd (hrel.fresh _ _ e) (by omega)
              refine advance hP G hx t (add_float G M he h2 h3 (by show hc.n.toNat ≤ hc.n.succ.toNat; omega) (hrel.free _) hgg (fun g rp u hg e=>hg P rp hc u hc.n hc.n.succ _ hfr e) (some hc.n) (fun q e=>by
                cases e; exact ⟨rfl,by show hc.n.toNat < hc.n.succ.toNat; omega⟩) (.inr ⟨hw,?_⟩))
              unfold FloatFact
              rw [hcl]
              refine ⟨A,tt,hc.n,rfl,hf,e1,rfl,?_,hnone,by show hc.n.toNat < hc.n.succ.toNat; omega⟩
              show (Tr.set tt hc.t hc.n).get hc.n = _
              rw [Tr.get_set,if_pos rfl]
        · rw [heff,hcl] at he; cases he
      · exact advance hP G hx t (add_float G M he h2 h3 (Nat.le_refl _) hrel (fun _ _ e=>e) (fun _ _ _ _ e=>e) none (by simp) (.inl ⟨hw,rfl⟩))
end Go.Sy
namespace Go.Sy
open Go.RowKit
set_option linter.unusedVariables false
set_option linter.unusedSimpArgs false
set_option linter.unusedSectionVars false
variable [Tabs]
variable {P : Program} {B0 : Nat} {cx : Cx} {ops : Array Oper} {ms : Tr Nat} {pl : List PI} {r0 : Tr AV} {m : List Pos} {μ0 : Mu} {h0 : Heap} {w0 : World} {a0 : Act} {x : R}
theorem MK_ptr (k : MK) (id : Pos) : (k.av id = .ptr id 0) ∨ ∃ l z,k.av id = .gs id l z:=by
  cases k with
  | ptr=>exact .inl rfl
  | slice l c z=>exact .inr ⟨l,z,rfl⟩
theorem recheck1_sound {o : Oper} {rc rp : Tr AV} {hc h' : Heap} {μ μ' : Mu} {u : AV} {j : Option Pos} (hr : recheck1 ops P o rc hc h' = true) (heq : ∀ s ∈ readL ops o,rp.get (pathOf s) = rc.get (pathOf s)) (hw : wantedA ops o rp = .yes)
    (hd : ∀ d,o.dst = some d → rc.get (pathOf d) = some u) (hn : hc.n.toNat ≤ h'.n.toNat) (hμ : ∀ id,id.toNat < hc.n.toNat → μ' id = μ id) (hf : FloatFact P o rp hc μ u j) : FloatFact P o rp h' μ' u j:=by
  have hw' : wantedA ops o rc = .yes:=by rw [← wanted_local heq]; exact hw
  have hloc:=cls_local (r:=rp) (r':=rc) o.op (evs_of_read heq)
  unfold recheck1 at hr
  rw [hw'] at hr
  simp only at hr
  unfold FloatFact at hf ⊢
  cases hcl : cls o.op with
  | pure f=>rw [hcl] at hf; exact hf
  | bad=>rw [hcl] at hf; exact hf
  | eff f=>rw [hcl] at hf; exact hf
  | load f =>
    rw [hcl] at hf hr hloc
    simp only at hr hf ⊢
    rw [show f P rp hc = f P rc hc from hloc P hc] at hf
    rw [show f P rp h' = f P rc h' from hloc P h']
    rw [hf] at hr
    cases he : f P rc h' with
    | none=>rw [he] at hr; cases hr
    | some b =>
      rw [he] at hr
      have:=of_decide_eq_true hr
      rw [this]
  | alloc f =>
    rw [hcl] at hf hr
    obtain ⟨A,t,id,e1,e2,e3,rfl,e5,e6,e7⟩:=hf
    refine ⟨A,t,id,e1,e2,e3,rfl,?_,by rw [hμ id e7]; exact e6,by omega⟩
    simp only at hr
    have key : sameAt hc h' id = true → h'.t.get id = some t:=by
      intro hk
      unfold sameAt at hk
      rw [e5] at hk
      split at hk
      · rename_i t1 n1 r1 t2 n2 r2 h1 h2
        obtain ⟨a1,a2,a3⟩:=of_decide_eq_true hk
        rw [h2,Option.some.inj h1,a1,a2,a3]
      · rename_i l1 r1 l2 r2 h1 h2
        obtain ⟨a1,a2⟩:=of_decide_eq_true hk
        rw [h2,Option.some.inj h1,a1,a2]
      · cases hk
    cases hdst : o.dst with
    | none=>rw [hdst] at hr; cases hr
    | some d =>
      rw [hdst] at hr
      have:=hd d hdst
      simp only [this,gv] at hr
      rcases MK_ptr A.k id with e | ⟨l,z,e⟩
      · rw [e] at hr; exact key hr
      · rw [e] at hr; exact key hr
theorem eff_step (hP : cx.P = P) (hcall : CallOK P B0 cx.call) (G : Good ops ms pl) (hx : x ≠ .fail) {D : Nat → Prop} {a : Act} {w : World} {pr t : List PI} {y : PI} {rc : Tr AV} {hc : Heap} {μ : Mu} {J : Nat → Option Pos} (M : Mid P B0 cx ops ms pl r0 m μ0 h0 w0 a0 x D a w pr (y::t) rc hc μ J)
    (he : y.eff = true) (hready : ∀ j,pre ms j y.i = true → D j) {b : Frame} (rest : List Nat) (k : List Item) (cs : List Frame) :
    ∃ a' w' μ' rc' hc' J',Steps P (lone (b.atR a (.inRegion ops (y.i::rest)::k)) cs w) (lone (b.atR a' (.inRegion ops rest::k)) cs w')∧Mid P B0 cx ops ms pl r0 m μ0 h0 w0 a0 x (fun i=>D i ∨ i = y.i) a' w' (pr++[y]) t rc' hc' μ' J':=by
  have hin : ∀ z ∈ pr,z ∈ pl:=fun z hz=>by rw [M.split]; exact List.mem_append.2 (.inl hz)
  have hyin : y ∈ pl:=by rw [M.split]; simp
  have hpair : ∀ z ∈ pr,okPair ops ms z y = true:=fun z hz=>G.before M.split hz
  have hne : ∀ z ∈ pr,z.i ≠ y.i:=fun z hz=>okPair_ne (hpair z hz)
  have hyw : ∀ z ∈ pr,∀ s,z.o.dst = some s → y.o.dst ≠ some s:=fun z hz s e1 e2=>okPair_ww (hpair z hz) e1 e2
  have mem : ∀ z,z ∈ pr++[y] → z ∈ pr ∨ z = y:=fun z hz=>by simpa using hz
  obtain ⟨hop,_⟩:=G.at_ y hyin
  have hrel:=M.post.rel
  have hr:=M.run
  change doAt ops y.o cx rc m hc (fun r' m' h'=>Bool.casesOn (motive:=fun _=>R) (recheck ops cx.P y.pend rc hc h') .fail (doPlan ops t cx r' m' h')) = x at hr
  obtain ⟨v,h',r',h1,h2,h3⟩:=doAt_inv hr hx
  have hrec : recheck ops cx.P y.pend rc hc h' = true∧doPlan ops t cx r' m h' = x:=by
    cases hb : recheck ops cx.P y.pend rc hc h' with
    | false=>rw [hb] at h3; exact absurd h3.symm hx
    | true=>rw [hb] at h3; exact ⟨rfl,h3⟩
  obtain ⟨hrec,hrun⟩:=hrec
  obtain ⟨g1,g2⟩:=putR_get h2
  have henv : ∀ s ∈ readL ops y.o,∀ u,rc.get (pathOf s) = some u → ∃ cv,a.tmps[s]? = some cv∧VR1 μ u cv:=by
    intro s hs u hu
    refine M.slots s u hu (fun z hz hzD e=>hzD (hready _ (okPair_wr (hpair z hz) e hs)))
  obtain ⟨w1,w2⟩:=wanted_env henv
  have fin : ∀ (cv : Value) (w' : World) (μ' : Mu),Steps P (lone (b.atR a (.inRegion ops (y.i::rest)::k)) cs w) (lone (b.atR (a.put y.o.dst cv) (.inRegion ops rest::k)) cs w') → VR1 μ' v cv → Post μ B0 hc w μ' h' w' →
      ∃ a' w' μ' rc' hc' J',Steps P (lone (b.atR a (.inRegion ops (y.i::rest)::k)) cs w) (lone (b.atR a' (.inRegion ops rest::k)) cs w')∧Mid P B0 cx ops ms pl r0 m μ0 h0 w0 a0 x (fun i=>D i ∨ i = y.i) a' w' (pr++[y]) t rc' hc' μ' J':=by
    intro cv w' μ' hst hv hp
    have hle:=hp.mu hrel
    have hsize : (a.put y.o.dst cv).tmps.size = cx.nt:=by
      cases hd : y.o.dst with
      | none=>exact M.size
      | some d=>simp [Act.put,M.size]
    have hself : ∀ s,y.o.dst = some s → (a.put y.o.dst cv).tmps[s]? = some cv:=by
      intro s hs
      obtain ⟨_,hlt⟩:=g1 s hs
      rw [hs]
      simp only [Act.put]
      exact Array.getElem?_setIfInBounds_self_of_lt (by rw [M.size]; exact hlt)
    have hother : ∀ s,y.o.dst ≠ some s → (a.put y.o.dst cv).tmps[s]? = a.tmps[s]?:=by
      intro s hs
      cases hd : y.o.dst with
      | none=>rfl
      | some d =>
        simp only [Act.put]
        rw [Array.getElem?_setIfInBounds_ne (fun e=>hs (by rw [hd,e]))]
    refine ⟨_,w',μ',r',h',fun i=>if i = y.i then none else J i,hst,⟨by rw [M.split]; simp,hrun,?_,?_,M.post.trans hp,hsize,?_,?_,?_,?_,?_,?_,?_,?_⟩⟩
    · intro i hi
      rcases hi with hi | rfl
      · obtain ⟨z,hz,e⟩:=M.done i hi
        exact ⟨z,by simp [hz],e⟩
      · exact ⟨y,by simp,rfl⟩
    · intro z hz hze
      rcases mem z hz with h | h
      · exact .inl (M.effs z h hze)
      · exact .inr (by rw [h])
    · rw [show (a.put y.o.dst cv).defers = a.defers by cases y.o.dst <;> rfl]; exact M.dfr
    · intro s u hu hno
      by_cases hs : y.o.dst = some s
      · obtain ⟨e1,_⟩:=g1 s hs
        rw [e1] at hu
        cases hu
        exact ⟨cv,hself s hs,hv⟩
      · rw [g2 s hs] at hu
        obtain ⟨cu,e1,e2⟩:=M.slots s u hu (fun z hz hzD=>hno z (by simp [hz]) (fun e=>e.elim hzD (hne z hz)))
        exact ⟨cu,by rw [hother s hs]; exact e1,e2.mono hle⟩
    · intro z hz hzD s hzs u hu
      have hzD' : ¬ D z.i:=fun e=>hzD (.inl e)
      rcases mem z hz with h | h
      · obtain ⟨cu,e1,e2⟩:=M.olds z h hzD' s hzs u hu
        exact ⟨cu,by rw [hother s (hyw z h s hzs)]; exact e1,e2.mono hle⟩
      · exact absurd (.inr (by rw [h])) hzD
    · intro s hs
      rw [g2 s (hs y (by simp))]
      exact M.unwr s (fun z hz=>hs z (by simp [hz]))
    · intro z hz hzD
      have hzD' : ¬ D z.i:=fun e=>hzD (.inl e)
      rcases mem z hz with h | h
      · rw [show (if z.i = y.i then none else J z.i) = J z.i from if_neg (hne z h)]
        obtain ⟨rp,u,f1,f2,f3⟩:=M.fact z h hzD'
        refine ⟨rp,u,fun d hd=>?_,fun s hs=>⟨?_,?_⟩,f3.imp id (fun f=>⟨f.1,?_⟩)⟩
        · rw [g2 d (hyw z h d hd)]; exact f1 d hd
        · rintro ⟨q,hq,hqz,hqs,hqp⟩
          rcases mem q hq with h' | h'
          · rw [g2 s (hyw q h' s hqs)]
            exact (f2 s hs).1 ⟨q,h',hqz,hqs,hqp⟩
          · subst h'
            rw [okPair_pre (hpair z h)] at hqp; cases hqp
        · intro hq
          exact (f2 s hs).2 (fun q hq'=>hq q (by simp [hq']))
        · -- the fact itself
          by_cases hmem : isMem z.o = true
          · have hnp : pre ms z.i y.i = false:=by
              cases e : pre ms z.i y.i with
              | false=>rfl
              | true=>exact absurd (hready _ e) hzD'
            obtain ⟨p,hp',hpi⟩:=okPair_mem (hpair z h) hnp he hmem
            have hpo : p.2 = z.o:=by
              have e1:=G.pendAt y hyin p hp'
              have e2:=(G.at_ z (hin z h)).1
              rw [hpi,e2] at e1
              exact (Option.some.inj e1).symm
            have hrk:=List.all_eq_true.1 hrec p hp'
            rw [hpo,hP] at hrk
            have hpend:=(G.pair pr y t M.split).2 p hp'
            unfold okPend at hpend
            have heq : ∀ s ∈ readL ops z.o,rp.get (pathOf s) = rc.get (pathOf s):=by
              intro s hs
              have hw : ∀ q ∈ pr,q.o.dst = some s → pre ms q.i z.i = true:=by
                intro q hq hqs
                have:=List.all_eq_true.1 hpend q hq
                rw [Bool.or_eq_true,hpi,hpo] at this
                rcases this with e | e
                · exact absurd ⟨dst_mask hqs,readL_mask hs⟩ (land0_test e s)
                · exact e
              by_cases hex : ∃ q ∈ pr,q.i ≠ z.i∧q.o.dst = some s
              · obtain ⟨q,hq,hqz,hqs⟩:=hex
                exact (f2 s hs).1 ⟨q,hq,hqz,hqs,hw q hq hqs⟩
              · have hnone : ∀ q ∈ pr,q.o.dst ≠ some s:=by
                  intro q hq hqs
                  by_cases hqz : q.i = z.i
                  · have:=hw q hq hqs
                    rw [hqz,G.self z (hin z h)] at this
                    cases this
                  · exact hex ⟨q,hq,hqz,hqs⟩
                rw [M.unwr s hnone]
                exact (f2 s hs).2 (fun q hq _ hqs=>absurd hqs (hnone q hq))
            exact recheck1_sound hrk heq f.1 (fun d hd=>(f1 d hd).1) hp.le hp.ext f.2
          · refine f.2.mono hp.le (fun g hg _=>?_) (fun g id ob hg _ _=>?_) hp.ext
            · exact absurd (by unfold isMem; rw [hg]) hmem
            · exact absurd (by unfold isMem; rw [hg]) hmem
      · exact absurd (.inr (by rw [h])) hzD
    · intro z hz q hq
      rcases mem z hz with h | h
      · rw [if_neg (hne z h)] at hq
        have:=M.jlt z h q hq
        have:=hp.le
        omega
      · subst h; rw [if_pos rfl] at hq; cases hq
    · intro z hz q hq
      rcases mem z hz with h | h
      · rw [if_neg (hne z h)] at hq
        exact M.jge z h q hq
      · subst h; rw [if_pos rfl] at hq; cases hq
    · intro z hz u hu hzu p q hp' hq'
      rcases mem z hz with h | h
      · rcases mem u hu with h2 | h2
        · rw [if_neg (hne z h)] at hp'
          rw [if_neg (hne u h2)] at hq'
          exact M.apart z h u h2 hzu p q hp' hq'
        · subst h2; rw [if_pos rfl] at hq'; cases hq'
      · subst h; rw [if_pos rfl] at hp'; cases hp'
  rcases h1 with ⟨hw,hres⟩ | ⟨hw,rfl,rfl⟩
  · obtain ⟨q,hq,hqe⟩:=op_env henv
    have hxl:=xOp_local (r:=q) (r':=rc) y.o.op hqe
    have hres' : opRes y.o cx q hc v h':=by
      unfold opRes at hres ⊢
      rw [hxl]; exact hres
    obtain ⟨cv,μ',w',e1,e2,e3⟩:=op_step hP hcall hres' (w:=w) (b:=b) (a:=a) hrel hq ops y.i rest k cs hop (w1 hw)
    exact fin cv w' μ' e3 e1 e2
  · exact fin undef w μ (skip_step hop (w2 hw)) ⟨#[],rfl,rfl⟩ (Post.refl hrel)
end Go.Sy
namespace Go.Sy
open Go.RowKit
set_option linter.unusedVariables false
set_option linter.unusedSimpArgs false
set_option linter.unusedSectionVars false
variable [Tabs]
variable {P : Program} {B0 : Nat} {cx : Cx} {ops : Array Oper} {pl : List PI} {r0 : Tr AV} {m : List Pos} {μ0 : Mu} {h0 : Heap} {w0 : World} {a0 : Act} {x : R}
def cnt (ops : Array Oper) (listed : Array Bool) : Nat:=((List.range ops.size).filter fun i=>!listed.getD i true).length
theorem filter_lt {α : Type} (p q : α → Bool) : ∀ (l : List α),(∀ x,q x = true → p x = true) → (∃ x ∈ l,p x = true∧q x = false) → (l.filter q).length < (l.filter p).length
  | [],_,h=>by obtain ⟨x,hx,_⟩:=h; simp at hx
  | y::l,himp,h=>by
    have hle : (l.filter q).length ≤ (l.filter p).length:=by
      clear h
      induction l with
      | nil=>simp
      | cons z l ih =>
        simp only [List.filter_cons]
        cases hq : q z with
        | true=>rw [himp z hq]; simpa using ih
        | false=>cases p z <;> simp <;> omega
    simp only [List.filter_cons]
    obtain ⟨x,hx,h1,h2⟩:=h
    rcases List.mem_cons.1 hx with e | e
    · subst e
      rw [h1,h2]
      simp; omega
    · have:=filter_lt p q l himp ⟨x,e,h1,h2⟩
      cases hq : q y with
      | true=>rw [himp y hq]; simpa using this
      | false=>cases p y <;> simp <;> omega
noncomputable section
abbrev msOf (ops : Array Oper) : Tr Nat:=preM ops.toList 0 .leaf
end
abbrev DL (listed : Array Bool) (i : Nat) : Prop:=listed.getD i false = true
theorem DL_set {listed : Array Bool} {i : Nat} (hi : i < listed.size) : DL (listed.setIfInBounds i true) = fun j=>DL listed j ∨ j = i:=by
  funext j
  apply propext
  unfold DL
  by_cases e : j = i
  · subst e
    simp [Array.getD,hi]
  · constructor
    · intro h
      left
      rw [← h]
      simp only [Array.getD_eq_getD_getElem?,Array.getElem?_setIfInBounds_ne (fun e'=>e e'.symm)]
    · intro h
      rcases h with h | h
      · rw [← h]
        simp only [Array.getD_eq_getD_getElem?,Array.getElem?_setIfInBounds_ne (fun e'=>e e'.symm)]
      · exact absurd h e
theorem DL_lt {listed : Array Bool} {i : Nat} (h : DL listed i) : i < listed.size:=by
  unfold DL at h
  rcases Nat.lt_or_ge i listed.size with g | g
  · exact g
  · simp [Array.getD,show ¬ i < listed.size by omega] at h
theorem getD_tf {listed : Array Bool} {i : Nat} (hi : i < listed.size) : listed.getD i true = listed.getD i false:=by simp [Array.getD,hi]
theorem order_done (G : Good ops (msOf ops) pl) (hx : x ≠ .fail) {listed : Array Bool} (hsz : listed.size = ops.size) (hall : ∀ i,i < ops.size → DL listed i) {a : Act} {w : World} {pr suf : List PI} {rc : Tr AV} {hc : Heap} {μ : Mu} {J : Nat → Option Pos}
    (M : Mid P B0 cx ops (msOf ops) pl r0 m μ0 h0 w0 a0 x (DL listed) a w pr suf rc hc μ J) : x = .ok rc m hc∧Post μ0 B0 h0 w0 μ hc w∧RR μ rc a.tmps∧a.tmps.size = cx.nt∧a.defers = a0.defers:=by
  have hlt : ∀ y ∈ pl,y.i < ops.size:=fun y hy=>(Array.getElem?_eq_some_iff.1 (G.at_ y hy).1).1
  have hsuf : suf = []:=by
    cases suf with
    | nil=>rfl
    | cons y t =>
      have hy : y ∈ pl:=by rw [M.split]; simp
      obtain ⟨z,hz,e⟩:=M.done y.i (hall _ (hlt y hy))
      exact absurd e (okPair_ne (G.before M.split hz))
  subst hsuf
  have hr:=M.run
  change R.ok rc m hc = x at hr
  refine ⟨hr.symm,M.post,fun s v hv=>M.slots s v hv (fun y hy hyD=>?_),M.size,M.dfr⟩
  exact absurd (hall _ (hlt y (by rw [M.split]; exact List.mem_append.2 (.inl hy)))) hyD
theorem order_step (hP : cx.P = P) (hcall : CallOK P B0 cx.call) (G : Good ops (msOf ops) pl) (hx : x ≠ .fail) (hH0 : HR μ0 B0 h0 w0) {listed : Array Bool} (hsz : listed.size = ops.size) (hEC : EC ops (DL listed)) {a : Act} {w : World}
    (hM : ∃ pr suf rc hc μ J,Mid P B0 cx ops (msOf ops) pl r0 m μ0 h0 w0 a0 x (DL listed) a w pr suf rc hc μ J∧(suf = [] ∨ ∃ y t,suf = y::t∧y.eff = true)) {i : Nat} (hi : i ∈ Region.ready .any ops listed) {b : Frame} (rest : List Nat) (k : List Item) (cs : List Frame) :
    ∃ a' w',Steps P (lone (b.atR a (.inRegion ops (i::rest)::k)) cs w) (lone (b.atR a' (.inRegion ops rest::k)) cs w')∧EC ops (DL (listed.setIfInBounds i true)) ∧
      (∃ pr suf rc hc μ J,Mid P B0 cx ops (msOf ops) pl r0 m μ0 h0 w0 a0 x (DL (listed.setIfInBounds i true)) a' w' pr suf rc hc μ J∧(suf = [] ∨ ∃ y t,suf = y::t∧y.eff = true)):=by
  obtain ⟨pr,suf,rc,hc,μ,J,M,hsuf⟩:=hM
  unfold Region.ready at hi
  rw [List.mem_filter] at hi
  obtain ⟨hi1,hi2⟩:=hi
  have hi1:=List.mem_range.1 hi1
  simp only [Bool.and_eq_true,Bool.not_eq_true'] at hi2
  obtain ⟨hi2,hi3⟩:=hi2
  have hiL : i < listed.size:=by omega
  have hnD : ¬ DL listed i:=by unfold DL; rw [← getD_tf hiL,hi2]; simp
  have hop : ops[i]? = some ops[i]:=Array.getElem?_eq_getElem hi1
  rw [hop] at hi3
  simp only [Option.map_some,Option.getD_some] at hi3
  have hedges : ∀ e ∈ (ops[i]).after.toList,Region.binds .any e = true → DL listed e.on:=by
    intro e he hb
    have:=Array.all_eq_true'.1 hi3 e (Array.mem_toList_iff.1 he)
    rw [hb] at this
    simp only [Bool.not_true,Bool.false_or] at this
    exact this
  have hms:=masks_sound hEC
  have hready : ∀ j,pre (msOf ops) j i = true → DL listed j:=hms i _ hop hedges
  have hclosed : ∀ i j,DL listed i → pre (msOf ops) j i = true → DL listed j:=by
    intro i' j hD hp
    have hlt : i' < ops.size:=by have:=DL_lt hD; omega
    exact hms i' _ (Array.getElem?_eq_getElem hlt) (hEC i' _ hD (Array.getElem?_eq_getElem hlt)) j hp
  have hEC' : EC ops (DL (listed.setIfInBounds i true)):=by
    rw [DL_set hiL]
    intro j o hj ho e he hb
    rcases hj with hj | rfl
    · exact .inl (hEC j o hj ho e he hb)
    · rw [hop] at ho; cases ho; exact .inl (hedges e he hb)
  obtain ⟨y,hy,rfl⟩:=G.all i hi1
  have hcase : y ∈ pr ∨ y ∈ suf:=by rw [M.split] at hy; exact List.mem_append.1 hy
  rcases hcase with hyp | hys
  · obtain ⟨a',w',μ',hst,M'⟩:=float_step (b:=b) hP G M hH0 hyp hnD hready hclosed rest k cs
    rw [← DL_set hiL] at M'
    exact ⟨a',w',hst,hEC',pr,suf,rc,hc,μ',J,M',hsuf⟩
  · rcases hsuf with rfl | ⟨z,t,rfl,hz⟩
    · simp at hys
    · rcases List.mem_cons.1 hys with e | e
      · subst e
        obtain ⟨a',w',μ',rc',hc',J',hst,M'⟩:=eff_step (b:=b) hP hcall G hx M hz hready rest k cs
        rw [← DL_set hiL] at M'
        obtain ⟨pr2,suf2,rc2,hc2,J2,M2,hs2⟩:=advance hP G hx t M'
        exact ⟨a',w',hst,hEC',pr2,suf2,rc2,hc2,μ',J2,M2,hs2⟩
      · exfalso
        obtain ⟨t1,t2,et⟩:=List.append_of_mem e
        have hok:=G.before (pr:=pr++z::t1) (suf:=t2) (y:=y) (by rw [M.split,et]; simp) (x:=z) (by simp)
        have hzD:=hready _ (okPair_eff hok hz)
        obtain ⟨u,hu,eu⟩:=M.done _ hzD
        exact absurd eu (okPair_ne (G.before M.split hu))
theorem order_next (G : Good ops (msOf ops) pl) {listed : Array Bool} (hsz : listed.size = ops.size) (h : Region.ready .any ops listed = []) : ∀ i,i < ops.size → DL listed i:=by
  have key : ∀ (suf pr : List PI),pl = pr++suf → (∀ y ∈ pr,DL listed y.i) → ∀ y ∈ pl,DL listed y.i:=by
    intro suf
    induction suf with
    | nil=>intro pr e hp y hy; rw [e] at hy; exact hp y (by simpa using hy)
    | cons z t ih =>
      intro pr e hp
      have hz : z ∈ pl:=by rw [e]; simp
      have hop:=(G.at_ z hz).1
      have hlt : z.i < ops.size:=(Array.getElem?_eq_some_iff.1 hop).1
      refine ih (pr++[z]) (by rw [e]; simp) (fun y hy=>?_)
      rcases List.mem_append.1 hy with hy | hy
      · exact hp y hy
      · rw [List.mem_singleton] at hy
        subst hy
        by_cases hD : DL listed y.i
        · exact hD
        · exfalso
          have : y.i ∈ Region.ready .any ops listed:=by
            unfold Region.ready
            rw [List.mem_filter]
            refine ⟨List.mem_range.2 hlt,?_⟩
            rw [hop]
            simp only [Option.map_some,Option.getD_some,Bool.and_eq_true,Bool.not_eq_true']
            constructor
            · rw [getD_tf (by omega)]
              cases hb : listed.getD y.i false with
              | false=>rfl
              | true=>exact absurd hb hD
            · rw [Array.all_eq_true']
              intro ed hed
              cases hb : Region.binds .any ed with
              | false=>rfl
              | true =>
                simp only [Bool.not_true,Bool.false_or]
                obtain ⟨h1,h2⟩:=G.edge y.i y.o hop ed (Array.mem_toList_iff.2 hed) hb
                obtain ⟨u,hu,hui⟩:=G.all ed.on h2
                have hupr : u ∈ pr:=by
                  rw [e] at hu
                  rcases List.mem_append.1 hu with g | g
                  · exact g
                  · exfalso
                    rcases List.mem_cons.1 g with g | g
                    · subst g
                      rw [← hui,G.self u hz] at h1
                      cases h1
                    · obtain ⟨t1,t2,et⟩:=List.append_of_mem g
                      have hok:=G.before (pr:=pr++y::t1) (suf:=t2) (y:=u) (by rw [e,et]; simp) (x:=y) (by simp)
                      have:=okPair_pre hok
                      rw [hui,h1] at this
                      cases this
                have:=hp u hupr
                rw [hui] at this
                exact this
          rw [h] at this
          simp at this
  intro i hi
  obtain ⟨y,hy,e⟩:=G.all i hi
  have:=key pl [] (by simp) (by simp) y hy
  rwa [e] at this
theorem order_any (hP : cx.P = P) (hcall : CallOK P B0 cx.call) (G : Good ops (msOf ops) pl) (hx : x ≠ .fail) (hH0 : HR μ0 B0 h0 w0) {b : Frame} (k : List Item) (cs : List Frame) : ∀ (fuel t : Nat) (listed : Array Bool) (a : Act) (w : World),listed.size = ops.size → EC ops (DL listed) →
    (∃ pr suf rc hc μ J,Mid P B0 cx ops (msOf ops) pl r0 m μ0 h0 w0 a0 x (DL listed) a w pr suf rc hc μ J∧(suf = [] ∨ ∃ y t,suf = y::t∧y.eff = true)) → cnt ops listed ≤ fuel →
    ∃ a' w' μ' r' h',x = .ok r' m h'∧Post μ0 B0 h0 w0 μ' h' w'∧RR μ' r' a'.tmps∧a'.tmps.size = cx.nt∧a'.defers = a0.defers ∧
      Steps P (lone (b.atR a (.inRegion ops (Region.linearise.go .any ops fuel t listed [])::k)) cs w) (lone (b.atR a' (.inRegion ops []::k)) cs w')
  | 0,t,listed,a,w,hsz,hEC,hM,hcnt=>by
    have hall : ∀ i,i < ops.size → DL listed i:=by
      intro i hi
      cases hb : listed.getD i false with
      | true=>exact hb
      | false =>
        exfalso
        have : i ∈ (List.range ops.size).filter fun i=>!listed.getD i true:=by
          rw [List.mem_filter]
          refine ⟨List.mem_range.2 hi,?_⟩
          rw [getD_tf (by omega),hb]; rfl
        have:=List.length_pos_of_mem this
        unfold cnt at hcnt
        omega
    obtain ⟨pr,suf,rc,hc,μ,J,M,_⟩:=hM
    obtain ⟨e1,e2,e3,e4,e5⟩:=order_done G hx hsz hall M
    exact ⟨a,w,μ,rc,hc,e1,e2,e3,e4,e5,by simp [Region.linearise.go]; exact Steps.refl _ _⟩
  | fuel + 1,t,listed,a,w,hsz,hEC,hM,hcnt=>by
    have hgo : Region.linearise.go .any ops (fuel + 1) t listed [] = match (Region.ready .any ops listed)[t % (Region.ready .any ops listed).length]? with
        | some i=>Region.linearise.go .any ops fuel (t / (Region.ready .any ops listed).length) (listed.setIfInBounds i true) [i]
        | none=>[].reverse:=rfl
    rw [hgo]
    cases hi : (Region.ready .any ops listed)[t % (Region.ready .any ops listed).length]? with
    | none =>
      have hnil : Region.ready .any ops listed = []:=by
        cases hr : Region.ready .any ops listed with
        | nil=>rfl
        | cons y ys =>
          rw [hr] at hi
          have hlt : t % (y::ys).length < (y::ys).length:=Nat.mod_lt _ (by simp)
          rw [List.getElem?_eq_none_iff] at hi
          omega
      obtain ⟨pr,suf,rc,hc,μ,J,M,_⟩:=hM
      obtain ⟨e1,e2,e3,e4,e5⟩:=order_done G hx hsz (order_next G hsz hnil) M
      exact ⟨a,w,μ,rc,hc,e1,e2,e3,e4,e5,Steps.refl _ _⟩
    | some i =>
      simp only
      rw [linearise_go_acc,List.reverse_singleton,List.singleton_append]
      have hmem:=List.mem_of_getElem? hi
      obtain ⟨a1,w1,hst,hEC1,hM1⟩:=order_step (b:=b) hP hcall G hx hH0 hsz hEC hM hmem (Region.linearise.go .any ops fuel (t / (Region.ready .any ops listed).length) (listed.setIfInBounds i true) []) k cs
      have hi' : i < ops.size∧listed.getD i true = false:=by
        unfold Region.ready at hmem
        rw [List.mem_filter] at hmem
        obtain ⟨q1,q2⟩:=hmem
        simp only [Bool.and_eq_true,Bool.not_eq_true'] at q2
        exact ⟨List.mem_range.1 q1,q2.1⟩
      have hlt : cnt ops (listed.setIfInBounds i true) < cnt ops listed:=by
        refine filter_lt _ _ _ (fun j hj=>?_) ⟨i,List.mem_range.2 hi'.1,by simp [hi'.2],?_⟩
        · by_cases e : j = i
          · subst e; simp [hi'.2]
          · simp only [Array.getD_eq_getD_getElem?,Array.getElem?_setIfInBounds_ne (fun e'=>e e'.symm)] at hj ⊢
            exact hj
        · simp [Array.getD,show i < listed.size by omega]
      obtain ⟨a',w',μ',r',h',f1,f2,f3,f4,f5,f6⟩:=order_any hP hcall G hx hH0 k cs fuel _ (listed.setIfInBounds i true) a1 w1 (by simp [hsz]) hEC1 hM1 (by omega)
      exact ⟨a',w',μ',r',h',f1,f2,f3,f4,f5,hst.trans f6⟩
theorem draw_sound (hm : P.follows .mixedOrders = true) (hP : cx.P = P) (hcall : CallOK P B0 cx.call) (hpl : planOf ops = some pl) {r : Tr AV} {h : Heap} (hrun : doPlan ops pl cx r m h = x) (hx : x ≠ .fail) {μ : Mu} {w : World} {a : Act} (hH : HR μ B0 h w) (hr : RR μ r a.tmps) (hsz : a.tmps.size = cx.nt)
    {b : Frame} (k : List Item) (cs : List Frame) (t : Nat) :
    ∃ a' w' μ' r' h',x = .ok r' m h'∧Post μ B0 h w μ' h' w'∧RR μ' r' a'.tmps∧a'.tmps.size = cx.nt∧a'.defers = a.defers ∧
      Steps P (lone (b.atR a (.inRegion ops (Region.schedule (P.follows .mixedOrders) ops t)::k)) cs w) (lone (b.atR a' (.inRegion ops []::k)) cs w'):=by
  have G:=planOf_good hpl
  have hD0 : ∀ i,¬ DL (Array.replicate ops.size false) i:=by
    intro i hi
    unfold DL at hi
    by_cases e : i < ops.size <;> simp [Array.getD,e] at hi
  have M0 : Mid P B0 cx ops (msOf ops) pl r m μ h w a x (DL (Array.replicate ops.size false)) a w [] pl r h μ (fun _=>none) :=
    ⟨by simp,hrun,fun i hi=>absurd hi (hD0 i),by simp,Post.refl hH,hsz,rfl,fun s v hv _=>hr s v hv,by simp,fun _ _=>rfl,by simp,by simp,by simp,by simp⟩
  obtain ⟨pr2,suf2,rc2,hc2,J2,M2,hs2⟩:=advance hP G hx pl M0
  have:=order_any (b:=b) hP hcall G hx hH k cs ops.size t (Array.replicate ops.size false) a w (by simp) (fun i o hi=>absurd hi (hD0 i)) ⟨pr2,suf2,rc2,hc2,μ,J2,M2,hs2⟩ (by
    unfold cnt
    refine Nat.le_trans (List.length_filter_le _ _) (by simp))
  unfold Region.schedule
  rw [hm]
  simp only [Bool.true_or,if_true]
  exact this
end Go.Sy
namespace Go.Sy
open Go.RowKit
set_option linter.unusedVariables false
set_option linter.unusedSimpArgs false
set_option linter.unusedSectionVars false
variable [Tabs]
def DR (μ : Mu) : List Pos → List Deferred → Prop
  | [],[]=>True
  | id::m,d::ds=>(∃ B,μ id = some B∧d.target = .collected B.b)∧DR μ m ds
  | _,_=>False
theorem DR.mono {μ μ' : Mu} (h : μ.le μ') : ∀ {m : List Pos} {ds : List Deferred},DR μ m ds → DR μ' m ds
  | [],[],_=>trivial
  | id::m,d::ds,⟨⟨B,e1,e2⟩,h2⟩=>⟨⟨B,h.m _ _ e1,e2⟩,DR.mono h h2⟩
  | [],_::_,h2=>h2.elim
  | _::_,[],h2=>h2.elim
structure AR (μ : Mu) (nt : Nat) (r : Tr AV) (m : List Pos) (a : Act) : Prop where
  rr : RR μ r a.tmps
  size : a.tmps.size = nt
  dr : DR μ m a.defers
structure FR (μ : Mu) (cx : Cx) (b : Frame) : Prop where
  fn : b.fn = cx.fn
  kind : b.kind = .normal
  rd : match cx.rd with | none=>b.roundOf = none | some id=>∃ B,μ id = some B∧b.roundOf = some B.b
theorem FR.mono {μ μ' : Mu} (h : μ.le μ') {cx : Cx} {b : Frame} (hf : FR μ cx b) : FR μ' cx b:=by
  refine ⟨hf.fn,hf.kind,?_⟩
  have:=hf.rd
  cases hr : cx.rd with
  | none=>rw [hr] at this; exact this
  | some id=>rw [hr] at this; obtain ⟨B,e1,e2⟩:=this; exact ⟨B,h.m _ _ e1,e2⟩
def RPost (P : Program) (B0 : Nat) (μ : Mu) (h : Heap) (w : World) (nt : Nat) (b : Frame) (S : List Item → List Frame → Machine) : R → Prop
  | .fail=>True
  | .ok r m h'=>∀ k cs,∃ μ' a' w',Post μ B0 h w μ' h' w'∧AR μ' nt r m a'∧Steps P (S k cs) (lone (b.atR a' k) cs w')
  | .exit i r m h'=>∀ k cs,∃ μ' a' w',Post μ B0 h w μ' h' w'∧AR μ' nt r m a'∧∃ k',exitTo i k' = exitTo i k∧Steps P (S k cs) (lone (b.atR a' (.code (.exit i)::k')) cs w')
  | .ret r m h'=>∀ k cs,∃ μ' a' w',Post μ B0 h w μ' h' w'∧AR μ' nt r m a'∧∃ k',Steps P (S k cs) (lone (b.atR a' (.code .ret::k')) cs w')
variable {P : Program} {B0 : Nat}
theorem RPost.step {μ : Mu} {h h1 : Heap} {w : World} {nt : Nat} {b : Frame} {S : List Item → List Frame → Machine} {x : R}
    (H : ∀ k cs,∃ μ1 w1 S1,Post μ B0 h w μ1 h1 w1∧Steps P (S k cs) (S1 k cs)∧RPost P B0 μ1 h1 w1 nt b S1 x) : RPost P B0 μ h w nt b S x:=by
  cases x with
  | fail=>trivial
  | ok r m h' =>
    intro k cs
    obtain ⟨μ1,w1,S1,hp,hs,hx⟩:=H k cs
    obtain ⟨μ',a',w',hp',ha,hs'⟩:=hx k cs
    exact ⟨μ',a',w',hp.trans hp',ha,hs.trans hs'⟩
  | exit i r m h' =>
    intro k cs
    obtain ⟨μ1,w1,S1,hp,hs,hx⟩:=H k cs
    obtain ⟨μ',a',w',hp',ha,k',he,hs'⟩:=hx k cs
    exact ⟨μ',a',w',hp.trans hp',ha,k',he,hs.trans hs'⟩
  | ret r m h' =>
    intro k cs
    obtain ⟨μ1,w1,S1,hp,hs,hx⟩:=H k cs
    obtain ⟨μ',a',w',hp',ha,k',hs'⟩:=hx k cs
    exact ⟨μ',a',w',hp.trans hp',ha,k',hs.trans hs'⟩
theorem RPost.ahead {μ : Mu} {h : Heap} {w : World} (hr : HR μ B0 h w) {nt : Nat} {b : Frame} {S S1 : List Item → List Frame → Machine} {x : R} (hs : ∀ k cs,Steps P (S k cs) (S1 k cs)) (hx : RPost P B0 μ h w nt b S1 x) : RPost P B0 μ h w nt b S x :=
  RPost.step (fun k cs=>⟨μ,w,S1,Post.refl hr,hs k cs,hx⟩)
def CodeOK (P : Program) (B0 : Nat) (cx : Cx) (run : Run) (c : Code) : Prop :=
  ∀ (r : Tr AV) (m : List Pos) (h : Heap) (μ : Mu) (w : World) (b : Frame) (a : Act),HR μ B0 h w → AR μ cx.nt r m a → FR μ cx b →
    RPost P B0 μ h w cx.nt b (fun k cs=>lone (b.atR a (.code c::k)) cs w) (run cx r m h)
theorem stepR_scope {b : Frame} {a : Act} {k : List Item} {cs : List Frame} {w : World} {c : Code} : step P (lone (b.atR a (.code (.scope c)::k)) cs w) = .next (lone (b.atR a (.code c::.inScope c::k)) cs w) :=
  step_lone_go (by simp [stepG,stepG.exec,Frame.atR])
theorem stepR_inScope {b : Frame} {a : Act} {k : List Item} {cs : List Frame} {w : World} {c : Code} : step P (lone (b.atR a (.inScope c::k)) cs w) = .next (lone (b.atR a k) cs w) :=
  step_lone_go (by simp [stepG,stepG.exec,Frame.atR])
section code
variable {cx : Cx}
theorem seq_sound {x y : Code} {ra rb : Run} (ha : CodeOK P B0 cx ra x) (hb : CodeOK P B0 cx rb y) : CodeOK P B0 cx (xSeq ra rb) (.seq x y):=by
  intro r m h μ w b a hr har hf
  refine RPost.ahead hr (S1:=fun k cs=>lone (b.atR a (.code x::.code y::k)) cs w) (fun k cs=>.one stepR_seq) ?_
  have h1:=ha r m h μ w b a hr har hf
  unfold xSeq
  cases hx : ra cx r m h with
  | fail=>trivial
  | ok r1 m1 h1' =>
    rw [hx] at h1
    simp only
    refine RPost.step (h1:=h1') (fun k cs=>?_)
    obtain ⟨μ1,a1,w1,hp,har1,hs⟩:=h1 (.code y::k) cs
    exact ⟨μ1,w1,fun k cs=>lone (b.atR a1 (.code y::k)) cs w1,hp,hs,hb r1 m1 h1' μ1 w1 b a1 hp.rel har1 (hf.mono (hp.mu hr))⟩
  | exit i r1 m1 h1' =>
    rw [hx] at h1
    intro k cs
    obtain ⟨μ1,a1,w1,hp,har1,k',he,hs⟩:=h1 (.code y::k) cs
    exact ⟨μ1,a1,w1,hp,har1,k',he,hs⟩
  | ret r1 m1 h1' =>
    rw [hx] at h1
    intro k cs
    obtain ⟨μ1,a1,w1,hp,har1,k',hs⟩:=h1 (.code y::k) cs
    exact ⟨μ1,a1,w1,hp,har1,k',hs⟩
theorem cond_sound {c : Operand} {x y : Code} {ra rb : Run} (ha : CodeOK P B0 cx ra x) (hb : CodeOK P B0 cx rb y) : CodeOK P B0 cx (xCond c ra rb) (.cond c x y):=by
  intro r m h μ w b a hr har hf
  have hc:=ev_sound hr.glob har.rr c
  unfold xCond
  split
  · rename_i t ht
    rw [ht] at hc
    have hc : a.eval c = .bool t:=by simpa [VR] using hc
    cases t with
    | true=>exact RPost.ahead hr (S1:=fun k cs=>lone (b.atR a (.code x::k)) cs w) (fun k cs=>.one (stepR_cond hc)) (ha r m h μ w b a hr har hf)
    | false=>exact RPost.ahead hr (S1:=fun k cs=>lone (b.atR a (.code y::k)) cs w) (fun k cs=>.one (stepR_cond hc)) (hb r m h μ w b a hr har hf)
  · trivial
theorem block_sound {id : Nat} {x : Code} {ra : Run} (ha : CodeOK P B0 cx ra x) : CodeOK P B0 cx (xBlock id ra) (.block id x):=by
  intro r m h μ w b a hr har hf
  refine RPost.ahead hr (S1:=fun k cs=>lone (b.atR a (.code x::.inBlock id::k)) cs w) (fun k cs=>.one stepR_block) ?_
  have h1:=ha r m h μ w b a hr har hf
  unfold xBlock
  cases hx : ra cx r m h with
  | fail=>trivial
  | ok r1 m1 h1' =>
    rw [hx] at h1
    intro k cs
    obtain ⟨μ1,a1,w1,hp,har1,hs⟩:=h1 (.inBlock id::k) cs
    exact ⟨μ1,a1,w1,hp,har1,hs.trans (.one stepR_inBlock)⟩
  | exit i r1 m1 h1' =>
    rw [hx] at h1
    simp only
    cases hi : Nat.beq i id with
    | true =>
      intro k cs
      obtain ⟨μ1,a1,w1,hp,har1,k',he,hs⟩:=h1 (.inBlock id::k) cs
      have hi:=Nat.eq_of_beq_eq_true hi
      subst hi
      have : exitTo i (.inBlock i::k) = some k:=by simp [exitTo]
      exact ⟨μ1,a1,w1,hp,har1,hs.trans (.one (stepR_exit (he.trans this)))⟩
    | false =>
      intro k cs
      obtain ⟨μ1,a1,w1,hp,har1,k',he,hs⟩:=h1 (.inBlock id::k) cs
      have hne : (id == i) = false:=by
        cases e : id == i with
        | false=>rfl
        | true=>rw [beq_iff_eq.1 e,Nat.beq_refl] at hi; cases hi
      have : exitTo i (.inBlock id::k) = exitTo i k:=by simp [exitTo,hne]
      exact ⟨μ1,a1,w1,hp,har1,k',he.trans this,hs⟩
  | ret r1 m1 h1' =>
    rw [hx] at h1
    intro k cs
    obtain ⟨μ1,a1,w1,hp,har1,k',hs⟩:=h1 (.inBlock id::k) cs
    exact ⟨μ1,a1,w1,hp,har1,k',hs⟩
theorem iter_sound {x : Code} {ra : Run} (ha : CodeOK P B0 cx ra x) : ∀ (n : Nat) (r : Tr AV) (m : List Pos) (h : Heap) (μ : Mu) (w : World) (b : Frame) (a : Act),HR μ B0 h w → AR μ cx.nt r m a → FR μ cx b →
    RPost P B0 μ h w cx.nt b (fun k cs=>lone (b.atR a (.code x::.inLoop x::k)) cs w) (iter ra n cx r m h)
  | 0,_,_,_,_,_,_,_,_,_,_=>trivial
  | n + 1,r,m,h,μ,w,b,a,hr,har,hf=>by
    have h1:=ha r m h μ w b a hr har hf
    show RPost P B0 μ h w cx.nt b _ (R.casesOn (motive:=fun _=>(Cx → Tr AV → List Pos → Heap → R) → Cx → R) (ra cx r m h) (fun _ _=>.fail) (fun r m h ih cx=>ih cx r m h)
      (fun i r m h _ _=>.exit i r m h) (fun r m h _ _=>.ret r m h) (iter ra n) cx)
    cases hx : ra cx r m h with
    | fail=>trivial
    | ok r1 m1 h1' =>
      rw [hx] at h1
      refine RPost.step (h1:=h1') (fun k cs=>?_)
      obtain ⟨μ1,a1,w1,hp,har1,hs⟩:=h1 (.inLoop x::k) cs
      exact ⟨μ1,w1,fun k cs=>lone (b.atR a1 (.code x::.inLoop x::k)) cs w1,hp,hs.trans (.one stepR_inLoop),iter_sound ha n r1 m1 h1' μ1 w1 b a1 hp.rel har1 (hf.mono (hp.mu hr))⟩
    | exit i r1 m1 h1' =>
      rw [hx] at h1
      intro k cs
      obtain ⟨μ1,a1,w1,hp,har1,k',he,hs⟩:=h1 (.inLoop x::k) cs
      exact ⟨μ1,a1,w1,hp,har1,k',he,hs⟩
    | ret r1 m1 h1' =>
      rw [hx] at h1
      intro k cs
      obtain ⟨μ1,a1,w1,hp,har1,k',hs⟩:=h1 (.inLoop x::k) cs
      exact ⟨μ1,a1,w1,hp,har1,k',hs⟩
theorem loop_sound {x : Code} {ra : Run} (ha : CodeOK P B0 cx ra x) : CodeOK P B0 cx (xLoop ra) (.loop x):=by
  intro r m h μ w b a hr har hf
  exact RPost.ahead hr (S1:=fun k cs=>lone (b.atR a (.code x::.inLoop x::k)) cs w) (fun k cs=>.one stepR_loop) (iter_sound ha cx.fuel r m h μ w b a hr har hf)
theorem doOps_sound (hP : cx.P = P) (hcall : CallOK P B0 cx.call) {ops : Array Oper} {b : Frame} : ∀ (l : List Oper) (i : Nat) (r : Tr AV) (m : List Pos) (h : Heap) (μ : Mu) (w : World) (a : Act),(∀ (n : Nat) o,l[n]? = some o → ops[i + n]? = some o) →
    HR μ B0 h w → AR μ cx.nt r m a → RPost P B0 μ h w cx.nt b (fun k cs=>lone (b.atR a (.inRegion ops (List.range' i l.length)::k)) cs w) (doOps ops l cx r m h)
  | [],i,r,m,h,μ,w,a,hl,hr,har=>fun k cs=>⟨μ,a,w,Post.refl hr,har,.one stepR_region_end⟩
  | o::l,i,r,m,h,μ,w,a,hl,hr,har=>by
    have ho : ops[i]? = some o:=by simpa using hl 0 o rfl
    show RPost P B0 μ h w cx.nt b _ (doAt ops o cx r m h (fun r m h=>doOps ops l cx r m h))
    cases hx : doAt ops o cx r m h (fun r m h=>doOps ops l cx r m h) with
    | fail=>trivial
    | _ =>
      obtain ⟨v,h',r',h1,h2,h3⟩:=doAt_inv hx (by simp)
      rw [← h3]
      refine RPost.step (h1:=h') (fun k cs=>?_)
      have hw:=wantedA_sound (μ:=μ) (ops:=ops) (o:=o) (r:=r) (tmps:=a.tmps) (fun g s v _ _ hv=>har.rr s v hv)
      have key : ∃ cv μ' w',VR1 μ' v cv∧Post μ B0 h w μ' h' w'∧Steps P (lone (b.atR a (.inRegion ops (i::List.range' (i + 1) l.length)::k)) cs w) (lone (b.atR (a.put o.dst cv) (.inRegion ops (List.range' (i + 1) l.length)::k)) cs w'):=by
        rcases h1 with ⟨hwa,hres⟩ | ⟨hwa,rfl,rfl⟩
        · exact op_step hP hcall hres hr har.rr ops i _ k cs ho (hw.1 hwa)
        · exact ⟨undef,μ,w,⟨#[],rfl,rfl⟩,Post.refl hr,skip_step ho (hw.2 hwa)⟩
      obtain ⟨cv,μ',w',hv,hp,hs⟩:=key
      obtain ⟨g1,g2,g3⟩:=putR_sound h2 (har.rr.mono (hp.mu hr)) har.size hv
      exact ⟨μ',w',fun k cs=>lone (b.atR (a.put o.dst cv) (.inRegion ops (List.range' (i + 1) l.length)::k)) cs w',hp,hs,
        doOps_sound hP hcall l (i + 1) r' m h' μ' w' (a.put o.dst cv) (fun n o' hn=>by have:=hl (n + 1) o' (by simpa using hn); rwa [show i + (n + 1) = i + 1 + n by omega] at this) hp.rel ⟨g1,g2,by rw [g3]; exact har.dr.mono (hp.mu hr)⟩⟩
theorem region_sound (hm : P.follows .mixedOrders = true) (hP : cx.P = P) (hcall : CallOK P B0 cx.call) {id : Nat} {ops : Array Oper} {draw : Bool} : CodeOK P B0 cx (fun cx r m h=>drawOps ops draw cx r m h) (.region id ops draw):=by
  intro r m h μ w b a hr har hf
  cases draw with
  | false =>
    refine RPost.ahead hr (S1:=fun k cs=>lone (b.atR a (.inRegion ops (List.range' 0 ops.toList.length)::k)) cs w) (fun k cs=>?_) (doOps_sound hP hcall ops.toList 0 r m h μ w a (fun n o hn=>by simpa using hn) hr har)
    have:=stepR_region (P:=P) (b:=b) (a:=a) (k:=k) (cs:=cs) (w:=w) (ops:=ops) (id:=id)
    rw [List.range_eq_range'] at this
    exact .one (by simpa using this)
  | true =>
    show RPost P B0 μ h w cx.nt b _ (Option.casesOn (motive:=fun _=>R) (planOf ops) .fail (fun pl=>doPlan ops pl cx r m h))
    cases hpl : planOf ops with
    | none=>trivial
    | some pl =>
      simp only
      cases hx : doPlan ops pl cx r m h with
      | fail=>trivial
      | _ =>
        have hd:=fun k cs=>draw_sound (b:=b) hm hP hcall hpl hx (by simp) (HR.heapEq (w:=w) (w':=w.drew) rfl hr) har.rr har.size k cs (w.tape w.drawn (.order b.fn id))
        obtain ⟨a1,w1,μ1,r1,h1,e1,_⟩:=hd [] []
        cases e1
        all_goals
          intro k cs
          obtain ⟨a',w',μ',r',h',e,hp,g1,g2,g3,hs⟩:=hd k cs
          cases e
          have hp' : Post μ B0 h w μ' _ w':=⟨hp.ext,hp.le,hp.rel,((Below.refl B0 w).drew).trans hp.below,hp.seals⟩
          refine ⟨μ',a',w',hp',⟨g1,g2,by rw [g3]; exact har.dr.mono (hp'.mu hr)⟩,.head (stepR_region_draw) (hs.trans (.one stepR_region_end))⟩
theorem scope_sound {x : Code} {ra : Run} (ha : CodeOK P B0 cx ra x) : CodeOK P B0 cx ra (.scope x):=by
  intro r m h μ w b a hr har hf
  refine RPost.ahead hr (S1:=fun k cs=>lone (b.atR a (.code x::.inScope x::k)) cs w) (fun k cs=>.one stepR_scope) ?_
  have h1:=ha r m h μ w b a hr har hf
  cases hx : ra cx r m h with
  | fail=>trivial
  | ok r1 m1 h1' =>
    rw [hx] at h1
    intro k cs
    obtain ⟨μ1,a1,w1,hp,har1,hs⟩:=h1 (.inScope x::k) cs
    exact ⟨μ1,a1,w1,hp,har1,hs.trans (.one stepR_inScope)⟩
  | exit i r1 m1 h1' =>
    rw [hx] at h1
    intro k cs
    obtain ⟨μ1,a1,w1,hp,har1,k',he,hs⟩:=h1 (.inScope x::k) cs
    exact ⟨μ1,a1,w1,hp,har1,k',he,hs⟩
  | ret r1 m1 h1' =>
    rw [hx] at h1
    intro k cs
    obtain ⟨μ1,a1,w1,hp,har1,k',hs⟩:=h1 (.inScope x::k) cs
    exact ⟨μ1,a1,w1,hp,har1,k',hs⟩
end code
end Go.Sy
namespace Go.Sy
open Go.RowKit
set_option linter.unusedVariables false
set_option linter.unusedSimpArgs false
set_option linter.unusedSectionVars false
variable [Tabs]
variable {P : Program} {B0 : Nat}
theorem newAny {μ : Mu} {h : Heap} {w : World} (hr : HR μ B0 h w) (o : AO) (ob : Obj) (ho : OBR (μ.put h.n ⟨w.heap.size,0,0⟩) (w.heap.push ob) ⟨w.heap.size,0,0⟩ o) :
    Post μ B0 h w (μ.put h.n ⟨w.heap.size,0,0⟩) ⟨h.t.set o h.n,h.n.succ⟩ (w.alloc ob):=by
  have hnone : μ h.n = none:=by
    cases e : μ h.n with
    | none=>rfl
    | some C=>exact absurd (hr.fresh _ _ e) (by omega)
  have hsz : h.n.succ.toNat = h.n.toNat + 1:=Pos.toNat_succ _
  refine ⟨?_,by show h.n.toNat ≤ h.n.succ.toNat; omega,?_,(Below.refl _ _).alloc hr.size _,Grow.refl _ _⟩
  · intro q hq
    exact Mu.put_other _ _ _ (fun e'=>by subst e'; omega)
  · refine hr.new h.n hnone o ⟨w.heap.size,0,0⟩ ob _ (by omega) (by omega) rfl _ ?_ ho
    intro q p e
    rw [Tr.get_set] at e
    by_cases hq : q = h.n
    · rw [if_pos hq] at e; cases e; exact .inl ⟨hq,rfl⟩
    · rw [if_neg hq] at e; exact .inr ⟨hq,e⟩
theorem killChg {μ : Mu} {h : Heap} {w w' : World} (hr : HR μ B0 h w) (id : Pos) (B : Blk) (hid : μ id = some B) (o0 : AO) (h0 : h.t.get id = some o0) (hro : o0.isRo = false) (hin : ¬ o0.inert B)
    (hb : ∀ k,k ≠ B.b → w'.heap[k]? = w.heap[k]?) (hs : w.heap.size ≤ w'.heap.size) : HR μ B0 (kill id h) w':=by
  have key : ∀ q p,(Tr.del h.t id).get q = some p → q ≠ id∧h.t.get q = some p:=fun q p e=>by
    rw [Tr.get_del] at e
    by_cases hq : q = id
    · rw [if_pos hq] at e; cases e
    · rw [if_neg hq] at e; exact ⟨hq,e⟩
  refine ⟨hr.fresh,fun q o e=>hr.live q o (key q o e).2,?_,fun i j A C p q hij e1 e2 e3 e4=>hr.sep i j A C p q hij e1 e2 (key _ _ e3).2 (key _ _ e4).2,fun q B o e1 e2 e3=>hr.own q B o e1 (key _ _ e2).2 e3,hr.glob,Nat.le_trans hr.size hs,?_,fun q B o e1 e2 e3=>hr.apart q B o e1 (key _ _ e2).2 e3,hr.tab⟩
  · intro q C p e1 e2
    obtain ⟨hq,e2⟩:=key q p e2
    refine (hr.obj q C p e1 e2).heap ?_
    rcases hr.sep q id C B p o0 hq e1 hid e2 h0 with h3 | h3 | h3
    · exact .inr (hb _ h3)
    · exact .inl h3
    · exact absurd h3 hin
  · intro b c e
    obtain ⟨el,fz,h1⟩:=hr.sld b c e
    have hne : b ≠ B.b:=fun e'=>by
      have:=(hr.apart id B o0 hid h0 hro).resolve_left hin
      rw [e',this] at e; cases e
    exact ⟨el,fz,(hb b hne).trans h1⟩
theorem not_inert_loop {a b c d e f g h i} {B : Blk} : ¬ (AO.loop a b c d e f g h i).inert B:=fun ⟨_,_,e⟩=>by cases e
theorem not_inert_marks {B : Blk} : ¬ AO.marks.inert B:=fun ⟨_,_,e⟩=>by cases e
theorem Below.putObj {a w : World} (h : Below B0 a w) {r : Nat} (hr : B0 ≤ r) (o : Obj) : Below B0 a (w.putObj r o) :=
  h.trans ⟨rfl,rfl,rfl,by simp,fun k hk=>World.putObj_heap_other (by omega)⟩
theorem killPost {μ : Mu} {h : Heap} {w : World} (hr : HR μ B0 h w) (id : Pos) (B : Blk) (hid : μ id = some B) (o0 : AO) (h0 : h.t.get id = some o0) (hro : o0.isRo = false) (hin : ¬ o0.inert B) (ob : Obj) :
    Post μ B0 h w μ (kill id h) (w.putObj B.b ob) :=
  ⟨fun _ _=>rfl,Nat.le_refl _,killChg hr id B hid o0 h0 hro hin (fun k hk=>World.putObj_heap_other hk) (by simp),Below.putObj (Below.refl _ _) ((hr.own id B o0 hid h0 hro).resolve_left hin) ob,Grow.refl _ _⟩
theorem putPost {μ : Mu} {h : Heap} {w : World} (hr : HR μ B0 h w) (id : Pos) (B : Blk) (hid : μ id = some B) (o0 o : AO) (h0 : h.t.get id = some o0) (hro0 : o0.isRo = false) (hin : ¬ o0.inert B) (hro : o.isRo = false) (ob : Obj) (ho : OBR μ (w.putObj B.b ob).heap B o) :
    Post μ B0 h w μ ⟨h.t.set o id,h.n⟩ (w.putObj B.b ob) :=
  ⟨fun _ _=>rfl,Nat.le_refl _,hr.chg id B hid o hro o0 h0 hro0 hin (fun k hk=>World.putObj_heap_other hk) (by simp) ho _ (fun q p e=>by
    rw [Tr.get_set] at e
    by_cases hq : q = id
    · rw [if_pos hq] at e; cases e; exact .inl ⟨hq,rfl⟩
    · rw [if_neg hq] at e; exact .inr ⟨hq,e⟩),Below.putObj (Below.refl _ _) ((hr.own id B o0 hid h0 hro0).resolve_left hin) ob,Grow.refl _ _⟩
theorem endLoopA_sound {cx : Cx} {id : Pos} {r : Tr AV} {m : List Pos} {h : Heap} {μ : Mu} {w : World} {b : Frame} {a : Act} {B : Blk} (hid : μ id = some B) (hr : HR μ B0 h w) (har : AR μ cx.nt r m a) :
    RPost P B0 μ h w cx.nt b (fun k cs=>lone (b.atR a (.endRangeFunc B.b::k)) cs w) (endLoopA id r m h):=by
  unfold endLoopA
  split
  · rename_i ready pend fn regs nt ps as bd dfr hg
    have hob:=hr.obj id B _ hid hg
    obtain ⟨l,h1,h2,_,h3,_⟩:=hob
    cases hok : (Bool.casesOn (motive:=fun _=>Bool) ready (Option.casesOn (motive:=fun _=>Bool) pend false (fun _=>true)) true) with
    | false=>trivial
    | true =>
      have hnb : l.state ≠ .busy:=by
        rw [h2]
        cases ready with
        | true=>intro e; cases e
        | false =>
          cases pend with
          | none=>cases hok
          | some p=>intro e; cases e
      have hend : (Instr.endLoop B.b).run P w = .ok (jumpOf pend) (w.putObj B.b (.loop { l with state:=.exhausted })):=by rw [← h3]; exact run_endLoop (P:=P) h1 hnb
      have hpost:=killPost hr id B hid _ hg rfl not_inert_loop (.loop { l with state:=.exhausted })
      simp only
      cases pend with
      | none =>
        intro k cs
        exact ⟨μ,a,_,hpost,har,.one (stepR_endRangeFunc hend)⟩
      | some p =>
        cases p with
        | none =>
          intro k cs
          exact ⟨μ,a,_,hpost,har,k,.one (stepR_endRangeFunc hend)⟩
        | some i =>
          intro k cs
          exact ⟨μ,a,_,hpost,har,k,rfl,.one (stepR_endRangeFunc hend)⟩
  · trivial
theorem rangeFunc_tail {cx : Cx} (hcall : CallOK P B0 cx.call) {f : Operand} {ps : Array Tmp} {assign body : Code} {id : Pos} {r : Tr AV} {m1 : List Pos} {h h1 : Heap} {μ μ1 : Mu} {w w1 : World} {b : Frame} {a : Act} {mark : List Deferred} {B : Blk}
    (hr : HR μ B0 h w) (hp : Post μ B0 h w μ1 h1 w1) (hid : μ1 id = some B) (har : AR μ1 cx.nt r m1 { a with defers:=mark++a.defers })
    (he : (Instr.enterLoop b.fn a.tmps ps assign body b.roundOf).run P w = .ok (B.b,mark) w1) :
    RPost P B0 μ h w cx.nt b (fun k cs=>lone (b.atR a (.code (.rangeFunc f ps assign body)::k)) cs w)
      (match ev f r with
        | .func (.func g) a b =>
          CR.casesOn (motive:=fun _=>Pos → Tr AV → List Pos → R) (cx.call (.fn g) (app a (.cons (.yield id) b)) h1) (fun _ _ _=>.fail) (fun _ h id r m=>endLoopA id r m h) id r m1
        | _=>.fail):=by
  have hf:=ev_sound hp.rel.glob har.rr f
  split
  · rename_i g p q ef
    rw [ef] at hf
    obtain ⟨F,C,hf,_,hf1,hf2⟩:=hf
    have hf : a.eval f = .func (.func g) F C:=by
      have : Act.eval { a with defers:=mark++a.defers } f = a.eval f:=by cases f <;> rfl
      rw [this] at hf
      simpa using hf
    cases hc : cx.call (.fn g) (app p (.cons (.yield id) q)) h1 with
    | fail=>trivial
    | ret v h2 =>
      simp only
      obtain ⟨hent,hcalls⟩:=hcall _ _ _ _ _ hc μ1 w1 hp.rel
      have hargs : VRL μ1 (app p (.cons (.yield id) q)) ((F++#[Value.func (.yield B.b) #[] #[]]++C).toList):=by
        rw [Array.toList_append,Array.toList_append,List.append_assoc]
        refine VRL.app ?_ hf1
        exact ⟨_,_,rfl,⟨B,hid,rfl⟩,hf2⟩
      refine RPost.step (h1:=h2) (fun k cs=>?_)
      obtain ⟨e,w2,fr,⟨cv,μ2,rfl,hv,hp2⟩,hsteps,_,hleave⟩:=hcalls _ hargs (b.atR { a with defers:=mark++a.defers } (.inRangeFunc B.b::k)::cs)
      have hres : (resolve a.eval (rangeCall f B.b) 0).run P w1 = .ok { target:=.fn (.func g) C,args:=F++#[Value.func (.yield B.b) #[] #[]] } w1:=by
        simp only [resolve,rangeCall,hf,Deferred.ofValue]
        simp [Sem.run_pure,Act.eval]
      have hinv : (invoke (Target.fn (.func g) C) (F++#[Value.func (.yield B.b) #[] #[]])).run P w1 = .ok (.enter g (F++#[Value.func (.yield B.b) #[] #[]]++C)) w1:=hent _
      have henter:=stepR_rangeFunc (P:=P) (b:=b) (a:=a) (k:=k) (cs:=cs) (w:=w) he hres hinv
      refine ⟨μ2,w2,fun k cs=>lone (b.atR { a with defers:=mark++a.defers } (.endRangeFunc B.b::k)) cs w2,hp.trans hp2,.head henter (Steps.trans hsteps (.one ?_)),?_⟩
      · have hstep:=step_leave_returned (c:=b.atR { a with defers:=mark++a.defers } (.inRangeFunc B.b::k)) (cs:=cs) hleave
        rw [finish_atR_inRangeFunc] at hstep; exact hstep
      · have hmu:=hp2.mu hp.rel
        exact endLoopA_sound (hmu.m _ _ hid) hp2.rel ⟨har.rr.mono hmu,har.size,har.dr.mono hmu⟩
  · trivial
theorem loopOBR {μ : Mu} {heap : Array Obj} {l : Loop} {regs : Tr AV} {nt : Nat} {d : Pos} {D : Blk} {n : Nat} {fn : FuncId} (hfn : l.fn = fn) (hrr : RR μ regs l.tmps) (hn : l.tmps.size = nt) (hs : l.state = .ready) (hp : l.pending = none) (hD : μ d = some D) (hd : l.defers = D.b) (hsz : heap.size = n) :
    OBR μ (heap.push (.loop l)) ⟨n,0,0⟩ (.loop true none fn regs nt l.params l.assign l.body d):=by
  subst hsz
  exact ⟨l,by show (heap.push _)[heap.size]? = _; simp,hs,(fun _ _=>trivial),hp,hfn,hrr,hn,rfl,rfl,rfl,D,hD,hd⟩
theorem rangeFunc_sound {cx : Cx} (hcall : CallOK P B0 cx.call) {f : Operand} {ps : Array Tmp} {assign body : Code} : CodeOK P B0 cx (xRangeFunc f ps assign body) (.rangeFunc f ps assign body):=by
  intro r m h μ w b a hr har hf
  have hrd:=hf.rd
  unfold xRangeFunc enterLoopA
  cases hc : cx.rd with
  | none =>
    rw [hc] at hrd
    simp only at hrd ⊢
    have hp1:=newAny hr .marks (.deferred (some [])) (by show (w.heap.push _)[w.heap.size]? = _; simp)
    have hmu1:=hp1.mu hr
    have hid1 : (μ.put h.n ⟨w.heap.size,0,0⟩) h.n = some ⟨w.heap.size,0,0⟩:=Mu.put_same _ _ _
    revert hp1 hmu1 hid1
    generalize (μ.put h.n ⟨w.heap.size,0,0⟩) = μ1
    intro hp1 hmu1 hid1
    have hne : h.n ≠ h.n.succ:=fun e=>by have:=Pos.toNat_succ h.n; rw [← e] at this; omega
    have hp2:=newAny hp1.rel (.loop true none cx.fn r cx.nt ps assign body h.n) (.loop { state:=.ready,pending:=none,fn:=b.fn,tmps:=a.tmps,params:=ps,assign,body,defers:=w.heap.size })
      (loopOBR (D:=⟨w.heap.size,0,0⟩) hf.fn ((har.rr.mono hmu1).mono (Mu.le_put hp1.rel.none_n _)) har.size rfl rfl (by
          rw [Mu.put_other _ _ _ hne]; exact hid1) rfl rfl)
    have hmu2:=hp2.mu hp1.rel
    refine rangeFunc_tail hcall (mark:=[{ target:=.collected w.heap.size,args:=#[] }]) (B:=⟨(w.alloc (.deferred (some []))).heap.size,0,0⟩) hr (hp1.trans hp2) ?_ ⟨(har.rr.mono hmu1).mono hmu2,har.size,⟨⟨⟨w.heap.size,0,0⟩,hmu2.m _ _ hid1,rfl⟩,(har.dr.mono hmu1).mono hmu2⟩⟩ ?_
    · exact Mu.put_same _ _ _
    · rw [hrd,run_enterLoop_outer]
      simp [World.size_alloc]
  | some id0 =>
    rw [hc] at hrd
    obtain ⟨B1,hB1,hro⟩:=hrd
    simp only
    cases hd : dfrOf h id0 with
    | none=>trivial
    | some d =>
      simp only
      unfold dfrOf at hd
      split at hd
      · rename_i rdy pnd fn0 rg nt0 p0 a0 b0 d0 hg
        cases hd
        obtain ⟨l,hl,_,_,_,_,_,_,_,_,_,D,hD,hDb⟩:=hr.obj id0 B1 _ hB1 hg
        have hp2:=newAny hr (.loop true none cx.fn r cx.nt ps assign body d) (.loop { state:=.ready,pending:=none,fn:=b.fn,tmps:=a.tmps,params:=ps,assign,body,defers:=l.defers })
          (by
            have hle : μ.le (μ.put h.n ⟨w.heap.size,0,0⟩):=Mu.le_put hr.none_n _
            exact loopOBR (D:=D) hf.fn (har.rr.mono hle) har.size rfl rfl (hle.m _ _ hD) hDb rfl)
        have hmu2:=hp2.mu hr
        refine rangeFunc_tail hcall (mark:=[]) (B:=⟨w.heap.size,0,0⟩) hr hp2 ?_ ⟨har.rr.mono hmu2,har.size,har.dr.mono hmu2⟩ ?_
        · exact Mu.put_same _ _ _
        · rw [hro,run_enterLoop_inner hl]
      · cases hd
theorem code_sound {cx : Cx} (hm : P.follows .mixedOrders = true) (hP : cx.P = P) (hcall : CallOK P B0 cx.call) : ∀ c,CodeOK P B0 cx (xCode c) c:=by
  intro c
  induction c with
  | skip=>intro r m h μ w b a hr har hf k cs; exact ⟨μ,a,w,Post.refl hr,har,.one stepR_skip⟩
  | region id ops draw=>exact region_sound hm hP hcall
  | seq x y iha ihb=>exact seq_sound iha ihb
  | cond c x y iha ihb=>exact cond_sound iha ihb
  | block id x ih=>exact block_sound ih
  | loop x ih=>exact loop_sound ih
  | rangeFunc f ps x y _ _=>exact rangeFunc_sound hcall
  | exit i=>intro r m h μ w b a hr har hf k cs; exact ⟨μ,a,w,Post.refl hr,har,k,rfl,Steps.refl P _⟩
  | scope x ih=>exact scope_sound ih
  | label l=>intro r m h μ w b a hr har hf k cs; exact ⟨μ,a,w,Post.refl hr,har,.one stepR_label⟩
  | ret=>intro r m h μ w b a hr har hf k cs; exact ⟨μ,a,w,Post.refl hr,har,k,Steps.refl P _⟩
  | goto l=>intro r m h μ w b a hr har hf; trivial
  | refuse s=>intro r m h μ w b a hr har hf; trivial
end Go.Sy
namespace Go.Sy
open Go.RowKit
set_option linter.unusedVariables false
set_option linter.unusedSimpArgs false
set_option linter.unusedSectionVars false
variable [Tabs]
variable {P : Program} {B0 : Nat}
theorem marks_sound {μ : Mu} : ∀ (m : List Pos) {h h' : Heap} {w : World} (fr : Frame) (cs : List Frame),HR μ B0 h w → DR μ m fr.defers → takeMarks m h = some h' → fr.mode = .returning →
    ∃ w',Post μ B0 h w μ h' w'∧Steps P (lone fr cs w) (lone { fr with defers:=[] } cs w')
  | [],h,h',w,fr,cs,hr,hd,ht,hm=>by
    cases (show some h = some h' from ht)
    obtain ⟨fn,tmps,todo,defers,mode,kind,ro⟩:=fr
    cases defers with
    | cons _ _=>exact hd.elim
    | nil=>exact ⟨w,Post.refl hr,Steps.refl P _⟩
  | id::m,h,h',w,fr,cs,hr,hd,ht,hm=>by
    obtain ⟨fn,tmps,todo,defers,mode,kind,ro⟩:=fr
    cases defers with
    | nil=>exact hd.elim
    | cons d ds =>
      obtain ⟨⟨B,hB,htar⟩,hd⟩:=hd
      change (match h.t.get id with | some .marks=>takeMarks m (kill id h) | _=>none) = some h' at ht
      split at ht
      · rename_i hg
        have hob:=hr.obj id B _ hB hg
        have htake:=run_takeDeferred (P:=P) (show w.heap[B.b]? = some (.deferred (some [])) from hob)
        have hp:=killPost hr id B hB _ hg rfl not_inert_marks (.deferred none)
        have hstep:=step_collected (P:=P) (fr:=⟨fn,tmps,todo,d::ds,mode,kind,ro⟩) (cs:=cs) (by show mode ≠ .run; rw [show mode = .returning from hm]; intro e; cases e) rfl htar htake
        obtain ⟨w',hp',hs⟩:=marks_sound m ⟨fn,tmps,todo,ds,mode,kind,ro⟩ cs hp.rel hd ht hm
        exact ⟨w',hp.trans hp',.head hstep hs⟩
      · cases ht
def resS (tmps : Array Value) : ResultVar → Sem Value
  | .tmp t=>pure (tmps.getD t undef)
  | .cell a t=>do loadVar t (← asAddr (tmps.getD a undef))
theorem results_eq (fn : Func) (tmps : Array Value) : results fn tmps = (do let vs ← fn.results.mapM (resS tmps); pure (if h : vs.size = 1 then vs[0] else .tuple vs)):=rfl
theorem eval_tmp (tmps : Array Value) (t : Tmp) : Act.eval ⟨tmps,[]⟩ (.tmp t) = tmps.getD t undef:=rfl
theorem resA_sound {x : ResultVar} {r : Tr AV} {h : Heap} {v : AV} {μ : Mu} {w : World} {tmps : Array Value} (hr : HR μ B0 h w) (hrr : RR μ r tmps) (hx : resA P x r h = some v) :
    ∃ cv,(resS tmps x).run P w = .ok cv w∧VR1 μ v cv:=by
  unfold resA at hx
  cases x with
  | tmp t =>
    simp only at hx
    cases hx
    have:=ev_sound (a:=⟨tmps,[]⟩) hr.glob hrr (.tmp t)
    exact ⟨_,Sem.run_pure ..,this⟩
  | cell a t =>
    simp only at hx
    have hx':=ev_sound (a:=⟨tmps,[]⟩) hr.glob hrr (.tmp a)
    rw [eval_tmp] at hx'
    unfold loadA at hx
    split at hx
    · rename_i l k he
      have hev : ev (.tmp a) r = .rop l k:=he
      rw [hev] at hx'
      obtain ⟨b,o,xs,hx',hl,hs⟩:=hx'
      have hx' : tmps.getD a undef = .pointer (some ⟨b,o + k,none⟩):=List.head_eq_of_cons_eq hx'
      obtain ⟨cv,h1,h2⟩:=rdCells_sound hr hx hl hs
      refine ⟨cv,?_,h2⟩
      show (do let x ← asAddr (tmps.getD a undef); loadVar t x : Sem Value).run P w = _
      rw [hx',Sem.run_bind]
      simp only [asAddr,Sem.run_pure,Result.andThen_ok]
      exact h1
    · rename_i id off he
      have hev : ev (.tmp a) r = .ptr id off:=he
      rw [hev] at hx'
      obtain ⟨B,hB,hx'⟩:=hx'
      have hx' : tmps.getD a undef = .pointer (some ⟨B.b,B.base + off,none⟩):=List.head_eq_of_cons_eq hx'
      have fin : ∀ cv,(loadVar t ⟨B.b,B.base + off,none⟩).run P w = .ok cv w → (resS tmps (.cell a t)).run P w = .ok cv w:=by
        intro cv h1
        show (do let x ← asAddr (tmps.getD a undef); loadVar t x : Sem Value).run P w = _
        rw [hx',Sem.run_bind]
        simp only [asAddr,Sem.run_pure,Result.andThen_ok]
        exact h1
      split at hx
      · rename_i c n ro hg
        obtain ⟨cv,h1,h2⟩:=readAt_sound (x:=(c,n,ro)) hr hg hx hB
        exact ⟨cv,fin cv h1,h2⟩
      · rename_i l ro hg
        obtain ⟨xs,g1,g2,g3⟩:=gl_cells hr hg hB
        obtain ⟨cv,h1,h2⟩:=rdCells_gen (P:=P) hx g1 g3
        exact ⟨cv,fin cv h1,h2⟩
      · cases hx
    · cases hx
theorem resL_sound {r : Tr AV} {h : Heap} {μ : Mu} {w : World} {tmps : Array Value} (hr : HR μ B0 h w) (hrr : RR μ r tmps) : ∀ (l : List ResultVar) {v : AV},resL P l r h = some v →
    ∃ vs : List Value,l.length = vs.length∧VRL μ v vs∧∀ (i : Nat) (x : ResultVar) (y : Value),l[i]? = some x → vs[i]? = some y → (resS tmps x).run P w = .ok y w
  | [],v,hv=>by cases (show some AV.nil = some v from hv); exact ⟨[],rfl,rfl,by simp⟩
  | x::l,v,hv=>by
    change Option.casesOn (motive:=fun _=>Option AV) (resA P x r h) none (fun v=>Option.casesOn (motive:=fun _=>Option AV) (resL P l r h) none (fun l=>some (.cons v l))) = some v at hv
    cases h1 : resA P x r h with
    | none=>rw [h1] at hv; cases hv
    | some v1 =>
      rw [h1] at hv
      cases h2 : resL P l r h with
      | none=>simp only [h2] at hv; cases hv
      | some v2 =>
        simp only [h2] at hv
        cases hv
        obtain ⟨cv,h3,h4⟩:=resA_sound hr hrr h1
        obtain ⟨vs,h5,h6,h7⟩:=resL_sound hr hrr l h2
        refine ⟨cv::vs,by simp [h5],⟨cv,vs,rfl,h4,h6⟩,?_⟩
        intro i x' y hi hj
        cases i with
        | zero=>simp at hi hj; subst hi; subst hj; exact h3
        | succ i=>exact h7 i x' y (by simpa using hi) (by simpa using hj)
theorem results_sound {fn : Func} {r : Tr AV} {h : Heap} {μ : Mu} {w : World} {tmps : Array Value} (hr : HR μ B0 h w) (hrr : RR μ r tmps) {l : AV} (hl : resL P fn.results.toList r h = some l) :
    ∃ cv,(results fn tmps).run P w = .ok cv w∧VR1 μ (resV l) cv:=by
  obtain ⟨vs,h1,h2,h3⟩:=resL_sound hr hrr _ hl
  have hmap:=run_arrayMapM (P:=P) (w:=w) (resS tmps) fn.results vs.toArray (by simpa using h1) (fun i x y hi hj=>h3 i x y (by simpa using hi) (by simpa using hj))
  have hrun : ∀ u,(if h : vs.toArray.size = 1 then vs.toArray[0] else Value.tuple vs.toArray) = u → (results fn tmps).run P w = .ok u w:=by
    intro u hu
    rw [results_eq,Sem.run_bind,hmap,Result.andThen_ok,Sem.run_pure,hu]
  have htup : l.len ≠ 1 → ∃ cv,(results fn tmps).run P w = .ok cv w∧VR1 μ (.tup l) cv:=by
    intro hne
    refine ⟨.tuple vs.toArray,hrun _ ?_,⟨vs.toArray,rfl,by simpa using h2⟩⟩
    rw [dif_neg]
    intro e
    exact hne (h2.len.trans (by simpa using e))
  cases l with
  | nil=>exact htup (by intro e; change 0 = 1 at e; omega)
  | cons a t =>
    cases t with
    | nil =>
      obtain ⟨cv,s,rfl,h4,h5⟩:=h2
      cases (show s = [] from h5)
      exact ⟨cv,hrun _ (by simp),h4⟩
    | cons a2 t2=>exact htup (by intro e; change Nat.succ (Nat.succ t2.len) = 1 at e; omega)
    | _=>obtain ⟨_,_,_,_,h6⟩:=h2; exact h6.elim
  | _=>exact h2.elim
theorem argsR_spec {μ : Mu} {nt : Nat} : ∀ {as : AV} {i : Nat} {r r' : Tr AV} {vs : List Value},argsR as i nt r = some r' → VRL μ as vs →
    (vs = [] ∨ i + vs.length ≤ nt)∧∀ k v,r'.get (pathOf k) = some v → (i ≤ k∧∃ cv,vs[k - i]? = some cv∧VR1 μ v cv) ∨ r.get (pathOf k) = some v:=by
  intro as
  induction as with
  | nil=>intro i r r' vs h hv; cases (show vs = [] from hv); cases (show some r = some r' from h); exact ⟨.inl rfl,fun k v e=>.inr e⟩
  | cons a t iha iht =>
    intro i r r' vs h hv
    obtain ⟨cv,s,rfl,h1,h2⟩:=hv
    change Bool.casesOn (motive:=fun _=>Option (Tr AV)) (natLt i nt) none (argsR t (Nat.succ i) nt (r.set a (pathOf i))) = some r' at h
    cases hl : natLt i nt with
    | false=>rw [hl] at h; cases h
    | true =>
      rw [hl] at h
      have hlt:=natLt_iff.1 hl
      obtain ⟨h3,h4⟩:=iht h h2
      refine ⟨.inr ?_,?_⟩
      · rcases h3 with rfl | h3
        · simp; omega
        · simp only [List.length_cons]; omega
      · intro k v e
        rcases h4 k v e with ⟨h5,u,h6,h7⟩ | h5
        · refine .inl ⟨by omega,u,?_,h7⟩
          rw [show k - i = (k - Nat.succ i) + 1 by omega]; simpa using h6
        · rw [Tr.get_set] at h5
          by_cases hk : k = i
          · subst hk; rw [if_pos rfl] at h5; cases h5; exact .inl ⟨Nat.le_refl _,cv,by simp,h1⟩
          · rw [if_neg (fun e=>hk (pathOf_inj e))] at h5; exact .inr h5
  | _=>intro i r r' vs h hv; exact hv.elim
theorem enter_eq {f : FuncId} {fn : Func} {c : Code} {cargs : Array Value} (hfn : P.funcs[f]? = some fn) (hb : fn.body = some c) :
    Frame.enter P f cargs .normal = (Frame.enter P f cargs .normal).atR ⟨cargs++Array.replicate (fn.ntmps - cargs.size) undef,[]⟩ [.code c]:=by
  simp [Frame.enter,Frame.atR,hfn,hb]
theorem sub_start {fr fr2 : Frame} {cs : List Frame} {w : World} {m : Machine} (e : fr = fr2) (h : Steps P (lone fr2 cs w) m) : Steps P (lone fr cs w) m:=by rw [e]; exact h
theorem callFn_sound (hm : P.follows .mixedOrders = true) (hcl : Callable P) {call : Tgt → AV → Heap → CR} (hcall : CallOK P B0 call) {fuel : Nat} {f : FuncId} {as : AV} {h h' : Heap} {v : AV} (hc : callFnA P f as h call fuel = .ret v h') {μ : Mu} {w : World} (hr : HR μ B0 h w) :
    (∀ cargs : Array Value,(callFunc f cargs).run P w = .ok (.enter f cargs) w)∧∀ cargs : Array Value,VRL μ as cargs.toList →
        Calls P f cargs w fun e w'=>∃ cv μ',e = .returned cv∧VR1 μ' v cv∧Post μ B0 h w μ' h' w':=by
  unfold callFnA at hc
  cases hfn : P.funcs[f]? with
  | none=>rw [hfn] at hc; cases hc
  | some fn =>
    rw [hfn] at hc
    simp only at hc
    cases hb : fn.body with
    | none=>rw [hb] at hc; cases hc
    | some c =>
      rw [hb] at hc
      simp only at hc
      refine ⟨fun cargs=>hcl f fn cargs w hfn (by rw [hb]; rfl),?_⟩
      intro cargs hargs
      cases har : argsR as 0 fn.ntmps .leaf with
      | none=>rw [har] at hc; cases hc
      | some r =>
        rw [har] at hc
        simp only at hc
        obtain ⟨hlen,hget⟩:=argsR_spec har hargs
        have hsz : cargs.size ≤ fn.ntmps:=by
          rcases hlen with e | e
          · have : cargs.size = 0:=by rw [← Array.length_toList,e]; rfl
            omega
          · rw [Array.length_toList] at e; omega
        have hRR : RR μ r (cargs++Array.replicate (fn.ntmps - cargs.size) undef):=by
          intro k u hk
          rcases hget k u hk with ⟨_,cv,h1,h2⟩ | h1
          · refine ⟨cv,?_,h2⟩
            have h1 : cargs[k]? = some cv:=by simpa using h1
            obtain ⟨hlt,_⟩:=Array.getElem?_eq_some_iff.1 h1
            rw [Array.getElem?_append_left hlt]; exact h1
          · cases h1
        have hAR : AR μ fn.ntmps r [] ⟨cargs++Array.replicate (fn.ntmps - cargs.size) undef,[]⟩:=⟨hRR,by simp; omega,trivial⟩
        have hFR : FR μ ⟨P,f,fn.ntmps,none,call,fuel⟩ (Frame.enter P f cargs .normal):=⟨rfl,rfl,rfl⟩
        have hcode:=code_sound (cx:=⟨P,f,fn.ntmps,none,call,fuel⟩) hm rfl hcall c r [] h μ w (Frame.enter P f cargs .normal) _ hr hAR hFR
        have fin : ∀ (r1 : Tr AV) (m1 : List Pos) (h1 : Heap) (μ1 : Mu) (a1 : Act) (w1 : World) (k1 : List Item) (cs : List Frame),leaveA P fn r1 m1 h1 = .ret v h' → Post μ B0 h w μ1 h1 w1 → AR μ1 fn.ntmps r1 m1 a1 →
            Steps P (lone (Frame.enter P f cargs .normal) cs w) (lone { (Frame.enter P f cargs .normal).atR a1 k1 with mode:=.returning } cs w1) →
            ∃ e w' fr,(∃ cv μ',e = Ending.returned cv∧VR1 μ' v cv∧Post μ B0 h w μ' h' w')∧Comes P (lone (Frame.enter P f cargs .normal) cs w) (lone fr cs w') e∧fr.fn = f∧fr.leaving P w' e:=by
          intro r1 m1 h1 μ1 a1 w1 k1 cs hl hp ha hs
          unfold leaveA at hl
          cases ht : takeMarks m1 h1 with
          | none=>rw [ht] at hl; cases hl
          | some h2 =>
            rw [ht] at hl
            simp only at hl
            cases hres : resL P fn.results.toList r1 h2 with
            | none=>rw [hres] at hl; cases hl
            | some l =>
              rw [hres] at hl
              cases hl
              obtain ⟨w2,hp2,hs2⟩:=marks_sound (P:=P) m1 { (Frame.enter P f cargs .normal).atR a1 k1 with mode:=.returning } cs hp.rel ha.dr ht rfl
              obtain ⟨cv,hrun,hv⟩:=results_sound (fn:=fn) hp2.rel ha.rr hres
              exact ⟨.returned cv,w2,_,⟨cv,μ1,rfl,hv,hp.trans hp2⟩,hs.trans hs2,rfl,rfl,rfl,rfl,fn,hfn,hrun⟩
        intro cs
        have heq:=enter_eq (P:=P) (cargs:=cargs) hfn hb
        cases hx : xCode c ⟨P,f,fn.ntmps,none,call,fuel⟩ r [] h with
        | fail=>rw [hx] at hc; cases hc
        | exit i r1 m1 h1=>rw [hx] at hc; cases hc
        | ok r1 m1 h1 =>
          rw [hx] at hc hcode
          obtain ⟨μ1,a1,w1,hp,ha,hs⟩:=hcode [] cs
          have hs:=sub_start heq hs
          exact fin r1 m1 h1 μ1 a1 w1 [] cs hc hp ha (hs.trans (.one (stepR_end rfl)))
        | ret r1 m1 h1 =>
          rw [hx] at hc hcode
          obtain ⟨μ1,a1,w1,hp,ha,k',hs⟩:=hcode [] cs
          have hs:=sub_start heq hs
          exact fin r1 m1 h1 μ1 a1 w1 _ cs hc hp ha (hs.trans (.one (stepR_ret rfl)))
/-! ### Rounds -/
theorem roundR_spec {μ : Mu} {nt : Nat} : ∀ (ps : List Tmp) {as : AV} {r r' : Tr AV} {vs : List Value} {tmps : Array Value},roundR ps as nt r = some r' → VRL μ as vs → RR μ r tmps → tmps.size = nt →
    ps.length = vs.length∧RR μ r' ((ps.zip vs).foldl (fun tmps x=>tmps.setIfInBounds x.1 x.2) tmps)∧((ps.zip vs).foldl (fun tmps x=>tmps.setIfInBounds x.1 x.2) tmps).size = nt
  | [],as,r,r',vs,tmps,h,hv,hr,hs=>by
    cases as with
    | nil=>cases (show some r = some r' from h); cases (show vs = [] from hv); exact ⟨rfl,hr,hs⟩
    | _=>cases h
  | p::ps,as,r,r',vs,tmps,h,hv,hr,hs=>by
    cases as with
    | cons a t =>
      obtain ⟨cv,s,rfl,h1,h2⟩:=hv
      change Bool.casesOn (motive:=fun _=>Option (Tr AV)) (natLt p nt) none (roundR ps t nt (r.set a (pathOf p))) = some r' at h
      cases hl : natLt p nt with
      | false=>rw [hl] at h; cases h
      | true =>
        rw [hl] at h
        have hp : putR (some p) nt a r = some (r.set a (pathOf p)):=by unfold putR; simp only [hl]
        obtain ⟨g1,g2,_⟩:=putR_sound hp (a:=⟨tmps,[]⟩) hr hs h1
        obtain ⟨g3,g4,g5⟩:=roundR_spec ps h h2 g1 g2
        exact ⟨by simp [g3],g4,g5⟩
    | _=>cases h
theorem jumpOf_isNone (j : Option (Option Nat)) : (jumpOf j).isNone = Option.casesOn (motive:=fun _=>Bool) j true (fun _=>false):=by
  cases j with
  | none=>rfl
  | some x=>cases x <;> rfl
theorem endRoundA_sound {id : Pos} {B : Blk} {jump : Option (Option Nat)} {h h' : Heap} {v : AV} {μ : Mu} {w : World} (hid : μ id = some B) (hr : HR μ B0 h w) (he : endRoundA id jump h = .ret v h') :
    ∃ cv w',(Instr.endRound B.b (jumpOf jump)).run P w = .ok cv w'∧VR1 μ v cv∧Post μ B0 h w μ h' w':=by
  unfold endRoundA at he
  split at he
  · rename_i ready pend fn regs nt ps as bd dfr hg
    obtain ⟨l,h1,h2,_,h3,h4,h5,h6,h7,h8,h9,D,h10,h11⟩:=hr.obj id B _ hid hg
    cases he
    have hlt:=(Array.getElem?_eq_some_iff.1 h1).1
    refine ⟨_,_,run_endRound (jumpOf jump) h1,?_,?_⟩
    · rw [jumpOf_isNone]; rfl
    · refine putPost hr id B hid _ _ hg rfl not_inert_loop rfl _ ⟨_,World.putObj_heap_same hlt,?_,(fun _ _=>trivial),rfl,h4,h5,h6,h7,h8,h9,D,h10,h11⟩
      show (if (jumpOf jump).isNone then LoopState.ready else LoopState.done) = _
      rw [jumpOf_isNone]
      cases jump <;> rfl
  · cases he
theorem round_eq (l : Nat) (fn : FuncId) (tmps : Array Value) (assign body : Code) : Frame.round l fn tmps assign body .normal = (Frame.round l fn tmps assign body .normal).atR ⟨tmps,[]⟩ [.code assign,.beginRound,.code body]:=rfl
theorem round_sound (hm : P.follows .mixedOrders = true) {call : Tgt → AV → Heap → CR} (hcall : CallOK P B0 call) {fuel : Nat} {id : Pos} {as : AV} {h h' : Heap} {v : AV} (hc : roundA P id as h call fuel = .ret v h') {μ : Mu} {w : World} (hr : HR μ B0 h w) :
    ∀ B,μ id = some B → ∀ cargs : Array Value,VRL μ as cargs.toList → ∃ fn tmps assign body,(Instr.yield B.b cargs).run P w = .ok (.round B.b fn tmps assign body) w ∧
        ∀ (c : Frame) (cs : List Frame),∃ cv μ' w',VR1 μ' v cv∧Post μ B0 h w μ' h' w'∧Steps P (lone (Frame.round B.b fn tmps assign body .normal) (c::cs) w) (lone (c.finish cv) cs w'):=by
  intro B hB cargs hargs
  unfold roundA at hc
  split at hc
  · rename_i ready pend fn regs nt ps assign body dfr hg
    obtain ⟨l,h1,h2,_,h3,h4,h5,h6,h7,h8,h9,D,h10,h11⟩:=hr.obj id B _ hB hg
    cases ready with
    | false=>cases hc
    | true =>
      simp only at hc
      cases hrr : roundR ps.toList as nt regs with
      | none=>rw [hrr] at hc; cases hc
      | some r =>
        rw [hrr] at hc
        simp only at hc
        obtain ⟨g1,g2,g3⟩:=roundR_spec ps.toList hrr hargs h5 h6
        subst h7; subst h8; subst h9; subst h4
        have hyield:=run_yield (P:=P) (args:=cargs) h1 (by have:=g1; simp only [Array.length_toList] at this; omega)
        refine ⟨_,_,_,_,hyield,?_⟩
        intro c cs
        have hfold : (l.params.zip cargs).foldl (fun tmps (x : Tmp × Value)=>tmps.setIfInBounds x.1 x.2) l.tmps = (l.params.toList.zip cargs.toList).foldl (fun tmps x=>tmps.setIfInBounds x.1 x.2) l.tmps:=by
          rw [← Array.foldl_toList,Array.toList_zip]
        have hAR : AR μ nt r [] ⟨(l.params.zip cargs).foldl (fun tmps (x : Tmp × Value)=>tmps.setIfInBounds x.1 x.2) l.tmps,[]⟩:=by rw [hfold]; exact ⟨g2,g3,trivial⟩
        revert hAR
        show AR μ nt r [] ⟨(l.params.zip cargs).foldl (fun tmps (x : Tmp × Value)=>tmps.setIfInBounds x.1 x.2) l.tmps,[]⟩ → ∃ cv μ' w',VR1 μ' v cv∧Post μ B0 h w μ' h' w'∧Steps P (lone (Frame.round B.b l.fn ((l.params.zip cargs).foldl (fun tmps (x : Tmp × Value)=>tmps.setIfInBounds x.1 x.2) l.tmps) l.assign l.body .normal) (c::cs) w) (lone (c.finish cv) cs w')
        generalize (l.params.zip cargs).foldl (fun tmps (x : Tmp × Value)=>tmps.setIfInBounds x.1 x.2) l.tmps = T
        intro hAR
        have hFR : FR μ ⟨P,l.fn,nt,some id,call,fuel⟩ (Frame.round B.b l.fn T l.assign l.body .normal):=⟨rfl,rfl,B,hB,rfl⟩
        have hcode:=code_sound (cx:=⟨P,l.fn,nt,some id,call,fuel⟩) hm rfl hcall l.assign r [] h μ w _ _ hr hAR hFR
        cases hx : xCode l.assign ⟨P,l.fn,nt,some id,call,fuel⟩ r [] h with
        | fail=>rw [hx] at hc; cases hc
        | exit i r1 m1 h1'=>rw [hx] at hc; cases hc
        | ret r1 m1 h1'=>rw [hx] at hc; cases hc
        | ok r1 m1 hh1 =>
          rw [hx] at hc hcode
          obtain ⟨μ1,a1,w1,hp1,ha1,hs1⟩:=hcode [.beginRound,.code l.body] (c::cs)
          have hB1 : μ1 id = some B:=(hp1.mu hr).m _ _ hB
          change ranRoundA (beginRoundA id hh1 (fun h=>xCode l.body ⟨P,l.fn,nt,some id,call,fuel⟩ r1 m1 h)) id = .ret v h' at hc
          unfold beginRoundA at hc
          split at hc
          · rename_i ready2 pend2 fn2 regs2 nt2 ps2 as2 bd2 dfr2 hg2
            obtain ⟨l2,k1,k2,_,k3,k4,k5,k6,k7,k8,k9,D2,k10,k11⟩:=hp1.rel.obj id B _ hB1 hg2
            cases ready2 with
            | false=>cases hc
            | true =>
              cases pend2 with
              | some _=>cases hc
              | none =>
                simp only at hc
                have hlt2:=(Array.getElem?_eq_some_iff.1 k1).1
                have hbegin:=run_beginRound (P:=P) k1 k2
                have hp2:=putPost hp1.rel id B hB1 _ (.loop false none fn2 regs2 nt2 ps2 as2 bd2 dfr2) hg2 rfl not_inert_loop rfl (.loop { l2 with state:=.busy }) ⟨_,World.putObj_heap_same hlt2,rfl,(fun _ _=>trivial),k3,k4,k5,k6,k7,k8,k9,D2,k10,k11⟩
                have hcode2:=code_sound (cx:=⟨P,l.fn,nt,some id,call,fuel⟩) hm rfl hcall l.body r1 m1 _ μ1 _ (Frame.round B.b l.fn T l.assign l.body .normal) a1 hp2.rel ha1 (hFR.mono (hp1.mu hr))
                have hs2:=(sub_start (round_eq B.b l.fn T l.assign l.body) hs1).trans (.one (stepR_beginRound (P:=P) (b:=Frame.round B.b l.fn T l.assign l.body .normal) (a:=a1) (k:=[.code l.body]) (cs:=c::cs) rfl hbegin))
                cases hx2 : xCode l.body ⟨P,l.fn,nt,some id,call,fuel⟩ r1 m1 ⟨hh1.t.set (.loop false none fn2 regs2 nt2 ps2 as2 bd2 dfr2) id,hh1.n⟩ with
                | fail=>rw [hx2] at hc; cases hc
                | ok r3 m3 hh3 =>
                  rw [hx2] at hc hcode2
                  obtain ⟨μ3,a3,w3,hp3,ha3,hs3⟩:=hcode2 [] (c::cs)
                  cases m3 with
                  | cons _ _=>cases hc
                  | nil =>
                    have hB3:=(hp3.mu hp2.rel).m _ _ hB1
                    obtain ⟨cv,w4,hrun,hv,hp4⟩:=endRoundA_sound (P:=P) (jump:=none) hB3 hp3.rel hc
                    exact ⟨cv,μ3,w4,hv,((hp1.trans hp2).trans hp3).trans hp4,(hs2.trans hs3).trans (.one (stepR_round_end rfl rfl hrun))⟩
                | exit i r3 m3 hh3 =>
                  rw [hx2] at hc hcode2
                  obtain ⟨μ3,a3,w3,hp3,ha3,k',hk',hs3⟩:=hcode2 [] (c::cs)
                  cases m3 with
                  | cons _ _=>cases hc
                  | nil =>
                    have hB3:=(hp3.mu hp2.rel).m _ _ hB1
                    obtain ⟨cv,w4,hrun,hv,hp4⟩:=endRoundA_sound (P:=P) (jump:=some (some i)) hB3 hp3.rel hc
                    exact ⟨cv,μ3,w4,hv,((hp1.trans hp2).trans hp3).trans hp4,(hs2.trans hs3).trans (.one (stepR_round_exit rfl rfl hk' hrun))⟩
                | ret r3 m3 hh3 =>
                  rw [hx2] at hc hcode2
                  obtain ⟨μ3,a3,w3,hp3,ha3,k',hs3⟩:=hcode2 [] (c::cs)
                  cases m3 with
                  | cons _ _=>cases hc
                  | nil =>
                    have hB3:=(hp3.mu hp2.rel).m _ _ hB1
                    obtain ⟨cv,w4,hrun,hv,hp4⟩:=endRoundA_sound (P:=P) (jump:=some none) hB3 hp3.rel hc
                    exact ⟨cv,μ3,w4,hv,((hp1.trans hp2).trans hp3).trans hp4,(hs2.trans hs3).trans (.one (stepR_round_ret rfl rfl hrun))⟩
          · cases hc
  · cases hc
end Go.Sy
namespace Go.Sy
open Go.RowKit
set_option linter.unusedVariables false
set_option linter.unusedSimpArgs false
set_option linter.unusedSectionVars false
variable [Tabs]
def bsz (w : World) (b : Nat) : Nat:=match w.heap[b]? with | some (.cells c _ _)=>c.size | _=>0
noncomputable def mu0 (w : World) (s : Nat → Option (Array Value)) : Mu:=⟨fun id=>if id.toNat < 64 then some ⟨id.toNat,0,bsz w id.toNat⟩ else none,s⟩
def Sealed (s : Nat → Option (Array Value)) (w : World) : Prop:=∀ b c,s b = some c → ∃ el fz,w.heap[b]? = some (.cells c el fz)
theorem Sealed.none {w : World} : Sealed (fun _=>.none) w:=fun _ _ e=>by cases e
theorem layTables_spec : ∀ (l : List (AV × Nat)) (i : Nat) (t : Tr AO) (id : Pos) (o : AO),(layTables l i t).get id = some o →
    (∃ j x c,l[j]? = some x∧id = pathOf (i + j)∧lay x.2 x.1 0 .leaf = some c∧o = .cells c x.2 true) ∨ t.get id = some o
  | [],i,t,id,o,h=>.inr h
  | x::l,i,t,id,o,h=>by
    change (layTables l (Nat.succ i) (Option.casesOn (motive:=fun _=>Tr AO) (lay x.2 x.1 0 .leaf) t (fun c=>t.set (.cells c x.2 true) (pathOf i)))).get id = some o at h
    rcases layTables_spec l _ _ id o h with ⟨j,y,c,h1,h2,h3,h4⟩ | h1
    · exact .inl ⟨j + 1,y,c,by simpa using h1,by rw [h2]; congr 1; omega,h3,h4⟩
    · cases hl : lay x.2 x.1 0 .leaf with
      | none=>rw [hl] at h1; exact .inr h1
      | some c =>
        rw [hl] at h1
        change (t.set (.cells c x.2 true) (pathOf i)).get id = some o at h1
        rw [Tr.get_set] at h1
        by_cases he : id = pathOf i
        · rw [if_pos he] at h1; cases h1; exact .inl ⟨0,x,c,rfl,he,hl,rfl⟩
        · rw [if_neg he] at h1; exact .inr h1
def TabOK (w : World) (l : List (AV × Nat)) : Prop :=
  ∀ (i : Nat) (x : AV × Nat),l[i]? = some x → x.1 ≠ .undef → ∃ (c : Array Value) (el : TypeId) (fz : Nat × Nat) (vs : List Value),w.heap[i]? = some (.cells c el fz)∧c.size = x.2∧(∀ μ,VRL μ x.1 vs)∧∀ (k : Nat) (v : Value),vs[k]? = some v → c[k]? = some v
def sealBelow (w : World) (n : Nat) : Nat → Option (Array Value):=fun b=>if b < n then match w.heap[b]? with | some (.cells c _ _)=>some c | _=>none else none
theorem sealBelow_ok (w : World) (n : Nat) : Sealed (sealBelow w n) w:=by
  intro b c e
  unfold sealBelow at e
  split at e
  · split at e
    · rename_i c' el fz h; cases e; exact ⟨el,fz,h⟩
    · cases e
  · cases e
theorem TabOK.shut {w : World} {l : List (AV × Nat)} (h : TabOK w l) {n : Nat} (hn : l.length ≤ n) : TabS (sealBelow w n) l:=by
  intro i x hi hu
  obtain ⟨c,el,fz,vs,h1,h2,h3,h4⟩:=h i x hi hu
  have hlt:=(List.getElem?_eq_some_iff.1 hi).1
  refine ⟨c,vs,?_,h2,h3,h4⟩
  unfold sealBelow
  rw [if_pos (by omega),h1]
theorem start_HR (hlen : Tabs.l.length ≤ 64) {w : World} {s : Nat → Option (Array Value)} (hs : Sealed s w) (htab : TabS s Tabs.l) : HR (mu0 w s) w.heap.size (startWith Tabs.l 64) w:=by
  generalize hl : Tabs.l = l at *
  have hmu : ∀ id B,mu0 w s id = some B → id.toNat < 64∧B = ⟨id.toNat,0,bsz w id.toNat⟩:=by
    intro id B h
    change (if id.toNat < 64 then some (⟨id.toNat,0,bsz w id.toNat⟩ : Blk) else none) = some B at h
    split at h
    · rename_i hlt; cases h; exact ⟨hlt,rfl⟩
    · cases h
  have hn : (startWith l 64).n.toNat = 64:=toNat_pathOf 64
  have hlive : ∀ id o,(startWith l 64).t.get id = some o → ∃ j x c,l[j]? = some x∧id = pathOf j∧lay x.2 x.1 0 .leaf = some c∧o = .cells c x.2 true:=by
    intro id o h
    rcases layTables_spec l 0 .leaf id o h with ⟨j,x,c,h1,h2,h3,h4⟩ | h1
    · exact ⟨j,x,c,h1,by rw [h2]; congr 1; omega,h3,h4⟩
    · cases h1
  refine ⟨?_,?_,?_,?_,?_,?_,Nat.le_refl _,hs,?_,by rw [hl]; exact htab⟩
  · intro id B h; rw [hn]; exact (hmu id B h).1
  · intro id o h
    obtain ⟨j,x,c,h1,h2,_⟩:=hlive id o h
    have:=(List.getElem?_eq_some_iff.1 h1).1
    rw [hn,h2,toNat_pathOf]; omega
  · intro id B o h1 h2
    obtain ⟨hlt,rfl⟩:=hmu id B h1
    obtain ⟨j,x,c,h3,h4,h5,h6⟩:=hlive id o h2
    subst h6
    have hu : x.1 ≠ .undef:=fun e=>by
      rw [e] at h5
      cases hx : x.2 with
      | zero=>rw [hx] at h5; cases h5
      | succ n=>rw [hx] at h5; cases h5
    obtain ⟨cs,vs,g0,g9,g2,g3⟩:=htab j x h3 hu
    obtain ⟨el,fz,g1⟩:=hs j cs g0
    have hid : id.toNat = j:=by rw [h4,toNat_pathOf]
    have hb : bsz w id.toNat = cs.size:=by rw [hid]; unfold bsz; rw [g1]
    obtain ⟨k1,k2,k3⟩:=lay_spec x.2 h5 (g2 (mu0 w s))
    have hle : x.2 ≤ cs.size:=by
      rcases Nat.eq_zero_or_pos x.2 with e | e
      · omega
      · have hlt : x.2 - 1 < vs.length:=by omega
        have:=g3 (x.2 - 1) _ (List.getElem?_eq_getElem hlt)
        have:=(Array.getElem?_eq_some_iff.1 this).1
        omega
    refine ⟨by rw [hb]; exact hle,cs,el,fz,by show w.heap[id.toNat]? = _; rw [hid]; exact g1,by show 0 + bsz w id.toNat ≤ _; omega,⟨(fun e=>by cases e),fun _=>g9⟩,?_⟩
    intro k v hk
    rcases k3 k v hk with ⟨_,a2,cv,a3,a4⟩ | ⟨_,a2⟩
    · refine ⟨by show k < bsz w id.toNat; omega,cv,?_,a4⟩
      show cs[0 + k]? = some cv
      rw [Nat.zero_add]
      exact g3 k cv (by simpa using a3)
    · cases a2
  · intro i j A B o p hij h1 h2 h3 h4
    refine .inl fun e=>?_
    obtain ⟨_,rfl⟩:=hmu i A h1
    obtain ⟨_,rfl⟩:=hmu j B h2
    obtain ⟨j1,_,_,_,e1,_⟩:=hlive i o h3
    obtain ⟨j2,_,_,_,e2,_⟩:=hlive j p h4
    have e : i.toNat = j.toNat:=e
    rw [e1,e2,toNat_pathOf,toNat_pathOf] at e
    exact hij (by rw [e1,e2,e])
  · intro id B o h1 h2 h3
    obtain ⟨j,x,c,_,_,_,h6⟩:=hlive id o h2
    subst h6; cases h3
  · intro g hg
    exact ⟨bsz w g,by show (if (pathOf g).toNat < 64 then _ else _) = _; rw [toNat_pathOf,if_pos hg]⟩
  · intro id B o h1 h2 h3
    obtain ⟨j,x,c,_,_,_,h6⟩:=hlive id o h2
    subst h6; cases h3
theorem isTrue_inv {c : CR} (h : c.isTrue = true) : ∃ h',c = .ret (.bool true) h':=by
  unfold CR.isTrue at h
  split at h
  · rename_i b h'; subst h; exact ⟨h',rfl⟩
  · cases h
def calmNames (P : Program) : Bool:=P.funcs.all fun fn=>fn.name != "runtime.NumGoroutine"
theorem callable_of {P : Program} (h : calmNames P = true) : Callable P:=by
  intro f fn args w hf hb
  have hne : (fn.name == "runtime.NumGoroutine") = false:=by
    unfold calmNames at h
    have:=Array.all_eq_true.1 h
    obtain ⟨hlt,he⟩:=Array.getElem?_eq_some_iff.1 hf
    have:=this f hlt
    rw [he] at this
    simpa [bne] using this
  obtain ⟨c,hc⟩:=Option.isSome_iff_exists.1 hb
  have hne' : ¬ fn.name = "runtime.NumGoroutine":=fun e=>by rw [e] at hne; simp at hne
  simp [callFunc,go_sem,hf,hc,hne']
theorem intsAV_sound (k : IntKind) : ∀ (l : List Int) (μ : Mu),VRL μ (intsAV k l) (l.map (Value.int k))
  | [],μ=>rfl
  | n::l,μ=>⟨_,_,rfl,rfl,intsAV_sound k l μ⟩
end Go.Sy
namespace Go.Sy
open Go.RowKit
set_option linter.unusedVariables false
set_option linter.unusedSimpArgs false
set_option linter.unusedSectionVars false
variable [Tabs]
noncomputable section
def callO (P : Program) (ov : Tgt → AV → Heap → Option CR) (fuel : Nat) (n : Nat) : Tgt → AV → Heap → CR :=
  Nat.rec (motive:=fun _=>Tgt → AV → Heap → CR) (fun _ _ _=>.fail)
    (fun _ ih t as h=>Option.casesOn (motive:=fun _=>CR) (ov t as h) (Tgt.casesOn (motive:=fun _=>CR) t (fun f=>callFnA P f as h ih fuel) (fun id=>roundA P id as h ih fuel)) (fun r=>r)) n
end
variable {P : Program} {B0 : Nat}
def OvOK (P : Program) (B0 : Nat) (ov : Tgt → AV → Heap → Option CR) : Prop:=CallOK P B0 (fun t as h=>(ov t as h).getD .fail)
theorem callO_sound (hm : P.follows .mixedOrders = true) (hcl : Callable P) {ov : Tgt → AV → Heap → Option CR} (hov : OvOK P B0 ov) (fuel : Nat) : ∀ n,CallOK P B0 (callO P ov fuel n)
  | 0=>fun t as h v h' hc=>by cases hc
  | n + 1=>fun t as h v h' hc μ w hr=>by
    change (Option.casesOn (motive:=fun _=>CR) (ov t as h) (Tgt.casesOn (motive:=fun _=>CR) t (fun f=>callFnA P f as h (callO P ov fuel n) fuel) (fun id=>roundA P id as h (callO P ov fuel n) fuel)) (fun r=>r)) = .ret v h' at hc
    cases ho : ov t as h with
    | some r =>
      rw [ho] at hc
      have hc : r = .ret v h':=hc
      exact hov t as h v h' (by show (ov t as h).getD CR.fail = _; rw [ho]; exact hc) μ w hr
    | none =>
      rw [ho] at hc
      cases t with
      | fn f=>exact callFn_sound hm hcl (callO_sound hm hcl hov fuel n) hc hr
      | rd id=>exact round_sound hm (callO_sound hm hcl hov fuel n) hc hr
theorem HR.below {μ : Mu} {h : Heap} {w w' : World} (hr : HR μ B0 h w) (hb : Below w.heap.size w w') : HR μ B0 h w' :=
  ⟨hr.fresh,hr.live,fun id B o e1 e2=>(hr.obj id B o e1 e2).heap ((hr.obj id B o e1 e2).lt.imp (fun h=>h) (hb.block _)),hr.sep,hr.own,hr.glob,Nat.le_trans hr.size hb.size,
    fun b c e=>let ⟨el,fz,h1⟩:=hr.sld b c e; ⟨el,fz,(hb.block b (Array.getElem?_eq_some_iff.1 h1).1).trans h1⟩,hr.apart,hr.tab⟩
theorem Post.same {μ : Mu} {h : Heap} {w w' : World} (hr : HR μ B0 h w) (hb : Below w.heap.size w w') : Post μ B0 h w μ h w' :=
  ⟨fun _ _=>rfl,Nat.le_refl _,hr.below hb,hb.mono hr.size,Grow.refl _ _⟩
theorem run_trueO (hm : P.follows .mixedOrders = true) (hcl : Callable P) {ov : Tgt → AV → Heap → Option CR} (hov : ∀ B0,OvOK P B0 ov) {n fuel : Nat} {f : FuncId} {as : AV} (hrun : (callO P ov fuel n (.fn f) as (startWith Tabs.l 64)).isTrue = true) (hlen : Tabs.l.length ≤ 64)
    {w : World} (ht : TabOK w Tabs.l) {cargs : Array Value} (hargs : ∀ μ,VRL μ as cargs.toList) : Calls P f cargs w fun e w'=>e = .returned (.bool true)∧Below w.heap.size w w':=by
  obtain ⟨h',hc⟩:=isTrue_inv hrun
  have h:=(callO_sound (B0:=w.heap.size) hm hcl (hov _) fuel n (.fn f) as _ _ h' hc (mu0 w _) w (start_HR hlen (sealBelow_ok w _) (ht.shut (Nat.le_refl _)))).2 cargs (hargs _)
  exact h.mono fun e w' ⟨cv,μ',he,hv,hp⟩=>by
    have : cv = .bool true:=by simpa [VR] using hv
    exact ⟨by rw [he,this],hp.below⟩
noncomputable section
end
end Go.Sy
namespace Go.Sy
open Go.RowKit
set_option linter.unusedVariables false
set_option linter.unusedSimpArgs false
set_option linter.unusedSectionVars false
variable [Tabs]
noncomputable section
/-! ### Values and memory,brought to their heads -/
def f0 (v : AV) (k : AV → Prop) : Prop:=AV.casesOn (motive:=fun _=>Prop) v (k .undef) (fun b=>k (.bool b)) (fun kd n=>k (.int kd n)) (fun kd a b=>k (.rng kd a b)) (fun s=>k (.str s)) (fun m=>k (.ustr m)) (fun id o=>k (.ptr id o)) (fun l j=>k (.rop l j)) (k .nilp) (fun id a b c d=>k (.slice id a b c d)) (fun n l=>k (.ro n l)) (fun id n z=>k (.gs id n z)) (fun id z=>k (.sle id z)) (k .nils) (fun id=>k (.map id)) (k .nilm) (fun f a b=>k (.func f a b)) (fun id=>k (.yield id)) (k .nilf) (fun t v=>k (.iface t v)) (k .nili) (fun l=>k (.agg l)) (fun l=>k (.tup l)) (k .nil) (fun a t=>k (.cons a t))
def f0L : AV → (AV → Prop) → Prop
  | .cons a t,k=>f0 a fun a'=>f0L t fun t'=>k (.cons a' t')
  | v,k=>f0 v k
def f1 (v : AV) (k : AV → Prop) : Prop:=AV.casesOn (motive:=fun _=>Prop) v (k .undef) (fun b=>k (.bool b)) (fun kd n=>k (.int kd n)) (fun kd a b=>k (.rng kd a b)) (fun s=>k (.str s)) (fun m=>k (.ustr m)) (fun id o=>k (.ptr id o)) (fun l j=>k (.rop l j)) (k .nilp) (fun id a b c d=>k (.slice id a b c d)) (fun n l=>k (.ro n l)) (fun id n z=>k (.gs id n z)) (fun id z=>k (.sle id z)) (k .nils) (fun id=>k (.map id)) (k .nilm) (fun f a b=>k (.func f a b)) (fun id=>k (.yield id)) (k .nilf) (fun t v=>k (.iface t v)) (k .nili) (fun l=>f0L l fun l'=>k (.agg l')) (fun l=>k (.tup l)) (k .nil) (fun a t=>k (.cons a t))
def f1L : AV → (AV → Prop) → Prop
  | .cons a t,k=>f1 a fun a'=>f1L t fun t'=>k (.cons a' t')
  | v,k=>f0 v k
def fV (v : AV) (k : AV → Prop) : Prop:=AV.casesOn (motive:=fun _=>Prop) v (k .undef) (fun b=>k (.bool b)) (fun kd n=>k (.int kd n)) (fun kd a b=>k (.rng kd a b)) (fun s=>k (.str s)) (fun m=>k (.ustr m)) (fun id o=>k (.ptr id o)) (fun l j=>k (.rop l j)) (k .nilp) (fun id a b c d=>k (.slice id a b c d)) (fun n l=>k (.ro n l)) (fun id n z=>k (.gs id n z)) (fun id z=>k (.sle id z)) (k .nils) (fun id=>k (.map id)) (k .nilm) (fun f a b=>k (.func f a b)) (fun id=>k (.yield id)) (k .nilf) (fun t v=>k (.iface t v)) (k .nili) (fun l=>f0L l fun l'=>k (.agg l')) (fun l=>f1L l fun l'=>k (.tup l')) (k .nil) (fun a t=>k (.cons a t))
theorem f0_eq (v : AV) (k : AV → Prop) : f0 v k = k v:=by cases v <;> rfl
theorem f0L_eq : ∀ (v : AV) (k : AV → Prop),f0L v k = k v
  | .cons a t,k=>by show f0 a _ = _; rw [f0_eq,f0L_eq t]
  | .nil,k=>rfl
  | .undef,_ | .bool _,_ | .int _ _,_ | .rng _ _ _,_ | .str _,_ | .ustr _,_ | .ptr _ _,_ | .rop _ _,_ | .nilp,_ | .slice _ _ _ _ _,_ | .ro _ _,_ | .gs _ _ _,_ | .sle _ _,_ | .nils,_ | .map _,_ | .nilm,_
  | .func _ _ _,_ | .yield _,_ | .nilf,_ | .iface _ _,_ | .nili,_ | .agg _,_ | .tup _,_=>rfl
theorem f1_eq (v : AV) (k : AV → Prop) : f1 v k = k v:=by
  cases v with
  | agg l=>show f0L l _ = _; rw [f0L_eq]
  | _=>rfl
theorem f1L_eq : ∀ (v : AV) (k : AV → Prop),f1L v k = k v
  | .cons a t,k=>by show f1 a _ = _; rw [f1_eq,f1L_eq t]
  | .nil,k=>rfl
  | .undef,_ | .bool _,_ | .int _ _,_ | .rng _ _ _,_ | .str _,_ | .ustr _,_ | .ptr _ _,_ | .rop _ _,_ | .nilp,_ | .slice _ _ _ _ _,_ | .ro _ _,_ | .gs _ _ _,_ | .sle _ _,_ | .nils,_ | .map _,_ | .nilm,_
  | .func _ _ _,_ | .yield _,_ | .nilf,_ | .iface _ _,_ | .nili,_ | .agg _,_ | .tup _,_=>rfl
theorem fV_eq (v : AV) (k : AV → Prop) : fV v k = k v:=by
  cases v with
  | agg l=>show f0L l _ = _; rw [f0L_eq]
  | tup l=>show f1L l _ = _; rw [f1L_eq]
  | _=>rfl
def singK {α : Type} (x : α) : Pos → (Tr α → Prop) → Prop
  | .e,k=>k (.node .leaf (some x) .leaf)
  | .o p,k=>singK x p fun t=>k (.node t none .leaf)
  | .i p,k=>singK x p fun t=>k (.node .leaf none t)
def setK {α : Type} (x : α) : Tr α → Pos → (Tr α → Prop) → Prop
  | .leaf,p,k=>singK x p k
  | .node l v r,.e,k=>k (.node l (some x) r)
  | .node l v r,.o p,k=>setK x l p fun l'=>k (.node l' v r)
  | .node l v r,.i p,k=>setK x r p fun r'=>k (.node l v r')
theorem singK_eq {α : Type} (x : α) : ∀ (p : Pos) (k : Tr α → Prop),singK x p k = k (Tr.sing x p)
  | .e,k=>rfl
  | .o p,k=>by show singK x p _ = _; rw [singK_eq x p]; rfl
  | .i p,k=>by show singK x p _ = _; rw [singK_eq x p]; rfl
theorem setK_eq {α : Type} (x : α) : ∀ (t : Tr α) (p : Pos) (k : Tr α → Prop),setK x t p k = k (Tr.set x t p)
  | .leaf,p,k=>singK_eq x p k
  | .node l v r,.e,k=>rfl
  | .node l v r,.o p,k=>by show setK x l p _ = _; rw [setK_eq x l p]; rfl
  | .node l v r,.i p,k=>by show setK x r p _ = _; rw [setK_eq x r p]; rfl
def fTv : Tr AV → (Tr AV → Prop) → Prop
  | .leaf,k=>k .leaf
  | .node l v r,k=>fTv l fun l'=>fTv r fun r'=>match v with | none=>k (.node l' none r') | some v=>f0 v fun v'=>k (.node l' (some v') r')
theorem fTv_eq : ∀ (t : Tr AV) (k : Tr AV → Prop),fTv t k = k t
  | .leaf,k=>rfl
  | .node l v r,k=>by
    show fTv l _ = _
    rw [fTv_eq l,fTv_eq r]
    cases v with
    | none=>rfl
    | some v=>show f0 v _ = _; rw [f0_eq]
def fO (o : AO) (k : AO → Prop) : Prop:=AO.casesOn (motive:=fun _=>Prop) o (fun t n ro=>fTv t fun t'=>k (.cells t' n ro)) (fun l ro=>k (.gl l ro)) (fun l=>k (.mp l)) (fun l n=>k (.si l n)) (fun a b c=>k (.mi a b c)) (fun a b c d e f g h i=>k (.loop a b c d e f g h i)) (k .marks)
theorem fO_eq (o : AO) (k : AO → Prop) : fO o k = k o:=by
  cases o with
  | cells t n ro=>show fTv t _ = _; rw [fTv_eq]
  | _=>rfl
def fTo : Tr AO → (Tr AO → Prop) → Prop
  | .leaf,k=>k .leaf
  | .node l v r,k=>fTo l fun l'=>fTo r fun r'=>match v with | none=>k (.node l' none r') | some v=>fO v fun v'=>k (.node l' (some v') r')
theorem fTo_eq : ∀ (t : Tr AO) (k : Tr AO → Prop),fTo t k = k t
  | .leaf,k=>rfl
  | .node l v r,k=>by
    show fTo l _ = _
    rw [fTo_eq l,fTo_eq r]
    cases v with
    | none=>rfl
    | some v=>show fO v _ = _; rw [fO_eq]
def fPos : Pos → (Pos → Prop) → Prop
  | .e,k=>k .e
  | .o p,k=>fPos p fun p'=>k (.o p')
  | .i p,k=>fPos p fun p'=>k (.i p')
theorem fPos_eq : ∀ (p : Pos) (k : Pos → Prop),fPos p k = k p
  | .e,k=>rfl
  | .o p,k=>by show fPos p _ = _; rw [fPos_eq p]
  | .i p,k=>by show fPos p _ = _; rw [fPos_eq p]
def fH : Heap → (Heap → Prop) → Prop
  | ⟨t,n⟩,k=>fTo t fun t'=>fPos n fun n'=>k ⟨t',n'⟩
theorem fH_eq (h : Heap) (k : Heap → Prop) : fH h k = k h:=by
  obtain ⟨t,n⟩:=h
  show fTo t _ = _
  rw [fTo_eq,fPos_eq]
/-! ### Operations -/
structure IdxP (z : Int) (n : Nat) (k : Nat → Prop) : Prop where
  lo : 0 ≤ z
  hi : z < (n : Int)
  k : k z.toNat
structure BndP (z : Int) (n : Nat) (k : Nat → Prop) : Prop where
  lo : 0 ≤ z
  hi : z ≤ (n : Int)
  k : k z.toNat
structure MkP (ln cp : Int) (by_ : Nat) (z : AV) (k : Nat → AV → Prop) : Prop where
  lo : 0 ≤ ln
  le : ln ≤ cp
  fit : cp * ((by_ + 1 : Nat) : Int) ≤ 1099511627776
  k : k ln.toNat (reps ln.toNat z)
structure StP (off n : Nat) (g c : AV) (k : AV → Prop) : Prop where
  fit : off + n ≤ g.len
  k : k (splice off g c)
def idxK (v : AV) (len : Nat) (k : Nat → Prop) : Prop:=match v with | .int _ z=>IdxP z len k | _=>False
def boundK (v : Option AV) (dflt most : Nat) (k : Nat → Prop) : Prop:=match v with | none=>k dflt | some (.int _ z)=>BndP z most k | some _=>False
abbrev VK:=AV → Heap → Prop
def orK (x : OR) (k : VK) : Prop:=match x with | .val v h=>k v h | _=>False
def optK (x : Option AV) (h : Heap) (k : VK) : Prop:=match x with | some v=>k v h | none=>False
def wIndexAddr (t : TypeId) (x ix : Operand) (P : Program) (r : Tr AV) (h : Heap) (k : VK) : Prop :=
  match P.underlying t,ev x r with
  | some (.slice e),.slice id off len _ sz=>(match tsz P e with | some z=>Bool.casesOn (motive:=fun _=>Prop) (Nat.beq z sz) False (idxK (ev ix r) len fun i=>k (.ptr id (Nat.add off (Nat.mul i sz))) h) | none=>False)
  | some (.slice e),.ro n l=>(match tsz P e with | some z=>idxK (ev ix r) n fun i=>k (.rop l (Nat.mul i z)) h | none=>False)
  | some (.slice e),.gs id n sz=>(match tsz P e with | some z=>Bool.casesOn (motive:=fun _=>Prop) (Nat.beq z sz) False (idxK (ev ix r) n fun i=>k (.ptr id (Nat.mul i sz)) h) | none=>False)
  | _,_=>optK (xIndexAddr t x ix P r) h k
def wIndex (t : TypeId) (x ix : Operand) (P : Program) (r : Tr AV) (h : Heap) (k : VK) : Prop :=
  match P.underlying t,ev x r with
  | some .string,.str s=>idxK (ev ix r) s.length fun i=>k (.int .u8 (.ofNat (s.getD i 0))) h
  | _,_=>optK (xIndex t x ix P r) h k
def wLoad (t : TypeId) (a : Operand) (P : Program) (r : Tr AV) (h : Heap) (k : VK) : Prop :=
  match ev a r with
  | .rop l j=>∃ v,rdCells P t (dropL j l) = some v∧k v h
  | .ptr id off=>(match h.t.get id with
    | some (.cells c _ _)=>optK (readAt P t c off) h k
    | some (.gl l _)=>∃ v,rdCells P t (dropL off l) = some v∧k v h
    | _=>False)
  | _=>False
def wStore (t : TypeId) (a x : Operand) (P : Program) (r : Tr AV) (h : Heap) (k : VK) : Prop :=
  match ev a r with
  | .ptr id off=>(match h.t.get id,tsz P t with
    | some (.gl g false),some n=>Bool.casesOn (motive:=fun _=>Prop) (band (Nat.beq (ev x r).cells.len n) (allCell (ev x r).cells)) False
        (f0L (ev x r).cells fun c=>StP off n g c fun g'=>k (.tup .nil) ⟨h.t.set (.gl g' false) id,h.n⟩)
    | _,_=>orK (xStore t a x P r h) k)
  | _=>False
def wSlice (t : TypeId) (x : Operand) (lo hi mx : Option Operand) (P : Program) (r : Tr AV) (h : Heap) (k : VK) : Prop :=
  match mx with
  | some _=>False
  | none =>
    match P.underlying t,ev x r with
    | some .string,.str s=>boundK (hi.map (ev · r)) s.length s.length fun hh=>boundK (lo.map (ev · r)) 0 hh fun ll=>k (.str (subS s ll (hh - ll))) h
    | some (.slice e),.ro n l=>(match tsz P e with
      | some z=>boundK (hi.map (ev · r)) n n fun hh=>boundK (lo.map (ev · r)) 0 hh fun ll=>∃ l',takeL (Nat.mul (hh - ll) z) (dropL (Nat.mul ll z) l) = some l'∧k (.ro (hh - ll) l') h
      | none=>False)
    | some (.slice e),.gs id n sz=>(match tsz P e with
      | some z=>Bool.casesOn (motive:=fun _=>Prop) (Nat.beq z sz) False (boundK (hi.map (ev · r)) n n fun hh =>
          (match lo with
           | none=>k (.gs id hh sz) h
           | some y=>boundK (some (ev y r)) 0 hh fun ll=>(ll = 0∧k (.gs id hh sz) h) ∨ ((0 < ll∧ll < hh)∧k (.slice id (Nat.mul ll sz) (hh - ll) (n - ll) sz) h) ∨ ((0 < ll∧ll = hh)∧k (.ro 0 .nil) h)))
      | none=>False)
    | _,_=>optK (xSliceL t x lo hi mx P r h) h k
def wMakeSlice (t : TypeId) (l c : Operand) (P : Program) (r : Tr AV) (h : Heap) (k : VK) : Prop :=
  match telem P t with
  | none=>False
  | some e=>(match tzcells P e,tsz P e,tbytes P e,ev l r,ev c r with
    | some z,some sz,some by_,.int _ ln,.int _ cp=>Bool.casesOn (motive:=fun _=>Prop) (Nat.beq z.len sz) False
        (MkP ln cp by_ z fun n l=>k (.gs h.n n sz) ⟨h.t.set (.gl l false) h.n,h.n.succ⟩)
    | _,_,_,_,_=>False)
def wPick (c a b : Operand) (r : Tr AV) (h : Heap) (k : VK) : Prop :=
  match ev c r with
  | .bool t=>Bool.casesOn (motive:=fun _=>Prop) t (k (ev b r) h) (k (ev a r) h)
  | _=>False
def wBits (f : Nat → Nat → Nat) (kd : IntKind) (a b : Int) (h : Heap) (k : VK) : Prop :=
  ((0 : Int) ≤ a∧fits kd a = true∧0 ≤ b∧fits kd b = true)∧k (.int kd (.ofNat (f a.toNat b.toNat))) h
def wBin (op : BinOp) (t : TypeId) (x y : Operand) (P : Program) (r : Tr AV) (h : Heap) (k : VK) : Prop :=
  match ev x r,ev y r with
  | .int kd a,.int ld b =>
    (match op with
     | .quo=>Bool.casesOn (motive:=fun _=>Prop) (keq kd ld) False (b ≠ 0∧k (.int kd (iwrap kd (Int.tdiv a b))) h)
     | .rem=>Bool.casesOn (motive:=fun _=>Prop) (keq kd ld) False (b ≠ 0∧k (.int kd (Int.tmod a b)) h)
     | .and=>Bool.casesOn (motive:=fun _=>Prop) (keq kd ld) False (wBits Nat.land kd a b h k)
     | .or=>Bool.casesOn (motive:=fun _=>Prop) (keq kd ld) False (wBits Nat.lor kd a b h k)
     | .xor=>Bool.casesOn (motive:=fun _=>Prop) (keq kd ld) False (wBits Nat.xor kd a b h k)
     | .shl=>0 ≤ b∧k (.int kd (iwrap kd (Int.mul a (.ofNat (Nat.pow 2 (Nat.min b.toNat (kbits kd))))))) h
     | .shr=>(0 ≤ a∧0 ≤ b)∧k (.int kd (.ofNat (Nat.div a.toNat (Nat.pow 2 (Nat.min b.toNat (kbits kd)))))) h
     | op=>optK (binA op P t (.int kd a) (.int ld b)) h k)
  | .str a,.str b=>(match op with
     | .add=>a.length + b.length ≤ 9223372036854775807∧k (.str (a++b)) h
     | op=>optK (binA op P t (.str a) (.str b)) h k)
  | x,y=>optK (binA op P t x y) h k
def wConvert (src dst : TypeId) (x : Operand) (P : Program) (r : Tr AV) (h : Heap) (k : VK) : Prop :=
  match ev x r with
  | .int kd n=>optK (convA P src dst (.int kd n)) h k
  | .str s=>optK (convA P src dst (.str s)) h k
  | _=>∃ v,xConvert src dst x P r h = some v∧k v h
def wAppend (ts : List TypeId) (as : AV) (P : Program) (h : Heap) (k : VK) : Prop :=
  match ts,as with
  | t::u::_,.cons s (.cons x _) =>
    (match telem P t with
     | none=>False
     | some e=>(match tsz P e,tbytes P e,tzcells P e,srcN x with
       | some sz,some by_,some z,some n=>Bool.casesOn (motive:=fun _=>Prop) (band (Nat.beq z.len sz) (bnot (isIntT P u))) False
          (∃ new,srcL x n sz h = some new∧(match s with
            | .nils=>(n * (by_ + 1) ≤ 1099511627776∧allCell new = true)∧k (.gs h.n n sz) ⟨h.t.set (.gl new false) h.n,h.n.succ⟩
            | .gs id len sz'=>Bool.casesOn (motive:=fun _=>Prop) (Nat.beq sz sz') False (match h.t.get id with
                | some (.gl l false)=>((len + n) * (by_ + 1) ≤ 1099511627776∧allCell new = true∧len * sz = l.len)∧k (.gs h.n (len + n) sz) ⟨(h.t.del id).set (.gl (app l new) false) h.n,h.n.succ⟩
                | _=>False)
            | s=>orK (appendA sz by_ s x n new h) k))
       | _,_,_,_=>False))
  | _,_=>False
structure ClP (off n sz : Nat) (g z : AV) (k : AV → Prop) : Prop where
  pos : 0 < n
  fit : off + n * sz ≤ g.len
  len : (reps n z).len = n * sz
  cell : allCell (reps n z) = true
  k : k (splice off g (reps n z))
def wClear (ts : List TypeId) (xs : AV) (P : Program) (h : Heap) (k : VK) : Prop :=
  match ts,xs with
  | t::_,.cons (.slice id off n _ sz') _ =>
    (match telem P t with
     | none=>False
     | some e=>(match tsz P e,tzcells P e,h.t.get id with
       | some sz,some z,some (.gl g false)=>Bool.casesOn (motive:=fun _=>Prop) (band (Nat.beq sz sz') (Nat.beq z.len sz)) False (ClP off n sz g z fun g'=>k (.tup .nil) ⟨h.t.set (.gl g' false) id,h.n⟩)
       | _,_,_=>orK (xClear ts xs P h) k))
  | _,_=>orK (xClear ts xs P h) k
def wCall (cx : Cx) (x : OR) (k : VK) : Prop :=
  match x with
  | .enter g as h=>f1L as fun as=>∃ v h',cx.call (.fn g) as h = .ret v h'∧k v h'
  | .round id as h=>f1L as fun as=>∃ v h',cx.call (.rd id) as h = .ret v h'∧k v h'
  | _=>False
def wOp (o : Op) (cx : Cx) (r : Tr AV) (h : Heap) (k : VK) : Prop :=
  match o with
  | .indexAddr t x i=>wIndexAddr t x i cx.P r h k
  | .index t x i=>wIndex t x i cx.P r h k
  | .load t a=>wLoad t a cx.P r h k
  | .store t a x=>wStore t a x cx.P r h k
  | .slice t x lo hi mx=>wSlice t x lo hi mx cx.P r h k
  | .makeSlice t l c=>wMakeSlice t l c cx.P r h k
  | .pick c a b=>wPick c a b r h k
  | .binOp op t x y _=>wBin op t x y cx.P r h k
  | .convert a b x=>wConvert a b x cx.P r h k
  | .call c=>(match c.callee with
    | .value f=>wCall cx (callV (ev f r) (evs c.args.toList r) h) k
    | .builtin .append=>wAppend c.argTypes.toList (evs c.args.toList r) cx.P h k
    | .builtin .clear=>wClear c.argTypes.toList (evs c.args.toList r) cx.P h k
    | _=>orK (xOp (.call c) cx.P r h) k)
  | o=>orK (xOp o cx.P r h) k
end
end Go.Sy
namespace Go.Sy
open Go.RowKit
set_option linter.unusedVariables false
set_option linter.unusedSimpArgs false
set_option linter.unusedSectionVars false
variable [Tabs]
def Res (o : Op) (cx : Cx) (r : Tr AV) (h : Heap) (v : AV) (h' : Heap) : Prop :=
  xOp o cx.P r h = .val v h' ∨ (∃ f as h1,xOp o cx.P r h = .enter f as h1∧cx.call (.fn f) as h1 = .ret v h') ∨ (∃ id as h1,xOp o cx.P r h = .round id as h1∧cx.call (.rd id) as h1 = .ret v h')
def Got (o : Op) (cx : Cx) (r : Tr AV) (h : Heap) (k : VK) : Prop:=∃ v h',Res o cx r h v h'∧k v h'
variable {cx : Cx} {r : Tr AV} {h : Heap} {k : VK}
theorem Got.pure {o : Op} {f : Program → Tr AV → Option AV} {v : AV} (hc : cls o = .pure f) (hf : f cx.P r = some v) (hk : k v h) : Got o cx r h k :=
  ⟨v,h,.inl (by unfold xOp; rw [hc]; simp only [hf]),hk⟩
theorem Got.load {o : Op} {f : Program → Tr AV → Heap → Option AV} {v : AV} (hc : cls o = .load f) (hf : f cx.P r h = some v) (hk : k v h) : Got o cx r h k :=
  ⟨v,h,.inl (by unfold xOp; rw [hc]; simp only [hf]),hk⟩
theorem Got.eff {o : Op} {f : Program → Tr AV → Heap → OR} {v : AV} {h' : Heap} (hc : cls o = .eff f) (hf : f cx.P r h = .val v h') (hk : k v h') : Got o cx r h k :=
  ⟨v,h',.inl (by unfold xOp; rw [hc]; exact hf),hk⟩
theorem optK_some {x : Option AV} (hk : optK x h k) : ∃ v,x = some v∧k v h:=by
  unfold optK at hk
  split at hk
  · exact ⟨_,rfl,hk⟩
  · exact hk.elim
theorem orK_val {x : OR} (hk : orK x k) : ∃ v h',x = .val v h'∧k v h':=by
  unfold orK at hk
  split at hk
  · exact ⟨_,_,rfl,hk⟩
  · exact hk.elim
theorem Got.opt {o : Op} {f : Program → Tr AV → Option AV} (hc : cls o = .pure f) (hk : optK (f cx.P r) h k) : Got o cx r h k :=
  let ⟨_,hf,hv⟩:=optK_some hk; .pure hc hf hv
theorem Got.optL {o : Op} {f : Program → Tr AV → Heap → Option AV} (hc : cls o = .load f) (hk : optK (f cx.P r h) h k) : Got o cx r h k :=
  let ⟨_,hf,hv⟩:=optK_some hk; .load hc hf hv
theorem Got.or {o : Op} (hk : orK (xOp o cx.P r h) k) : Got o cx r h k :=
  let ⟨_,_,hf,hv⟩:=orK_val hk; ⟨_,_,.inl hf,hv⟩
theorem ble_of {a b : Nat} (h : a ≤ b) : Nat.ble a b = true:=by rw [Nat.ble_eq]; exact h
theorem boolF {b : Bool} {p : Prop} (h : Bool.casesOn (motive:=fun _=>Prop) b False p) : b = true∧p:=by
  cases b with
  | false=>exact h.elim
  | true=>exact ⟨rfl,h⟩
theorem idxK_some {v : AV} {len : Nat} {k : Nat → Prop} (hk : idxK v len k) : ∃ kd i,v = .int kd (.ofNat i)∧i < len∧k i:=by
  unfold idxK at hk
  split at hk
  · rename_i kd z
    obtain ⟨h1,h2,h3⟩:=hk
    obtain ⟨i,rfl⟩:=Int.eq_ofNat_of_zero_le h1
    exact ⟨kd,i,rfl,by omega,h3⟩
  · exact hk.elim
theorem idx_of {kd : IntKind} {i len : Nat} (hi : i < len) (f : Nat → Option AV) : idx (.int kd (.ofNat i)) len f = f i:=by
  unfold idx
  simp only [natLt_iff.2 hi]
theorem indexAddr_got {t : TypeId} {x ix : Operand} (hk : wIndexAddr t x ix cx.P r h k) : Got (.indexAddr t x ix) cx r h k:=by
  have hc : cls (.indexAddr t x ix) = .pure (xIndexAddr t x ix):=rfl
  unfold wIndexAddr at hk
  split at hk
  · rename_i e id off len cap sz hu he
    split at hk
    · rename_i z hz
      obtain ⟨h1,h2⟩:=boolF hk
      obtain ⟨kd,i,hi,hlt,hv⟩:=idxK_some h2
      have h1':=Nat.eq_of_beq_eq_true h1
      subst h1'
      refine .pure (v:=.ptr id (Nat.add off (Nat.mul i z))) hc ?_ hv
      unfold xIndexAddr
      simp only [hu,he,hz,h1,hi,idx_of hlt]
    · exact hk.elim
  · rename_i e n l hu he
    split at hk
    · rename_i z hz
      obtain ⟨kd,i,hi,hlt,hv⟩:=idxK_some hk
      refine .pure (v:=.rop l (Nat.mul i z)) hc ?_ hv
      unfold xIndexAddr
      simp only [hu,he,hz,hi,idx_of hlt]
    · exact hk.elim
  · rename_i e id n sz hu he
    split at hk
    · rename_i z hz
      obtain ⟨h1,h2⟩:=boolF hk
      obtain ⟨kd,i,hi,hlt,hv⟩:=idxK_some h2
      have h1':=Nat.eq_of_beq_eq_true h1
      subst h1'
      refine .pure (v:=.ptr id (Nat.mul i z)) hc ?_ hv
      unfold xIndexAddr
      simp only [hu,he,hz,h1,hi,idx_of hlt]
    · exact hk.elim
  · exact .opt hc hk
theorem nthB_get : ∀ (s : List Nat) (i : Nat),i < s.length → nthB s i = some (s.getD i 0)
  | a::s,0,_=>rfl
  | a::s,i + 1,h=>by
    show nthB s i = _
    rw [nthB_get s i (by simpa using h)]; simp
  | [],i,h=>absurd h (by simp)
theorem index_got {t : TypeId} {x ix : Operand} (hk : wIndex t x ix cx.P r h k) : Got (.index t x ix) cx r h k:=by
  have hc : cls (.index t x ix) = .pure (xIndex t x ix):=rfl
  unfold wIndex at hk
  split at hk
  · rename_i s hu he
    obtain ⟨kd,i,hi,hlt,hv⟩:=idxK_some hk
    refine .pure (v:=.int .u8 (.ofNat (s.getD i 0))) hc ?_ hv
    unfold xIndex
    simp only [hu,he,hi,nthB_get s i hlt]
  · exact .opt hc hk
theorem load_got {t : TypeId} {a : Operand} (hk : wLoad t a cx.P r h k) : Got (.load t a) cx r h k:=by
  have hc : cls (.load t a) = .load (xLoad t a):=rfl
  unfold wLoad at hk
  split at hk
  · rename_i l j he
    obtain ⟨v,h1,h2⟩:=hk
    exact .load hc (by unfold xLoad loadA; rw [he]; exact h1) h2
  · rename_i id off he
    split at hk
    · rename_i c n ro hg
      obtain ⟨v,h1,h2⟩:=optK_some hk
      exact .load hc (by unfold xLoad loadA; rw [he]; simp only [hg]; exact h1) h2
    · rename_i l ro hg
      obtain ⟨v,h1,h2⟩:=hk
      exact .load hc (by unfold xLoad loadA; rw [he]; simp only [hg]; exact h1) h2
    · exact hk.elim
  · exact hk.elim
theorem store_got {t : TypeId} {a x : Operand} (hk : wStore t a x cx.P r h k) : Got (.store t a x) cx r h k:=by
  have hc : cls (.store t a x) = .eff (xStore t a x):=rfl
  unfold wStore at hk
  split at hk
  · rename_i id off he
    split at hk
    · rename_i g n hg hn
      obtain ⟨h1,h3⟩:=boolF hk
      rw [f0L_eq] at h3
      obtain ⟨h2,h3⟩:=h3
      obtain ⟨h4,h5⟩:=band_iff.1 h1
      have h6 : Nat.ble (Nat.add off n) g.len = true:=ble_of h2
      refine .eff hc ?_ h3
      unfold xStore putAt
      simp only [he,hn,hg,h6,h1]
      rfl
    · obtain ⟨v,h',h1,h2⟩:=orK_val hk
      exact .eff hc h1 h2
  · exact hk.elim
theorem boundK_some {v : Option AV} {d m : Nat} {p : Nat → Prop} (hk : boundK v d m p) : ∃ i,(∀ f : Nat → Option AV,bound v d m f = f i)∧p i∧(v = none → i = d)∧(v ≠ none → i ≤ m):=by
  unfold boundK at hk
  split at hk
  · exact ⟨d,fun f=>rfl,hk,fun _=>rfl,fun e=>absurd rfl e⟩
  · rename_i kd z
    obtain ⟨h1,h2,h3⟩:=hk
    obtain ⟨i,rfl⟩:=Int.eq_ofNat_of_zero_le h1
    have : i ≤ m:=by omega
    exact ⟨i,(fun f=>by unfold bound; simp only [show Nat.ble i m = true from ble_of this]),h3,(fun e=>by cases e),(fun _=>this)⟩
  · exact hk.elim
theorem slice_got {t : TypeId} {x : Operand} {lo hi mx : Option Operand} (hk : wSlice t x lo hi mx cx.P r h k) : Got (.slice t x lo hi mx) cx r h k:=by
  have hc : cls (.slice t x lo hi mx) = .load (xSliceL t x lo hi mx):=rfl
  unfold wSlice at hk
  cases mx with
  | some _=>exact hk.elim
  | none =>
    simp only at hk
    split at hk
    · rename_i s hu he
      obtain ⟨hh,e1,hk,_⟩:=boundK_some hk
      obtain ⟨ll,e2,hk,_⟩:=boundK_some hk
      refine .load hc ?_ hk
      unfold xSliceL xSlice
      simp only [hu,he,e1,e2]
    · rename_i e n l hu he
      split at hk
      · rename_i z hz
        obtain ⟨hh,e1,hk,_⟩:=boundK_some hk
        obtain ⟨ll,e2,⟨l',h1,hk⟩,_⟩:=boundK_some hk
        refine .load hc ?_ hk
        unfold xSliceL xSlice
        simp only [hu,he,hz,e1,e2,h1]
        rfl
      · exact hk.elim
    · rename_i e id n sz hu he
      split at hk
      · rename_i z hz
        obtain ⟨h1,hk⟩:=boolF hk
        obtain ⟨hh,e1,hk,_⟩:=boundK_some hk
        cases lo with
        | none =>
          simp only at hk
          refine .load hc ?_ hk
          unfold xSliceL xSlice
          simp only [hu,he,hz,h1,e1,Option.map_none]
          rfl
        | some y =>
          simp only at hk
          obtain ⟨ll,e2,hk',_⟩:=boundK_some hk
          clear hk
          have e2' : ∀ f,bound (Option.map (fun x=>ev x r) (some y)) 0 hh f = f ll:=e2
          rcases hk' with ⟨rfl,hk⟩ | ⟨⟨g1,g2⟩,hk⟩ | ⟨⟨g1,rfl⟩,hk⟩
          · refine .load hc ?_ hk
            unfold xSliceL xSlice
            simp only [hu,he,hz,h1,e1,e2']
            rfl
          · refine .load hc ?_ hk
            unfold xSliceL xSlice
            have : Nat.beq ll 0 = false:=by rw [natBeq_dec,decide_eq_false (by omega)]
            simp only [hu,he,hz,h1,e1,e2',this,natLt_iff.2 g2]
          · refine .load hc ?_ hk
            unfold xSliceL xSlice
            have : Nat.beq ll 0 = false:=by rw [natBeq_dec,decide_eq_false (by omega)]
            have h2 : natLt ll ll = false:=by rw [natLt_dec,decide_eq_false (by omega)]
            simp only [hu,he,hz,h1,e1,e2',this,h2]
      · exact hk.elim
    · exact .optL hc hk
theorem makeSlice_got {t : TypeId} {l c : Operand} (hk : wMakeSlice t l c cx.P r h k) : Got (.makeSlice t l c) cx r h k:=by
  unfold wMakeSlice at hk
  split at hk
  · exact hk.elim
  · rename_i e he
    split at hk
    · rename_i z sz by_ k1 ln k2 cp hz hs hb hl hcp
      obtain ⟨h1,h2,h3,h4,hk'⟩:=boolF hk
      clear hk
      obtain ⟨a,rfl⟩:=Int.eq_ofNat_of_zero_le h2
      obtain ⟨b,rfl⟩:=Int.eq_ofNat_of_zero_le (show (0 : Int) ≤ cp by omega)
      have h3 : a ≤ b:=by omega
      have h4 : b * (by_ + 1) ≤ 1099511627776:=by rw [← Int.natCast_mul] at h4; omega
      refine ⟨_,_,.inl ?_,hk'⟩
      have : xMakeSlice t l c cx.P r = some ⟨reps a z,Nat.mul b sz,.slice a b sz⟩:=by
        unfold xMakeSlice
        have e1 : Nat.ble a b = true:=ble_of h3
        have e2 : Nat.ble (Nat.mul b (Nat.succ by_)) maxB = true:=ble_of h4
        have e3 : band (Nat.beq z.len sz) (band (Nat.ble a b) (Nat.ble (Nat.mul b (Nat.succ by_)) maxB)) = true:=band_iff.2 ⟨h1,band_iff.2 ⟨e1,e2⟩⟩
        have hl' : ev l r = .int k1 (Int.ofNat a):=hl
        have hc' : ev c r = .int k2 (Int.ofNat b):=hcp
        simp only [he,hz,hs,hb,hl',hc',e3]
      unfold xOp
      show Option.casesOn (motive:=fun _=>Heap → OR) (xMakeSlice t l c cx.P r) (fun _=>.fail) (fun a h=>newCells a.l a.n h a.k) h = _
      rw [this]
      rfl
    · exact hk.elim
theorem pick_got {c a b : Operand} (hk : wPick c a b r h k) : Got (.pick c a b) cx r h k:=by
  have hc : cls (.pick c a b) = .pure (xPick c a b):=rfl
  unfold wPick at hk
  split at hk
  · rename_i t ht
    cases t with
    | true=>exact .pure hc (by unfold xPick; rw [ht]) hk
    | false=>exact .pure hc (by unfold xPick; rw [ht]) hk
  · exact hk.elim
theorem bin_got {op : BinOp} {t u : TypeId} {x y : Operand} (hk : wBin op t x y cx.P r h k) : Got (.binOp op t x y u) cx r h k:=by
  have hc : cls (.binOp op t x y u) = .pure (xBin op t x y u):=rfl
  have key : ∀ v,binA op cx.P t (ev x r) (ev y r) = some v → k v h → Got (.binOp op t x y u) cx r h k:=fun v h1 h2=>.pure hc h1 h2
  unfold wBin at hk
  split at hk
  · rename_i kd a ld b ex ey
    rw [ex,ey] at key
    have hbits : ∀ (f : Nat → Nat → Nat) (g : Nat → Nat → Nat),wBits f kd a b h k → (∀ i j : Nat,a = .ofNat i → b = .ofNat j → fits kd a = true → fits kd b = true → binA op cx.P t (.int kd a) (.int ld b) = some (.int kd (.ofNat (f i j)))) → Got (.binOp op t x y u) cx r h k:=by
      intro f _ ⟨⟨h1,h2,h3,h4⟩,hv⟩ hh
      obtain ⟨i,rfl⟩:=Int.eq_ofNat_of_zero_le h1
      obtain ⟨j,rfl⟩:=Int.eq_ofNat_of_zero_le h3
      exact key _ (hh i j rfl rfl h2 h4) hv
    cases op <;> simp only at hk
    case quo =>
      obtain ⟨h1,h2,hk⟩:=boolF hk
      refine key _ ?_ hk
      show Bool.casesOn (motive:=fun _=>Option AV) (isShift .quo) (Bool.casesOn (motive:=fun _=>Option AV) (keq kd ld) none (binII .quo kd a b)) (shiftA .quo kd a b) = _
      simp only [isShift,h1,binII,ieq_dec,decide_eq_false h2]
    case rem =>
      obtain ⟨h1,h2,hk⟩:=boolF hk
      refine key _ ?_ hk
      show Bool.casesOn (motive:=fun _=>Option AV) (isShift .rem) (Bool.casesOn (motive:=fun _=>Option AV) (keq kd ld) none (binII .rem kd a b)) (shiftA .rem kd a b) = _
      simp only [isShift,h1,binII,ieq_dec,decide_eq_false h2]
    case and =>
      obtain ⟨h1,hk⟩:=boolF hk
      refine hbits _ (fun _ _=>0) hk (fun i j e1 e2 e3 e4=>?_)
      subst e1; subst e2
      show Bool.casesOn (motive:=fun _=>Option AV) (isShift .and) (Bool.casesOn (motive:=fun _=>Option AV) (keq kd ld) none (binII .and kd (.ofNat i) (.ofNat j))) (shiftA .and kd (.ofNat i) (.ofNat j)) = _
      simp only [isShift,h1,binII,e3,e4,band_iff.2 ⟨rfl,rfl⟩]
    case or =>
      obtain ⟨h1,hk⟩:=boolF hk
      refine hbits _ (fun _ _=>0) hk (fun i j e1 e2 e3 e4=>?_)
      subst e1; subst e2
      show Bool.casesOn (motive:=fun _=>Option AV) (isShift .or) (Bool.casesOn (motive:=fun _=>Option AV) (keq kd ld) none (binII .or kd (.ofNat i) (.ofNat j))) (shiftA .or kd (.ofNat i) (.ofNat j)) = _
      simp only [isShift,h1,binII,e3,e4,band_iff.2 ⟨rfl,rfl⟩]
    case xor =>
      obtain ⟨h1,hk⟩:=boolF hk
      refine hbits _ (fun _ _=>0) hk (fun i j e1 e2 e3 e4=>?_)
      subst e1; subst e2
      show Bool.casesOn (motive:=fun _=>Option AV) (isShift .xor) (Bool.casesOn (motive:=fun _=>Option AV) (keq kd ld) none (binII .xor kd (.ofNat i) (.ofNat j))) (shiftA .xor kd (.ofNat i) (.ofNat j)) = _
      simp only [isShift,h1,binII,e3,e4,band_iff.2 ⟨rfl,rfl⟩]
    case shl =>
      obtain ⟨h1,hk⟩:=hk
      obtain ⟨j,rfl⟩:=Int.eq_ofNat_of_zero_le h1
      exact key _ rfl hk
    case shr =>
      obtain ⟨⟨h0,h1⟩,hk⟩:=hk
      obtain ⟨i,rfl⟩:=Int.eq_ofNat_of_zero_le h0
      obtain ⟨j,rfl⟩:=Int.eq_ofNat_of_zero_le h1
      exact key _ rfl hk
    all_goals (obtain ⟨v,h1,h2⟩:=optK_some hk; exact key v h1 h2)
  · rename_i a b ex ey
    rw [ex,ey] at key
    cases op <;> simp only at hk
    case add =>
      obtain ⟨h1,hk⟩:=hk
      refine key _ ?_ hk
      show strOp .add a b = _
      unfold strOp
      have : Nat.ble (Nat.add a.length b.length) 9223372036854775807 = true:=ble_of h1
      simp only [this]
    all_goals (obtain ⟨v,h1,h2⟩:=optK_some hk; exact key v h1 h2)
  · obtain ⟨v,h1,h2⟩:=optK_some hk; exact key v h1 h2
theorem convert_got {a b : TypeId} {x : Operand} (hk : wConvert a b x cx.P r h k) : Got (.convert a b x) cx r h k:=by
  have hc : cls (.convert a b x) = .load (xConvert a b x):=rfl
  unfold wConvert at hk
  split at hk
  · rename_i kd n he
    obtain ⟨v,h1,h2⟩:=optK_some hk
    exact .load hc (by unfold xConvert; rw [he]; exact h1) h2
  · rename_i s he
    obtain ⟨v,h1,h2⟩:=optK_some hk
    exact .load hc (by unfold xConvert; rw [he]; exact h1) h2
  · obtain ⟨v,h1,h2⟩:=hk
    exact .load hc h1 h2
theorem append_got {f as ts} (hc : cls (.call ⟨f,as,ts⟩) = .eff fun P r h=>xAppend ts.toList (evs as.toList r) P h) (hk : wAppend ts.toList (evs as.toList r) cx.P h k) : Got (.call ⟨f,as,ts⟩) cx r h k:=by
  have key : ∀ v h',xAppend ts.toList (evs as.toList r) cx.P h = .val v h' → k v h' → Got (.call ⟨f,as,ts⟩) cx r h k:=fun v h' h1 h2=>.eff hc h1 h2
  revert hk key
  generalize ts.toList = tl
  generalize evs as.toList r = al
  intro hk key
  unfold wAppend at hk
  split at hk
  · rename_i t u tl0 s x al0
    split at hk
    · exact hk.elim
    · rename_i e he
      split at hk
      · rename_i sz by_ z n hs hb hz hn
        obtain ⟨h1,new,h2,hk'⟩:=boolF hk
        clear hk
        have hk:=hk'
        clear hk'
        have hA : ∀ v h',appendA sz by_ s x n new h = .val v h' → xAppend (t::u::tl0) (.cons s (.cons x al0)) cx.P h = .val v h':=fun v h' e=>by
          unfold xAppend
          simp only [he,hs,hb,hz,h1,hn,h2]
          exact e
        split at hk
        · obtain ⟨⟨h3,h4⟩,hk⟩:=hk
          refine key _ _ (hA _ _ ?_) hk
          have e1 : appOK sz sz by_ n new = true:=band_iff.2 ⟨Nat.beq_refl _,band_iff.2 ⟨ble_of h3,h4⟩⟩
          unfold appendA
          simp only [e1]
          rfl
        · rename_i id len sz'
          obtain ⟨h5,hk'⟩:=boolF hk
          clear hk
          have hk:=hk'
          clear hk'
          split at hk
          · rename_i l hg
            obtain ⟨⟨h3,h4,h6⟩,hk⟩:=hk
            refine key _ _ (hA _ _ ?_) hk
            have e1 : appOK sz sz' by_ (Nat.add len n) new = true:=band_iff.2 ⟨h5,band_iff.2 ⟨ble_of h3,h4⟩⟩
            have e2 : Nat.beq (Nat.mul len sz) l.len = true:=by
              have : Nat.mul len sz = l.len:=h6
              rw [this]; exact Nat.beq_refl _
            unfold appendA
            simp only [e1,hg,e2]
            rfl
          · exact hk.elim
        · obtain ⟨v,h',h3,h4⟩:=orK_val hk
          exact key _ _ (hA _ _ h3) h4
      · exact hk.elim
  · exact hk.elim
theorem clear_got {f as ts} (hc : cls (.call ⟨f,as,ts⟩) = .eff fun P r h=>xClear ts.toList (evs as.toList r) P h) (hk : wClear ts.toList (evs as.toList r) cx.P h k) : Got (.call ⟨f,as,ts⟩) cx r h k:=by
  have key : ∀ v h',xClear ts.toList (evs as.toList r) cx.P h = .val v h' → k v h' → Got (.call ⟨f,as,ts⟩) cx r h k:=fun v h' h1 h2=>.eff hc h1 h2
  have keyO : orK (xClear ts.toList (evs as.toList r) cx.P h) k → Got (.call ⟨f,as,ts⟩) cx r h k:=fun hk=>let ⟨v,h',a,b⟩:=orK_val hk; key v h' a b
  revert hk key keyO
  generalize ts.toList = tl
  generalize evs as.toList r = al
  intro hk key keyO
  unfold wClear at hk
  split at hk
  · rename_i t tl0 id off n c sz' y
    split at hk
    · exact hk.elim
    · rename_i e he
      split at hk
      · rename_i sz z g hs hz hg
        obtain ⟨h1,hk'⟩:=boolF hk
        obtain ⟨b1,b2⟩:=band_iff.1 h1
        refine key _ _ ?_ hk'.k
        have e1:=band_iff.2 ⟨b1,band_iff.2 ⟨b2,natLt_iff.2 hk'.pos⟩⟩
        have e2 : band (Nat.ble (Nat.add off (Nat.mul n sz)) g.len) (band (Nat.beq (reps n z).len (Nat.mul n sz)) (allCell (reps n z))) = true:=band_iff.2 ⟨ble_of hk'.fit,band_iff.2 ⟨(by rw [hk'.len]; exact Nat.beq_refl _),hk'.cell⟩⟩
        unfold xClear putAt
        simp only [he,hs,hz,e1,hg,e2]
      · exact keyO hk
  · exact keyO hk
theorem call_got {o : Op} (hk : wCall cx (xOp o cx.P r h) k) : Got o cx r h k:=by
  unfold wCall at hk
  split at hk
  · rename_i g as h1 hx
    rw [f1L_eq] at hk
    obtain ⟨v,h',hc,hk⟩:=hk
    exact ⟨v,h',.inr (.inl ⟨g,as,h1,hx,hc⟩),hk⟩
  · rename_i id as h1 hx
    rw [f1L_eq] at hk
    obtain ⟨v,h',hc,hk⟩:=hk
    exact ⟨v,h',.inr (.inr ⟨id,as,h1,hx,hc⟩),hk⟩
  · exact hk.elim
theorem wOp_got {o : Op} (hk : wOp o cx r h k) : Got o cx r h k:=by
  unfold wOp at hk
  split at hk
  · exact indexAddr_got hk
  · exact index_got hk
  · exact load_got hk
  · exact store_got hk
  · exact slice_got hk
  · exact makeSlice_got hk
  · exact pick_got hk
  · exact bin_got hk
  · exact convert_got hk
  · rename_i c
    obtain ⟨cl,as,ts⟩:=c
    split at hk
    · rename_i f hf
      simp only at hf
      subst hf
      exact call_got hk
    · rename_i hf
      simp only at hf
      subst hf
      exact append_got rfl hk
    · rename_i hf
      simp only at hf
      subst hf
      exact clear_got rfl hk
    · exact .or hk
  · exact .or hk
end Go.Sy
namespace Go.Sy
open Go.RowKit
set_option linter.unusedVariables false
set_option linter.unusedSimpArgs false
set_option linter.unusedSectionVars false
variable [Tabs]
abbrev KC:=Tr AV → List Pos → Heap → Prop
noncomputable def putK (d : Option Tmp) (nt : Nat) (v : AV) (r : Tr AV) (k : Tr AV → Prop) : Prop :=
  match d with
  | none=>k r
  | some d=>Bool.casesOn (motive:=fun _=>Prop) (natLt d nt) False (fV v fun v'=>setK v' r (pathOf d) k)
theorem putK_some {d : Option Tmp} {nt : Nat} {v : AV} {r : Tr AV} {k : Tr AV → Prop} (h : putK d nt v r k) : ∃ r',putR d nt v r = some r'∧k r':=by
  unfold putK at h
  cases d with
  | none=>exact ⟨r,rfl,h⟩
  | some d =>
    obtain ⟨h1,h2⟩:=boolF h
    rw [fV_eq,setK_eq] at h2
    exact ⟨_,by unfold putR; simp only [h1],h2⟩
noncomputable def quietOp (o : Op) : Bool:=match cls o with | .pure _=>true | .load _=>true | _=>false
noncomputable def wOp1 (o : Oper) (cx : Cx) (r : Tr AV) (m : List Pos) (h : Heap) (k : KC) : Prop :=
  wOp o.op cx r h fun v h'=>Bool.casesOn (motive:=fun _=>Prop) (quietOp o.op) (fH h' fun h2=>putK o.dst cx.nt v r fun r'=>k r' m h2) (putK o.dst cx.nt v r fun r'=>k r' m h')
noncomputable def wSkip (o : Oper) (cx : Cx) (r : Tr AV) (m : List Pos) (h : Heap) (k : KC) : Prop:=putK o.dst cx.nt (.tup .nil) r fun r'=>k r' m h
noncomputable def wAt (ops : Array Oper) (o : Oper) (cx : Cx) (r : Tr AV) (m : List Pos) (h : Heap) (k : KC) : Prop :=
  match o.guard with
  | none=>wOp1 o cx r m h k
  | some g=>(match gslot ops g.1 with
    | none=>False
    | some s=>(match gv (r.get (pathOf s)) with
      | .bool b=>Bool.casesOn (motive:=fun _=>Prop) b
          (setK (.bool false) r (pathOf s) fun r'=>Bool.casesOn (motive:=fun _=>Prop) g.2 (wOp1 o cx r' m h k) (wSkip o cx r' m h k))
          (setK (.bool true) r (pathOf s) fun r'=>Bool.casesOn (motive:=fun _=>Prop) g.2 (wSkip o cx r' m h k) (wOp1 o cx r' m h k))
      | .tup _=>wSkip o cx r m h k
      | _=>False))
noncomputable def wOps (ops : Array Oper) : List Oper → Cx → KC → KC
  | [],_,k,r,m,h=>k r m h
  | o::l,cx,k,r,m,h=>wAt ops o cx r m h (wOps ops l cx k)
def SameB (h h' : Heap) (id : Pos) : Prop:=match h.t.get id with | some (.cells t n ro)=>h'.t.get id = some (.cells t n ro) | some (.gl l ro)=>h'.t.get id = some (.gl l ro) | _=>False
noncomputable def wRe (ops : Array Oper) (P : Program) (o : Oper) (r : Tr AV) (h h' : Heap) : Prop :=
  match wantedA ops o r with
  | .no=>True
  | .unknown=>False
  | .yes =>
    match cls o.op with
    | .load f=>∃ v,f P r h = some v∧f P r h' = some v
    | .alloc _=>(match o.dst with
      | some d=>(match gv (r.get (pathOf d)) with
        | .ptr id _=>SameB h h' id
        | .gs id _ _=>SameB h h' id
        | _=>False)
      | none=>False)
    | _=>True
theorem wRe_ok {ops : Array Oper} {P : Program} {o : Oper} {r : Tr AV} {h h' : Heap} (hk : wRe ops P o r h h') : recheck1 ops P o r h h' = true:=by
  have same : ∀ {id : Pos},SameB h h' id → sameAt h h' id = true:=by
    intro id hs
    unfold SameB at hs
    unfold sameAt
    split at hs
    · rename_i t n ro e; rw [e,hs]; simp
    · rename_i l ro e; rw [e,hs]; simp
    · exact hs.elim
  unfold wRe at hk
  unfold recheck1
  split at hk
  · rename_i e; rw [e]
  · exact hk.elim
  · rename_i e
    rw [e]
    simp only
    split at hk
    · rename_i f hf
      obtain ⟨v,h1,h2⟩:=hk
      rw [hf]
      simp only [h1,h2,decide_true]
    · rename_i f hf
      rw [hf]
      simp only
      split at hk
      · rename_i d hd
        simp only [hd]
        split at hk
        · rename_i id off hg; rw [hg]; exact same hk
        · rename_i id a b hg; rw [hg]; exact same hk
        · exact hk.elim
      · exact hk.elim
    · rename_i h1 h2
      split
      · rename_i f hf; exact absurd hf (h1 f)
      · rename_i f hf; exact absurd hf (h2 f)
      · rfl
noncomputable def wPend (ops : Array Oper) (P : Program) (l : List (Nat × Oper)) (r : Tr AV) (h h' : Heap) (k : Prop) : Prop :=
  match l with
  | []=>k
  | p::l=>wRe ops P p.2 r h h'∧wPend ops P l r h h' k
theorem wPend_ok {ops : Array Oper} {P : Program} {r : Tr AV} {h h' : Heap} {k : Prop} : ∀ {l : List (Nat × Oper)},wPend ops P l r h h' k → recheck ops P l r h h' = true∧k
  | [],hk=>⟨rfl,hk⟩
  | p::l,hk=>by
    obtain ⟨h1,h2⟩:=hk
    obtain ⟨h3,h4⟩:=wPend_ok h2
    refine ⟨?_,h4⟩
    unfold recheck at h3 ⊢
    rw [List.all_cons,wRe_ok h1,h3]
    rfl
noncomputable def wPlan (ops : Array Oper) : List PI → Cx → KC → KC
  | [],_,k,r,m,h=>k r m h
  | y::l,cx,k,r,m,h=>wAt ops y.o cx r m h fun r' m' h'=>wPend ops cx.P y.pend r h h' (wPlan ops l cx k r' m' h')
theorem set_same {x : AV} : ∀ {r : Tr AV} {p : Pos},r.get p = some x → Tr.set x r p = r
  | .leaf,p,h=>by cases h
  | .node l v r,.e,h=>by cases (show v = some x from h); rfl
  | .node l v r,.o p,h=>by show Tr.node (Tr.set x l p) v r = _; rw [set_same (r:=l) h]
  | .node l v r,.i p,h=>by show Tr.node l v (Tr.set x r p) = _; rw [set_same (r:=r) h]
theorem gv_bool {o : Option AV} {b : Bool} (h : gv o = .bool b) : o = some (.bool b):=by
  cases o with
  | none=>cases h
  | some v=>cases (show v = .bool b from h); rfl
theorem wAt_some {ops : Array Oper} {o : Oper} {cx : Cx} {r : Tr AV} {m : List Pos} {h : Heap} {k : KC} (hk : wAt ops o cx r m h k) :
    ∃ r' h',k r' m h'∧∀ kk,doAt ops o cx r m h kk = kk r' m h':=by
  have yes : wantedA ops o r = .yes → wOp1 o cx r m h k → ∃ r' h',k r' m h'∧∀ kk,doAt ops o cx r m h kk = kk r' m h':=by
    intro hw hk
    obtain ⟨v,h',hres,hk⟩:=wOp_got hk
    have hk : putK o.dst cx.nt v r fun r'=>k r' m h':=by
      cases hq : quietOp o.op with
      | true=>rw [hq] at hk; exact hk
      | false=>rw [hq] at hk; simp only at hk; rw [fH_eq] at hk; exact hk
    obtain ⟨r',hp,hk⟩:=putK_some hk
    refine ⟨r',h',hk,fun kk=>?_⟩
    unfold doAt
    rw [hw]
    simp only
    unfold doOp
    rcases hres with hx | ⟨f,as,h1,hx,hc⟩ | ⟨id,as,h1,hx,hc⟩
    · rw [hx]; simp only [hp]
    · rw [hx]; simp only; unfold crK; rw [hc]; simp only [hp]
    · rw [hx]; simp only; unfold crK; rw [hc]; simp only [hp]
  have no : wantedA ops o r = .no → wSkip o cx r m h k → ∃ r' h',k r' m h'∧∀ kk,doAt ops o cx r m h kk = kk r' m h':=by
    intro hw hk
    obtain ⟨r',hp,hk⟩:=putK_some hk
    refine ⟨r',h,hk,fun kk=>?_⟩
    unfold doAt
    rw [hw]
    simp only [hp]
  unfold wAt at hk
  split at hk
  · rename_i hg
    exact yes (by unfold wantedA; rw [hg]) hk
  · rename_i g hg
    split at hk
    · exact hk.elim
    · rename_i s hs
      split at hk
      · rename_i b hb
        have hw : wantedA ops o r = wantedBy (.bool b) g.2:=by unfold wantedA; rw [hg]; simp only [hs,hb]
        obtain ⟨w1,w2⟩:=g
        have hsame:=set_same (gv_bool hb)
        cases b with
        | true =>
          simp only at hk
          rw [setK_eq,hsame] at hk
          cases w2 with
          | true=>exact yes hw hk
          | false=>exact no hw hk
        | false =>
          simp only at hk
          rw [setK_eq,hsame] at hk
          cases w2 with
          | true=>exact no hw hk
          | false=>exact yes hw hk
      · rename_i l hb
        exact no (by unfold wantedA; rw [hg]; simp only [hs,hb]; rfl) hk
      · exact hk.elim
theorem wOps_some {ops : Array Oper} : ∀ (l : List Oper) {cx : Cx} {k : KC} {r : Tr AV} {m : List Pos} {h : Heap},wOps ops l cx k r m h → ∃ r' h',doOps ops l cx r m h = .ok r' m h'∧k r' m h'
  | [],cx,k,r,m,h,hk=>⟨r,h,rfl,hk⟩
  | o::l,cx,k,r,m,h,hk=>by
    obtain ⟨r1,h1,hk,he⟩:=wAt_some (hk : wAt ops o cx r m h (wOps ops l cx k))
    obtain ⟨r',h',e,hk⟩:=wOps_some l hk
    refine ⟨r',h',?_,hk⟩
    show doAt ops o cx r m h (fun r m h=>doOps ops l cx r m h) = _
    rw [he,e]
theorem wPlan_some {ops : Array Oper} : ∀ (l : List PI) {cx : Cx} {k : KC} {r : Tr AV} {m : List Pos} {h : Heap},wPlan ops l cx k r m h → ∃ r' h',doPlan ops l cx r m h = .ok r' m h'∧k r' m h'
  | [],cx,k,r,m,h,hk=>⟨r,h,rfl,hk⟩
  | y::l,cx,k,r,m,h,hk=>by
    obtain ⟨r1,h1,hk,he⟩:=wAt_some (hk : wAt ops y.o cx r m h fun r' m' h'=>wPend ops cx.P y.pend r h h' (wPlan ops l cx k r' m' h'))
    have hk : recheck ops cx.P y.pend r h h1 = true∧wPlan ops l cx k r1 m h1:=wPend_ok hk
    obtain ⟨r',h',e,hk'⟩:=wPlan_some l hk.2
    refine ⟨r',h',?_,hk'⟩
    show doAt ops y.o cx r m h (fun r' m h'=>Bool.casesOn (motive:=fun _=>R) (recheck ops cx.P y.pend r h h') .fail (doPlan ops l cx r' m h')) = _
    rw [he,hk.1]
    exact e
noncomputable def wReg (ops : Array Oper) (draw : Bool) (cx : Cx) (k : KC) : KC:=fun r m h =>
  Bool.casesOn (motive:=fun _=>Prop) draw (wOps ops ops.toList cx k r m h) (match planOf ops with | none=>False | some pl=>wPlan ops pl cx k r m h)
theorem wReg_some {ops : Array Oper} {draw : Bool} {cx : Cx} {k : KC} {r : Tr AV} {m : List Pos} {h : Heap} (hk : wReg ops draw cx k r m h) : ∃ r' h',drawOps ops draw cx r m h = .ok r' m h'∧k r' m h':=by
  cases draw with
  | false=>exact wOps_some _ hk
  | true =>
    unfold wReg at hk
    unfold drawOps
    simp only at hk ⊢
    split at hk
    · exact hk.elim
    · rename_i pl hpl
      obtain ⟨r',h',e,hk⟩:=wPlan_some _ hk
      exact ⟨r',h',by rw [hpl]; exact e,hk⟩
/-! ### The machine -/
structure FR0 (cx : Cx) (b : Frame) : Prop where
  fn : b.fn = cx.fn
  kind : b.kind = .normal
  ro : b.roundOf = none
theorem FR0.fr {cx : Cx} (hrd : cx.rd = none) {b : Frame} (h : FR0 cx b) (μ : Mu) : FR μ cx b:=⟨h.fn,h.kind,by rw [hrd]; exact h.ro⟩
noncomputable def kept (q : Pos) : Bool:=natLt q.toNat (Nat.add 64 Tabs.k)
structure GrowK (B0 : Nat) (μ : Mu) (n : Pos) (μ' : Mu) (n' : Pos) : Prop where
  g : Grow B0 μ.s μ'.s
  keep : 64 + Tabs.k ≤ n.toNat → (∀ q,kept q = true → μ' q = μ q)∧64 + Tabs.k ≤ n'.toNat
theorem kept_lt {q : Pos} (h : kept q = true) : q.toNat < 64 + Tabs.k:=Nat.le_of_ble_eq_true h
theorem GrowK.refl (B0 : Nat) (μ : Mu) (n : Pos) : GrowK B0 μ n μ n:=⟨Grow.refl _ _,fun e=>⟨fun _ _=>rfl,e⟩⟩
theorem GrowK.to {B0 : Nat} {μ : Mu} {n n' : Pos} (h : n.toNat ≤ n'.toNat) : GrowK B0 μ n μ n':=⟨Grow.refl _ _,fun e=>⟨fun _ _=>rfl,Nat.le_trans e h⟩⟩
theorem GrowK.trans {B0 : Nat} {a b c : Mu} {x y z : Pos} (h : GrowK B0 a x b y) (k : GrowK B0 b y c z) : GrowK B0 a x c z :=
  ⟨h.g.trans k.g,fun e=>⟨fun q hq=>((k.keep (h.keep e).2).1 q hq).trans ((h.keep e).1 q hq),(k.keep (h.keep e).2).2⟩⟩
theorem GrowK.post {μ : Mu} {B0 : Nat} {h : Heap} {w : World} {μ' : Mu} {h' : Heap} {w' : World} (p : Post μ B0 h w μ' h' w') : GrowK B0 μ h.n μ' h'.n :=
  ⟨p.seals,fun e=>⟨fun q hq=>p.ext q (Nat.lt_of_lt_of_le (kept_lt hq) e),Nat.le_trans e p.le⟩⟩
structure Aft (μ : Mu) (n : Pos) (B0 : Nat) (w : World) (μ' : Mu) (h' : Heap) (w' : World) : Prop where
  seals : GrowK B0 μ n μ' h'.n
  below : Below B0 w w'
  rel : HR μ' B0 h' w'
theorem Aft.of_post {μ : Mu} {B0 : Nat} {h : Heap} {w : World} {μ' : Mu} {h' : Heap} {w' : World} (p : Post μ B0 h w μ' h' w') : Aft μ h.n B0 w μ' h' w':=⟨.post p,p.below,p.rel⟩
theorem Aft.trans {μ : Mu} {n : Pos} {B0 : Nat} {w : World} {μ1 : Mu} {h1 : Heap} {w1 : World} {μ2 : Mu} {h2 : Heap} {w2 : World} (p : Aft μ n B0 w μ1 h1 w1) (q : Aft μ1 h1.n B0 w1 μ2 h2 w2) : Aft μ n B0 w μ2 h2 w2 :=
  ⟨p.seals.trans q.seals,p.below.trans q.below,q.rel⟩
def RW (P : Program) (B0 : Nat) (μ : Mu) (n : Pos) (w : World) (nt : Nat) (b : Frame) (k : List Item) (cs : List Frame) (M : Machine) : R → Prop
  | .fail=>False
  | .ok r m h'=>∃ μ' a' w',Aft μ n B0 w μ' h' w'∧AR μ' nt r m a'∧Steps P M (lone (b.atR a' k) cs w')
  | .exit i r m h'=>∃ μ' a' w',Aft μ n B0 w μ' h' w'∧AR μ' nt r m a'∧∃ k',exitTo i k' = exitTo i k∧Steps P M (lone (b.atR a' (.code (.exit i)::k')) cs w')
  | .ret r m h'=>∃ μ' a' w',Aft μ n B0 w μ' h' w'∧AR μ' nt r m a'∧∃ k',Steps P M (lone (b.atR a' (.code .ret::k')) cs w')
theorem RW.ahead {P : Program} {B0 : Nat} {μ μ1 : Mu} {n n1 : Pos} {w w1 : World} {nt : Nat} {b : Frame} {k : List Item} {cs : List Frame} {M M1 : Machine} {x : R} (hs : Steps P M M1) (hb : Below B0 w w1) (hsl : GrowK B0 μ n μ1 n1)
    (hx : RW P B0 μ1 n1 w1 nt b k cs M1 x) : RW P B0 μ n w nt b k cs M x:=by
  cases x with
  | fail=>exact hx
  | ok r m h'=>obtain ⟨μ',a',w',ha,h1,h2⟩:=hx; exact ⟨μ',a',w',⟨hsl.trans ha.seals,hb.trans ha.below,ha.rel⟩,h1,hs.trans h2⟩
  | exit i r m h'=>obtain ⟨μ',a',w',ha,h1,k',he,h2⟩:=hx; exact ⟨μ',a',w',⟨hsl.trans ha.seals,hb.trans ha.below,ha.rel⟩,h1,k',he,hs.trans h2⟩
  | ret r m h'=>obtain ⟨μ',a',w',ha,h1,k',h2⟩:=hx; exact ⟨μ',a',w',⟨hsl.trans ha.seals,hb.trans ha.below,ha.rel⟩,h1,k',hs.trans h2⟩
def Cw (P : Program) (B0 : Nat) (cx : Cx) (c : Code) (r : Tr AV) (m : List Pos) (h : Heap) (Q : R → Prop) : Prop :=
  ∀ (μ : Mu) (w : World) (b : Frame) (a : Act) (k : List Item) (cs : List Frame),HR μ B0 h w → AR μ cx.nt r m a → FR0 cx b →
    ∃ x,Q x∧RW P B0 μ h.n w cx.nt b k cs (lone (b.atR a (.code c::k)) cs w) x
def QK (kOk kRet : KC) (kEx : Nat → KC) : R → Prop
  | .fail=>False
  | .ok r m h=>kOk r m h
  | .ret r m h=>kRet r m h
  | .exit i r m h=>kEx i r m h
section
variable {P : Program} {B0 : Nat} {cx : Cx}
theorem Cw.of_run {c : Code} (hrd : cx.rd = none) (hc : CodeOK P B0 cx (xCode c) c) {r : Tr AV} {m : List Pos} {h : Heap} {Q : R → Prop} {x : R} (hx : xCode c cx r m h = x) (hf : x ≠ .fail) (hQ : Q x) : Cw P B0 cx c r m h Q:=by
  intro μ w b a k cs hr ha hb
  have:=hc r m h μ w b a hr ha (hb.fr hrd μ)
  rw [hx] at this
  refine ⟨x,hQ,?_⟩
  cases x with
  | fail=>exact hf rfl
  | ok r m h'=>obtain ⟨μ',a',w',hp,h1,h2⟩:=this k cs; exact ⟨μ',a',w',.of_post hp,h1,h2⟩
  | exit i r m h'=>obtain ⟨μ',a',w',hp,h1,h2⟩:=this k cs; exact ⟨μ',a',w',.of_post hp,h1,h2⟩
  | ret r m h'=>obtain ⟨μ',a',w',hp,h1,h2⟩:=this k cs; exact ⟨μ',a',w',.of_post hp,h1,h2⟩
theorem Cw.mono {c : Code} {r : Tr AV} {m : List Pos} {h : Heap} {Q Q' : R → Prop} (hq : ∀ x,Q x → Q' x) (hc : Cw P B0 cx c r m h Q) : Cw P B0 cx c r m h Q' :=
  fun μ w b a k cs hr ha hb=>let ⟨x,h1,h2⟩:=hc μ w b a k cs hr ha hb; ⟨x,hq x h1,h2⟩
theorem Cw.seq {x y : Code} {r : Tr AV} {m : List Pos} {h : Heap} {kOk kRet : KC} {kEx : Nat → KC} (hx : Cw P B0 cx x r m h (QK (fun r m h=>Cw P B0 cx y r m h (QK kOk kRet kEx)) kRet kEx)) : Cw P B0 cx (.seq x y) r m h (QK kOk kRet kEx):=by
  intro μ w b a k cs hr ha hb
  obtain ⟨z,h1,h2⟩:=hx μ w b a (.code y::k) cs hr ha hb
  have hs : Steps P (lone (b.atR a (.code (.seq x y)::k)) cs w) (lone (b.atR a (.code x::.code y::k)) cs w):=.one stepR_seq
  cases z with
  | fail=>exact h2.elim
  | ok r1 m1 h1' =>
    obtain ⟨μ1,a1,w1,hp,ha1,hs1⟩:=h2
    obtain ⟨z2,g1,g2⟩:=h1 μ1 w1 b a1 k cs hp.rel ha1 hb
    exact ⟨z2,g1,g2.ahead (hs.trans hs1) hp.below hp.seals⟩
  | exit i r1 m1 h1' =>
    obtain ⟨μ1,a1,w1,hp,ha1,k',he,hs1⟩:=h2
    exact ⟨.exit i r1 m1 h1',h1,μ1,a1,w1,hp,ha1,k',he,hs.trans hs1⟩
  | ret r1 m1 h1' =>
    obtain ⟨μ1,a1,w1,hp,ha1,k',hs1⟩:=h2
    exact ⟨.ret r1 m1 h1',h1,μ1,a1,w1,hp,ha1,k',hs.trans hs1⟩
theorem Cw.cond {c : Operand} {x y : Code} {r : Tr AV} {m : List Pos} {h : Heap} {Q : R → Prop} {t : Bool} (ht : ev c r = .bool t) (hx : t = true → Cw P B0 cx x r m h Q) (hy : t = false → Cw P B0 cx y r m h Q) : Cw P B0 cx (.cond c x y) r m h Q:=by
  intro μ w b a k cs hr ha hb
  have hc:=ev_sound hr.glob ha.rr c
  rw [ht] at hc
  have hc : a.eval c = .bool t:=by simpa [VR] using hc
  cases t with
  | true=>obtain ⟨z,h1,h2⟩:=hx rfl μ w b a k cs hr ha hb; exact ⟨z,h1,h2.ahead (.one (stepR_cond hc)) (Below.refl _ _) (GrowK.refl _ _ _)⟩
  | false=>obtain ⟨z,h1,h2⟩:=hy rfl μ w b a k cs hr ha hb; exact ⟨z,h1,h2.ahead (.one (stepR_cond hc)) (Below.refl _ _) (GrowK.refl _ _ _)⟩
theorem Cw.block {id : Nat} {x : Code} {r : Tr AV} {m : List Pos} {h : Heap} {kOk kRet : KC} {kEx : Nat → KC} (hx : Cw P B0 cx x r m h (QK kOk kRet (fun i r m h=>Bool.casesOn (motive:=fun _=>Prop) (Nat.beq i id) (kEx i r m h) (kOk r m h)))) :
    Cw P B0 cx (.block id x) r m h (QK kOk kRet kEx):=by
  intro μ w b a k cs hr ha hb
  obtain ⟨z,h1,h2⟩:=hx μ w b a (.inBlock id::k) cs hr ha hb
  have hs : Steps P (lone (b.atR a (.code (.block id x)::k)) cs w) (lone (b.atR a (.code x::.inBlock id::k)) cs w):=.one stepR_block
  cases z with
  | fail=>exact h2.elim
  | ok r1 m1 h1' =>
    obtain ⟨μ1,a1,w1,hp,ha1,hs1⟩:=h2
    exact ⟨.ok r1 m1 h1',h1,μ1,a1,w1,hp,ha1,(hs.trans hs1).trans (.one stepR_inBlock)⟩
  | exit i r1 m1 h1' =>
    obtain ⟨μ1,a1,w1,hp,ha1,k',he,hs1⟩:=h2
    change Bool.casesOn (motive:=fun _=>Prop) (Nat.beq i id) (kEx i r1 m1 h1') (kOk r1 m1 h1') at h1
    cases hi : Nat.beq i id with
    | true =>
      rw [hi] at h1
      have hi:=Nat.eq_of_beq_eq_true hi
      subst hi
      have : exitTo i (.inBlock i::k) = some k:=by simp [exitTo]
      exact ⟨.ok r1 m1 h1',h1,μ1,a1,w1,hp,ha1,(hs.trans hs1).trans (.one (stepR_exit (he.trans this)))⟩
    | false =>
      rw [hi] at h1
      have hne : (id == i) = false:=by
        cases e : id == i with
        | false=>rfl
        | true=>rw [beq_iff_eq.1 e,Nat.beq_refl] at hi; cases hi
      have : exitTo i (.inBlock id::k) = exitTo i k:=by simp [exitTo,hne]
      exact ⟨.exit i r1 m1 h1',h1,μ1,a1,w1,hp,ha1,k',he.trans this,hs.trans hs1⟩
  | ret r1 m1 h1' =>
    obtain ⟨μ1,a1,w1,hp,ha1,k',hs1⟩:=h2
    exact ⟨.ret r1 m1 h1',h1,μ1,a1,w1,hp,ha1,k',hs.trans hs1⟩
theorem Cw.scope {x : Code} {r : Tr AV} {m : List Pos} {h : Heap} {kOk kRet : KC} {kEx : Nat → KC} (hx : Cw P B0 cx x r m h (QK kOk kRet kEx)) : Cw P B0 cx (.scope x) r m h (QK kOk kRet kEx):=by
  intro μ w b a k cs hr ha hb
  obtain ⟨z,h1,h2⟩:=hx μ w b a (.inScope x::k) cs hr ha hb
  have hs : Steps P (lone (b.atR a (.code (.scope x)::k)) cs w) (lone (b.atR a (.code x::.inScope x::k)) cs w):=.one stepR_scope
  cases z with
  | fail=>exact h2.elim
  | ok r1 m1 h1' =>
    obtain ⟨μ1,a1,w1,hp,ha1,hs1⟩:=h2
    exact ⟨_,h1,μ1,a1,w1,hp,ha1,(hs.trans hs1).trans (.one stepR_inScope)⟩
  | exit i r1 m1 h1' =>
    obtain ⟨μ1,a1,w1,hp,ha1,k',he,hs1⟩:=h2
    exact ⟨_,h1,μ1,a1,w1,hp,ha1,k',he,hs.trans hs1⟩
  | ret r1 m1 h1' =>
    obtain ⟨μ1,a1,w1,hp,ha1,k',hs1⟩:=h2
    exact ⟨_,h1,μ1,a1,w1,hp,ha1,k',hs.trans hs1⟩
def Sub (B0 nt : Nat) (r : Tr AV) (m : List Pos) (h : Heap) (r' : Tr AV) (m' : List Pos) (h' : Heap) : Prop :=
  ∀ (μ : Mu) (w : World) (a : Act),HR μ B0 h w → AR μ nt r m a → ∃ μ' : Mu,GrowK B0 μ h.n μ' h'.n∧HR μ' B0 h' w∧AR μ' nt r' m' a
theorem Cw.weaken {c : Code} {r r' : Tr AV} {m m' : List Pos} {h h' : Heap} {Q : R → Prop} (hs : Sub B0 cx.nt r m h r' m' h') (hc : Cw P B0 cx c r' m' h' Q) : Cw P B0 cx c r m h Q:=by
  intro μ w b a k cs hr ha hb
  obtain ⟨μ',h1,h2,h3⟩:=hs μ w a hr ha
  obtain ⟨x,g1,g2⟩:=hc μ' w b a k cs h2 h3 hb
  exact ⟨x,g1,g2.ahead (Steps.refl P _) (Below.refl _ _) h1⟩
theorem Cw.loop {ι : Type} (Sr : ι → Tr AV) (Sm : ι → List Pos) (Sh : ι → Heap) (ok : ι → Prop) (meas : ι → Nat) {body : Code} {Q : R → Prop}
    (hb : ∀ i,ok i → Cw P B0 cx body (Sr i) (Sm i) (Sh i) (QK (fun r m h=>∃ j,ok j∧meas j < meas i∧Sub B0 cx.nt r m h (Sr j) (Sm j) (Sh j)) (fun r m h=>Q (.ret r m h)) (fun i r m h=>Q (.exit i r m h))))
    {r : Tr AV} {m : List Pos} {h : Heap} (i0 : ι) (h0 : ok i0) (hs : Sub B0 cx.nt r m h (Sr i0) (Sm i0) (Sh i0)) : Cw P B0 cx (.loop body) r m h Q:=by
  refine Cw.weaken hs ?_
  have key : ∀ (n : Nat) (i : ι),ok i → meas i < n → ∀ (μ : Mu) (w : World) (b : Frame) (a : Act) (k : List Item) (cs : List Frame),HR μ B0 (Sh i) w → AR μ cx.nt (Sr i) (Sm i) a → FR0 cx b →
      ∃ x,Q x∧RW P B0 μ (Sh i).n w cx.nt b k cs (lone (b.atR a (.code body::.inLoop body::k)) cs w) x:=by
    intro n
    induction n with
    | zero=>intro i _ hi; omega
    | succ n ih =>
      intro i hi hlt μ w b a k cs hr ha hf
      obtain ⟨z,h1,h2⟩:=hb i hi μ w b a (.inLoop body::k) cs hr ha hf
      cases z with
      | fail=>exact h2.elim
      | ok r1 m1 h1' =>
        obtain ⟨μ1,a1,w1,hp,ha1,hs1⟩:=h2
        obtain ⟨j,hj,hm,hsub⟩:=h1
        obtain ⟨μ2,g1,g2,g3⟩:=hsub μ1 w1 a1 hp.rel ha1
        obtain ⟨x,e1,e2⟩:=ih j hj (by omega) μ2 w1 b a1 k cs g2 g3 hf
        exact ⟨x,e1,e2.ahead (hs1.trans (.one stepR_inLoop)) hp.below (hp.seals.trans g1)⟩
      | exit e r1 m1 h1' =>
        obtain ⟨μ1,a1,w1,hp,ha1,k',he,hs1⟩:=h2
        exact ⟨_,h1,μ1,a1,w1,hp,ha1,k',he,hs1⟩
      | ret r1 m1 h1' =>
        obtain ⟨μ1,a1,w1,hp,ha1,k',hs1⟩:=h2
        exact ⟨_,h1,μ1,a1,w1,hp,ha1,k',hs1⟩
  intro μ w b a k cs hr ha hf
  obtain ⟨x,g1,g2⟩:=key _ i0 h0 (Nat.lt_succ_self _) μ w b a k cs hr ha hf
  exact ⟨x,g1,g2.ahead (.one stepR_loop) (Below.refl _ _) (GrowK.refl _ _ _)⟩
theorem bSplit {b : Bool} {kt kf : Prop} (h1 : b = true → kt) (h2 : b = false → kf) : Bool.casesOn (motive:=fun _=>Prop) b kf kt:=by
  cases b with
  | true=>exact h1 rfl
  | false=>exact h2 rfl
noncomputable def wp (P : Program) (B0 : Nat) (cx : Cx) : Code → KC → KC → (Nat → KC) → KC
  | .skip,kOk,_,_,r,m,h=>kOk r m h
  | .region _ ops draw,kOk,_,_,r,m,h=>wReg ops draw cx kOk r m h
  | .seq a b,kOk,kRet,kEx,r,m,h=>wp P B0 cx a (wp P B0 cx b kOk kRet kEx) kRet kEx r m h
  | .cond c a b,kOk,kRet,kEx,r,m,h=>(match ev c r with
    | .bool t=>Bool.casesOn (motive:=fun _=>Prop) t (wp P B0 cx b kOk kRet kEx r m h) (wp P B0 cx a kOk kRet kEx r m h)
    | _=>False)
  | .block id x,kOk,kRet,kEx,r,m,h=>wp P B0 cx x kOk kRet (fun i r m h=>Bool.casesOn (motive:=fun _=>Prop) (Nat.beq i id) (kEx i r m h) (kOk r m h)) r m h
  | .loop x,kOk,kRet,kEx,r,m,h=>Cw P B0 cx (.loop x) r m h (QK kOk kRet kEx)
  | .rangeFunc f ps x y,kOk,kRet,kEx,r,m,h=>Cw P B0 cx (.rangeFunc f ps x y) r m h (QK kOk kRet kEx)
  | .exit i,_,_,kEx,r,m,h=>kEx i r m h
  | .scope x,kOk,kRet,kEx,r,m,h=>wp P B0 cx x kOk kRet kEx r m h
  | .label _,kOk,_,_,r,m,h=>kOk r m h
  | .ret,_,kRet,_,r,m,h=>kRet r m h
  | .goto _,_,_,_,_,_,_=>False
  | .refuse _,_,_,_,_,_,_=>False
theorem wp_sound (hm : P.follows .mixedOrders = true) (hP : cx.P = P) (hrd : cx.rd = none) (hcall : CallOK P B0 cx.call) : ∀ (c : Code) {kOk kRet : KC} {kEx : Nat → KC} {r : Tr AV} {m : List Pos} {h : Heap},wp P B0 cx c kOk kRet kEx r m h → Cw P B0 cx c r m h (QK kOk kRet kEx):=by
  intro c
  induction c with
  | skip=>intro kOk kRet kEx r m h hk; exact Cw.of_run hrd (code_sound hm hP hcall _) (x:=.ok r m h) rfl (by simp) hk
  | region id ops draw =>
    intro kOk kRet kEx r m h hk
    obtain ⟨r',h',e,hk⟩:=wReg_some hk
    exact Cw.of_run hrd (code_sound hm hP hcall _) (x:=.ok r' m h') e (by simp) hk
  | seq a b iha ihb =>
    intro kOk kRet kEx r m h hk
    refine Cw.seq ((iha hk).mono ?_)
    intro x hx
    cases x with
    | ok r m h=>exact ihb hx
    | _=>exact hx
  | cond c a b iha ihb =>
    intro kOk kRet kEx r m h hk
    unfold wp at hk
    split at hk
    · rename_i t ht
      exact Cw.cond ht (fun e=>iha (by rw [e] at hk; exact hk)) (fun e=>ihb (by rw [e] at hk; exact hk))
    · exact hk.elim
  | block id x ih=>intro kOk kRet kEx r m h hk; exact Cw.block (ih hk)
  | loop x _=>intro kOk kRet kEx r m h hk; exact hk
  | rangeFunc f ps x y _ _=>intro kOk kRet kEx r m h hk; exact hk
  | exit i=>intro kOk kRet kEx r m h hk; exact Cw.of_run hrd (code_sound hm hP hcall _) (x:=.exit i r m h) rfl (by simp) hk
  | scope x ih=>intro kOk kRet kEx r m h hk; exact Cw.scope (ih hk)
  | label l=>intro kOk kRet kEx r m h hk; exact Cw.of_run hrd (code_sound hm hP hcall _) (x:=.ok r m h) rfl (by simp) hk
  | ret=>intro kOk kRet kEx r m h hk; exact Cw.of_run hrd (code_sound hm hP hcall _) (x:=.ret r m h) rfl (by simp) hk
  | goto l=>intro kOk kRet kEx r m h hk; exact hk.elim
  | refuse s=>intro kOk kRet kEx r m h hk; exact hk.elim
end
end Go.Sy
namespace Go.Sy
open Go.RowKit
set_option linter.unusedVariables false
set_option linter.unusedSimpArgs false
set_option linter.unusedSectionVars false
variable [Tabs] {P : Program}
abbrev Seals:=Nat → Option (Array Value)
def muS (s : Seals) : Mu:=⟨fun _=>none,s⟩
def PF (P : Program) (f : FuncId) (as v : AV) : Prop :=
  ∀ (s : Seals) (w : World),Sealed s w → TabS s Tabs.l → ∀ cargs : Array Value,VRL (muS s) as cargs.toList →
    Calls P f cargs w fun e w'=>∃ (cv : Value) (s' : Seals),e = .returned cv∧Grow w.heap.size s s'∧Sealed s' w'∧VR1 (muS s') v cv∧Below w.heap.size w w'
/-! ### What is sealed at the end -/
def sealAll (s : Seals) (B0 : Nat) (w : World) : Seals:=fun b=>if b < B0 then s b else match w.heap[b]? with | some (.cells c _ _)=>some c | _=>none
theorem sealAll_get {μ : Mu} {B0 : Nat} {h : Heap} {w : World} (hr : HR μ B0 h w) {b : Nat} {c : Array Value} {el : TypeId} {fz : Nat × Nat} (hb : B0 ≤ b) (hg : w.heap[b]? = some (.cells c el fz)) : sealAll μ.s B0 w b = some c:=by
  unfold sealAll
  rw [if_neg (by omega),hg]
theorem sealAll_grow {μ : Mu} {B0 : Nat} {h : Heap} {w : World} (hr : HR μ B0 h w) : Grow B0 μ.s (sealAll μ.s B0 w):=by
  refine ⟨fun b c e=>?_,fun b c e=>?_⟩
  · unfold sealAll
    by_cases hb : b < B0
    · rw [if_pos hb]; exact e
    · obtain ⟨el,fz,h1⟩:=hr.sld b c e
      rw [if_neg hb,h1]
  · unfold sealAll at e
    by_cases hb : b < B0
    · rw [if_pos hb] at e; exact .inl e
    · exact .inr (by omega)
theorem sealAll_ok {μ : Mu} {B0 : Nat} {h : Heap} {w : World} (hr : HR μ B0 h w) : Sealed (sealAll μ.s B0 w) w:=by
  intro b c e
  unfold sealAll at e
  split at e
  · exact hr.sld b c e
  · split at e
    · rename_i c' el fz h1; cases e; exact ⟨el,fz,h1⟩
    · cases e
def SealV (h : Heap) (a v : AV) : Prop:=∀ (μ : Mu) (B0 : Nat) (w : World) (cv : Value),HR μ B0 h w → VR1 μ a cv → VR1 (muS (sealAll μ.s B0 w)) v cv
def SealL (h : Heap) (l l' : AV) : Prop:=∀ (μ : Mu) (B0 : Nat) (w : World) (xs : List Value),HR μ B0 h w → VRL μ l xs → VRL (muS (sealAll μ.s B0 w)) l' xs
def PureL (l : AV) : Prop:=∀ (μ μ' : Mu) (xs : List Value),(∀ b c,μ.s b = some c → μ'.s b = some c) → VRL μ l xs → VRL μ' l xs
def PureV (a : AV) : Prop:=∀ (μ μ' : Mu) (cv : Value),(∀ b c,μ.s b = some c → μ'.s b = some c) → VR1 μ a cv → VR1 μ' a cv
theorem PureL.nil : PureL .nil:=fun μ μ' xs _ h=>h
theorem PureL.cons {a t : AV} (ha : PureV a) (ht : PureL t) : PureL (.cons a t):=fun μ μ' xs hs h=>let ⟨v,r,e,h1,h2⟩:=h; ⟨v,r,e,ha μ μ' v hs h1,ht μ μ' r hs h2⟩
theorem PureV.agg {l : AV} (h : PureL l) : PureV (.agg l):=fun μ μ' cv hs hv=>let ⟨c,e,h1⟩:=hv; ⟨c,e,h μ μ' _ hs h1⟩
theorem PureV.tup {l : AV} (h : PureL l) : PureV (.tup l):=fun μ μ' cv hs hv=>let ⟨c,e,h1⟩:=hv; ⟨c,e,h μ μ' _ hs h1⟩
theorem PureV.ro {n : Nat} {l : AV} : PureV (.ro n l):=fun μ μ' cv hs hv=>by
  obtain ⟨xs,h1,h2⟩:=hv
  refine ⟨xs,h1.mono (μ:=μ.pure) (μ':=μ'.pure) ⟨(fun _ _ e=>by cases e),hs⟩,?_⟩
  rcases h2 with ⟨b,o,c,e,hn,h3⟩ | h2
  · exact .inl ⟨b,o,c,e,hn,h3.mono hs⟩
  · exact .inr h2
theorem PureV.rop {l : AV} {k : Nat} : PureV (.rop l k):=fun μ μ' cv hs hv=>by
  obtain ⟨b,o,xs,e,h1,h2⟩:=hv
  exact ⟨b,o,xs,e,h1.mono (μ:=μ.pure) (μ':=μ'.pure) ⟨(fun _ _ e=>by cases e),hs⟩,h2.mono hs⟩
theorem PureV.int {k : IntKind} {n : Int} : PureV (.int k n):=fun _ _ _ _ h=>h
theorem PureV.bool {b : Bool} : PureV (.bool b):=fun _ _ _ _ h=>h
theorem PureV.str {b : List Nat} : PureV (.str b):=fun _ _ _ _ h=>h
theorem PureV.nils : PureV .nils:=fun _ _ _ _ h=>h
theorem PureV.nilp : PureV .nilp:=fun _ _ _ _ h=>h
theorem PureV.fn {g : FuncId} : PureV (.func (.func g) .nil .nil):=fun _ _ _ _ h=>h
theorem SealL.pure {h : Heap} {l : AV} (hl : PureL l) : SealL h l l:=fun μ B0 w xs hr hv=>by
  have h1:=sealAll_grow hr
  exact hl μ (muS (sealAll μ.s B0 w)) xs h1.le hv
theorem SealV.pure {h : Heap} {a : AV} (ha : PureV a) : SealV h a a:=fun μ B0 w cv hr hv=>ha μ (muS (sealAll μ.s B0 w)) cv (sealAll_grow hr).le hv
theorem SealL.nil {h : Heap} : SealL h .nil .nil:=SealL.pure .nil
theorem SealL.cons {h : Heap} {a b t u : AV} (ha : SealV h a b) (ht : SealL h t u) : SealL h (.cons a t) (.cons b u):=fun μ B0 w xs hr hv =>
  let ⟨v,r,e,h1,h2⟩:=hv; ⟨v,r,e,ha μ B0 w v hr h1,ht μ B0 w r hr h2⟩
theorem SealV.agg {h : Heap} {l u : AV} (hl : SealL h l u) : SealV h (.agg l) (.agg u):=fun μ B0 w cv hr hv=>let ⟨c,e,h1⟩:=hv; ⟨c,e,hl μ B0 w _ hr h1⟩
theorem SealV.tup {h : Heap} {l u : AV} (hl : SealL h l u) : SealV h (.tup l) (.tup u):=fun μ B0 w cv hr hv=>let ⟨c,e,h1⟩:=hv; ⟨c,e,hl μ B0 w _ hr h1⟩
theorem SealV.nils {h : Heap} : SealV h .nils (.ro 0 .nil):=fun μ B0 w cv hr hv=>⟨[],rfl,.inr ⟨rfl,rfl,hv⟩⟩
theorem SealV.gs {h : Heap} {id : Pos} {n sz : Nat} {l l' : AV} {ro : Bool} (hg : h.t.get id = some (.gl l ro)) (hn : l.len = n * sz) (hl : SealL h l l') : SealV h (.gs id n sz) (.ro n l'):=by
  intro μ B0 w cv hr hv
  obtain ⟨B,hB,hx⟩:=hv
  have hob:=hr.obj id B _ hB hg
  rcases hob with ⟨h1,rfl⟩ | ⟨xs,h1,h2,c,el,fz,h3,h4,h5,h6,h7⟩
  · have h2:=hl μ B0 w [] hr rfl
    refine ⟨[],h2,?_⟩
    rcases hx with ⟨c,hx,hnc,_⟩ | ⟨e0,hx⟩
    · exact .inl ⟨_,_,c,hx,hnc,.inl rfl⟩
    · exact .inr ⟨e0,rfl,hx⟩
  · have hp:=hl μ B0 w xs hr h1
    refine ⟨xs,hp,?_⟩
    rcases hx with ⟨c',hx,hnc,_⟩ | ⟨e0,hx⟩
    · refine .inl ⟨_,_,c',hx,hnc,?_⟩
      by_cases hin : (AO.gl l ro).inert B
      · obtain ⟨e1,_,e2⟩:=hin
        refine .inl ?_
        cases xs with
        | nil=>rfl
        | cons _ _=>simp at h2; omega
      · refine .inr ⟨c,?_,h7⟩
        show sealAll μ.s B0 w B.b = some c
        cases ro with
        | true=>exact (sealAll_grow hr).le _ _ (h6 rfl)
        | false=>exact sealAll_get hr ((hr.own id B _ hB hg rfl).resolve_left hin) h3
    · refine .inr ⟨e0,?_,hx⟩
      have:=h1.len
      rw [hn,e0,Nat.zero_mul] at this
      cases xs with
      | nil=>rfl
      | cons _ _=>simp at this
theorem SealV.slice {h : Heap} {id : Pos} {off n cap sz : Nat} {l l0 l' : AV} (hg : h.t.get id = some (.gl l0 false)) (hc : takeL (n * sz) (dropL off l0) = some l) (hl : SealL h l l') : SealV h (.slice id off n cap sz) (.ro n l'):=by
  intro μ B0 w cv hr hv
  obtain ⟨B,c',hB,hx,hc1,hc2,hfit⟩:=hv
  have hob:=hr.obj id B _ hB hg
  rcases hob with ⟨h1,rfl⟩ | ⟨xs,h1,h2,c,el,fz,h3,h4,h5,h6,h7⟩
  · obtain ⟨g1,g2⟩:=VRL.take_drop (μ:=μ) (n * sz) off (vs:=[]) (show VRL μ .nil [] from rfl) hc
    have : VRL μ l []:=by simpa using g1
    exact ⟨[],hl μ B0 w [] hr this,.inl ⟨_,_,c',hx,by omega,.inl rfl⟩⟩
  · obtain ⟨g1,g2⟩:=VRL.take_drop (n * sz) off h1 hc
    refine ⟨_,hl μ B0 w _ hr g1,.inl ⟨_,_,c',hx,by omega,?_⟩⟩
    by_cases hin : (AO.gl l0 false).inert B
    · obtain ⟨e1,_,e2⟩:=hin
      refine .inl ?_
      have : xs = []:=by
        cases xs with
        | nil=>rfl
        | cons _ _=>simp at h2; omega
      rw [this]; simp
    · refine .inr ⟨c,sealAll_get hr ((hr.own id B _ hB hg rfl).resolve_left hin) h3,fun j v hj=>?_⟩
      rw [List.getElem?_take] at hj
      split at hj
      · rw [List.getElem?_drop] at hj
        have:=h7 _ v hj
        rwa [show B.base + (off + j) = B.base + off + j by omega] at this
      · cases hj
theorem SealV.ptr {h : Heap} {id : Pos} {n off : Nat} {t : Tr AV} {l l' : AV} (hg : h.t.get id = some (.cells t n false)) (hc : coll t n 0 = some l) (hl : SealL h l l') : SealV h (.ptr id off) (.rop l' off):=by
  intro μ B0 w cv hr hv
  obtain ⟨B,hB,hx⟩:=hv
  obtain ⟨h0,c,el,fz,h1,h2,h3,h4⟩:=hr.obj id B _ hB hg
  obtain ⟨vs,h5,h6,h7⟩:=coll_spec (f:=fun k=>c[B.base + k]?) (fun k v e=>(h4 k v e).2) _ hc
  refine ⟨B.b,B.base,vs,hx,hl μ B0 w vs hr h5,.inr ⟨c,sealAll_get hr ((hr.own id B _ hB hg rfl).resolve_left not_inert_cells) h1,fun j v hj=>by simpa using h7 j v hj⟩⟩
/-! ### A contract,by what has to be told of the code -/
def fM (o : Option Heap) (k : Heap → Prop) : Prop:=Option.casesOn (motive:=fun _=>Prop) o False k
def fLo (o : Option AV) (k : AV → Prop) : Prop:=Option.casesOn (motive:=fun _=>Prop) o False k
def Fin (P : Program) (fn : Func) (v : AV) : KC:=fun r m h=>fM (takeMarks m h) fun h2=>fLo (resL P fn.results.toList r h2) fun l=>fV (resV l) fun u=>SealV h2 u v
theorem Fin_iff {P : Program} {fn : Func} {v : AV} {r : Tr AV} {m : List Pos} {h : Heap} (hf : Fin P fn v r m h) : ∃ h2 l,takeMarks m h = some h2∧resL P fn.results.toList r h2 = some l∧SealV h2 (resV l) v:=by
  unfold Fin at hf
  cases h1 : takeMarks m h with
  | none=>rw [h1] at hf; exact hf.elim
  | some h2 =>
    rw [h1] at hf
    change fLo (resL P fn.results.toList r h2) (fun l=>fV (resV l) fun u=>SealV h2 u v) at hf
    cases h3 : resL P fn.results.toList r h2 with
    | none=>rw [h3] at hf; exact hf.elim
    | some l =>
      rw [h3] at hf
      change fV (resV l) (fun u=>SealV h2 u v) at hf
      rw [fV_eq] at hf
      exact ⟨h2,l,rfl,h3,hf⟩
theorem PF.of_cw (hlen : Tabs.l.length ≤ 64) {f : FuncId} {fn : Func} {c : Code} (hf : P.funcs[f]? = some fn) (hb : fn.body = some c) {as v : AV} {r : Tr AV} (har : argsR as 0 fn.ntmps .leaf = some r) (hpure : PureL as) {call : Tgt → AV → Heap → CR} {h0 : Heap}
    (h0ok : ∀ q p,h0.t.get q = some p → (startWith Tabs.l 64).t.get q = some p) (h0n : h0.n = pathOf 64)
    (hw : ∀ B0,Cw P B0 ⟨P,f,fn.ntmps,none,call,0⟩ c r [] h0 (QK (Fin P fn v) (Fin P fn v) (fun _ _ _ _=>False))) : PF P f as v:=by
  intro s w hs ht cargs hargs
  have hr0 : HR (mu0 w s) w.heap.size h0 w:=by
    have:=(start_HR hlen hs ht).less h0.t h0ok
    obtain ⟨t,n⟩:=h0
    cases h0n
    exact this
  have hargs' : VRL (mu0 w s) as cargs.toList:=hpure (muS s) (mu0 w s) _ (fun _ _ e=>e) hargs
  obtain ⟨hlen',hget⟩:=argsR_spec har hargs'
  have hsz : cargs.size ≤ fn.ntmps:=by
    rcases hlen' with e | e
    · have : cargs.size = 0:=by rw [← Array.length_toList,e]; rfl
      omega
    · rw [Array.length_toList] at e; omega
  have hRR : RR (mu0 w s) r (cargs++Array.replicate (fn.ntmps - cargs.size) undef):=by
    intro k u hk
    rcases hget k u hk with ⟨_,cv,h1,h2⟩ | h1
    · refine ⟨cv,?_,h2⟩
      have h1 : cargs[k]? = some cv:=by simpa using h1
      obtain ⟨hlt,_⟩:=Array.getElem?_eq_some_iff.1 h1
      rw [Array.getElem?_append_left hlt]; exact h1
    · cases h1
  have hAR : AR (mu0 w s) fn.ntmps r [] ⟨cargs++Array.replicate (fn.ntmps - cargs.size) undef,[]⟩:=⟨hRR,by simp; omega,trivial⟩
  have fin : ∀ (r1 : Tr AV) (m1 : List Pos) (h1 : Heap) (μ1 : Mu) (a1 : Act) (w1 : World) (k1 : List Item) (cs : List Frame),Fin P fn v r1 m1 h1 → Aft (mu0 w s) h0.n w.heap.size w μ1 h1 w1 → AR μ1 fn.ntmps r1 m1 a1 →
      Steps P (lone (Frame.enter P f cargs .normal) cs w) (lone { (Frame.enter P f cargs .normal).atR a1 k1 with mode:=.returning } cs w1) →
      ∃ e w' fr,(∃ (cv : Value) (s' : Seals),e = Ending.returned cv∧Grow w.heap.size s s'∧Sealed s' w'∧VR1 (muS s') v cv∧Below w.heap.size w w')∧Comes P (lone (Frame.enter P f cargs .normal) cs w) (lone fr cs w') e∧fr.fn = f∧fr.leaving P w' e:=by
    intro r1 m1 h1 μ1 a1 w1 k1 cs hfin hp ha hs1
    obtain ⟨h2,l,htm,hres,hseal⟩:=Fin_iff hfin
    obtain ⟨w2,hp2,hs2⟩:=marks_sound (P:=P) m1 { (Frame.enter P f cargs .normal).atR a1 k1 with mode:=.returning } cs hp.rel ha.dr htm rfl
    obtain ⟨cv,hrun,hv⟩:=results_sound (fn:=fn) hp2.rel ha.rr hres
    exact ⟨.returned cv,w2,_,⟨cv,sealAll μ1.s w.heap.size w2,rfl,hp.seals.g.trans (sealAll_grow hp2.rel),sealAll_ok hp2.rel,hseal μ1 w.heap.size w2 cv hp2.rel hv,hp.below.trans hp2.below⟩,hs1.trans hs2,rfl,rfl,rfl,rfl,fn,hf,hrun⟩
  intro cs
  have heq:=enter_eq (P:=P) (cargs:=cargs) hf hb
  have hFR : FR0 ⟨P,f,fn.ntmps,none,call,0⟩ (Frame.enter P f cargs .normal):=⟨rfl,rfl,rfl⟩
  obtain ⟨x,hq,hx⟩:=hw w.heap.size (mu0 w s) w (Frame.enter P f cargs .normal) _ [] cs hr0 hAR hFR
  cases x with
  | fail=>exact hx.elim
  | exit i r1 m1 h1=>exact hq.elim
  | ok r1 m1 h1 =>
    obtain ⟨μ1,a1,w1,hp,ha,hs1⟩:=hx
    have hs1:=sub_start heq hs1
    exact fin r1 m1 h1 μ1 a1 w1 [] cs hq hp ha (hs1.trans (.one (stepR_end rfl)))
  | ret r1 m1 h1 =>
    obtain ⟨μ1,a1,w1,hp,ha,k',hs1⟩:=hx
    have hs1:=sub_start heq hs1
    exact fin r1 m1 h1 μ1 a1 w1 _ cs hq hp ha (hs1.trans (.one (stepR_ret rfl)))
theorem PF.of_wp (hm : P.follows .mixedOrders = true) (hlen : Tabs.l.length ≤ 64) {f : FuncId} {fn : Func} {c : Code} (hf : P.funcs[f]? = some fn) (hb : fn.body = some c) {as v : AV} {r : Tr AV} (har : argsR as 0 fn.ntmps .leaf = some r) (hpure : PureL as) {call : Tgt → AV → Heap → CR}
    (hcall : ∀ B0,CallOK P B0 call) (hw : ∀ B0,wp P B0 ⟨P,f,fn.ntmps,none,call,0⟩ c (Fin P fn v) (Fin P fn v) (fun _ _ _ _=>False) r [] ⟨.leaf,pathOf 64⟩) : PF P f as v :=
  .of_cw hlen hf hb har hpure (h0:=⟨.leaf,pathOf 64⟩) (fun _ _ e=>by cases e) rfl (fun B0=>wp_sound hm rfl rfl (hcall B0) c (hw B0))
end Go.Sy
namespace Go.Sy
open Go.RowKit
set_option linter.unusedVariables false
set_option linter.unusedSimpArgs false
set_option linter.unusedSectionVars false
variable [Tabs] {P : Program}
noncomputable section
def borV (flat : Bool) (h : Heap) : AV → AV
  | .gs id n sz=>(match h.t.get id with | some (.gl l _)=>.ro n l | _=>.gs id n sz)
  | .slice id off n cap sz=>(match h.t.get id with | some (.gl l _)=>(match takeL (Nat.mul n sz) (dropL off l) with | some l'=>.ro n l' | none=>.slice id off n cap sz) | _=>.slice id off n cap sz)
  | .ptr id off=>Bool.casesOn (motive:=fun _=>AV) flat (.ptr id off) (match h.t.get id with | some (.cells t n _)=>(match coll t n 0 with | some l=>.rop l off | none=>.ptr id off) | _=>.ptr id off)
  | .nils=>.ro 0 .nil
  | .agg l=>.agg (borV flat h l)
  | .tup l=>.tup (borV flat h l)
  | .cons a t=>.cons (borV flat h a) (borV flat h t)
  | v=>v
def BorOK (h : Heap) : AV → Prop
  | .gs id n sz=>(match h.t.get id with | some (.gl l _)=>n * sz = l.len | _=>True)
  | .agg l=>BorOK h l
  | .tup l=>BorOK h l
  | .cons a t=>BorOK h a∧BorOK h t
  | _=>True
def lent : AV → List Pos
  | .gs id _ _=>[id]
  | .slice id _ _ _ _=>[id]
  | .agg l=>lent l
  | .tup l=>lent l
  | .cons a t=>lent a++lent t
  | _=>[]
def frz (h : Heap) : List Pos → Heap
  | []=>h
  | id::l=>(match h.t.get id with | some (.gl g _)=>frz ⟨h.t.set (.gl g true) id,h.n⟩ l | _=>frz h l)
end
def DP : AV → Prop
  | .undef=>True
  | .bool _=>True
  | .int _ _=>True
  | .rng _ _ _=>True
  | .str _=>True
  | .ustr _=>True
  | .ro _ l=>PureL l
  | .rop l _=>PureL l
  | .nilp=>True
  | .nils=>True
  | .nilm=>True
  | .nilf=>True
  | .nili=>True
  | .func _ f c=>DP f∧DP c
  | .agg l=>DP l
  | .tup l=>DP l
  | .nil=>True
  | .cons a t=>DP a∧DP t
  | _=>False
theorem DP.pure {μ μ' : Mu} (hs : ∀ b c,μ.s b = some c → μ'.s b = some c) {a : AV} : ∀ {b : Bool} {vs : List Value},DP a → VR μ a b vs → VR μ' a b vs:=by
  have hp : μ.pure.le μ'.pure:=⟨(fun _ _ e=>by cases e),hs⟩
  induction a with
  | cons x t ihx iht =>
    intro b vs hd h
    cases b with
    | false=>exact h
    | true=>obtain ⟨v,r,e,h1,h2⟩:=h; exact ⟨v,r,e,ihx hd.1 h1,iht hd.2 h2⟩
  | func fn f c ihf ihc =>
    intro b vs hd h
    cases b with
    | true=>exact h
    | false=>obtain ⟨F,C,e,h0,h1,h2⟩:=h; exact ⟨F,C,e,h0,ihf hd.1 h1,ihc hd.2 h2⟩
  | agg l ih =>
    intro b vs hd h
    cases b with
    | true=>exact h
    | false=>obtain ⟨c,e,h1⟩:=h; exact ⟨c,e,ih hd h1⟩
  | tup l ih =>
    intro b vs hd h
    cases b with
    | true=>exact h
    | false=>obtain ⟨c,e,h1⟩:=h; exact ⟨c,e,ih hd h1⟩
  | ro n l ih =>
    intro b vs hd h
    cases b with
    | true=>exact h
    | false =>
      obtain ⟨xs,h1,h2⟩:=h
      refine ⟨xs,h1.mono hp,?_⟩
      rcases h2 with ⟨b,o,c,e,hn,h3⟩ | h2
      · exact .inl ⟨b,o,c,e,hn,h3.mono hs⟩
      · exact .inr h2
  | rop l k ih =>
    intro b vs hd h
    cases b with
    | true=>exact h
    | false=>obtain ⟨bb,o,xs,e,h1,h2⟩:=h; exact ⟨bb,o,xs,e,h1.mono hp,h2.mono hs⟩
  | ptr _ _=>intro b vs hd h; exact hd.elim
  | slice _ _ _ _ _=>intro b vs hd h; exact hd.elim
  | gs _ _ _=>intro b vs hd h; exact hd.elim
  | sle _ _=>intro b vs hd h; exact hd.elim
  | map _=>intro b vs hd h; exact hd.elim
  | yield _=>intro b vs hd h; exact hd.elim
  | iface _ _ _=>intro b vs hd h; exact hd.elim
  | _=>intro b vs hd h; cases b <;> exact h
def snap (w : World) (b : Nat) : Option (Array Value):=match w.heap[b]? with | some (.cells c _ _)=>some c | _=>none
theorem snap_of {w : World} {b : Nat} {c : Array Value} {el : TypeId} {fz : Nat × Nat} (h : w.heap[b]? = some (.cells c el fz)) : snap w b = some c:=by unfold snap; rw [h]
theorem bor_sound {flat : Bool} {μ : Mu} {B0 : Nat} {h : Heap} {w : World} (hr : HR μ B0 h w) {s : Seals} (hs : ∀ b c,μ.s b = some c → s b = some c) {a : AV} :
    ∀ {b : Bool} {vs : List Value},(∀ id ∈ lent a,∀ B l ro,μ id = some B → h.t.get id = some (.gl l ro) → ¬ (AO.gl l ro).inert B → s B.b = snap w B.b) → (flat = true → ∀ b,s b = snap w b) → BorOK h a → DP (borV flat h a) → VR μ a b vs → VR (muS s) (borV flat h a) b vs:=by
  have hp : μ.pure.le (muS s).pure:=⟨(fun _ _ e=>by cases e),hs⟩
  have same : ∀ {a : AV} {b : Bool} {vs : List Value},DP a → VR μ a b vs → VR (muS s) a b vs:=fun hd hv=>DP.pure (μ':=muS s) hs hd hv
  induction a with
  | cons x t ihx iht =>
    intro b vs hl hf hb hd hv
    cases b with
    | false=>exact hv
    | true =>
      obtain ⟨v,r,e,h1,h2⟩:=hv
      exact ⟨v,r,e,ihx (fun id hi=>hl id (List.mem_append.2 (.inl hi))) hf hb.1 hd.1 h1,iht (fun id hi=>hl id (List.mem_append.2 (.inr hi))) hf hb.2 hd.2 h2⟩
  | agg l ih =>
    intro b vs hl hf hb hd hv
    cases b with
    | true=>exact hv
    | false=>obtain ⟨c,e,h1⟩:=hv; exact ⟨c,e,ih hl hf hb hd h1⟩
  | tup l ih =>
    intro b vs hl hf hb hd hv
    cases b with
    | true=>exact hv
    | false=>obtain ⟨c,e,h1⟩:=hv; exact ⟨c,e,ih hl hf hb hd h1⟩
  | nils =>
    intro b vs hl hf hb hd hv
    cases b with
    | true=>exact hv
    | false=>exact ⟨[],rfl,.inr ⟨rfl,rfl,hv⟩⟩
  | gs id n sz =>
    intro b vs hl hf hb hd hv
    cases b with
    | true =>
      exfalso
      exact hv
    | false =>
      obtain ⟨B,hB,hx⟩:=hv
      unfold borV at hd ⊢
      split
      · rename_i l ro hg
        simp only [hg] at hd
        have hn : n * sz = l.len:=by unfold BorOK at hb; simpa only [hg] using hb
        · have hpl : PureL l:=hd
          rcases hr.obj id B _ hB hg with ⟨h1,rfl⟩ | ⟨xs,h1,h2,c,el,fz,h3,h4,h5,h6,h7⟩
          · refine ⟨[],rfl,?_⟩
            rcases hx with ⟨c,hx,hnc,_⟩ | ⟨e0,hx⟩
            · exact .inl ⟨_,_,c,hx,hnc,.inl rfl⟩
            · exact .inr ⟨e0,rfl,hx⟩
          · refine ⟨xs,hpl μ (muS s).pure xs hs h1,?_⟩
            rcases hx with ⟨c',hx,hnc,_⟩ | ⟨e0,hx⟩
            · refine .inl ⟨_,_,c',hx,hnc,?_⟩
              by_cases hin : (AO.gl l ro).inert B
              · obtain ⟨e1,_,e2⟩:=hin
                refine .inl ?_
                cases xs with
                | nil=>rfl
                | cons _ _=>simp at h2; omega
              · exact .inr ⟨c,by rw [show (muS s).s B.b = s B.b from rfl,hl id (by simp [lent]) B l ro hB hg hin]; exact snap_of h3,h7⟩
            · refine .inr ⟨e0,?_,hx⟩
              have:=h1.len
              rw [← hn,e0,Nat.zero_mul] at this
              cases xs with
              | nil=>rfl
              | cons _ _=>simp at this
      · rename_i hne
        exfalso
        split at hd
        · rename_i l ro hg; exact hne l ro hg
        · exact hd
  | slice id off n cap sz =>
    intro b vs hl hf hb hd hv
    cases b with
    | true=>exfalso; exact hv
    | false =>
      obtain ⟨B,c',hB,hx,hc1,hc2,hfit⟩:=hv
      unfold borV at hd ⊢
      split
      · rename_i l0 ro hg
        simp only [hg] at hd
        split
        · rename_i l' ht
          simp only [ht] at hd
          have hpl : PureL l':=hd
          rcases hr.obj id B _ hB hg with ⟨h1,rfl⟩ | ⟨xs,h1,h2,c,el,fz,h3,h4,h5,h6,h7⟩
          · obtain ⟨g1,g2⟩:=VRL.take_drop (μ:=μ) _ off (vs:=[]) (show VRL μ .nil [] from rfl) ht
            have g1 : VRL μ l' []:=by simpa using g1
            exact ⟨[],hpl μ (muS s).pure [] hs g1,.inl ⟨_,_,c',hx,by omega,.inl rfl⟩⟩
          · obtain ⟨g1,g2⟩:=VRL.take_drop _ off h1 ht
            refine ⟨_,hpl μ (muS s).pure _ hs g1,.inl ⟨_,_,c',hx,by omega,?_⟩⟩
            by_cases hin : (AO.gl l0 ro).inert B
            · obtain ⟨e1,_,e2⟩:=hin
              refine .inl ?_
              have : xs = []:=by
                cases xs with
                | nil=>rfl
                | cons _ _=>simp at h2; omega
              rw [this]; simp
            · refine .inr ⟨c,by rw [show (muS s).s B.b = s B.b from rfl,hl id (by simp [lent]) B l0 ro hB hg hin]; exact snap_of h3,fun j v hj=>?_⟩
              rw [List.getElem?_take] at hj
              split at hj
              · rw [List.getElem?_drop] at hj
                have:=h7 _ v hj
                rwa [show B.base + (off + j) = B.base + off + j by omega] at this
              · cases hj
        · rename_i ht
          simp only [ht] at hd
          exact hd.elim
      · rename_i hne
        exfalso
        split at hd
        · rename_i l ro hg; exact hne l ro hg
        · exact hd
  | ptr id off =>
    intro b vs hl hf hb hd hv
    cases b with
    | true=>exfalso; exact hv
    | false =>
      obtain ⟨B,hB,hx⟩:=hv
      cases flat with
      | false=>exact hd.elim
      | true =>
        unfold borV at hd ⊢
        simp only at hd ⊢
        split
        · rename_i t n ro hg
          simp only [hg] at hd
          split
          · rename_i l hc
            simp only [hc] at hd
            have hpl : PureL l:=hd
            obtain ⟨h0,c,el,fz,h1,h2,h3,h4⟩:=hr.obj id B _ hB hg
            obtain ⟨xs,h5,h6,h7⟩:=coll_spec (f:=fun k=>c[B.base + k]?) (fun k v e=>(h4 k v e).2) _ hc
            exact ⟨B.b,B.base,xs,hx,hpl μ (muS s).pure xs hs h5,.inr ⟨c,by rw [show (muS s).s B.b = s B.b from rfl,hf rfl]; exact snap_of h1,fun j v hj=>by simpa using h7 j v hj⟩⟩
          · rename_i hc
            simp only [hc] at hd
            exact hd.elim
        · rename_i hne
          exfalso
          split at hd
          · rename_i t n ro hg; exact hne t n ro hg
          · exact hd
  | _=>intro b vs hl hf hb hd hv; exact same hd hv
end Go.Sy
namespace Go.Sy
open Go.RowKit
set_option linter.unusedVariables false
set_option linter.unusedSimpArgs false
set_option linter.unusedSectionVars false
variable [Tabs] {P : Program}
def FlatV (v : AV) : Prop:=∀ (μ μ' : Mu) (cv : Value),VR1 μ v cv → VR1 μ' v cv
structure Cn (P : Program) : Type 1 where
  f : FuncId
  flat : Bool
  α : Type
  as : α → AV
  v : α → AV
  ok : α → Prop
  inj : ∀ a b,ok a → ok b → as a = as b → v a = v b
  dp : ∀ a,DP (as a)
  pv : ∀ a,PureV (v a)
  fl : flat = true → ∀ a,FlatV (v a)
  pf : ∀ a,ok a → PF P f (as a) (v a)
  bd : ∃ fn,P.funcs[f]? = some fn∧fn.body.isSome = true
def Cn.meets (c : Cn P) (f : FuncId) (as : AV) (h : Heap) (v : AV) (h' : Heap) : Prop :=
  c.f = f∧BorOK h as∧(∃ a,c.ok a∧c.as a = borV c.flat h as∧c.v a = v)∧h' = (if c.flat then h else frz h (lent as))
theorem Cn.meets_fun {c : Cn P} {f : FuncId} {as : AV} {h : Heap} {v v' : AV} {h1 h2 : Heap} (m1 : c.meets f as h v h1) (m2 : c.meets f as h v' h2) : v = v'∧h1 = h2:=by
  obtain ⟨_,_,⟨a,a1,a2,a3⟩,a4⟩:=m1
  obtain ⟨_,_,⟨b,b1,b2,b3⟩,b4⟩:=m2
  exact ⟨by rw [← a3,← b3]; exact c.inj a b a1 b1 (a2.trans b2.symm),a4.trans b4.symm⟩
open Classical in
noncomputable def callT (l : List (Cn P)) : Tgt → AV → Heap → CR:=fun t as h =>
  match t with
  | .rd _=>.fail
  | .fn f=>match l with
    | []=>.fail
    | c::l=>if hx : ∃ p : AV × Heap,c.meets f as h p.1 p.2 then .ret hx.choose.1 hx.choose.2 else callT l (.fn f) as h
theorem callT_inv {l : List (Cn P)} {f : FuncId} {as : AV} {h : Heap} {v : AV} {h' : Heap} (e : callT l (.fn f) as h = .ret v h') : ∃ c ∈ l,c.meets f as h v h':=by
  induction l with
  | nil=>unfold callT at e; cases e
  | cons c l ih =>
    unfold callT at e
    simp only at e
    split at e
    · rename_i hx
      have:=hx.choose_spec
      cases e
      exact ⟨c,by simp,this⟩
    · obtain ⟨d,h1,h2⟩:=ih e
      exact ⟨d,by simp [h1],h2⟩
theorem callT_mem {l : List (Cn P)} (hl : l.Pairwise (fun c d=>c.f ≠ d.f)) {c : Cn P} (hc : c ∈ l) {f : FuncId} {as : AV} {h : Heap} {v : AV} {h' : Heap} (hm : c.meets f as h v h') : callT l (.fn f) as h = .ret v h':=by
  induction l with
  | nil=>cases hc
  | cons d l ih =>
    unfold callT
    simp only
    rcases List.mem_cons.1 hc with e | e
    · subst e
      have hx : ∃ p : AV × Heap,c.meets f as h p.1 p.2:=⟨(v,h'),hm⟩
      rw [dif_pos hx]
      obtain ⟨e1,e2⟩:=Cn.meets_fun hx.choose_spec hm
      rw [e1,e2]
    · rw [dif_neg]
      · exact ih (List.pairwise_cons.1 hl).2 e
      · rintro ⟨p,hp⟩
        have:=(List.pairwise_cons.1 hl).1 c e
        exact this (hp.1.trans hm.1.symm)
/-! ### What is lent for good -/
def lentS (μ : Mu) (h : Heap) (w : World) (L : List Pos) (b : Nat) : Prop:=∃ id ∈ L,∃ B l ro,μ id = some B∧h.t.get id = some (.gl l ro)∧¬ (AO.gl l ro).inert B∧B.b = b
open Classical in
noncomputable def sealS (μ : Mu) (h : Heap) (w : World) (L : List Pos) : Seals:=fun b=>if lentS μ h w L b then snap w b else μ.s b
theorem gl_block {μ : Mu} {B0 : Nat} {h : Heap} {w : World} (hr : HR μ B0 h w) {id : Pos} {B : Blk} {l : AV} {ro : Bool} (hB : μ id = some B) (hg : h.t.get id = some (.gl l ro)) (hin : ¬ (AO.gl l ro).inert B) :
    ∃ c el fz,w.heap[B.b]? = some (.cells c el fz)∧snap w B.b = some c∧(ro = true → μ.s B.b = some c):=by
  rcases hr.obj id B _ hB hg with ⟨h1,rfl⟩ | ⟨xs,h1,h2,c,el,fz,h3,h4,h5,h6,h7⟩
  · exact absurd ⟨h1,_,rfl⟩ hin
  · exact ⟨c,el,fz,h3,snap_of h3,h6⟩
theorem sealS_grow {μ : Mu} {B0 : Nat} {h : Heap} {w : World} (hr : HR μ B0 h w) (L : List Pos) : Grow B0 μ.s (sealS μ h w L):=by
  constructor
  · intro b c e
    unfold sealS
    split
    · rename_i hx
      obtain ⟨el,fz,h1⟩:=hr.sld b c e
      exact snap_of h1
    · exact e
  · intro b c e
    unfold sealS at e
    split at e
    · rename_i hx
      obtain ⟨id,hid,B,l,ro,h1,h2,h3,rfl⟩:=hx
      obtain ⟨c',el,fz,g1,g2,g3⟩:=gl_block hr h1 h2 h3
      cases ro with
      | true=>rw [g2] at e; cases e; exact .inl (g3 rfl)
      | false=>exact .inr ((hr.own id B _ h1 h2 rfl).resolve_left h3)
    · exact .inl e
theorem sealS_ok {μ : Mu} {B0 : Nat} {h : Heap} {w : World} (hr : HR μ B0 h w) (L : List Pos) : Sealed (sealS μ h w L) w:=by
  intro b c e
  unfold sealS at e
  split at e
  · unfold snap at e
    split at e
    · rename_i c' el fz h1; cases e; exact ⟨el,fz,h1⟩
    · cases e
  · exact hr.sld b c e
theorem frz_n (L : List Pos) : ∀ (h : Heap),(frz h L).n = h.n:=by
  induction L with
  | nil=>intro h; rfl
  | cons id L ih =>
    intro h
    unfold frz
    split
    · rw [ih]
    · rw [ih]
theorem frz_get (L : List Pos) : ∀ (h : Heap) (q : Pos) (o : AO),(frz h L).t.get q = some o → (h.t.get q = some o∧∀ l ro,q ∈ L → o = .gl l ro → ro = true) ∨ (q ∈ L∧∃ l ro,o = .gl l true∧h.t.get q = some (.gl l ro)):=by
  induction L with
  | nil=>intro h q o e; exact .inl ⟨e,fun _ _ hq=>by cases hq⟩
  | cons id L ih =>
    intro h q o e
    unfold frz at e
    split at e
    · rename_i g ro hg
      rcases ih _ q o e with ⟨h1,h2⟩ | ⟨h1,l,ro',h2,h3⟩
      · have h1 : (Tr.set (AO.gl g true) h.t id).get q = some o:=h1
        rw [Tr.get_set] at h1
        by_cases hq : q = id
        · rw [if_pos hq] at h1
          cases h1
          exact .inr ⟨by simp [hq],g,ro,rfl,by rw [hq]; exact hg⟩
        · rw [if_neg hq] at h1
          refine .inl ⟨h1,fun l ro hm e=>?_⟩
          rcases List.mem_cons.1 hm with e2 | e2
          · exact absurd e2 hq
          · exact h2 l ro e2 e
      · have h3 : (Tr.set (AO.gl g true) h.t id).get q = some (.gl l ro'):=h3
        rw [Tr.get_set] at h3
        by_cases hq : q = id
        · rw [if_pos hq] at h3
          cases h3
          exact .inr ⟨by simp [hq],g,ro,h2,by rw [hq]; exact hg⟩
        · rw [if_neg hq] at h3
          exact .inr ⟨by simp [h1],l,ro',h2,h3⟩
    · rename_i hne
      rcases ih h q o e with ⟨h1,h2⟩ | ⟨h1,l,ro',h2,h3⟩
      · refine .inl ⟨h1,fun l ro hm e2=>?_⟩
        rcases List.mem_cons.1 hm with e3 | e3
        · subst e3; subst e2; exact absurd h1 (hne l ro)
        · exact h2 l ro e3 e2
      · exact .inr ⟨by simp [h1],l,ro',h2,h3⟩
theorem HR.lend {μ : Mu} {B0 : Nat} {h : Heap} {w : World} (hr : HR μ B0 h w) (L : List Pos) {s' : Seals} {w' : World} (hg : Grow w.heap.size (sealS μ h w L) s') (hs : Sealed s' w') (hb : Below w.heap.size w w') : HR ⟨μ.m,s'⟩ B0 (frz h L) w':=by
  have hle : μ.le ⟨μ.m,s'⟩:=⟨fun _ _ e=>e,fun b c e=>hg.le b c ((sealS_grow hr L).le b c e)⟩
  have key : ∀ q o,(frz h L).t.get q = some o → ∃ o',h.t.get q = some o'∧(o = o' ∨ ∃ l ro,o = .gl l true∧o' = .gl l ro):=by
    intro q o e
    rcases frz_get L h q o e with ⟨h1,_⟩ | ⟨_,l,ro,h2,h3⟩
    · exact ⟨o,h1,.inl rfl⟩
    · exact ⟨_,h3,.inr ⟨l,ro,h2,rfl⟩⟩
  have hin : ∀ {o o' : AO} {B : Blk},(o = o' ∨ ∃ l ro,o = .gl l true∧o' = .gl l ro) → o'.inert B → o.inert B:=by
    rintro o o' B (rfl | ⟨l,ro,rfl,rfl⟩) hi
    · exact hi
    · obtain ⟨h1,r,h2⟩:=hi; cases h2; exact ⟨h1,_,rfl⟩
  refine ⟨?_,?_,?_,?_,?_,hr.glob.mono hle,Nat.le_trans hr.size hb.size,hs,?_,hr.tab.mono hle.s⟩
  · intro id B e; rw [frz_n]; exact hr.fresh id B e
  · intro id o e
    obtain ⟨o',h1,_⟩:=key id o e
    rw [frz_n]; exact hr.live id o' h1
  · intro id B o e1 e2
    have hsame : ∀ {o : AO},OBR μ w.heap B o → OBR ⟨μ.m,s'⟩ w'.heap B o:=fun ho=>(ho.heap (ho.lt.imp (fun h=>h) (hb.block _))).mono hle
    rcases frz_get L h id o e2 with ⟨h1,_⟩ | ⟨hm,l,ro,rfl,h3⟩
    · exact hsame (hr.obj id B o e1 h1)
    · by_cases hi : (AO.gl l ro).inert B
      · obtain ⟨g1,r,g2⟩:=hi
        cases g2
        exact .inl ⟨g1,rfl⟩
      · have:=hsame (hr.obj id B _ e1 h3)
        rcases this with h4 | ⟨xs,g1,g2,c,el,fz,g3,g4,g5,g6,g7⟩
        · exact absurd ⟨h4.1,ro,by rw [h4.2]⟩ hi
        · obtain ⟨c',el',fz',k1,k2,k3⟩:=gl_block hr e1 h3 hi
          have hlt:=(Array.getElem?_eq_some_iff.1 k1).1
          have : w'.heap[B.b]? = w.heap[B.b]?:=hb.block _ hlt
          rw [this,k1] at g3
          cases g3
          refine .inr ⟨xs,g1,g2,_,_,_,by rw [this]; exact k1,g4,g5,fun _=>?_,g7⟩
          apply hg.le
          unfold sealS
          rw [if_pos ⟨id,hm,B,l,ro,e1,h3,hi,rfl⟩]
          exact k2
  · intro i j A B o p hij e1 e2 e3 e4
    obtain ⟨o',h1,h2⟩:=key i o e3
    obtain ⟨p',h3,h4⟩:=key j p e4
    rcases hr.sep i j A B o' p' hij e1 e2 h1 h3 with h5 | h5 | h5
    · exact .inl h5
    · exact .inr (.inl (hin h2 h5))
    · exact .inr (.inr (hin h4 h5))
  · intro id B o e1 e2 e3
    rcases frz_get L h id o e2 with ⟨h1,_⟩ | ⟨_,l,ro,rfl,_⟩
    · exact hr.own id B o e1 h1 e3
    · cases e3
  · intro id B o e1 e2 e3
    rcases frz_get L h id o e2 with ⟨h1,h2⟩ | ⟨_,l,ro,rfl,_⟩
    · by_cases hi : o.inert B
      · exact .inl hi
      · refine .inr ?_
        have hn:=(hr.apart id B o e1 h1 e3).resolve_left hi
        show s' B.b = none
        cases hsb : s' B.b with
        | none=>rfl
        | some c =>
          exfalso
          have hlt:=(hr.obj id B o e1 h1).lt.resolve_left hi
          rcases hg.new _ _ hsb with h5 | h5
          · unfold sealS at h5
            split at h5
            · rename_i hx
              obtain ⟨id2,hid2,B2,l2,ro2,k1,k2,k3,k4⟩:=hx
              by_cases hq : id = id2
              · subst hq
                rw [e1] at k1; cases k1
                rw [h1] at k2
                cases k2
                have:=h2 l2 ro2 hid2 rfl
                subst this
                cases e3
              · rcases hr.sep id id2 B B2 o _ hq e1 k1 h1 k2 with h6 | h6 | h6
                · exact h6 k4.symm
                · exact hi h6
                · exact k3 h6
            · rw [hn] at h5; cases h5
          · omega
    · cases e3
theorem callT_ok (hcl : Callable P) (l : List (Cn P)) (B0 : Nat) : CallOK P B0 (callT l):=by
  intro t as h v h' hc μ w hr
  cases t with
  | rd id=>unfold callT at hc; cases hc
  | fn f =>
    obtain ⟨c,_,hcf,hbor,⟨a,hok,has,rfl⟩,rfl⟩:=callT_inv hc
    subst hcf
    obtain ⟨fn,hfn,hb⟩:=c.bd
    refine ⟨fun cargs=>hcl _ fn cargs w hfn hb,fun cargs hargs=>?_⟩
    cases hfl : c.flat with
    | true =>
      have hs0 : ∀ b x,μ.s b = some x → snap w b = some x:=fun b x e=>let ⟨el,fz,h1⟩:=hr.sld b x e; snap_of h1
      have hS : Sealed (snap w) w:=by
        intro b x e
        unfold snap at e
        split at e
        · rename_i c' el fz h1; cases e; exact ⟨el,fz,h1⟩
        · cases e
      have hv : VRL (muS (snap w)) (c.as a) cargs.toList:=by
        rw [has]
        exact bor_sound hr hs0 (fun _ _ _ _ _ _ _ _=>rfl) (fun _ _=>rfl) hbor (by rw [← has]; exact c.dp a) hargs
      refine (c.pf a hok (snap w) w hS (hr.tab.mono hs0) cargs hv).mono fun e w' ⟨cv,s',he,hg,hs',hvv,hbl⟩=>?_
      refine ⟨cv,μ,he,c.fl hfl a _ _ _ hvv,?_⟩
      simp only [if_true]
      exact Post.same hr hbl
    | false =>
      have hv : VRL (muS (sealS μ h w (lent as))) (c.as a) cargs.toList:=by
        rw [has]
        refine bor_sound hr (sealS_grow hr _).le (fun id hid B l ro h1 h2 h3=>?_) (fun e=>by rw [hfl] at e; cases e) hbor (by rw [← has]; exact c.dp a) hargs
        unfold sealS
        rw [if_pos ⟨id,hid,B,l,ro,h1,h2,h3,rfl⟩]
      refine (c.pf a hok _ w (sealS_ok hr _) (hr.tab.mono (sealS_grow hr _).le) cargs hv).mono fun e w' ⟨cv,s',he,hg,hs',hvv,hbl⟩=>?_
      simp only [Bool.false_eq_true,if_false]
      refine ⟨cv,⟨μ.m,s'⟩,he,c.pv a (muS s') _ _ (fun _ _ e=>e) hvv,fun _ _=>rfl,by rw [frz_n]; exact Nat.le_refl _,hr.lend (lent as) hg hs' hbl,hbl.mono hr.size,?_⟩
      exact (sealS_grow hr _).trans ⟨hg.le,fun b x e=>(hg.new b x e).imp (fun h=>h) (fun h=>Nat.le_trans hr.size h)⟩
end Go.Sy
