/- Regions whose order is open: the whole of one, in whatever order is drawn. -/
import Derived.Test.YtbdhjclehikikabGreatDoorEvPlan4
namespace Go.Ev
open Go.RowKit
set_option linter.unusedVariables false
set_option linter.unusedSimpArgs false
variable {P : Program} {B0 : Nat} {cx : Cx} {ops : Array Oper} {ms : Tr Nat} {pl : List PI} {r0 : Tr AV} {m : List Pos} {μ0 : Mu} {h0 : Heap} {w0 : World} {a0 : Act} {x : R}

theorem MK_ptr (k : MK) (id : Pos) : (k.av id = .ptr id 0) ∨ ∃ l c z, k.av id = .slice id 0 l c z := by
  cases k with
  | ptr => exact .inl rfl
  | slice l c z => exact .inr ⟨l, c, z, rfl⟩
/-- What has been looked at again is as it was. -/
theorem recheck1_sound {o : Oper} {rc rp : Tr AV} {hc h' : Heap} {μ μ' : Mu} {u : AV} {j : Option Pos} (hr : recheck1 ops P o rc hc h' = true) (heq : ∀ s ∈ readL ops o, rp.get (pathOf s) = rc.get (pathOf s)) (hw : wantedA ops o rp = .yes)
    (hd : ∀ d, o.dst = some d → rc.get (pathOf d) = some u) (hn : hc.n.toNat ≤ h'.n.toNat) (hμ : ∀ id, id.toNat < hc.n.toNat → μ' id = μ id) (hf : FloatFact P o rp hc μ u j) : FloatFact P o rp h' μ' u j := by
  have hw' : wantedA ops o rc = .yes := by rw [← wanted_local heq]; exact hw
  have hloc := cls_local (r := rp) (r' := rc) o.op (evs_of_read heq)
  unfold recheck1 at hr
  rw [hw'] at hr
  simp only at hr
  unfold FloatFact at hf ⊢
  cases hcl : cls o.op with
  | pure f => rw [hcl] at hf; exact hf
  | bad => rw [hcl] at hf; exact hf
  | eff f => rw [hcl] at hf; exact hf
  | load f =>
    rw [hcl] at hf hr hloc
    simp only at hr hf ⊢
    rw [show f P rp hc = f P rc hc from hloc P hc] at hf
    rw [show f P rp h' = f P rc h' from hloc P h']
    rw [hf] at hr
    cases he : f P rc h' with
    | none => rw [he] at hr; cases hr
    | some b =>
      rw [he] at hr
      have := of_decide_eq_true hr
      rw [this]
  | alloc f =>
    rw [hcl] at hf hr
    obtain ⟨A, t, id, e1, e2, e3, rfl, e5, e6, e7⟩ := hf
    refine ⟨A, t, id, e1, e2, e3, rfl, ?_, by rw [hμ id e7]; exact e6, by omega⟩
    simp only at hr
    have hc1 : cellsAt hc id = some (t, A.n, false) := by unfold cellsAt; rw [e5]
    have key : (match cellsAt hc id, cellsAt h' id with | some a, some b => decide (a = b) | _, _ => false) = true → h'.t.get id = some (.cells t A.n false) := by
      intro hk
      rw [hc1] at hk
      cases hb : cellsAt h' id with
      | none => rw [hb] at hk; cases hk
      | some b =>
        rw [hb] at hk
        have := of_decide_eq_true hk
        have hg := HR.cellsAt (μ := μ) (B0 := 0) (w := default) hb
        rw [← this] at hg
        exact hg
    cases hdst : o.dst with
    | none => rw [hdst] at hr; cases hr
    | some d =>
      rw [hdst] at hr
      have := hd d hdst
      simp only [this, gv] at hr
      rcases MK_ptr A.k id with e | ⟨l, c, z, e⟩
      · rw [e] at hr; exact key hr
      · rw [e] at hr; exact key hr

/-- An operation that may change memory is carried out. -/
theorem eff_step (hP : cx.P = P) (hcall : CallOK P B0 cx.call) (G : Good ops ms pl) (hx : x ≠ .fail) {D : Nat → Prop} {a : Act} {w : World} {pr t : List PI} {y : PI} {rc : Tr AV} {hc : Heap} {μ : Mu} {J : Nat → Option Pos} (M : Mid P B0 cx ops ms pl r0 m μ0 h0 w0 a0 x D a w pr (y :: t) rc hc μ J)
    (he : y.eff = true) (hready : ∀ j, pre ms j y.i = true → D j) {b : Frame} (rest : List Nat) (k : List Item) (cs : List Frame) :
    ∃ a' w' μ' rc' hc' J', Steps P (lone (b.atR a (.inRegion ops (y.i :: rest) :: k)) cs w) (lone (b.atR a' (.inRegion ops rest :: k)) cs w') ∧ Mid P B0 cx ops ms pl r0 m μ0 h0 w0 a0 x (fun i => D i ∨ i = y.i) a' w' (pr ++ [y]) t rc' hc' μ' J' := by
  have hin : ∀ z ∈ pr, z ∈ pl := fun z hz => by rw [M.split]; exact List.mem_append.2 (.inl hz)
  have hyin : y ∈ pl := by rw [M.split]; simp
  have hpair : ∀ z ∈ pr, okPair ops ms z y = true := fun z hz => G.before M.split hz
  have hne : ∀ z ∈ pr, z.i ≠ y.i := fun z hz => okPair_ne (hpair z hz)
  have hyw : ∀ z ∈ pr, ∀ s, z.o.dst = some s → y.o.dst ≠ some s := fun z hz s e1 e2 => okPair_ww (hpair z hz) e1 e2
  have mem : ∀ z, z ∈ pr ++ [y] → z ∈ pr ∨ z = y := fun z hz => by simpa using hz
  obtain ⟨hop, _⟩ := G.at_ y hyin
  have hrel := M.post.rel
  have hr := M.run
  change doAt ops y.o cx rc m hc (fun r' m' h' => Bool.casesOn (motive := fun _ => R) (recheck ops cx.P y.pend rc hc h') .fail (doPlan ops t cx r' m' h')) = x at hr
  obtain ⟨v, h', r', h1, h2, h3⟩ := doAt_inv hr hx
  have hrec : recheck ops cx.P y.pend rc hc h' = true ∧ doPlan ops t cx r' m h' = x := by
    cases hb : recheck ops cx.P y.pend rc hc h' with
    | false => rw [hb] at h3; exact absurd h3.symm hx
    | true => rw [hb] at h3; exact ⟨rfl, h3⟩
  obtain ⟨hrec, hrun⟩ := hrec
  obtain ⟨g1, g2⟩ := putR_get h2
  have henv : ∀ s ∈ readL ops y.o, ∀ u, rc.get (pathOf s) = some u → ∃ cv, a.tmps[s]? = some cv ∧ VR1 μ u cv := by
    intro s hs u hu
    refine M.slots s u hu (fun z hz hzD e => hzD (hready _ (okPair_wr (hpair z hz) e hs)))
  obtain ⟨w1, w2⟩ := wanted_env henv
  -- once it has been carried out
  have fin : ∀ (cv : Value) (w' : World) (μ' : Mu), Steps P (lone (b.atR a (.inRegion ops (y.i :: rest) :: k)) cs w) (lone (b.atR (a.put y.o.dst cv) (.inRegion ops rest :: k)) cs w') → VR1 μ' v cv → Post μ B0 hc w μ' h' w' →
      ∃ a' w' μ' rc' hc' J', Steps P (lone (b.atR a (.inRegion ops (y.i :: rest) :: k)) cs w) (lone (b.atR a' (.inRegion ops rest :: k)) cs w') ∧ Mid P B0 cx ops ms pl r0 m μ0 h0 w0 a0 x (fun i => D i ∨ i = y.i) a' w' (pr ++ [y]) t rc' hc' μ' J' := by
    intro cv w' μ' hst hv hp
    have hle := hp.mu hrel
    have hsize : (a.put y.o.dst cv).tmps.size = cx.nt := by
      cases hd : y.o.dst with
      | none => exact M.size
      | some d => simp [Act.put, M.size]
    have hself : ∀ s, y.o.dst = some s → (a.put y.o.dst cv).tmps[s]? = some cv := by
      intro s hs
      obtain ⟨_, hlt⟩ := g1 s hs
      rw [hs]
      simp only [Act.put]
      exact Array.getElem?_setIfInBounds_self_of_lt (by rw [M.size]; exact hlt)
    have hother : ∀ s, y.o.dst ≠ some s → (a.put y.o.dst cv).tmps[s]? = a.tmps[s]? := by
      intro s hs
      cases hd : y.o.dst with
      | none => rfl
      | some d =>
        simp only [Act.put]
        rw [Array.getElem?_setIfInBounds_ne (fun e => hs (by rw [hd, e]))]
    refine ⟨_, w', μ', r', h', fun i => if i = y.i then none else J i, hst, ⟨by rw [M.split]; simp, hrun, ?_, ?_, M.post.trans hp, hsize, ?_, ?_, ?_, ?_, ?_, ?_, ?_, ?_⟩⟩
    · intro i hi
      rcases hi with hi | rfl
      · obtain ⟨z, hz, e⟩ := M.done i hi
        exact ⟨z, by simp [hz], e⟩
      · exact ⟨y, by simp, rfl⟩
    · intro z hz hze
      rcases mem z hz with h | h
      · exact .inl (M.effs z h hze)
      · exact .inr (by rw [h])
    · rw [show (a.put y.o.dst cv).defers = a.defers by cases y.o.dst <;> rfl]; exact M.dfr
    · intro s u hu hno
      by_cases hs : y.o.dst = some s
      · obtain ⟨e1, _⟩ := g1 s hs
        rw [e1] at hu
        cases hu
        exact ⟨cv, hself s hs, hv⟩
      · rw [g2 s hs] at hu
        obtain ⟨cu, e1, e2⟩ := M.slots s u hu (fun z hz hzD => hno z (by simp [hz]) (fun e => e.elim hzD (hne z hz)))
        exact ⟨cu, by rw [hother s hs]; exact e1, e2.mono hle⟩
    · intro z hz hzD s hzs u hu
      have hzD' : ¬ D z.i := fun e => hzD (.inl e)
      rcases mem z hz with h | h
      · obtain ⟨cu, e1, e2⟩ := M.olds z h hzD' s hzs u hu
        exact ⟨cu, by rw [hother s (hyw z h s hzs)]; exact e1, e2.mono hle⟩
      · exact absurd (.inr (by rw [h])) hzD
    · intro s hs
      rw [g2 s (hs y (by simp))]
      exact M.unwr s (fun z hz => hs z (by simp [hz]))
    · intro z hz hzD
      have hzD' : ¬ D z.i := fun e => hzD (.inl e)
      rcases mem z hz with h | h
      · rw [show (if z.i = y.i then none else J z.i) = J z.i from if_neg (hne z h)]
        obtain ⟨rp, u, f1, f2, f3⟩ := M.fact z h hzD'
        refine ⟨rp, u, fun d hd => ?_, fun s hs => ⟨?_, ?_⟩, f3.imp id (fun f => ⟨f.1, ?_⟩)⟩
        · rw [g2 d (hyw z h d hd)]; exact f1 d hd
        · rintro ⟨q, hq, hqz, hqs, hqp⟩
          rcases mem q hq with h' | h'
          · rw [g2 s (hyw q h' s hqs)]
            exact (f2 s hs).1 ⟨q, h', hqz, hqs, hqp⟩
          · subst h'
            rw [okPair_pre (hpair z h)] at hqp; cases hqp
        · intro hq
          exact (f2 s hs).2 (fun q hq' => hq q (by simp [hq']))
        · -- the fact itself
          by_cases hmem : isMem z.o = true
          · have hnp : pre ms z.i y.i = false := by
              cases e : pre ms z.i y.i with
              | false => rfl
              | true => exact absurd (hready _ e) hzD'
            obtain ⟨p, hp', hpi⟩ := okPair_mem (hpair z h) hnp he hmem
            have hpo : p.2 = z.o := by
              have e1 := G.pendAt y hyin p hp'
              have e2 := (G.at_ z (hin z h)).1
              rw [hpi, e2] at e1
              exact (Option.some.inj e1).symm
            have hrk := List.all_eq_true.1 hrec p hp'
            rw [hpo, hP] at hrk
            have hpend := (G.pair pr y t M.split).2 p hp'
            unfold okPend at hpend
            have heq : ∀ s ∈ readL ops z.o, rp.get (pathOf s) = rc.get (pathOf s) := by
              intro s hs
              have hw : ∀ q ∈ pr, q.o.dst = some s → pre ms q.i z.i = true := by
                intro q hq hqs
                have := List.all_eq_true.1 hpend q hq
                rw [Bool.or_eq_true, hpi, hpo] at this
                rcases this with e | e
                · exact absurd ⟨dst_mask hqs, readL_mask hs⟩ (land0_test e s)
                · exact e
              by_cases hex : ∃ q ∈ pr, q.i ≠ z.i ∧ q.o.dst = some s
              · obtain ⟨q, hq, hqz, hqs⟩ := hex
                exact (f2 s hs).1 ⟨q, hq, hqz, hqs, hw q hq hqs⟩
              · have hnone : ∀ q ∈ pr, q.o.dst ≠ some s := by
                  intro q hq hqs
                  by_cases hqz : q.i = z.i
                  · have := hw q hq hqs
                    rw [hqz, G.self z (hin z h)] at this
                    cases this
                  · exact hex ⟨q, hq, hqz, hqs⟩
                rw [M.unwr s hnone]
                exact (f2 s hs).2 (fun q hq _ hqs => absurd hqs (hnone q hq))
            exact recheck1_sound hrk heq f.1 (fun d hd => (f1 d hd).1) hp.le hp.ext f.2
          · refine f.2.mono hp.le (fun g hg _ => ?_) (fun g id ob hg _ _ => ?_) hp.ext
            · exact absurd (by unfold isMem; rw [hg]) hmem
            · exact absurd (by unfold isMem; rw [hg]) hmem
      · exact absurd (.inr (by rw [h])) hzD
    · intro z hz q hq
      rcases mem z hz with h | h
      · rw [if_neg (hne z h)] at hq
        have := M.jlt z h q hq
        have := hp.le
        omega
      · subst h; rw [if_pos rfl] at hq; cases hq
    · intro z hz q hq
      rcases mem z hz with h | h
      · rw [if_neg (hne z h)] at hq
        exact M.jge z h q hq
      · subst h; rw [if_pos rfl] at hq; cases hq
    · intro z hz u hu hzu p q hp' hq'
      rcases mem z hz with h | h
      · rcases mem u hu with h2 | h2
        · rw [if_neg (hne z h)] at hp'
          rw [if_neg (hne u h2)] at hq'
          exact M.apart z h u h2 hzu p q hp' hq'
        · subst h2; rw [if_pos rfl] at hq'; cases hq'
      · subst h; rw [if_pos rfl] at hp'; cases hp'
  rcases h1 with ⟨hw, hres⟩ | ⟨hw, rfl, rfl⟩
  · obtain ⟨q, hq, hqe⟩ := op_env henv
    have hxl := xOp_local (r := q) (r' := rc) y.o.op hqe
    have hres' : opRes y.o cx q hc v h' := by
      unfold opRes at hres ⊢
      rw [hxl]; exact hres
    obtain ⟨cv, μ', w', e1, e2, e3⟩ := op_step hP hcall hres' (w := w) (b := b) (a := a) hrel hq ops y.i rest k cs hop (w1 hw)
    exact fin cv w' μ' e3 e1 e2
  · exact fin undef w μ (skip_step hop (w2 hw)) ⟨#[], rfl, rfl⟩ (Post.refl hrel)
end Go.Ev
