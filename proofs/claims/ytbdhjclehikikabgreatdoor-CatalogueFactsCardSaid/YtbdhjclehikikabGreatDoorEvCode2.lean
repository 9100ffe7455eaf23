/- Code, on: a range over a function; every piece of code. -/
import Derived.Test.YtbdhjclehikikabGreatDoorEvCode
import Derived.RangeFuncNested
namespace Go.Ev
open Go.RowKit
set_option linter.unusedVariables false
set_option linter.unusedSimpArgs false
variable {P : Program} {B0 : Nat}

/-- A new block of whatever kind. -/
theorem newAny {μ : Mu} {h : Heap} {w : World} (hr : HR μ B0 h w) (o : AO) (ob : Obj) (ho : OBR (fun q => if q = h.n then some ⟨w.heap.size, 0, 0⟩ else μ q) (w.heap.push ob) ⟨w.heap.size, 0, 0⟩ o) :
    Post μ B0 h w (fun q => if q = h.n then some ⟨w.heap.size, 0, 0⟩ else μ q) ⟨h.t.set o h.n, h.n.succ⟩ (w.alloc ob) := by
  have hnone : μ h.n = none := by
    cases e : μ h.n with
    | none => rfl
    | some C => exact absurd (hr.fresh _ _ e) (by omega)
  have hsz : h.n.succ.toNat = h.n.toNat + 1 := Pos.toNat_succ _
  refine ⟨?_, by show h.n.toNat ≤ h.n.succ.toNat; omega, ?_, (Below.refl _ _).alloc hr.size _⟩
  · intro q hq
    show (if q = h.n then _ else _) = _
    rw [if_neg (fun e' => by subst e'; omega)]
  · refine hr.new h.n hnone o ⟨w.heap.size, 0, 0⟩ ob _ (by omega) (by omega) rfl _ ?_ ho
    intro q p e
    rw [Tr.get_set] at e
    by_cases hq : q = h.n
    · rw [if_pos hq] at e; cases e; exact .inl ⟨hq, rfl⟩
    · rw [if_neg hq] at e; exact .inr ⟨hq, e⟩

/-- A block of the call's own is forgotten, and what it holds has changed. -/
theorem killChg {μ : Mu} {h : Heap} {w w' : World} (hr : HR μ B0 h w) (id : Pos) (B : Blk) (hid : μ id = some B) (o0 : AO) (h0 : h.t.get id = some o0)
    (hb : ∀ k, k ≠ B.b → w'.heap[k]? = w.heap[k]?) (hs : w.heap.size ≤ w'.heap.size) : HR μ B0 (kill id h) w' := by
  have key : ∀ q p, (Tr.del h.t id).get q = some p → q ≠ id ∧ h.t.get q = some p := fun q p e => by
    rw [Tr.get_del] at e
    by_cases hq : q = id
    · rw [if_pos hq] at e; cases e
    · rw [if_neg hq] at e; exact ⟨hq, e⟩
  refine ⟨hr.fresh, fun q o e => hr.live q o (key q o e).2, ?_, fun i j A C p q hij e1 e2 e3 e4 => hr.sep i j A C p q hij e1 e2 (key _ _ e3).2 (key _ _ e4).2, fun q B o e1 e2 e3 => hr.own q B o e1 (key _ _ e2).2 e3, hr.glob, Nat.le_trans hr.size hs⟩
  intro q C p e1 e2
  obtain ⟨hq, e2⟩ := key q p e2
  exact (hr.obj q C p e1 e2).heap (hb _ (hr.sep q id C B p o0 hq e1 hid e2 h0))

theorem Below.putObj {a w : World} (h : Below B0 a w) {r : Nat} (hr : B0 ≤ r) (o : Obj) : Below B0 a (w.putObj r o) :=
  h.trans ⟨rfl, rfl, rfl, by simp, fun k hk => World.putObj_heap_other (by omega)⟩
/-- Forgetting a changed block: what has become of it all. -/
theorem killPost {μ : Mu} {h : Heap} {w : World} (hr : HR μ B0 h w) (id : Pos) (B : Blk) (hid : μ id = some B) (o0 : AO) (h0 : h.t.get id = some o0) (hro : o0.isRo = false) (ob : Obj) :
    Post μ B0 h w μ (kill id h) (w.putObj B.b ob) :=
  ⟨fun _ _ => rfl, Nat.le_refl _, killChg hr id B hid o0 h0 (fun k hk => World.putObj_heap_other hk) (by simp), Below.putObj (Below.refl _ _) (hr.own id B o0 hid h0 hro) ob⟩
/-- A changed block. -/
theorem putPost {μ : Mu} {h : Heap} {w : World} (hr : HR μ B0 h w) (id : Pos) (B : Blk) (hid : μ id = some B) (o0 o : AO) (h0 : h.t.get id = some o0) (hro0 : o0.isRo = false) (hro : o.isRo = false) (ob : Obj) (ho : OBR μ (w.putObj B.b ob).heap B o) :
    Post μ B0 h w μ ⟨h.t.set o id, h.n⟩ (w.putObj B.b ob) :=
  ⟨fun _ _ => rfl, Nat.le_refl _, hr.chg id B hid o hro o0 h0 hro0 (fun k hk => World.putObj_heap_other hk) (by simp) ho _ (fun q p e => by
    rw [Tr.get_set] at e
    by_cases hq : q = id
    · rw [if_pos hq] at e; cases e; exact .inl ⟨hq, rfl⟩
    · rw [if_neg hq] at e; exact .inr ⟨hq, e⟩), Below.putObj (Below.refl _ _) (hr.own id B o0 hid h0 hro0) ob⟩

/-- The end of a range over a function. -/
theorem endLoopA_sound {cx : Cx} {id : Pos} {r : Tr AV} {m : List Pos} {h : Heap} {μ : Mu} {w : World} {b : Frame} {a : Act} {B : Blk} (hid : μ id = some B) (hr : HR μ B0 h w) (har : AR μ cx.nt r m a) :
    RPost P B0 μ h w cx.nt b (fun k cs => lone (b.atR a (.endRangeFunc B.b :: k)) cs w) (endLoopA id r m h) := by
  unfold endLoopA
  split
  · rename_i ready pend fn regs nt ps as bd dfr hg
    have hob := hr.obj id B _ hid hg
    obtain ⟨l, h1, h2, _, h3, _⟩ := hob
    cases hok : (Bool.casesOn (motive := fun _ => Bool) ready (Option.casesOn (motive := fun _ => Bool) pend false (fun _ => true)) true) with
    | false => trivial
    | true =>
      have hnb : l.state ≠ .busy := by
        rw [h2]
        cases ready with
        | true => intro e; cases e
        | false =>
          cases pend with
          | none => cases hok
          | some p => intro e; cases e
      have hend : (Instr.endLoop B.b).run P w = .ok (jumpOf pend) (w.putObj B.b (.loop { l with state := .exhausted })) := by rw [← h3]; exact run_endLoop (P := P) h1 hnb
      have hpost := killPost hr id B hid _ hg rfl (.loop { l with state := .exhausted })
      simp only
      cases pend with
      | none =>
        intro k cs
        exact ⟨μ, a, _, hpost, har, .one (stepR_endRangeFunc hend)⟩
      | some p =>
        cases p with
        | none =>
          intro k cs
          exact ⟨μ, a, _, hpost, har, k, .one (stepR_endRangeFunc hend)⟩
        | some i =>
          intro k cs
          exact ⟨μ, a, _, hpost, har, k, rfl, .one (stepR_endRangeFunc hend)⟩
  · trivial

/-- The one call of a range over a function. -/
theorem rangeFunc_tail {cx : Cx} (hcall : CallOK P B0 cx.call) {f : Operand} {ps : Array Tmp} {assign body : Code} {id : Pos} {r : Tr AV} {m1 : List Pos} {h h1 : Heap} {μ μ1 : Mu} {w w1 : World} {b : Frame} {a : Act} {mark : List Deferred} {B : Blk}
    (hr : HR μ B0 h w) (hp : Post μ B0 h w μ1 h1 w1) (hid : μ1 id = some B) (har : AR μ1 cx.nt r m1 { a with defers := mark ++ a.defers })
    (he : (Instr.enterLoop b.fn a.tmps ps assign body b.roundOf).run P w = .ok (B.b, mark) w1) :
    RPost P B0 μ h w cx.nt b (fun k cs => lone (b.atR a (.code (.rangeFunc f ps assign body) :: k)) cs w)
      (match ev f r with
        | .func (.func g) a b =>
          CR.casesOn (motive := fun _ => Pos → Tr AV → List Pos → R) (cx.call (.fn g) (app a (.cons (.yield id) b)) h1) (fun _ _ _ => .fail) (fun _ h id r m => endLoopA id r m h) id r m1
        | _ => .fail) := by
  have hf := ev_sound hp.rel.glob har.rr f
  split
  · rename_i g p q ef
    rw [ef] at hf
    obtain ⟨F, C, hf, _, hf1, hf2⟩ := hf
    have hf : a.eval f = .func (.func g) F C := by
      have : Act.eval { a with defers := mark ++ a.defers } f = a.eval f := by cases f <;> rfl
      rw [this] at hf
      simpa using hf
    cases hc : cx.call (.fn g) (app p (.cons (.yield id) q)) h1 with
    | fail => trivial
    | ret v h2 =>
      simp only
      obtain ⟨hent, hcalls⟩ := hcall _ _ _ _ _ hc μ1 w1 hp.rel
      have hargs : VRL μ1 (app p (.cons (.yield id) q)) ((F ++ #[Value.func (.yield B.b) #[] #[]] ++ C).toList) := by
        rw [Array.toList_append, Array.toList_append, List.append_assoc]
        refine VRL.app ?_ hf1
        exact ⟨_, _, rfl, ⟨B, hid, rfl⟩, hf2⟩
      refine RPost.step (h1 := h2) (fun k cs => ?_)
      obtain ⟨e, w2, fr, ⟨cv, μ2, rfl, hv, hp2⟩, hsteps, _, hleave⟩ := hcalls _ hargs (b.atR { a with defers := mark ++ a.defers } (.inRangeFunc B.b :: k) :: cs)
      have hres : (resolve a.eval (rangeCall f B.b) 0).run P w1 = .ok { target := .fn (.func g) C, args := F ++ #[Value.func (.yield B.b) #[] #[]] } w1 := by
        simp only [resolve, rangeCall, hf, Deferred.ofValue]
        simp [Sem.run_pure, Act.eval]
      have hinv : (invoke (Target.fn (.func g) C) (F ++ #[Value.func (.yield B.b) #[] #[]])).run P w1 = .ok (.enter g (F ++ #[Value.func (.yield B.b) #[] #[]] ++ C)) w1 := hent _
      have henter := stepR_rangeFunc (P := P) (b := b) (a := a) (k := k) (cs := cs) (w := w) he hres hinv
      refine ⟨μ2, w2, fun k cs => lone (b.atR { a with defers := mark ++ a.defers } (.endRangeFunc B.b :: k)) cs w2, hp.trans hp2, .head henter (Steps.trans hsteps (.one ?_)), ?_⟩
      · have hstep := step_leave_returned (c := b.atR { a with defers := mark ++ a.defers } (.inRangeFunc B.b :: k)) (cs := cs) hleave
        rw [finish_atR_inRangeFunc] at hstep; exact hstep
      · have hmu := hp2.mu hp.rel
        exact endLoopA_sound (hmu _ _ hid) hp2.rel ⟨har.rr.mono hmu, har.size, har.dr.mono hmu⟩
  · trivial

theorem loopOBR {μ : Mu} {heap : Array Obj} {l : Loop} {regs : Tr AV} {nt : Nat} {d : Pos} {D : Blk} {n : Nat} {fn : FuncId} (hfn : l.fn = fn) (hrr : RR μ regs l.tmps) (hn : l.tmps.size = nt) (hs : l.state = .ready) (hp : l.pending = none) (hD : μ d = some D) (hd : l.defers = D.b) (hsz : heap.size = n) :
    OBR μ (heap.push (.loop l)) ⟨n, 0, 0⟩ (.loop true none fn regs nt l.params l.assign l.body d) := by
  subst hsz
  exact ⟨l, by show (heap.push _)[heap.size]? = _; simp, hs, (fun _ _ => trivial), hp, hfn, hrr, hn, rfl, rfl, rfl, D, hD, hd⟩
theorem rangeFunc_sound {cx : Cx} (hcall : CallOK P B0 cx.call) {f : Operand} {ps : Array Tmp} {assign body : Code} : CodeOK P B0 cx (xRangeFunc f ps assign body) (.rangeFunc f ps assign body) := by
  intro r m h μ w b a hr har hf
  have hrd := hf.rd
  unfold xRangeFunc enterLoopA
  cases hc : cx.rd with
  | none =>
    rw [hc] at hrd
    simp only at hrd ⊢
    have hp1 := newAny hr .marks (.deferred (some [])) (by show (w.heap.push _)[w.heap.size]? = _; simp)
    have hmu1 := hp1.mu hr
    have hid1 : (fun q => if q = h.n then some (⟨w.heap.size, 0, 0⟩ : Blk) else μ q) h.n = some ⟨w.heap.size, 0, 0⟩ := by show (if h.n = h.n then _ else _) = _; rw [if_pos rfl]
    revert hp1 hmu1 hid1
    generalize (fun q => if q = h.n then some (⟨w.heap.size, 0, 0⟩ : Blk) else μ q) = μ1
    intro hp1 hmu1 hid1
    have hne : h.n ≠ h.n.succ := fun e => by have := Pos.toNat_succ h.n; rw [← e] at this; omega
    have hp2 := newAny hp1.rel (.loop true none cx.fn r cx.nt ps assign body h.n) (.loop { state := .ready, pending := none, fn := b.fn, tmps := a.tmps, params := ps, assign, body, defers := w.heap.size })
      (loopOBR (D := ⟨w.heap.size, 0, 0⟩) hf.fn ((har.rr.mono hmu1).mono (by
          intro q C e
          show (if q = h.n.succ then some (⟨(w.alloc (.deferred (some []))).heap.size, 0, 0⟩ : Blk) else μ1 q) = some C
          rw [if_neg (fun e' => by subst e'; have := hp1.rel.fresh _ _ e; simp only at this; omega)]; exact e)) har.size rfl rfl (by
          show (if h.n = h.n.succ then _ else μ1 h.n) = _
          rw [if_neg hne]; exact hid1) rfl rfl)
    have hmu2 := hp2.mu hp1.rel
    refine rangeFunc_tail hcall (mark := [{ target := .collected w.heap.size, args := #[] }]) (B := ⟨(w.alloc (.deferred (some []))).heap.size, 0, 0⟩) hr (hp1.trans hp2) ?_ ⟨(har.rr.mono hmu1).mono hmu2, har.size, ⟨⟨⟨w.heap.size, 0, 0⟩, hmu2 _ _ hid1, rfl⟩, (har.dr.mono hmu1).mono hmu2⟩⟩ ?_
    · show (if h.n.succ = h.n.succ then _ else _) = _
      rw [if_pos rfl]
    · rw [hrd, run_enterLoop_outer]
      simp [World.size_alloc]
  | some id0 =>
    rw [hc] at hrd
    obtain ⟨B1, hB1, hro⟩ := hrd
    simp only
    cases hd : dfrOf h id0 with
    | none => trivial
    | some d =>
      simp only
      unfold dfrOf at hd
      split at hd
      · rename_i rdy pnd fn0 rg nt0 p0 a0 b0 d0 hg
        cases hd
        obtain ⟨l, hl, _, _, _, _, _, _, _, _, _, D, hD, hDb⟩ := hr.obj id0 B1 _ hB1 hg
        have hp2 := newAny hr (.loop true none cx.fn r cx.nt ps assign body d) (.loop { state := .ready, pending := none, fn := b.fn, tmps := a.tmps, params := ps, assign, body, defers := l.defers })
          (by
            have hle : μ.le (fun q => if q = h.n then some ⟨w.heap.size, 0, 0⟩ else μ q) := by
              intro q C e
              show (if q = h.n then _ else μ q) = some C
              rw [if_neg (fun e' => by subst e'; have := hr.fresh _ _ e; omega)]; exact e
            exact loopOBR (D := D) hf.fn (har.rr.mono hle) har.size rfl rfl (hle _ _ hD) hDb rfl)
        have hmu2 := hp2.mu hr
        refine rangeFunc_tail hcall (mark := []) (B := ⟨w.heap.size, 0, 0⟩) hr hp2 ?_ ⟨har.rr.mono hmu2, har.size, har.dr.mono hmu2⟩ ?_
        · show (if h.n = h.n then _ else _) = _
          rw [if_pos rfl]
        · rw [hro, run_enterLoop_inner hl]
      · cases hd

/-- EVERY PIECE OF CODE. -/
theorem code_sound {cx : Cx} (hm : P.follows .mixedOrders = true) (hP : cx.P = P) (hcall : CallOK P B0 cx.call) : ∀ c, CodeOK P B0 cx (xCode c) c := by
  intro c
  induction c with
  | skip => intro r m h μ w b a hr har hf k cs; exact ⟨μ, a, w, Post.refl hr, har, .one stepR_skip⟩
  | region id ops draw => exact region_sound hm hP hcall
  | seq x y iha ihb => exact seq_sound iha ihb
  | cond c x y iha ihb => exact cond_sound iha ihb
  | block id x ih => exact block_sound ih
  | loop x ih => exact loop_sound ih
  | rangeFunc f ps x y _ _ => exact rangeFunc_sound hcall
  | exit i => intro r m h μ w b a hr har hf k cs; exact ⟨μ, a, w, Post.refl hr, har, k, rfl, Steps.refl P _⟩
  | scope x ih => exact scope_sound ih
  | label l => intro r m h μ w b a hr har hf k cs; exact ⟨μ, a, w, Post.refl hr, har, .one stepR_label⟩
  | ret => intro r m h μ w b a hr har hf k cs; exact ⟨μ, a, w, Post.refl hr, har, k, Steps.refl P _⟩
  | goto l => intro r m h μ w b a hr har hf; trivial
  | refuse s => intro r m h μ w b a hr har hf; trivial
end Go.Ev
