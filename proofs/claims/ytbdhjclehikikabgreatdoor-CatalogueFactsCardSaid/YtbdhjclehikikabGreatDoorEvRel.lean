/- What the evaluator's values and memory stand for: the relation between abstract and real values, and what the list operations do to it. -/
import Derived.Test.YtbdhjclehikikabGreatDoorEvRun
import Derived.AtR
import Derived.Below
import Derived.RangeFuncLeaves
import Derived.Laws.Cells
import Derived.Laws.IdiomCopy
namespace Go.Ev
open Go.RowKit
set_option linter.unusedVariables false

structure Blk where
  b : Nat
  base : Nat
  n : Nat

/-- Where an abstract block lies. -/
abbrev Mu := Pos → Option Blk

/-- A range of ints; where it is empty: the small ints that leave the rest lo + hi by lo. -/
def InR (lo hi n : Int) : Prop := (lo ≤ hi → lo ≤ n ∧ n ≤ hi) ∧ (hi < lo → 0 ≤ n ∧ n ≤ 255 ∧ n % lo = hi + lo)
theorem InR.of {lo hi n : Int} (h : lo ≤ n ∧ n ≤ hi) : InR lo hi n := ⟨fun _ => h, fun e => by omega⟩

/-- What an abstract value stands for: one value (false), or a list of values (true). -/
def VR (μ : Mu) : AV → Bool → List Value → Prop
  | .nil, true, vs => vs = []
  | .cons h t, true, vs => ∃ v r, vs = v :: r ∧ VR μ h false [v] ∧ VR μ t true r
  | _, true, _ => False
  | .nil, false, _ => False
  | .cons _ _, false, _ => False
  | .undef, false, vs => ∃ v, vs = [v]
  | .bool b, false, vs => vs = [.bool b]
  | .int k n, false, vs => vs = [.int k n]
  | .rng k lo hi, false, vs => ∃ n, vs = [.int k n] ∧ InR lo hi n
  | .str s, false, vs => ∃ bs, vs = [.string bs] ∧ bs.data.toList.map UInt8.toNat = s
  | .ustr m, false, vs => ∃ bs, vs = [.string bs] ∧ bs.size ≤ m
  | .ptr id off, false, vs => ∃ B, μ id = some B ∧ vs = [.pointer (some ⟨B.b, B.base + off, none⟩)]
  | .nilp, false, vs => vs = [.pointer none]
  | .slice id off len cap sz, false, vs => ∃ B c, μ id = some B ∧ vs = [.slice (some ⟨B.b, B.base + off, none⟩) len c] ∧ cap ≤ c ∧ len ≤ cap ∧ off + c * sz ≤ B.n
  | .sle id sz, false, vs => ∃ B off c, μ id = some B ∧ vs = [.slice (some ⟨B.b, B.base + off, none⟩) 0 c] ∧ off + c * sz ≤ B.n
  | .nils, false, vs => vs = [.slice none 0 0]
  | .map id, false, vs => ∃ B, μ id = some B ∧ vs = [.map (some B.b)]
  | .nilm, false, vs => vs = [.map none]
  | .func fn f c, false, vs => ∃ F C, vs = [.func fn F C] ∧ isYield fn = false ∧ VR μ f true F.toList ∧ VR μ c true C.toList
  | .yield id, false, vs => ∃ B, μ id = some B ∧ vs = [.func (.yield B.b) #[] #[]]
  | .nilf, false, vs => vs = [.nilFunc]
  | .iface t a, false, vs => ∃ v, vs = [.iface t v] ∧ VR μ a false [v]
  | .nili, false, vs => vs = [.nilIface]
  | .agg l, false, vs => ∃ c, vs = [.agg c] ∧ VR μ l true c.toList
  | .tup l, false, vs => ∃ c, vs = [.tuple c] ∧ VR μ l true c.toList

abbrev VR1 (μ : Mu) (a : AV) (v : Value) : Prop := VR μ a false [v]
abbrev VRL (μ : Mu) (a : AV) (vs : List Value) : Prop := VR μ a true vs

def Mu.le (μ μ' : Mu) : Prop := ∀ id B, μ id = some B → μ' id = some B
theorem Mu.le_refl (μ : Mu) : μ.le μ := fun _ _ h => h
theorem Mu.le_trans {a b c : Mu} (h : a.le b) (k : b.le c) : a.le c := fun id B e => k id B (h id B e)

theorem VR.mono {μ μ' : Mu} (h : μ.le μ') : ∀ {a : AV} {l : Bool} {vs : List Value}, VR μ a l vs → VR μ' a l vs := by
  intro a
  induction a with
  | cons x t ihx iht =>
    intro l vs hv
    cases l with
    | false => exact hv
    | true => obtain ⟨v, r, e, h1, h2⟩ := hv; exact ⟨v, r, e, ihx h1, iht h2⟩
  | func fn f c ihf ihc =>
    intro l vs hv
    cases l with
    | true => exact hv
    | false => obtain ⟨F, C, e, h0, h1, h2⟩ := hv; exact ⟨F, C, e, h0, ihf h1, ihc h2⟩
  | iface t x ih =>
    intro l vs hv
    cases l with
    | true => exact hv
    | false => obtain ⟨v, e, h1⟩ := hv; exact ⟨v, e, ih h1⟩
  | agg x ih =>
    intro l vs hv
    cases l with
    | true => exact hv
    | false => obtain ⟨c, e, h1⟩ := hv; exact ⟨c, e, ih h1⟩
  | tup x ih =>
    intro l vs hv
    cases l with
    | true => exact hv
    | false => obtain ⟨c, e, h1⟩ := hv; exact ⟨c, e, ih h1⟩
  | ptr id off =>
    intro l vs hv
    cases l with
    | true => exact hv
    | false => obtain ⟨B, e, h1⟩ := hv; exact ⟨B, h _ _ e, h1⟩
  | slice id off len cap sz =>
    intro l vs hv
    cases l with
    | true => exact hv
    | false => obtain ⟨B, c, e, h1⟩ := hv; exact ⟨B, c, h _ _ e, h1⟩
  | sle id sz =>
    intro l vs hv
    cases l with
    | true => exact hv
    | false => obtain ⟨B, o, c, e, h1⟩ := hv; exact ⟨B, o, c, h _ _ e, h1⟩
  | map id =>
    intro l vs hv
    cases l with
    | true => exact hv
    | false => obtain ⟨B, e, h1⟩ := hv; exact ⟨B, h _ _ e, h1⟩
  | yield id =>
    intro l vs hv
    cases l with
    | true => exact hv
    | false => obtain ⟨B, e, h1⟩ := hv; exact ⟨B, h _ _ e, h1⟩
  | _ => intro l vs hv; cases l <;> exact hv

/-! ### Constants -/
theorem VRL_ofL (μ : Mu) : ∀ (l : List AV) (vs : List Value), l.length = vs.length → (∀ (i : Nat) (a : AV) (v : Value), l[i]? = some a → vs[i]? = some v → VR1 μ a v) → VRL μ (ofL l) vs
  | [], [], _, _ => rfl
  | a :: l, v :: vs, hl, h => ⟨v, vs, rfl, h 0 a v rfl rfl, VRL_ofL μ l vs (by simpa using hl) (fun i a v h1 h2 => h (i + 1) a v (by simpa using h1) (by simpa using h2))⟩
  | [], _ :: _, hl, _ => absurd hl (by simp)
  | _ :: _, [], hl, _ => absurd hl (by simp)

theorem constS_sound (μ : Mu) (v : Value) : VR1 μ (constS v) v := by
  unfold constS
  split
  · rfl
  · rfl
  · exact ⟨_, rfl, rfl⟩
  · rfl
  · rename_i l c
    unfold sliceC
    cases hl : Nat.beq l 0 with
    | false => exact ⟨_, rfl⟩
    | true =>
      cases hc : Nat.beq c 0 with
      | false => exact ⟨_, rfl⟩
      | true =>
        have h1 := Nat.eq_of_beq_eq_true hl
        have h2 := Nat.eq_of_beq_eq_true hc
        subst h1; subst h2; rfl
  · rfl
  · rename_i fn f c
    unfold funcC
    cases hf : f.toList with
    | cons _ _ => exact ⟨_, rfl⟩
    | nil =>
      cases hc : c.toList with
      | cons _ _ => exact ⟨_, rfl⟩
      | nil => cases fn with
        | func g => exact ⟨f, c, rfl, rfl, hf, hc⟩
        | _ => exact ⟨_, rfl⟩
  · rfl
  · rfl
  · exact ⟨_, rfl⟩

theorem constAV_sound (μ : Mu) (v : Value) : VR1 μ (constAV v) v := by
  unfold constAV
  split
  · rename_i cs
    refine ⟨cs, rfl, VRL_ofL μ _ _ (by simp) ?_⟩
    intro i a v h1 h2
    simp only [List.getElem?_map, h2, Option.map_some, Option.some.injEq] at h1
    exact h1 ▸ constS_sound μ v
  · rename_i vs
    cases h : vs.toList with
    | nil => exact ⟨vs, rfl, h⟩
    | cons _ _ => exact ⟨_, rfl⟩
  · exact constS_sound μ v

/-! ### Slots -/
/-- The slots: what is known of each is so. -/
def RR (μ : Mu) (r : Tr AV) (tmps : Array Value) : Prop := ∀ k v, r.get (pathOf k) = some v → ∃ cv, tmps[k]? = some cv ∧ VR1 μ v cv
theorem RR.mono {μ μ' : Mu} (h : μ.le μ') {r : Tr AV} {t : Array Value} (hr : RR μ r t) : RR μ' r t :=
  fun q v e => let ⟨cv, h1, h2⟩ := hr q v e; ⟨cv, h1, h2.mono h⟩

/-- The package-level variables lie at their own numbers. -/
def Glob (μ : Mu) : Prop := ∀ g, g < 64 → ∃ n, μ (pathOf g) = some ⟨g, 0, n⟩
theorem Glob.mono {μ μ' : Mu} (h : μ.le μ') (hg : Glob μ) : Glob μ' := fun g hl => let ⟨n, e⟩ := hg g hl; ⟨n, h _ _ e⟩

theorem natLt_iff {a b : Nat} : natLt a b = true ↔ a < b := by
  unfold natLt; rw [Nat.ble_eq]; exact Iff.rfl

theorem ev_sound {μ : Mu} (hg : Glob μ) {r : Tr AV} {a : Act} (hr : RR μ r a.tmps) (x : Operand) : VR1 μ (ev x r) (a.eval x) := by
  cases x with
  | tmp t =>
    show VR1 μ (gv (r.get (pathOf t))) (a.tmps.getD t undef)
    cases h : r.get (pathOf t) with
    | none => exact ⟨_, rfl⟩
    | some v =>
      obtain ⟨cv, h1, h2⟩ := hr _ _ h
      have : a.tmps.getD t undef = cv := by
        obtain ⟨hlt, he⟩ := Array.getElem?_eq_some_iff.1 h1
        simp [Array.getD, hlt, he]
      rw [this]; exact h2
  | const v => exact constAV_sound μ v
  | global g =>
    show VR1 μ (Bool.casesOn (natLt g 64) .undef (.ptr (pathOf g) 0)) _
    cases h : natLt g 64 with
    | false => exact ⟨_, rfl⟩
    | true =>
      obtain ⟨n, e⟩ := hg g (natLt_iff.1 h)
      exact ⟨_, e, rfl⟩
  | func f => exact ⟨#[], #[], rfl, rfl, rfl, rfl⟩

theorem evs_sound {μ : Mu} (hg : Glob μ) {r : Tr AV} {a : Act} (hr : RR μ r a.tmps) : ∀ (l : List Operand), VRL μ (evs l r) (l.map a.eval)
  | [] => rfl
  | x :: l => ⟨_, _, rfl, ev_sound hg hr x, evs_sound hg hr l⟩

/-! ### Lists -/
theorem VRL.len {μ : Mu} : ∀ {l : AV} {vs : List Value}, VRL μ l vs → l.len = vs.length := by
  intro l
  induction l with
  | nil => intro vs h; cases (show vs = [] from h); rfl
  | cons x t ihx iht => intro vs h; obtain ⟨v, r, rfl, h1, h2⟩ := h; show Nat.succ t.len = _; rw [iht h2]; rfl
  | _ => intro vs h; exact h.elim
theorem VRL.app {μ : Mu} {b : AV} {ys : List Value} (hb : VRL μ b ys) : ∀ {l : AV} {vs : List Value}, VRL μ l vs → VRL μ (app l b) (vs ++ ys) := by
  intro l
  induction l with
  | nil => intro vs h; cases (show vs = [] from h); exact hb
  | cons x t ihx iht => intro vs h; obtain ⟨v, r, rfl, h1, h2⟩ := h; exact ⟨v, r ++ ys, rfl, h1, iht h2⟩
  | _ => intro vs h; exact h.elim
theorem VRL.take {μ : Mu} : ∀ (n : Nat) {l l' : AV} {vs : List Value}, VRL μ l vs → takeL n l = some l' → VRL μ l' (vs.take n) ∧ n ≤ vs.length
  | 0, l, l', vs, h, e => by cases (show AV.nil = l' from Option.some.inj e); exact ⟨by simp [VRL, VR], by simp⟩
  | n + 1, l, l', vs, h, e => by
    cases l with
    | cons a t =>
      obtain ⟨v, r, rfl, h1, h2⟩ := h
      change Option.casesOn (motive := fun _ => Option AV) (takeL n t) none (fun l => some (.cons a l)) = some l' at e
      cases ht : takeL n t with
      | none => rw [ht] at e; cases e
      | some l2 =>
        rw [ht] at e
        cases Option.some.inj e
        have := VRL.take n h2 ht
        exact ⟨⟨v, r.take n, by simp, h1, this.1⟩, by simp; exact this.2⟩
    | _ => cases e
theorem VRL.drop {μ : Mu} : ∀ (n : Nat) {l : AV} {vs : List Value}, VRL μ l vs → n ≤ vs.length → VRL μ (dropL n l) (vs.drop n)
  | 0, l, vs, h, _ => h
  | n + 1, l, vs, h, hn => by
    cases l with
    | cons a t =>
      obtain ⟨v, r, rfl, h1, h2⟩ := h
      exact VRL.drop n h2 (by simpa using hn)
    | nil => cases (show vs = [] from h); simp at hn
    | _ => exact h.elim
theorem dropL_undef : ∀ (n : Nat), dropL n .undef = .undef
  | 0 => rfl
  | n + 1 => rfl
theorem VRL.drop_cons {μ : Mu} : ∀ (n : Nat) {l a t : AV} {vs : List Value}, VRL μ l vs → dropL n l = .cons a t → ∃ v, vs[n]? = some v ∧ VR1 μ a v
  | 0, l, a, t, vs, h, e => by
    change l = .cons a t at e
    subst e
    obtain ⟨v, r, rfl, h1, h2⟩ := h
    exact ⟨v, rfl, h1⟩
  | n + 1, l, a, t, vs, h, e => by
    cases l with
    | cons x y =>
      obtain ⟨v, r, rfl, h1, h2⟩ := h
      obtain ⟨u, hu, hv⟩ := VRL.drop_cons n h2 e
      exact ⟨u, by simpa using hu, hv⟩
    | _ => cases e
theorem VRL.reps {μ : Mu} {z : AV} {zs : List Value} (hz : VRL μ z zs) : ∀ (n : Nat), VRL μ (reps n z) ((List.replicate n zs).flatten)
  | 0 => rfl
  | n + 1 => by rw [List.replicate_succ, List.flatten_cons]; exact VRL.app (VRL.reps hz n) hz
theorem splice0_spec {μ : Mu} : ∀ {p l : AV} {vs ps : List Value}, VRL μ l vs → VRL μ p ps → ps.length ≤ vs.length → VRL μ (splice 0 l p) (ps ++ vs.drop ps.length) := by
  intro p
  induction p with
  | nil => intro l vs ps hl hp hn; cases (show ps = [] from hp); exact hl
  | cons x t ihx iht =>
    intro l vs ps hl hp hn
    obtain ⟨v, r, rfl, h1, h2⟩ := hp
    cases l with
    | cons a u =>
      obtain ⟨w, s, rfl, h3, h4⟩ := hl
      exact ⟨v, r ++ s.drop r.length, by simp, h1, iht h4 h2 (by simp at hn ⊢; omega)⟩
    | nil => cases (show vs = [] from hl); simp at hn
    | _ => exact hl.elim
  | _ => intro l vs ps hl hp hn; exact hp.elim
theorem splice_spec {μ : Mu} : ∀ (off : Nat) {l p : AV} {vs ps : List Value}, VRL μ l vs → VRL μ p ps → off + ps.length ≤ vs.length → VRL μ (splice off l p) (vs.take off ++ ps ++ vs.drop (off + ps.length))
  | 0, l, p, vs, ps, hl, hp, hn => by
    have := splice0_spec hl hp (by omega)
    simpa using this
  | off + 1, l, p, vs, ps, hl, hp, hn => by
    cases l with
    | cons a u =>
      obtain ⟨w, s, rfl, h3, h4⟩ := hl
      have := splice_spec off h4 hp (by simp at hn; omega)
      refine ⟨w, s.take off ++ ps ++ s.drop (off + ps.length), ?_, h3, this⟩
      rw [show off + 1 + ps.length = (off + ps.length) + 1 by omega]
      simp
    | nil => cases (show vs = [] from hl); simp at hn
    | _ => exact hl.elim

/-- The cells of a value. -/
theorem VR1.cells {μ : Mu} {a : AV} {v : Value} (h : VR1 μ a v) (ha : a ≠ .undef) (ht : ∀ l, a ≠ .tup l) : VRL μ a.cells v.cells.toList := by
  cases a with
  | agg l => obtain ⟨c, e, h1⟩ := h; cases e; exact h1
  | undef => exact absurd rfl ha
  | tup l => exact absurd rfl (ht l)
  | nil => exact h.elim
  | cons _ _ => exact h.elim
  | bool b => cases (show _ = [_] from h); exact ⟨_, [], rfl, rfl, rfl⟩
  | int k n => cases (show _ = [_] from h); exact ⟨_, [], rfl, rfl, rfl⟩
  | nilp => cases (show _ = [_] from h); exact ⟨_, [], rfl, rfl, rfl⟩
  | nils => cases (show _ = [_] from h); exact ⟨_, [], rfl, rfl, rfl⟩
  | nilm => cases (show _ = [_] from h); exact ⟨_, [], rfl, rfl, rfl⟩
  | nilf => cases (show _ = [_] from h); exact ⟨_, [], rfl, rfl, rfl⟩
  | nili => cases (show _ = [_] from h); exact ⟨_, [], rfl, rfl, rfl⟩
  | rng k a b => obtain ⟨n, e, h1⟩ := h; cases e; exact ⟨_, [], rfl, ⟨n, rfl, h1⟩, rfl⟩
  | str s => obtain ⟨n, e, h1⟩ := h; cases e; exact ⟨_, [], rfl, ⟨n, rfl, h1⟩, rfl⟩
  | ustr s => obtain ⟨n, e, h1⟩ := h; cases e; exact ⟨_, [], rfl, ⟨n, rfl, h1⟩, rfl⟩
  | ptr id off => obtain ⟨B, e, h1⟩ := h; cases h1; exact ⟨_, [], rfl, ⟨B, e, rfl⟩, rfl⟩
  | map id => obtain ⟨B, e, h1⟩ := h; cases h1; exact ⟨_, [], rfl, ⟨B, e, rfl⟩, rfl⟩
  | yield id => obtain ⟨B, e, h1⟩ := h; cases h1; exact ⟨_, [], rfl, ⟨B, e, rfl⟩, rfl⟩
  | slice id off len cap sz => obtain ⟨B, c, e, h1, h2⟩ := h; cases h1; exact ⟨_, [], rfl, ⟨B, c, e, rfl, h2⟩, rfl⟩
  | sle id sz => obtain ⟨B, o, c, e, h1, h2⟩ := h; cases h1; exact ⟨_, [], rfl, ⟨B, o, c, e, rfl, h2⟩, rfl⟩
  | func fn f c => obtain ⟨F, C, e, h1⟩ := h; cases e; exact ⟨_, [], rfl, ⟨F, C, rfl, h1⟩, rfl⟩
  | iface t x => obtain ⟨u, e, h1⟩ := h; cases e; exact ⟨_, [], rfl, ⟨u, rfl, h1⟩, rfl⟩

theorem isCell_one {μ : Mu} {a : AV} {v : Value} (h : VR1 μ a v) (hc : a.isCell = true) : v.oneCell' = true := by
  cases a with
  | agg l => cases hc
  | undef => cases hc
  | tup l => cases hc
  | nil => exact h.elim
  | cons _ _ => exact h.elim
  | rng k a b => obtain ⟨n, e, h1⟩ := h; cases e; rfl
  | str s => obtain ⟨n, e, h1⟩ := h; cases e; rfl
  | ustr s => obtain ⟨n, e, h1⟩ := h; cases e; rfl
  | ptr id off => obtain ⟨B, e, h1⟩ := h; cases h1; rfl
  | map id => obtain ⟨B, e, h1⟩ := h; cases h1; rfl
  | yield id => obtain ⟨B, e, h1⟩ := h; cases h1; rfl
  | slice id off len cap sz => obtain ⟨B, c, e, h1, h2⟩ := h; cases h1; rfl
  | sle id sz => obtain ⟨B, o, c, e, h1, h2⟩ := h; cases h1; rfl
  | func fn f c => obtain ⟨F, C, e, h1⟩ := h; cases e; rfl
  | iface t x => obtain ⟨u, e, h1⟩ := h; cases e; rfl
  | _ => cases (show _ = [_] from h); rfl

/-- What 'lay' has laid. -/
theorem lay_spec {μ : Mu} : ∀ (n : Nat) {l : AV} {off : Nat} {c c' : Tr AV} {vs : List Value}, lay n l off c = some c' → VRL μ l vs →
    vs.length = n ∧ (∀ v ∈ vs, v.oneCell' = true) ∧ ∀ k v, c'.get (pathOf k) = some v → (off ≤ k ∧ k < off + n ∧ ∃ cv, vs[k - off]? = some cv ∧ VR1 μ v cv) ∨ ((k < off ∨ off + n ≤ k) ∧ c.get (pathOf k) = some v)
  | 0, l, off, c, c', vs, h, hl => by
    cases l with
    | nil =>
      cases (show vs = [] from hl)
      cases (show some c = some c' from h)
      exact ⟨rfl, by simp, fun q v hq => .inr ⟨by omega, hq⟩⟩
    | _ => cases h
  | n + 1, l, off, c, c', vs, h, hl => by
    cases l with
    | cons a t =>
      change Bool.casesOn (motive := fun _ => Option (Tr AV)) a.isCell none (lay n t (Nat.succ off) (c.set a (pathOf off))) = some c' at h
      obtain ⟨v, r, rfl, h1, h2⟩ := hl
      cases hc : a.isCell with
      | false => rw [hc] at h; cases h
      | true =>
        rw [hc] at h
        obtain ⟨hlen, hone, hget⟩ := lay_spec n h h2
        refine ⟨by simp [hlen], ?_, ?_⟩
        · intro u hu
          rcases List.mem_cons.1 hu with e | e
          · subst e; exact isCell_one h1 hc
          · exact hone u e
        · intro k u hq
          rcases hget k u hq with ⟨ha, hb, cv, hcv, hv⟩ | ⟨ha, hb⟩
          · refine .inl ⟨by omega, by omega, cv, ?_, hv⟩
            rw [show k - off = (k - Nat.succ off) + 1 by omega]
            simpa using hcv
          · rw [Tr.get_set] at hb
            by_cases hqo : k = off
            · subst hqo
              rw [if_pos rfl] at hb
              cases hb
              exact .inl ⟨by omega, by omega, v, by simp, h1⟩
            · rw [if_neg (fun e => hqo (pathOf_inj e))] at hb
              exact .inr ⟨by omega, hb⟩
    | _ => cases h

/-- What 'coll' has read: the cells from 'off' on. -/
theorem coll_spec {μ : Mu} {c : Tr AV} {f : Nat → Option Value} (hf : ∀ k v, c.get (pathOf k) = some v → ∃ cv, f k = some cv ∧ VR1 μ v cv) :
    ∀ (n : Nat) {off : Nat} {l : AV}, coll c n off = some l → ∃ vs, VRL μ l vs ∧ vs.length = n ∧ ∀ j v, vs[j]? = some v → f (off + j) = some v
  | 0, off, l, h => by cases (show some AV.nil = some l from h); exact ⟨[], rfl, rfl, by simp⟩
  | n + 1, off, l, h => by
    change Option.casesOn (motive := fun _ => Option AV) (c.get (pathOf off)) none (fun v => Option.casesOn (motive := fun _ => Option AV) (coll c n (Nat.succ off)) none (fun l => some (.cons v l))) = some l at h
    cases hg : c.get (pathOf off) with
    | none => rw [hg] at h; cases h
    | some v =>
      rw [hg] at h
      cases hc : coll c n (Nat.succ off) with
      | none => simp only [hc] at h; cases h
      | some l2 =>
        simp only [hc] at h
        cases h
        obtain ⟨vs, h1, h2, h3⟩ := coll_spec hf n hc
        obtain ⟨cv, h4, h5⟩ := hf off v hg
        refine ⟨cv :: vs, ⟨cv, vs, rfl, h5, h1⟩, by simp [h2], ?_⟩
        intro j u hj
        cases j with
        | zero => simp at hj; subst hj; exact h4
        | succ j => have := h3 j u (by simpa using hj); rwa [show off + (j + 1) = Nat.succ off + j by omega]

/-! ### Memory -/
/-- No cell below n is frozen. -/
def unfz (fz : Nat × Nat) (n : Nat) : Prop := ∀ o, o < n → ¬ (fz.1 ≤ o ∧ o < fz.2)
/-- .. and a block that is never written is known whole. -/
def okfz (ro : Bool) (m : Nat) (fz : Nat × Nat) (n : Nat) : Prop := unfz fz n ∧ (ro = true → n = m)
/-- What a pending jump stands for. -/
def jumpOf : Option (Option Nat) → Option Code
  | none => none
  | some none => some .ret
  | some (some i) => some (.exit i)
def stateOf (ready : Bool) (p : Option (Option Nat)) : LoopState := if ready then .ready else match p with | none => .busy | some _ => .done
/-- What an abstract block stands for. -/
def OBR (μ : Mu) (heap : Array Obj) (B : Blk) : AO → Prop
  | .cells t n ro => n ≤ B.n ∧ ∃ c el fz, heap[B.b]? = some (.cells c el fz) ∧ B.base + B.n ≤ c.size ∧ okfz ro n fz c.size ∧
      ∀ k v, t.get (pathOf k) = some v → k < B.n ∧ ∃ cv, c[B.base + k]? = some cv ∧ VR1 μ v cv
  | .loop ready pend fn regs nt params assign body dfr => ∃ l : Loop, heap[B.b]? = some (.loop l) ∧ l.state = stateOf ready pend ∧ (ready = false → pend = none → True) ∧ l.pending = jumpOf pend ∧ l.fn = fn ∧ RR μ regs l.tmps ∧ l.tmps.size = nt ∧
      l.params = params ∧ l.assign = assign ∧ l.body = body ∧ ∃ D, μ dfr = some D ∧ l.defers = D.b
  | .marks => heap[B.b]? = some (.deferred (some []))
def AO.isRo : AO → Bool
  | .cells _ _ ro => ro
  | _ => false
theorem OBR.mono {μ μ' : Mu} (h : μ.le μ') {heap : Array Obj} {B : Blk} {o : AO} (ho : OBR μ heap B o) : OBR μ' heap B o := by
  cases o with
  | cells t n ro =>
    obtain ⟨h0, c, el, fz, h1, h2, h3, h4⟩ := ho
    exact ⟨h0, c, el, fz, h1, h2, h3, fun k v e => let ⟨a, cv, b, d⟩ := h4 k v e; ⟨a, cv, b, d.mono h⟩⟩
  | loop _ _ _ _ _ _ _ _ _ =>
    obtain ⟨l, h1, h2, h3, h4, h5, h6, h7, h8, h9, h10, D, h11, h12⟩ := ho
    exact ⟨l, h1, h2, h3, h4, h5, h6.mono h, h7, h8, h9, h10, D, h _ _ h11, h12⟩
  | marks => exact ho
theorem OBR.lt {μ : Mu} {heap : Array Obj} {B : Blk} {o : AO} (ho : OBR μ heap B o) : B.b < heap.size := by
  cases o with
  | cells t n ro => obtain ⟨h0, c, el, fz, h1, _⟩ := ho; exact (Array.getElem?_eq_some_iff.1 h1).1
  | loop _ _ _ _ _ _ _ _ _ => obtain ⟨l, h1, _⟩ := ho; exact (Array.getElem?_eq_some_iff.1 h1).1
  | marks => exact (Array.getElem?_eq_some_iff.1 (show heap[B.b]? = _ from ho)).1
theorem OBR.heap {μ : Mu} {heap heap' : Array Obj} {B : Blk} {o : AO} (e : heap'[B.b]? = heap[B.b]?) (ho : OBR μ heap B o) : OBR μ heap' B o := by
  cases o with
  | cells t n ro => obtain ⟨h0, c, el, fz, h1, h2⟩ := ho; exact ⟨h0, c, el, fz, e.trans h1, h2⟩
  | loop _ _ _ _ _ _ _ _ _ => obtain ⟨l, h1, h2⟩ := ho; exact ⟨l, e.trans h1, h2⟩
  | marks => exact e.trans ho

/-- Abstract memory and real memory. Below B0 nothing is written. -/
structure HR (μ : Mu) (B0 : Nat) (h : Heap) (w : World) : Prop where
  fresh : ∀ id B, μ id = some B → id.toNat < h.n.toNat
  live : ∀ id o, h.t.get id = some o → id.toNat < h.n.toNat
  obj : ∀ id B o, μ id = some B → h.t.get id = some o → OBR μ w.heap B o
  sep : ∀ i j A B o p, i ≠ j → μ i = some A → μ j = some B → h.t.get i = some o → h.t.get j = some p → A.b ≠ B.b
  own : ∀ id B o, μ id = some B → h.t.get id = some o → o.isRo = false → B0 ≤ B.b
  glob : Glob μ
  size : B0 ≤ w.heap.size

/-- What has become of memory and of the relation. -/
structure Post (μ : Mu) (B0 : Nat) (h : Heap) (w : World) (μ' : Mu) (h' : Heap) (w' : World) : Prop where
  ext : ∀ id, id.toNat < h.n.toNat → μ' id = μ id
  le : h.n.toNat ≤ h'.n.toNat
  rel : HR μ' B0 h' w'
  below : Below B0 w w'
theorem Post.mu {μ : Mu} {B0 : Nat} {h : Heap} {w : World} {μ' : Mu} {h' : Heap} {w' : World} (hr : HR μ B0 h w) (p : Post μ B0 h w μ' h' w') : μ.le μ' :=
  fun id B e => (p.ext id (hr.fresh id B e)).trans e
theorem Post.refl {μ : Mu} {B0 : Nat} {h : Heap} {w : World} (hr : HR μ B0 h w) : Post μ B0 h w μ h w := ⟨fun _ _ => rfl, Nat.le_refl _, hr, Below.refl _ _⟩
theorem Post.trans {μ : Mu} {B0 : Nat} {h : Heap} {w : World} {μ' : Mu} {h' : Heap} {w' : World} {μ'' : Mu} {h'' : Heap} {w'' : World}
    (p : Post μ B0 h w μ' h' w') (q : Post μ' B0 h' w' μ'' h'' w'') : Post μ B0 h w μ'' h'' w'' :=
  ⟨fun id e => (q.ext id (Nat.lt_of_lt_of_le e p.le)).trans (p.ext id e), Nat.le_trans p.le q.le, q.rel, p.below.trans q.below⟩
/-- Nothing but the count of draws has changed. -/
theorem HR.heapEq {μ : Mu} {B0 : Nat} {h : Heap} {w w' : World} (e : w'.heap = w.heap) (hr : HR μ B0 h w) : HR μ B0 h w' :=
  ⟨hr.fresh, hr.live, fun id B o a b => by rw [e]; exact hr.obj id B o a b, hr.sep, hr.own, hr.glob, by rw [e]; exact hr.size⟩

theorem HR.cellsAt {μ : Mu} {B0 : Nat} {h : Heap} {w : World} {id : Pos} {x : Tr AV × Nat × Bool} (e : cellsAt h id = some x) : h.t.get id = some (.cells x.1 x.2.1 x.2.2) := by
  unfold Ev.cellsAt at e
  cases hg : h.t.get id with
  | none => rw [hg] at e; cases e
  | some o =>
    rw [hg] at e
    cases o with
    | cells t n ro => cases e; rfl
    | loop _ _ _ _ _ _ _ _ _ => cases e
    | marks => cases e

/-- A new block. -/
theorem HR.new {μ : Mu} {B0 : Nat} {h : Heap} {w : World} (hr : HR μ B0 h w) (id : Pos) (hid : μ id = none) (o : AO) (B : Blk) (ob : Obj) (n' : Pos) (hn : h.n.toNat ≤ n'.toNat) (hlt : id.toNat < n'.toNat)
    (hB : B.b = w.heap.size) (t : Tr AO) (ht : ∀ q p, t.get q = some p → (q = id ∧ p = o) ∨ (q ≠ id ∧ h.t.get q = some p))
    (ho : OBR (fun q => if q = id then some B else μ q) (w.heap.push ob) B o) :
    HR (fun q => if q = id then some B else μ q) B0 ⟨t, n'⟩ (w.alloc ob) := by
  have hle : μ.le (fun q => if q = id then some B else μ q) := fun q C e => by
    show (if q = id then some B else μ q) = some C
    rw [if_neg (fun e' => by subst e'; rw [hid] at e; cases e)]; exact e
  have hget : ∀ k, k < w.heap.size → (w.heap.push ob)[k]? = w.heap[k]? := fun k hk => by rw [Array.getElem?_push, if_neg (by omega)]
  refine ⟨?_, ?_, ?_, ?_, ?_, hr.glob.mono hle, Nat.le_trans hr.size (by show w.heap.size ≤ (w.heap.push ob).size; simp)⟩
  · intro q C e
    by_cases hq : q = id
    · subst hq; exact hlt
    · rw [if_neg hq] at e; exact Nat.lt_of_lt_of_le (hr.fresh q C e) hn
  · intro q p e
    rcases ht q p e with ⟨h1, h2⟩ | ⟨h1, h2⟩
    · subst h1; exact hlt
    · exact Nat.lt_of_lt_of_le (hr.live q p h2) hn
  · intro q C p e1 e2
    rcases ht q p e2 with ⟨h1, h2⟩ | ⟨h1, h2⟩
    · subst h1; subst h2
      rw [if_pos rfl] at e1; cases e1
      exact ho
    · rw [if_neg h1] at e1
      have hob := hr.obj q C p e1 h2
      exact (hob.heap (hget _ hob.lt)).mono hle
  · intro i j A C p q hij e1 e2 e3 e4
    rcases ht i p e3 with ⟨h1, h2⟩ | ⟨h1, h2⟩
    · rcases ht j q e4 with ⟨h3, h4⟩ | ⟨h3, h4⟩
      · exact absurd (h1.trans h3.symm) hij
      · rw [if_pos h1] at e1; rw [if_neg h3] at e2
        cases e1
        have := (hr.obj j C q e2 h4).lt
        omega
    · rcases ht j q e4 with ⟨h3, h4⟩ | ⟨h3, h4⟩
      · rw [if_pos h3] at e2; rw [if_neg h1] at e1
        cases e2
        have := (hr.obj i A p e1 h2).lt
        omega
      · rw [if_neg h1] at e1; rw [if_neg h3] at e2
        exact hr.sep i j A C p q hij e1 e2 h2 h4
  · intro q C p e1 e2 e3
    rcases ht q p e2 with ⟨h1, h2⟩ | ⟨h1, h2⟩
    · rw [if_pos h1] at e1; cases e1; rw [hB]; exact hr.size
    · rw [if_neg h1] at e1; exact hr.own q C p e1 h2 e3

/-- A block of the call's own is changed. -/
theorem HR.chg {μ : Mu} {B0 : Nat} {h : Heap} {w w' : World} (hr : HR μ B0 h w) (id : Pos) (B : Blk) (hid : μ id = some B) (o : AO) (hro : o.isRo = false) (o0 : AO) (h0 : h.t.get id = some o0) (hro0 : o0.isRo = false)
    (hb : ∀ k, k ≠ B.b → w'.heap[k]? = w.heap[k]?) (hs : w.heap.size ≤ w'.heap.size) (ho : OBR μ w'.heap B o) (t : Tr AO)
    (ht : ∀ q p, t.get q = some p → (q = id ∧ p = o) ∨ (q ≠ id ∧ h.t.get q = some p)) : HR μ B0 ⟨t, h.n⟩ w' := by
  refine ⟨hr.fresh, ?_, ?_, ?_, ?_, hr.glob, Nat.le_trans hr.size hs⟩
  · intro q p e
    rcases ht q p e with ⟨h1, h2⟩ | ⟨h1, h2⟩
    · subst h1; exact hr.live _ _ h0
    · exact hr.live q p h2
  · intro q C p e1 e2
    rcases ht q p e2 with ⟨h1, h2⟩ | ⟨h1, h2⟩
    · subst h1; subst h2; rw [hid] at e1; cases e1; exact ho
    · exact (hr.obj q C p e1 h2).heap (hb _ (hr.sep q id C B p o0 h1 e1 hid h2 h0))
  · intro i j A C p q hij e1 e2 e3 e4
    have key : ∀ q p, t.get q = some p → ∃ p', h.t.get q = some p' := fun q p e => by
      rcases ht q p e with ⟨h1, h2⟩ | ⟨h1, h2⟩
      · exact ⟨o0, h1 ▸ h0⟩
      · exact ⟨p, h2⟩
    obtain ⟨p', hp'⟩ := key i p e3
    obtain ⟨q', hq'⟩ := key j q e4
    exact hr.sep i j A C p' q' hij e1 e2 hp' hq'
  · intro q C p e1 e2 e3
    rcases ht q p e2 with ⟨h1, h2⟩ | ⟨h1, h2⟩
    · subst h1; exact hr.own _ _ _ e1 h0 hro0
    · exact hr.own q C p e1 h2 e3

/-- A block is forgotten. -/
theorem HR.kill {μ : Mu} {B0 : Nat} {h : Heap} {w : World} (hr : HR μ B0 h w) (id : Pos) : HR μ B0 (kill id h) w := by
  have key : ∀ q p, (Tr.del h.t id).get q = some p → h.t.get q = some p := fun q p e => by
    rw [Tr.get_del] at e
    by_cases hq : q = id
    · rw [if_pos hq] at e; cases e
    · rwa [if_neg hq] at e
  exact ⟨hr.fresh, fun q o e => hr.live q o (key q o e), fun q B o e1 e2 => hr.obj q B o e1 (key q o e2), fun i j A C p q hij e1 e2 e3 e4 => hr.sep i j A C p q hij e1 e2 (key _ _ e3) (key _ _ e4),
    fun q B o e1 e2 e3 => hr.own q B o e1 (key _ _ e2) e3, hr.glob, hr.size⟩
end Go.Ev
