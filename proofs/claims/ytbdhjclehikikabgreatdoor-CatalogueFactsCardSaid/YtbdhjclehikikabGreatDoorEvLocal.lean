/- An operation looks at its own operands' slots alone. -/
import Derived.Test.YtbdhjclehikikabGreatDoorEvStep
namespace Go.Ev
set_option linter.unusedVariables false
set_option linter.unusedSimpArgs false

theorem evs_local {r r' : Tr AV} : ∀ (l : List Operand), (∀ x ∈ l, ev x r = ev x r') → evs l r = evs l r'
  | [], _ => rfl
  | x :: l, h => by
    show AV.cons (ev x r) (evs l r) = AV.cons (ev x r') (evs l r')
    rw [h x (by simp), evs_local l (fun y hy => h y (by simp [hy]))]
theorem fills_local {r r' : Tr AV} (place : Nat → Option (Nat × Nat)) (tot : Nat) : ∀ (ps : List (Nat × Operand)) (l : AV), (∀ p ∈ ps, ev p.2 r = ev p.2 r') → fills place tot ps r l = fills place tot ps r' l
  | [], l, _ => rfl
  | p :: ps, l, h => by
    have h1 := h p (by simp)
    have h2 := fun l => fills_local place tot ps l (fun q hq => h q (by simp [hq]))
    show Option.casesOn (motive := fun _ => Option AV) (place p.1) none (fun q =>
      Bool.casesOn (motive := fun _ => Option AV) (band (band (okV (ev p.2 r)) (Nat.beq (ev p.2 r).cells.len q.2)) (Nat.ble (Nat.add q.1 q.2) tot)) none (fills place tot ps r (splice q.1 l (ev p.2 r).cells))) =
      Option.casesOn (motive := fun _ => Option AV) (place p.1) none (fun q =>
      Bool.casesOn (motive := fun _ => Option AV) (band (band (okV (ev p.2 r')) (Nat.beq (ev p.2 r').cells.len q.2)) (Nat.ble (Nat.add q.1 q.2) tot)) none (fills place tot ps r' (splice q.1 l (ev p.2 r').cells)))
    rw [h1]
    cases place p.1 with
    | none => rfl
    | some q => simp only [h2]
def OCloc (r r' : Tr AV) : OC → Prop
  | .bad => True
  | .pure f => ∀ P, f P r = f P r'
  | .load f => ∀ P h, f P r h = f P r' h
  | .alloc f => ∀ P, f P r = f P r'
  | .eff f => ∀ P h, f P r h = f P r' h
theorem map_local {r r' : Tr AV} (o : Option Operand) (h : ∀ x, o = some x → ev x r = ev x r') : o.map (ev · r) = o.map (ev · r') := by
  cases o with
  | none => rfl
  | some x => simp [h x rfl]
theorem cls_local {r r' : Tr AV} (o : Op) (h : ∀ x ∈ o.operands.toList, ev x r = ev x r') : OCloc r r' (cls o) := by
  unfold cls
  split
  · rename_i x; intro P; simp only [xMove, h x (by simp [Op.operands])]
  · rename_i x; intro P; simp only [xMove, h x (by simp [Op.operands])]
  · rename_i c x y; intro P; simp only [xPick, h c (by simp [Op.operands]), h x (by simp [Op.operands]), h y (by simp [Op.operands])]
  · intro P; rfl
  · rename_i t x; intro P; simp only [xBox, h x (by simp [Op.operands])]
  · rename_i t ps; intro P; simp only [xBuild, fills_local (r := r) (r' := r') _ _ ps.toList _ (fun p hp => h p.2 (by simp only [Op.operands, List.mem_map]; exact ⟨p, hp, rfl⟩))]
  · rename_i t n ps; intro P; simp only [xBuildSlice, fills_local (r := r) (r' := r') _ _ ps.toList _ (fun p hp => h p.2 (by simp only [Op.operands, List.mem_map]; exact ⟨p, hp, rfl⟩))]
  · rename_i t x; intro P hp; simp only [xLoad, h x (by simp [Op.operands])]
  · rename_i t x y; intro P hp; simp only [xStore, h x (by simp [Op.operands]), h y (by simp [Op.operands])]
  · rename_i x; intro P; simp only [xNilCheck, h x (by simp [Op.operands])]
  · rename_i op t x y u; intro P; simp only [xBin, h x (by simp [Op.operands]), h y (by simp [Op.operands])]
  · rename_i op t x; intro P; simp only [xUn, h x (by simp [Op.operands])]
  · rename_i a b x; intro P hp; simp only [xConvert, h x (by simp [Op.operands])]
  · rename_i t x; intro P; simp only [xMakeInterface, h x (by simp [Op.operands])]
  · rename_i f a c; intro P
    simp only [xMakeFunc, evs_local (r := r) (r' := r') a.toList (fun x hx => h x (by simp [Op.operands] at hx ⊢; exact .inl hx)), evs_local (r := r) (r' := r') c.toList (fun x hx => h x (by simp [Op.operands] at hx ⊢; exact .inr hx))]
  · rename_i t x y; intro P; simp only [xMakeSlice, h x (by simp [Op.operands]), h y (by simp [Op.operands])]
  · rename_i t x lo hi mx; intro P hp
    have e1 := h x (by simp [Op.operands])
    have e2 := map_local (r := r) (r' := r') lo (fun y hy => h y (by subst hy; simp [Op.operands]))
    have e3 := map_local (r := r) (r' := r') hi (fun y hy => h y (by subst hy; simp [Op.operands]))
    simp only [xSliceL, xSlice, e1, e2, e3]
  · rename_i t x f; intro P; simp only [xFieldAddr, h x (by simp [Op.operands])]
  · rename_i t x f; intro P; simp only [xField, h x (by simp [Op.operands])]
  · rename_i t x y; intro P; simp only [xIndexAddr, h x (by simp [Op.operands]), h y (by simp [Op.operands])]
  · rename_i t x y; intro P; simp only [xIndex, h x (by simp [Op.operands]), h y (by simp [Op.operands])]
  · rename_i x i; intro P; simp only [xExtract, h x (by simp [Op.operands])]
  · rename_i c
    obtain ⟨cl, as, ts⟩ := c
    unfold callC
    cases cl with
    | value f =>
      intro P hp
      simp only [h f (by simp [Op.operands, Call.operands]), evs_local (r := r) (r' := r') as.toList (fun x hx => h x (by simp [Op.operands, Call.operands] at hx ⊢; exact .inr hx))]
    | invoke _ _ => trivial
    | builtin b =>
      have e := evs_local (r := r) (r' := r') as.toList (fun x hx => h x (by simp [Op.operands, Call.operands] at hx ⊢; exact hx))
      simp only
      unfold builtinC
      cases b <;> first
        | trivial
        | (intro P hp; simp only [e]; done)
        | (intro P; simp only [e]; done)
  · trivial
theorem xOp_local {r r' : Tr AV} (o : Op) (h : ∀ x ∈ o.operands.toList, ev x r = ev x r') (P : Program) (hp : Heap) : xOp o P r hp = xOp o P r' hp := by
  have hl := cls_local o h
  unfold xOp
  cases hc : cls o with
  | bad => rfl
  | pure f => rw [hc] at hl; simp only [show f P r = f P r' from hl P]
  | load f => rw [hc] at hl; simp only [show f P r hp = f P r' hp from hl P hp]
  | alloc f => rw [hc] at hl; simp only [show f P r = f P r' from hl P]
  | eff f => rw [hc] at hl; exact hl P hp

/-- The slots that an operand reads. -/
theorem ev_slot {r r' : Tr AV} (x : Operand) (h : ∀ t, x = .tmp t → r.get (pathOf t) = r'.get (pathOf t)) : ev x r = ev x r' := by
  cases x with
  | tmp t => show gv _ = gv _; rw [h t rfl]
  | _ => rfl

/-! ### Bits -/
theorem hasBit_iff (m t : Nat) : hasBit m t = true ↔ m.testBit t = true := by
  unfold hasBit
  rw [Nat.testBit_eq_decide_div_mod_eq]
  rw [show Nat.land (Nat.shiftRight m t) 1 = (m >>> t) &&& 1 from rfl, Nat.and_one_is_mod, Nat.shiftRight_eq_div_pow]
  rw [Nat.beq_eq]
  simp
theorem bit_test (t s : Nat) : (bit t).testBit s = decide (t = s) := by
  show (1 <<< t).testBit s = _
  rw [Nat.one_shiftLeft, Nat.testBit_two_pow]
theorem lor_test (a b s : Nat) : (Nat.lor a b).testBit s = (a.testBit s || b.testBit s) := Nat.testBit_or a b s
theorem land0_test {a b : Nat} (h : Nat.beq (Nat.land a b) 0 = true) (s : Nat) : ¬ (a.testBit s = true ∧ b.testBit s = true) := by
  rintro ⟨h1, h2⟩
  have h0 : a &&& b = 0 := Nat.eq_of_beq_eq_true h
  have := Nat.testBit_and a b s
  rw [h0, h1, h2] at this
  simp at this
end Go.Ev
