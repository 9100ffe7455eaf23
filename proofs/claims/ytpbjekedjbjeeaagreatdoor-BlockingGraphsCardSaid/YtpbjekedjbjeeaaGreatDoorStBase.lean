/- Contracts of Go's library: internal/stringslite.IndexByte, strconv.ParseUint of what spells a number. -/
import Derived.Test.YtpbjekedjbjeeaaGreatDoorSyR3
import Derived.Test.YtpbjekedjbjeeaaGreatDoorSyDec
import Derived.Test.YtpbjekedjbjeeaaGreatDoorSyShelf
import Derived.Test.YtpbjekedjbjeeaaGreatDoorSyC3
import Derived.Test.YtpbjekedjbjeeaaGreatDoorSyV6
import Derived.Test.YtpbjekedjbjeeaaGreatDoorSyZ
namespace Go.Sy
open Go.RowKit Go.Proofs Go.Shelf
set_option linter.unusedVariables false
set_option maxRecDepth 1000000
set_option maxHeartbeats 0
attribute [local instance] tb0
theorem hasbodyL {f : FuncId} {fn : Func} (h : Tryz.prog.funcs[f]? = some fn) (hb : fn.body.isSome = true) : ∃ fn, Tryz.prog.funcs[f]? = some fn ∧ fn.body.isSome = true := ⟨fn, h, hb⟩
theorem bytes_back {s : List Nat} {bs : ByteArray} (hb : bs.data.toList.map UInt8.toNat = s) : s.map Nat.toUInt8 = bs.data.toList := by
  rw [← hb, List.map_map]
  conv => rhs; rw [← List.map_id bs.data.toList]
  apply List.map_congr_left
  intro x _
  exact UInt8.ofNat_toNat
theorem str_of {μ : Mu} {s : List Nat} {a : Value} (h : VR1 μ (.str s) a) : ∃ bs : ByteArray, a = .string bs ∧ bs.data.toList.map UInt8.toNat = s := by
  obtain ⟨bs, ha, hb⟩ := h
  exact ⟨bs, by simpa using ha, hb⟩
theorem int_of {μ : Mu} {k : IntKind} {n : Int} {a : Value} (h : VR1 μ (.int k n) a) : a = .int k n := by
  have h : [a] = [Value.int k n] := h
  simpa using h
/-- The index of a byte. -/
def ixByte (s : List Nat) (c : Int) : Int := Lib.indexByte (s.map Nat.toUInt8) c.toNat.toUInt8
theorem c_IndexByte (s : List Nat) (c : Int) : PFp 328 (.cons (eStr.v s) (.cons ((eInt .u8).v c) .nil)) ((eInt .i64).v (ixByte s c)) := by
  intro sl w hs _ cargs hv
  obtain ⟨a, r, h1, h2, b, q, h3, h4, h5⟩ := hv
  obtain ⟨bs, rfl, hb⟩ := str_of h2
  have h4 := int_of h4
  have h5 : q = [] := h5
  subst h5 h4 h3
  have hc : cargs = #[.string bs, .int .u8 c] := by cases cargs; simp at h1; rw [h1]
  subst hc
  refine (Tryz.stringslite_IndexByte bs c w).mono fun e w' ⟨he, hw⟩ => ?_
  subst hw
  refine ⟨_, sl, he, Grow.refl _ _, hs, ?_, Below.refl _ _⟩
  show [_] = [_]
  unfold ixByte
  rw [bytes_back hb]
noncomputable def n_IndexByte : Cn Tryz.prog := .of2 eStr (eInt .u8) (eInt .i64) 328 true (fun _ _ => True) ixByte (fun _ y x hx => by rw [List.mem_singleton.1 hx]; rfl) (fun s c _ => c_IndexByte s c) (hasbodyL rfl rfl)
noncomputable def d_IndexByte : Dc Tryz.prog := ⟨n_IndexByte, dec2 rStr (rInt .u8), fun _ => true, fun _ _ h => dec2_ok h, fun _ _ => trivial⟩
/-- What strconv.ParseUint(s, 10, 32) reads. -/
def puOf (s : List Nat) : Option Nat := match Lib.parseUintB 32 (s.map Nat.toUInt8) with | .ok u => some u | _ => none
theorem c_ParseU (s : List Nat) (u : Nat) (hn : s.length ≤ 9223372036854775806) (h : puOf s = some u) : PFp 260 (.cons (.str s) (.cons (.int .i64 10) (.cons (.int .i64 32) .nil))) (.tup (.cons (.int .u64 u) (.cons .nili .nil))) := by
  intro sl w hs _ cargs hv
  obtain ⟨a, r, h1, h2, b, q, h3, h4, c, p, h5, h6, h7⟩ := hv
  obtain ⟨bs, rfl, hb⟩ := str_of h2
  have h4 := int_of h4
  have h6 := int_of h6
  have h7 : p = [] := h7
  subst h7 h6 h5 h4 h3
  have hc : cargs = #[.string bs, .int .i64 10, .int .i64 32] := by cases cargs; simp at h1; rw [h1]
  subst hc
  have hp : Lib.parseUintB 32 bs.data.toList = .ok u := by
    unfold puOf at h
    rw [bytes_back hb] at h
    split at h
    · rename_i v hv; cases h; exact hv
    · cases h
  have hsz : bs.size ≤ 9223372036854775806 := by
    rw [← hb] at hn
    simpa using hn
  refine (Tryz.strconv_ParseUint_10_at32_ok bs hsz u hp w).mono fun e w' ⟨he, hw⟩ => ?_
  have hbl : Below w.heap.size w w' := by
    rcases hw with rfl | rfl
    · exact Below.refl _ _
    · exact Lib.bytesWorld_below _ _ _
  refine ⟨_, sl, he, Grow.refl _ _, fun b x e => ?_, ⟨_, rfl, _, _, rfl, rfl, _, _, rfl, rfl, rfl⟩, hbl⟩
  obtain ⟨el, fz, h1⟩ := hs b x e
  exact ⟨el, fz, (hbl.block b (Array.getElem?_eq_some_iff.1 h1).1).trans h1⟩
noncomputable def n_ParseU : Cn Tryz.prog where
  f := 260
  flat := false
  α := List Nat × Nat
  «as» := fun s => .cons (.str s.1) (.cons (.int .i64 10) (.cons (.int .i64 32) .nil))
  v := fun s => .tup (.cons (.int .u64 s.2) (.cons .nili .nil))
  ok := fun s => s.1.length ≤ 9223372036854775806 ∧ puOf s.1 = some s.2
  inj := fun a b ha hb h => by
    injection h with h _
    injection h with h
    have h2 := hb.2
    rw [← h, ha.2] at h2
    rw [Option.some.inj h2]
  dp := fun a => ⟨trivial, trivial, trivial, trivial⟩
  pv := fun a => .tup (.cons .int (.cons (fun _ _ _ _ h => h) .nil))
  fl := fun h => by cases h
  pf := fun a h => c_ParseU a.1 a.2 h.1 h.2
  bd := hasbodyL rfl rfl
noncomputable def decPU (l : AV) : Option (List Nat × Nat) := match l with | .cons (.str s) (.cons (.int .i64 n) (.cons (.int .i64 m) .nil)) => bB (band (ieq n 10) (ieq m 32)) (oB (puOf s) fun u => some (s, u)) | _ => none
theorem decPU_ok {l : AV} {a : List Nat × Nat} (h : decPU l = some a) : AV.cons (.str a.1) (.cons (.int .i64 10) (.cons (.int .i64 32) .nil)) = l ∧ puOf a.1 = some a.2 := by
  unfold decPU at h
  split at h
  · obtain ⟨h1, h⟩ := bB_some h
    obtain ⟨u, h2, h3⟩ := oB_some h
    cases h3
    obtain ⟨h4, h5⟩ := band_iff.1 h1
    rw [ieq_iff.1 h4, ieq_iff.1 h5]
    exact ⟨rfl, h2⟩
  · cases h
noncomputable def d_ParseU : Dc Tryz.prog := ⟨n_ParseU, decPU, fun a => band (Nat.ble a.1.length 9223372036854775806) (match puOf a.1 with | some u => Nat.beq u a.2 | none => false), fun _ _ h => (decPU_ok h).1, fun a h => by
  obtain ⟨h1, h2⟩ := band_iff.1 h
  refine ⟨Nat.le_of_ble_eq_true h1, ?_⟩
  split at h2
  · rename_i u hu; rw [hu, Nat.eq_of_beq_eq_true h2]
  · cases h2⟩
end Go.Sy
/- The tables among the package-level variables; what is known beforehand. -/
namespace Go.Sy
open Go.RowKit Go.Proofs
set_option linter.unusedVariables false
set_option maxRecDepth 1000000
set_option maxHeartbeats 0
def pow10 : List Int := [1, 10, 100, 1000, 10000, 100000, 1000000, 10000000, 100000000, 1000000000, 10000000000, 100000000000, 1000000000000, 10000000000000, 100000000000000, 1000000000000000, 10000000000000000, 100000000000000000, 1000000000000000000, 10000000000000000000]
def deB64 : List Int := [0, 1, 56, 2, 57, 49, 28, 3, 61, 58, 42, 50, 38, 29, 17, 4, 62, 47, 59, 36, 45, 43, 51, 22, 53, 39, 33, 30, 24, 18, 12, 5, 63, 55, 48, 27, 60, 41, 37, 16, 46, 35, 44, 21, 52, 32, 23, 11, 54, 26, 40, 15, 34, 20, 31, 10, 25, 14, 19, 9, 13, 8, 7, 6]
def deB32 : List Int := [0, 1, 28, 2, 29, 14, 24, 3, 30, 22, 20, 15, 25, 17, 4, 8, 31, 27, 13, 23, 21, 19, 16, 7, 26, 12, 18, 6, 11, 5, 10, 9]
noncomputable instance tb1 : Tabs := ⟨[(intsAV .u64 pow10, 20), (.undef, 0), (intsAV .u8 deB64, 64), (intsAV .u8 deB32, 32)], 0⟩
noncomputable def dc0 : List (Dc Tryz.prog) := (d_IndexByte :: d_ParseU :: (dcVec ++ (dcCell ++ dcRat))).map (Dc.lift tb1)
noncomputable def ov0 : Tgt → AV → Heap → Option CR := ovD (dcTab dc0)
theorem ov0_ok (B0 : Nat) : OvOK Tryz.prog B0 ov0 := ovD_ok p_callable _ B0
end Go.Sy
