/- Contracts of Go's library: internal/stringslite.IndexByte, strconv.ParseUint of what spells a number. -/
import Derived.Test.YtemoafmennfhhaaGreatDoorSyR3
import Derived.Test.YtemoafmennfhhaaGreatDoorSyDec
import Derived.Test.YtemoafmennfhhaaGreatDoorSyShelf
import Derived.Test.YtemoafmennfhhaaGreatDoorSyC3
import Derived.Test.YtemoafmennfhhaaGreatDoorSyV6
import Derived.Test.YtemoafmennfhhaaGreatDoorSyAlt4
namespace Go.Sy
open Go.RowKit Go.Proofs Go.Shelf
set_option linter.unusedVariables false
set_option maxRecDepth 1000000
set_option maxHeartbeats 0
attribute [local instance] tb0
theorem hasbodyL {f : FuncId} {fn : Func} (h : Tryz.prog.funcs[f]? = some fn) (hb : fn.body.isSome = true) : ∃ fn,Tryz.prog.funcs[f]? = some fn∧fn.body.isSome = true:=⟨fn,h,hb⟩
theorem bytes_back {s : List Nat} {bs : ByteArray} (hb : bs.data.toList.map UInt8.toNat = s) : s.map Nat.toUInt8 = bs.data.toList:=by
  rw [← hb,List.map_map]
  conv=>rhs; rw [← List.map_id bs.data.toList]
  apply List.map_congr_left
  intro x _
  exact UInt8.ofNat_toNat
theorem str_of {μ : Mu} {s : List Nat} {a : Value} (h : VR1 μ (.str s) a) : ∃ bs : ByteArray,a = .string bs∧bs.data.toList.map UInt8.toNat = s:=by
  obtain ⟨bs,ha,hb⟩:=h
  exact ⟨bs,by simpa using ha,hb⟩
theorem int_of {μ : Mu} {k : IntKind} {n : Int} {a : Value} (h : VR1 μ (.int k n) a) : a = .int k n:=by
  have h : [a] = [Value.int k n]:=h
  simpa using h
def ixByte (s : List Nat) (c : Int) : Int:=Lib.indexByte (s.map Nat.toUInt8) c.toNat.toUInt8
theorem c_IndexByte (s : List Nat) (c : Int) : PFp 356 (.cons (eStr.v s) (.cons ((eInt .u8).v c) .nil)) ((eInt .i64).v (ixByte s c)):=by
  intro sl w hs _ cargs hv
  obtain ⟨a,r,h1,h2,b,q,h3,h4,h5⟩:=hv
  obtain ⟨bs,rfl,hb⟩:=str_of h2
  have h4:=int_of h4
  have h5 : q = []:=h5
  subst h5 h4 h3
  have hc : cargs = #[.string bs,.int .u8 c]:=by cases cargs; simp at h1; rw [h1]
  subst hc
  refine (Tryz.stringslite_IndexByte bs c w).mono fun e w' ⟨he,hw⟩=>?_
  subst hw
  refine ⟨_,sl,he,Grow.refl _ _,hs,?_,Below.refl _ _⟩
  show [_] = [_]
  unfold ixByte
  rw [bytes_back hb]
noncomputable def n_IndexByte : Cn Tryz.prog:=.of2 eStr (eInt .u8) (eInt .i64) 356 true (fun _ _=>True) ixByte (fun _ y x hx=>by rw [List.mem_singleton.1 hx]; rfl) (fun s c _=>c_IndexByte s c) (hasbodyL rfl rfl)
noncomputable def d_IndexByte : Dc Tryz.prog:=⟨n_IndexByte,dec2 rStr (rInt .u8),fun _=>true,fun _ _ h=>dec2_ok h,fun _ _=>trivial⟩
def puOf (s : List Nat) : Option Nat:=match Lib.parseUintB 32 (s.map Nat.toUInt8) with | .ok u=>some u | _=>none
theorem c_ParseU (s : List Nat) (u : Nat) (hn : s.length ≤ 9223372036854775806) (h : puOf s = some u) : PFp 260 (.cons (.str s) (.cons (.int .i64 10) (.cons (.int .i64 32) .nil))) (.tup (.cons (.int .u64 u) (.cons .nili .nil))):=by
  intro sl w hs _ cargs hv
  obtain ⟨a,r,h1,h2,b,q,h3,h4,c,p,h5,h6,h7⟩:=hv
  obtain ⟨bs,rfl,hb⟩:=str_of h2
  have h4:=int_of h4
  have h6:=int_of h6
  have h7 : p = []:=h7
  subst h7 h6 h5 h4 h3
  have hc : cargs = #[.string bs,.int .i64 10,.int .i64 32]:=by cases cargs; simp at h1; rw [h1]
  subst hc
  have hp : Lib.parseUintB 32 bs.data.toList = .ok u:=by
    unfold puOf at h
    rw [bytes_back hb] at h
    split at h
    · rename_i v hv; cases h; exact hv
    · cases h
  have hsz : bs.size ≤ 9223372036854775806:=by
    rw [← hb] at hn
    simpa using hn
  refine (Tryz.strconv_ParseUint_10_at32_ok bs hsz u hp w).mono fun e w' ⟨he,hw⟩=>?_
  have hbl : Below w.heap.size w w':=by
    rcases hw with rfl | rfl
    · exact Below.refl _ _
    · exact Lib.bytesWorld_below _ _ _
  refine ⟨_,sl,he,Grow.refl _ _,fun b x e=>?_,⟨_,rfl,_,_,rfl,rfl,_,_,rfl,rfl,rfl⟩,hbl⟩
  obtain ⟨el,fz,h1⟩:=hs b x e
  exact ⟨el,fz,(hbl.block b (Array.getElem?_eq_some_iff.1 h1).1).trans h1⟩
noncomputable def n_ParseU : Cn Tryz.prog where
  f:=260
  flat:=false
  α:=List Nat × Nat
  «as»:=fun s=>.cons (.str s.1) (.cons (.int .i64 10) (.cons (.int .i64 32) .nil))
  v:=fun s=>.tup (.cons (.int .u64 s.2) (.cons .nili .nil))
  ok:=fun s=>s.1.length ≤ 9223372036854775806∧puOf s.1 = some s.2
  inj:=fun a b ha hb h=>by
    injection h with h _
    injection h with h
    have h2:=hb.2
    rw [← h,ha.2] at h2
    rw [Option.some.inj h2]
  dp:=fun a=>⟨trivial,trivial,trivial,trivial⟩
  pv:=fun a=>.tup (.cons .int (.cons (fun _ _ _ _ h=>h) .nil))
  fl:=fun h=>by cases h
  pf:=fun a h=>c_ParseU a.1 a.2 h.1 h.2
  bd:=hasbodyL rfl rfl
noncomputable def decPU (l : AV) : Option (List Nat × Nat):=match l with | .cons (.str s) (.cons (.int .i64 n) (.cons (.int .i64 m) .nil))=>bB (band (ieq n 10) (ieq m 32)) (oB (puOf s) fun u=>some (s,u)) | _=>none
theorem decPU_ok {l : AV} {a : List Nat × Nat} (h : decPU l = some a) : AV.cons (.str a.1) (.cons (.int .i64 10) (.cons (.int .i64 32) .nil)) = l∧puOf a.1 = some a.2:=by
  unfold decPU at h
  split at h
  · obtain ⟨h1,h⟩:=bB_some h
    obtain ⟨u,h2,h3⟩:=oB_some h
    cases h3
    obtain ⟨h4,h5⟩:=band_iff.1 h1
    rw [ieq_iff.1 h4,ieq_iff.1 h5]
    exact ⟨rfl,h2⟩
  · cases h
noncomputable def d_ParseU : Dc Tryz.prog:=⟨n_ParseU,decPU,fun a=>band (Nat.ble a.1.length 9223372036854775806) (match puOf a.1 with | some u=>Nat.beq u a.2 | none=>false),fun _ _ h=>(decPU_ok h).1,fun a h=>by
  obtain ⟨h1,h2⟩:=band_iff.1 h
  refine ⟨Nat.le_of_ble_eq_true h1,?_⟩
  split at h2
  · rename_i u hu; rw [hu,Nat.eq_of_beq_eq_true h2]
  · cases h2⟩
end Go.Sy
namespace Go.Sy
open Go.RowKit Go.Proofs
set_option linter.unusedVariables false
set_option maxRecDepth 1000000
set_option maxHeartbeats 0
def pow10 : List Int:=[1,10,100,1000,10000,100000,1000000,10000000,100000000,1000000000,10000000000,100000000000,1000000000000,10000000000000,100000000000000,1000000000000000,10000000000000000,100000000000000000,1000000000000000000,10000000000000000000]
def deB64 : List Int:=[0,1,56,2,57,49,28,3,61,58,42,50,38,29,17,4,62,47,59,36,45,43,51,22,53,39,33,30,24,18,12,5,63,55,48,27,60,41,37,16,46,35,44,21,52,32,23,11,54,26,40,15,34,20,31,10,25,14,19,9,13,8,7,6]
def deB32 : List Int:=[0,1,28,2,29,14,24,3,30,22,20,15,25,17,4,8,31,27,13,23,21,19,16,7,26,12,18,6,11,5,10,9]
noncomputable instance tb1 : Tabs:=⟨[(intsAV .u64 pow10,20),(intsAV .u8 deB32,32),(intsAV .u8 deB64,64)],0⟩
noncomputable def dc0 : List (Dc Tryz.prog):=(d_IndexByte::d_ParseU::(dcVec++(dcCell++dcRat))).map (Dc.lift tb1)
noncomputable def ov0 : Tgt → AV → Heap → Option CR:=ovD (dcTab dc0)
theorem ov0_ok (B0 : Nat) : OvOK Tryz.prog B0 ov0:=ovD_ok p_callable _ B0
end Go.Sy
namespace Go.Sy
open Go.RowKit Go.Proofs
set_option linter.unusedVariables false
set_option maxRecDepth 1000000
set_option maxHeartbeats 0
noncomputable section
def stv0 : AV:=(.tup (.cons (.agg (qz [1] .nil)) (.cons (.int .i64 0) .nil)))
def stv1 : AV:=(.tup (.cons (.agg (qz [0] .nil)) (.cons (.int .i64 0) .nil)))
def stv2 : AV:=(.tup (.cons (.agg (qz [-1] .nil)) (.cons (.int .i64 0) .nil)))
def stv3 : AV:=(.tup (.cons (.agg (qz [-1,0,0] .nil)) (.cons (.int .i64 0) .nil)))
def stv4 : AV:=(.tup (.cons (.agg (qz [0,0,-1] .nil)) (.cons (.int .i64 0) .nil)))
def stv5 : AV:=(.tup (.cons (.agg (qz [0,-1,0] .nil)) (.cons (.int .i64 0) .nil)))
def stv6 : AV:=(.tup (.cons (.agg (qz [0,0,1] .nil)) (.cons (.int .i64 0) .nil)))
def stv7 : AV:=(.tup (.cons (.agg (qz [0,1,0] .nil)) (.cons (.int .i64 0) .nil)))
def stv8 : AV:=(.tup (.cons (.agg (qz [1,0,0] .nil)) (.cons (.int .i64 0) .nil)))
def stv9 : AV:=(.agg (iz .i64 [1,0,0,0] (.cons (.str [48]) (.cons (.str [48]) (.cons (.str [48]) .nil)))))
def stv10 : AV:=(.agg (qz [1,0,0,0,1,0,0,0,1,0,0,0] .nil))
def stv11 : AV:=(.tup (.cons (.agg (qz [0,0,0] .nil)) (.cons (.int .i64 19) .nil)))
def stv12 : AV:=(.agg (qd [(-1,1),(0,1),(0,1)] .nil))
def stv13 : AV:=(.agg (qd [(0,1),(0,1),(-1,1)] .nil))
def stv14 : AV:=(.agg (qd [(0,1),(-1,1),(0,1)] .nil))
def stv15 : AV:=(.agg (qd [(0,1),(0,1),(1,1)] .nil))
def stv16 : AV:=(.agg (qd [(0,1),(1,1),(0,1)] .nil))
def stv17 : AV:=(.agg (qd [(1,1),(0,1),(0,1)] .nil))
def stv18 : AV:=(.ro 3 (qd [(0,1),(0,1),(1,1),(0,1),(1,1),(0,1),(1,1),(0,1),(0,1)] .nil))
def stv19 : AV:=(.tup (.cons (bxi 0 0 8 2 2 10) (.cons (.int .i64 0) .nil)))
def stv20 : AV:=(.tup (.cons (bxi 0 0 10 2 2 12) (.cons (.int .i64 0) .nil)))
def stv21 : AV:=(.tup (.cons (bxi 0 0 9 3 3 12) (.cons (.int .i64 0) .nil)))
def stv22 : AV:=(.tup (.cons (bxi 0 0 12 3 3 15) (.cons (.int .i64 0) .nil)))
def stv23 : AV:=(.tup (.cons (bxi 0 0 15 3 3 18) (.cons (.int .i64 0) .nil)))
def stv24 : AV:=(.tup (.cons (bxi 0 0 8 4 4 12) (.cons (.int .i64 0) .nil)))
def stv25 : AV:=(.tup (.cons (bxi 0 0 12 4 4 16) (.cons (.int .i64 0) .nil)))
def stv26 : AV:=(.tup (.cons (bxi 0 0 16 4 4 20) (.cons (.int .i64 0) .nil)))
def stv27 : AV:=(.tup (.cons (bxi 0 0 20 4 4 24) (.cons (.int .i64 0) .nil)))
def stv28 : AV:=(.tup (.cons (bx 0 1 1 1 1 0 0 0 0 3 1 1) (.cons (.int .i64 0) .nil)))
def stv29 : AV:=(.tup (.cons (bx 0 1 1 1 1 0 0 2 0 3 3 1) (.cons (.int .i64 0) .nil)))
def stv30 : AV:=(.agg (.cons (bxI 1 1 (-1) 2 2 2) .nil))
def stv31 : AV:=(.tup (.cons (bx 1 0 1 0 1 1 1 1 (-1) 2 2 2) (.cons (.int .i64 0) .nil)))
def stv32 : AV:=(.ro 3 (qd [(0,1),(0,1),(1,1),(0,0),(1,0),(0,0),(1,0),(0,0),(0,0)] .nil))
def stv33 : AV:=(.ro 3 (qd [(0,0),(0,0),(1,0),(0,0),(1,0),(0,0),(1,1),(0,1),(0,1)] .nil))
def stv34 : AV:=(.tup (.cons (bx 0 1 1 1 1 0 0 0 0 5 1 1) (.cons (.int .i64 0) .nil)))
def stv35 : AV:=(.tup (.cons (bx 0 1 1 1 1 0 0 2 0 5 3 1) (.cons (.int .i64 0) .nil)))
def stv36 : AV:=(.agg (.cons (bxI 3 1 (-1) 4 2 2) .nil))
def stv37 : AV:=(.tup (.cons (bx 1 0 1 0 1 1 3 1 (-1) 4 2 2) (.cons (.int .i64 0) .nil)))
def stv38 : AV:=(.tup (.cons (bx 0 1 1 1 1 0 0 0 0 7 1 1) (.cons (.int .i64 0) .nil)))
def stv39 : AV:=(.tup (.cons (bx 0 1 1 1 1 0 0 2 0 7 3 1) (.cons (.int .i64 0) .nil)))
def stv40 : AV:=(.agg (.cons (bxI 5 1 (-1) 6 2 2) .nil))
def stv41 : AV:=(.tup (.cons (bx 1 0 1 0 1 1 5 1 (-1) 6 2 2) (.cons (.int .i64 0) .nil)))
def stv42 : AV:=(.agg (.cons (bxI 2 2 (-2) 4 4 4) .nil))
def stv43 : AV:=(.tup (.cons (bxi 2 2 (-2) 4 4 4) (.cons (.int .i64 0) .nil)))
def stv44 : AV:=(.tup (.cons (bxi 8 2 0 10 4 2) (.cons (.int .i64 0) .nil)))
def stv45 : AV:=(.tup (.cons (bxi 0 0 0 10 2 2) (.cons (.int .i64 0) .nil)))
def stv46 : AV:=(.tup (.cons (bxi 0 4 0 10 6 2) (.cons (.int .i64 0) .nil)))
def stv47 : AV:=(.agg (.cons (bxI 6 2 (-2) 8 4 4) .nil))
def stv48 : AV:=(.tup (.cons (bxi 6 2 (-2) 8 4 4) (.cons (.int .i64 0) .nil)))
def stv49 : AV:=(.tup (.cons (bxi 12 2 0 14 4 2) (.cons (.int .i64 0) .nil)))
def stv50 : AV:=(.tup (.cons (bxi 0 0 0 14 2 2) (.cons (.int .i64 0) .nil)))
def stv51 : AV:=(.tup (.cons (bxi 0 4 0 14 6 2) (.cons (.int .i64 0) .nil)))
def stv52 : AV:=(.agg (.cons (bxI 10 2 (-2) 12 4 4) .nil))
def stv53 : AV:=(.tup (.cons (bxi 10 2 (-2) 12 4 4) (.cons (.int .i64 0) .nil)))
def stv54 : AV:=(.agg (.cons (bxI 3 3 (-3) 6 6 6) .nil))
def stv55 : AV:=(.tup (.cons (bxi 3 3 (-3) 6 6 6) (.cons (.int .i64 0) .nil)))
def stv56 : AV:=(.tup (.cons (bxi 12 3 0 15 6 3) (.cons (.int .i64 0) .nil)))
def stv57 : AV:=(.tup (.cons (bxi 0 0 0 15 3 3) (.cons (.int .i64 0) .nil)))
def stv58 : AV:=(.tup (.cons (bxi 0 6 0 15 9 3) (.cons (.int .i64 0) .nil)))
def stv59 : AV:=(.agg (.cons (bxI 9 3 (-3) 12 6 6) .nil))
def stv60 : AV:=(.tup (.cons (bxi 9 3 (-3) 12 6 6) (.cons (.int .i64 0) .nil)))
def stv61 : AV:=(.tup (.cons (bxi 18 3 0 21 6 3) (.cons (.int .i64 0) .nil)))
def stv62 : AV:=(.tup (.cons (bxi 0 0 0 21 3 3) (.cons (.int .i64 0) .nil)))
def stv63 : AV:=(.tup (.cons (bxi 0 6 0 21 9 3) (.cons (.int .i64 0) .nil)))
def stv64 : AV:=(.agg (.cons (bxI 15 3 (-3) 18 6 6) .nil))
def stv65 : AV:=(.tup (.cons (bxi 15 3 (-3) 18 6 6) (.cons (.int .i64 0) .nil)))
def stv66 : AV:=(.tup (.cons (bxi 8 4 0 12 8 4) (.cons (.int .i64 0) .nil)))
def stv67 : AV:=(.tup (.cons (bxi 0 0 0 12 4 4) (.cons (.int .i64 0) .nil)))
def stv68 : AV:=(.tup (.cons (bxi 0 8 0 12 12 4) (.cons (.int .i64 0) .nil)))
def stv69 : AV:=(.agg (.cons (bxI 4 4 (-4) 8 8 8) .nil))
def stv70 : AV:=(.tup (.cons (bxi 4 4 (-4) 8 8 8) (.cons (.int .i64 0) .nil)))
def stv71 : AV:=(.tup (.cons (bxi 16 4 0 20 8 4) (.cons (.int .i64 0) .nil)))
def stv72 : AV:=(.tup (.cons (bxi 0 0 0 20 4 4) (.cons (.int .i64 0) .nil)))
def stv73 : AV:=(.tup (.cons (bxi 0 8 0 20 12 4) (.cons (.int .i64 0) .nil)))
def stv74 : AV:=(.agg (.cons (bxI 12 4 (-4) 16 8 8) .nil))
def stv75 : AV:=(.tup (.cons (bxi 12 4 (-4) 16 8 8) (.cons (.int .i64 0) .nil)))
def stv76 : AV:=(.tup (.cons (bxi 24 4 0 28 8 4) (.cons (.int .i64 0) .nil)))
def stv77 : AV:=(.tup (.cons (bxi 0 0 0 28 4 4) (.cons (.int .i64 0) .nil)))
def stv78 : AV:=(.tup (.cons (bxi 0 8 0 28 12 4) (.cons (.int .i64 0) .nil)))
def stv79 : AV:=(.agg (.cons (bxI 20 4 (-4) 24 8 8) .nil))
def stv80 : AV:=(.tup (.cons (bxi 20 4 (-4) 24 8 8) (.cons (.int .i64 0) .nil)))
def stv81 : AV:=(.tup (.cons (bx 0 1 1 1 1 0 0 0 2 2 1 3) (.cons (.int .i64 0) .nil)))
def stv82 : AV:=(.tup (.cons (bx 0 1 1 1 1 0 3 0 2 5 1 3) (.cons (.int .i64 0) .nil)))
def stv83 : AV:=(.tup (.cons (bx 0 1 1 1 1 0 1 0 1 4 1 2) (.cons (.int .i64 0) .nil)))
def stv84 : AV:=(.tup (.cons (bx 1 0 1 0 1 1 2 0 2 3 1 4) (.cons (.int .i64 0) .nil)))
def stv85 : AV:=(.tup (.cons (bx 1 1 0 1 0 1 0 0 1 1 2 2) (.cons (.int .i64 0) .nil)))
def stv86 : AV:=(.tup (.cons (bx 1 1 0 1 0 1 4 0 1 5 2 2) (.cons (.int .i64 0) .nil)))
def stv87 : AV:=(.tup (.cons (bx 0 1 1 1 1 0 1 1 1 4 2 2) (.cons (.int .i64 0) .nil)))
def stv88 : AV:=(.tup (.cons (bx 1 0 1 0 1 1 2 1 2 3 2 4) (.cons (.int .i64 0) .nil)))
def stv89 : AV:=(.ro 3 (qd [(0,0),(0,0),(1,0),(0,1),(1,1),(0,1),(1,1),(0,1),(0,1)] .nil))
def stv90 : AV:=(.ro 3 (qd [(0,0),(0,0),(1,0),(0,1),(1,1),(0,1),(1,0),(0,0),(0,0)] .nil))
def stv91 : AV:=(.tup (.cons (bx 1 1 0 1 0 1 0 0 1 1 3 2) (.cons (.int .i64 0) .nil)))
def stv92 : AV:=(.tup (.cons (bx 1 1 0 1 0 1 4 0 1 5 3 2) (.cons (.int .i64 0) .nil)))
def stv93 : AV:=(.tup (.cons (bx 0 1 1 1 1 0 1 2 1 4 3 2) (.cons (.int .i64 0) .nil)))
def stv94 : AV:=(.tup (.cons (bx 1 0 1 0 1 1 2 2 2 3 3 4) (.cons (.int .i64 0) .nil)))
def stv95 : AV:=(.tup (.cons (bxi 8 0 2 10 2 4) (.cons (.int .i64 0) .nil)))
def stv96 : AV:=(.tup (.cons (bxi 6 0 4 10 2 6) (.cons (.int .i64 0) .nil)))
def stv97 : AV:=(.tup (.cons (bxi 0 0 0 10 4 2) (.cons (.int .i64 0) .nil)))
def stv98 : AV:=(.tup (.cons (bxi 8 0 2 10 4 4) (.cons (.int .i64 0) .nil)))
def stv99 : AV:=(.tup (.cons (bxi 6 0 4 10 4 6) (.cons (.int .i64 0) .nil)))
def stv100 : AV:=(.tup (.cons (bxi 0 0 0 10 6 2) (.cons (.int .i64 0) .nil)))
def stv101 : AV:=(.tup (.cons (bxi 8 0 2 10 6 4) (.cons (.int .i64 0) .nil)))
def stv102 : AV:=(.tup (.cons (bxi 6 0 4 10 6 6) (.cons (.int .i64 0) .nil)))
def stv103 : AV:=(.tup (.cons (bxi 12 0 3 15 3 6) (.cons (.int .i64 0) .nil)))
def stv104 : AV:=(.tup (.cons (bxi 9 0 6 15 3 9) (.cons (.int .i64 0) .nil)))
def stv105 : AV:=(.tup (.cons (bxi 3 0 3 12 3 6) (.cons (.int .i64 0) .nil)))
def stv106 : AV:=(.tup (.cons (bxi 6 0 6 9 3 12) (.cons (.int .i64 0) .nil)))
def stv107 : AV:=(.tup (.cons (bxi 0 0 0 15 6 3) (.cons (.int .i64 0) .nil)))
def stv108 : AV:=(.tup (.cons (bxi 12 0 3 15 6 6) (.cons (.int .i64 0) .nil)))
def stv109 : AV:=(.tup (.cons (bxi 9 0 6 15 6 9) (.cons (.int .i64 0) .nil)))
def stv110 : AV:=(.tup (.cons (bxi 3 3 3 12 6 6) (.cons (.int .i64 0) .nil)))
def stv111 : AV:=(.tup (.cons (bxi 6 3 6 9 6 12) (.cons (.int .i64 0) .nil)))
def stv112 : AV:=(.tup (.cons (bxi 0 0 0 15 9 3) (.cons (.int .i64 0) .nil)))
def stv113 : AV:=(.tup (.cons (bxi 12 0 3 15 9 6) (.cons (.int .i64 0) .nil)))
def stv114 : AV:=(.tup (.cons (bxi 9 0 6 15 9 9) (.cons (.int .i64 0) .nil)))
def stv115 : AV:=(.tup (.cons (bxi 3 6 3 12 9 6) (.cons (.int .i64 0) .nil)))
def stv116 : AV:=(.tup (.cons (bxi 6 6 6 9 9 12) (.cons (.int .i64 0) .nil)))
def stv117 : AV:=(.tup (.cons (bxi 16 0 4 20 4 8) (.cons (.int .i64 0) .nil)))
def stv118 : AV:=(.tup (.cons (bxi 0 0 8 8 4 12) (.cons (.int .i64 0) .nil)))
def stv119 : AV:=(.agg (.cons (bxI 12 0 8 20 4 12) .nil))
def stv120 : AV:=(.tup (.cons (bxi 12 0 8 20 4 12) (.cons (.int .i64 0) .nil)))
def stv121 : AV:=(.tup (.cons (bxi 4 0 4 16 4 8) (.cons (.int .i64 0) .nil)))
def stv122 : AV:=(.tup (.cons (bxi 8 0 8 12 4 16) (.cons (.int .i64 0) .nil)))
def stv123 : AV:=(.tup (.cons (bxi 0 0 0 20 8 4) (.cons (.int .i64 0) .nil)))
def stv124 : AV:=(.tup (.cons (bxi 16 0 4 20 8 8) (.cons (.int .i64 0) .nil)))
def stv125 : AV:=(.tup (.cons (bxi 0 0 8 8 8 12) (.cons (.int .i64 0) .nil)))
def stv126 : AV:=(.agg (.cons (bxI 12 0 8 20 8 12) .nil))
def stv127 : AV:=(.tup (.cons (bxi 12 0 8 20 8 12) (.cons (.int .i64 0) .nil)))
def stv128 : AV:=(.tup (.cons (bxi 4 4 4 16 8 8) (.cons (.int .i64 0) .nil)))
def stv129 : AV:=(.tup (.cons (bxi 8 4 8 12 8 16) (.cons (.int .i64 0) .nil)))
def stv130 : AV:=(.tup (.cons (bxi 0 0 0 20 12 4) (.cons (.int .i64 0) .nil)))
def stv131 : AV:=(.tup (.cons (bxi 0 0 4 4 12 8) (.cons (.int .i64 0) .nil)))
def stv132 : AV:=(.agg (.cons (bxI 16 0 4 20 12 8) .nil))
def stv133 : AV:=(.tup (.cons (bxi 16 0 4 20 12 8) (.cons (.int .i64 0) .nil)))
def stv134 : AV:=(.tup (.cons (bxi 0 0 8 8 12 12) (.cons (.int .i64 0) .nil)))
def stv135 : AV:=(.agg (.cons (bxI 12 0 8 20 12 12) .nil))
def stv136 : AV:=(.tup (.cons (bxi 12 0 8 20 12 12) (.cons (.int .i64 0) .nil)))
def stv137 : AV:=(.tup (.cons (bxi 4 8 4 16 12 8) (.cons (.int .i64 0) .nil)))
def stv138 : AV:=(.agg (.cons (bxI 8 8 8 12 12 16) .nil))
def stv139 : AV:=(.tup (.cons (bxi 8 8 8 12 12 16) (.cons (.int .i64 0) .nil)))
def stv140 : AV:=(.tup (.cons (bx 1 1 0 1 0 1 0 0 0 1 5 1) (.cons (.int .i64 0) .nil)))
def stv141 : AV:=(.tup (.cons (bx 1 1 0 1 0 1 6 0 0 7 5 1) (.cons (.int .i64 0) .nil)))
def stv142 : AV:=(.tup (.cons (bx 0 1 1 1 1 0 1 0 0 6 1 1) (.cons (.int .i64 0) .nil)))
def stv143 : AV:=(.tup (.cons (bx 0 1 1 1 1 0 1 4 0 6 5 1) (.cons (.int .i64 0) .nil)))
def stv144 : AV:=(.agg (.cons (bxI 4 2 (-2) 5 3 3) .nil))
def stv145 : AV:=(.tup (.cons (bx 1 0 1 0 1 1 4 2 (-2) 5 3 3) (.cons (.int .i64 0) .nil)))
def stv146 : AV:=(.agg (.cons (bxI 10 2 (-2) 11 3 3) .nil))
def stv147 : AV:=(.tup (.cons (bx 1 0 1 0 1 1 10 2 (-2) 11 3 3) (.cons (.int .i64 0) .nil)))
def stv148 : AV:=(.agg (.cons (bxI 5 2 (-2) 10 3 (-1)) .nil))
def stv149 : AV:=(.tup (.cons (bx 0 1 1 1 1 0 5 2 (-2) 10 3 (-1)) (.cons (.int .i64 0) .nil)))
def stv150 : AV:=(.tup (.cons (bx 0 1 1 1 1 0 5 2 2 10 3 3) (.cons (.int .i64 0) .nil)))
def stv151 : AV:=(.tup (.cons (bx 1 1 0 1 0 1 8 0 0 9 5 1) (.cons (.int .i64 0) .nil)))
def stv152 : AV:=(.tup (.cons (bx 1 1 0 1 0 1 14 0 0 15 5 1) (.cons (.int .i64 0) .nil)))
def stv153 : AV:=(.tup (.cons (bx 0 1 1 1 1 0 9 0 0 14 1 1) (.cons (.int .i64 0) .nil)))
def stv154 : AV:=(.tup (.cons (bx 0 1 1 1 1 0 9 4 0 14 5 1) (.cons (.int .i64 0) .nil)))
def stv155 : AV:=(.agg (.cons (bxI 12 2 (-2) 13 3 3) .nil))
def stv156 : AV:=(.tup (.cons (bx 1 0 1 0 1 1 12 2 (-2) 13 3 3) (.cons (.int .i64 0) .nil)))
def stv157 : AV:=(.agg (.cons (bxI 18 2 (-2) 19 3 3) .nil))
def stv158 : AV:=(.tup (.cons (bx 1 0 1 0 1 1 18 2 (-2) 19 3 3) (.cons (.int .i64 0) .nil)))
def stv159 : AV:=(.agg (.cons (bxI 13 2 (-2) 18 3 (-1)) .nil))
def stv160 : AV:=(.tup (.cons (bx 0 1 1 1 1 0 13 2 (-2) 18 3 (-1)) (.cons (.int .i64 0) .nil)))
def stv161 : AV:=(.tup (.cons (bx 0 1 1 1 1 0 13 2 2 18 3 3) (.cons (.int .i64 0) .nil)))
def stv162 : AV:=(.tup (.cons (bxi 0 0 0 2 10 2) (.cons (.int .i64 0) .nil)))
def stv163 : AV:=(.agg (.cons (bxI 12 0 0 14 10 2) .nil))
def stv164 : AV:=(.tup (.cons (bxi 12 0 0 14 10 2) (.cons (.int .i64 0) .nil)))
def stv165 : AV:=(.tup (.cons (bxi 2 0 0 12 2 2) (.cons (.int .i64 0) .nil)))
def stv166 : AV:=(.tup (.cons (bxi 2 8 0 12 10 2) (.cons (.int .i64 0) .nil)))
def stv167 : AV:=(.agg (.cons (bxI 8 4 (-4) 10 6 6) .nil))
def stv168 : AV:=(.tup (.cons (bxi 8 4 (-4) 10 6 6) (.cons (.int .i64 0) .nil)))
def stv169 : AV:=(.agg (.cons (bxI 20 4 (-4) 22 6 6) .nil))
def stv170 : AV:=(.tup (.cons (bxi 20 4 (-4) 22 6 6) (.cons (.int .i64 0) .nil)))
def stv171 : AV:=(.agg (.cons (bxI 10 4 (-4) 20 6 (-2)) .nil))
def stv172 : AV:=(.tup (.cons (bxi 10 4 (-4) 20 6 (-2)) (.cons (.int .i64 0) .nil)))
def stv173 : AV:=(.tup (.cons (bxi 10 4 4 20 6 6) (.cons (.int .i64 0) .nil)))
def stv174 : AV:=(.agg (.cons (bxI 16 0 0 18 10 2) .nil))
def stv175 : AV:=(.tup (.cons (bxi 16 0 0 18 10 2) (.cons (.int .i64 0) .nil)))
def stv176 : AV:=(.agg (.cons (bxI 28 0 0 30 10 2) .nil))
def stv177 : AV:=(.tup (.cons (bxi 28 0 0 30 10 2) (.cons (.int .i64 0) .nil)))
def stv178 : AV:=(.tup (.cons (bxi 18 0 0 28 2 2) (.cons (.int .i64 0) .nil)))
def stv179 : AV:=(.agg (.cons (bxI 18 8 0 28 10 2) .nil))
def stv180 : AV:=(.tup (.cons (bxi 18 8 0 28 10 2) (.cons (.int .i64 0) .nil)))
def stv181 : AV:=(.agg (.cons (bxI 24 4 (-4) 26 6 6) .nil))
def stv182 : AV:=(.tup (.cons (bxi 24 4 (-4) 26 6 6) (.cons (.int .i64 0) .nil)))
def stv183 : AV:=(.agg (.cons (bxI 36 4 (-4) 38 6 6) .nil))
def stv184 : AV:=(.tup (.cons (bxi 36 4 (-4) 38 6 6) (.cons (.int .i64 0) .nil)))
def stv185 : AV:=(.agg (.cons (bxI 26 4 (-4) 36 6 (-2)) .nil))
def stv186 : AV:=(.tup (.cons (bxi 26 4 (-4) 36 6 (-2)) (.cons (.int .i64 0) .nil)))
def stv187 : AV:=(.tup (.cons (bxi 26 4 4 36 6 6) (.cons (.int .i64 0) .nil)))
def stv188 : AV:=(.tup (.cons (bxi 0 0 0 3 15 3) (.cons (.int .i64 0) .nil)))
def stv189 : AV:=(.agg (.cons (bxI 18 0 0 21 15 3) .nil))
def stv190 : AV:=(.tup (.cons (bxi 18 0 0 21 15 3) (.cons (.int .i64 0) .nil)))
def stv191 : AV:=(.tup (.cons (bxi 3 0 0 18 3 3) (.cons (.int .i64 0) .nil)))
def stv192 : AV:=(.agg (.cons (bxI 3 12 0 18 15 3) .nil))
def stv193 : AV:=(.tup (.cons (bxi 3 12 0 18 15 3) (.cons (.int .i64 0) .nil)))
def stv194 : AV:=(.agg (.cons (bxI 12 6 (-6) 15 9 9) .nil))
def stv195 : AV:=(.tup (.cons (bxi 12 6 (-6) 15 9 9) (.cons (.int .i64 0) .nil)))
def stv196 : AV:=(.agg (.cons (bxI 30 6 (-6) 33 9 9) .nil))
def stv197 : AV:=(.tup (.cons (bxi 30 6 (-6) 33 9 9) (.cons (.int .i64 0) .nil)))
def stv198 : AV:=(.agg (.cons (bxI 15 6 (-6) 30 9 (-3)) .nil))
def stv199 : AV:=(.tup (.cons (bxi 15 6 (-6) 30 9 (-3)) (.cons (.int .i64 0) .nil)))
def stv200 : AV:=(.tup (.cons (bxi 15 6 6 30 9 9) (.cons (.int .i64 0) .nil)))
def stv201 : AV:=(.agg (.cons (bxI 24 0 0 27 15 3) .nil))
def stv202 : AV:=(.tup (.cons (bxi 24 0 0 27 15 3) (.cons (.int .i64 0) .nil)))
def stv203 : AV:=(.agg (.cons (bxI 42 0 0 45 15 3) .nil))
def stv204 : AV:=(.tup (.cons (bxi 42 0 0 45 15 3) (.cons (.int .i64 0) .nil)))
def stv205 : AV:=(.tup (.cons (bxi 27 0 0 42 3 3) (.cons (.int .i64 0) .nil)))
def stv206 : AV:=(.agg (.cons (bxI 27 12 0 42 15 3) .nil))
def stv207 : AV:=(.tup (.cons (bxi 27 12 0 42 15 3) (.cons (.int .i64 0) .nil)))
def stv208 : AV:=(.agg (.cons (bxI 36 6 (-6) 39 9 9) .nil))
def stv209 : AV:=(.tup (.cons (bxi 36 6 (-6) 39 9 9) (.cons (.int .i64 0) .nil)))
def stv210 : AV:=(.agg (.cons (bxI 54 6 (-6) 57 9 9) .nil))
def stv211 : AV:=(.tup (.cons (bxi 54 6 (-6) 57 9 9) (.cons (.int .i64 0) .nil)))
def stv212 : AV:=(.agg (.cons (bxI 39 6 (-6) 54 9 (-3)) .nil))
def stv213 : AV:=(.tup (.cons (bxi 39 6 (-6) 54 9 (-3)) (.cons (.int .i64 0) .nil)))
def stv214 : AV:=(.tup (.cons (bxi 39 6 6 54 9 9) (.cons (.int .i64 0) .nil)))
def stv215 : AV:=(.tup (.cons (bxi 0 0 0 4 20 4) (.cons (.int .i64 0) .nil)))
def stv216 : AV:=(.agg (.cons (bxI 24 0 0 28 20 4) .nil))
def stv217 : AV:=(.tup (.cons (bxi 24 0 0 28 20 4) (.cons (.int .i64 0) .nil)))
def stv218 : AV:=(.tup (.cons (bxi 4 0 0 24 4 4) (.cons (.int .i64 0) .nil)))
def stv219 : AV:=(.agg (.cons (bxI 4 16 0 24 20 4) .nil))
def stv220 : AV:=(.tup (.cons (bxi 4 16 0 24 20 4) (.cons (.int .i64 0) .nil)))
def stv221 : AV:=(.agg (.cons (bxI 16 8 (-8) 20 12 12) .nil))
def stv222 : AV:=(.tup (.cons (bxi 16 8 (-8) 20 12 12) (.cons (.int .i64 0) .nil)))
def stv223 : AV:=(.agg (.cons (bxI 40 8 (-8) 44 12 12) .nil))
def stv224 : AV:=(.tup (.cons (bxi 40 8 (-8) 44 12 12) (.cons (.int .i64 0) .nil)))
def stv225 : AV:=(.agg (.cons (bxI 20 8 (-8) 40 12 (-4)) .nil))
def stv226 : AV:=(.tup (.cons (bxi 20 8 (-8) 40 12 (-4)) (.cons (.int .i64 0) .nil)))
def stv227 : AV:=(.agg (.cons (bxI 20 8 8 40 12 12) .nil))
def stv228 : AV:=(.tup (.cons (bxi 20 8 8 40 12 12) (.cons (.int .i64 0) .nil)))
def stv229 : AV:=(.agg (.cons (bxI 32 0 0 36 20 4) .nil))
def stv230 : AV:=(.tup (.cons (bxi 32 0 0 36 20 4) (.cons (.int .i64 0) .nil)))
def stv231 : AV:=(.agg (.cons (bxI 56 0 0 60 20 4) .nil))
def stv232 : AV:=(.tup (.cons (bxi 56 0 0 60 20 4) (.cons (.int .i64 0) .nil)))
def stv233 : AV:=(.tup (.cons (bxi 36 0 0 56 4 4) (.cons (.int .i64 0) .nil)))
def stv234 : AV:=(.agg (.cons (bxI 36 16 0 56 20 4) .nil))
def stv235 : AV:=(.tup (.cons (bxi 36 16 0 56 20 4) (.cons (.int .i64 0) .nil)))
def stv236 : AV:=(.agg (.cons (bxI 48 8 (-8) 52 12 12) .nil))
def stv237 : AV:=(.tup (.cons (bxi 48 8 (-8) 52 12 12) (.cons (.int .i64 0) .nil)))
def stv238 : AV:=(.agg (.cons (bxI 72 8 (-8) 76 12 12) .nil))
def stv239 : AV:=(.tup (.cons (bxi 72 8 (-8) 76 12 12) (.cons (.int .i64 0) .nil)))
def stv240 : AV:=(.agg (.cons (bxI 52 8 (-8) 72 12 (-4)) .nil))
def stv241 : AV:=(.tup (.cons (bxi 52 8 (-8) 72 12 (-4)) (.cons (.int .i64 0) .nil)))
def stv242 : AV:=(.agg (.cons (bxI 52 8 8 72 12 12) .nil))
def stv243 : AV:=(.tup (.cons (bxi 52 8 8 72 12 12) (.cons (.int .i64 0) .nil)))
def stv244 : AV:=(.tup (.cons (bx 1 1 0 1 0 1 2 0 1 3 3 2) (.cons (.int .i64 0) .nil)))
def stv245 : AV:=(.tup (.cons (bx 1 1 0 1 0 1 3 0 1 4 3 2) (.cons (.int .i64 0) .nil)))
def stv246 : AV:=(.tup (.cons (bx 0 1 1 1 1 0 1 0 1 3 1 2) (.cons (.int .i64 0) .nil)))
def stv247 : AV:=(.tup (.cons (bx 0 1 1 1 1 0 1 2 1 3 3 2) (.cons (.int .i64 0) .nil)))
def stv248 : AV:=(.tup (.cons (bxi 0 0 4 10 6 6) (.cons (.int .i64 0) .nil)))
def stv249 : AV:=(.tup (.cons (bxi 0 0 0 12 9 3) (.cons (.int .i64 0) .nil)))
def stv250 : AV:=(.tup (.cons (bxi 9 0 3 12 9 6) (.cons (.int .i64 0) .nil)))
def stv251 : AV:=(.tup (.cons (bxi 0 0 6 12 9 9) (.cons (.int .i64 0) .nil)))
def stv252 : AV:=(.tup (.cons (bxi 9 3 3 12 6 6) (.cons (.int .i64 0) .nil)))
def stv253 : AV:=(.tup (.cons (bxi 0 0 6 15 9 9) (.cons (.int .i64 0) .nil)))
def stv254 : AV:=(.tup (.cons (bxi 0 0 0 12 12 4) (.cons (.int .i64 0) .nil)))
def stv255 : AV:=(.tup (.cons (bxi 8 0 4 12 12 8) (.cons (.int .i64 0) .nil)))
def stv256 : AV:=(.tup (.cons (bxi 4 8 4 8 12 8) (.cons (.int .i64 0) .nil)))
def stv257 : AV:=(.agg (.cons (bxI 0 0 8 12 12 12) .nil))
def stv258 : AV:=(.tup (.cons (bxi 0 0 8 12 12 12) (.cons (.int .i64 0) .nil)))
def stv259 : AV:=(.tup (.cons (bxi 0 0 0 16 12 4) (.cons (.int .i64 0) .nil)))
def stv260 : AV:=(.agg (.cons (bxI 12 0 4 16 12 8) .nil))
def stv261 : AV:=(.tup (.cons (bxi 12 0 4 16 12 8) (.cons (.int .i64 0) .nil)))
def stv262 : AV:=(.tup (.cons (bxi 4 0 4 12 4 8) (.cons (.int .i64 0) .nil)))
def stv263 : AV:=(.tup (.cons (bxi 4 8 4 12 12 8) (.cons (.int .i64 0) .nil)))
def stv264 : AV:=(.tup (.cons (bxi 8 4 4 12 8 8) (.cons (.int .i64 0) .nil)))
def stv265 : AV:=(.agg (.cons (bxI 0 0 8 16 12 12) .nil))
def stv266 : AV:=(.tup (.cons (bxi 0 0 8 16 12 12) (.cons (.int .i64 0) .nil)))
def stv267 : AV:=(.tup (.cons (bxi 12 4 4 16 8 8) (.cons (.int .i64 0) .nil)))
def stv268 : AV:=(.agg (.cons (bxI 0 0 8 20 12 12) .nil))
def stv269 : AV:=(.tup (.cons (bxi 0 0 8 20 12 12) (.cons (.int .i64 0) .nil)))
def stv270 : AV:=(.tup (.cons (bx 1 1 0 1 0 1 1 0 0 2 3 1) (.cons (.int .i64 0) .nil)))
def stv271 : AV:=(.tup (.cons (bx 1 1 0 1 0 1 1 0 2 2 3 3) (.cons (.int .i64 0) .nil)))
def stv272 : AV:=(.ro 3 (qd [(0,1),(0,1),(1,1),(0,1),(1,1),(0,1),(1,0),(0,0),(0,0)] .nil))
def stv273 : AV:=(.tup (.cons (bx 0 1 1 1 1 0 1 0 1 5 1 2) (.cons (.int .i64 0) .nil)))
def stv274 : AV:=(.tup (.cons (bx 0 1 1 1 1 0 1 2 1 5 3 2) (.cons (.int .i64 0) .nil)))
def stv275 : AV:=(.tup (.cons (bxi 2 0 0 10 6 2) (.cons (.int .i64 0) .nil)))
def stv276 : AV:=(.tup (.cons (bxi 2 0 4 10 6 6) (.cons (.int .i64 0) .nil)))
def stv277 : AV:=(.tup (.cons (bxi 2 0 2 10 2 4) (.cons (.int .i64 0) .nil)))
def stv278 : AV:=(.tup (.cons (bxi 2 4 2 10 6 4) (.cons (.int .i64 0) .nil)))
def stv279 : AV:=(.tup (.cons (bxi 8 2 2 10 4 4) (.cons (.int .i64 0) .nil)))
def stv280 : AV:=(.tup (.cons (bxi 3 0 0 12 9 3) (.cons (.int .i64 0) .nil)))
def stv281 : AV:=(.tup (.cons (bxi 3 0 6 12 9 9) (.cons (.int .i64 0) .nil)))
def stv282 : AV:=(.tup (.cons (bxi 3 0 0 15 9 3) (.cons (.int .i64 0) .nil)))
def stv283 : AV:=(.tup (.cons (bxi 3 0 6 15 9 9) (.cons (.int .i64 0) .nil)))
def stv284 : AV:=(.tup (.cons (bxi 3 0 3 15 3 6) (.cons (.int .i64 0) .nil)))
def stv285 : AV:=(.tup (.cons (bxi 3 6 3 15 9 6) (.cons (.int .i64 0) .nil)))
def stv286 : AV:=(.tup (.cons (bxi 12 3 3 15 6 6) (.cons (.int .i64 0) .nil)))
def stv287 : AV:=(.tup (.cons (bxi 0 0 0 4 12 12) (.cons (.int .i64 0) .nil)))
def stv288 : AV:=(.tup (.cons (bxi 4 0 0 8 12 4) (.cons (.int .i64 0) .nil)))
def stv289 : AV:=(.tup (.cons (bxi 4 0 8 8 12 12) (.cons (.int .i64 0) .nil)))
def stv290 : AV:=(.tup (.cons (bxi 4 0 0 12 12 4) (.cons (.int .i64 0) .nil)))
def stv291 : AV:=(.agg (.cons (bxI 4 0 8 12 12 12) .nil))
def stv292 : AV:=(.tup (.cons (bxi 4 0 8 12 12 12) (.cons (.int .i64 0) .nil)))
def stv293 : AV:=(.tup (.cons (bxi 4 0 0 16 12 4) (.cons (.int .i64 0) .nil)))
def stv294 : AV:=(.agg (.cons (bxI 4 0 8 16 12 12) .nil))
def stv295 : AV:=(.tup (.cons (bxi 4 0 8 16 12 12) (.cons (.int .i64 0) .nil)))
def stv296 : AV:=(.tup (.cons (bxi 4 0 0 20 12 4) (.cons (.int .i64 0) .nil)))
def stv297 : AV:=(.agg (.cons (bxI 4 0 8 20 12 12) .nil))
def stv298 : AV:=(.tup (.cons (bxi 4 0 8 20 12 12) (.cons (.int .i64 0) .nil)))
def stv299 : AV:=(.tup (.cons (bxi 4 0 4 20 4 8) (.cons (.int .i64 0) .nil)))
def stv300 : AV:=(.tup (.cons (bxi 4 8 4 20 12 8) (.cons (.int .i64 0) .nil)))
def stv301 : AV:=(.tup (.cons (bxi 16 4 4 20 8 8) (.cons (.int .i64 0) .nil)))
end
end Go.Sy
namespace Go.Sy
open Go.RowKit Go.Proofs
set_option linter.unusedVariables false
set_option maxRecDepth 1000000
set_option maxHeartbeats 0
noncomputable def stKn0 : List (AV × AV):=[
  (.nil,(.bool true))]
theorem stranKn0 : ranAll Tryz.prog ov0 4 stKn0 = true:=by decide +kernel
end Go.Sy
namespace Go.Sy
open Go.RowKit Go.Proofs
set_option linter.unusedVariables false
set_option maxRecDepth 1000000
set_option maxHeartbeats 0
noncomputable def stRd0 : List (AV × AV):=[
  ((.cons (.str [49]) (.cons (.int .i64 400) .nil)),stv0),
  ((.cons (.str [48]) (.cons (.int .i64 400) .nil)),stv1),
  ((.cons (.str [45,49]) (.cons (.int .i64 400) .nil)),stv2)]
theorem stranRd0 : ranAll Tryz.prog ov0 160 stRd0 = true:=by decide +kernel
end Go.Sy
namespace Go.Sy
open Go.RowKit Go.Proofs
set_option linter.unusedVariables false
set_option maxRecDepth 1000000
set_option maxHeartbeats 0
noncomputable def stNu0 : List (AV × AV):=[
  ((.cons (.agg (qz [-1] .nil)) .nil),(.str [45,49])),
  ((.cons (.agg (qz [0] .nil)) .nil),(.str [48])),
  ((.cons (.agg (qz [1] .nil)) .nil),(.str [49]))]
theorem stranNu0 : ranAll Tryz.prog ov0 178 stNu0 = true:=by decide +kernel
noncomputable def stNu1 : List (AV × AV):=[
  ((.cons (.agg (qd [(4,1)] .nil)) .nil),(.str [52])),
  ((.cons (.agg (qd [(2,1)] .nil)) .nil),(.str [50])),
  ((.cons (.agg (qd [(8,1)] .nil)) .nil),(.str [56])),
  ((.cons (.agg (qd [(12,1)] .nil)) .nil),(.str [49,50]))]
theorem stranNu1 : ranAll Tryz.prog ov0 178 stNu1 = true:=by decide +kernel
noncomputable def stNu2 : List (AV × AV):=[
  ((.cons (.agg (qd [(16,1)] .nil)) .nil),(.str [49,54])),
  ((.cons (.agg (qd [(24,1)] .nil)) .nil),(.str [50,52]))]
theorem stranNu2 : ranAll Tryz.prog ov0 178 stNu2 = true:=by decide +kernel
noncomputable def stNu3 : List (AV × AV):=[
  ((.cons (.agg (qd [(6,1)] .nil)) .nil),(.str [54])),
  ((.cons (.agg (qd [(36,1)] .nil)) .nil),(.str [51,54]))]
theorem stranNu3 : ranAll Tryz.prog ov0 178 stNu3 = true:=by decide +kernel
noncomputable def stNu4 : List (AV × AV):=[
  ((.cons (.agg (qd [(32,1)] .nil)) .nil),(.str [51,50])),
  ((.cons (.agg (qd [(48,1)] .nil)) .nil),(.str [52,56]))]
theorem stranNu4 : ranAll Tryz.prog ov0 178 stNu4 = true:=by decide +kernel
end Go.Sy
namespace Go.Sy
open Go.RowKit Go.Proofs
set_option linter.unusedVariables false
set_option maxRecDepth 1000000
set_option maxHeartbeats 0
noncomputable def stPr0 : List (AV × AV):=[
  ((.cons (.agg (qz [-1,0,0] .nil)) .nil),stv3),
  ((.cons (.agg (qz [0,0,-1] .nil)) .nil),stv4),
  ((.cons (.agg (qz [0,-1,0] .nil)) .nil),stv5),
  ((.cons (.agg (qz [0,0,1] .nil)) .nil),stv6),
  ((.cons (.agg (qz [0,1,0] .nil)) .nil),stv7),
  ((.cons (.agg (qz [1,0,0] .nil)) .nil),stv8),
  ((.cons (.agg (qz [0,0,0] .nil)) .nil),stv11)]
theorem stranPr0 : ranAll Tryz.prog ov0 230 stPr0 = true:=by decide +kernel
noncomputable def stPr1 : List (AV × AV):=[
  ((.cons (.agg (qz [-4,0,0] .nil)) .nil),(.tup (.cons stv12 (.cons (.int .i64 0) .nil)))),
  ((.cons (.agg (qz [0,0,-4] .nil)) .nil),(.tup (.cons stv13 (.cons (.int .i64 0) .nil)))),
  ((.cons (.agg (qz [0,-4,0] .nil)) .nil),(.tup (.cons stv14 (.cons (.int .i64 0) .nil)))),
  ((.cons (.agg (qz [0,0,4] .nil)) .nil),(.tup (.cons stv15 (.cons (.int .i64 0) .nil)))),
  ((.cons (.agg (qz [0,4,0] .nil)) .nil),(.tup (.cons stv16 (.cons (.int .i64 0) .nil)))),
  ((.cons (.agg (qz [4,0,0] .nil)) .nil),(.tup (.cons stv17 (.cons (.int .i64 0) .nil)))),
  ((.cons (.agg (qz [0,0,2] .nil)) .nil),(.tup (.cons stv15 (.cons (.int .i64 0) .nil)))),
  ((.cons (.agg (qz [0,2,0] .nil)) .nil),(.tup (.cons stv16 (.cons (.int .i64 0) .nil)))),
  ((.cons (.agg (qz [2,0,0] .nil)) .nil),(.tup (.cons stv17 (.cons (.int .i64 0) .nil))))]
theorem stranPr1 : ranAll Tryz.prog ov0 230 stPr1 = true:=by decide +kernel
noncomputable def stPr2 : List (AV × AV):=[
  ((.cons (.agg (qz [-9,0,0] .nil)) .nil),(.tup (.cons stv12 (.cons (.int .i64 0) .nil)))),
  ((.cons (.agg (qz [0,0,-9] .nil)) .nil),(.tup (.cons stv13 (.cons (.int .i64 0) .nil)))),
  ((.cons (.agg (qz [0,-9,0] .nil)) .nil),(.tup (.cons stv14 (.cons (.int .i64 0) .nil)))),
  ((.cons (.agg (qz [0,0,9] .nil)) .nil),(.tup (.cons stv15 (.cons (.int .i64 0) .nil)))),
  ((.cons (.agg (qz [0,9,0] .nil)) .nil),(.tup (.cons stv16 (.cons (.int .i64 0) .nil)))),
  ((.cons (.agg (qz [9,0,0] .nil)) .nil),(.tup (.cons stv17 (.cons (.int .i64 0) .nil)))),
  ((.cons (.agg (qz [0,0,3] .nil)) .nil),(.tup (.cons stv15 (.cons (.int .i64 0) .nil)))),
  ((.cons (.agg (qz [0,3,0] .nil)) .nil),(.tup (.cons stv16 (.cons (.int .i64 0) .nil)))),
  ((.cons (.agg (qz [3,0,0] .nil)) .nil),(.tup (.cons stv17 (.cons (.int .i64 0) .nil))))]
theorem stranPr2 : ranAll Tryz.prog ov0 230 stPr2 = true:=by decide +kernel
noncomputable def stPr3 : List (AV × AV):=[
  ((.cons (.agg (qz [-16,0,0] .nil)) .nil),(.tup (.cons stv12 (.cons (.int .i64 0) .nil)))),
  ((.cons (.agg (qz [0,0,-16] .nil)) .nil),(.tup (.cons stv13 (.cons (.int .i64 0) .nil)))),
  ((.cons (.agg (qz [0,-16,0] .nil)) .nil),(.tup (.cons stv14 (.cons (.int .i64 0) .nil)))),
  ((.cons (.agg (qz [0,0,16] .nil)) .nil),(.tup (.cons stv15 (.cons (.int .i64 0) .nil)))),
  ((.cons (.agg (qz [0,16,0] .nil)) .nil),(.tup (.cons stv16 (.cons (.int .i64 0) .nil)))),
  ((.cons (.agg (qz [16,0,0] .nil)) .nil),(.tup (.cons stv17 (.cons (.int .i64 0) .nil))))]
theorem stranPr3 : ranAll Tryz.prog ov0 230 stPr3 = true:=by decide +kernel
noncomputable def stPr4 : List (AV × AV):=[
  ((.cons (.agg (qz [0,0,-3] .nil)) .nil),(.tup (.cons stv13 (.cons (.int .i64 0) .nil)))),
  ((.cons (.agg (qz [0,-3,0] .nil)) .nil),(.tup (.cons stv14 (.cons (.int .i64 0) .nil)))),
  ((.cons (.agg (qz [-3,0,0] .nil)) .nil),(.tup (.cons stv12 (.cons (.int .i64 0) .nil)))),
  ((.cons (.agg (qz [0,0,-5] .nil)) .nil),(.tup (.cons stv13 (.cons (.int .i64 0) .nil)))),
  ((.cons (.agg (qz [0,-5,0] .nil)) .nil),(.tup (.cons stv14 (.cons (.int .i64 0) .nil)))),
  ((.cons (.agg (qz [0,0,5] .nil)) .nil),(.tup (.cons stv15 (.cons (.int .i64 0) .nil)))),
  ((.cons (.agg (qz [0,5,0] .nil)) .nil),(.tup (.cons stv16 (.cons (.int .i64 0) .nil)))),
  ((.cons (.agg (qz [5,0,0] .nil)) .nil),(.tup (.cons stv17 (.cons (.int .i64 0) .nil)))),
  ((.cons (.agg (qz [0,0,-7] .nil)) .nil),(.tup (.cons stv13 (.cons (.int .i64 0) .nil)))),
  ((.cons (.agg (qz [0,-7,0] .nil)) .nil),(.tup (.cons stv14 (.cons (.int .i64 0) .nil)))),
  ((.cons (.agg (qz [0,0,7] .nil)) .nil),(.tup (.cons stv15 (.cons (.int .i64 0) .nil)))),
  ((.cons (.agg (qz [0,7,0] .nil)) .nil),(.tup (.cons stv16 (.cons (.int .i64 0) .nil)))),
  ((.cons (.agg (qz [7,0,0] .nil)) .nil),(.tup (.cons stv17 (.cons (.int .i64 0) .nil))))]
theorem stranPr4 : ranAll Tryz.prog ov0 230 stPr4 = true:=by decide +kernel
noncomputable def stPr5 : List (AV × AV):=[
  ((.cons (.agg (qz [0,0,-12] .nil)) .nil),(.tup (.cons stv13 (.cons (.int .i64 0) .nil)))),
  ((.cons (.agg (qz [0,-12,0] .nil)) .nil),(.tup (.cons stv14 (.cons (.int .i64 0) .nil)))),
  ((.cons (.agg (qz [0,0,12] .nil)) .nil),(.tup (.cons stv15 (.cons (.int .i64 0) .nil)))),
  ((.cons (.agg (qz [0,12,0] .nil)) .nil),(.tup (.cons stv16 (.cons (.int .i64 0) .nil)))),
  ((.cons (.agg (qz [-12,0,0] .nil)) .nil),(.tup (.cons stv12 (.cons (.int .i64 0) .nil)))),
  ((.cons (.agg (qz [12,0,0] .nil)) .nil),(.tup (.cons stv17 (.cons (.int .i64 0) .nil)))),
  ((.cons (.agg (qz [0,0,6] .nil)) .nil),(.tup (.cons stv15 (.cons (.int .i64 0) .nil)))),
  ((.cons (.agg (qz [6,0,0] .nil)) .nil),(.tup (.cons stv17 (.cons (.int .i64 0) .nil)))),
  ((.cons (.agg (qz [0,0,-20] .nil)) .nil),(.tup (.cons stv13 (.cons (.int .i64 0) .nil)))),
  ((.cons (.agg (qz [0,-20,0] .nil)) .nil),(.tup (.cons stv14 (.cons (.int .i64 0) .nil)))),
  ((.cons (.agg (qz [0,0,20] .nil)) .nil),(.tup (.cons stv15 (.cons (.int .i64 0) .nil)))),
  ((.cons (.agg (qz [0,20,0] .nil)) .nil),(.tup (.cons stv16 (.cons (.int .i64 0) .nil)))),
  ((.cons (.agg (qz [10,0,0] .nil)) .nil),(.tup (.cons stv17 (.cons (.int .i64 0) .nil)))),
  ((.cons (.agg (qz [0,0,-28] .nil)) .nil),(.tup (.cons stv13 (.cons (.int .i64 0) .nil)))),
  ((.cons (.agg (qz [0,-28,0] .nil)) .nil),(.tup (.cons stv14 (.cons (.int .i64 0) .nil)))),
  ((.cons (.agg (qz [0,0,28] .nil)) .nil),(.tup (.cons stv15 (.cons (.int .i64 0) .nil)))),
  ((.cons (.agg (qz [0,28,0] .nil)) .nil),(.tup (.cons stv16 (.cons (.int .i64 0) .nil)))),
  ((.cons (.agg (qz [14,0,0] .nil)) .nil),(.tup (.cons stv17 (.cons (.int .i64 0) .nil))))]
theorem stranPr5 : ranAll Tryz.prog ov0 230 stPr5 = true:=by decide +kernel
noncomputable def stPr6 : List (AV × AV):=[
  ((.cons (.agg (qz [0,0,-27] .nil)) .nil),(.tup (.cons stv13 (.cons (.int .i64 0) .nil)))),
  ((.cons (.agg (qz [0,-27,0] .nil)) .nil),(.tup (.cons stv14 (.cons (.int .i64 0) .nil)))),
  ((.cons (.agg (qz [0,0,27] .nil)) .nil),(.tup (.cons stv15 (.cons (.int .i64 0) .nil)))),
  ((.cons (.agg (qz [0,27,0] .nil)) .nil),(.tup (.cons stv16 (.cons (.int .i64 0) .nil)))),
  ((.cons (.agg (qz [-27,0,0] .nil)) .nil),(.tup (.cons stv12 (.cons (.int .i64 0) .nil)))),
  ((.cons (.agg (qz [27,0,0] .nil)) .nil),(.tup (.cons stv17 (.cons (.int .i64 0) .nil)))),
  ((.cons (.agg (qz [0,0,-45] .nil)) .nil),(.tup (.cons stv13 (.cons (.int .i64 0) .nil)))),
  ((.cons (.agg (qz [0,-45,0] .nil)) .nil),(.tup (.cons stv14 (.cons (.int .i64 0) .nil)))),
  ((.cons (.agg (qz [0,0,45] .nil)) .nil),(.tup (.cons stv15 (.cons (.int .i64 0) .nil)))),
  ((.cons (.agg (qz [0,45,0] .nil)) .nil),(.tup (.cons stv16 (.cons (.int .i64 0) .nil)))),
  ((.cons (.agg (qz [15,0,0] .nil)) .nil),(.tup (.cons stv17 (.cons (.int .i64 0) .nil)))),
  ((.cons (.agg (qz [0,0,-63] .nil)) .nil),(.tup (.cons stv13 (.cons (.int .i64 0) .nil)))),
  ((.cons (.agg (qz [0,-63,0] .nil)) .nil),(.tup (.cons stv14 (.cons (.int .i64 0) .nil)))),
  ((.cons (.agg (qz [0,0,63] .nil)) .nil),(.tup (.cons stv15 (.cons (.int .i64 0) .nil)))),
  ((.cons (.agg (qz [0,63,0] .nil)) .nil),(.tup (.cons stv16 (.cons (.int .i64 0) .nil)))),
  ((.cons (.agg (qz [21,0,0] .nil)) .nil),(.tup (.cons stv17 (.cons (.int .i64 0) .nil))))]
theorem stranPr6 : ranAll Tryz.prog ov0 230 stPr6 = true:=by decide +kernel
noncomputable def stPr7 : List (AV × AV):=[
  ((.cons (.agg (qz [0,0,-48] .nil)) .nil),(.tup (.cons stv13 (.cons (.int .i64 0) .nil)))),
  ((.cons (.agg (qz [0,-48,0] .nil)) .nil),(.tup (.cons stv14 (.cons (.int .i64 0) .nil)))),
  ((.cons (.agg (qz [0,0,48] .nil)) .nil),(.tup (.cons stv15 (.cons (.int .i64 0) .nil)))),
  ((.cons (.agg (qz [0,48,0] .nil)) .nil),(.tup (.cons stv16 (.cons (.int .i64 0) .nil)))),
  ((.cons (.agg (qz [-48,0,0] .nil)) .nil),(.tup (.cons stv12 (.cons (.int .i64 0) .nil)))),
  ((.cons (.agg (qz [48,0,0] .nil)) .nil),(.tup (.cons stv17 (.cons (.int .i64 0) .nil)))),
  ((.cons (.agg (qz [0,0,-80] .nil)) .nil),(.tup (.cons stv13 (.cons (.int .i64 0) .nil)))),
  ((.cons (.agg (qz [0,-80,0] .nil)) .nil),(.tup (.cons stv14 (.cons (.int .i64 0) .nil)))),
  ((.cons (.agg (qz [0,0,80] .nil)) .nil),(.tup (.cons stv15 (.cons (.int .i64 0) .nil)))),
  ((.cons (.agg (qz [0,80,0] .nil)) .nil),(.tup (.cons stv16 (.cons (.int .i64 0) .nil)))),
  ((.cons (.agg (qz [20,0,0] .nil)) .nil),(.tup (.cons stv17 (.cons (.int .i64 0) .nil)))),
  ((.cons (.agg (qz [0,0,-112] .nil)) .nil),(.tup (.cons stv13 (.cons (.int .i64 0) .nil)))),
  ((.cons (.agg (qz [0,-112,0] .nil)) .nil),(.tup (.cons stv14 (.cons (.int .i64 0) .nil)))),
  ((.cons (.agg (qz [0,0,112] .nil)) .nil),(.tup (.cons stv15 (.cons (.int .i64 0) .nil)))),
  ((.cons (.agg (qz [0,112,0] .nil)) .nil),(.tup (.cons stv16 (.cons (.int .i64 0) .nil)))),
  ((.cons (.agg (qz [28,0,0] .nil)) .nil),(.tup (.cons stv17 (.cons (.int .i64 0) .nil))))]
theorem stranPr7 : ranAll Tryz.prog ov0 230 stPr7 = true:=by decide +kernel
noncomputable def stPr8 : List (AV × AV):=[
  ((.cons (.agg (qz [0,0,-2] .nil)) .nil),(.tup (.cons stv13 (.cons (.int .i64 0) .nil)))),
  ((.cons (.agg (qz [0,-2,0] .nil)) .nil),(.tup (.cons stv14 (.cons (.int .i64 0) .nil)))),
  ((.cons (.agg (qz [-2,0,0] .nil)) .nil),(.tup (.cons stv12 (.cons (.int .i64 0) .nil)))),
  ((.cons (.agg (qz [0,0,-10] .nil)) .nil),(.tup (.cons stv13 (.cons (.int .i64 0) .nil)))),
  ((.cons (.agg (qz [0,0,10] .nil)) .nil),(.tup (.cons stv15 (.cons (.int .i64 0) .nil)))),
  ((.cons (.agg (qz [0,0,-15] .nil)) .nil),(.tup (.cons stv13 (.cons (.int .i64 0) .nil)))),
  ((.cons (.agg (qz [0,0,15] .nil)) .nil),(.tup (.cons stv15 (.cons (.int .i64 0) .nil)))),
  ((.cons (.agg (qz [0,0,-6] .nil)) .nil),(.tup (.cons stv13 (.cons (.int .i64 0) .nil))))]
theorem stranPr8 : ranAll Tryz.prog ov0 230 stPr8 = true:=by decide +kernel
noncomputable def stPr9 : List (AV × AV):=[
  ((.cons (.agg (qz [0,0,-8] .nil)) .nil),(.tup (.cons stv13 (.cons (.int .i64 0) .nil)))),
  ((.cons (.agg (qz [0,-8,0] .nil)) .nil),(.tup (.cons stv14 (.cons (.int .i64 0) .nil)))),
  ((.cons (.agg (qz [0,0,8] .nil)) .nil),(.tup (.cons stv15 (.cons (.int .i64 0) .nil)))),
  ((.cons (.agg (qz [0,8,0] .nil)) .nil),(.tup (.cons stv16 (.cons (.int .i64 0) .nil)))),
  ((.cons (.agg (qz [-8,0,0] .nil)) .nil),(.tup (.cons stv12 (.cons (.int .i64 0) .nil)))),
  ((.cons (.agg (qz [8,0,0] .nil)) .nil),(.tup (.cons stv17 (.cons (.int .i64 0) .nil)))),
  ((.cons (.agg (qz [0,0,-40] .nil)) .nil),(.tup (.cons stv13 (.cons (.int .i64 0) .nil)))),
  ((.cons (.agg (qz [0,0,40] .nil)) .nil),(.tup (.cons stv15 (.cons (.int .i64 0) .nil)))),
  ((.cons (.agg (qz [0,0,-60] .nil)) .nil),(.tup (.cons stv13 (.cons (.int .i64 0) .nil)))),
  ((.cons (.agg (qz [0,0,60] .nil)) .nil),(.tup (.cons stv15 (.cons (.int .i64 0) .nil)))),
  ((.cons (.agg (qz [0,0,-24] .nil)) .nil),(.tup (.cons stv13 (.cons (.int .i64 0) .nil)))),
  ((.cons (.agg (qz [0,0,24] .nil)) .nil),(.tup (.cons stv15 (.cons (.int .i64 0) .nil)))),
  ((.cons (.agg (qz [0,6,0] .nil)) .nil),(.tup (.cons stv16 (.cons (.int .i64 0) .nil))))]
theorem stranPr9 : ranAll Tryz.prog ov0 230 stPr9 = true:=by decide +kernel
noncomputable def stPr10 : List (AV × AV):=[
  ((.cons (.agg (qz [0,0,-18] .nil)) .nil),(.tup (.cons stv13 (.cons (.int .i64 0) .nil)))),
  ((.cons (.agg (qz [0,-18,0] .nil)) .nil),(.tup (.cons stv14 (.cons (.int .i64 0) .nil)))),
  ((.cons (.agg (qz [0,0,18] .nil)) .nil),(.tup (.cons stv15 (.cons (.int .i64 0) .nil)))),
  ((.cons (.agg (qz [0,18,0] .nil)) .nil),(.tup (.cons stv16 (.cons (.int .i64 0) .nil)))),
  ((.cons (.agg (qz [-18,0,0] .nil)) .nil),(.tup (.cons stv12 (.cons (.int .i64 0) .nil)))),
  ((.cons (.agg (qz [18,0,0] .nil)) .nil),(.tup (.cons stv17 (.cons (.int .i64 0) .nil)))),
  ((.cons (.agg (qz [0,0,-90] .nil)) .nil),(.tup (.cons stv13 (.cons (.int .i64 0) .nil)))),
  ((.cons (.agg (qz [0,0,90] .nil)) .nil),(.tup (.cons stv15 (.cons (.int .i64 0) .nil)))),
  ((.cons (.agg (qz [0,0,-36] .nil)) .nil),(.tup (.cons stv13 (.cons (.int .i64 0) .nil)))),
  ((.cons (.agg (qz [0,0,36] .nil)) .nil),(.tup (.cons stv15 (.cons (.int .i64 0) .nil)))),
  ((.cons (.agg (qz [0,0,-135] .nil)) .nil),(.tup (.cons stv13 (.cons (.int .i64 0) .nil)))),
  ((.cons (.agg (qz [0,0,135] .nil)) .nil),(.tup (.cons stv15 (.cons (.int .i64 0) .nil)))),
  ((.cons (.agg (qz [0,0,-54] .nil)) .nil),(.tup (.cons stv13 (.cons (.int .i64 0) .nil)))),
  ((.cons (.agg (qz [0,0,54] .nil)) .nil),(.tup (.cons stv15 (.cons (.int .i64 0) .nil))))]
theorem stranPr10 : ranAll Tryz.prog ov0 230 stPr10 = true:=by decide +kernel
noncomputable def stPr11 : List (AV × AV):=[
  ((.cons (.agg (qz [0,0,-32] .nil)) .nil),(.tup (.cons stv13 (.cons (.int .i64 0) .nil)))),
  ((.cons (.agg (qz [0,-32,0] .nil)) .nil),(.tup (.cons stv14 (.cons (.int .i64 0) .nil)))),
  ((.cons (.agg (qz [0,0,32] .nil)) .nil),(.tup (.cons stv15 (.cons (.int .i64 0) .nil)))),
  ((.cons (.agg (qz [0,32,0] .nil)) .nil),(.tup (.cons stv16 (.cons (.int .i64 0) .nil)))),
  ((.cons (.agg (qz [-32,0,0] .nil)) .nil),(.tup (.cons stv12 (.cons (.int .i64 0) .nil)))),
  ((.cons (.agg (qz [32,0,0] .nil)) .nil),(.tup (.cons stv17 (.cons (.int .i64 0) .nil)))),
  ((.cons (.agg (qz [0,0,-160] .nil)) .nil),(.tup (.cons stv13 (.cons (.int .i64 0) .nil)))),
  ((.cons (.agg (qz [0,0,160] .nil)) .nil),(.tup (.cons stv15 (.cons (.int .i64 0) .nil)))),
  ((.cons (.agg (qz [0,0,-64] .nil)) .nil),(.tup (.cons stv13 (.cons (.int .i64 0) .nil)))),
  ((.cons (.agg (qz [0,0,64] .nil)) .nil),(.tup (.cons stv15 (.cons (.int .i64 0) .nil)))),
  ((.cons (.agg (qz [0,0,-240] .nil)) .nil),(.tup (.cons stv13 (.cons (.int .i64 0) .nil)))),
  ((.cons (.agg (qz [0,0,240] .nil)) .nil),(.tup (.cons stv15 (.cons (.int .i64 0) .nil)))),
  ((.cons (.agg (qz [0,0,-96] .nil)) .nil),(.tup (.cons stv13 (.cons (.int .i64 0) .nil)))),
  ((.cons (.agg (qz [0,0,96] .nil)) .nil),(.tup (.cons stv15 (.cons (.int .i64 0) .nil))))]
theorem stranPr11 : ranAll Tryz.prog ov0 230 stPr11 = true:=by decide +kernel
noncomputable def stPr12 : List (AV × AV):=[
  ((.cons (.agg (qz [-5,0,0] .nil)) .nil),(.tup (.cons stv12 (.cons (.int .i64 0) .nil))))]
theorem stranPr12 : ranAll Tryz.prog ov0 230 stPr12 = true:=by decide +kernel
noncomputable def stPr13 : List (AV × AV):=[
  ((.cons (.agg (qz [-20,0,0] .nil)) .nil),(.tup (.cons stv12 (.cons (.int .i64 0) .nil)))),
  ((.cons (.agg (qz [0,10,0] .nil)) .nil),(.tup (.cons stv16 (.cons (.int .i64 0) .nil))))]
theorem stranPr13 : ranAll Tryz.prog ov0 230 stPr13 = true:=by decide +kernel
noncomputable def stPr14 : List (AV × AV):=[
  ((.cons (.agg (qz [-45,0,0] .nil)) .nil),(.tup (.cons stv12 (.cons (.int .i64 0) .nil)))),
  ((.cons (.agg (qz [45,0,0] .nil)) .nil),(.tup (.cons stv17 (.cons (.int .i64 0) .nil)))),
  ((.cons (.agg (qz [0,15,0] .nil)) .nil),(.tup (.cons stv16 (.cons (.int .i64 0) .nil))))]
theorem stranPr14 : ranAll Tryz.prog ov0 230 stPr14 = true:=by decide +kernel
noncomputable def stPr15 : List (AV × AV):=[
  ((.cons (.agg (qz [-80,0,0] .nil)) .nil),(.tup (.cons stv12 (.cons (.int .i64 0) .nil)))),
  ((.cons (.agg (qz [80,0,0] .nil)) .nil),(.tup (.cons stv17 (.cons (.int .i64 0) .nil))))]
theorem stranPr15 : ranAll Tryz.prog ov0 230 stPr15 = true:=by decide +kernel
noncomputable def stPr16 : List (AV × AV):=[
  ((.cons (.agg (qz [0,0,-81] .nil)) .nil),(.tup (.cons stv13 (.cons (.int .i64 0) .nil)))),
  ((.cons (.agg (qz [0,0,81] .nil)) .nil),(.tup (.cons stv15 (.cons (.int .i64 0) .nil)))),
  ((.cons (.agg (qz [0,0,-108] .nil)) .nil),(.tup (.cons stv13 (.cons (.int .i64 0) .nil)))),
  ((.cons (.agg (qz [0,-36,0] .nil)) .nil),(.tup (.cons stv14 (.cons (.int .i64 0) .nil)))),
  ((.cons (.agg (qz [0,0,108] .nil)) .nil),(.tup (.cons stv15 (.cons (.int .i64 0) .nil)))),
  ((.cons (.agg (qz [0,36,0] .nil)) .nil),(.tup (.cons stv16 (.cons (.int .i64 0) .nil))))]
theorem stranPr16 : ranAll Tryz.prog ov0 230 stPr16 = true:=by decide +kernel
noncomputable def stPr17 : List (AV × AV):=[
  ((.cons (.agg (qz [0,0,-144] .nil)) .nil),(.tup (.cons stv13 (.cons (.int .i64 0) .nil)))),
  ((.cons (.agg (qz [0,0,144] .nil)) .nil),(.tup (.cons stv15 (.cons (.int .i64 0) .nil)))),
  ((.cons (.agg (qz [0,0,-192] .nil)) .nil),(.tup (.cons stv13 (.cons (.int .i64 0) .nil)))),
  ((.cons (.agg (qz [0,-64,0] .nil)) .nil),(.tup (.cons stv14 (.cons (.int .i64 0) .nil)))),
  ((.cons (.agg (qz [0,0,192] .nil)) .nil),(.tup (.cons stv15 (.cons (.int .i64 0) .nil)))),
  ((.cons (.agg (qz [0,64,0] .nil)) .nil),(.tup (.cons stv16 (.cons (.int .i64 0) .nil))))]
theorem stranPr17 : ranAll Tryz.prog ov0 230 stPr17 = true:=by decide +kernel
noncomputable def stPr18 : List (AV × AV):=[
  ((.cons (.agg (qz [-36,0,0] .nil)) .nil),(.tup (.cons stv12 (.cons (.int .i64 0) .nil)))),
  ((.cons (.agg (qz [36,0,0] .nil)) .nil),(.tup (.cons stv17 (.cons (.int .i64 0) .nil))))]
theorem stranPr18 : ranAll Tryz.prog ov0 230 stPr18 = true:=by decide +kernel
noncomputable def stPr19 : List (AV × AV):=[
  ((.cons (.agg (qz [-81,0,0] .nil)) .nil),(.tup (.cons stv12 (.cons (.int .i64 0) .nil)))),
  ((.cons (.agg (qz [81,0,0] .nil)) .nil),(.tup (.cons stv17 (.cons (.int .i64 0) .nil))))]
theorem stranPr19 : ranAll Tryz.prog ov0 230 stPr19 = true:=by decide +kernel
noncomputable def stPr20 : List (AV × AV):=[
  ((.cons (.agg (qz [-144,0,0] .nil)) .nil),(.tup (.cons stv12 (.cons (.int .i64 0) .nil)))),
  ((.cons (.agg (qz [144,0,0] .nil)) .nil),(.tup (.cons stv17 (.cons (.int .i64 0) .nil))))]
theorem stranPr20 : ranAll Tryz.prog ov0 230 stPr20 = true:=by decide +kernel
end Go.Sy
namespace Go.Sy
open Go.RowKit Go.Proofs
set_option linter.unusedVariables false
set_option maxRecDepth 1000000
set_option maxHeartbeats 0
noncomputable def stMo0 : List (AV × AV):=[
  ((.cons stv9 .nil),(.tup (.cons stv10 (.cons (.int .i64 0) .nil))))]
theorem stranMo0 : ranAll Tryz.prog ov0 209 stMo0 = true:=by decide +kernel
end Go.Sy
