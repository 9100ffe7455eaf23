/- The tables among the package-level variables; what is known beforehand. -/
import Derived.Test.YthdjljdooekbmaaGreatDoorSyC3
import Derived.Test.YthdjljdooekbmaaGreatDoorSyLb
import Derived.Test.YthdjljdooekbmaaGreatDoorSyMemo
namespace Go.Sy
open Go.RowKit Go.Proofs
set_option linter.unusedVariables false
set_option maxRecDepth 1000000
set_option maxHeartbeats 0
def pow10 : List Int := [1, 10, 100, 1000, 10000, 100000, 1000000, 10000000, 100000000, 1000000000, 10000000000, 100000000000, 1000000000000, 10000000000000, 100000000000000, 1000000000000000, 10000000000000000, 100000000000000000, 1000000000000000000, 10000000000000000000]
def deB64 : List Int := [0, 1, 56, 2, 57, 49, 28, 3, 61, 58, 42, 50, 38, 29, 17, 4, 62, 47, 59, 36, 45, 43, 51, 22, 53, 39, 33, 30, 24, 18, 12, 5, 63, 55, 48, 27, 60, 41, 37, 16, 46, 35, 44, 21, 52, 32, 23, 11, 54, 26, 40, 15, 34, 20, 31, 10, 25, 14, 19, 9, 13, 8, 7, 6]
def deB32 : List Int := [0, 1, 28, 2, 29, 14, 24, 3, 30, 22, 20, 15, 25, 17, 4, 8, 31, 27, 13, 23, 21, 19, 16, 7, 26, 12, 18, 6, 11, 5, 10, 9]
noncomputable instance tb1 : Tabs := ⟨[(intsAV .u64 pow10, 20), (intsAV .u8 deB32, 32), (intsAV .u8 deB64, 64)]⟩
noncomputable def dc0 : List (Dc Tryz.prog) := (d_IndexByte :: d_ParseU :: (dcCell ++ dcRat)).map (Dc.lift tb1)
noncomputable def ov0 : Tgt → AV → Heap → Option CR := ovD (dcTab dc0)
theorem ov0_ok (B0 : Nat) : OvOK Tryz.prog B0 ov0 := ovD_ok p_callable _ B0
end Go.Sy
