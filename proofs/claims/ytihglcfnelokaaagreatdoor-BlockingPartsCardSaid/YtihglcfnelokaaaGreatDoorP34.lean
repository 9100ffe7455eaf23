/- BlockingParts returns true for any short world, any two sets and any direction (its tied card); no condition. -/
import Derived.Test.YtihglcfnelokaaaGreatDoorP24
import Derived.Test.YtihglcfnelokaaaGreatDoorP31
import Derived.Test.YtihglcfnelokaaaGreatDoorP32
import Derived.Test.YtihglcfnelokaaaGreatDoorP33
set_option linter.all false
set_option maxRecDepth 1000000
set_option maxHeartbeats 0
namespace Go.Sy
noncomputable section
open Go.RowKit Go.Proofs Go.Proofs.Tryz
def Ou:List (AV×AV):=acf
theorem aaS:∀e∈Ou,@PF bJ prog 62 e.1 e.2/\DP e.1/\DP e.2:=
 cm af ae Av (by decide) WI
def ail:Dc prog:=Dc.sw 62 Ou aaS (au rfl rfl)
def Ov:List (AV×AV):=acg
theorem aaT:∀e∈Ov,@PF bJ prog 28 e.1 e.2/\DP e.1/\DP e.2:=
 cm af ae Av (by decide) WJ
def aim:Dc prog:=Dc.sw 28 Ov aaT (au rfl rfl)
def Ow:List (AV×AV):=ach
theorem aaU:∀e∈Ow,@PF bJ prog 12 e.1 e.2/\DP e.1/\DP e.2:=
 cm af ae Av (by decide) WK
def ain:Dc prog:=Dc.sw 12 Ow aaU (au rfl rfl)
def aio:List (Dc prog):=ail::aim::ain::ace
def aci:dY ->AV ->Heap ->Option CR:=ovD (sU aio)
theorem WL (B0:Nat):xB prog B0 aci:=zm ae _ B0
def aaV:List (AV×AV):=[(.nil,.bool true)]
theorem Lj:cP prog aci 4 aaV=true:=by decide+kernel
theorem QD:@PF bJ prog 4 .nil (.bool true):=
 (cm af ae WL (by decide) Lj _ (.head _)).1
end
end Go.Sy
namespace Go.Proofs.YtihglcfnelokaaaGreatDoor
theorem card_holds:Rows.BlockingPartsCardSaid:=aaF Sy.QD
#print axioms card_holds
end Go.Proofs.YtihglcfnelokaaaGreatDoor
