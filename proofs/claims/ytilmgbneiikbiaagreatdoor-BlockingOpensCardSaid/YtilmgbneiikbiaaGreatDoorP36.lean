/- The law BlockingOpens (dowellaw21) returns true for every short world and every number: no condition beyond the card; a piece, joined by a program of ours. -/
import Derived.Test.YtilmgbneiikbiaaGreatDoorP26
import Derived.Test.YtilmgbneiikbiaaGreatDoorP33
import Derived.Test.YtilmgbneiikbiaaGreatDoorP34
import Derived.Test.YtilmgbneiikbiaaGreatDoorP35
set_option linter.all false
set_option maxRecDepth 1000000
set_option maxHeartbeats 0
namespace Go.Sy
noncomputable section
open Go.RowKit Go.Proofs Go.Proofs.Tryz
def OM:List (AV×AV):=ach
theorem aaY:∀e∈OM,@PF bZ prog 127 e.1 e.2/\DP e.1/\DP e.2:=
 cz af ae Ao (by decide) WX
def ahY:Dc prog:=Dc.sg 127 OM aaY (aw rfl rfl)
def ON:List (AV×AV):=aci
theorem aaZ:∀e∈ON,@PF bZ prog 64 e.1 e.2/\DP e.1/\DP e.2:=
 cz af ae Ao (by decide) WY
def ahZ:Dc prog:=Dc.sg 64 ON aaZ (aw rfl rfl)
def OO:List (AV×AV):=acj
theorem aa0:∀e∈OO,@PF bZ prog 33 e.1 e.2/\DP e.1/\DP e.2:=
 cz af ae Ao (by decide) WZ
def ah0:Dc prog:=Dc.sg 33 OO aa0 (aw rfl rfl)
def ah1:List (Dc prog):=ahY::ahZ::ah0::acg
def ack:eL ->AV ->Heap ->Option CR:=ovD (sL ah1)
theorem Xa (B0:Nat):xw prog B0 ack:=ze ae _ B0
def aa1:List (AV×AV):=[(.nil,.bool true)]
theorem LG:cS prog ack 7 aa1=true:=by decide+kernel
theorem QW:@PF bZ prog 7 .nil (.bool true):=
 (cz af ae Xa (by decide) LG _ (.head _)).1
end
end Go.Sy
namespace Go.Proofs.YtilmgbneiikbiaaGreatDoor
theorem card_holds:Rows.BlockingOpensCardSaid:=aaL Sy.QW
#print axioms card_holds
end Go.Proofs.YtilmgbneiikbiaaGreatDoor
