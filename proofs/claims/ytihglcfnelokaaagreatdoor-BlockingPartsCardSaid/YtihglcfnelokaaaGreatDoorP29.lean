/- A piece of the proof, made small by a program of ours. -/
import Derived.Test.YtihglcfnelokaaaGreatDoorP28
set_option linter.all false
set_option maxRecDepth 1000000
set_option maxHeartbeats 0
namespace Go.Sy
noncomputable section
open Go.RowKit Go.Proofs Go.Proofs.Tryz
def Oi:List (AV×AV):=ab8
theorem aaL:∀e∈Oi,@PF bJ prog 114 e.1 e.2/\DP e.1/\DP e.2:=
 cm af ae WA (by decide) WB
def aid:Dc prog:=Dc.sw 114 Oi aaL (au rfl rfl)
def ab9:List (Dc prog):=aid::ab6
def Oj:dY ->AV ->Heap ->Option CR:=ovD (sU ab9)
theorem Au (B0:Nat):xB prog B0 Oj:=zm ae _ B0
end
end Go.Sy
