/- A piece of the proof, made small by a program of ours. -/
import Derived.Test.YtilmgbneiikbiaaGreatDoorP28
set_option linter.all false
set_option maxRecDepth 1000000
set_option maxHeartbeats 0
namespace Go.Sy
noncomputable section
open Go.RowKit Go.Proofs Go.Proofs.Tryz
def Ow:List (AV×AV):=ab3
theorem aaM:∀e∈Ow,@PF bZ prog 94 e.1 e.2/\DP e.1/\DP e.2:=
 cz af ae iR (by decide) WK
def ahM:Dc prog:=Dc.sg 94 Ow aaM (aw rfl rfl)
def Ox:List (AV×AV):=ab4
theorem aaN:∀e∈Ox,@PF bZ prog 51 e.1 e.2/\DP e.1/\DP e.2:=
 cz af ae iR (by decide) WL
def ahN:Dc prog:=Dc.sg 51 Ox aaN (aw rfl rfl)
def Oy:List (AV×AV):=ab5
theorem aaO:∀e∈Oy,@PF bZ prog 43 e.1 e.2/\DP e.1/\DP e.2:=
 cz af ae iR (by decide) WM
def ahO:Dc prog:=Dc.sg 43 Oy aaO (aw rfl rfl)
def Oz:List (AV×AV):=ab6
theorem aaP:∀e∈Oz,@PF bZ prog 70 e.1 e.2/\DP e.1/\DP e.2:=
 cz af ae iR (by decide) WN
def ahP:Dc prog:=Dc.sg 70 Oz aaP (aw rfl rfl)
def OA:List (AV×AV):=ab7
theorem aaQ:∀e∈OA,@PF bZ prog 192 e.1 e.2/\DP e.1/\DP e.2:=
 cz af ae iR (by decide) WO
def ahQ:Dc prog:=Dc.sg 192 OA aaQ (aw rfl rfl)
def ab8:List (Dc prog):=ahM::ahN::ahO::ahP::ahQ::dc0
def ab9:eL ->AV ->Heap ->Option CR:=ovD (sL ab8)
theorem WQ (B0:Nat):xw prog B0 ab9:=ze ae _ B0
end
end Go.Sy
