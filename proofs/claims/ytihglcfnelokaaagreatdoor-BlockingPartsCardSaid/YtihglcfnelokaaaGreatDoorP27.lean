/- A piece of the proof, made small by a program of ours. -/
import Derived.Test.YtihglcfnelokaaaGreatDoorP26
set_option linter.all false
set_option maxRecDepth 1000000
set_option maxHeartbeats 0
namespace Go.Sy
noncomputable section
open Go.RowKit Go.Proofs Go.Proofs.Tryz
def Od:List (AV×AV):=ab1
theorem aaG:∀e∈Od,@PF bJ prog 146 e.1 e.2/\DP e.1/\DP e.2:=
 cm af ae ik (by decide) Wv
def ah8:Dc prog:=Dc.sw 146 Od aaG (au rfl rfl)
def Oe:List (AV×AV):=ab2
theorem aaH:∀e∈Oe,@PF bJ prog 20 e.1 e.2/\DP e.1/\DP e.2:=
 cm af ae ik (by decide) Ww
def ah9:Dc prog:=Dc.sw 20 Oe aaH (au rfl rfl)
def Of:List (AV×AV):=ab3
theorem aaI:∀e∈Of,@PF bJ prog 17 e.1 e.2/\DP e.1/\DP e.2:=
 cm af ae ik (by decide) Wx
def aia:Dc prog:=Dc.sw 17 Of aaI (au rfl rfl)
def Og:List (AV×AV):=ab4
theorem aaJ:∀e∈Og,@PF bJ prog 67 e.1 e.2/\DP e.1/\DP e.2:=
 cm af ae ik (by decide) Wy
def aib:Dc prog:=Dc.sw 67 Og aaJ (au rfl rfl)
def Oh:List (AV×AV):=ab5
theorem aaK:∀e∈Oh,@PF bJ prog 162 e.1 e.2/\DP e.1/\DP e.2:=
 cm af ae ik (by decide) Wz
def aic:Dc prog:=Dc.sw 162 Oh aaK (au rfl rfl)
def ab6:List (Dc prog):=ah8::ah9::aia::aib::aic::dc0
def ab7:dY ->AV ->Heap ->Option CR:=ovD (sU ab6)
theorem WA (B0:Nat):xB prog B0 ab7:=zm ae _ B0
end
end Go.Sy
