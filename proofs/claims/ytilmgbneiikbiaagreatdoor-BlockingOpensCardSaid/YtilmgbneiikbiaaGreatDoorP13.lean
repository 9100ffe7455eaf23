/- A piece of the proof, made small by a program of ours. -/
import Derived.Test.YtilmgbneiikbiaaGreatDoorP12
set_option linter.all false
set_option maxRecDepth 1000000
set_option maxHeartbeats 0
namespace Go.Sy
noncomputable section
open Go.RowKit Go.Proofs Go.Proofs.Tryz
section
attribute [local instance] bZ
theorem ajd:cS prog vq 167 (Xl 0 32)=true:=by decide+kernel
theorem aje:cS prog vq 167 (Xl 32 32)=true:=by decide+kernel
theorem ajf:cS prog vq 167 (Xl 64 32)=true:=by decide+kernel
theorem ajg:cS prog vq 167 (Xl 96 32)=true:=by decide+kernel
end
end
end Go.Sy
