/- A piece of the proof, made small by a program of ours. -/
import Derived.Test.YtilmgbneiikbiaaGreatDoorP12
set_option linter.all false
set_option maxRecDepth 1000000
set_option maxHeartbeats 0
namespace Go.Sy
noncomputable section
open Go.RowKit Go.Proofs Go.Proofs.Tryz
section
attribute [local instance] bZ
theorem ajl:cS prog vq 167 (psH 0 32)=true:=by decide+kernel
theorem ajm:cS prog vq 167 (psH 32 32)=true:=by decide+kernel
theorem ajn:cS prog vq 167 (psH 64 32)=true:=by decide+kernel
theorem ajo:cS prog vq 167 (psH 96 32)=true:=by decide+kernel
end
end
end Go.Sy
