/- A piece of the proof, made small by a program of ours. -/
import Derived.Test.YtilmgbneiikbiaaGreatDoorP12
set_option linter.all false
set_option maxRecDepth 1000000
set_option maxHeartbeats 0
namespace Go.Sy
noncomputable section
open Go.RowKit Go.Proofs Go.Proofs.Tryz
section
attribute [local instance] bZ
theorem ajh:cS prog vq 167 (Xl 128 32)=true:=by decide+kernel
theorem aji:cS prog vq 167 (Xl 160 32)=true:=by decide+kernel
theorem ajj:cS prog vq 167 (Xl 192 32)=true:=by decide+kernel
theorem ajk:cS prog vq 167 (Xl 224 32)=true:=by decide+kernel
end
end
end Go.Sy
