/- A piece of the proof, made small by a program of ours. -/
import Derived.Test.YtihglcfnelokaaaGreatDoorP12
set_option linter.all false
set_option maxRecDepth 1000000
set_option maxHeartbeats 0
namespace Go.Sy
noncomputable section
open Go.RowKit Go.Proofs Go.Proofs.Tryz
section
attribute [local instance] bJ
theorem ajD:cP prog uy 94 (WX 128 32)=true:=by decide+kernel
theorem ajE:cP prog uy 94 (WX 160 32)=true:=by decide+kernel
theorem ajF:cP prog uy 94 (WX 192 32)=true:=by decide+kernel
theorem ajG:cP prog uy 94 (WX 224 32)=true:=by decide+kernel
end
end
end Go.Sy
