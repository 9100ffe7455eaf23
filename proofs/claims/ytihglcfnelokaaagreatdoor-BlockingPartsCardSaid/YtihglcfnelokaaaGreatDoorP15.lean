/- A piece of the proof, made small by a program of ours. -/
import Derived.Test.YtihglcfnelokaaaGreatDoorP12
set_option linter.all false
set_option maxRecDepth 1000000
set_option maxHeartbeats 0
namespace Go.Sy
noncomputable section
open Go.RowKit Go.Proofs Go.Proofs.Tryz
section
attribute [local instance] bJ
theorem ajH:cP prog uy 94 (psH 0 32)=true:=by decide+kernel
theorem ajI:cP prog uy 94 (psH 32 32)=true:=by decide+kernel
theorem ajJ:cP prog uy 94 (psH 64 32)=true:=by decide+kernel
theorem ajK:cP prog uy 94 (psH 96 32)=true:=by decide+kernel
end
end
end Go.Sy
