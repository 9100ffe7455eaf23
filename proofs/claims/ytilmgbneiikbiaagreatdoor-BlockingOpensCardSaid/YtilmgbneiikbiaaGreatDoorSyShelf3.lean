/- slices.SortFunc at vectors: the shelf (laying printed by the kit). -/
import Derived.Shelf.SlSortCmp.WholeK
import Derived.Shelf.SlGeneric
import Derived.Test.YtilmgbneiikbiaaGreatDoorP06
import Derived.Test.YtilmgbneiikbiaaGreatDoorProg
namespace Go.Proofs
open Go.Shelf
def Tryz.sortVec_ren:Go.Shelf.Ren:=⟨λ|6=>173|15=>180|14=>234|28=>229|29=>244|20=>288|21=>289|22=>290|23=>291|24=>292|25=>293|26=>294|27=>295|46=>340|47=>297|48=>298|49=>341|50=>342|57=>382|n=>n,λ|22=>138|24=>70|25=>245|3=>3|39=>204|0=>0|53=>248|55=>246|4=>4|46=>354|45=>353|50=>150|5=>5|9=>9|66=>414|70=>418|76=>452|77=>453|n=>n,λ|n=>n⟩
theorem Tryz.sortVec:Go.Proofs.SlLaysF0.n6 Tryz.prog Tryz.sortVec_ren:={
 mixed:=by kernel_rfl
 f6:=⟨Tryz.f173.name,by decide,Tryz.func173.trans (congrArg some (by kernel_rfl))⟩
 f14:=⟨Tryz.f234.name,by decide,Tryz.func234.trans (congrArg some (by kernel_rfl))⟩
 f15:=Tryz.func180.trans (congrArg some (by kernel_rfl))
 f20:=⟨Tryz.f288.name,by decide,Tryz.func288.trans (congrArg some (by kernel_rfl))⟩
 f21:=⟨Tryz.f289.name,by decide,Tryz.func289.trans (congrArg some (by kernel_rfl))⟩
 f22:=⟨Tryz.f290.name,by decide,Tryz.func290.trans (congrArg some (by kernel_rfl))⟩
 f23:=⟨Tryz.f291.name,by decide,Tryz.func291.trans (congrArg some (by kernel_rfl))⟩
 f24:=⟨Tryz.f292.name,by decide,Tryz.func292.trans (congrArg some (by kernel_rfl))⟩
 f25:=⟨Tryz.f293.name,by decide,Tryz.func293.trans (congrArg some (by kernel_rfl))⟩
 f26:=⟨Tryz.f294.name,by decide,Tryz.func294.trans (congrArg some (by kernel_rfl))⟩
 f27:=⟨Tryz.f295.name,by decide,Tryz.func295.trans (congrArg some (by kernel_rfl))⟩
 f28:=Tryz.func229.trans (congrArg some (by kernel_rfl))
 f29:=Tryz.func244.trans (congrArg some (by kernel_rfl))
 f46:=⟨Tryz.f340.name,by decide,Tryz.func340.trans (congrArg some (by kernel_rfl))⟩
 f47:=Tryz.func297.trans (congrArg some (by kernel_rfl))
 f48:=Tryz.func298.trans (congrArg some (by kernel_rfl))
 f49:=⟨Tryz.f341.name,by decide,Tryz.func341.trans (congrArg some (by kernel_rfl))⟩
 f50:=⟨Tryz.f342.name,by decide,Tryz.func342.trans (congrArg some (by kernel_rfl))⟩
 f57:=⟨Tryz.f382.name,by decide,Tryz.func382.trans (congrArg some (by kernel_rfl))⟩
 t0:=Tryz.underlying0
 a0:=Tryz.isAgg0
 z0:=Tryz.sizeOf0
 v0:=Tryz.zeroValue0
 t3:=Tryz.underlying3
 a3:=Tryz.isAgg3
 z3:=Tryz.sizeOf3
 v3:=Tryz.zeroValue3
 t4:=Tryz.underlying4
 a4:=Tryz.isAgg4
 z4:=Tryz.sizeOf4
 v4:=Tryz.zeroValue4
 t5:=Tryz.underlying5
 a5:=Tryz.isAgg5
 z5:=Tryz.sizeOf5
 v5:=Tryz.zeroValue5
 t9:=Tryz.underlying9
 a9:=Tryz.isAgg9
 z9:=Tryz.sizeOf9
 v9:=Tryz.zeroValue9
 t22:=Tryz.underlying138
 a22:=Tryz.isAgg138
 z22:=Tryz.sizeOf138
 v22:=Tryz.zeroValue138
 t25:=Tryz.underlying245
 a25:=Tryz.isAgg245
 z25:=Tryz.sizeOf245
 v25:=Tryz.zeroValue245
 t39:=Tryz.underlying204
 a39:=Tryz.isAgg204
 z39:=Tryz.sizeOf204
 v39:=Tryz.zeroValue204
 t45:=Tryz.underlying353
 a45:=Tryz.isAgg353
 z45:=Tryz.sizeOf353
 v45:=Tryz.zeroValue353
 t46:=Tryz.underlying354
 a46:=Tryz.isAgg354
 z46:=Tryz.sizeOf354
 v46:=Tryz.zeroValue354
 t50:=Tryz.underlying150
 a50:=Tryz.isAgg150
 z50:=Tryz.sizeOf150
 v50:=Tryz.zeroValue150
 t53:=Tryz.underlying248
 a53:=Tryz.isAgg248
 z53:=Tryz.sizeOf248
 v53:=Tryz.zeroValue248
 t55:=Tryz.underlying246
 a55:=Tryz.isAgg246
 z55:=Tryz.sizeOf246
 v55:=Tryz.zeroValue246
 t66:=Tryz.underlying414
 a66:=Tryz.isAgg414
 z66:=Tryz.sizeOf414
 v66:=Tryz.zeroValue414
 t70:=Tryz.underlying418
 a70:=Tryz.isAgg418
 z70:=Tryz.sizeOf418
 v70:=Tryz.zeroValue418
 t76:=Tryz.underlying452
 a76:=Tryz.isAgg452
 z76:=Tryz.sizeOf452
 v76:=Tryz.zeroValue452
 t77:=Tryz.underlying453
 a77:=Tryz.isAgg453
 z77:=Tryz.sizeOf453
 v77:=Tryz.zeroValue453}
theorem Tryz.sort_vec:Go.Sy.SortShelf Tryz.prog 173 174 12:=λenc hk h1 cf hO blk off cap d w eg hcmp hH hblk hsz=>
 AnyQ.slices_SortFunc Tryz.sortVec 12 Tryz.isAgg70 Tryz.sizeOf70 enc hk h1 cf hO 174 #[] blk off cap d w eg hcmp hH hblk hsz
end Go.Proofs
