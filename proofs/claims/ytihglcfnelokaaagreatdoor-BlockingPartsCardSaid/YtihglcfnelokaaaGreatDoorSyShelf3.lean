/- slices.SortFunc at vectors: the shelf (laying printed by the kit). -/
import Derived.Shelf.SlSortCmp.WholeK
import Derived.Shelf.SlGeneric
import Derived.Test.YtihglcfnelokaaaGreatDoorP06
import Derived.Test.YtihglcfnelokaaaGreatDoorProg
namespace Go.Proofs
open Go.Shelf
def Tryz.sortVec_ren:Go.Shelf.Ren:=⟨λ|6=>177|15=>200|14=>224|28=>145|29=>256|20=>273|21=>274|22=>275|23=>276|24=>277|25=>278|26=>279|27=>280|46=>320|47=>295|48=>296|49=>321|50=>322|57=>346|n=>n,λ|22=>156|24=>44|25=>170|3=>3|39=>174|0=>0|53=>173|55=>171|4=>4|46=>376|45=>375|50=>207|5=>5|9=>9|66=>411|70=>415|76=>442|77=>443|n=>n,λ|n=>n⟩
theorem Tryz.sortVec:Go.Proofs.SlLaysF0.n6 Tryz.prog Tryz.sortVec_ren:={
 mixed:=by kernel_rfl
 f6:=⟨Tryz.f177.name,by decide,Tryz.func177.trans (congrArg some (by kernel_rfl))⟩
 f14:=⟨Tryz.f224.name,by decide,Tryz.func224.trans (congrArg some (by kernel_rfl))⟩
 f15:=Tryz.func200.trans (congrArg some (by kernel_rfl))
 f20:=⟨Tryz.f273.name,by decide,Tryz.func273.trans (congrArg some (by kernel_rfl))⟩
 f21:=⟨Tryz.f274.name,by decide,Tryz.func274.trans (congrArg some (by kernel_rfl))⟩
 f22:=⟨Tryz.f275.name,by decide,Tryz.func275.trans (congrArg some (by kernel_rfl))⟩
 f23:=⟨Tryz.f276.name,by decide,Tryz.func276.trans (congrArg some (by kernel_rfl))⟩
 f24:=⟨Tryz.f277.name,by decide,Tryz.func277.trans (congrArg some (by kernel_rfl))⟩
 f25:=⟨Tryz.f278.name,by decide,Tryz.func278.trans (congrArg some (by kernel_rfl))⟩
 f26:=⟨Tryz.f279.name,by decide,Tryz.func279.trans (congrArg some (by kernel_rfl))⟩
 f27:=⟨Tryz.f280.name,by decide,Tryz.func280.trans (congrArg some (by kernel_rfl))⟩
 f28:=Tryz.func145.trans (congrArg some (by kernel_rfl))
 f29:=Tryz.func256.trans (congrArg some (by kernel_rfl))
 f46:=⟨Tryz.f320.name,by decide,Tryz.func320.trans (congrArg some (by kernel_rfl))⟩
 f47:=Tryz.func295.trans (congrArg some (by kernel_rfl))
 f48:=Tryz.func296.trans (congrArg some (by kernel_rfl))
 f49:=⟨Tryz.f321.name,by decide,Tryz.func321.trans (congrArg some (by kernel_rfl))⟩
 f50:=⟨Tryz.f322.name,by decide,Tryz.func322.trans (congrArg some (by kernel_rfl))⟩
 f57:=⟨Tryz.f346.name,by decide,Tryz.func346.trans (congrArg some (by kernel_rfl))⟩
 t0:=Tryz.underlying0
 a0:=Tryz.isAgg0
 z0:=Tryz.sizeOf0
 v0:=Tryz.zeroValue0
 t3:=Tryz.underlying3
 a3:=Tryz.isAgg3
 z3:=Tryz.sizeOf3
 v3:=Tryz.zeroValue3
 t4:=Tryz.underlying4
 a4:=Tryz.isAgg4
 z4:=Tryz.sizeOf4
 v4:=Tryz.zeroValue4
 t5:=Tryz.underlying5
 a5:=Tryz.isAgg5
 z5:=Tryz.sizeOf5
 v5:=Tryz.zeroValue5
 t9:=Tryz.underlying9
 a9:=Tryz.isAgg9
 z9:=Tryz.sizeOf9
 v9:=Tryz.zeroValue9
 t22:=Tryz.underlying156
 a22:=Tryz.isAgg156
 z22:=Tryz.sizeOf156
 v22:=Tryz.zeroValue156
 t25:=Tryz.underlying170
 a25:=Tryz.isAgg170
 z25:=Tryz.sizeOf170
 v25:=Tryz.zeroValue170
 t39:=Tryz.underlying174
 a39:=Tryz.isAgg174
 z39:=Tryz.sizeOf174
 v39:=Tryz.zeroValue174
 t45:=Tryz.underlying375
 a45:=Tryz.isAgg375
 z45:=Tryz.sizeOf375
 v45:=Tryz.zeroValue375
 t46:=Tryz.underlying376
 a46:=Tryz.isAgg376
 z46:=Tryz.sizeOf376
 v46:=Tryz.zeroValue376
 t50:=Tryz.underlying207
 a50:=Tryz.isAgg207
 z50:=Tryz.sizeOf207
 v50:=Tryz.zeroValue207
 t53:=Tryz.underlying173
 a53:=Tryz.isAgg173
 z53:=Tryz.sizeOf173
 v53:=Tryz.zeroValue173
 t55:=Tryz.underlying171
 a55:=Tryz.isAgg171
 z55:=Tryz.sizeOf171
 v55:=Tryz.zeroValue171
 t66:=Tryz.underlying411
 a66:=Tryz.isAgg411
 z66:=Tryz.sizeOf411
 v66:=Tryz.zeroValue411
 t70:=Tryz.underlying415
 a70:=Tryz.isAgg415
 z70:=Tryz.sizeOf415
 v70:=Tryz.zeroValue415
 t76:=Tryz.underlying442
 a76:=Tryz.isAgg442
 z76:=Tryz.sizeOf442
 v76:=Tryz.zeroValue442
 t77:=Tryz.underlying443
 a77:=Tryz.isAgg443
 z77:=Tryz.sizeOf443
 v77:=Tryz.zeroValue443}
theorem Tryz.sort_vec:Go.Sy.SortShelf Tryz.prog 177 178 12:=λenc hk h1 cf hO blk off cap d w eg hcmp hH hblk hsz=>
 AnyQ.slices_SortFunc Tryz.sortVec 12 Tryz.isAgg44 Tryz.sizeOf44 enc hk h1 cf hO 178 #[] blk off cap d w eg hcmp hH hblk hsz
end Go.Proofs
