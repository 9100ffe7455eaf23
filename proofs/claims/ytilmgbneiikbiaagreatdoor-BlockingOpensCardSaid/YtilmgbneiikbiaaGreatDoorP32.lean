/- A piece of the proof, made small by a program of ours. -/
import Derived.Test.YtilmgbneiikbiaaGreatDoorP23
import Derived.Test.YtilmgbneiikbiaaGreatDoorP31
set_option linter.all false
set_option maxRecDepth 1000000
set_option maxHeartbeats 0
namespace Go.Sy
noncomputable section
open Go.RowKit Go.Proofs Go.Proofs.Tryz
def acd:List (AV×AV):=[
 ((.cons (GD 0 0 0 1 1 1) .nil),(.agg (qd [(1,1)] .nil))),
 ((.cons (GD 3 0 0 4 1 1) .nil),(.agg (qd [(1,1)] .nil)))]
theorem WS:cS prog OD 307 acd=true:=by decide+kernel
def ace:List (AV×AV):=[
 ((.cons (GD 0 0 0 1 1 1) (.cons WJ .nil)),(GD 0 0 0 1 1 1)),
 ((.cons (GD 0 0 0 1 1 1) (.cons abZ .nil)),(GD 1 0 0 2 1 1)),
 ((.cons (GD 0 0 0 1 1 1) (.cons ab0 .nil)),(GD 2 0 0 3 1 1)),
 ((.cons (GD 3 0 0 4 1 1) (.cons WJ .nil)),(GD 3 0 0 4 1 1)),
 ((.cons (GD 0 0 0 1 1 1) (.cons ab1 .nil)),ahE),
 ((.cons (GD 0 0 0 1 1 1) (.cons ab2 .nil)),(GD 3 0 0 4 1 1))]
theorem WT:cS prog OD 137 ace=true:=by decide+kernel
def acf:List (AV×AV):=[
 ((.cons (GD 0 0 0 1 1 1) .nil),ahK),
 ((.cons (GD 3 0 0 4 1 1) .nil),ahL)]
theorem WU:cS prog OD 306 acf=true:=by decide+kernel
def OE:List (AV×AV):=acd
theorem aaS:∀e∈OE,@PF bZ prog 307 e.1 e.2/\DP e.1/\DP e.2:=
 cz af ae An (by decide) WS
def ahS:Dc prog:=Dc.sg 307 OE aaS (aw rfl rfl)
def OG:List (AV×AV):=ace
theorem aaT:∀e∈OG,@PF bZ prog 137 e.1 e.2/\DP e.1/\DP e.2:=
 cz af ae An (by decide) WT
def ahT:Dc prog:=Dc.sg 137 OG aaT (aw rfl rfl)
def OH:List (AV×AV):=acf
theorem aaU:∀e∈OH,@PF bZ prog 306 e.1 e.2/\DP e.1/\DP e.2:=
 cz af ae An (by decide) WU
def ahU:Dc prog:=Dc.sg 306 OH aaU (aw rfl rfl)
def ahV:List (Dc prog):=ahS::ahT::ahU::acb
section
attribute [local instance] bZ
local instance (k:Nat) (z:Int):Decidable (Bz k z):=inferInstanceAs (Decidable (z.natAbs<2 ^ k))
def shX (x y n:Q):dh:=
 ([(x,(0,0),(0,0)),(x,(0,0),(1,0)),(x,(1,0),(0,0)),(x,(1,0),(1,0)),(y,(0,0),(0,0)),(y,(0,0),(1,0)),(y,(1,0),(0,0)),(y,(1,0),(1,0))],
  [(((-1,0),(0,0),(0,0)),n,[0,1,3,2]),(((0,0),(0,0),(-1,0)),(0,0),[0,2,6,4]),(((0,0),(-1,0),(0,0)),(0,0),[0,4,5,1]),(((0,0),(0,0),(1,0)),(1,0),[1,5,7,3]),(((0,0),(1,0),(0,0)),(1,0),[2,3,7,6]),(((1,0),(0,0),(0,0)),y,[4,6,7,5])],
  [(0,1,0,2),(0,2,0,1),(0,4,1,2),(1,3,0,3),(1,5,2,3),(2,3,0,4),(2,6,1,4),(3,7,3,4),(4,5,2,5),(4,6,1,5),(5,7,3,5),(6,7,4,5)])
theorem ae4 {x y n:Q} (hx:Bq 25 15 x) (hy:Bq 25 15 y):GS (shX x y n) where
 v0:=Nat.le_of_ble_eq_true rfl
 v1:=Nat.le_of_ble_eq_true rfl
 v:=by
  have h0:Bq 25 15 (0,0):=by constructor<;>decide
  have h1:Bq 25 15 (1,0):=by constructor<;>decide
  intro v hv;simp only [shX,List.mem_cons,List.not_mem_nil,or_false]at hv;rcases hv with rfl|rfl|rfl|rfl|rfl|rfl|rfl|rfl<;>exact⟨‹_›,‹_›,‹_›⟩
 f0:=Nat.le_of_ble_eq_true rfl
 f1:=Nat.le_of_ble_eq_true rfl
 f:=by
  have h0:Bq 66 80 (0,0):=by constructor<;>decide
  have h1:Bq 66 80 (1,0):=by constructor<;>decide
  have h2:Bq 66 80 (-1,0):=by constructor<;>decide
  intro v hv;simp only [shX,List.mem_cons,List.not_mem_nil,or_false]at hv;rcases hv with rfl|rfl|rfl|rfl|rfl|rfl
  .exact⟨⟨h2,h0,h0⟩,Nat.le_of_ble_eq_true rfl,0,Nat.le_of_ble_eq_true rfl,rfl⟩
  .exact⟨⟨h0,h0,h2⟩,Nat.le_of_ble_eq_true rfl,0,Nat.le_of_ble_eq_true rfl,rfl⟩
  .exact⟨⟨h0,h2,h0⟩,Nat.le_of_ble_eq_true rfl,0,Nat.le_of_ble_eq_true rfl,rfl⟩
  .exact⟨⟨h0,h0,h1⟩,Nat.le_of_ble_eq_true rfl,1,Nat.le_of_ble_eq_true rfl,rfl⟩
  .exact⟨⟨h0,h1,h0⟩,Nat.le_of_ble_eq_true rfl,2,Nat.le_of_ble_eq_true rfl,rfl⟩
  .exact⟨⟨h1,h0,h0⟩,Nat.le_of_ble_eq_true rfl,4,Nat.le_of_ble_eq_true rfl,rfl⟩
 z:=⟨_,List.mem_cons_self ..,rfl⟩
 e1:=Nat.le_of_ble_eq_true rfl
 e:=by
  intro v hv;have key:∀v∈(shX x y n).2.2,(0<=v.1/\v.1.toNat<8)/\0<=v.2.1/\v.2.1.toNat<8:=by
   show ∀v∈([(0,1,0,2),(0,2,0,1),(0,4,1,2),(1,3,0,3),(1,5,2,3),(2,3,0,4),(2,6,1,4),(3,7,3,4),(4,5,2,5),(4,6,1,5),(5,7,3,5),(6,7,4,5)]:List Ug),(0<=v.1/\v.1.toNat<8)/\0<=v.2.1/\v.2.1.toNat<8;decide
  obtain⟨⟨a,b⟩,c,d⟩:=key v hv;exact⟨⟨v.1.toNat,(Int.toNat_of_nonneg a).symm,b⟩,v.2.1.toNat,(Int.toNat_of_nonneg c).symm,d⟩
def QV (k:Nat):dh:=match k with|0=>shX (0,0) (1,0) (0,0)|1=>shX (1,0) (2,0) (-1,0)|2=>shX (2,0) (3,0) (-2,0)|3=>shX (3,0) (4,0) (-3,0)|_=>shX (1,2) (3,2) (-1,2)
theorem Fh:∀k,GS (QV k)
 |0|1|2|3|(n+4)=>ae4 (by constructor<;>decide) (by constructor<;>decide)
def dX:Q3:=((1,0),(0,0),(0,0))
def six:List Q3:=[((-1,0),(0,0),(0,0)),((0,0),(-1,0),(0,0)),((0,0),(0,0),(-1,0)),((0,0),(0,0),(1,0)),((0,0),(1,0),(0,0)),((1,0),(0,0),(0,0))]
def prK:List (Nat×Nat):=[(0,1),(0,2),(1,0),(1,2),(2,0),(2,1),(0,3),(0,4)]
theorem aaV:∀k∈prK,six.isPerm ((Fm (QV k.1) (QV k.2)).map (·.2))=true:=by decide+kernel
theorem ae5:six.Pairwise λa b=>(!decide (nU b a<0))=true:=by
 repeat' first|exact List.Pairwise.nil|refine List.Pairwise.cons ?_ ?_
 all_goals decide+kernel
theorem WV:∀x∈six,∀y∈six,¬nU x y<0 ->¬nU y x<0 ->x=y:=by decide+kernel
theorem WW {k:Nat×Nat} (h:k∈prK):kL (QV k.1) (QV k.2)=six:=by
 have a:=List.isPerm_iff.1 (aaV k h);exact(Kj Ze.swo (λx hx y hy=>WV x (a.mem_iff.2 hx) y (a.mem_iff.2 hy)) a ae5).symm
def OI:List (AV×AV):=(prK.take 7).map λk:Nat×Nat=>(.cons (aN.v (QV k.1)) (.cons (aN.v (QV k.2)) (.cons (aQ.v dX) .nil)),ivV (Cq (uf (QV k.1) (QV k.2) dX six b0 b0)))
theorem aaW:∀e∈OI,@PF bZ prog 53 e.1 e.2/\DP e.1/\DP e.2:=by
 intro e he;obtain⟨k,hk,rfl⟩:=List.mem_map.1 he;refine⟨?_,⟨aN.jm _,aN.jm _,aQ.jm _,aB⟩,⟨aK.jm _,aK.jm _,bG.jm _,(au .i64).jm _,aB⟩⟩;rw [<-WW (List.mem_of_mem_take hk)];exact La _ _ _ (ahi (Fh _) (Fh _) ⟨⟨by decide,by decide⟩,⟨by decide,by decide⟩,⟨by decide,by decide⟩⟩).1
def ahW:Dc prog:=Dc.sg 53 OI aaW (aw rfl rfl)
def OJ:List (AV×AV):=prK.map λk:Nat×Nat=>(.cons (aN.v (QV k.1)) (.cons (aN.v (QV k.2)) .nil),(au .i64).v (ki (QV k.1) (QV k.2) six 3))
theorem aaX:∀e∈OJ,@PF bZ prog 72 e.1 e.2/\DP e.1/\DP e.2:=by
 intro e he;obtain⟨k,hk,rfl⟩:=List.mem_map.1 he;refine⟨?_,⟨aN.jm _,aN.jm _,aB⟩,(au .i64).jm _⟩;rw [<-WW hk];exact HB _ _ (Lh (Fh _) (Fh _))
def ahX:Dc prog:=Dc.sg 72 OJ aaX (aw rfl rfl)
def acg:List (Dc prog):=ahW::ahX::ahV
def OL:eL ->AV ->Heap ->Option CR:=ovD (sL acg)
theorem Ao (B0:Nat):xw prog B0 OL:=ze ae _ B0
end
end
end Go.Sy
