/- A piece of the proof, made small by a program of ours. -/
import Derived.Test.YtihglcfnelokaaaGreatDoorP21
import Derived.Test.YtihglcfnelokaaaGreatDoorP29
set_option linter.all false
set_option maxRecDepth 1000000
set_option maxHeartbeats 0
namespace Go.Sy
noncomputable section
open Go.RowKit Go.Proofs Go.Proofs.Tryz
def aca:List (AV×AV):=[
 ((.cons (Gu 0 0 0 1 1 1) .nil),(.agg (qd [(1,1)] .nil))),
 ((.cons (Gu 3 0 0 4 1 1) .nil),(.agg (qd [(1,1)] .nil)))]
theorem WC:cP prog Oj 205 aca=true:=by decide+kernel
def acb:List (AV×AV):=[
 ((.cons (Gu 0 0 0 1 1 1) (.cons Wu .nil)),(Gu 0 0 0 1 1 1)),
 ((.cons (Gu 0 0 0 1 1 1) (.cons abX .nil)),(Gu 1 0 0 2 1 1)),
 ((.cons (Gu 0 0 0 1 1 1) (.cons abY .nil)),(Gu 2 0 0 3 1 1)),
 ((.cons (Gu 3 0 0 4 1 1) (.cons Wu .nil)),(Gu 3 0 0 4 1 1)),
 ((.cons (Gu 0 0 0 1 1 1) (.cons abZ .nil)),ah0),
 ((.cons (Gu 0 0 0 1 1 1) (.cons ab0 .nil)),(Gu 3 0 0 4 1 1))]
theorem WD:cP prog Oj 120 acb=true:=by decide+kernel
def acd:List (AV×AV):=[
 ((.cons (Gu 0 0 0 1 1 1) .nil),ah6),
 ((.cons (Gu 3 0 0 4 1 1) .nil),ah7)]
theorem WE:cP prog Oj 204 acd=true:=by decide+kernel
def Ol:List (AV×AV):=aca
theorem aaM:∀e∈Ol,@PF bJ prog 205 e.1 e.2/\DP e.1/\DP e.2:=
 cm af ae Au (by decide) WC
def aie:Dc prog:=Dc.sw 205 Ol aaM (au rfl rfl)
def Om:List (AV×AV):=acb
theorem aaN:∀e∈Om,@PF bJ prog 120 e.1 e.2/\DP e.1/\DP e.2:=
 cm af ae Au (by decide) WD
def aif:Dc prog:=Dc.sw 120 Om aaN (au rfl rfl)
def On:List (AV×AV):=acd
theorem aaO:∀e∈On,@PF bJ prog 204 e.1 e.2/\DP e.1/\DP e.2:=
 cm af ae Au (by decide) WE
def aih:Dc prog:=Dc.sw 204 On aaO (au rfl rfl)
def aii:List (Dc prog):=aie::aif::aih::ab9
section
attribute [local instance] bJ
local instance (k:Nat) (z:Int):Decidable (Bz k z):=inferInstanceAs (Decidable (z.natAbs<2 ^ k))
def shX (x y n:Q):cW:=
 ([(x,(0,0),(0,0)),(x,(0,0),(1,0)),(x,(1,0),(0,0)),(x,(1,0),(1,0)),(y,(0,0),(0,0)),(y,(0,0),(1,0)),(y,(1,0),(0,0)),(y,(1,0),(1,0))],
  [(((-1,0),(0,0),(0,0)),n,[0,1,3,2]),(((0,0),(0,0),(-1,0)),(0,0),[0,2,6,4]),(((0,0),(-1,0),(0,0)),(0,0),[0,4,5,1]),(((0,0),(0,0),(1,0)),(1,0),[1,5,7,3]),(((0,0),(1,0),(0,0)),(1,0),[2,3,7,6]),(((1,0),(0,0),(0,0)),y,[4,6,7,5])],
  [(0,1,0,2),(0,2,0,1),(0,4,1,2),(1,3,0,3),(1,5,2,3),(2,3,0,4),(2,6,1,4),(3,7,3,4),(4,5,2,5),(4,6,1,5),(5,7,3,5),(6,7,4,5)])
theorem ae9 {x y n:Q} (hx:Bq 25 15 x) (hy:Bq 25 15 y):GS (shX x y n) where
 v0:=Nat.le_of_ble_eq_true rfl
 v1:=Nat.le_of_ble_eq_true rfl
 v:=by
  have h0:Bq 25 15 (0,0):=by constructor<;>decide
  have h1:Bq 25 15 (1,0):=by constructor<;>decide
  intro v hv;simp only [shX,List.mem_cons,List.not_mem_nil,or_false]at hv;rcases hv with rfl|rfl|rfl|rfl|rfl|rfl|rfl|rfl<;>exact⟨‹_›,‹_›,‹_›⟩
 f0:=Nat.le_of_ble_eq_true rfl
 f1:=Nat.le_of_ble_eq_true rfl
 f:=by
  have h0:Bq 66 80 (0,0):=by constructor<;>decide
  have h1:Bq 66 80 (1,0):=by constructor<;>decide
  have h2:Bq 66 80 (-1,0):=by constructor<;>decide
  intro v hv;simp only [shX,List.mem_cons,List.not_mem_nil,or_false]at hv;rcases hv with rfl|rfl|rfl|rfl|rfl|rfl
  .exact⟨⟨h2,h0,h0⟩,Nat.le_of_ble_eq_true rfl,0,Nat.le_of_ble_eq_true rfl,rfl⟩
  .exact⟨⟨h0,h0,h2⟩,Nat.le_of_ble_eq_true rfl,0,Nat.le_of_ble_eq_true rfl,rfl⟩
  .exact⟨⟨h0,h2,h0⟩,Nat.le_of_ble_eq_true rfl,0,Nat.le_of_ble_eq_true rfl,rfl⟩
  .exact⟨⟨h0,h0,h1⟩,Nat.le_of_ble_eq_true rfl,1,Nat.le_of_ble_eq_true rfl,rfl⟩
  .exact⟨⟨h0,h1,h0⟩,Nat.le_of_ble_eq_true rfl,2,Nat.le_of_ble_eq_true rfl,rfl⟩
  .exact⟨⟨h1,h0,h0⟩,Nat.le_of_ble_eq_true rfl,4,Nat.le_of_ble_eq_true rfl,rfl⟩
 z:=⟨_,List.mem_cons_self ..,rfl⟩
 e1:=Nat.le_of_ble_eq_true rfl
 e:=by
  intro v hv;have key:∀v∈(shX x y n).2.2,(0<=v.1/\v.1.toNat<8)/\0<=v.2.1/\v.2.1.toNat<8:=by
   show ∀v∈([(0,1,0,2),(0,2,0,1),(0,4,1,2),(1,3,0,3),(1,5,2,3),(2,3,0,4),(2,6,1,4),(3,7,3,4),(4,5,2,5),(4,6,1,5),(5,7,3,5),(6,7,4,5)]:List WV),(0<=v.1/\v.1.toNat<8)/\0<=v.2.1/\v.2.1.toNat<8;decide
  obtain⟨⟨a,b⟩,c,d⟩:=key v hv;exact⟨⟨v.1.toNat,(Int.toNat_of_nonneg a).symm,b⟩,v.2.1.toNat,(Int.toNat_of_nonneg c).symm,d⟩
def QC (k:Nat):cW:=match k with|0=>shX (0,0) (1,0) (0,0)|1=>shX (1,0) (2,0) (-1,0)|2=>shX (2,0) (3,0) (-2,0)|3=>shX (3,0) (4,0) (-3,0)|_=>shX (1,2) (3,2) (-1,2)
theorem EZ:∀k,GS (QC k)
 |0|1|2|3|(n+4)=>ae9 (by constructor<;>decide) (by constructor<;>decide)
def dX:Q3:=((1,0),(0,0),(0,0))
def six:List Q3:=[((-1,0),(0,0),(0,0)),((0,0),(-1,0),(0,0)),((0,0),(0,0),(-1,0)),((0,0),(0,0),(1,0)),((0,0),(1,0),(0,0)),((1,0),(0,0),(0,0))]
def prK:List (Nat×Nat):=[(0,1),(0,2),(1,0),(1,2),(2,0),(2,1),(0,3),(0,4)]
theorem aaP:∀k∈prK,six.isPerm ((Hn (QC k.1) (QC k.2)).map (·.2))=true:=by decide+kernel
theorem afa:six.Pairwise λa b=>(!decide (oT b a<0))=true:=by
 repeat' first|exact List.Pairwise.nil|refine List.Pairwise.cons ?_ ?_
 all_goals decide+kernel
theorem WG:∀x∈six,∀y∈six,¬oT x y<0 ->¬oT y x<0 ->x=y:=by decide+kernel
theorem WH {k:Nat×Nat} (h:k∈prK):pS (QC k.1) (QC k.2)=six:=by
 have a:=List.isPerm_iff.1 (aaP k h);exact(JS YR.swo (λx hx y hy=>WG x (a.mem_iff.2 hx) y (a.mem_iff.2 hy)) a afa).symm
def Oo:List (AV×AV):=(prK.take 7).map λk:Nat×Nat=>(.cons (aL.v (QC k.1)) (.cons (aL.v (QC k.2)) (.cons (aN.v dX) .nil)),ivV (Cr (um (QC k.1) (QC k.2) dX six b0 b0)))
theorem aaQ:∀e∈Oo,@PF bJ prog 148 e.1 e.2/\DP e.1/\DP e.2:=by
 intro e he;obtain⟨k,hk,rfl⟩:=List.mem_map.1 he;refine⟨?_,⟨aL.eK _,aL.eK _,aN.eK _,aA⟩,⟨aK.eK _,aK.eK _,bj.eK _,(aq .i64).eK _,aA⟩⟩;rw [<-WH (List.mem_of_mem_take hk)];exact Ac _ _ _ (VY (EZ _) (EZ _) ⟨⟨by decide,by decide⟩,⟨by decide,by decide⟩,⟨by decide,by decide⟩⟩).1
def aij:Dc prog:=Dc.sw 148 Oo aaQ (au rfl rfl)
def Oq:List (AV×AV):=prK.map λk:Nat×Nat=>(.cons (aL.v (QC k.1)) (.cons (aL.v (QC k.2)) .nil),(aq .i64).v (pV (QC k.1) (QC k.2) six 3))
theorem aaR:∀e∈Oq,@PF bJ prog 69 e.1 e.2/\DP e.1/\DP e.2:=by
 intro e he;obtain⟨k,hk,rfl⟩:=List.mem_map.1 he;refine⟨?_,⟨aL.eK _,aL.eK _,aA⟩,(aq .i64).eK _⟩;rw [<-WH hk];exact Ht _ _ (KX (EZ _) (EZ _))
def aik:Dc prog:=Dc.sw 69 Oq aaR (au rfl rfl)
def ace:List (Dc prog):=aij::aik::aii
def Ot:dY ->AV ->Heap ->Option CR:=ovD (sU ace)
theorem Av (B0:Nat):xB prog B0 Ot:=zm ae _ B0
end
end
end Go.Sy
