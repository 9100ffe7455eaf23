/- A piece of the proof, made small by a program of ours. -/
import Derived.Test.YtihglcfnelokaaaGreatDoorP16
set_option linter.all false
set_option maxRecDepth 1000000
set_option maxHeartbeats 0
namespace Go.Sy
noncomputable section
open Go.RowKit Go.Proofs Go.Proofs.Tryz
section
attribute [local irreducible] Cw aj bE PF Sub
attribute [local instance] bJ
def Hw:Cn prog:=
 ⟨73,false,Tn×lz,λy=> .cons (plV y.1 y.2) .nil,λy=> .int .i64 0,λy=>y.1∈bZ/\y.2.OK,λa b ha hb h=>rfl,
  λy=>⟨⟨aA,aA,aA,aA,aR.eK _,aR.eK _,aR.eK _,aA⟩,aA⟩,λy=> .int,λe=>Bool.noConfusion e,λy h=>Hv y.1 h.1 y.2 h.2,au rfl rfl⟩
def kj (t:Tn):V3×V3×V3:=
 ((t.1*t.1+t.2.1*t.2.1 - t.2.2.1*t.2.2.1 - t.2.2.2*t.2.2.2,2*(t.2.1*t.2.2.1 - t.1*t.2.2.2),2*(t.2.1*t.2.2.2+t.1*t.2.2.1)),
  (2*(t.2.1*t.2.2.1+t.1*t.2.2.2),t.1*t.1 - t.2.1*t.2.1+t.2.2.1*t.2.2.1 - t.2.2.2*t.2.2.2,2*(t.2.2.1*t.2.2.2 - t.1*t.2.1)),
  (2*(t.2.1*t.2.2.2 - t.1*t.2.2.1),2*(t.2.2.1*t.2.2.2+t.1*t.2.1),t.1*t.1 - t.2.1*t.2.1 - t.2.2.1*t.2.2.1+t.2.2.2*t.2.2.2))
def UF (t:Tn):Int:=t.1*t.1+t.2.1*t.2.1+t.2.2.1*t.2.2.1+t.2.2.2*t.2.2.2
def mN (t:Tn):Q:=Q.div (1,0) (UF t,0)
def kH (t:Tn) (x:lz):Ef:=((xY (fJ (kj t).1) (mN t),xY (fJ (kj t).2.1) (mN t),xY (fJ (kj t).2.2) (mN t)),x.q)
theorem KL {a:Q3} {k:Q} (h:aF (rk k a.1) (aF (rk k a.2.1) (rk k a.2.2))=true):GY a k:=by
 obtain⟨h1,h⟩:=aw.1 h;obtain⟨h2,h3⟩:=aw.1 h;exact⟨pO h1,pO h2,pO h3⟩
theorem Zu:∀t∈bZ,(aF (rk (mN t) (fJ (kj t).1).1) (aF (rk (mN t) (fJ (kj t).1).2.1) (rk (mN t) (fJ (kj t).1).2.2))=true)/\(aF (rk (mN t) (fJ (kj t).2.1).1) (aF (rk (mN t) (fJ (kj t).2.1).2.1) (rk (mN t) (fJ (kj t).2.1).2.2))=true)/\
 (aF (rk (mN t) (fJ (kj t).2.2).1) (aF (rk (mN t) (fJ (kj t).2.2).2.1) (rk (mN t) (fJ (kj t).2.2).2.2))=true):=by decide+kernel
def QS:List (Cn prog):=[Hw,jW,Cn.lift bJ jQ,Cn.lift bJ uc,Cn.lift bJ rn,Cn.lift bJ pQ]
def IV3 (v:V3):Prop:=Ay v.1/\Ay v.2.1/\Ay v.2.2
def MoF (t:Tn):Prop:=Ay (UF t)/\Qh (1,0) (UF t,0)/\IV3 (kj t).1/\IV3 (kj t).2.1/\IV3 (kj t).2.2
theorem ajN:∀t∈bZ,MoF t:=λt ht=>by
 simp only [bZ,List.mem_cons,List.not_mem_nil,or_false]at ht;rcases ht with rfl|rfl|rfl|rfl|rfl|rfl|rfl|rfl|rfl|rfl|rfl|rfl|rfl|rfl|rfl|rfl|rfl|rfl|rfl|rfl|rfl|rfl|rfl|rfl|rfl|rfl|rfl;all_goals exact⟨by constructor<;>decide,λ_=>⟨by unfold SH;decide,by unfold SH;decide,by unfold SH;decide,by unfold SH;decide,⟨by unfold SZ;decide,by unfold SZ;decide,by decide⟩⟩,⟨by constructor<;>decide,by constructor<;>decide,by constructor<;>decide⟩,⟨by constructor<;>decide,by constructor<;>decide,by constructor<;>decide⟩,⟨by constructor<;>decide,by constructor<;>decide,by constructor<;>decide⟩⟩
theorem agS (t:Tn) (ht:t∈bZ) (x:lz) (hx:x.OK):PF prog 67 (.cons (plV t x) .nil) (.aO (.cons (lR.v (kH t x)) (.cons ((aq .i64).v 0) .nil))):=by
 have hm:=ht;obtain⟨k1,k2,k3⟩:=Zu t ht;have k1:=KL k1;have k2:=KL k2;have k3:=KL k3;obtain⟨f1,f2,f3,f4,f5⟩:=ajN t ht;have hp:=lR.ak (kH t x);simp only [bZ,List.mem_cons,List.not_mem_nil,or_false]at ht;rcases ht with rfl|rfl|rfl|rfl|rfl|rfl|rfl|rfl|rfl|rfl|rfl|rfl|rfl|rfl|rfl|rfl|rfl|rfl|rfl|rfl|rfl|rfl|rfl|rfl|rfl|rfl|rfl;all_goals
  refine PF.go af ae QS (fn:=f67) rfl rfl rfl (hpure:=Ab _ _) λB0 hc=>?_;conv=>whnf
  refine cg QS 0 Hw (_,x) ⟨hm,hx⟩ (aC ?_);refine cg QS 1 jW x hx (aC ?_);refine cg QS 2 (Cn.lift bJ jQ) (1:Int) (by constructor<;>decide) (aC ?_);refine cg QS 2 (Cn.lift bJ jQ) _ f1 (aC ?_);refine cg QS 3 (Cn.lift bJ uc) (_,_) f2 (aC ?_);refine Cw.bL af rfl rfl hc 4 (aC ?_);refine cg QS 4 (Cn.lift bJ rn) _ f3 (aC ?_);refine cg QS 5 (Cn.lift bJ pQ) (_,_) k1 (aC ?_);refine cg QS 4 (Cn.lift bJ rn) _ f4 (aC ?_);refine cg QS 5 (Cn.lift bJ pQ) (_,_) k2 (aC ?_);refine cg QS 4 (Cn.lift bJ rn) _ f5 (aC ?_);refine cg QS 5 (Cn.lift bJ pQ) (_,_) k3 (aC ?_);exact aj.pure (.aO (.cons hp (.cons .int .nil)))
def abx:Cn prog:=
 ⟨67,false,Tn×lz,λy=> .cons (plV y.1 y.2) .nil,λy=> .aO (.cons (lR.v (kH y.1 y.2)) (.cons ((aq .i64).v 0) .nil)),λy=>y.1∈bZ/\y.2.OK,λa b ha hb h=>by
   obtain⟨⟨w,x,y,z⟩,⟨a1,a2⟩,⟨b1,b2⟩,⟨c1,c2⟩⟩:=a;obtain⟨⟨w',x',y',z'⟩,⟨d1,d2⟩,⟨e1,e2⟩,⟨f1,f2⟩⟩:=b;injection h with h _;injection h with h;injection h with g1 h;injection h with g2 h;injection h with g3 h;injection h with g4 h;injection g1 with _ g1;injection g2 with _ g2;injection g3 with _ g3;injection g4 with _ g4;have hs:=lz.Hu ha.2 hb.2 (congrArg AV.agg h);have g1:w=w':=g1;have g2:x=x':=g2;have g3:y=y':=g3;have g4:z=z':=g4;have hs:((a1,a2),(b1,b2),(c1,c2))=((d1,d2),(e1,e2),(f1,f2)):=hs;rw [g1,g2,g3,g4,hs],
  λy=>⟨⟨aA,aA,aA,aA,aR.eK _,aR.eK _,aR.eK _,aA⟩,aA⟩,λy=> .aO (.cons (lR.ak _) (.cons .int .nil)),λe=>Bool.noConfusion e,λy h=>agS y.1 h.1 y.2 h.2,au rfl rfl⟩
end
end
end Go.Sy
