/- A piece of the proof, made small by a program of ours. -/
import Derived.Test.YtilmgbneiikbiaaGreatDoorP16
set_option linter.all false
set_option maxRecDepth 1000000
set_option maxHeartbeats 0
namespace Go.Sy
noncomputable section
open Go.RowKit Go.Proofs Go.Proofs.Tryz
section
attribute [local irreducible] Cw ak bq PF Sub
attribute [local instance] bZ
def HD:Cn prog:=
 ⟨75,false,Tn×sV,λy=> .cons (plV y.1 y.2) .nil,λy=> .int .i64 0,λy=>y.1∈bN/\y.2.OK,λa b ha hb h=>rfl,
  λy=>⟨⟨aB,aB,aB,aB,aV.jm _,aV.jm _,aV.jm _,aB⟩,aB⟩,λy=> .int,λe=>Bool.noConfusion e,λy h=>HC y.1 h.1 y.2 h.2,aw rfl rfl⟩
def cP (t:Tn):V3×V3×V3:=
 ((t.1*t.1+t.2.1*t.2.1 - t.2.2.1*t.2.2.1 - t.2.2.2*t.2.2.2,2*(t.2.1*t.2.2.1 - t.1*t.2.2.2),2*(t.2.1*t.2.2.2+t.1*t.2.2.1)),
  (2*(t.2.1*t.2.2.1+t.1*t.2.2.2),t.1*t.1 - t.2.1*t.2.1+t.2.2.1*t.2.2.1 - t.2.2.2*t.2.2.2,2*(t.2.2.1*t.2.2.2 - t.1*t.2.1)),
  (2*(t.2.1*t.2.2.2 - t.1*t.2.2.1),2*(t.2.2.1*t.2.2.2+t.1*t.2.1),t.1*t.1 - t.2.1*t.2.1 - t.2.2.1*t.2.2.1+t.2.2.2*t.2.2.2))
def fh (t:Tn):Int:=t.1*t.1+t.2.1*t.2.1+t.2.2.1*t.2.2.1+t.2.2.2*t.2.2.2
def jc (t:Tn):Q:=Q.div (1,0) (fh t,0)
def gh (t:Tn) (x:sV):Bc:=((qT (gR (cP t).1) (jc t),qT (gR (cP t).2.1) (jc t),qT (gR (cP t).2.2) (jc t)),x.q)
theorem KX {a:Q3} {k:Q} (h:aF (qQ k a.1) (aF (qQ k a.2.1) (qQ k a.2.2))=true):Hd a k:=by
 obtain⟨h1,h⟩:=aq.1 h;obtain⟨h2,h3⟩:=aq.1 h;exact⟨pB h1,pB h2,pB h3⟩
theorem ZJ:∀t∈bN,(aF (qQ (jc t) (gR (cP t).1).1) (aF (qQ (jc t) (gR (cP t).1).2.1) (qQ (jc t) (gR (cP t).1).2.2))=true)/\(aF (qQ (jc t) (gR (cP t).2.1).1) (aF (qQ (jc t) (gR (cP t).2.1).2.1) (qQ (jc t) (gR (cP t).2.1).2.2))=true)/\
 (aF (qQ (jc t) (gR (cP t).2.2).1) (aF (qQ (jc t) (gR (cP t).2.2).2.1) (qQ (jc t) (gR (cP t).2.2).2.2))=true):=by decide+kernel
def Rj:List (Cn prog):=[HD,rj,Cn.lift bZ jZ,Cn.lift bZ zG,Cn.lift bZ zF,Cn.lift bZ pE]
def IV3 (v:V3):Prop:=Iy v.1/\Iy v.2.1/\Iy v.2.2
def MoF (t:Tn):Prop:=Iy (fh t)/\Uj (1,0) (fh t,0)/\IV3 (cP t).1/\IV3 (cP t).2.1/\IV3 (cP t).2.2
theorem ajs:∀t∈bN,MoF t:=λt ht=>by
 simp only [bN,List.mem_cons,List.not_mem_nil,or_false]at ht;rcases ht with rfl|rfl|rfl|rfl|rfl|rfl|rfl|rfl|rfl|rfl|rfl|rfl|rfl|rfl|rfl|rfl|rfl|rfl|rfl|rfl|rfl|rfl|rfl|rfl|rfl|rfl|rfl;all_goals exact⟨by constructor<;>decide,λ_=>⟨by unfold SH;decide,by unfold SH;decide,by unfold SH;decide,by unfold SH;decide,⟨by unfold SZ;decide,by unfold SZ;decide,by decide⟩⟩,⟨by constructor<;>decide,by constructor<;>decide,by constructor<;>decide⟩,⟨by constructor<;>decide,by constructor<;>decide,by constructor<;>decide⟩,⟨by constructor<;>decide,by constructor<;>decide,by constructor<;>decide⟩⟩
theorem agL (t:Tn) (ht:t∈bN) (x:sV) (hx:x.OK):PF prog 70 (.cons (plV t x) .nil) (.aS (.cons (kY.v (gh t x)) (.cons ((au .i64).v 0) .nil))):=by
 have hm:=ht;obtain⟨k1,k2,k3⟩:=ZJ t ht;have k1:=KX k1;have k2:=KX k2;have k3:=KX k3;obtain⟨f1,f2,f3,f4,f5⟩:=ajs t ht;have hp:=kY.an (gh t x);simp only [bN,List.mem_cons,List.not_mem_nil,or_false]at ht;rcases ht with rfl|rfl|rfl|rfl|rfl|rfl|rfl|rfl|rfl|rfl|rfl|rfl|rfl|rfl|rfl|rfl|rfl|rfl|rfl|rfl|rfl|rfl|rfl|rfl|rfl|rfl|rfl;all_goals
  refine PF.go af ae Rj (fn:=f70) rfl rfl rfl (hpure:=zV _ _) λB0 hc=>?_;conv=>whnf
  refine cg Rj 0 HD (_,x) ⟨hm,hx⟩ (aE ?_);refine cg Rj 1 rj x hx (aE ?_);refine cg Rj 2 (Cn.lift bZ jZ) (1:Int) (by constructor<;>decide) (aE ?_);refine cg Rj 2 (Cn.lift bZ jZ) _ f1 (aE ?_);refine cg Rj 3 (Cn.lift bZ zG) (_,_) f2 (aE ?_);refine Cw.bH af rfl rfl hc 4 (aE ?_);refine cg Rj 4 (Cn.lift bZ zF) _ f3 (aE ?_);refine cg Rj 5 (Cn.lift bZ pE) (_,_) k1 (aE ?_);refine cg Rj 4 (Cn.lift bZ zF) _ f4 (aE ?_);refine cg Rj 5 (Cn.lift bZ pE) (_,_) k2 (aE ?_);refine cg Rj 4 (Cn.lift bZ zF) _ f5 (aE ?_);refine cg Rj 5 (Cn.lift bZ pE) (_,_) k3 (aE ?_);exact ak.pure (.aS (.cons hp (.cons .int .nil)))
def abD:Cn prog:=
 ⟨70,false,Tn×sV,λy=> .cons (plV y.1 y.2) .nil,λy=> .aS (.cons (kY.v (gh y.1 y.2)) (.cons ((au .i64).v 0) .nil)),λy=>y.1∈bN/\y.2.OK,λa b ha hb h=>by
   obtain⟨⟨w,x,y,z⟩,⟨a1,a2⟩,⟨b1,b2⟩,⟨c1,c2⟩⟩:=a;obtain⟨⟨w',x',y',z'⟩,⟨d1,d2⟩,⟨e1,e2⟩,⟨f1,f2⟩⟩:=b;injection h with h _;injection h with h;injection h with g1 h;injection h with g2 h;injection h with g3 h;injection h with g4 h;injection g1 with _ g1;injection g2 with _ g2;injection g3 with _ g3;injection g4 with _ g4;have hs:=sV.Va ha.2 hb.2 (congrArg AV.agg h);have g1:w=w':=g1;have g2:x=x':=g2;have g3:y=y':=g3;have g4:z=z':=g4;have hs:((a1,a2),(b1,b2),(c1,c2))=((d1,d2),(e1,e2),(f1,f2)):=hs;rw [g1,g2,g3,g4,hs],
  λy=>⟨⟨aB,aB,aB,aB,aV.jm _,aV.jm _,aV.jm _,aB⟩,aB⟩,λy=> .aS (.cons (kY.an _) (.cons .int .nil)),λe=>Bool.noConfusion e,λy h=>agL y.1 h.1 y.2 h.2,aw rfl rfl⟩
end
end
end Go.Sy
