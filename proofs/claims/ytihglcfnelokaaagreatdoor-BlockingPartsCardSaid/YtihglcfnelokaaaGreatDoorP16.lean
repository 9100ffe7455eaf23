/- A piece of the proof, made small by a program of ours. -/
import Derived.Test.YtihglcfnelokaaaGreatDoorP11
import Derived.Test.YtihglcfnelokaaaGreatDoorP13
import Derived.Test.YtihglcfnelokaaaGreatDoorP14
import Derived.Test.YtihglcfnelokaaaGreatDoorP15
set_option linter.all false
set_option maxRecDepth 1000000
set_option maxHeartbeats 0
namespace Go.Sy
noncomputable section
open Go.RowKit Go.Proofs Go.Proofs.Tryz
section
attribute [local instance] bJ
def names:List (List Nat):=[[112,48],[112,49],[112,50],[112,51],[97],[98],[99],[100],[97,103,97,105,110],[99,117,98,101]]
def naT:List (AV×AV):=names.map λs=>(.cons (.str s) .nil,.bool true)
theorem ad4:cP prog uy 110 naT=true:=by decide+kernel
theorem Uv (s:List Nat) (h:s∈names):PF prog 110 (.cons (aR.v s) .nil) (bj.v true):=
 (cm af ae ik (by decide) ad4 (.cons (.str s) .nil,.bool true) (List.mem_map.2 ⟨s,h,rfl⟩)).1
def iZ:Cn prog:= .lE aR bj 110 true (λs=>s∈names) (λ_=>true) fh Uv (au rfl rfl)
end
section
attribute [local irreducible] Cw aj bE PF Sub dW
attribute [local instance] bJ
abbrev Pl:=List (V3×Int)
def oh (l:List V3) (i j k:Nat) (o:Pl):Pl:=
 match (gm l (l.getD i (0,0,0)) (l.getD j (0,0,0)) (l.getD k (0,0,0))).2 with
 |false=>o|true=>(match o.any λp=>bG (gm l (l.getD i (0,0,0)) (l.getD j (0,0,0)) (l.getD k (0,0,0))).1.2 p.2 with
  |true=>o|false=>o++[(gm l (l.getD i (0,0,0)) (l.getD j (0,0,0)) (l.getD k (0,0,0))).1])
def Qq (l:List V3) (i j:Nat):Nat ->Nat ->Pl ->Pl
 |0,_,o=>o|r+1,k,o=>Qq l i j r (k+1) (oh l i j k o)
def Hq (l:List V3) (i:Nat):Nat ->Nat ->Pl ->Pl
 |0,_,o=>o|r+1,j,o=>Hq l i r (j+1) (Qq l i j j 0 o)
def Ff (l:List V3):Nat ->Nat ->Pl ->Pl
 |0,_,o=>o|r+1,i,o=>Ff l r (i+1) (Hq l i i 0 o)
def dq (l:List V3):Pl:=Ff l l.length 0 []
theorem KF (l:List V3) (i j k:Nat) (o:Pl):o.length<=(oh l i j k o).length:=by
 unfold oh;split
 .exact Nat.le_refl _
 .split
  .exact Nat.le_refl _
  .rw [List.length_append];omega
theorem Eu (l:List V3) (i j:Nat):∀(r k:Nat) (o:Pl),o.length<=(Qq l i j r k o).length
 |0,_,_=>Nat.le_refl _|r+1,k,o=>Nat.le_trans (KF l i j k o) (Eu l i j r (k+1) _)
theorem Ev (l:List V3) (i:Nat):∀(r j:Nat) (o:Pl),o.length<=(Hq l i r j o).length
 |0,_,_=>Nat.le_refl _|r+1,j,o=>Nat.le_trans (Eu l i j j 0 o) (Ev l i r (j+1) _)
theorem MZ (l:List V3):∀(r i:Nat) (o:Pl),o.length<=(Ff l r i o).length
 |0,_,_=>Nat.le_refl _|r+1,i,o=>Nat.le_trans (Ev l i i 0 o) (MZ l r (i+1) _)
def Na (ks:List Int):List (AV×AV):=ks.map λk=>(.int .u64 k,.bool true)
theorem kZ (ks:List Int):LU (Na ks):=λx hx=>by
 obtain⟨k,_,rfl⟩:=List.mem_map.1 hx;exact⟨cL.int,cL.bool⟩
theorem KG {k:Int}:∀{ks:List Int} {i:Nat},(ks.any λx=>bG k x)=false ->dW prog 171 (.int .u64 k) (Na ks) i=some none
 |[],i,_=>by unfold dW;rfl
 |x::ks,i,h=>by
  have h1:bG k x=false:=by cases e:bG k x with|false=>rfl|true=>simp [e]at h
  have h2:(ks.any λx=>bG k x)=false:=by cases e:(ks.any λx=>bG k x)with|false=>rfl|true=>simp [e]at h
  have ih:=KG (i:=Nat.succ i) h2;unfold dW at ih ⊢;show(match Ox prog 40 171 (.int .u64 k) (.int .u64 x)with|some true=>_|some false=>_|none=>_)=_;rw [show Ox prog 40 171 (.int .u64 k) (.int .u64 x)=some (bG k x)from rfl,h1];exact ih
theorem Uw {k:Int}:∀{ks:List Int} {i:Nat},(ks.any λx=>bG k x)=true ->∃j,dW prog 171 (.int .u64 k) (Na ks) i=some (some (j,.bool true))
 |[],i,h=>by cases h
 |x::ks,i,h=>by
  cases e:bG k x with
  |true=>
   have hk:qv (.int .u64 x) (.int .u64 k)=true:=by
    show aF (qp .u64 .u64) (bG x k)=true;rw [bw.2 (bw.1 e).symm];rfl
   refine⟨i,?_⟩;unfold dW;show(match Ox prog 40 171 (.int .u64 k) (.int .u64 x)with|some true=>Bool.casesOn (motive:=λ_=>Option (Option (Nat×AV))) (qv (.int .u64 x) (.int .u64 k)) none (some (some (i,.bool true)))|some false=>_|none=>_)=_;rw [show Ox prog 40 171 (.int .u64 k) (.int .u64 x)=some (bG k x)from rfl,e];show Bool.casesOn (motive:=λ_=>Option (Option (Nat×AV))) (qv (.int .u64 x) (.int .u64 k)) none (some (some (i,.bool true)))=_;rw [hk]
  |false=>
   have h2:(ks.any λx=>bG k x)=true:=(by simpa [e]using h);obtain⟨j,hj⟩:=Uw (i:=Nat.succ i) h2;refine⟨j,?_⟩;unfold dW at hj ⊢;show(match Ox prog 40 171 (.int .u64 k) (.int .u64 x)with|some true=>_|some false=>_|none=>_)=_;rw [show Ox prog 40 171 (.int .u64 k) (.int .u64 x)=some (bG k x)from rfl,e];exact hj
theorem Ux {x:OR} {v:AV} {h:Heap} {k:VK} (e:x= .val v h) (hk:k v h):LN x k:=by subst e;exact hk
theorem ad5 {r:Tr AV} {h:Heap} {m k:Operand} {id:Pos} {n:Int} {ks:List Int} (hm:ev m r= .map id) (hk:ev k r= .int .u64 n) (hh:h.t.get id=some (.mp (Na ks))):
  qm (.lookup 388 m k false) prog r h= .val (.bool (ks.any λx=>bG n x)) h:=by
 have key:fW 388 m k false prog r h=some (.bool (ks.any λx=>bG n x)):=by
  unfold fW;rw [hm,hk];show(Bool.casesOn (motive:=λ_=>Option AV) (su prog 40 171 (.int .u64 n)) none (Option.casesOn (motive:=λ_=>Option AV) (vK h (.map id)) none λl=>match dW prog 171 (.int .u64 n) l 0 with|some (some q)=>some (pX false q.2 true)|some none=>(lA prog 4).map λz=>pX false (eY z) false|none=>none))=_;rw [show su prog 40 171 (.int .u64 n)=true from rfl,show vK h (.map id)=some (Na ks) by unfold vK;simp only [hh]];show(match dW prog 171 (.int .u64 n) (Na ks) 0 with|some (some q)=>some (pX false q.2 true)|some none=>(lA prog 4).map λz=>pX false (eY z) false|none=>none)=_;cases e:(ks.any λx=>bG n x)with
  |false=>rw [KG e];rfl|true=>obtain⟨j,hj⟩:=Uw (i:=0) e;rw [hj];rfl
 show Option.casesOn (motive:=λ_=>Heap ->OR) (fW 388 m k false prog r h) (λ_=> .fail) (λv h=> .val v h) h=_;rw [key]
theorem agL {r:Tr AV} {h:Heap} {m k v:Operand} {id:Pos} {n:Int} {ks:List Int} (hm:ev m r= .map id) (hk:ev k r= .int .u64 n) (hv:ev v r= .bool true) (hh:h.t.get id=some (.mp (Na ks))) (hn:(ks.any λx=>bG n x)=false):
  qm (.mapUpdate 388 m k v) prog r h= .val (.aO .nil) ⟨h.t.set (.mp (Na (ks++[n]))) id,h.n⟩:=by
 show fq 388 m k v prog r h=_;unfold fq;rw [hm,hk,hv];show(Bool.casesOn (motive:=λ_=>OR) (su prog 40 171 (.int .u64 n)) .fail (match h.t.get id with|some (.mp l)=>Option.casesOn (motive:=λ_=>OR) (dW prog 171 (.int .u64 n) l 0) .fail λf=> .val (.aO .nil) ⟨h.t.set (.mp (Lo (.int .u64 n,.bool true) l f)) id,h.n⟩|_=> .fail))=_;rw [show su prog 40 171 (.int .u64 n)=true from rfl,hh];show Option.casesOn (motive:=λ_=>OR) (dW prog 171 (.int .u64 n) (Na ks) 0) .fail (λf=> .val (.aO .nil) ⟨h.t.set (.mp (Lo (.int .u64 n,.bool true) (Na ks) f)) id,h.n⟩)=_;rw [KG hn];show OR.val (.aO .nil) ⟨h.t.set (.mp (Na ks++[(.int .u64 n,.bool true)])) id,h.n⟩=_;rw [show Na (ks++[n])=Na ks++[(.int .u64 n,.bool true)]from List.map_append]
def tPl:List (Cn prog):=[Cn.lift bJ JZ]
def hPl (o:Pl):Heap:=⟨bW [(pathOf 64,.mp (Na (o.map (·.2)))),(pathOf 65,.gl (bY.l o) false)],pathOf 66⟩
theorem Uy (l:List V3) (hl:l.length<=4096) (hp:(dq l).length<=1000000):PF prog 210 (.cons (bR.list.v l) .nil) (bY.list.v (dq l)):=by
 refine PF.of_wp (c:=_) af (by decide) (fn:=f210) rfl rfl rfl (.cons (bR.list.ak _) .nil) (call:=aE tPl) (λB0=>ay ae tPl B0) ?_;intro B0;have hc:=ay (P:=prog) ae tPl B0;conv=>whnf
 refine Cw.loop (ι:=Nat×Pl) (λq=>bm [(0,bR.list.v l),(3,.map (pathOf 64)),(4,.gs (pathOf 65) q.2.length 4),(12,.int .i64 (l.length:Int)),(13,.int .i64 (q.1:Int))]) (λ_=>[]) (λq=>hPl q.2)
  (λq=>q.1<=l.length/\Ff l (l.length - q.1) q.1 q.2=dq l) (λq=>l.length - q.1) ?_ (0,[]) ⟨Nat.zero_le _,rfl⟩ ?_
 .intro q hq;obtain⟨i,o⟩:=q;obtain⟨g1,g2⟩:=hq;have g1:i<=l.length:=g1;have g2:Ff l (l.length - i) i o=dq l:=g2;refine aD af rfl rfl hc _ (aB ?_);refine an (λh1=>?_) (λh1=>?_)
  .have hi:i<l.length:=Int.ofNat_lt.1 (aQ.1 h1);have bM:ah .i64 (Int.add (i:Int) 1)=((i+1:Nat):Int):=by
    show ah .i64 ((i:Int)+1)=_;rw [az (by omega) (by omega)];omega
   rw [show l.length - i=(l.length - (i+1))+1 by omega]at g2;have g2:Ff l (l.length - (i+1)) (i+1) (Hq l i i 0 o)=dq l:=g2;conv=>whnf
   refine Cw.loop (ι:=Nat×Pl) (λq=>bm [(0,bR.list.v l),(3,.map (pathOf 64)),(4,.gs (pathOf 65) q.2.length 4),(5,.int .i64 (i:Int)),(12,.int .i64 (l.length:Int)),(13,.int .i64 (i:Int)),(16,.int .i64 (i:Int)),(17,.int .i64 (q.1:Int))]) (λ_=>[]) (λq=>hPl q.2)
    (λq=>q.1<=i/\Ff l (l.length - (i+1)) (i+1) (Hq l i (i - q.1) q.1 q.2)=dq l) (λq=>i - q.1) ?_ (0,o) ⟨Nat.zero_le _,g2⟩ ?_
   .intro q hq;obtain⟨j,p⟩:=q;obtain⟨k1,k2⟩:=hq;have k1:j<=i:=k1;have k2:Ff l (l.length - (i+1)) (i+1) (Hq l i (i - j) j p)=dq l:=k2;refine aD af rfl rfl hc _ (aB ?_);refine an (λh2=>?_) (λh2=>?_)
    .have hj:j<i:=Int.ofNat_lt.1 (aQ.1 h2);have ad6:ah .i64 (Int.add (j:Int) 1)=((j+1:Nat):Int):=by
      show ah .i64 ((j:Int)+1)=_;rw [az (by omega) (by omega)];omega
     rw [show i - j=(i - (j+1))+1 by omega]at k2;have k2:Ff l (l.length - (i+1)) (i+1) (Hq l i (i - (j+1)) (j+1) (Qq l i j j 0 p))=dq l:=k2;conv=>whnf
     refine Cw.loop (ι:=Nat×Pl) (λq=>bm [(0,bR.list.v l),(3,.map (pathOf 64)),(4,.gs (pathOf 65) q.2.length 4),(5,.int .i64 (i:Int)),(6,.int .i64 (j:Int)),(12,.int .i64 (l.length:Int)),(13,.int .i64 (i:Int)),(16,.int .i64 (i:Int)),(17,.int .i64 (j:Int)),(20,.int .i64 (j:Int)),(21,.int .i64 (q.1:Int))]) (λ_=>[]) (λq=>hPl q.2)
      (λq=>q.1<=j/\Ff l (l.length - (i+1)) (i+1) (Hq l i (i - (j+1)) (j+1) (Qq l i j (j - q.1) q.1 q.2))=dq l) (λq=>j - q.1) ?_ (0,p) ⟨Nat.zero_le _,k2⟩ ?_
     .intro q hq;obtain⟨k,u⟩:=q;obtain⟨m1,m2⟩:=hq;have m1:k<=j:=m1;have m2:Ff l (l.length - (i+1)) (i+1) (Hq l i (i - (j+1)) (j+1) (Qq l i j (j - k) k u))=dq l:=m2;refine aD af rfl rfl hc _ (aB ?_);refine an (λh3=>?_) (λh3=>?_)
      .have hk:k<j:=Int.ofNat_lt.1 (aQ.1 h3);have KH:ah .i64 (Int.add (k:Int) 1)=((k+1:Nat):Int):=by
        show ah .i64 ((k:Int)+1)=_;rw [az (by omega) (by omega)];omega
       rw [show j - k=(j - (k+1))+1 by omega]at m2;have m2:Ff l (l.length - (i+1)) (i+1) (Hq l i (i - (j+1)) (j+1) (Qq l i j (j - (k+1)) (k+1) (oh l i j k u)))=dq l:=m2;conv=>whnf
       refine ct (l:=tPl) (by decide) 0 (c:=Cn.lift bJ JZ) rfl (l,i,j,k) ⟨by show l.length<=4294967296;omega,by show i<l.length;omega,by show j<l.length;omega,by show k<l.length;omega⟩ (hk:=?_);unfold oh at m2;conv=>whnf
       refine an (λh4=>?_) (λh4=>?_)
       .have h4:(gm l (l.getD i (0,0,0)) (l.getD j (0,0,0)) (l.getD k (0,0,0))).2=true:=h4;rw [h4]at m2;refine sZ ?_;refine Ux (ad5 (id:=pathOf 64) (n:=(gm l (l.getD i (0,0,0)) (l.getD j (0,0,0)) (l.getD k (0,0,0))).1.2) (ks:=u.map (·.2)) rfl rfl rfl) (sZ ?_);have Xx:(u.any λp=>bG (gm l (l.getD i (0,0,0)) (l.getD j (0,0,0)) (l.getD k (0,0,0))).1.2 p.2)=(u.map (·.2)).any λx=>bG (gm l (l.getD i (0,0,0)) (l.getD j (0,0,0)) (l.getD k (0,0,0))).1.2 x:=(by rw [List.any_map];rfl);refine an (λh5=>?_) (λh5=>?_)
        .have h5:((u.map (·.2)).any λx=>bG (gm l (l.getD i (0,0,0)) (l.getD j (0,0,0)) (l.getD k (0,0,0))).1.2 x)=false:=kS.1 h5;rw [Xx,h5]at m2;refine sZ ?_;refine Ux (agL (id:=pathOf 64) (n:=(gm l (l.getD i (0,0,0)) (l.getD j (0,0,0)) (l.getD k (0,0,0))).1.2) (ks:=u.map (·.2)) rfl rfl rfl rfl h5) (sZ ?_);refine⟨_,rfl,aB ?_⟩;refine⟨⟨?_,rfl,(bY.ep u).symm⟩,?_⟩
         .have hu:u.length<=1000000:=by
           have:=Nat.le_trans (Nat.le_trans (Nat.le_trans (Nat.le_trans (by rw [List.length_append];omega) (Eu l i j (j - (k+1)) (k+1) (u++[(gm l (l.getD i (0,0,0)) (l.getD j (0,0,0)) (l.getD k (0,0,0))).1]))) (Ev l i (i - (j+1)) (j+1) _)) (MZ l (l.length - (i+1)) (i+1) _)) (Nat.le_of_eq (congrArg List.length m2)) (n:=u.length);omega
          show(u.length+1)*(32+1)<=1099511627776;omega
         refine sZ ?_;refine⟨(k+1,u++[(gm l (l.getD i (0,0,0)) (l.getD j (0,0,0)) (l.getD k (0,0,0))).1]),⟨hk,m2⟩,by show j - (k+1)<j - k;omega,?_⟩;refine Sub.of [(pathOf 64,some (pathOf 64)),(pathOf 65,some (pathOf 68))] [] rfl rfl rfl ?_ ?_
         .repeat' first|exact aA|exact rfl|refine And.intro ?_ ?_
          all_goals first|exact KH|(rw [List.length_append];exact rfl)|(simp;done)
         .repeat' first|exact aA|exact rfl|refine And.intro ?_ ?_
          all_goals first|exact bY.bh _|exact kZ _|exact bY.oH u [(gm l (l.getD i (0,0,0)) (l.getD j (0,0,0)) (l.getD k (0,0,0))).1]|(rw [List.map_append];exact rfl)
        .have h5:((u.map (·.2)).any λx=>bG (gm l (l.getD i (0,0,0)) (l.getD j (0,0,0)) (l.getD k (0,0,0))).1.2 x)=true:=rY.1 h5;rw [Xx,h5]at m2;refine sZ ?_;refine⟨(k+1,u),⟨hk,m2⟩,by show j - (k+1)<j - k;omega,?_⟩;refine Sub.of (fI [64,65]) [] rfl rfl rfl ?_ ?_
         .repeat' first|exact aA|exact rfl|refine And.intro ?_ ?_
          all_goals first|exact KH|(rw [List.length_append];exact rfl)|(simp;done)
         .repeat' first|exact aA|exact rfl|refine And.intro ?_ ?_
          all_goals first|exact bY.bh _|exact kZ _|exact bY.oH u [(gm l (l.getD i (0,0,0)) (l.getD j (0,0,0)) (l.getD k (0,0,0))).1]|(rw [List.map_append];exact rfl)
       .have h4:(gm l (l.getD i (0,0,0)) (l.getD j (0,0,0)) (l.getD k (0,0,0))).2=false:=h4;rw [h4]at m2;refine sZ ?_;refine⟨(k+1,u),⟨hk,m2⟩,by show j - (k+1)<j - k;omega,?_⟩;refine Sub.of (fI [64,65]) [] rfl rfl rfl ?_ ?_
        .repeat' first|exact aA|exact rfl|refine And.intro ?_ ?_
         all_goals exact KH
        .repeat' first|exact aA|exact rfl|refine And.intro ?_ ?_
         all_goals first|exact bY.bh _|exact kZ _
      .have hk:k=j:=(by have:=bf.1 h3;have this:((j:Nat):Int)<=(k:Int):=this;omega);rw [hk,Nat.sub_self]at m2;have m2:Ff l (l.length - (i+1)) (i+1) (Hq l i (i - (j+1)) (j+1) u)=dq l:=m2;conv=>whnf
       refine⟨(j+1,u),⟨hj,m2⟩,by show i - (j+1)<i - j;omega,?_⟩;refine Sub.of (fI [64,65]) [] rfl rfl rfl ?_ ?_
       .repeat' first|exact aA|exact rfl|refine And.intro ?_ ?_
        all_goals exact ad6
       .repeat' first|exact aA|exact rfl|refine And.intro ?_ ?_
        all_goals first|exact bY.bh _|exact kZ _
     .refine Sub.of (fI [64,65]) [] rfl rfl rfl ?_ ?_
      .exact pc
      .repeat' first|exact aA|exact rfl|refine And.intro ?_ ?_
       all_goals first|exact bY.bh _|exact kZ _
    .have hj:j=i:=(by have:=bf.1 h2;have this:((i:Nat):Int)<=(j:Int):=this;omega);rw [hj,Nat.sub_self]at k2;have k2:Ff l (l.length - (i+1)) (i+1) p=dq l:=k2;conv=>whnf
     refine⟨(i+1,p),⟨hi,k2⟩,by show l.length - (i+1)<l.length - i;omega,?_⟩;refine Sub.of (fI [64,65]) [] rfl rfl rfl ?_ ?_
     .repeat' first|exact aA|exact rfl|refine And.intro ?_ ?_
      all_goals exact bM
     .repeat' first|exact aA|exact rfl|refine And.intro ?_ ?_
      all_goals first|exact bY.bh _|exact kZ _
   .refine Sub.of (fI [64,65]) [] rfl rfl rfl ?_ ?_
    .exact pc
    .repeat' first|exact aA|exact rfl|refine And.intro ?_ ?_
     all_goals first|exact bY.bh _|exact kZ _
  .have hi:i=l.length:=(by have:=bf.1 h1;have this:((l.length:Nat):Int)<=(i:Int):=this;omega);rw [hi,Nat.sub_self]at g2;have g2:o=dq l:=g2;conv=>whnf
   exact bY.gk rfl g2 (by rw [<-g2])
 .refine Sub.of [(pathOf 64,some (pathOf 64)),(pathOf 65,none)] [] rfl rfl rfl ?_ ?_
  .exact pc
  .repeat' first|exact aA|exact rfl|refine And.intro ?_ ?_
   all_goals exact kZ _
def Hr:Cn prog:= .lE bR.list bY.list 210 false (λl=>l.length<=4096/\(dq l).length<=1000000) dq (λe=>by cases e) (λl h=>Uy l h.1 h.2) (au rfl rfl)
end
section
attribute [local irreducible] Cw aj bE PF Sub
attribute [local instance] fe
def qk (a b:Int):Int:=match dj a b with|true=> -1|false=>(match dj b a with|true=>1|false=>0)
theorem agM (x:Int):dA 247 (.cons ((aq .i64).v x) .nil) (bj.v false):=by
 refine PF.of_wp (c:=_) af (by decide) (fn:=f247) rfl rfl rfl (.cons .int .nil) (call:=aE []) (λB0=>ay ae [] B0) ?_;intro B0;conv=>whnf
 exact aj.same (congrArg AV.bool (by rw [fX];simp [aU])) cL.bool
def Uz:Cn prog:= .lE (aq .i64) bj 247 true (λ_=>True) (λ_=>false) fh (λx _=>agM x) (au rfl rfl)
def Zk:List (Cn prog):=[Uz]
theorem agN (x y:Int):dA 198 (.cons ((aq .i64).v x) (.cons ((aq .i64).v y) .nil)) ((aq .i64).v (qk x y)):=by
 refine PF.of_wp (c:=_) af (by decide) (fn:=f198) rfl rfl rfl (.cons .int (.cons .int .nil)) (call:=aE Zk) (λB0=>ay ae Zk B0) ?_;intro B0;conv=>whnf
 refine ct (l:=Zk) (by decide) 0 (c:=Uz) rfl x trivial (hk:=?_);conv=>whnf
 refine ct (l:=Zk) (by decide) 0 (c:=Uz) rfl y trivial (hk:=?_);conv=>whnf
 unfold qk;refine an (λh=>?_) (λh=>?_)
 .conv=>whnf
  rw [h];exact aj.same rfl cL.int
 .conv=>whnf
  refine an (λh1=>?_) (λh1=>?_)
  .conv=>whnf
   rw [h,h1];exact aj.same rfl cL.int
  .conv=>whnf
   rw [h,h1];exact aj.same rfl cL.int
def abv:Cn prog:= .kz (aq .i64) (aq .i64) (aq .i64) 198 true (λ_ _=>True) qk (cM _) (λx y _=>agN x y) (au rfl rfl)
def ui:List Int ->List Int ->Int
 |[],[]=>0|[],_::_=> -1|_::_,[]=>1|x::s,y::t=>match bG (qk x y) 0 with|true=>ui s t|false=>qk x y
def Nb:List (Cn prog):=[abv]
theorem ad7 (a b:List Int) (ha:a.length<=4294967296) (hb:b.length<=4294967296):dA 214 (.cons ((aq .i64).list.v a) (.cons ((aq .i64).list.v b) .nil)) ((aq .i64).v (ui a b)):=by
 refine PF.of_wp (c:=_) af (by decide) (fn:=f214) rfl rfl rfl (.cons ((aq .i64).list.ak _) (.cons ((aq .i64).list.ak _) .nil)) (call:=aE Nb) (λB0=>ay ae Nb B0) ?_;intro B0;have hc:=ay (P:=prog) ae Nb B0;conv=>whnf
 refine Cw.loop (ι:=Nat) (λq=>bm [(0,(aq .i64).list.v a),(1,(aq .i64).list.v b),(9,(aq .i64).list.v a),(10,.int .i64 (a.length:Int)),(11,.int .i64 (q:Int))]) (λ_=>[]) (λq=>⟨bW [],pathOf 64⟩)
  (λq=>q<=a.length/\q<=b.length/\ui (a.drop q) (b.drop q)=ui a b) (λq=>a.length - q) ?_ 0 ⟨Nat.zero_le _,Nat.zero_le _,rfl⟩ ?_
 .intro q hq;obtain⟨g1,g2,g3⟩:=hq;refine aD af rfl rfl hc _ (aB ?_);refine an (λh1=>?_) (λh1=>?_)
  .have hq:q<a.length:=Int.ofNat_lt.1 (aQ.1 h1);have bM:ah .i64 (Int.add (q:Int) 1)=((q+1:Nat):Int):=by
    show ah .i64 ((q:Int)+1)=_;rw [az (by omega) (by omega)];omega
   rw [List.drop_eq_getElem_cons hq]at g3;conv=>whnf
   refine aG.go q rfl hq (aB ?_);refine⟨_,(aq .i64).rd rfl hq,aB ?_⟩;refine an (λh2=>?_) (λh2=>?_)
   .have h2:gg ((b.length:Nat):Int) ((q:Nat):Int)=true:=h2;have hle:b.length<=q:=Int.ofNat_le.1 (cA.1 h2);rw [List.drop_of_length_le hle]at g3;rw [<-g3];conv=>whnf
    exact aj.same rfl cL.int
   .have h2:gg ((b.length:Nat):Int) ((q:Nat):Int)=false:=h2;have cJ:q<b.length:=Int.ofNat_lt.1 (jk.1 h2);rw [List.drop_eq_getElem_cons cJ]at g3;have g3:(match bG (qk a[q] b[q]) 0 with|true=>ui (a.drop (q+1)) (b.drop (q+1))|false=>qk a[q] b[q])=ui a b:=g3;conv=>whnf
    refine aG.go q rfl cJ (aB ?_);refine⟨_,(aq .i64).rd rfl cJ,aB ?_⟩;refine ct (l:=Nb) (by decide) 0 (c:=abv) rfl (a[q],b[q]) trivial (hk:=?_);refine sZ ?_;refine an (λh3=>?_) (λh3=>?_)
    .have h3:bG (qk a[q] b[q]) 0=false:=kS.1 h3;rw [h3]at g3;rw [<-g3];conv=>whnf
     exact aj.same rfl cL.int
    .have h3:bG (qk a[q] b[q]) 0=true:=rY.1 h3;rw [h3]at g3;conv=>whnf
     refine⟨q+1,⟨hq,cJ,g3⟩,by omega,?_⟩;refine Sub.of [] [] rfl rfl rfl ?_ ?_
     .repeat' first|exact aA|exact rfl|refine And.intro ?_ ?_
      all_goals exact bM
     .exact aA
  .have hq:q=a.length:=(by have:=bf.1 h1;have this:((a.length:Nat):Int)<=(q:Int):=this;omega);rw [hq,List.drop_length]at g3;conv=>whnf
   refine an (λh2=>?_) (λh2=>?_)
   .have h2:dj ((a.length:Nat):Int) ((b.length:Nat):Int)=true:=h2;have cJ:a.length<b.length:=Int.ofNat_lt.1 (aQ.1 h2);rw [List.drop_eq_getElem_cons cJ]at g3;rw [<-g3];conv=>whnf
    exact aj.same rfl cL.int
   .have h2:dj ((a.length:Nat):Int) ((b.length:Nat):Int)=false:=h2;have hle:b.length<=a.length:=Int.ofNat_le.1 (bf.1 h2);rw [List.drop_of_length_le hle]at g3;rw [<-g3];conv=>whnf
    exact aj.same rfl cL.int
 .refine Sub.of [] [] rfl rfl rfl ?_ ?_
  .exact pc
  .exact aA
def Ew:Cn prog:= .kz (aq .i64).list (aq .i64).list (aq .i64) 214 true (λa b=>a.length<=4294967296/\b.length<=4294967296) ui (cM _) (λa b h=>ad7 a b h.1 h.2) (au rfl rfl)
abbrev Fc:=(V3×Int)×List Int
def sj:bX Fc:=bY.pair (aq .i64).list
def KI (a b:Fc):Int:=ui a.2 b.2
def UA:List (Cn prog):=[Ew]
theorem ad8 (a b:Fc) (ha:a.2.length<=4294967296) (hb:b.2.length<=4294967296):dA 213 (.cons (sj.v a) (.cons (sj.v b) .nil)) ((aq .i64).v (KI a b)):=by
 obtain⟨⟨⟨a0,a1,a2⟩,a3⟩,a4⟩:=a;obtain⟨⟨⟨b0,b1,b2⟩,b3⟩,b4⟩:=b;refine PF.of_wp (c:=_) af (by decide) (fn:=f213) rfl rfl rfl (.cons (sj.ak _) (.cons (sj.ak _) .nil)) (call:=aE UA) (λB0=>ay ae UA B0) ?_;intro B0;conv=>whnf
 refine ct (l:=UA) (by decide) 0 (c:=Ew) rfl (a4,b4) ⟨ha,hb⟩ (hk:=?_);refine sZ ?_;exact aj.same rfl cL.int
def ad9:Cn prog:= .kz sj sj (aq .i64) 213 true (λa b=>a.2.length<=4294967296/\b.2.length<=4294967296) KI (cM _) (λa b h=>ad8 a b h.1 h.2) (au rfl rfl)
end
section
attribute [local irreducible] Cw aj bE PF Sub
abbrev tbF:aY:=qi bJ 1
attribute [local instance] tbF
def gF (xs:List Fc) (i:Nat):Fc:=xs.getD i (((0,0,0),0),[])
def swF (xs:List Fc) (j:Nat):List Fc:=(xs.set (j+1) (gF xs j)).set j (gF xs (j+1))
def jm:Nat ->List Fc ->List Fc
 |0,xs=>xs|j+1,xs=>match dj (KI (gF xs (j+1)) (gF xs j)) 0 with
  |true=>jm j (swF xs j)|false=>xs
def uj:Nat ->Nat ->List Fc ->List Fc
 |0,_,xs=>xs|f+1,i,xs=>uj f (i+1) (jm i xs)
def cF (xs:List Fc):List Fc:=uj (xs.length - 1) 1 xs
def QR (xs:List Fc):Prop:=∀x∈xs,x.2.length<=4294967296
theorem Zl {xs:List Fc} (h:QR xs) {i:Nat} {x:Fc} (hx:x∈xs):QR (xs.set i x):=λy hy=>by
 rcases List.mem_or_eq_of_mem_set hy with e|e
 .exact h y e
 .exact e ▸ h x hx
theorem Zm (xs:List Fc) (j:Nat):(swF xs j).length=xs.length:=by simp [swF]
theorem zY:∀(j:Nat) (xs:List Fc),(jm j xs).length=xs.length
 |0,xs=>rfl|j+1,xs=>by
  unfold jm;split
  .rw [zY j,Zm]
  .rfl
theorem zZ:∀(f i:Nat) (xs:List Fc),(uj f i xs).length=xs.length
 |0,_,xs=>rfl|f+1,i,xs=>(zZ f (i+1) (jm i xs)).trans (zY i xs)
theorem KJ (xs:List Fc):(cF xs).length=xs.length:=zZ _ _ _
def Nc:Cn prog:=Cn.lift tbF ad9
def Cp:List (Cn prog):=[Nc]
def Zn (xs:List Fc):List (Pos×AO):=[(pathOf 64,.gl (sj.l xs) false)]
def sA (xs:List Fc):Heap:=⟨bW (Zn xs),pathOf 65⟩
def KK (xs:List Fc):AV:= .cons (.gs (pathOf 64) xs.length 5) (.cons (.int .i64 0) (.cons (.int .i64 (xs.length:Int)) (.cons (.func (.func 213) .nil .nil) .nil)))
def InW [aY] (f:FuncId) (fn:Func) (l v:AV) (h0:Heap) (H:List (Pos×AO)) (N:Pos) (B0:Nat) (call:dY ->AV ->Heap ->CR):Prop:=
 Cw prog B0 ⟨prog,f,fn.ntmps,none,call,0⟩ (oJ fn) (fnR fn l) [] h0 (QK (fa prog fn v H N) (fa prog fn v H N) (λ_ _ _ _=>False))
theorem UB (xs:List Fc) (hn:xs.length<=4096) (fY:QR xs) {B0:Nat}:InW 303 f303 (KK xs) (.aO .nil) (sA xs) (Zn (cF xs)) (pathOf 65) B0 (aE Cp):=by
 refine aD af rfl rfl (ay ae Cp B0) _ (aB ?_);refine Cw.loop (ι:=List Fc×Nat) (λq=>bm [(0,.gs (pathOf 64) xs.length 5),(1,.int .i64 0),(2,.int .i64 (xs.length:Int)),(3,.func (.func 213) .nil .nil),(8,.int .i64 (q.2:Int))]) (λ_=>[]) (λq=>⟨bW [(pathOf 64,.gl (sj.l q.1) false)],pathOf 65⟩)
  (λq=>q.1.length=xs.length/\1<=q.2/\q.2<=xs.length+1/\uj (xs.length - q.2) q.2 q.1=cF xs/\QR q.1) (λq=>xs.length+1 - q.2) ?_ (xs,1) ⟨rfl,Nat.le_refl _,by omega,rfl,fY⟩ ?_
 .intro q hq;obtain⟨ys,i⟩:=q;obtain⟨h1,h2,h3,h4,h9⟩:=hq;refine aD af rfl rfl (ay ae Cp B0) _ (aB ?_);refine an (λh5=>?_) (λh5=>?_)
  .have h5:i<xs.length:=Int.ofNat_lt.1 (aQ.1 h5);have bM:ah .i64 (Int.add (i:Int) 1)=((i+1:Nat):Int):=by
    show ah .i64 ((i:Int)+1)=_;rw [az (by omega) (by omega)];omega
   have agO:∀zs:List Fc,jm i ys=zs ->uj (xs.length - (i+1)) (i+1) zs=cF xs:=λzs hz=>by
    have h4:uj (xs.length - i) i ys=cF xs:=h4;rw [show xs.length - i=(xs.length - (i+1))+1 by omega]at h4;rw [<-hz];exact h4
   have h1:ys.length=xs.length:=h1;have h2:1<=i:=h2;conv=>whnf
   refine Cw.loop (ι:=List Fc×Nat) (λq=>bm [(0,.gs (pathOf 64) xs.length 5),(1,.int .i64 0),(2,.int .i64 (xs.length:Int)),(3,.func (.func 213) .nil .nil),(8,.int .i64 (i:Int)),(9,.int .i64 (q.2:Int))]) (λ_=>[]) (λq=>⟨bW [(pathOf 64,.gl (sj.l q.1) false)],pathOf 65⟩)
    (λq=>q.1.length=xs.length/\q.2<=i/\jm q.2 q.1=jm i ys/\QR q.1) (λq=>q.2) ?_ (ys,i) ⟨h1,Nat.le_refl _,rfl,h9⟩ ?_
   .intro q hq;obtain⟨zs,j⟩:=q;obtain⟨g1,g2,g3,g9⟩:=hq;have g9:QR zs:=g9;have g1:zs.length=xs.length:=g1;have g2:j<=i:=g2;have g3:jm j zs=jm i ys:=g3;have gz:∀k (hk:k<zs.length),gF zs k=zs[k]:=λk hk=>by
     unfold gF;rw [List.getD_eq_getElem?_getD,List.getElem?_eq_getElem hk];rfl
    cases j with
    |zero=>
     refine aD af rfl rfl (ay ae Cp B0) _ (aB ?_);refine⟨(zs,i+1),⟨g1,Nat.le_add_left _ _,by show i+1<=_;omega,agO zs g3.symm,g9⟩,by show xs.length+1 - (i+1)<xs.length+1 - i;omega,?_⟩;refine Sub.of (fI [64]) [] rfl rfl rfl ?_ ?_
     .repeat' first|exact aA|exact rfl|refine And.intro ?_ ?_
      all_goals first|exact bM|exact sj.bh _
     .repeat' first|exact aA|exact rfl|refine And.intro ?_ ?_
      all_goals first|exact bM|exact sj.bh _
    |succ j=>
     have DH:ah .i64 (Int.sub ((j+1:Nat):Int) 1)=(j:Int):=by
      show ah .i64 (((j+1:Nat):Int) - 1)=_;rw [az (by omega) (by omega)];omega
     refine aD af rfl rfl (ay ae Cp B0) _ (aB ?_);refine aG.go (j+1) rfl (by omega) (aB ?_);refine⟨_,sj.rd rfl (i:=j+1) (by omega),aB ?_⟩;refine aG.go j DH (by omega) (aB ?_);refine⟨_,sj.rd rfl (i:=j) (by omega),aB ?_⟩;refine ct (l:=Cp) (by decide) 0 (c:=Nc) rfl (zs[j+1],zs[j]) ⟨g9 _ (List.getElem_mem _),g9 _ (List.getElem_mem _)⟩ (hk:=?_);conv=>whnf
     refine an (λh7=>?_) (λh7=>?_)
     .have h7:dj (KI zs[j+1] zs[j]) 0=true:=h7;conv=>whnf
      refine aG.go j DH (by omega) (aB ?_);refine⟨_,sj.rd rfl (i:=j) (by omega),aB ?_⟩;refine aG.go (j+1) rfl (by omega) (aB ?_);refine⟨_,sj.rd rfl (i:=j+1) (by omega),aB ?_⟩;refine aG.go (j+1) rfl (by omega) (aB ?_);refine sj.st (xs:=zs) (i:=j+1) zs[j] (by omega) (aB ?_);refine aG.go j DH (by omega) (aB ?_);refine sj.st (xs:=zs.set (j+1) zs[j]) (i:=j) zs[j+1] (by rw [List.length_set];omega) (aB ?_);have hz:jm (j+1) zs=jm j ((zs.set (j+1) zs[j]).set j zs[j+1]):=by
       show(match dj (KI (gF zs (j+1)) (gF zs j)) 0 with|true=>jm j (swF zs j)|false=>zs)=_;unfold swF;rw [gz (j+1) (by omega),gz j (by omega),h7]
      refine⟨((zs.set (j+1) zs[j]).set j zs[j+1],j),⟨by show List.length _=_;rw [List.length_set,List.length_set];exact g1,by show j<=i;omega,hz.symm.trans g3,λy hy=>by
       rcases List.mem_or_eq_of_mem_set hy with e|e
       .exact Zl g9 (List.getElem_mem _) y e
       .exact e ▸ g9 _ (List.getElem_mem _)⟩,Nat.lt_succ_self _,?_⟩
      refine Sub.of (fI [64]) [] rfl rfl rfl ?_ ?_
      .repeat' first|exact aA|exact rfl|refine And.intro ?_ ?_
       all_goals first|exact DH|exact sj.bh _
      .repeat' first|exact aA|exact rfl|refine And.intro ?_ ?_
       all_goals first|exact DH|exact sj.bh _
     .have h7:dj (KI zs[j+1] zs[j]) 0=false:=h7;have hz:jm (j+1) zs=zs:=by
       show(match dj (KI (gF zs (j+1)) (gF zs j)) 0 with|true=>jm j (swF zs j)|false=>zs)=zs;rw [gz (j+1) (by omega),gz j (by omega),h7]
      conv=>whnf
      refine⟨(zs,i+1),⟨g1,Nat.le_add_left _ _,by show i+1<=_;omega,agO zs (g3.symm.trans hz),g9⟩,by show xs.length+1 - (i+1)<xs.length+1 - i;omega,?_⟩;refine Sub.of (fI [64]) [] rfl rfl rfl ?_ ?_
      .repeat' first|exact aA|exact rfl|refine And.intro ?_ ?_
       all_goals first|exact bM|exact sj.bh _
      .repeat' first|exact aA|exact rfl|refine And.intro ?_ ?_
       all_goals first|exact bM|exact sj.bh _
   .refine Sub.of (fI [64]) [] rfl rfl rfl ?_ ?_
    .repeat' first|exact aA|exact rfl|refine And.intro ?_ ?_
     all_goals first|exact bM|exact sj.bh _
    .repeat' first|exact aA|exact rfl|refine And.intro ?_ ?_
     all_goals first|exact bM|exact sj.bh _
  .have h5:¬i<xs.length:=λh=>by rw [show dj ((ys,i).2:Int) (xs.length:Int)=true from aQ.2 (Int.ofNat_lt.2 h)]at h5;cases h5
   have h4:uj (xs.length - i) i ys=cF xs:=h4;rw [show xs.length - i=0 by omega]at h4;conv=>whnf
   refine⟨rfl,rfl,?_,aA⟩;rw [<-h4];rfl
 .refine Sub.of (fI [64]) [] rfl rfl rfl ?_ ?_
  .exact pc
  .repeat' first|exact aA|exact rfl|refine And.intro ?_ ?_
   all_goals exact sj.bh _
theorem aea {T:aY} (hT:T=bJ\/T=tbF) (xs:List Fc) (hn:xs.length<=4096) (fY:QR xs) {B0:Nat} {call:dY ->AV ->Heap ->CR} (bl:@aW T prog B0 call):
  @aW T prog B0 (jL 303 (KK xs) (sA xs) (.aO .nil) (sA (cF xs)) call):=by
 rcases hT with rfl|rfl
 .exact jM ae 1 bl (fn:=f303) rfl rfl rfl rfl (Nat.le_refl _) (UB xs hn fY)
 .exact jM ae 1 bl (fn:=f303) rfl rfl rfl rfl (Nat.le_refl _) (UB xs hn fY)
end
section
attribute [local irreducible] Cw aj bE PF Sub
section
attribute [local instance] fe
def rC (n:Nat):AV:= .cons (.int .u64 (n:Int)) .nil
def xI:List (AV×AV):=[(rC 0,.int .i64 0),(rC 1,.int .i64 1),(rC 2,.int .i64 2),(rC 3,.int .i64 2),(rC 4,.int .i64 3),(rC 5,.int .i64 3),(rC 6,.int .i64 3),(rC 7,.int .i64 3),(rC 8,.int .i64 4),(rC 9,.int .i64 4),(rC 10,.int .i64 4)]
theorem aeb:cP prog (λ_ _ _=>none) 200 xI=true:=by decide+kernel
theorem aec (B0:Nat):xB prog B0 (λ_ _ _=>none):=λt xs h v h' e=>by cases e
def Zo (n:Int):Int:=if n=0 then 0 else if n=1 then 1 else if n<=3 then 2 else if n<=7 then 3 else 4
theorem agP (n:Int) (h:0<=n/\n<=10):dA 200 (.cons ((aq .u64).v n) .nil) ((aq .i64).v (Zo n)):=by
 have key:=cm af ae aec (by decide) aeb;have hn:n=0\/n=1\/n=2\/n=3\/n=4\/n=5\/n=6\/n=7\/n=8\/n=9\/n=10:=by omega
 rcases hn with rfl|rfl|rfl|rfl|rfl|rfl|rfl|rfl|rfl|rfl|rfl
 .exact(key xI[0] (List.getElem_mem (by decide))).1
 .exact(key xI[1] (List.getElem_mem (by decide))).1
 .exact(key xI[2] (List.getElem_mem (by decide))).1
 .exact(key xI[3] (List.getElem_mem (by decide))).1
 .exact(key xI[4] (List.getElem_mem (by decide))).1
 .exact(key xI[5] (List.getElem_mem (by decide))).1
 .exact(key xI[6] (List.getElem_mem (by decide))).1
 .exact(key xI[7] (List.getElem_mem (by decide))).1
 .exact(key xI[8] (List.getElem_mem (by decide))).1
 .exact(key xI[9] (List.getElem_mem (by decide))).1
 .exact(key xI[10] (List.getElem_mem (by decide))).1
def abw:Cn prog:= .lE (aq .u64) (aq .i64) 200 true (λn=>0<=n/\n<=10) Zo (cM _) (λn h=>agP n h) (au rfl rfl)
end
attribute [local instance] tbF
def Ex (xs:List Fc):AV:= .cons (.gs (pathOf 64) xs.length 5) (.cons (.int .i64 0) (.cons (.int .i64 (xs.length:Int)) (.cons (.int .i64 (Zo (xs.length:Int))) (.cons (.func (.func 213) .nil .nil) .nil))))
theorem UC (xs:List Fc) (hn:xs.length<=10) (fY:QR xs) {B0:Nat}:InW 268 f268 (Ex xs) (.aO .nil) (sA xs) (Zn (cF xs)) (pathOf 65) B0 (jL 303 (KK xs) (sA xs) (.aO .nil) (sA (cF xs)) (aE (P:=prog) [])):=by
 have hc:=aea (.inr rfl) xs (by omega) fY (ay (P:=prog) ae [] B0);refine aD af rfl rfl hc _ (aB ?_);refine Cw.bL af rfl rfl hc 1 (aB ?_);refine an (λh=>?_) (λh=>?_)
 .conv=>whnf
  refine pG (hk:=?_);conv=>whnf
  exact⟨rfl,rfl,rfl,aA⟩
 .exfalso;have h:=aQ.1 (show dj 12 (ah .i64 (Int.sub (xs.length:Int) 0))=true by
   cases e:dj 12 (ah .i64 (Int.sub (xs.length:Int) 0))with
   |true=>rfl|false=>
    have h:gg (ah .i64 (Int.sub (xs.length:Int) 0)) 12=false:=h;unfold gg at h;rw [e]at h;cases h)
  rw [show Int.sub (xs.length:Int) 0=(xs.length:Int)from Int.sub_zero _,az (by omega) (by omega)]at h;omega
theorem aed {T:aY} (hT:T=bJ\/T=tbF) (xs:List Fc) (hn:xs.length<=10) (fY:QR xs) {B0:Nat} {call:dY ->AV ->Heap ->CR} (bl:@aW T prog B0 call):
  @aW T prog B0 (jL 268 (Ex xs) (sA xs) (.aO .nil) (sA (cF xs)) call):=by
 rcases hT with rfl|rfl
 .exact jM ae 1 bl (fn:=f268) rfl rfl rfl rfl (Nat.le_refl _) (UC xs hn fY)
 .exact jM ae 1 bl (fn:=f268) rfl rfl rfl rfl (Nat.le_refl _) (UC xs hn fY)
def Ey (xs:List Fc):AV:= .cons (.gs (pathOf 64) xs.length 5) (.cons (.func (.func 213) .nil .nil) .nil)
def aee:List (Cn prog):=[Cn.lift tbF abw]
theorem Nd (xs:List Fc) (hn:xs.length<=10) (fY:QR xs) {B0:Nat}:InW 212 f212 (Ey xs) (.aO .nil) (sA xs) (Zn (cF xs)) (pathOf 65) B0 (jL 268 (Ex xs) (sA xs) (.aO .nil) (sA (cF xs)) (aE aee)):=by
 have hc:=aed (.inr rfl) xs hn fY (ay (P:=prog) ae aee B0);refine aD af rfl rfl hc _ (aB ?_);have hw:ah .u64 (xs.length:Int)=(xs.length:Int):=aJ (by omega) (by omega);refine gJ (by decide) (ct (l:=aee) (by decide) 0 (c:=Cn.lift tbF abw) rfl (ah .u64 (xs.length:Int)) ⟨by rw [hw];omega,by rw [hw];omega⟩ (hk:=?_));conv=>whnf
 repeat(refine nx ?_;conv=>whnf)
 refine pG (ea:=?_) (hk:=?_)
 .show AV.cons _ (.cons _ (.cons _ (.cons (.int .i64 (Zo (ah .u64 (xs.length:Int)))) _)))=Ex xs;rw [hw];rfl
 conv=>whnf
 exact⟨rfl,rfl,rfl,aA⟩
theorem Nf {T:aY} (hT:T=bJ\/T=tbF) (xs:List Fc) (hn:xs.length<=10) (fY:QR xs) {B0:Nat} {call:dY ->AV ->Heap ->CR} (bl:@aW T prog B0 call):
  @aW T prog B0 (jL 212 (Ey xs) (sA xs) (.aO .nil) (sA (cF xs)) call):=by
 rcases hT with rfl|rfl
 .exact jM ae 1 bl (fn:=f212) rfl rfl rfl rfl (Nat.le_refl _) (Nd xs hn fY)
 .exact jM ae 1 bl (fn:=f212) rfl rfl rfl rfl (Nat.le_refl _) (Nd xs hn fY)
end
section
attribute [local irreducible] Cw aj bE PF Sub
section
attribute [local instance] fe
def gE (a b:cW) (n:Q3):Q:=Q.sub (gp b n).1 (gp a n).2
def Hs (a b:cW) (n:Q3):Prop:=Cm a n/\Cm b n/\kg (gp b n).1 (gp a n).2
def Zp:List (Cn prog):=[pR,tX]
theorem agQ (a b:cW) (n:Q3) (h:Hs a b n):dA 122 (.cons (aL.v a) (.cons (aL.v b) (.cons (aN.v n) .nil))) (aK.v (gE a b n)):=by
 obtain⟨h1,h2,h3⟩:=h;refine PF.go af ae Zp (fn:=f122) rfl rfl rfl λB0 hc=>?_;conv=>whnf
 refine cg Zp 0 pR (a,n) h1 (aC ?_);refine cg Zp 0 pR (b,n) h2 (aC ?_);refine cg Zp 1 tX ((gp b n).1,(gp a n).2) h3 (aC ?_);exact aj.pure (aK.ak _)
def Ng:Cn prog:= .of3 aL aL aN aK 122 false Hs gE (λe=>by cases e) agQ (au rfl rfl)
end
attribute [local instance] bJ
def pV (a b:cW):List Q3 ->Int ->Int
 |[],s=>s|n::l,s=>match bG (gE a b n).1.sign 1 with|true=>1|false=>pV a b l (match bG (gE a b n).1.sign 0 with|true=>2|false=>s)
def lG (a b:cW):Int:=pV a b (pS a b) 3
def wz (a b:cW):Prop:=zT a b/\∀n∈pS a b,Hs a b n
def tSt:List (Cn prog):=[Ep,Cn.lift bJ Ng,Cn.lift bJ iC]
theorem Ht (a b:cW) (h:wz a b):PF prog 69 (.cons (aL.v a) (.cons (aL.v b) .nil)) ((aq .i64).v (lG a b)):=by
 obtain⟨h1,h2⟩:=h;refine PF.go af ae tSt (fn:=f69) rfl rfl rfl λB0 hc=>?_;unfold lG;have hlen:(pS a b).length<=1000000:=by
  unfold pS;rw [(kT oT _).length_eq,List.length_map];exact h1.n
 conv=>whnf
 refine cg tSt 0 Ep (a,b) h1 (aB ?_);generalize pS a b=L at*;refine Cw.lp (σ:=Int) af rfl rfl hc L.length (λq s=>[(2,.ptr (pathOf 64) 0),(3,.ptr (pathOf 65) 0),(5,.int .i64 s),(10,aN.list.v L),(11,.int .i64 (L.length:Int)),(12,.int .i64 (q:Int))])
  (λq _=>hp [(64,cl (lS a)),(65,cl (lS b))] 66) (λq s=>pV a b (L.drop q) s=pV a b L 3) 3 rfl (sb [(64,64),(65,65)]) (λq s hq hs=>?_)
 conv=>whnf
 refine an (λh3=>?_) (λh3=>?_)
 .have hq:=mY h3;have bM:=mX hq (by omega);rw [List.drop_eq_getElem_cons hq]at hs;have hs:(match bG (gE a b L[q]).1.sign 1 with|true=>1|false=>pV a b (L.drop (q+1)) (match bG (gE a b L[q]).1.sign 0 with|true=>2|false=>s))=pV a b L 3:=hs;have hg:=h2 _ (List.getElem_mem hq);conv=>whnf
  refine aG.go q rfl hq (aB ?_);refine⟨_,aN.rd rfl hq,aC ?_⟩;refine cg tSt 1 (Cn.lift bJ Ng) (a,b,L[q]) hg (aC ?_);refine cg tSt 2 (Cn.lift bJ iC) (gE a b L[q]) aA (aC ?_);refine an (λh4=>?_) (λh4=>?_)
  .have h4:bG (gE a b L[q]).1.sign 1=true:=h4;rw [h4]at hs;have hs:1=pV a b L 3:=hs;rw [<-hs];refine aC ?_;exact aj.pure .int
  .have h4:bG (gE a b L[q]).1.sign 1=false:=h4;rw [h4]at hs;refine aC ?_;refine an (λh5=>?_) (λh5=>?_)
   .have h5:bG (gE a b L[q]).1.sign 0=true:=h5;rw [h5]at hs;refine aC ?_;exact⟨2,hq,hs,sb [(64,64),(65,65)]⟩
   .have h5:bG (gE a b L[q]).1.sign 0=false:=h5;rw [h5]at hs;refine aC ?_;exact⟨s,hq,hs,sb [(64,64),(65,65)]⟩
 .have Ia:=ou hq h3;subst Ia;rw [List.drop_length]at hs;have hs:s=pV a b L 3:=hs;rw [<-hs];refine aC ?_;exact aj.pure .int
def mM:Cn prog:= .kz aL aL (aq .i64) 69 false wz lG (λe=>by cases e) Ht (au rfl rfl)
end
section
attribute [local irreducible] Cw aj bE PF Sub
def rL (q:Q):List AV:=[.bool (decide (q.1<0)),aM.v q.1.natAbs,.bool (decide (q.2<0)),aM.v q.2.natAbs]
abbrev yg:=Q×Bool
def Bg (x:yg):List AV:=rL x.1++[.bool x.2]
def AA (f:Q ->Q ->Q) (x:yg) (t:Q):yg:=(match x.2 with|true=>f x.1 t|false=>t,true)
def zL:List AV:=[.bool false,.bA,.bool false,.bA]
theorem Nh {x y:yg} (h:cl (Bg x)=cl (Bg y)):x=y:=by
 obtain⟨v,s⟩:=x;obtain⟨w,t⟩:=y;injection h with h _ _;have g0:some (AV.bool (decide (v.1<0)))=some (.bool (decide (w.1<0))):=congrArg (λr:Tr AV=>r.get (pathOf 0)) h;have g1:some (aM.v v.1.natAbs)=some (aM.v w.1.natAbs):=congrArg (λr:Tr AV=>r.get (pathOf 1)) h;have g2:some (AV.bool (decide (v.2<0)))=some (.bool (decide (w.2<0))):=congrArg (λr:Tr AV=>r.get (pathOf 2)) h;have g3:some (aM.v v.2.natAbs)=some (aM.v w.2.natAbs):=congrArg (λr:Tr AV=>r.get (pathOf 3)) h;have g4:some (AV.bool s)=some (.bool t):=congrArg (λr:Tr AV=>r.get (pathOf 4)) h;have e:aK.v v=aK.v w:=by
  show AV.agg (.cons (.bool (decide (v.1<0))) (.cons (aM.v v.1.natAbs) (.cons (.bool (decide (v.2<0))) (.cons (aM.v v.2.natAbs) .nil))))= .agg (.cons (.bool (decide (w.1<0))) (.cons (aM.v w.1.natAbs) (.cons (.bool (decide (w.2<0))) (.cons (aM.v w.2.natAbs) .nil))));rw [Option.some.inj g0,Option.some.inj g1,Option.some.inj g2,Option.some.inj g3]
 have e1:=aK.aZ e;have e2:s=t:=by have:=Option.some.inj g4;injection this
 rw [e1,e2]
structure IvI where
 a:cW
 b:cW
 d:Q3
 n:Q3
 g:Q
 s:Q
 t:Q
def Ig (i:IvI) (f t:yg):List (Nat×AO):=[(64,cl (lS i.a)),(65,cl (lS i.b)),(66,cl (nE i.d)),(67,cl zL),(68,cl zL),(69,cl (Bg f)),(70,cl (Bg t)),(71,cl (nE i.n)),(72,cl (rL i.g)),(73,cl (rL i.s)),(74,cl (rL i.t))]
def UD:xf (Bool×IvI×yg×yg) where
 ar:=λx=>match x.1 with
  |true=> .cons (.ptr (pathOf 69) 0) (.cons (aK.v x.2.1.t) (.cons (.func (.func 99) .nil .nil) .nil))|false=> .cons (.ptr (pathOf 70) 0) (.cons (aK.v x.2.1.t) (.cons (.func (.func 195) .nil .nil) .nil))
 h0:=λx=>hp (Ig x.2.1 x.2.2.1 x.2.2.2) 75
 v:=λ_=> .aO .nil
 H:=λx=>(match x.1 with|true=>Ig x.2.1 (AA Q.max x.2.2.1 x.2.1.t) x.2.2.2|false=>Ig x.2.1 x.2.2.1 (AA Q.min x.2.2.2 x.2.1.t)).map λ(y:Nat×AO)=>(pathOf y.1,y.2)
 N:=λ_=>pathOf 76
 ok:=λx=>match x.1 with|true=>x.2.2.1.2=true ->de x.2.1.t x.2.2.1.1|false=>x.2.2.2.2=true ->de x.2.1.t x.2.2.2.1
 inj:=by
  rintro ⟨m,i,f,t⟩ ⟨m',i',f',t'⟩ _ _ e1 e2;have g4:some (cl (lS i.a))=some (cl (lS i'.a)):=congrArg (λh:Heap=>h.t.get (pathOf 64)) e2;have g5:some (cl (lS i.b))=some (cl (lS i'.b)):=congrArg (λh:Heap=>h.t.get (pathOf 65)) e2;have g6:some (cl (nE i.d))=some (cl (nE i'.d)):=congrArg (λh:Heap=>h.t.get (pathOf 66)) e2;have g9:some (cl (Bg f))=some (cl (Bg f')):=congrArg (λh:Heap=>h.t.get (pathOf 69)) e2;have g10:some (cl (Bg t))=some (cl (Bg t')):=congrArg (λh:Heap=>h.t.get (pathOf 70)) e2;have g11:some (cl (nE i.n))=some (cl (nE i'.n)):=congrArg (λh:Heap=>h.t.get (pathOf 71)) e2;have g12:some (cl (rL i.g))=some (cl (rL i'.g)):=congrArg (λh:Heap=>h.t.get (pathOf 72)) e2;have g13:some (cl (rL i.s))=some (cl (rL i'.s)):=congrArg (λh:Heap=>h.t.get (pathOf 73)) e2;have g14:some (cl (rL i.t))=some (cl (rL i'.t)):=congrArg (λh:Heap=>h.t.get (pathOf 74)) e2;have k1:=Nh (Option.some.inj g9);have k2:=Nh (Option.some.inj g10);subst k1 k2;have key:i.t=i'.t ->∀f t:yg,Ig i f t=Ig i' f t:=λht f t=>by
   unfold Ig;rw [Option.some.inj g4,Option.some.inj g5,Option.some.inj g6,Option.some.inj g11,Option.some.inj g12,Option.some.inj g13,ht]
  cases m<;>cases m'
  .injection e1 with _ e1;injection e1 with e1 _;have ht:i.t=i'.t:=aK.aZ e1;refine⟨rfl,?_,rfl⟩;show(Ig i f (AA Q.min t i.t)).map _=(Ig i' f (AA Q.min t i'.t)).map _;rw [key ht,ht]
  .injection e1 with e1 _;injection e1 with e1 _;exact absurd e1 (by decide)
  .injection e1 with e1 _;injection e1 with e1 _;exact absurd e1 (by decide)
  .injection e1 with _ e1;injection e1 with e1 _;have ht:i.t=i'.t:=aK.aZ e1;refine⟨rfl,?_,rfl⟩;show(Ig i (AA Q.max f i.t) t).map _=(Ig i' (AA Q.max f i'.t) t).map _;rw [key ht,ht]
section
abbrev iN:aY:=qi bJ 11
attribute [local instance] iN
def tN:List (Cn prog):=[Cn.lift iN Eg,Cn.lift iN TQ]
theorem ajL (i:IvI) (f t:yg) (h:f.2=true ->de i.t f.1) (B0:Nat) {r:Tr AV} (hr:gH (.cons (.ptr (pathOf 69) 0) (.cons (aK.v i.t) (.cons (.func (.func 99) .nil .nil) .nil))) 0 f194.ntmps .leaf=some r):
  Cw prog B0 ⟨prog,194,f194.ntmps,none,aE tN,0⟩ (oJ f194) r [] (hp (Ig i f t) 75)
   (QK (fa prog f194 (.aO .nil) ((Ig i (AA Q.max f i.t) t).map λy=>(pathOf y.1,y.2)) (pathOf 76)) (fa prog f194 (.aO .nil) ((Ig i (AA Q.max f i.t) t).map λy=>(pathOf y.1,y.2)) (pathOf 76)) (λ_ _ _ _=>False)):=by
 cases hr;have hc:=ay (P:=prog) ae tN B0;refine aD af rfl rfl hc _ ?_;obtain⟨v,s⟩:=f;unfold AA;cases s with
 |true=>
  conv=>whnf
  refine cg tN 0 (Cn.lift iN Eg) (v,i.t) (h rfl) (aC ?_);repeat' first|exact aA|exact rfl|refine And.intro ?_ ?_
 |false=>
  refine aC ?_;repeat' first|exact aA|exact rfl|refine And.intro ?_ ?_
theorem ajM (i:IvI) (f t:yg) (h:t.2=true ->de i.t t.1) (B0:Nat) {r:Tr AV} (hr:gH (.cons (.ptr (pathOf 70) 0) (.cons (aK.v i.t) (.cons (.func (.func 195) .nil .nil) .nil))) 0 f194.ntmps .leaf=some r):
  Cw prog B0 ⟨prog,194,f194.ntmps,none,aE tN,0⟩ (oJ f194) r [] (hp (Ig i f t) 75)
   (QK (fa prog f194 (.aO .nil) ((Ig i f (AA Q.min t i.t)).map λy=>(pathOf y.1,y.2)) (pathOf 76)) (fa prog f194 (.aO .nil) ((Ig i f (AA Q.min t i.t)).map λy=>(pathOf y.1,y.2)) (pathOf 76)) (λ_ _ _ _=>False)):=by
 cases hr;have hc:=ay (P:=prog) ae tN B0;refine aD af rfl rfl hc _ ?_;obtain⟨v,s⟩:=t;unfold AA;cases s with
 |true=>
  conv=>whnf
  refine cg tN 1 (Cn.lift iN TQ) (v,i.t) (h rfl) (aC ?_);repeat' first|exact aA|exact rfl|refine And.intro ?_ ?_
 |false=>
  refine aC ?_;repeat' first|exact aA|exact rfl|refine And.intro ?_ ?_
end
theorem Zq {B0:Nat} {call:dY ->AV ->Heap ->CR} (bl:@aW bJ prog B0 call):@aW bJ prog B0 (fx 194 UD call):=
 ic ae 11 bl (fn:=f194) rfl rfl UD (λx hx=>by
  obtain⟨m,i,f,t⟩:=x;cases m with
  |true=>exact⟨_,_,rfl,rfl,(show(pathOf 75).toNat<=(pathOf 76).toNat by decide),ajL i f t hx B0 rfl⟩|false=>exact⟨_,_,rfl,rfl,(show(pathOf 75).toNat<=(pathOf 76).toNat by decide),ajM i f t hx B0 rfl⟩)
end
section
attribute [local irreducible] Cw aj bE PF Sub dW
attribute [local instance] bJ
def xn:List Int ->Nat ->Option Nat
 |[],e=>some e|i::r,e=>match gg 0 i with|true=>xn r (orN e i.toNat)|false=>none
def gL (l:List V3):Pl ->Nat ->List Fc ->Option (List Fc×Nat)
 |[],e,acc=>some (acc,e)|p::t,e,acc=>match gg 0 p.2 &&dj p.2 256 with
  |false=>none|true=>(match nJ l p.1 p.2.toNat with
   |none=>none|some r=>(match xn r e with
    |none=>none|some e'=>gL l t e' (acc++[(p,r)])))
def il (l:List V3):Option (List Fc×Nat):=
 match Nat.ble l.length 4096 &&Nat.ble (dq l).length 1000000 with
 |false=>none|true=>(match gL l (dq l) 0 []with
  |none=>none|some (all,e)=>(match Nat.ble all.length 10 &&all.all λx=>Nat.ble x.2.length 4294967296 with|true=>some (all,e)|false=>none))
theorem xo (l:List V3):∀{t:Pl} {e:Nat} {acc all:List Fc} {e':Nat},gL l t e acc=some (all,e') ->acc.length<=all.length
 |[],e,acc,all,e',h=>by injection h with h;injection h with h _;rw [h];exact Nat.le_refl _
 |p::t,e,acc,all,e',h=>by
  unfold gL at h;split at h
  .cases h
  .split at h
   .cases h
   .split at h
    .cases h
    .have:=xo l h;rw [List.length_append]at this;omega
theorem xp (l:List V3) {y:Fc}:∀{t:Pl} {e:Nat} {acc all:List Fc} {e':Nat},gL l t e acc=some (all,e') ->y∈acc ->y∈all
 |[],e,acc,all,e',h,hy=>by injection h with h;injection h with h _;exact h ▸ hy
 |p::t,e,acc,all,e',h,hy=>by
  unfold gL at h;split at h
  .cases h
  .split at h
   .cases h
   .split at h
    .cases h
    .exact xp l h (List.mem_append_left _ hy)
def Aa:List (Cn prog):=[Hr,Ug]
def aef (all:List Fc):dY ->AV ->Heap ->CR:=
 jL 212 (Ey all) (sA all) (.aO .nil) (sA (cF all)) (aE Aa)
theorem Zr (l:List V3) (all:List Fc) (e:Nat) (h:il l=some (all,e)):PF prog 162 (.cons (bR.list.v l) .nil) (.aO (.cons (bY.list.v ((cF all).map (·.1))) (.cons ((aq .i64).list.list.v ((cF all).map (·.2))) (.cons ((aq .u64).v (e:Int)) .nil)))):=by
 unfold il at h;cases hb:(Nat.ble l.length 4096 &&Nat.ble (dq l).length 1000000)with
 |false=>rw [hb]at h;cases h|true=>
 rw [hb]at h;obtain⟨ot,rM⟩:=Bool.and_eq_true_iff.1 hb;have hl:=Nat.le_of_ble_eq_true ot;have hp:=Nat.le_of_ble_eq_true rM;cases hf:gL l (dq l) 0 []with
 |none=>rw [hf]at h;cases h|some x=>
 rw [hf]at h;obtain⟨wA,e'⟩:=x;replace h:(match Nat.ble wA.length 10 &&wA.all λx=>Nat.ble x.2.length 4294967296 with|true=>some (wA,e')|false=>none)=some (all,e):=h;cases AM:(Nat.ble wA.length 10 &&wA.all λx=>Nat.ble x.2.length 4294967296)with
 |false=>rw [AM]at h;cases h|true=>
 rw [AM]at h;injection h with h;injection h with h1 h2;subst h1 h2;obtain⟨PN,QO⟩:=Bool.and_eq_true_iff.1 AM;have hn:=Nat.le_of_ble_eq_true PN;have fY:QR wA:=λx hx=>Nat.le_of_ble_eq_true (List.all_eq_true.1 QO x hx);refine PF.of_wp (c:=_) af (by decide) (fn:=f162) rfl rfl rfl (.cons (bR.list.ak _) .nil) (call:=aef wA) (λB0=>Nf (.inl rfl) wA hn fY (ay ae Aa B0)) ?_;intro B0;have hc:=Nf (.inl rfl) wA hn fY (ay (P:=prog) ae Aa B0);conv=>whnf
 refine gJ (by decide) (ct (l:=Aa) (by decide) 0 (c:=Hr) rfl l ⟨hl,hp⟩ (hk:=?_));refine sZ ?_;generalize oz:dq l=pl at*;refine Cw.loop (ι:=Nat×Nat×List Fc) (λq=>bm [(0,bR.list.v l),(5,.gs (pathOf 64) q.2.2.length 5),(6,.int .u64 (q.2.1:Int)),(17,bY.list.v pl),(18,.int .i64 (pl.length:Int)),(19,.int .i64 (q.1:Int))]) (λ_=>[]) (λq=>sA q.2.2)
  (λq=>q.1<=pl.length/\gL l (pl.drop q.1) q.2.1 q.2.2=some (wA,e')/\q.2.1<18446744073709551616) (λq=>pl.length - q.1) ?_ (0,0,[]) ⟨Nat.zero_le _,hf,by decide⟩ ?_
 .intro q hq;obtain⟨q,x,acc⟩:=q;obtain⟨g1,g2,g3⟩:=hq;have g1:q<=pl.length:=g1;have g2:gL l (pl.drop q) x acc=some (wA,e'):=g2;have g3:x<18446744073709551616:=g3;have akv:acc.length<=10:=Nat.le_trans (xo l g2) hn;refine aD af rfl rfl hc _ (aB ?_);refine an (λh1=>?_) (λh1=>?_)
  .have hq:q<pl.length:=Int.ofNat_lt.1 (aQ.1 h1);have bM:ah .i64 (Int.add (q:Int) 1)=((q+1:Nat):Int):=by
    show ah .i64 ((q:Int)+1)=_;rw [az (by omega) (by omega)];omega
   rw [List.drop_eq_getElem_cons hq]at g2;obtain⟨r,x',k1,k2,k3,k4,k5⟩:∃r x',0<=pl[q].2/\pl[q].2<256/\nJ l pl[q].1 pl[q].2.toNat=some r/\xn r x=some x'/\gL l (pl.drop (q+1)) x' (acc++[(pl[q],r)])=some (wA,e'):=by
    unfold gL at g2;split at g2
    .cases g2
    .rename_i hb;obtain⟨ot,rM⟩:=Bool.and_eq_true_iff.1 hb;split at g2
     .cases g2
     .rename_i r hr;split at g2
      .cases g2
      .rename_i x' hx;exact⟨r,x',cA.1 ot,aQ.1 rM,hr,hx,g2⟩
   conv=>whnf
   refine aG.go q rfl hq (aB ?_);refine⟨_,bY.rd rfl hq,aB ?_⟩;refine gJ (by decide) (ch (l:=Aa) (by decide) 1 (c:=Ug) rfl (l,pl[q]) ⟨by show l.length<=4294967296;omega,k1,k2,by show(nJ l pl[q].1 pl[q].2.toNat).isSome=true;rw [k3];rfl⟩ (v:=(aq .i64).list.v r) (congrArg (aq .i64).list.v (show(nJ l pl[q].1 pl[q].2.toNat).getD []=r by rw [k3];rfl)) (hk:=?_));refine sZ ?_;have hrl:r.length<=4294967296:=by
    have hm:(pl[q],r)∈wA:=xp l k5 (List.mem_append_right _ (List.mem_singleton.2 rfl));exact fY _ hm
   refine Cw.loop (ι:=Nat×Nat) (λz=>bm [(0,bR.list.v l),(5,.gs (pathOf 64) acc.length 5),(6,.int .u64 (z.2:Int)),(8,.ptr (pathOf 65) 0),(9,(aq .i64).list.v r),(17,bY.list.v pl),(18,.int .i64 (pl.length:Int)),(19,.int .i64 (q:Int)),(26,(aq .i64).list.v r),(27,.int .i64 (r.length:Int)),(28,.int .i64 (z.1:Int))]) (λ_=>[]) (λ_=>⟨bW [(pathOf 64,.gl (sj.l acc) false),(pathOf 65,.cells (bm [(0,.int .i64 pl[q].1.1),(1,.int .i64 pl[q].1.2.1),(2,.int .i64 pl[q].1.2.2),(3,.int .u64 pl[q].2)]) 4 false)],pathOf 66⟩)
    (λz=>z.1<=r.length/\xn (r.drop z.1) z.2=some x'/\z.2<18446744073709551616) (λz=>r.length - z.1) ?_ (0,x) ⟨Nat.zero_le _,k4,g3⟩ ?_
   .intro z hz;obtain⟨k,y⟩:=z;obtain⟨m1,m2,m3⟩:=hz;have m1:k<=r.length:=m1;have m2:xn (r.drop k) y=some x':=m2;have m3:y<18446744073709551616:=m3;refine aD af rfl rfl hc _ (aB ?_);refine an (λh2=>?_) (λh2=>?_)
    .have hk:k<r.length:=Int.ofNat_lt.1 (aQ.1 h2);have KH:ah .i64 (Int.add (k:Int) 1)=((k+1:Nat):Int):=by
      show ah .i64 ((k:Int)+1)=_;rw [az (by omega) (by omega)];omega
     rw [List.drop_eq_getElem_cons hk]at m2;obtain⟨n1,n2⟩:0<=r[k]/\xn (r.drop (k+1)) (orN y r[k].toNat)=some x':=by
      unfold xn at m2;split at m2
      .rename_i hb;exact⟨cA.1 hb,m2⟩
      .cases m2
     conv=>whnf
     refine aG.go k rfl hk (aB ?_);refine⟨_,(aq .i64).rd rfl hk,aB ?_⟩;refine⟨n1,aB ?_⟩;refine⟨⟨Int.natCast_nonneg _,oM (Int.natCast_nonneg _) (show(y:Int)<_ by omega),(pL r[k].toNat).1,oM (pL r[k].toNat).1 (pL r[k].toNat).2⟩,sZ ?_⟩;refine⟨(k+1,orN y r[k].toNat),⟨hk,n2,Tl m3⟩,by show r.length - (k+1)<r.length - k;omega,?_⟩;refine Sub.of (fI [64,65]) [] rfl rfl rfl ?_ ?_
     .repeat' first|exact aA|exact rfl|refine And.intro ?_ ?_
      all_goals exact KH
     .repeat' first|exact aA|exact rfl|refine And.intro ?_ ?_
      all_goals exact sj.bh _
    .have hk:k=r.length:=(by have:=bf.1 h2;have this:((r.length:Nat):Int)<=(k:Int):=this;omega);rw [hk,List.drop_length]at m2;injection m2 with m2;subst m2;conv=>whnf
     refine⟨_,rfl,aB ?_⟩;refine⟨⟨?_,rfl,(sj.ep acc).symm⟩,?_⟩
     .show(acc.length+1)*(56+1)<=1099511627776;omega
     refine sZ ?_;refine⟨(q+1,_,acc++[(pl[q],r)]),⟨hq,k5,m3⟩,by show pl.length - (q+1)<pl.length - q;omega,?_⟩;refine Sub.of [(pathOf 64,some (pathOf 67))] [] rfl rfl rfl ?_ ?_
     .repeat' first|exact aA|exact rfl|refine And.intro ?_ ?_
      all_goals first|exact bM|(rw [List.length_append];exact rfl)|(simp;done)
     .repeat' first|exact aA|exact rfl|refine And.intro ?_ ?_
      all_goals first|exact sj.oH acc [(pl[q],r)]|exact sj.bh _
   .refine Sub.of (fI [64,65]) [] rfl rfl rfl ?_ ?_
    .exact pc
    .repeat' first|exact aA|exact rfl|refine And.intro ?_ ?_
     all_goals exact sj.bh _
  .have hq:q=pl.length:=(by have:=bf.1 h1;have this:((pl.length:Nat):Int)<=(q:Int):=this;omega);rw [hq,List.drop_length]at g2;injection g2 with g2;injection g2 with g4 g5;subst g4 g5;conv=>whnf
   refine pG (hk:=?_);conv=>whnf
   have hS:(cF acc).length=acc.length:=KJ acc;refine Cw.loop (ι:=Nat) (λq=>bm [(6,.int .u64 (x:Int)),(12,.gs (pathOf 65) q 4),(13,.gs (pathOf 66) q 1),(46,.gs (pathOf 64) acc.length 5),(47,.int .i64 (acc.length:Int)),(48,.int .i64 (q:Int))]) (λ_=>[]) (λq=>⟨bW [(pathOf 64,.gl (sj.l (cF acc)) false),(pathOf 65,.gl (bY.l (((cF acc).take q).map (·.1))) false),(pathOf 66,.gl ((aq .i64).list.l (((cF acc).take q).map (·.2))) false)],pathOf 67⟩)
    (λq=>q<=acc.length) (λq=>acc.length - q) ?_ 0 (Nat.zero_le _) ?_
   .intro q hq;refine aD af rfl rfl hc _ (aB ?_);refine an (λh2=>?_) (λh2=>?_)
    .have hq:q<acc.length:=Int.ofNat_lt.1 (aQ.1 h2);have hqS:q<(cF acc).length:=(by omega);have bM:ah .i64 (Int.add (q:Int) 1)=((q+1:Nat):Int):=by
      show ah .i64 ((q:Int)+1)=_;rw [az (by omega) (by omega)];omega
     have ht:(cF acc).take (q+1)=(cF acc).take q++[(cF acc)[q]]:=List.take_succ_eq_append_getElem hqS;conv=>whnf
     refine aG.go q rfl hq (aB ?_);refine⟨_,sj.rd rfl hqS,aB ?_⟩;have agR:min q (cF acc).length=q:=Nat.min_eq_left (by omega);have e1:q*4=(bY.l (((cF acc).take q).map (·.1))).len:=(by rw [bY.ep,List.length_map,List.length_take,agR];rfl);have e2:q*1=((aq .i64).list.l (((cF acc).take q).map (·.2))).len:=(by rw [(aq .i64).list.ep,List.length_map,List.length_take,agR];rfl);refine⟨_,rfl,aB ?_⟩;refine⟨⟨?_,rfl,e1⟩,?_⟩
     .show(q+1)*(32+1)<=1099511627776;omega
     refine sZ ?_;refine⟨_,rfl,aB ?_⟩;refine⟨⟨?_,rfl,e2⟩,?_⟩
     .show(q+1)*(24+1)<=1099511627776;omega
     refine sZ ?_;refine⟨q+1,hq,by omega,?_⟩;rw [ht,List.map_append,List.map_append];refine Sub.of [(pathOf 64,some (pathOf 64)),(pathOf 65,some (pathOf 70)),(pathOf 66,some (pathOf 71))] [] rfl rfl rfl ?_ ?_
     .repeat' first|exact aA|exact rfl|refine And.intro ?_ ?_
      all_goals first|exact bM|(simp;done)
     .repeat' first|exact aA|exact rfl|refine And.intro ?_ ?_
      all_goals first|exact bY.oH _ [(cF acc)[q].1]|exact(aq .i64).list.oH _ [(cF acc)[q].2]|exact sj.bh _|exact bY.bh _|exact(aq .i64).list.bh _
    .have hq:q=acc.length:=(by have:=bf.1 h2;have this:((acc.length:Nat):Int)<=(q:Int):=this;omega);conv=>whnf
     have hm:min q (cF acc).length=q:=Nat.min_eq_left (by omega);exact aj.aO (bE.cons (bY.gk rfl (by rw [hq,<-hS,List.take_length]) (by rw [List.length_map,hS];exact hq)) (bE.cons ((aq .i64).list.gk rfl (by rw [hq,<-hS,List.take_length]) (by rw [List.length_map,hS];exact hq)) (bE.cons (aj.pure .int) bE.nil)))
   .refine Sub.of [(pathOf 64,some (pathOf 64)),(pathOf 65,none),(pathOf 66,none)] [] rfl rfl rfl ?_ ?_
    .exact pc
    .repeat' first|exact aA|exact rfl|refine And.intro ?_ ?_
     all_goals exact sj.bh _
 .refine Sub.of [(pathOf 64,none)] [] rfl rfl rfl ?_ ?_
  .exact pc
  .exact pc
end
section
attribute [local irreducible] Cw aj bE PF Sub
attribute [local instance] bJ
def wB (l:List V3):AV:=
 match il l with
 |some x=> .aO (.cons (bY.list.v ((cF x.1).map (·.1))) (.cons ((aq .i64).list.list.v ((cF x.1).map (·.2))) (.cons ((aq .u64).v (x.2:Int)) .nil)))|none=> .aO .nil
theorem nK {l:List V3} {x:List Fc×Nat} (h:il l=some x):wB l= .aO (.cons (bY.list.v ((cF x.1).map (·.1))) (.cons ((aq .i64).list.list.v ((cF x.1).map (·.2))) (.cons ((aq .u64).v (x.2:Int)) .nil))):=by
 unfold wB;rw [h]
def yh:Cn prog where
 f:=162
 flat:=false
 α:=List V3
 aZs:=λl=> .cons (bR.list.v l) .nil
 v:=wB
 ok:=λl=>(il l).isSome=true
 inj:=λa b _ _ h=>by
  injection h with h1 _;exact congrArg wB (bR.list.aZ h1)
 dp:=λl=>⟨bR.list.eK _,aA⟩
 pv:=λl=>by
  cases h:il l with
  |none=>
   have:wB l= .aO .nil:=(by unfold wB;rw [h]);rw [this];exact .aO .nil
  |some x=>
   rw [nK h];exact .aO (.cons (bY.list.ak _) (.cons ((aq .i64).list.list.ak _) (.cons .int .nil)))
 fl:=λe=>by cases e
 pf:=λl h=>by
  obtain⟨x,hx⟩:=Option.isSome_iff_exists.1 h;rw [nK hx];exact Zr l x.1 x.2 hx
 bd:=au rfl rfl
def vB (n:Int) (h:Bool):Prop:= -128<=n/\n<=127/\(h=true ->n % 2=1)
def rdZ (l:List Nat):Int:=match l with|45::l=> -(l.foldl (λa c=>a*10+(c - 48)) 0:Nat)|l=>(l.foldl (λa c=>a*10+(c - 48)) 0:Nat)
def rdS (l:List Nat):Int×Bool:=(rdZ (l.takeWhile (λc=>!(c==47))),l.contains 47)
theorem Zs:∀n:_root_.Fin 256,∀h:Bool,rdS (yf ((n.1:Int) - 128) h)=((n.1:Int) - 128,h):=by decide+kernel
theorem uk {n:Int} {h:Bool} (k:vB n h):rdS (yf n h)=(n,h):=by
 obtain⟨a,b,_⟩:=k;have:=Zs ⟨(n+128).toNat,by omega⟩ h;have e:(((n+128).toNat:Nat):Int) - 128=n:=by omega
 simp only [e]at this;exact this
theorem qe {l:List (AV×AV)} (h:cP prog uy 94 l=true):∀e∈l,PF prog 94 e.1 e.2:=λe he=>(cm af ae ik (by decide) h e he).1
theorem nL {k m i:Nat} (h1:k<=i) (h2:i<k+m):psE ((i:Int) - 128) false∈WX k m:=by
 unfold WX;refine List.mem_map.2 ⟨i - k,List.mem_range.2 (by omega),?_⟩;rw [show k+(i - k)=i by omega]
theorem yi {k m i:Nat} (h1:k<=i) (h2:i<k+m):psE (2*(i:Int) - 127) true∈psH k m:=by
 unfold psH;refine List.mem_map.2 ⟨i - k,List.mem_range.2 (by omega),?_⟩;rw [show k+(i - k)=i by omega]
theorem aeg (n:Int) (h:Bool) (k:vB n h):PF prog 94 (.cons (aR.v (yf n h)) .nil) (.aO (.cons (aK.v (KE n h)) (.cons ((aq .i64).v 0) .nil))):=by
 obtain⟨h1,h2,h3⟩:=k;cases h with
 |false=>
  obtain⟨i,hi,rfl⟩:∃i:Nat,i<256/\n=(i:Int) - 128:=⟨(n+128).toNat,by omega,by omega⟩
  rcases Nat.lt_or_ge i 32 with g|g
  .exact qe ajz _ (nL (by omega) (by omega))
  rcases Nat.lt_or_ge i 64 with g|g
  .exact qe ajA _ (nL (by omega) (by omega))
  rcases Nat.lt_or_ge i 96 with g|g
  .exact qe ajB _ (nL (by omega) (by omega))
  rcases Nat.lt_or_ge i 128 with g|g
  .exact qe ajC _ (nL (by omega) (by omega))
  rcases Nat.lt_or_ge i 160 with g|g
  .exact qe ajD _ (nL (by omega) (by omega))
  rcases Nat.lt_or_ge i 192 with g|g
  .exact qe ajE _ (nL (by omega) (by omega))
  rcases Nat.lt_or_ge i 224 with g|g
  .exact qe ajF _ (nL (by omega) (by omega))
  .exact qe ajG _ (nL (by omega) (by omega))
 |true=>
  have h3:=h3 rfl;obtain⟨i,hi,rfl⟩:∃i:Nat,i<128/\n=2*(i:Int) - 127:=⟨((n+127)/2).toNat,by omega,by omega⟩
  rcases Nat.lt_or_ge i 32 with g|g
  .exact qe ajH _ (yi (by omega) (by omega))
  rcases Nat.lt_or_ge i 64 with g|g
  .exact qe ajI _ (yi (by omega) (by omega))
  rcases Nat.lt_or_ge i 96 with g|g
  .exact qe ajJ _ (yi (by omega) (by omega))
  .exact qe ajK _ (yi (by omega) (by omega))
def rD:Cn prog:=
 ⟨94,false,Int×Bool,λx=> .cons (aR.v (yf x.1 x.2)) .nil,λx=> .aO (.cons (aK.v (KE x.1 x.2)) (.cons ((aq .i64).v 0) .nil)),λx=>vB x.1 x.2,
  λa b ha hb h=>by
   injection h with h _;have h:yf a.1 a.2=yf b.1 b.2:=aR.aZ h;have h1:=uk ha;rw [h,uk hb]at h1;obtain⟨a1,a2⟩:=a;obtain⟨b1,b2⟩:=b;injection h1 with e1 e2;have e1:b1=a1:=e1;have e2:b2=a2:=e2;rw [e1,e2],λx=>⟨aR.eK _,aA⟩,λx=> .aO (.cons (aK.ak _) (.cons .int .nil)),λe=>Bool.noConfusion e,λx h=>aeg x.1 x.2 h,au rfl rfl⟩
abbrev lz:=(Int×Bool)×(Int×Bool)×(Int×Bool)
def lz.OK (x:lz):Prop:=vB x.1.1 x.1.2/\vB x.2.1.1 x.2.1.2/\vB x.2.2.1 x.2.2.2
def lz.s (x:lz):AV:= .agg (.cons (aR.v (yf x.1.1 x.1.2)) (.cons (aR.v (yf x.2.1.1 x.2.1.2)) (.cons (aR.v (yf x.2.2.1 x.2.2.2)) .nil)))
def lz.q (x:lz):Q3:=(KE x.1.1 x.1.2,KE x.2.1.1 x.2.1.2,KE x.2.2.1 x.2.2.2)
theorem Zt (x:lz) (h:x.OK):PF prog 93 (.cons x.s (.cons (.func (.func 94) .nil .nil) .nil)) (.aO (.cons (aN.v x.q) (.cons ((aq .i64).v 0) .nil))):=by
 obtain⟨a,b,c⟩:=x;obtain⟨h1,h2,h3⟩:=h;refine PF.go af ae [rD] (fn:=f93) rfl rfl rfl λB0 hc=>?_;have iP:([rD].map Cn.f).Nodup:=List.nodup_cons.2 ⟨List.not_mem_nil,List.nodup_nil⟩;conv=>whnf
 refine Cw.bL af rfl rfl hc 4 (aB ?_);refine cg [rD] 0 rD a h1 (aC ?_) (hl:=iP);refine cg [rD] 0 rD b h2 (aC ?_) (hl:=iP);refine cg [rD] 0 rD c h3 (aC ?_) (hl:=iP);exact aj.pure (.aO (.cons (aN.ak (lz.q (a,b,c))) (.cons .int .nil)))
theorem lz.Hu {x y:lz} (hx:x.OK) (hy:y.OK) (h:x.s=y.s):x=y:=by
 obtain⟨⟨a1,a2⟩,⟨b1,b2⟩,⟨c1,c2⟩⟩:=x;obtain⟨⟨d1,d2⟩,⟨e1,e2⟩,⟨f1,f2⟩⟩:=y;obtain⟨x1,x2,x3⟩:=hx;obtain⟨y1,y2,y3⟩:=hy;injection h with h;injection h with h1 h;injection h with h2 h;injection h with h3 _;have g:∀{n m:Int} {u v:Bool},vB n u ->vB m v ->aR.v (yf n u)=aR.v (yf m v) ->(n,u)=(m,v):=λhn hm e=>by
  have e:=aR.aZ e;have k:=uk hn;rw [e,uk hm]at k;exact k.symm
 have k1:=g x1 y1 h1;have k2:=g x2 y2 h2;have k3:=g x3 y3 h3;rw [k1,k2,k3]
theorem lz.Ez (x:lz):cL x.s:= .agg (.cons (aR.ak _) (.cons (aR.ak _) (.cons (aR.ak _) .nil)))
def yj:Cn prog:=
 ⟨93,false,lz,λx=> .cons x.s (.cons (.func (.func 94) .nil .nil) .nil),λx=> .aO (.cons (aN.v x.q) (.cons ((aq .i64).v 0) .nil)),lz.OK,
  λa b ha hb h=>by injection h with h _;rw [lz.Hu ha hb h],λx=>⟨⟨aR.eK _,aR.eK _,aR.eK _,aA⟩,⟨aA,aA⟩,aA⟩,λx=> .aO (.cons (aN.ak _) (.cons .int .nil)),λe=>Bool.noConfusion e,λx h=>Zt x h,au rfl rfl⟩
theorem UE (x:lz) (h:x.OK):PF prog 52 (.cons x.s .nil) (.aO (.cons (aN.v x.q) (.cons ((aq .i64).v 0) .nil))):=by
 refine PF.go af ae [yj] (fn:=f52) rfl rfl rfl (hpure:= .cons x.Ez .nil) λB0 hc=>?_;have iP:([yj].map Cn.f).Nodup:=List.nodup_cons.2 ⟨List.not_mem_nil,List.nodup_nil⟩;conv=>whnf
 refine cg [yj] 0 yj x h (aC ?_) (hl:=iP);exact aj.pure (.aO (.cons (aN.ak _) (.cons .int .nil)))
def jW:Cn prog:=
 ⟨52,false,lz,λx=> .cons x.s .nil,λx=> .aO (.cons (aN.v x.q) (.cons ((aq .i64).v 0) .nil)),lz.OK,
  λa b ha hb h=>by injection h with h _;rw [lz.Hu ha hb h],λx=>⟨⟨aR.eK _,aR.eK _,aR.eK _,aA⟩,aA⟩,λx=> .aO (.cons (aN.ak _) (.cons .int .nil)),λe=>Bool.noConfusion e,λx h=>UE x h,au rfl rfl⟩
abbrev Tn:=Int×Int×Int×Int
def bZ:List Tn:=[(1,0,0,0),(0,1,0,0),(0,0,1,0),(0,0,0,1),(1,1,0,0),(1,-1,0,0),(1,0,1,0),(1,0,-1,0),(1,0,0,1),(1,0,0,-1),(0,1,1,0),(0,1,-1,0),(0,1,0,1),(0,1,0,-1),(0,0,1,1),(0,0,1,-1),(1,1,1,1),(1,1,1,-1),(1,1,-1,1),(1,1,-1,-1),(1,-1,1,1),(1,-1,1,-1),(1,-1,-1,1),(1,-1,-1,-1),(2,0,0,1),(2,1,0,0),(1,1,1,0)]
def plV (t:Tn) (x:lz):AV:= .agg (.cons (.int .i64 t.1) (.cons (.int .i64 t.2.1) (.cons (.int .i64 t.2.2.1) (.cons (.int .i64 t.2.2.2) (.cons (aR.v (yf x.1.1 x.1.2)) (.cons (aR.v (yf x.2.1.1 x.2.1.2)) (.cons (aR.v (yf x.2.2.1 x.2.2.2)) .nil)))))))
theorem Ab (t:Tn) (x:lz):dh (.cons (plV t x) .nil):= .cons (.agg (.cons .int (.cons .int (.cons .int (.cons .int (.cons (aR.ak _) (.cons (aR.ak _) (.cons (aR.ak _) .nil)))))))) .nil
theorem nd1 {c:Cn prog}:([c].map Cn.f).Nodup:=List.nodup_cons.2 ⟨List.not_mem_nil,List.nodup_nil⟩
theorem Hv (t:Tn) (ht:t∈bZ) (x:lz) (hx:x.OK):PF prog 73 (.cons (plV t x) .nil) (.int .i64 0):=by
 simp only [bZ,List.mem_cons,List.not_mem_nil,or_false]at ht;rcases ht with rfl|rfl|rfl|rfl|rfl|rfl|rfl|rfl|rfl|rfl|rfl|rfl|rfl|rfl|rfl|rfl|rfl|rfl|rfl|rfl|rfl|rfl|rfl|rfl|rfl|rfl|rfl;all_goals
  refine PF.go af ae [jW] (fn:=f73) rfl rfl rfl (hpure:=Ab _ _) λB0 hc=>?_;conv=>whnf
  repeat(first|(refine Cw.bL af rfl rfl hc 8 ?_;conv=>whnf)|(refine nw ?_ (by decide);conv=>whnf)|(refine nw ?_;conv=>whnf))
  refine cg [jW] 0 jW x hx (aC ?_) (hl:=nd1);exact aj.pure .int
end
end
end Go.Sy
