/- A piece of the proof, made small by a program of ours. -/
import Derived.Test.YtilmgbneiikbiaaGreatDoorP10
import Derived.Test.YtilmgbneiikbiaaGreatDoorP13
import Derived.Test.YtilmgbneiikbiaaGreatDoorP14
import Derived.Test.YtilmgbneiikbiaaGreatDoorP15
set_option linter.all false
set_option maxRecDepth 1000000
set_option maxHeartbeats 0
namespace Go.Sy
noncomputable section
open Go.RowKit Go.Proofs Go.Proofs.Tryz
section
attribute [local instance] bZ
def names:List (List Nat):=[[112,48],[112,49],[112,50],[112,51],[97],[98],[99],[100],[97,103,97,105,110],[99,117,98,101]]
def naT:List (AV×AV):=names.map λs=>(.cons (.str s) .nil,.bool true)
theorem ad3:cS prog vq 138 naT=true:=by decide+kernel
theorem UP (s:List Nat) (h:s∈names):PF prog 138 (.cons (aV.v s) .nil) (bG.v true):=
 (cz af ae iR (by decide) ad3 (.cons (.str s) .nil,.bool true) (List.mem_map.2 ⟨s,h,rfl⟩)).1
def jb:Cn prog:= .mU aV bG 138 true (λs=>s∈names) (λ_=>true) fF UP (aw rfl rfl)
end
section
attribute [local irreducible] Cw ak bq PF Sub dZ
attribute [local instance] bZ
abbrev Pl:=List (V3×Int)
def nV (l:List V3) (i j k:Nat) (o:Pl):Pl:=
 match (gq l (l.getD i (0,0,0)) (l.getD j (0,0,0)) (l.getD k (0,0,0))).2 with
 |false=>o|true=>(match o.any λp=>bD (gq l (l.getD i (0,0,0)) (l.getD j (0,0,0)) (l.getD k (0,0,0))).1.2 p.2 with
  |true=>o|false=>o++[(gq l (l.getD i (0,0,0)) (l.getD j (0,0,0)) (l.getD k (0,0,0))).1])
def QC (l:List V3) (i j:Nat):Nat ->Nat ->Pl ->Pl
 |0,_,o=>o|r+1,k,o=>QC l i j r (k+1) (nV l i j k o)
def Hy (l:List V3) (i:Nat):Nat ->Nat ->Pl ->Pl
 |0,_,o=>o|r+1,j,o=>Hy l i r (j+1) (QC l i j j 0 o)
def Fo (l:List V3):Nat ->Nat ->Pl ->Pl
 |0,_,o=>o|r+1,i,o=>Fo l r (i+1) (Hy l i i 0 o)
def du (l:List V3):Pl:=Fo l l.length 0 []
theorem KR (l:List V3) (i j k:Nat) (o:Pl):o.length<=(nV l i j k o).length:=by
 unfold nV;split
 .exact Nat.le_refl _
 .split
  .exact Nat.le_refl _
  .rw [List.length_append];omega
theorem Ez (l:List V3) (i j:Nat):∀(r k:Nat) (o:Pl),o.length<=(QC l i j r k o).length
 |0,_,_=>Nat.le_refl _|r+1,k,o=>Nat.le_trans (KR l i j k o) (Ez l i j r (k+1) _)
theorem EA (l:List V3) (i:Nat):∀(r j:Nat) (o:Pl),o.length<=(Hy l i r j o).length
 |0,_,_=>Nat.le_refl _|r+1,j,o=>Nat.le_trans (Ez l i j j 0 o) (EA l i r (j+1) _)
theorem Nv (l:List V3):∀(r i:Nat) (o:Pl),o.length<=(Fo l r i o).length
 |0,_,_=>Nat.le_refl _|r+1,i,o=>Nat.le_trans (EA l i i 0 o) (Nv l r (i+1) _)
def Nw (ks:List Int):List (AV×AV):=ks.map λk=>(.int .u64 k,.bool true)
theorem lj (ks:List Int):Mq (Nw ks):=λx hx=>by
 obtain⟨k,_,rfl⟩:=List.mem_map.1 hx;exact⟨cN.int,cN.bool⟩
theorem KS {k:Int}:∀{ks:List Int} {i:Nat},(ks.any λx=>bD k x)=false ->dZ prog 246 (.int .u64 k) (Nw ks) i=some none
 |[],i,_=>by unfold dZ;rfl
 |x::ks,i,h=>by
  have h1:bD k x=false:=by cases e:bD k x with|false=>rfl|true=>simp [e]at h
  have h2:(ks.any λx=>bD k x)=false:=by cases e:(ks.any λx=>bD k x)with|false=>rfl|true=>simp [e]at h
  have ih:=KS (i:=Nat.succ i) h2;unfold dZ at ih ⊢;show(match OQ prog 40 246 (.int .u64 k) (.int .u64 x)with|some true=>_|some false=>_|none=>_)=_;rw [show OQ prog 40 246 (.int .u64 k) (.int .u64 x)=some (bD k x)from rfl,h1];exact ih
theorem UQ {k:Int}:∀{ks:List Int} {i:Nat},(ks.any λx=>bD k x)=true ->∃j,dZ prog 246 (.int .u64 k) (Nw ks) i=some (some (j,.bool true))
 |[],i,h=>by cases h
 |x::ks,i,h=>by
  cases e:bD k x with
  |true=>
   have hk:qf (.int .u64 x) (.int .u64 k)=true:=by
    show aF (qb .u64 .u64) (bD x k)=true;rw [bh.2 (bh.1 e).symm];rfl
   refine⟨i,?_⟩;unfold dZ;show(match OQ prog 40 246 (.int .u64 k) (.int .u64 x)with|some true=>Bool.casesOn (motive:=λ_=>Option (Option (Nat×AV))) (qf (.int .u64 x) (.int .u64 k)) none (some (some (i,.bool true)))|some false=>_|none=>_)=_;rw [show OQ prog 40 246 (.int .u64 k) (.int .u64 x)=some (bD k x)from rfl,e];show Bool.casesOn (motive:=λ_=>Option (Option (Nat×AV))) (qf (.int .u64 x) (.int .u64 k)) none (some (some (i,.bool true)))=_;rw [hk]
  |false=>
   have h2:(ks.any λx=>bD k x)=true:=(by simpa [e]using h);obtain⟨j,hj⟩:=UQ (i:=Nat.succ i) h2;refine⟨j,?_⟩;unfold dZ at hj ⊢;show(match OQ prog 40 246 (.int .u64 k) (.int .u64 x)with|some true=>_|some false=>_|none=>_)=_;rw [show OQ prog 40 246 (.int .u64 k) (.int .u64 x)=some (bD k x)from rfl,e];exact hj
theorem UR {x:OR} {v:AV} {h:Heap} {k:VK} (e:x= .val v h) (hk:k v h):Mj x k:=by subst e;exact hk
theorem ad4 {r:Tr AV} {h:Heap} {m k:Operand} {id:Pos} {n:Int} {ks:List Int} (hm:ev m r= .map id) (hk:ev k r= .int .u64 n) (hh:h.t.get id=some (.mp (Nw ks))):
  pY (.lookup 429 m k false) prog r h= .val (.bool (ks.any λx=>bD n x)) h:=by
 have key:fZ 429 m k false prog r h=some (.bool (ks.any λx=>bD n x)):=by
  unfold fZ;rw [hm,hk];show(Bool.casesOn (motive:=λ_=>Option AV) (sf prog 40 246 (.int .u64 n)) none (Option.casesOn (motive:=λ_=>Option AV) (vM h (.map id)) none λl=>match dZ prog 246 (.int .u64 n) l 0 with|some (some q)=>some (pI false q.2 true)|some none=>(lD prog 4).map λz=>pI false (fc z) false|none=>none))=_;rw [show sf prog 40 246 (.int .u64 n)=true from rfl,show vM h (.map id)=some (Nw ks) by unfold vM;simp only [hh]];show(match dZ prog 246 (.int .u64 n) (Nw ks) 0 with|some (some q)=>some (pI false q.2 true)|some none=>(lD prog 4).map λz=>pI false (fc z) false|none=>none)=_;cases e:(ks.any λx=>bD n x)with
  |false=>rw [KS e];rfl|true=>obtain⟨j,hj⟩:=UQ (i:=0) e;rw [hj];rfl
 show Option.casesOn (motive:=λ_=>Heap ->OR) (fZ 429 m k false prog r h) (λ_=> .fail) (λv h=> .val v h) h=_;rw [key]
theorem agE {r:Tr AV} {h:Heap} {m k v:Operand} {id:Pos} {n:Int} {ks:List Int} (hm:ev m r= .map id) (hk:ev k r= .int .u64 n) (hv:ev v r= .bool true) (hh:h.t.get id=some (.mp (Nw ks))) (hn:(ks.any λx=>bD n x)=false):
  pY (.mapUpdate 429 m k v) prog r h= .val (.aS .nil) ⟨h.t.set (.mp (Nw (ks++[n]))) id,h.n⟩:=by
 show fu 429 m k v prog r h=_;unfold fu;rw [hm,hk,hv];show(Bool.casesOn (motive:=λ_=>OR) (sf prog 40 246 (.int .u64 n)) .fail (match h.t.get id with|some (.mp l)=>Option.casesOn (motive:=λ_=>OR) (dZ prog 246 (.int .u64 n) l 0) .fail λf=> .val (.aS .nil) ⟨h.t.set (.mp (LL (.int .u64 n,.bool true) l f)) id,h.n⟩|_=> .fail))=_;rw [show sf prog 40 246 (.int .u64 n)=true from rfl,hh];show Option.casesOn (motive:=λ_=>OR) (dZ prog 246 (.int .u64 n) (Nw ks) 0) .fail (λf=> .val (.aS .nil) ⟨h.t.set (.mp (LL (.int .u64 n,.bool true) (Nw ks) f)) id,h.n⟩)=_;rw [KS hn];show OR.val (.aS .nil) ⟨h.t.set (.mp (Nw ks++[(.int .u64 n,.bool true)])) id,h.n⟩=_;rw [show Nw (ks++[n])=Nw ks++[(.int .u64 n,.bool true)]from List.map_append]
def tPl:List (Cn prog):=[Cn.lift bZ Ko]
def hPl (o:Pl):Heap:=⟨bV [(pathOf 64,.mp (Nw (o.map (·.2)))),(pathOf 65,.gl (bY.l o) false)],pathOf 66⟩
theorem US (l:List V3) (hl:l.length<=4096) (hp:(du l).length<=1000000):PF prog 261 (.cons (bL.list.v l) .nil) (bY.list.v (du l)):=by
 refine PF.of_wp (c:=_) af (by decide) (fn:=f261) rfl rfl rfl (.cons (bL.list.an _) .nil) (call:=aH tPl) (λB0=>az ae tPl B0) ?_;intro B0;have hc:=az (P:=prog) ae tPl B0;conv=>whnf
 refine Cw.loop (ι:=Nat×Pl) (λq=>bl [(0,bL.list.v l),(3,.map (pathOf 64)),(4,.gs (pathOf 65) q.2.length 4),(12,.int .i64 (l.length:Int)),(13,.int .i64 (q.1:Int))]) (λ_=>[]) (λq=>hPl q.2)
  (λq=>q.1<=l.length/\Fo l (l.length - q.1) q.1 q.2=du l) (λq=>l.length - q.1) ?_ (0,[]) ⟨Nat.zero_le _,rfl⟩ ?_
 .intro q hq;obtain⟨i,o⟩:=q;obtain⟨g1,g2⟩:=hq;have g1:i<=l.length:=g1;have g2:Fo l (l.length - i) i o=du l:=g2;refine aD af rfl rfl hc _ (aC ?_);refine ay (λh1=>?_) (λh1=>?_)
  .have hi:i<l.length:=Int.ofNat_lt.1 (aO.1 h1);have cE:aj .i64 (Int.add (i:Int) 1)=((i+1:Nat):Int):=by
    show aj .i64 ((i:Int)+1)=_;rw [aA (by omega) (by omega)];omega
   rw [show l.length - i=(l.length - (i+1))+1 by omega]at g2;have g2:Fo l (l.length - (i+1)) (i+1) (Hy l i i 0 o)=du l:=g2;conv=>whnf
   refine Cw.loop (ι:=Nat×Pl) (λq=>bl [(0,bL.list.v l),(3,.map (pathOf 64)),(4,.gs (pathOf 65) q.2.length 4),(5,.int .i64 (i:Int)),(12,.int .i64 (l.length:Int)),(13,.int .i64 (i:Int)),(16,.int .i64 (i:Int)),(17,.int .i64 (q.1:Int))]) (λ_=>[]) (λq=>hPl q.2)
    (λq=>q.1<=i/\Fo l (l.length - (i+1)) (i+1) (Hy l i (i - q.1) q.1 q.2)=du l) (λq=>i - q.1) ?_ (0,o) ⟨Nat.zero_le _,g2⟩ ?_
   .intro q hq;obtain⟨j,p⟩:=q;obtain⟨k1,k2⟩:=hq;have k1:j<=i:=k1;have k2:Fo l (l.length - (i+1)) (i+1) (Hy l i (i - j) j p)=du l:=k2;refine aD af rfl rfl hc _ (aC ?_);refine ay (λh2=>?_) (λh2=>?_)
    .have hj:j<i:=Int.ofNat_lt.1 (aO.1 h2);have ajp:aj .i64 (Int.add (j:Int) 1)=((j+1:Nat):Int):=by
      show aj .i64 ((j:Int)+1)=_;rw [aA (by omega) (by omega)];omega
     rw [show i - j=(i - (j+1))+1 by omega]at k2;have k2:Fo l (l.length - (i+1)) (i+1) (Hy l i (i - (j+1)) (j+1) (QC l i j j 0 p))=du l:=k2;conv=>whnf
     refine Cw.loop (ι:=Nat×Pl) (λq=>bl [(0,bL.list.v l),(3,.map (pathOf 64)),(4,.gs (pathOf 65) q.2.length 4),(5,.int .i64 (i:Int)),(6,.int .i64 (j:Int)),(12,.int .i64 (l.length:Int)),(13,.int .i64 (i:Int)),(16,.int .i64 (i:Int)),(17,.int .i64 (j:Int)),(20,.int .i64 (j:Int)),(21,.int .i64 (q.1:Int))]) (λ_=>[]) (λq=>hPl q.2)
      (λq=>q.1<=j/\Fo l (l.length - (i+1)) (i+1) (Hy l i (i - (j+1)) (j+1) (QC l i j (j - q.1) q.1 q.2))=du l) (λq=>j - q.1) ?_ (0,p) ⟨Nat.zero_le _,k2⟩ ?_
     .intro q hq;obtain⟨k,u⟩:=q;obtain⟨m1,m2⟩:=hq;have m1:k<=j:=m1;have m2:Fo l (l.length - (i+1)) (i+1) (Hy l i (i - (j+1)) (j+1) (QC l i j (j - k) k u))=du l:=m2;refine aD af rfl rfl hc _ (aC ?_);refine ay (λh3=>?_) (λh3=>?_)
      .have hk:k<j:=Int.ofNat_lt.1 (aO.1 h3);have Zy:aj .i64 (Int.add (k:Int) 1)=((k+1:Nat):Int):=by
        show aj .i64 ((k:Int)+1)=_;rw [aA (by omega) (by omega)];omega
       rw [show j - k=(j - (k+1))+1 by omega]at m2;have m2:Fo l (l.length - (i+1)) (i+1) (Hy l i (i - (j+1)) (j+1) (QC l i j (j - (k+1)) (k+1) (nV l i j k u)))=du l:=m2;conv=>whnf
       refine cn (l:=tPl) (by decide) 0 (c:=Cn.lift bZ Ko) rfl (l,i,j,k) ⟨by show l.length<=4294967296;omega,by show i<l.length;omega,by show j<l.length;omega,by show k<l.length;omega⟩ (hk:=?_);unfold nV at m2;conv=>whnf
       refine ay (λh4=>?_) (λh4=>?_)
       .have h4:(gq l (l.getD i (0,0,0)) (l.getD j (0,0,0)) (l.getD k (0,0,0))).2=true:=h4;rw [h4]at m2;refine sR ?_;refine UR (ad4 (id:=pathOf 64) (n:=(gq l (l.getD i (0,0,0)) (l.getD j (0,0,0)) (l.getD k (0,0,0))).1.2) (ks:=u.map (·.2)) rfl rfl rfl) (sR ?_);have XK:(u.any λp=>bD (gq l (l.getD i (0,0,0)) (l.getD j (0,0,0)) (l.getD k (0,0,0))).1.2 p.2)=(u.map (·.2)).any λx=>bD (gq l (l.getD i (0,0,0)) (l.getD j (0,0,0)) (l.getD k (0,0,0))).1.2 x:=(by rw [List.any_map];rfl);refine ay (λh5=>?_) (λh5=>?_)
        .have h5:((u.map (·.2)).any λx=>bD (gq l (l.getD i (0,0,0)) (l.getD j (0,0,0)) (l.getD k (0,0,0))).1.2 x)=false:=kV.1 h5;rw [XK,h5]at m2;refine sR ?_;refine UR (agE (id:=pathOf 64) (n:=(gq l (l.getD i (0,0,0)) (l.getD j (0,0,0)) (l.getD k (0,0,0))).1.2) (ks:=u.map (·.2)) rfl rfl rfl rfl h5) (sR ?_);refine⟨_,rfl,aC ?_⟩;refine⟨⟨?_,rfl,(bY.ep u).symm⟩,?_⟩
         .have hu:u.length<=1000000:=by
           have:=Nat.le_trans (Nat.le_trans (Nat.le_trans (Nat.le_trans (by rw [List.length_append];omega) (Ez l i j (j - (k+1)) (k+1) (u++[(gq l (l.getD i (0,0,0)) (l.getD j (0,0,0)) (l.getD k (0,0,0))).1]))) (EA l i (i - (j+1)) (j+1) _)) (Nv l (l.length - (i+1)) (i+1) _)) (Nat.le_of_eq (congrArg List.length m2)) (n:=u.length);omega
          show(u.length+1)*(32+1)<=1099511627776;omega
         refine sR ?_;refine⟨(k+1,u++[(gq l (l.getD i (0,0,0)) (l.getD j (0,0,0)) (l.getD k (0,0,0))).1]),⟨hk,m2⟩,by show j - (k+1)<j - k;omega,?_⟩;refine Sub.of [(pathOf 64,some (pathOf 64)),(pathOf 65,some (pathOf 68))] [] rfl rfl rfl ?_ ?_
         .repeat' first|exact aB|exact rfl|refine And.intro ?_ ?_
          all_goals first|exact Zy|(rw [List.length_append];exact rfl)|(simp;done)
         .repeat' first|exact aB|exact rfl|refine And.intro ?_ ?_
          all_goals first|exact bY.bm _|exact lj _|exact bY.ot u [(gq l (l.getD i (0,0,0)) (l.getD j (0,0,0)) (l.getD k (0,0,0))).1]|(rw [List.map_append];exact rfl)
        .have h5:((u.map (·.2)).any λx=>bD (gq l (l.getD i (0,0,0)) (l.getD j (0,0,0)) (l.getD k (0,0,0))).1.2 x)=true:=rM.1 h5;rw [XK,h5]at m2;refine sR ?_;refine⟨(k+1,u),⟨hk,m2⟩,by show j - (k+1)<j - k;omega,?_⟩;refine Sub.of (gU [64,65]) [] rfl rfl rfl ?_ ?_
         .repeat' first|exact aB|exact rfl|refine And.intro ?_ ?_
          all_goals first|exact Zy|(rw [List.length_append];exact rfl)|(simp;done)
         .repeat' first|exact aB|exact rfl|refine And.intro ?_ ?_
          all_goals first|exact bY.bm _|exact lj _|exact bY.ot u [(gq l (l.getD i (0,0,0)) (l.getD j (0,0,0)) (l.getD k (0,0,0))).1]|(rw [List.map_append];exact rfl)
       .have h4:(gq l (l.getD i (0,0,0)) (l.getD j (0,0,0)) (l.getD k (0,0,0))).2=false:=h4;rw [h4]at m2;refine sR ?_;refine⟨(k+1,u),⟨hk,m2⟩,by show j - (k+1)<j - k;omega,?_⟩;refine Sub.of (gU [64,65]) [] rfl rfl rfl ?_ ?_
        .exact Ap
        .repeat' first|exact aB|exact rfl|refine And.intro ?_ ?_
         all_goals first|exact bY.bm _|exact lj _
      .have hk:k=j:=(by have:=aX.1 h3;have this:((j:Nat):Int)<=(k:Int):=this;omega);rw [hk,Nat.sub_self]at m2;have m2:Fo l (l.length - (i+1)) (i+1) (Hy l i (i - (j+1)) (j+1) u)=du l:=m2;conv=>whnf
       refine⟨(j+1,u),⟨hj,m2⟩,by show i - (j+1)<i - j;omega,?_⟩;refine Sub.of (gU [64,65]) [] rfl rfl rfl ?_ ?_
       .exact Ap
       .repeat' first|exact aB|exact rfl|refine And.intro ?_ ?_
        all_goals first|exact bY.bm _|exact lj _
     .refine Sub.of (gU [64,65]) [] rfl rfl rfl ?_ ?_
      .exact oR
      .repeat' first|exact aB|exact rfl|refine And.intro ?_ ?_
       all_goals first|exact bY.bm _|exact lj _
    .have hj:j=i:=(by have:=aX.1 h2;have this:((i:Nat):Int)<=(j:Int):=this;omega);rw [hj,Nat.sub_self]at k2;have k2:Fo l (l.length - (i+1)) (i+1) p=du l:=k2;conv=>whnf
     refine⟨(i+1,p),⟨hi,k2⟩,by show l.length - (i+1)<l.length - i;omega,?_⟩;refine Sub.of (gU [64,65]) [] rfl rfl rfl ?_ ?_
     .exact Ap
     .repeat' first|exact aB|exact rfl|refine And.intro ?_ ?_
      all_goals first|exact bY.bm _|exact lj _
   .refine Sub.of (gU [64,65]) [] rfl rfl rfl ?_ ?_
    .exact oR
    .repeat' first|exact aB|exact rfl|refine And.intro ?_ ?_
     all_goals first|exact bY.bm _|exact lj _
  .have hi:i=l.length:=(by have:=aX.1 h1;have this:((l.length:Nat):Int)<=(i:Int):=this;omega);rw [hi,Nat.sub_self]at g2;have g2:o=du l:=g2;conv=>whnf
   exact bY.gG rfl g2 (by rw [<-g2])
 .refine Sub.of [(pathOf 64,some (pathOf 64)),(pathOf 65,none)] [] rfl rfl rfl ?_ ?_
  .exact oR
  .repeat' first|exact aB|exact rfl|refine And.intro ?_ ?_
   all_goals exact lj _
def Hz:Cn prog:= .mU bL.list bY.list 261 false (λl=>l.length<=4096/\(du l).length<=1000000) du (λe=>by cases e) (λl h=>US l h.1 h.2) (aw rfl rfl)
end
section
attribute [local irreducible] Cw ak bq PF Sub
attribute [local instance] fp
def pW (a b:Int):Int:=match cQ a b with|true=> -1|false=>(match cQ b a with|true=>1|false=>0)
theorem agF (x:Int):dQ 178 (.cons ((au .i64).v x) .nil) (bG.v false):=by
 refine PF.of_wp (c:=_) af (by decide) (fn:=f178) rfl rfl rfl (.cons .int .nil) (call:=aH []) (λB0=>az ae [] B0) ?_;intro B0;conv=>whnf
 exact ak.same (congrArg AV.bool (by rw [ga];simp [aY])) cN.bool
def UT:Cn prog:= .mU (au .i64) bG 178 true (λ_=>True) (λ_=>false) fF (λx _=>agF x) (aw rfl rfl)
def Zz:List (Cn prog):=[UT]
theorem agG (x y:Int):dQ 182 (.cons ((au .i64).v x) (.cons ((au .i64).v y) .nil)) ((au .i64).v (pW x y)):=by
 refine PF.of_wp (c:=_) af (by decide) (fn:=f182) rfl rfl rfl (.cons .int (.cons .int .nil)) (call:=aH Zz) (λB0=>az ae Zz B0) ?_;intro B0;conv=>whnf
 refine cn (l:=Zz) (by decide) 0 (c:=UT) rfl x trivial (hk:=?_);conv=>whnf
 refine cn (l:=Zz) (by decide) 0 (c:=UT) rfl y trivial (hk:=?_);conv=>whnf
 unfold pW;refine ay (λh=>?_) (λh=>?_)
 .conv=>whnf
  rw [h];exact ak.same rfl cN.int
 .conv=>whnf
  refine ay (λh1=>?_) (λh1=>?_)
  .conv=>whnf
   rw [h,h1];exact ak.same rfl cN.int
  .conv=>whnf
   rw [h,h1];exact ak.same rfl cN.int
def abB:Cn prog:= .kP (au .i64) (au .i64) (au .i64) 182 true (λ_ _=>True) pW (de _) (λx y _=>agG x y) (aw rfl rfl)
def ua:List Int ->List Int ->Int
 |[],[]=>0|[],_::_=> -1|_::_,[]=>1|x::s,y::t=>match bD (pW x y) 0 with|true=>ua s t|false=>pW x y
def Nx:List (Cn prog):=[abB]
theorem ad5 (a b:List Int) (ha:a.length<=4294967296) (hb:b.length<=4294967296):dQ 265 (.cons ((au .i64).list.v a) (.cons ((au .i64).list.v b) .nil)) ((au .i64).v (ua a b)):=by
 refine PF.of_wp (c:=_) af (by decide) (fn:=f265) rfl rfl rfl (.cons ((au .i64).list.an _) (.cons ((au .i64).list.an _) .nil)) (call:=aH Nx) (λB0=>az ae Nx B0) ?_;intro B0;have hc:=az (P:=prog) ae Nx B0;conv=>whnf
 refine Cw.loop (ι:=Nat) (λq=>bl [(0,(au .i64).list.v a),(1,(au .i64).list.v b),(9,(au .i64).list.v a),(10,.int .i64 (a.length:Int)),(11,.int .i64 (q:Int))]) (λ_=>[]) (λq=>⟨bV [],pathOf 64⟩)
  (λq=>q<=a.length/\q<=b.length/\ua (a.drop q) (b.drop q)=ua a b) (λq=>a.length - q) ?_ 0 ⟨Nat.zero_le _,Nat.zero_le _,rfl⟩ ?_
 .intro q hq;obtain⟨g1,g2,g3⟩:=hq;refine aD af rfl rfl hc _ (aC ?_);refine ay (λh1=>?_) (λh1=>?_)
  .have hq:q<a.length:=Int.ofNat_lt.1 (aO.1 h1);have cE:aj .i64 (Int.add (q:Int) 1)=((q+1:Nat):Int):=by
    show aj .i64 ((q:Int)+1)=_;rw [aA (by omega) (by omega)];omega
   rw [List.drop_eq_getElem_cons hq]at g3;conv=>whnf
   refine aL.go q rfl hq (aC ?_);refine⟨_,(au .i64).rd rfl hq,aC ?_⟩;refine ay (λh2=>?_) (λh2=>?_)
   .have h2:gD ((b.length:Nat):Int) ((q:Nat):Int)=true:=h2;have hle:b.length<=q:=Int.ofNat_le.1 (cG.1 h2);rw [List.drop_of_length_le hle]at g3;rw [<-g3];conv=>whnf
    exact ak.same rfl cN.int
   .have h2:gD ((b.length:Nat):Int) ((q:Nat):Int)=false:=h2;have cR:q<b.length:=Int.ofNat_lt.1 (kG.1 h2);rw [List.drop_eq_getElem_cons cR]at g3;have g3:(match bD (pW a[q] b[q]) 0 with|true=>ua (a.drop (q+1)) (b.drop (q+1))|false=>pW a[q] b[q])=ua a b:=g3;conv=>whnf
    refine aL.go q rfl cR (aC ?_);refine⟨_,(au .i64).rd rfl cR,aC ?_⟩;refine cn (l:=Nx) (by decide) 0 (c:=abB) rfl (a[q],b[q]) trivial (hk:=?_);refine sR ?_;refine ay (λh3=>?_) (λh3=>?_)
    .have h3:bD (pW a[q] b[q]) 0=false:=kV.1 h3;rw [h3]at g3;rw [<-g3];conv=>whnf
     exact ak.same rfl cN.int
    .have h3:bD (pW a[q] b[q]) 0=true:=rM.1 h3;rw [h3]at g3;conv=>whnf
     refine⟨q+1,⟨hq,cR,g3⟩,by omega,?_⟩;refine Sub.of [] [] rfl rfl rfl ?_ ?_
     .exact Ap
     .exact aB
  .have hq:q=a.length:=(by have:=aX.1 h1;have this:((a.length:Nat):Int)<=(q:Int):=this;omega);rw [hq,List.drop_length]at g3;conv=>whnf
   refine ay (λh2=>?_) (λh2=>?_)
   .have h2:cQ ((a.length:Nat):Int) ((b.length:Nat):Int)=true:=h2;have cR:a.length<b.length:=Int.ofNat_lt.1 (aO.1 h2);rw [List.drop_eq_getElem_cons cR]at g3;rw [<-g3];conv=>whnf
    exact ak.same rfl cN.int
   .have h2:cQ ((a.length:Nat):Int) ((b.length:Nat):Int)=false:=h2;have hle:b.length<=a.length:=Int.ofNat_le.1 (aX.1 h2);rw [List.drop_of_length_le hle]at g3;rw [<-g3];conv=>whnf
    exact ak.same rfl cN.int
 .refine Sub.of [] [] rfl rfl rfl ?_ ?_
  .exact oR
  .exact aB
def EB:Cn prog:= .kP (au .i64).list (au .i64).list (au .i64) 265 true (λa b=>a.length<=4294967296/\b.length<=4294967296) ua (de _) (λa b h=>ad5 a b h.1 h.2) (aw rfl rfl)
abbrev Fc:=(V3×Int)×List Int
def rU:bW Fc:=bY.pair (au .i64).list
def KT (a b:Fc):Int:=ua a.2 b.2
def UU:List (Cn prog):=[EB]
theorem ad6 (a b:Fc) (ha:a.2.length<=4294967296) (hb:b.2.length<=4294967296):dQ 264 (.cons (rU.v a) (.cons (rU.v b) .nil)) ((au .i64).v (KT a b)):=by
 obtain⟨⟨⟨a0,a1,a2⟩,a3⟩,a4⟩:=a;obtain⟨⟨⟨b0,b1,b2⟩,b3⟩,b4⟩:=b;refine PF.of_wp (c:=_) af (by decide) (fn:=f264) rfl rfl rfl (.cons (rU.an _) (.cons (rU.an _) .nil)) (call:=aH UU) (λB0=>az ae UU B0) ?_;intro B0;conv=>whnf
 refine cn (l:=UU) (by decide) 0 (c:=EB) rfl (a4,b4) ⟨ha,hb⟩ (hk:=?_);refine sR ?_;exact ak.same rfl cN.int
def ad7:Cn prog:= .kP rU rU (au .i64) 264 true (λa b=>a.2.length<=4294967296/\b.2.length<=4294967296) KT (de _) (λa b h=>ad6 a b h.1 h.2) (aw rfl rfl)
end
section
attribute [local irreducible] Cw ak bq PF Sub
abbrev tbF:aT:=pR bZ 1
attribute [local instance] tbF
def gF (xs:List Fc) (i:Nat):Fc:=xs.getD i (((0,0,0),0),[])
def swF (xs:List Fc) (j:Nat):List Fc:=(xs.set (j+1) (gF xs j)).set j (gF xs (j+1))
def jr:Nat ->List Fc ->List Fc
 |0,xs=>xs|j+1,xs=>match cQ (KT (gF xs (j+1)) (gF xs j)) 0 with
  |true=>jr j (swF xs j)|false=>xs
def uc:Nat ->Nat ->List Fc ->List Fc
 |0,_,xs=>xs|f+1,i,xs=>uc f (i+1) (jr i xs)
def cF (xs:List Fc):List Fc:=uc (xs.length - 1) 1 xs
def okF (xs:List Fc):Prop:=∀x∈xs,x.2.length<=4294967296
theorem ZA {xs:List Fc} (h:okF xs) {i:Nat} {x:Fc} (hx:x∈xs):okF (xs.set i x):=λy hy=>by
 rcases List.mem_or_eq_of_mem_set hy with e|e
 .exact h y e
 .exact e ▸ h x hx
theorem ZB (xs:List Fc) (j:Nat):(swF xs j).length=xs.length:=by simp [swF]
theorem zS:∀(j:Nat) (xs:List Fc),(jr j xs).length=xs.length
 |0,xs=>rfl|j+1,xs=>by
  unfold jr;split
  .rw [zS j,ZB]
  .rfl
theorem zT:∀(f i:Nat) (xs:List Fc),(uc f i xs).length=xs.length
 |0,_,xs=>rfl|f+1,i,xs=>(zT f (i+1) (jr i xs)).trans (zS i xs)
theorem KU (xs:List Fc):(cF xs).length=xs.length:=zT _ _ _
def Ny:Cn prog:=Cn.lift tbF ad7
def Co:List (Cn prog):=[Ny]
def ZC (xs:List Fc):List (Pos×AO):=[(pathOf 64,.gl (rU.l xs) false)]
def sk (xs:List Fc):Heap:=⟨bV (ZC xs),pathOf 65⟩
def KV (xs:List Fc):AV:= .cons (.gs (pathOf 64) xs.length 5) (.cons (.int .i64 0) (.cons (.int .i64 (xs.length:Int)) (.cons (.func (.func 264) .nil .nil) .nil)))
def InW [aT] (f:FuncId) (fn:Func) (l v:AV) (h0:Heap) (H:List (Pos×AO)) (N:Pos) (B0:Nat) (call:eL ->AV ->Heap ->CR):Prop:=
 Cw prog B0 ⟨prog,f,fn.ntmps,none,call,0⟩ (vK fn) (fnR fn l) [] h0 (QK (fK prog fn v H N) (fK prog fn v H N) (λ_ _ _ _=>False))
theorem UW (xs:List Fc) (hn:xs.length<=4096) (gy:okF xs) {B0:Nat}:InW 355 f355 (KV xs) (.aS .nil) (sk xs) (ZC (cF xs)) (pathOf 65) B0 (aH Co):=by
 refine aD af rfl rfl (az ae Co B0) _ (aC ?_);refine Cw.loop (ι:=List Fc×Nat) (λq=>bl [(0,.gs (pathOf 64) xs.length 5),(1,.int .i64 0),(2,.int .i64 (xs.length:Int)),(3,.func (.func 264) .nil .nil),(8,.int .i64 (q.2:Int))]) (λ_=>[]) (λq=>⟨bV [(pathOf 64,.gl (rU.l q.1) false)],pathOf 65⟩)
  (λq=>q.1.length=xs.length/\1<=q.2/\q.2<=xs.length+1/\uc (xs.length - q.2) q.2 q.1=cF xs/\okF q.1) (λq=>xs.length+1 - q.2) ?_ (xs,1) ⟨rfl,Nat.le_refl _,by omega,rfl,gy⟩ ?_
 .intro q hq;obtain⟨ys,i⟩:=q;obtain⟨h1,h2,h3,h4,h9⟩:=hq;refine aD af rfl rfl (az ae Co B0) _ (aC ?_);refine ay (λh5=>?_) (λh5=>?_)
  .have h5:i<xs.length:=Int.ofNat_lt.1 (aO.1 h5);have cE:aj .i64 (Int.add (i:Int) 1)=((i+1:Nat):Int):=by
    show aj .i64 ((i:Int)+1)=_;rw [aA (by omega) (by omega)];omega
   have agH:∀zs:List Fc,jr i ys=zs ->uc (xs.length - (i+1)) (i+1) zs=cF xs:=λzs hz=>by
    have h4:uc (xs.length - i) i ys=cF xs:=h4;rw [show xs.length - i=(xs.length - (i+1))+1 by omega]at h4;rw [<-hz];exact h4
   have h1:ys.length=xs.length:=h1;have h2:1<=i:=h2;conv=>whnf
   refine Cw.loop (ι:=List Fc×Nat) (λq=>bl [(0,.gs (pathOf 64) xs.length 5),(1,.int .i64 0),(2,.int .i64 (xs.length:Int)),(3,.func (.func 264) .nil .nil),(8,.int .i64 (i:Int)),(9,.int .i64 (q.2:Int))]) (λ_=>[]) (λq=>⟨bV [(pathOf 64,.gl (rU.l q.1) false)],pathOf 65⟩)
    (λq=>q.1.length=xs.length/\q.2<=i/\jr q.2 q.1=jr i ys/\okF q.1) (λq=>q.2) ?_ (ys,i) ⟨h1,Nat.le_refl _,rfl,h9⟩ ?_
   .intro q hq;obtain⟨zs,j⟩:=q;obtain⟨g1,g2,g3,g9⟩:=hq;have g9:okF zs:=g9;have g1:zs.length=xs.length:=g1;have g2:j<=i:=g2;have g3:jr j zs=jr i ys:=g3;have gz:∀k (hk:k<zs.length),gF zs k=zs[k]:=λk hk=>by
     unfold gF;rw [List.getD_eq_getElem?_getD,List.getElem?_eq_getElem hk];rfl
    cases j with
    |zero=>
     refine aD af rfl rfl (az ae Co B0) _ (aC ?_);refine⟨(zs,i+1),⟨g1,Nat.le_add_left _ _,by show i+1<=_;omega,agH zs g3.symm,g9⟩,by show xs.length+1 - (i+1)<xs.length+1 - i;omega,?_⟩;refine Sub.of (gU [64]) [] rfl rfl rfl ?_ ?_
     .repeat' first|exact aB|exact rfl|refine And.intro ?_ ?_
      all_goals first|exact cE|exact rU.bm _
     .repeat' first|exact aB|exact rfl|refine And.intro ?_ ?_
      all_goals first|exact cE|exact rU.bm _
    |succ j=>
     have DQ:aj .i64 (Int.sub ((j+1:Nat):Int) 1)=(j:Int):=by
      show aj .i64 (((j+1:Nat):Int) - 1)=_;rw [aA (by omega) (by omega)];omega
     refine aD af rfl rfl (az ae Co B0) _ (aC ?_);refine aL.go (j+1) rfl (by omega) (aC ?_);refine⟨_,rU.rd rfl (i:=j+1) (by omega),aC ?_⟩;refine aL.go j DQ (by omega) (aC ?_);refine⟨_,rU.rd rfl (i:=j) (by omega),aC ?_⟩;refine cn (l:=Co) (by decide) 0 (c:=Ny) rfl (zs[j+1],zs[j]) ⟨g9 _ (List.getElem_mem _),g9 _ (List.getElem_mem _)⟩ (hk:=?_);conv=>whnf
     refine ay (λh7=>?_) (λh7=>?_)
     .have h7:cQ (KT zs[j+1] zs[j]) 0=true:=h7;conv=>whnf
      refine aL.go j DQ (by omega) (aC ?_);refine⟨_,rU.rd rfl (i:=j) (by omega),aC ?_⟩;refine aL.go (j+1) rfl (by omega) (aC ?_);refine⟨_,rU.rd rfl (i:=j+1) (by omega),aC ?_⟩;refine aL.go (j+1) rfl (by omega) (aC ?_);refine rU.st (xs:=zs) (i:=j+1) zs[j] (by omega) (aC ?_);refine aL.go j DQ (by omega) (aC ?_);refine rU.st (xs:=zs.set (j+1) zs[j]) (i:=j) zs[j+1] (by rw [List.length_set];omega) (aC ?_);have hz:jr (j+1) zs=jr j ((zs.set (j+1) zs[j]).set j zs[j+1]):=by
       show(match cQ (KT (gF zs (j+1)) (gF zs j)) 0 with|true=>jr j (swF zs j)|false=>zs)=_;unfold swF;rw [gz (j+1) (by omega),gz j (by omega),h7]
      refine⟨((zs.set (j+1) zs[j]).set j zs[j+1],j),⟨by show List.length _=_;rw [List.length_set,List.length_set];exact g1,by show j<=i;omega,hz.symm.trans g3,λy hy=>by
       rcases List.mem_or_eq_of_mem_set hy with e|e
       .exact ZA g9 (List.getElem_mem _) y e
       .exact e ▸ g9 _ (List.getElem_mem _)⟩,Nat.lt_succ_self _,?_⟩
      refine Sub.of (gU [64]) [] rfl rfl rfl ?_ ?_
      .repeat' first|exact aB|exact rfl|refine And.intro ?_ ?_
       all_goals first|exact DQ|exact rU.bm _
      .repeat' first|exact aB|exact rfl|refine And.intro ?_ ?_
       all_goals first|exact DQ|exact rU.bm _
     .have h7:cQ (KT zs[j+1] zs[j]) 0=false:=h7;have hz:jr (j+1) zs=zs:=by
       show(match cQ (KT (gF zs (j+1)) (gF zs j)) 0 with|true=>jr j (swF zs j)|false=>zs)=zs;rw [gz (j+1) (by omega),gz j (by omega),h7]
      conv=>whnf
      refine⟨(zs,i+1),⟨g1,Nat.le_add_left _ _,by show i+1<=_;omega,agH zs (g3.symm.trans hz),g9⟩,by show xs.length+1 - (i+1)<xs.length+1 - i;omega,?_⟩;refine Sub.of (gU [64]) [] rfl rfl rfl ?_ ?_
      .repeat' first|exact aB|exact rfl|refine And.intro ?_ ?_
       all_goals first|exact cE|exact rU.bm _
      .repeat' first|exact aB|exact rfl|refine And.intro ?_ ?_
       all_goals first|exact cE|exact rU.bm _
   .refine Sub.of (gU [64]) [] rfl rfl rfl ?_ ?_
    .repeat' first|exact aB|exact rfl|refine And.intro ?_ ?_
     all_goals first|exact cE|exact rU.bm _
    .repeat' first|exact aB|exact rfl|refine And.intro ?_ ?_
     all_goals first|exact cE|exact rU.bm _
  .have h5:¬i<xs.length:=λh=>by rw [show cQ ((ys,i).2:Int) (xs.length:Int)=true from aO.2 (Int.ofNat_lt.2 h)]at h5;cases h5
   have h4:uc (xs.length - i) i ys=cF xs:=h4;rw [show xs.length - i=0 by omega]at h4;conv=>whnf
   refine⟨rfl,rfl,?_,aB⟩;rw [<-h4];rfl
 .refine Sub.of (gU [64]) [] rfl rfl rfl ?_ ?_
  .exact oR
  .repeat' first|exact aB|exact rfl|refine And.intro ?_ ?_
   all_goals exact rU.bm _
theorem ad8 {T:aT} (hT:T=bZ\/T=tbF) (xs:List Fc) (hn:xs.length<=4096) (gy:okF xs) {B0:Nat} {call:eL ->AV ->Heap ->CR} (aZ:@aU T prog B0 call):
  @aU T prog B0 (jS 355 (KV xs) (sk xs) (.aS .nil) (sk (cF xs)) call):=by
 rcases hT with rfl|rfl
 .exact jT ae 1 aZ (fn:=f355) rfl rfl rfl rfl (Nat.le_refl _) (UW xs hn gy)
 .exact jT ae 1 aZ (fn:=f355) rfl rfl rfl rfl (Nat.le_refl _) (UW xs hn gy)
end
section
attribute [local irreducible] Cw ak bq PF Sub
section
attribute [local instance] fp
def rf (n:Nat):AV:= .cons (.int .u64 (n:Int)) .nil
def xC:List (AV×AV):=[(rf 0,.int .i64 0),(rf 1,.int .i64 1),(rf 2,.int .i64 2),(rf 3,.int .i64 2),(rf 4,.int .i64 3),(rf 5,.int .i64 3),(rf 6,.int .i64 3),(rf 7,.int .i64 3),(rf 8,.int .i64 4),(rf 9,.int .i64 4),(rf 10,.int .i64 4)]
theorem ad9:cS prog (λ_ _ _=>none) 180 xC=true:=by decide+kernel
theorem aea (B0:Nat):xw prog B0 (λ_ _ _=>none):=λt xs h v h' e=>by cases e
def ZD (n:Int):Int:=if n=0 then 0 else if n=1 then 1 else if n<=3 then 2 else if n<=7 then 3 else 4
theorem agI (n:Int) (h:0<=n/\n<=10):dQ 180 (.cons ((au .u64).v n) .nil) ((au .i64).v (ZD n)):=by
 have key:=cz af ae aea (by decide) ad9;have hn:n=0\/n=1\/n=2\/n=3\/n=4\/n=5\/n=6\/n=7\/n=8\/n=9\/n=10:=by omega
 rcases hn with rfl|rfl|rfl|rfl|rfl|rfl|rfl|rfl|rfl|rfl|rfl
 .exact(key xC[0] (List.getElem_mem (by decide))).1
 .exact(key xC[1] (List.getElem_mem (by decide))).1
 .exact(key xC[2] (List.getElem_mem (by decide))).1
 .exact(key xC[3] (List.getElem_mem (by decide))).1
 .exact(key xC[4] (List.getElem_mem (by decide))).1
 .exact(key xC[5] (List.getElem_mem (by decide))).1
 .exact(key xC[6] (List.getElem_mem (by decide))).1
 .exact(key xC[7] (List.getElem_mem (by decide))).1
 .exact(key xC[8] (List.getElem_mem (by decide))).1
 .exact(key xC[9] (List.getElem_mem (by decide))).1
 .exact(key xC[10] (List.getElem_mem (by decide))).1
def abC:Cn prog:= .mU (au .u64) (au .i64) 180 true (λn=>0<=n/\n<=10) ZD (de _) (λn h=>agI n h) (aw rfl rfl)
end
attribute [local instance] tbF
def ED (xs:List Fc):AV:= .cons (.gs (pathOf 64) xs.length 5) (.cons (.int .i64 0) (.cons (.int .i64 (xs.length:Int)) (.cons (.int .i64 (ZD (xs.length:Int))) (.cons (.func (.func 264) .nil .nil) .nil))))
theorem UX (xs:List Fc) (hn:xs.length<=10) (gy:okF xs) {B0:Nat}:InW 316 f316 (ED xs) (.aS .nil) (sk xs) (ZC (cF xs)) (pathOf 65) B0 (jS 355 (KV xs) (sk xs) (.aS .nil) (sk (cF xs)) (aH (P:=prog) [])):=by
 have hc:=ad8 (.inr rfl) xs (by omega) gy (az (P:=prog) ae [] B0);refine aD af rfl rfl hc _ (aC ?_);refine Cw.bH af rfl rfl hc 1 (aC ?_);refine ay (λh=>?_) (λh=>?_)
 .conv=>whnf
  refine pn (hk:=?_);conv=>whnf
  exact⟨rfl,rfl,rfl,aB⟩
 .exfalso;have h:=aO.1 (show cQ 12 (aj .i64 (Int.sub (xs.length:Int) 0))=true by
   cases e:cQ 12 (aj .i64 (Int.sub (xs.length:Int) 0))with
   |true=>rfl|false=>
    have h:gD (aj .i64 (Int.sub (xs.length:Int) 0)) 12=false:=h;unfold gD at h;rw [e]at h;cases h)
  rw [show Int.sub (xs.length:Int) 0=(xs.length:Int)from Int.sub_zero _,aA (by omega) (by omega)]at h;omega
theorem aeb {T:aT} (hT:T=bZ\/T=tbF) (xs:List Fc) (hn:xs.length<=10) (gy:okF xs) {B0:Nat} {call:eL ->AV ->Heap ->CR} (aZ:@aU T prog B0 call):
  @aU T prog B0 (jS 316 (ED xs) (sk xs) (.aS .nil) (sk (cF xs)) call):=by
 rcases hT with rfl|rfl
 .exact jT ae 1 aZ (fn:=f316) rfl rfl rfl rfl (Nat.le_refl _) (UX xs hn gy)
 .exact jT ae 1 aZ (fn:=f316) rfl rfl rfl rfl (Nat.le_refl _) (UX xs hn gy)
def EE (xs:List Fc):AV:= .cons (.gs (pathOf 64) xs.length 5) (.cons (.func (.func 264) .nil .nil) .nil)
def aec:List (Cn prog):=[Cn.lift tbF abC]
theorem Nz (xs:List Fc) (hn:xs.length<=10) (gy:okF xs) {B0:Nat}:InW 263 f263 (EE xs) (.aS .nil) (sk xs) (ZC (cF xs)) (pathOf 65) B0 (jS 316 (ED xs) (sk xs) (.aS .nil) (sk (cF xs)) (aH aec)):=by
 have hc:=aeb (.inr rfl) xs hn gy (az (P:=prog) ae aec B0);refine aD af rfl rfl hc _ (aC ?_);have hw:aj .u64 (xs.length:Int)=(xs.length:Int):=aW (by omega) (by omega);refine gP (by decide) (cn (l:=aec) (by decide) 0 (c:=Cn.lift tbF abC) rfl (aj .u64 (xs.length:Int)) ⟨by rw [hw];omega,by rw [hw];omega⟩ (hk:=?_));conv=>whnf
 repeat(refine nx ?_;conv=>whnf)
 refine pn (ea:=?_) (hk:=?_)
 .show AV.cons _ (.cons _ (.cons _ (.cons (.int .i64 (ZD (aj .u64 (xs.length:Int)))) _)))=ED xs;rw [hw];rfl
 conv=>whnf
 exact⟨rfl,rfl,rfl,aB⟩
theorem NA {T:aT} (hT:T=bZ\/T=tbF) (xs:List Fc) (hn:xs.length<=10) (gy:okF xs) {B0:Nat} {call:eL ->AV ->Heap ->CR} (aZ:@aU T prog B0 call):
  @aU T prog B0 (jS 263 (EE xs) (sk xs) (.aS .nil) (sk (cF xs)) call):=by
 rcases hT with rfl|rfl
 .exact jT ae 1 aZ (fn:=f263) rfl rfl rfl rfl (Nat.le_refl _) (Nz xs hn gy)
 .exact jT ae 1 aZ (fn:=f263) rfl rfl rfl rfl (Nat.le_refl _) (Nz xs hn gy)
end
section
attribute [local irreducible] Cw ak bq PF Sub
section
attribute [local instance] fp
def dI (a b:dh) (n:Q3):Q:=Q.sub (eG b n).1 (eG a n).2
def HA (a b:dh) (n:Q3):Prop:=Ck a n/\Ck b n/\kq (eG b n).1 (eG a n).2
def ZE:List (Cn prog):=[pH,tS]
theorem agJ (a b:dh) (n:Q3) (h:HA a b n):dQ 103 (.cons (aN.v a) (.cons (aN.v b) (.cons (aQ.v n) .nil))) (aK.v (dI a b n)):=by
 obtain⟨h1,h2,h3⟩:=h;refine PF.go af ae ZE (fn:=f103) rfl rfl rfl λB0 hc=>?_;conv=>whnf
 refine cg ZE 0 pH (a,n) h1 (aE ?_);refine cg ZE 0 pH (b,n) h2 (aE ?_);refine cg ZE 1 tS ((eG b n).1,(eG a n).2) h3 (aE ?_);exact ak.pure (aK.an _)
def NB:Cn prog:= .of3 aN aN aQ aK 103 false HA dI (λe=>by cases e) agJ (aw rfl rfl)
end
attribute [local instance] bZ
def ki (a b:dh):List Q3 ->Int ->Int
 |[],s=>s|n::l,s=>match bD (dI a b n).1.sign 1 with|true=>1|false=>ki a b l (match bD (dI a b n).1.sign 0 with|true=>2|false=>s)
def ew (a b:dh):Int:=ki a b (kL a b) 3
def wA (a b:dh):Prop:=zM a b/\∀n∈kL a b,HA a b n
def tSt:List (Cn prog):=[Et,Cn.lift bZ NB,Cn.lift bZ lR]
theorem HB (a b:dh) (h:wA a b):PF prog 72 (.cons (aN.v a) (.cons (aN.v b) .nil)) ((au .i64).v (ew a b)):=by
 obtain⟨h1,h2⟩:=h;refine PF.go af ae tSt (fn:=f72) rfl rfl rfl λB0 hc=>?_;unfold ew;have hlen:(kL a b).length<=1000000:=by
  unfold kL;rw [(jY nU _).length_eq,List.length_map];exact h1.n
 conv=>whnf
 refine cg tSt 0 Et (a,b) h1 (aC ?_);generalize kL a b=L at*;refine Cw.lp (σ:=Int) af rfl rfl hc L.length (λq s=>[(2,.ptr (pathOf 64) 0),(3,.ptr (pathOf 65) 0),(5,.int .i64 s),(10,aQ.list.v L),(11,.int .i64 (L.length:Int)),(12,.int .i64 (q:Int))])
  (λq _=>hp [(64,cl (od a)),(65,cl (od b))] 66) (λq s=>ki a b (L.drop q) s=ki a b L 3) 3 rfl (sb [(64,64),(65,65)]) (λq s hq hs=>?_)
 conv=>whnf
 refine ay (λh3=>?_) (λh3=>?_)
 .have hq:=pT h3;have cE:=pS hq (by omega);rw [List.drop_eq_getElem_cons hq]at hs;have hs:(match bD (dI a b L[q]).1.sign 1 with|true=>1|false=>ki a b (L.drop (q+1)) (match bD (dI a b L[q]).1.sign 0 with|true=>2|false=>s))=ki a b L 3:=hs;have hg:=h2 _ (List.getElem_mem hq);conv=>whnf
  refine aL.go q rfl hq (aC ?_);refine⟨_,aQ.rd rfl hq,aE ?_⟩;refine cg tSt 1 (Cn.lift bZ NB) (a,b,L[q]) hg (aE ?_);refine cg tSt 2 (Cn.lift bZ lR) (dI a b L[q]) aB (aE ?_);refine ay (λh4=>?_) (λh4=>?_)
  .have h4:bD (dI a b L[q]).1.sign 1=true:=h4;rw [h4]at hs;have hs:1=ki a b L 3:=hs;rw [<-hs];refine aE ?_;exact ak.pure .int
  .have h4:bD (dI a b L[q]).1.sign 1=false:=h4;rw [h4]at hs;refine aE ?_;refine ay (λh5=>?_) (λh5=>?_)
   .have h5:bD (dI a b L[q]).1.sign 0=true:=h5;rw [h5]at hs;refine aE ?_;exact⟨2,hq,hs,sb [(64,64),(65,65)]⟩
   .have h5:bD (dI a b L[q]).1.sign 0=false:=h5;rw [h5]at hs;refine aE ?_;exact⟨s,hq,hs,sb [(64,64),(65,65)]⟩
 .have Iu:=rN hq h3;subst Iu;rw [List.drop_length]at hs;have hs:s=ki a b L 3:=hs;rw [<-hs];refine aE ?_;exact ak.pure .int
def mK:Cn prog:= .kP aN aN (au .i64) 72 false wA ew (λe=>by cases e) HB (aw rfl rfl)
end
section
attribute [local irreducible] Cw ak bq PF Sub
def rL (q:Q):List AV:=[.bool (decide (q.1<0)),aM.v q.1.natAbs,.bool (decide (q.2<0)),aM.v q.2.natAbs]
abbrev xY:=Q×Bool
def Bg (x:xY):List AV:=rL x.1++[.bool x.2]
def Aw (f:Q ->Q ->Q) (x:xY) (t:Q):xY:=(match x.2 with|true=>f x.1 t|false=>t,true)
def zL:List AV:=[.bool false,.bt,.bool false,.bt]
theorem NC {x y:xY} (h:cl (Bg x)=cl (Bg y)):x=y:=by
 obtain⟨v,s⟩:=x;obtain⟨w,t⟩:=y;injection h with h _ _;have g0:some (AV.bool (decide (v.1<0)))=some (.bool (decide (w.1<0))):=congrArg (λr:Tr AV=>r.get (pathOf 0)) h;have g1:some (aM.v v.1.natAbs)=some (aM.v w.1.natAbs):=congrArg (λr:Tr AV=>r.get (pathOf 1)) h;have g2:some (AV.bool (decide (v.2<0)))=some (.bool (decide (w.2<0))):=congrArg (λr:Tr AV=>r.get (pathOf 2)) h;have g3:some (aM.v v.2.natAbs)=some (aM.v w.2.natAbs):=congrArg (λr:Tr AV=>r.get (pathOf 3)) h;have g4:some (AV.bool s)=some (.bool t):=congrArg (λr:Tr AV=>r.get (pathOf 4)) h;have e:aK.v v=aK.v w:=by
  show AV.agg (.cons (.bool (decide (v.1<0))) (.cons (aM.v v.1.natAbs) (.cons (.bool (decide (v.2<0))) (.cons (aM.v v.2.natAbs) .nil))))= .agg (.cons (.bool (decide (w.1<0))) (.cons (aM.v w.1.natAbs) (.cons (.bool (decide (w.2<0))) (.cons (aM.v w.2.natAbs) .nil))));rw [Option.some.inj g0,Option.some.inj g1,Option.some.inj g2,Option.some.inj g3]
 have e1:=aK.bO e;have e2:s=t:=by have:=Option.some.inj g4;injection this
 rw [e1,e2]
structure IvI where
 a:dh
 b:dh
 d:Q3
 n:Q3
 g:Q
 s:Q
 t:Q
def Iz (i:IvI) (f t:xY):List (Nat×AO):=[(64,cl (od i.a)),(65,cl (od i.b)),(66,cl (oc i.d)),(67,cl zL),(68,cl zL),(69,cl (Bg f)),(70,cl (Bg t)),(71,cl (oc i.n)),(72,cl (rL i.g)),(73,cl (rL i.s)),(74,cl (rL i.t))]
def UY:Av (Bool×IvI×xY×xY) where
 ar:=λx=>match x.1 with
  |true=> .cons (.ptr (pathOf 69) 0) (.cons (aK.v x.2.1.t) (.cons (.func (.func 93) .nil .nil) .nil))|false=> .cons (.ptr (pathOf 70) 0) (.cons (aK.v x.2.1.t) (.cons (.func (.func 106) .nil .nil) .nil))
 h0:=λx=>hp (Iz x.2.1 x.2.2.1 x.2.2.2) 75
 v:=λ_=> .aS .nil
 H:=λx=>(match x.1 with|true=>Iz x.2.1 (Aw Q.max x.2.2.1 x.2.1.t) x.2.2.2|false=>Iz x.2.1 x.2.2.1 (Aw Q.min x.2.2.2 x.2.1.t)).map λ(y:Nat×AO)=>(pathOf y.1,y.2)
 N:=λ_=>pathOf 76
 ok:=λx=>match x.1 with|true=>x.2.2.1.2=true ->dt x.2.1.t x.2.2.1.1|false=>x.2.2.2.2=true ->dt x.2.1.t x.2.2.2.1
 inj:=by
  rintro ⟨m,i,f,t⟩ ⟨m',i',f',t'⟩ _ _ e1 e2;have g4:some (cl (od i.a))=some (cl (od i'.a)):=congrArg (λh:Heap=>h.t.get (pathOf 64)) e2;have g5:some (cl (od i.b))=some (cl (od i'.b)):=congrArg (λh:Heap=>h.t.get (pathOf 65)) e2;have g6:some (cl (oc i.d))=some (cl (oc i'.d)):=congrArg (λh:Heap=>h.t.get (pathOf 66)) e2;have g9:some (cl (Bg f))=some (cl (Bg f')):=congrArg (λh:Heap=>h.t.get (pathOf 69)) e2;have g10:some (cl (Bg t))=some (cl (Bg t')):=congrArg (λh:Heap=>h.t.get (pathOf 70)) e2;have g11:some (cl (oc i.n))=some (cl (oc i'.n)):=congrArg (λh:Heap=>h.t.get (pathOf 71)) e2;have g12:some (cl (rL i.g))=some (cl (rL i'.g)):=congrArg (λh:Heap=>h.t.get (pathOf 72)) e2;have g13:some (cl (rL i.s))=some (cl (rL i'.s)):=congrArg (λh:Heap=>h.t.get (pathOf 73)) e2;have g14:some (cl (rL i.t))=some (cl (rL i'.t)):=congrArg (λh:Heap=>h.t.get (pathOf 74)) e2;have k1:=NC (Option.some.inj g9);have k2:=NC (Option.some.inj g10);subst k1 k2;have key:i.t=i'.t ->∀f t:xY,Iz i f t=Iz i' f t:=λht f t=>by
   unfold Iz;rw [Option.some.inj g4,Option.some.inj g5,Option.some.inj g6,Option.some.inj g11,Option.some.inj g12,Option.some.inj g13,ht]
  cases m<;>cases m'
  .injection e1 with _ e1;injection e1 with e1 _;have ht:i.t=i'.t:=aK.bO e1;refine⟨rfl,?_,rfl⟩;show(Iz i f (Aw Q.min t i.t)).map _=(Iz i' f (Aw Q.min t i'.t)).map _;rw [key ht,ht]
  .injection e1 with e1 _;injection e1 with e1 _;exact absurd e1 (by decide)
  .injection e1 with e1 _;injection e1 with e1 _;exact absurd e1 (by decide)
  .injection e1 with _ e1;injection e1 with e1 _;have ht:i.t=i'.t:=aK.bO e1;refine⟨rfl,?_,rfl⟩;show(Iz i (Aw Q.max f i.t) t).map _=(Iz i' (Aw Q.max f i'.t) t).map _;rw [key ht,ht]
section
abbrev iN:aT:=pR bZ 11
attribute [local instance] iN
def tN:List (Cn prog):=[Cn.lift iN Uk,Cn.lift iN Ul]
theorem ajq (i:IvI) (f t:xY) (h:f.2=true ->dt i.t f.1) (B0:Nat) {r:Tr AV} (hr:iH (.cons (.ptr (pathOf 69) 0) (.cons (aK.v i.t) (.cons (.func (.func 93) .nil .nil) .nil))) 0 f105.ntmps .leaf=some r):
  Cw prog B0 ⟨prog,105,f105.ntmps,none,aH tN,0⟩ (vK f105) r [] (hp (Iz i f t) 75)
   (QK (fK prog f105 (.aS .nil) ((Iz i (Aw Q.max f i.t) t).map λy=>(pathOf y.1,y.2)) (pathOf 76)) (fK prog f105 (.aS .nil) ((Iz i (Aw Q.max f i.t) t).map λy=>(pathOf y.1,y.2)) (pathOf 76)) (λ_ _ _ _=>False)):=by
 cases hr;have hc:=az (P:=prog) ae tN B0;refine aD af rfl rfl hc _ ?_;obtain⟨v,s⟩:=f;unfold Aw;cases s with
 |true=>
  conv=>whnf
  refine cg tN 0 (Cn.lift iN Uk) (v,i.t) (h rfl) (aE ?_);repeat' first|exact aB|exact rfl|refine And.intro ?_ ?_
 |false=>
  refine aE ?_;repeat' first|exact aB|exact rfl|refine And.intro ?_ ?_
theorem ajr (i:IvI) (f t:xY) (h:t.2=true ->dt i.t t.1) (B0:Nat) {r:Tr AV} (hr:iH (.cons (.ptr (pathOf 70) 0) (.cons (aK.v i.t) (.cons (.func (.func 106) .nil .nil) .nil))) 0 f105.ntmps .leaf=some r):
  Cw prog B0 ⟨prog,105,f105.ntmps,none,aH tN,0⟩ (vK f105) r [] (hp (Iz i f t) 75)
   (QK (fK prog f105 (.aS .nil) ((Iz i f (Aw Q.min t i.t)).map λy=>(pathOf y.1,y.2)) (pathOf 76)) (fK prog f105 (.aS .nil) ((Iz i f (Aw Q.min t i.t)).map λy=>(pathOf y.1,y.2)) (pathOf 76)) (λ_ _ _ _=>False)):=by
 cases hr;have hc:=az (P:=prog) ae tN B0;refine aD af rfl rfl hc _ ?_;obtain⟨v,s⟩:=t;unfold Aw;cases s with
 |true=>
  conv=>whnf
  refine cg tN 1 (Cn.lift iN Ul) (v,i.t) (h rfl) (aE ?_);repeat' first|exact aB|exact rfl|refine And.intro ?_ ?_
 |false=>
  refine aE ?_;repeat' first|exact aB|exact rfl|refine And.intro ?_ ?_
end
theorem ZF {B0:Nat} {call:eL ->AV ->Heap ->CR} (aZ:@aU bZ prog B0 call):@aU bZ prog B0 (fQ 105 UY call):=
 jX ae 11 aZ (fn:=f105) rfl rfl UY (λx hx=>by
  obtain⟨m,i,f,t⟩:=x;cases m with
  |true=>exact⟨_,_,rfl,rfl,(show(pathOf 75).toNat<=(pathOf 76).toNat by decide),ajq i f t hx B0 rfl⟩|false=>exact⟨_,_,rfl,rfl,(show(pathOf 75).toNat<=(pathOf 76).toNat by decide),ajr i f t hx B0 rfl⟩)
end
section
attribute [local irreducible] Cw ak bq PF Sub dZ
attribute [local instance] bZ
def xi:List Int ->Nat ->Option Nat
 |[],e=>some e|i::r,e=>match gD 0 i with|true=>xi r (orN e i.toNat)|false=>none
def gS (l:List V3):Pl ->Nat ->List Fc ->Option (List Fc×Nat)
 |[],e,acc=>some (acc,e)|p::t,e,acc=>match gD 0 p.2 &&cQ p.2 256 with
  |false=>none|true=>(match nA l p.1 p.2.toNat with
   |none=>none|some r=>(match xi r e with
    |none=>none|some e'=>gS l t e' (acc++[(p,r)])))
def iq (l:List V3):Option (List Fc×Nat):=
 match Nat.ble l.length 4096 &&Nat.ble (du l).length 1000000 with
 |false=>none|true=>(match gS l (du l) 0 []with
  |none=>none|some (all,e)=>(match Nat.ble all.length 10 &&all.all λx=>Nat.ble x.2.length 4294967296 with|true=>some (all,e)|false=>none))
theorem xj (l:List V3):∀{t:Pl} {e:Nat} {acc all:List Fc} {e':Nat},gS l t e acc=some (all,e') ->acc.length<=all.length
 |[],e,acc,all,e',h=>by injection h with h;injection h with h _;rw [h];exact Nat.le_refl _
 |p::t,e,acc,all,e',h=>by
  unfold gS at h;split at h
  .cases h
  .split at h
   .cases h
   .split at h
    .cases h
    .have:=xj l h;rw [List.length_append]at this;omega
theorem xk (l:List V3) {y:Fc}:∀{t:Pl} {e:Nat} {acc all:List Fc} {e':Nat},gS l t e acc=some (all,e') ->y∈acc ->y∈all
 |[],e,acc,all,e',h,hy=>by injection h with h;injection h with h _;exact h ▸ hy
 |p::t,e,acc,all,e',h,hy=>by
  unfold gS at h;split at h
  .cases h
  .split at h
   .cases h
   .split at h
    .cases h
    .exact xk l h (List.mem_append_left _ hy)
def zU:List (Cn prog):=[Hz,UC]
def aed (all:List Fc):eL ->AV ->Heap ->CR:=
 jS 263 (EE all) (sk all) (.aS .nil) (sk (cF all)) (aH zU)
theorem ZG (l:List V3) (all:List Fc) (e:Nat) (h:iq l=some (all,e)):PF prog 192 (.cons (bL.list.v l) .nil) (.aS (.cons (bY.list.v ((cF all).map (·.1))) (.cons ((au .i64).list.list.v ((cF all).map (·.2))) (.cons ((au .u64).v (e:Int)) .nil)))):=by
 unfold iq at h;cases hb:(Nat.ble l.length 4096 &&Nat.ble (du l).length 1000000)with
 |false=>rw [hb]at h;cases h|true=>
 rw [hb]at h;obtain⟨nZ,rz⟩:=Bool.and_eq_true_iff.1 hb;have hl:=Nat.le_of_ble_eq_true nZ;have hp:=Nat.le_of_ble_eq_true rz;cases hf:gS l (du l) 0 []with
 |none=>rw [hf]at h;cases h|some x=>
 rw [hf]at h;obtain⟨wB,e'⟩:=x;replace h:(match Nat.ble wB.length 10 &&wB.all λx=>Nat.ble x.2.length 4294967296 with|true=>some (wB,e')|false=>none)=some (all,e):=h;cases AJ:(Nat.ble wB.length 10 &&wB.all λx=>Nat.ble x.2.length 4294967296)with
 |false=>rw [AJ]at h;cases h|true=>
 rw [AJ]at h;injection h with h;injection h with h1 h2;subst h1 h2;obtain⟨Yv,hd2⟩:=Bool.and_eq_true_iff.1 AJ;have hn:=Nat.le_of_ble_eq_true Yv;have gy:okF wB:=λx hx=>Nat.le_of_ble_eq_true (List.all_eq_true.1 hd2 x hx);refine PF.of_wp (c:=_) af (by decide) (fn:=f192) rfl rfl rfl (.cons (bL.list.an _) .nil) (call:=aed wB) (λB0=>NA (.inl rfl) wB hn gy (az ae zU B0)) ?_;intro B0;have hc:=NA (.inl rfl) wB hn gy (az (P:=prog) ae zU B0);conv=>whnf
 refine gP (by decide) (cn (l:=zU) (by decide) 0 (c:=Hz) rfl l ⟨hl,hp⟩ (hk:=?_));refine sR ?_;generalize nK:du l=pl at*;refine Cw.loop (ι:=Nat×Nat×List Fc) (λq=>bl [(0,bL.list.v l),(5,.gs (pathOf 64) q.2.2.length 5),(6,.int .u64 (q.2.1:Int)),(17,bY.list.v pl),(18,.int .i64 (pl.length:Int)),(19,.int .i64 (q.1:Int))]) (λ_=>[]) (λq=>sk q.2.2)
  (λq=>q.1<=pl.length/\gS l (pl.drop q.1) q.2.1 q.2.2=some (wB,e')/\q.2.1<18446744073709551616) (λq=>pl.length - q.1) ?_ (0,0,[]) ⟨Nat.zero_le _,hf,by decide⟩ ?_
 .intro q hq;obtain⟨q,x,acc⟩:=q;obtain⟨g1,g2,g3⟩:=hq;have g1:q<=pl.length:=g1;have g2:gS l (pl.drop q) x acc=some (wB,e'):=g2;have g3:x<18446744073709551616:=g3;have akd:acc.length<=10:=Nat.le_trans (xj l g2) hn;refine aD af rfl rfl hc _ (aC ?_);refine ay (λh1=>?_) (λh1=>?_)
  .have hq:q<pl.length:=Int.ofNat_lt.1 (aO.1 h1);have cE:aj .i64 (Int.add (q:Int) 1)=((q+1:Nat):Int):=by
    show aj .i64 ((q:Int)+1)=_;rw [aA (by omega) (by omega)];omega
   rw [List.drop_eq_getElem_cons hq]at g2;obtain⟨r,x',k1,k2,k3,k4,k5⟩:∃r x',0<=pl[q].2/\pl[q].2<256/\nA l pl[q].1 pl[q].2.toNat=some r/\xi r x=some x'/\gS l (pl.drop (q+1)) x' (acc++[(pl[q],r)])=some (wB,e'):=by
    unfold gS at g2;split at g2
    .cases g2
    .rename_i hb;obtain⟨nZ,rz⟩:=Bool.and_eq_true_iff.1 hb;split at g2
     .cases g2
     .rename_i r hr;split at g2
      .cases g2
      .rename_i x' hx;exact⟨r,x',cG.1 nZ,aO.1 rz,hr,hx,g2⟩
   conv=>whnf
   refine aL.go q rfl hq (aC ?_);refine⟨_,bY.rd rfl hq,aC ?_⟩;refine gP (by decide) (cC (l:=zU) (by decide) 1 (c:=UC) rfl (l,pl[q]) ⟨by show l.length<=4294967296;omega,k1,k2,by show(nA l pl[q].1 pl[q].2.toNat).isSome=true;rw [k3];rfl⟩ (v:=(au .i64).list.v r) (congrArg (au .i64).list.v (show(nA l pl[q].1 pl[q].2.toNat).getD []=r by rw [k3];rfl)) (hk:=?_));refine sR ?_;have hrl:r.length<=4294967296:=by
    have hm:(pl[q],r)∈wB:=xk l k5 (List.mem_append_right _ (List.mem_singleton.2 rfl));exact gy _ hm
   refine Cw.loop (ι:=Nat×Nat) (λz=>bl [(0,bL.list.v l),(5,.gs (pathOf 64) acc.length 5),(6,.int .u64 (z.2:Int)),(8,.ptr (pathOf 65) 0),(9,(au .i64).list.v r),(17,bY.list.v pl),(18,.int .i64 (pl.length:Int)),(19,.int .i64 (q:Int)),(26,(au .i64).list.v r),(27,.int .i64 (r.length:Int)),(28,.int .i64 (z.1:Int))]) (λ_=>[]) (λ_=>⟨bV [(pathOf 64,.gl (rU.l acc) false),(pathOf 65,.cells (bl [(0,.int .i64 pl[q].1.1),(1,.int .i64 pl[q].1.2.1),(2,.int .i64 pl[q].1.2.2),(3,.int .u64 pl[q].2)]) 4 false)],pathOf 66⟩)
    (λz=>z.1<=r.length/\xi (r.drop z.1) z.2=some x'/\z.2<18446744073709551616) (λz=>r.length - z.1) ?_ (0,x) ⟨Nat.zero_le _,k4,g3⟩ ?_
   .intro z hz;obtain⟨k,y⟩:=z;obtain⟨m1,m2,m3⟩:=hz;have m1:k<=r.length:=m1;have m2:xi (r.drop k) y=some x':=m2;have m3:y<18446744073709551616:=m3;refine aD af rfl rfl hc _ (aC ?_);refine ay (λh2=>?_) (λh2=>?_)
    .have hk:k<r.length:=Int.ofNat_lt.1 (aO.1 h2);have Zy:aj .i64 (Int.add (k:Int) 1)=((k+1:Nat):Int):=by
      show aj .i64 ((k:Int)+1)=_;rw [aA (by omega) (by omega)];omega
     rw [List.drop_eq_getElem_cons hk]at m2;obtain⟨n1,n2⟩:0<=r[k]/\xi (r.drop (k+1)) (orN y r[k].toNat)=some x':=by
      unfold xi at m2;split at m2
      .rename_i hb;exact⟨cG.1 hb,m2⟩
      .cases m2
     conv=>whnf
     refine aL.go k rfl hk (aC ?_);refine⟨_,(au .i64).rd rfl hk,aC ?_⟩;refine⟨n1,aC ?_⟩;refine⟨⟨Int.natCast_nonneg _,oC (Int.natCast_nonneg _) (show(y:Int)<_ by omega),(pz r[k].toNat).1,oC (pz r[k].toNat).1 (pz r[k].toNat).2⟩,sR ?_⟩;refine⟨(k+1,orN y r[k].toNat),⟨hk,n2,TF m3⟩,by show r.length - (k+1)<r.length - k;omega,?_⟩;refine Sub.of (gU [64,65]) [] rfl rfl rfl ?_ ?_
     .exact Ap
     .repeat' first|exact aB|exact rfl|refine And.intro ?_ ?_
      all_goals exact rU.bm _
    .have hk:k=r.length:=(by have:=aX.1 h2;have this:((r.length:Nat):Int)<=(k:Int):=this;omega);rw [hk,List.drop_length]at m2;injection m2 with m2;subst m2;conv=>whnf
     refine⟨_,rfl,aC ?_⟩;refine⟨⟨?_,rfl,(rU.ep acc).symm⟩,?_⟩
     .show(acc.length+1)*(56+1)<=1099511627776;omega
     refine sR ?_;refine⟨(q+1,_,acc++[(pl[q],r)]),⟨hq,k5,m3⟩,by show pl.length - (q+1)<pl.length - q;omega,?_⟩;refine Sub.of [(pathOf 64,some (pathOf 67))] [] rfl rfl rfl ?_ ?_
     .repeat' first|exact aB|exact rfl|refine And.intro ?_ ?_
      all_goals first|exact cE|(rw [List.length_append];exact rfl)|(simp;done)
     .repeat' first|exact aB|exact rfl|refine And.intro ?_ ?_
      all_goals first|exact rU.ot acc [(pl[q],r)]|exact rU.bm _
   .refine Sub.of (gU [64,65]) [] rfl rfl rfl ?_ ?_
    .exact oR
    .repeat' first|exact aB|exact rfl|refine And.intro ?_ ?_
     all_goals exact rU.bm _
  .have hq:q=pl.length:=(by have:=aX.1 h1;have this:((pl.length:Nat):Int)<=(q:Int):=this;omega);rw [hq,List.drop_length]at g2;injection g2 with g2;injection g2 with g4 g5;subst g4 g5;conv=>whnf
   refine pn (hk:=?_);conv=>whnf
   have hS:(cF acc).length=acc.length:=KU acc;refine Cw.loop (ι:=Nat) (λq=>bl [(6,.int .u64 (x:Int)),(12,.gs (pathOf 65) q 4),(13,.gs (pathOf 66) q 1),(46,.gs (pathOf 64) acc.length 5),(47,.int .i64 (acc.length:Int)),(48,.int .i64 (q:Int))]) (λ_=>[]) (λq=>⟨bV [(pathOf 64,.gl (rU.l (cF acc)) false),(pathOf 65,.gl (bY.l (((cF acc).take q).map (·.1))) false),(pathOf 66,.gl ((au .i64).list.l (((cF acc).take q).map (·.2))) false)],pathOf 67⟩)
    (λq=>q<=acc.length) (λq=>acc.length - q) ?_ 0 (Nat.zero_le _) ?_
   .intro q hq;refine aD af rfl rfl hc _ (aC ?_);refine ay (λh2=>?_) (λh2=>?_)
    .have hq:q<acc.length:=Int.ofNat_lt.1 (aO.1 h2);have hqS:q<(cF acc).length:=(by omega);have cE:aj .i64 (Int.add (q:Int) 1)=((q+1:Nat):Int):=by
      show aj .i64 ((q:Int)+1)=_;rw [aA (by omega) (by omega)];omega
     have ht:(cF acc).take (q+1)=(cF acc).take q++[(cF acc)[q]]:=List.take_succ_eq_append_getElem hqS;conv=>whnf
     refine aL.go q rfl hq (aC ?_);refine⟨_,rU.rd rfl hqS,aC ?_⟩;have agK:min q (cF acc).length=q:=Nat.min_eq_left (by omega);have e1:q*4=(bY.l (((cF acc).take q).map (·.1))).len:=(by rw [bY.ep,List.length_map,List.length_take,agK];rfl);have e2:q*1=((au .i64).list.l (((cF acc).take q).map (·.2))).len:=(by rw [(au .i64).list.ep,List.length_map,List.length_take,agK];rfl);refine⟨_,rfl,aC ?_⟩;refine⟨⟨?_,rfl,e1⟩,?_⟩
     .show(q+1)*(32+1)<=1099511627776;omega
     refine sR ?_;refine⟨_,rfl,aC ?_⟩;refine⟨⟨?_,rfl,e2⟩,?_⟩
     .show(q+1)*(24+1)<=1099511627776;omega
     refine sR ?_;refine⟨q+1,hq,by omega,?_⟩;rw [ht,List.map_append,List.map_append];refine Sub.of [(pathOf 64,some (pathOf 64)),(pathOf 65,some (pathOf 70)),(pathOf 66,some (pathOf 71))] [] rfl rfl rfl ?_ ?_
     .repeat' first|exact aB|exact rfl|refine And.intro ?_ ?_
      all_goals first|exact cE|(simp;done)
     .repeat' first|exact aB|exact rfl|refine And.intro ?_ ?_
      all_goals first|exact bY.ot _ [(cF acc)[q].1]|exact(au .i64).list.ot _ [(cF acc)[q].2]|exact rU.bm _|exact bY.bm _|exact(au .i64).list.bm _
    .have hq:q=acc.length:=(by have:=aX.1 h2;have this:((acc.length:Nat):Int)<=(q:Int):=this;omega);conv=>whnf
     have hm:min q (cF acc).length=q:=Nat.min_eq_left (by omega);exact ak.aS (bq.cons (bY.gG rfl (by rw [hq,<-hS,List.take_length]) (by rw [List.length_map,hS];exact hq)) (bq.cons ((au .i64).list.gG rfl (by rw [hq,<-hS,List.take_length]) (by rw [List.length_map,hS];exact hq)) (bq.cons (ak.pure .int) bq.nil)))
   .refine Sub.of [(pathOf 64,some (pathOf 64)),(pathOf 65,none),(pathOf 66,none)] [] rfl rfl rfl ?_ ?_
    .exact oR
    .repeat' first|exact aB|exact rfl|refine And.intro ?_ ?_
     all_goals exact rU.bm _
 .refine Sub.of [(pathOf 64,none)] [] rfl rfl rfl ?_ ?_
  .exact oR
  .exact oR
end
section
attribute [local irreducible] Cw ak bq PF Sub
attribute [local instance] bZ
def wC (l:List V3):AV:=
 match iq l with
 |some x=> .aS (.cons (bY.list.v ((cF x.1).map (·.1))) (.cons ((au .i64).list.list.v ((cF x.1).map (·.2))) (.cons ((au .u64).v (x.2:Int)) .nil)))|none=> .aS .nil
theorem nB {l:List V3} {x:List Fc×Nat} (h:iq l=some x):wC l= .aS (.cons (bY.list.v ((cF x.1).map (·.1))) (.cons ((au .i64).list.list.v ((cF x.1).map (·.2))) (.cons ((au .u64).v (x.2:Int)) .nil))):=by
 unfold wC;rw [h]
def xZ:Cn prog where
 f:=192
 flat:=false
 α:=List V3
 aZs:=λl=> .cons (bL.list.v l) .nil
 v:=wC
 ok:=λl=>(iq l).isSome=true
 inj:=λa b _ _ h=>by
  injection h with h1 _;exact congrArg wC (bL.list.bO h1)
 dp:=λl=>⟨bL.list.jm _,aB⟩
 pv:=λl=>by
  cases h:iq l with
  |none=>
   have:wC l= .aS .nil:=(by unfold wC;rw [h]);rw [this];exact .aS .nil
  |some x=>
   rw [nB h];exact .aS (.cons (bY.list.an _) (.cons ((au .i64).list.list.an _) (.cons .int .nil)))
 fl:=λe=>by cases e
 pf:=λl h=>by
  obtain⟨x,hx⟩:=Option.isSome_iff_exists.1 h;rw [nB hx];exact ZG l x.1 x.2 hx
 bd:=aw rfl rfl
def Bh (n:Int) (h:Bool):Prop:= -128<=n/\n<=127/\(h=true ->n % 2=1)
def rdZ (l:List Nat):Int:=match l with|45::l=> -(l.foldl (λa c=>a*10+(c - 48)) 0:Nat)|l=>(l.foldl (λa c=>a*10+(c - 48)) 0:Nat)
def rdS (l:List Nat):Int×Bool:=(rdZ (l.takeWhile (λc=>!(c==47))),l.contains 47)
theorem ZH:∀n:_root_.Fin 256,∀h:Bool,rdS (Bf ((n.1:Int) - 128) h)=((n.1:Int) - 128,h):=by decide+kernel
theorem ud {n:Int} {h:Bool} (k:Bh n h):rdS (Bf n h)=(n,h):=by
 obtain⟨a,b,_⟩:=k;have:=ZH ⟨(n+128).toNat,by omega⟩ h;have e:(((n+128).toNat:Nat):Int) - 128=n:=by omega
 simp only [e]at this;exact this
theorem pO {l:List (AV×AV)} (h:cS prog vq 167 l=true):∀e∈l,PF prog 167 e.1 e.2:=λe he=>(cz af ae iR (by decide) h e he).1
theorem nC {k m i:Nat} (h1:k<=i) (h2:i<k+m):psE ((i:Int) - 128) false∈Xl k m:=by
 unfold Xl;refine List.mem_map.2 ⟨i - k,List.mem_range.2 (by omega),?_⟩;rw [show k+(i - k)=i by omega]
theorem ya {k m i:Nat} (h1:k<=i) (h2:i<k+m):psE (2*(i:Int) - 127) true∈psH k m:=by
 unfold psH;refine List.mem_map.2 ⟨i - k,List.mem_range.2 (by omega),?_⟩;rw [show k+(i - k)=i by omega]
theorem aee (n:Int) (h:Bool) (k:Bh n h):PF prog 167 (.cons (aV.v (Bf n h)) .nil) (.aS (.cons (aK.v (Ey n h)) (.cons ((au .i64).v 0) .nil))):=by
 obtain⟨h1,h2,h3⟩:=k;cases h with
 |false=>
  obtain⟨i,hi,rfl⟩:∃i:Nat,i<256/\n=(i:Int) - 128:=⟨(n+128).toNat,by omega,by omega⟩
  rcases Nat.lt_or_ge i 32 with g|g
  .exact pO ajd _ (nC (by omega) (by omega))
  rcases Nat.lt_or_ge i 64 with g|g
  .exact pO aje _ (nC (by omega) (by omega))
  rcases Nat.lt_or_ge i 96 with g|g
  .exact pO ajf _ (nC (by omega) (by omega))
  rcases Nat.lt_or_ge i 128 with g|g
  .exact pO ajg _ (nC (by omega) (by omega))
  rcases Nat.lt_or_ge i 160 with g|g
  .exact pO ajh _ (nC (by omega) (by omega))
  rcases Nat.lt_or_ge i 192 with g|g
  .exact pO aji _ (nC (by omega) (by omega))
  rcases Nat.lt_or_ge i 224 with g|g
  .exact pO ajj _ (nC (by omega) (by omega))
  .exact pO ajk _ (nC (by omega) (by omega))
 |true=>
  have h3:=h3 rfl;obtain⟨i,hi,rfl⟩:∃i:Nat,i<128/\n=2*(i:Int) - 127:=⟨((n+127)/2).toNat,by omega,by omega⟩
  rcases Nat.lt_or_ge i 32 with g|g
  .exact pO ajl _ (ya (by omega) (by omega))
  rcases Nat.lt_or_ge i 64 with g|g
  .exact pO ajm _ (ya (by omega) (by omega))
  rcases Nat.lt_or_ge i 96 with g|g
  .exact pO ajn _ (ya (by omega) (by omega))
  .exact pO ajo _ (ya (by omega) (by omega))
def ri:Cn prog:=
 ⟨167,false,Int×Bool,λx=> .cons (aV.v (Bf x.1 x.2)) .nil,λx=> .aS (.cons (aK.v (Ey x.1 x.2)) (.cons ((au .i64).v 0) .nil)),λx=>Bh x.1 x.2,
  λa b ha hb h=>by
   injection h with h _;have h:Bf a.1 a.2=Bf b.1 b.2:=aV.bO h;have h1:=ud ha;rw [h,ud hb]at h1;obtain⟨a1,a2⟩:=a;obtain⟨b1,b2⟩:=b;injection h1 with e1 e2;have e1:b1=a1:=e1;have e2:b2=a2:=e2;rw [e1,e2],λx=>⟨aV.jm _,aB⟩,λx=> .aS (.cons (aK.an _) (.cons .int .nil)),λe=>Bool.noConfusion e,λx h=>aee x.1 x.2 h,aw rfl rfl⟩
abbrev sV:=(Int×Bool)×(Int×Bool)×(Int×Bool)
def sV.OK (x:sV):Prop:=Bh x.1.1 x.1.2/\Bh x.2.1.1 x.2.1.2/\Bh x.2.2.1 x.2.2.2
def sV.s (x:sV):AV:= .agg (.cons (aV.v (Bf x.1.1 x.1.2)) (.cons (aV.v (Bf x.2.1.1 x.2.1.2)) (.cons (aV.v (Bf x.2.2.1 x.2.2.2)) .nil)))
def sV.q (x:sV):Q3:=(Ey x.1.1 x.1.2,Ey x.2.1.1 x.2.1.2,Ey x.2.2.1 x.2.2.2)
theorem ZI (x:sV) (h:x.OK):PF prog 166 (.cons x.s (.cons (.func (.func 167) .nil .nil) .nil)) (.aS (.cons (aQ.v x.q) (.cons ((au .i64).v 0) .nil))):=by
 obtain⟨a,b,c⟩:=x;obtain⟨h1,h2,h3⟩:=h;refine PF.go af ae [ri] (fn:=f166) rfl rfl rfl λB0 hc=>?_;have kO:([ri].map Cn.f).Nodup:=List.nodup_cons.2 ⟨List.not_mem_nil,List.nodup_nil⟩;conv=>whnf
 refine Cw.bH af rfl rfl hc 4 (aC ?_);refine cg [ri] 0 ri a h1 (aE ?_) (hl:=kO);refine cg [ri] 0 ri b h2 (aE ?_) (hl:=kO);refine cg [ri] 0 ri c h3 (aE ?_) (hl:=kO);exact ak.pure (.aS (.cons (aQ.an (sV.q (a,b,c))) (.cons .int .nil)))
theorem sV.Va {x y:sV} (hx:x.OK) (hy:y.OK) (h:x.s=y.s):x=y:=by
 obtain⟨⟨a1,a2⟩,⟨b1,b2⟩,⟨c1,c2⟩⟩:=x;obtain⟨⟨d1,d2⟩,⟨e1,e2⟩,⟨f1,f2⟩⟩:=y;obtain⟨x1,x2,x3⟩:=hx;obtain⟨y1,y2,y3⟩:=hy;injection h with h;injection h with h1 h;injection h with h2 h;injection h with h3 _;have g:∀{n m:Int} {u v:Bool},Bh n u ->Bh m v ->aV.v (Bf n u)=aV.v (Bf m v) ->(n,u)=(m,v):=λhn hm e=>by
  have e:=aV.bO e;have k:=ud hn;rw [e,ud hm]at k;exact k.symm
 have k1:=g x1 y1 h1;have k2:=g x2 y2 h2;have k3:=g x3 y3 h3;rw [k1,k2,k3]
theorem sV.aef (x:sV):cN x.s:= .agg (.cons (aV.an _) (.cons (aV.an _) (.cons (aV.an _) .nil)))
def yb:Cn prog:=
 ⟨166,false,sV,λx=> .cons x.s (.cons (.func (.func 167) .nil .nil) .nil),λx=> .aS (.cons (aQ.v x.q) (.cons ((au .i64).v 0) .nil)),sV.OK,
  λa b ha hb h=>by injection h with h _;rw [sV.Va ha hb h],λx=>⟨⟨aV.jm _,aV.jm _,aV.jm _,aB⟩,⟨aB,aB⟩,aB⟩,λx=> .aS (.cons (aQ.an _) (.cons .int .nil)),λe=>Bool.noConfusion e,λx h=>ZI x h,aw rfl rfl⟩
theorem Vb (x:sV) (h:x.OK):PF prog 101 (.cons x.s .nil) (.aS (.cons (aQ.v x.q) (.cons ((au .i64).v 0) .nil))):=by
 refine PF.go af ae [yb] (fn:=f101) rfl rfl rfl (hpure:= .cons x.aef .nil) λB0 hc=>?_;have kO:([yb].map Cn.f).Nodup:=List.nodup_cons.2 ⟨List.not_mem_nil,List.nodup_nil⟩;conv=>whnf
 refine cg [yb] 0 yb x h (aE ?_) (hl:=kO);exact ak.pure (.aS (.cons (aQ.an _) (.cons .int .nil)))
def rj:Cn prog:=
 ⟨101,false,sV,λx=> .cons x.s .nil,λx=> .aS (.cons (aQ.v x.q) (.cons ((au .i64).v 0) .nil)),sV.OK,
  λa b ha hb h=>by injection h with h _;rw [sV.Va ha hb h],λx=>⟨⟨aV.jm _,aV.jm _,aV.jm _,aB⟩,aB⟩,λx=> .aS (.cons (aQ.an _) (.cons .int .nil)),λe=>Bool.noConfusion e,λx h=>Vb x h,aw rfl rfl⟩
abbrev Tn:=Int×Int×Int×Int
def bN:List Tn:=[(1,0,0,0),(0,1,0,0),(0,0,1,0),(0,0,0,1),(1,1,0,0),(1,-1,0,0),(1,0,1,0),(1,0,-1,0),(1,0,0,1),(1,0,0,-1),(0,1,1,0),(0,1,-1,0),(0,1,0,1),(0,1,0,-1),(0,0,1,1),(0,0,1,-1),(1,1,1,1),(1,1,1,-1),(1,1,-1,1),(1,1,-1,-1),(1,-1,1,1),(1,-1,1,-1),(1,-1,-1,1),(1,-1,-1,-1),(2,0,0,1),(2,1,0,0),(1,1,1,0)]
def plV (t:Tn) (x:sV):AV:= .agg (.cons (.int .i64 t.1) (.cons (.int .i64 t.2.1) (.cons (.int .i64 t.2.2.1) (.cons (.int .i64 t.2.2.2) (.cons (aV.v (Bf x.1.1 x.1.2)) (.cons (aV.v (Bf x.2.1.1 x.2.1.2)) (.cons (aV.v (Bf x.2.2.1 x.2.2.2)) .nil)))))))
theorem zV (t:Tn) (x:sV):dj (.cons (plV t x) .nil):= .cons (.agg (.cons .int (.cons .int (.cons .int (.cons .int (.cons (aV.an _) (.cons (aV.an _) (.cons (aV.an _) .nil)))))))) .nil
theorem nd1 {c:Cn prog}:([c].map Cn.f).Nodup:=List.nodup_cons.2 ⟨List.not_mem_nil,List.nodup_nil⟩
theorem HC (t:Tn) (ht:t∈bN) (x:sV) (hx:x.OK):PF prog 75 (.cons (plV t x) .nil) (.int .i64 0):=by
 simp only [bN,List.mem_cons,List.not_mem_nil,or_false]at ht;rcases ht with rfl|rfl|rfl|rfl|rfl|rfl|rfl|rfl|rfl|rfl|rfl|rfl|rfl|rfl|rfl|rfl|rfl|rfl|rfl|rfl|rfl|rfl|rfl|rfl|rfl|rfl|rfl;all_goals
  refine PF.go af ae [rj] (fn:=f75) rfl rfl rfl (hpure:=zV _ _) λB0 hc=>?_;conv=>whnf
  repeat(first|(refine Cw.bH af rfl rfl hc 8 ?_;conv=>whnf)|(refine nw ?_ (by decide);conv=>whnf)|(refine nw ?_;conv=>whnf))
  refine cg [rj] 0 rj x hx (aE ?_) (hl:=nd1);exact ak.pure .int
end
end
end Go.Sy
