/- A piece of the proof, made small by a program of ours. -/
import Derived.Test.YtihglcfnelokaaaGreatDoorP09
import Derived.Test.YtihglcfnelokaaaGreatDoorSyShelf2
set_option linter.all false
set_option maxRecDepth 1000000
set_option maxHeartbeats 0
namespace Go.Sy
noncomputable section
open Go.RowKit Go.Proofs Go.Proofs.Tryz
section
attribute [local irreducible] Cw aj bE PF Sub
attribute [local instance] fe
def Qj:List (Cn prog):=[kF,cn]
def eE (n:Q3) (q:Nat) (v:Q3) (s:Q×Q):Q×Q:=
 match bG (q:Int) 0 with
 |true=>(cQ n v,cQ n v)
 |false=>((match dj (Q.cmp (cQ n v) s.1) 0 with|true=>cQ n v|false=>s.1),(match dj 0 (Q.cmp (cQ n v) s.2)with|true=>cQ n v|false=>s.2))
def oR (n:Q3):Nat ->List Q3 ->Q×Q ->Q×Q
 |_,[],s=>s|q,v::l,s=>oR n (q+1) l (eE n q v s)
def Hc (n:Q3):Nat ->List Q3 ->Q×Q ->Prop
 |_,[],_=>True|q,v::l,s=>oP n v/\(bG (q:Int) 0=false ->de (cQ n v) s.1/\de (cQ n v) s.2)/\Hc n (q+1) l (eE n q v s)
theorem zP {n v:Q3}:∀{l:List Q3} {a:Nat} {s:Q×Q},oR n a (l++[v]) s=eE n (a+l.length) v (oR n a l s)
 |[],a,s=>rfl|u::l,a,s=>by
  show oR n (a+1) (l++[v]) (eE n a u s)=_;rw [zP,List.length_cons,show a+1+l.length=a+(l.length+1) by omega];rfl
theorem Hd {n:Q3}:∀{l:List Q3} {a:Nat} {s:Q×Q},Hc n a l s ->∀(q:Nat) (hq:q<l.length),oP n l[q]/\(bG ((a+q:Nat):Int) 0=false ->de (cQ n l[q]) (oR n a (l.take q) s).1/\de (cQ n l[q]) (oR n a (l.take q) s).2)
 |[],_,_,_,q,hq=>absurd hq (Nat.not_lt_zero _)|v::l,a,s,h,0,_=>⟨h.1,h.2.1⟩
 |v::l,a,s,h,q+1,hq=>by
  have:=Hd h.2.2 q (Nat.lt_of_succ_lt_succ hq);rw [show a+1+q=a+(q+1) by omega]at this;exact this
theorem aji {b:Bool} {kt kf:Prop} (h:b=true) (k:kt):Bool.casesOn (motive:=λ_=>Prop) b kf kt:=by subst h;exact k
theorem adL {b:Bool} {kt kf:Prop} (h:b=false) (k:kf):Bool.casesOn (motive:=λ_=>Prop) b kf kt:=by subst h;exact k
theorem TT (l:List Q3) (nf ne:Nat) (lf le:AV) (n:Q3) (hl:l.length<=4294967296) (fY:Hc n 0 l ((0,0),(0,0))):
  dA 167 (.cons (.agg (.cons (aN.list.v l) (.cons (.ro nf lf) (.cons (.ro ne le) .nil)))) (.cons (aN.v n) .nil)) (.aO (.cons (aK.v (oR n 0 l ((0,0),(0,0))).1) (.cons (aK.v (oR n 0 l ((0,0),(0,0))).2) .nil))):=by
 obtain⟨⟨n0,m0⟩,⟨n1,m1⟩,⟨n2,m2⟩⟩:=n;refine PF.of_wp (c:=_) af (by decide) (fn:=f167) rfl rfl rfl (.cons (.agg (.cons (aN.list.ak _) (.cons .ro (.cons .ro .nil)))) (.cons (aN.ak _) .nil)) (call:=aE Qj) (λB0=>ay ae _ B0) ?_;intro B0;conv=>whnf
 obtain⟨st,hS⟩:∃st:Nat ->Q×Q,∀q,st q=oR ((n0,m0),(n1,m1),(n2,m2)) 0 (l.take q) ((0,0),(0,0)):=⟨_,λ_=>rfl⟩
 have Xk:st 0=((0,0),(0,0)):=by rw [hS];rfl
 have fb:∀q (hq:q<l.length),st (q+1)=eE ((n0,m0),(n1,m1),(n2,m2)) q l[q] (st q):=λq hq=>by
  rw [hS,hS,List.take_succ_eq_append_getElem hq,zP,List.length_take_of_le (by omega),Nat.zero_add]
 have AX:oR ((n0,m0),(n1,m1),(n2,m2)) 0 l ((0,0),(0,0))=st l.length:=by rw [hS,List.take_length]
 have hat:∀q (hq:q<l.length),oP ((n0,m0),(n1,m1),(n2,m2)) l[q]/\(bG (q:Int) 0=false ->de (cQ ((n0,m0),(n1,m1),(n2,m2)) l[q]) (st q).1/\de (cQ ((n0,m0),(n1,m1),(n2,m2)) l[q]) (st q).2):=λq hq=>by
  have:=Hd fY q hq;rw [Nat.zero_add,<-hS]at this;exact this
 refine Cw.loop (ι:=Nat) (λq=>bm [(3,.ptr (pathOf 65) 0),(4,.ptr (pathOf 66) 0),(5,.ptr (pathOf 67) 0),(10,aN.list.v l),(11,.int .i64 (l.length:Int)),(12,.int .i64 (q:Int))]) (λ_=>[]) (λq=>⟨bW [(pathOf 65,.cells (bm [(0,.bool (decide (((n0,m0):Q).1<0))),(1,aM.v ((n0,m0):Q).1.natAbs),(2,.bool (decide (((n0,m0):Q).2<0))),(3,aM.v ((n0,m0):Q).2.natAbs),(4,.bool (decide (((n1,m1):Q).1<0))),(5,aM.v ((n1,m1):Q).1.natAbs),(6,.bool (decide (((n1,m1):Q).2<0))),(7,aM.v ((n1,m1):Q).2.natAbs),(8,.bool (decide (((n2,m2):Q).1<0))),(9,aM.v ((n2,m2):Q).1.natAbs),(10,.bool (decide (((n2,m2):Q).2<0))),(11,aM.v ((n2,m2):Q).2.natAbs)]) 12 false),(pathOf 66,.cells (bm [(0,.bool (decide ((st q).1.1<0))),(1,aM.v (st q).1.1.natAbs),(2,.bool (decide ((st q).1.2<0))),(3,aM.v (st q).1.2.natAbs)]) 4 false),(pathOf 67,.cells (bm [(0,.bool (decide ((st q).2.1<0))),(1,aM.v (st q).2.1.natAbs),(2,.bool (decide ((st q).2.2<0))),(3,aM.v (st q).2.2.natAbs)]) 4 false)],pathOf 68⟩) (λq=>q<=l.length) (λq=>l.length - q) ?_ 0 (Nat.zero_le _) ?_
 .intro q hq;refine aD af rfl rfl (ay ae Qj B0) _ (aB ?_);refine an (λh1=>?_) (λh1=>?_)
  .have iw:q<l.length:=Int.ofNat_lt.1 (aQ.1 h1);have bM:ah .i64 (Int.add (q:Int) 1)=((q+1:Nat):Int):=by
    show ah .i64 ((q:Int)+1)=_;rw [az (by omega) (by omega)];omega
   obtain⟨hd,hc⟩:=hat q iw;conv=>whnf
   refine aG.go q rfl iw (aB ?_);refine⟨_,aN.rd rfl iw,aB ?_⟩;refine bI (l:=Qj) (by decide) 0 (c:=kF) rfl (((n0,m0),(n1,m1),(n2,m2)),l[q]) hd ?_ ?_ ?_
   .repeat' first|exact aA|refine⟨?_,?_⟩
   .rfl
   conv=>whnf
   repeat(first|(refine⟨⟨_,rfl,rfl⟩,?_⟩;conv=>whnf)|(refine⟨aA,?_⟩;conv=>whnf)|(refine⟨⟨_,aN.rd (P:=prog) (t:=44) rfl iw,aN.rd (P:=prog) (t:=44) rfl iw⟩,?_⟩;conv=>whnf))
   refine an (λh2=>?_) (λh2=>?_)
   .have Qk:bG (q:Int) 0=true:=h2;have cC:eE ((n0,m0),(n1,m1),(n2,m2)) q l[q] (st q)=(cQ ((n0,m0),(n1,m1),(n2,m2)) l[q],cQ ((n0,m0),(n1,m1),(n2,m2)) l[q]):=(by unfold eE;rw [Qk]);conv=>whnf
    repeat(first|(refine aji Qk ?_;conv=>whnf)|(refine⟨⟨_,rfl,rfl⟩,?_⟩;conv=>whnf)|(refine⟨aA,?_⟩;conv=>whnf))
    refine⟨q+1,iw,by omega,?_⟩;refine Sub.of (fI [65,66,67]) [] rfl rfl rfl ?_ ?_
    .repeat' first|exact aA|exact rfl|refine And.intro ?_ ?_
     all_goals first|exact bM|(rw [fb q iw,cC];done)|(rw [fb q iw,cC];exact rfl)
    .repeat' first|exact aA|exact rfl|refine And.intro ?_ ?_
     all_goals first|exact bM|(rw [fb q iw,cC];done)|(rw [fb q iw,cC];exact rfl)
   .have Qk:bG (q:Int) 0=false:=h2;conv=>whnf
    repeat(first|(refine adL Qk ?_;conv=>whnf)|(refine⟨⟨_,rfl,rfl⟩,?_⟩;conv=>whnf)|(refine⟨aA,?_⟩;conv=>whnf))
    refine bI (l:=Qj) (by decide) 1 (c:=cn) rfl (cQ ((n0,m0),(n1,m1),(n2,m2)) l[q],(st q).1) (hc Qk).1 ?_ ?_ ?_
    .repeat' first|exact aA|refine⟨?_,?_⟩
    .rfl
    conv=>whnf
    repeat(first|(refine⟨⟨_,rfl,rfl⟩,?_⟩;conv=>whnf)|(refine⟨aA,?_⟩;conv=>whnf))
    refine an (λh3=>?_) (λh3=>?_)
    .have h3':dj (Q.cmp (cQ ((n0,m0),(n1,m1),(n2,m2)) l[q]) (st q).1) 0=true:=h3;conv=>whnf
     repeat(first|(refine adL Qk ?_;conv=>whnf)|(refine⟨⟨_,rfl,rfl⟩,?_⟩;conv=>whnf)|(refine⟨aA,?_⟩;conv=>whnf))
     refine bI (l:=Qj) (by decide) 1 (c:=cn) rfl (cQ ((n0,m0),(n1,m1),(n2,m2)) l[q],(st q).2) (hc Qk).2 ?_ ?_ ?_
     .repeat' first|exact aA|refine⟨?_,?_⟩
     .rfl
     conv=>whnf
     repeat(first|(refine⟨⟨_,rfl,rfl⟩,?_⟩;conv=>whnf)|(refine⟨aA,?_⟩;conv=>whnf))
     refine an (λh4=>?_) (λh4=>?_)
     .have h4':dj 0 (Q.cmp (cQ ((n0,m0),(n1,m1),(n2,m2)) l[q]) (st q).2)=true:=h4;have cC:eE ((n0,m0),(n1,m1),(n2,m2)) q l[q] (st q)=(cQ ((n0,m0),(n1,m1),(n2,m2)) l[q],cQ ((n0,m0),(n1,m1),(n2,m2)) l[q]):=(by unfold eE;rw [Qk];simp only [h3',h4']);conv=>whnf
      repeat(first|(refine⟨⟨_,rfl,rfl⟩,?_⟩;conv=>whnf)|(refine⟨aA,?_⟩;conv=>whnf))
      refine⟨q+1,iw,by omega,?_⟩;refine Sub.of (fI [65,66,67]) [] rfl rfl rfl ?_ ?_
      .repeat' first|exact aA|exact rfl|refine And.intro ?_ ?_
       all_goals first|exact bM|(rw [fb q iw,cC];done)|(rw [fb q iw,cC];exact rfl)
      .repeat' first|exact aA|exact rfl|refine And.intro ?_ ?_
       all_goals first|exact bM|(rw [fb q iw,cC];done)|(rw [fb q iw,cC];exact rfl)
     .have h4':dj 0 (Q.cmp (cQ ((n0,m0),(n1,m1),(n2,m2)) l[q]) (st q).2)=false:=h4;have cC:eE ((n0,m0),(n1,m1),(n2,m2)) q l[q] (st q)=(cQ ((n0,m0),(n1,m1),(n2,m2)) l[q],(st q).2):=(by unfold eE;rw [Qk];simp only [h3',h4']);conv=>whnf
      repeat(first|(refine⟨⟨_,rfl,rfl⟩,?_⟩;conv=>whnf)|(refine⟨aA,?_⟩;conv=>whnf))
      refine⟨q+1,iw,by omega,?_⟩;refine Sub.of (fI [65,66,67]) [] rfl rfl rfl ?_ ?_
      .repeat' first|exact aA|exact rfl|refine And.intro ?_ ?_
       all_goals first|exact bM|(rw [fb q iw,cC];done)|(rw [fb q iw,cC];exact rfl)
      .repeat' first|exact aA|exact rfl|refine And.intro ?_ ?_
       all_goals first|exact bM|(rw [fb q iw,cC];done)|(rw [fb q iw,cC];exact rfl)
    .have h3':dj (Q.cmp (cQ ((n0,m0),(n1,m1),(n2,m2)) l[q]) (st q).1) 0=false:=h3;conv=>whnf
     repeat(first|(refine adL Qk ?_;conv=>whnf)|(refine⟨⟨_,rfl,rfl⟩,?_⟩;conv=>whnf)|(refine⟨aA,?_⟩;conv=>whnf))
     refine bI (l:=Qj) (by decide) 1 (c:=cn) rfl (cQ ((n0,m0),(n1,m1),(n2,m2)) l[q],(st q).2) (hc Qk).2 ?_ ?_ ?_
     .repeat' first|exact aA|refine⟨?_,?_⟩
     .rfl
     conv=>whnf
     repeat(first|(refine⟨⟨_,rfl,rfl⟩,?_⟩;conv=>whnf)|(refine⟨aA,?_⟩;conv=>whnf))
     refine an (λh4=>?_) (λh4=>?_)
     .have h4':dj 0 (Q.cmp (cQ ((n0,m0),(n1,m1),(n2,m2)) l[q]) (st q).2)=true:=h4;have cC:eE ((n0,m0),(n1,m1),(n2,m2)) q l[q] (st q)=((st q).1,cQ ((n0,m0),(n1,m1),(n2,m2)) l[q]):=(by unfold eE;rw [Qk];simp only [h3',h4']);conv=>whnf
      repeat(first|(refine⟨⟨_,rfl,rfl⟩,?_⟩;conv=>whnf)|(refine⟨aA,?_⟩;conv=>whnf))
      refine⟨q+1,iw,by omega,?_⟩;refine Sub.of (fI [65,66,67]) [] rfl rfl rfl ?_ ?_
      .repeat' first|exact aA|exact rfl|refine And.intro ?_ ?_
       all_goals first|exact bM|(rw [fb q iw,cC];done)|(rw [fb q iw,cC];exact rfl)
      .repeat' first|exact aA|exact rfl|refine And.intro ?_ ?_
       all_goals first|exact bM|(rw [fb q iw,cC];done)|(rw [fb q iw,cC];exact rfl)
     .have h4':dj 0 (Q.cmp (cQ ((n0,m0),(n1,m1),(n2,m2)) l[q]) (st q).2)=false:=h4;have cC:eE ((n0,m0),(n1,m1),(n2,m2)) q l[q] (st q)=((st q).1,(st q).2):=(by unfold eE;rw [Qk];simp only [h3',h4']);conv=>whnf
      repeat(first|(refine⟨⟨_,rfl,rfl⟩,?_⟩;conv=>whnf)|(refine⟨aA,?_⟩;conv=>whnf))
      refine⟨q+1,iw,by omega,?_⟩;refine Sub.of (fI [65,66,67]) [] rfl rfl rfl ?_ ?_
      .repeat' first|exact aA|exact rfl|refine And.intro ?_ ?_
       all_goals first|exact bM|(rw [fb q iw,cC];done)|(rw [fb q iw,cC];exact rfl)
      .repeat' first|exact aA|exact rfl|refine And.intro ?_ ?_
       all_goals first|exact bM|(rw [fb q iw,cC];done)|(rw [fb q iw,cC];exact rfl)
  .have Lw:q=l.length:=(by have:=bf.1 h1;omega);subst Lw;rw [AX];conv=>whnf
   repeat(first|(refine⟨⟨_,rfl,rfl⟩,?_⟩;conv=>whnf)|(refine⟨aA,?_⟩;conv=>whnf))
   exact aj.same rfl (.aO (.cons (aK.ak (st l.length).1) (.cons (aK.ak (st l.length).2) .nil)))
 .refine Sub.of (fI [65,66,67]) [] rfl rfl rfl ?_ ?_
  .exact pc
  .repeat' first|exact aA|exact rfl|refine And.intro ?_ ?_
   all_goals (rw [Xk];first|exact rfl|exact⟨rfl,rfl⟩)
def WW:List AV:=[.bool false,.bA,.bool false,.bA,.bool false,.bA,.bool false,.bA,.bool false,.bA,.bool false,.bA,.bool false,.bA,.bool false,.bA,.bA]
theorem TU:∀a∈WW,a.jB=true:=by decide
theorem adM:∀a∈WW,DP a:=by
 intro a ha;simp only [WW,List.mem_cons,List.not_mem_nil,or_false,or_self]at ha;rcases ha with rfl|rfl|ha<;>first|exact aA|(rcases ha with rfl|rfl|ha<;>first|exact aA|(subst ha;exact aA)|skip)
 all_goals (repeat' (rcases ha with rfl|ha))<;>first|exact aA|(subst ha;exact aA)
theorem agt (n:Nat) (h0:0<n) (hn:n<=1048576) (B0:Nat) {r:Tr AV} (hr:gH (.cons .bA (.cons (.int .i64 (n:Int)) .nil)) 0 f220.ntmps .leaf=some r):
  @Cw (qi fe 0) prog B0 ⟨prog,220,f220.ntmps,none,@aE (qi fe 0) prog [],0⟩ (oJ f220) r [] ⟨.leaf,pathOf 64⟩
   (QK (fa prog f220 (.slice (pathOf 64) 0 0 n 17) [(pathOf 64,.gl (fQ n (bV WW .nil)) false)] (pathOf 65)) (fa prog f220 (.slice (pathOf 64) 0 0 n 17) [(pathOf 64,.gl (fQ n (bV WW .nil)) false)] (pathOf 65)) (λ_ _ _ _=>False)):=by
 cases hr;have hc:= @ay (qi fe 0) prog ae [] B0;refine @aD (qi fe 0) _ _ _ af rfl rfl hc _ _ _ _ _ _ _ (aB ?_);have hw:ah .i64 (Int.sub (n:Int) 0)=(n:Int):=by
  show ah .i64 ((n:Int) - 0)=_;rw [az (by omega) (by omega)];omega
 refine an (λh1=>?_) (λh1=>?_)
 .refine aC ?_;refine wj (afG (Z:=WW) (n:=n) hw rfl rfl rfl rfl rfl rfl rfl (Nat.le_trans (Nat.mul_le_mul hn (show _<=1048576 by decide)) (by decide)) TU (by omega)) (aC ?_);refine afH (v:= .slice (pathOf 64) 0 0 n 17) ?_ ?_
  .exact aiT (n:=n) rfl rfl rfl (k:= .i64) rfl (by omega)
  refine aC ?_;repeat' first|exact aA|exact rfl|refine And.intro ?_ ?_
 .exfalso;have h1:dj 0 (ah .i64 (Int.sub (n:Int) 0))=false:=h1;rw [hw]at h1;have:=bf.1 h1;omega
def agu (n:Nat):dY ->AV ->Heap ->CR:=jL 220 (.cons .bA (.cons (.int .i64 (n:Int)) .nil)) ⟨.leaf,pathOf 64⟩ (.slice (pathOf 64) 0 0 n 17) ⟨bW [(pathOf 64,.gl (fQ n (bV WW .nil)) false)],pathOf 65⟩ (aE (P:=prog) [])
theorem MG (n:Nat) (h0:0<n) (hn:n<=1048576) (B0:Nat):aW prog B0 (agu n):=
 jM ae 0 (ay ae [] B0) (fn:=f220) rfl rfl rfl rfl (by decide) (agt n h0 hn B0 rfl)
theorem agv (ls:List (List lQ)) (h0:0<ls.flatten.length) (hn:ls.flatten.length<=1048576) (hl:ls.length<=1048576):dA 174 (.cons (bK.list.list.v ls) .nil) (bK.list.v ls.flatten):=by
 refine PF.of_wp af (by decide) (fn:=f174) rfl rfl rfl (.cons (bK.list.list.ak _) .nil) (call:=agu ls.flatten.length) (λB0=>MG _ h0 hn B0) λB0=>?_;have hc:=MG ls.flatten.length h0 hn B0;have cC:∀q (hq:q<ls.length),(ls.take (q+1)).flatten=(ls.take q).flatten++ls[q]:=λq hq=>by
  rw [List.take_succ_eq_append_getElem hq,List.flatten_append,List.flatten_cons,List.flatten_nil,List.append_nil]
 have hle:∀q,(ls.take q).flatten.length<=ls.flatten.length:=λq=>by
  have:=congrArg (λl=>(List.flatten l).length) (List.take_append_drop q ls);simp only [List.flatten_append,List.length_append]at this;omega
 conv=>whnf
 refine Cw.lp (σ:=Unit) af rfl rfl hc ls.length (λq _=>[(0,bK.list.list.v ls),(3,.int .i64 ((ls.take q).flatten.length:Int)),(9,bK.list.list.v ls),(10,.int .i64 (ls.length:Int)),(11,.int .i64 (q:Int))])
  (λq _=>hp [] 64) (λ_ _=>True) () trivial (sb []) (λq _ hq _=>?_)
 conv=>whnf
 refine an (λh1=>?_) (λh1=>?_)
 .have hq:=mY h1;have bM:=mX hq (by omega);have hs:=cC q hq;have hb:=hle (q+1);rw [hs,List.length_append]at hb;have xF:ah .i64 (Int.add ((ls.take q).flatten.length:Int) (ls[q].length:Int))=((ls.take (q+1)).flatten.length:Int):=by
   rw [hs,List.length_append];show ah .i64 (((ls.take q).flatten.length:Int)+(ls[q].length:Int))=_;rw [az (by omega) (by omega)];omega
  conv=>whnf
  refine aG.go q rfl hq (aB ?_);refine⟨_,bK.list.rd rfl hq,aC ?_⟩;refine an (λh2=>?_) (λh2=>?_)
  .exfalso;have h2:dj (ah .i64 (Int.add ((ls.take q).flatten.length:Int) (ls[q].length:Int))) 0=true:=h2;rw [xF]at h2;have:=aQ.1 h2;omega
  .refine aC ?_;exact⟨(),hq,aA,sb []⟩
 .obtain rfl:=ou hq h1;rw [List.take_length];conv=>whnf
  refine pG (hk:=?_);conv=>whnf
  have hZ:(List.replicate ls.flatten.length WW).flatten.length=ls.flatten.length*17:=by
   rw [List.length_flatten,List.map_replicate,List.sum_replicate_nat];rfl
  obtain⟨Z,hZd⟩:∃Z,Z=(List.replicate ls.flatten.length WW).flatten:=⟨_,rfl⟩
  rw [<-hZd]at hZ;have mw:AO.gl (fQ ls.flatten.length (bV WW .nil)) false= .gl (bV (bK.fl (ls.take 0).flatten++Z.drop ((ls.take 0).flatten.length*17)) .nil) false:=by
   rw [zo,<-hZd];show AO.gl (bV Z .nil) false= .gl (bV ([]++Z.drop (0*17)) .nil) false;rw [Nat.zero_mul,List.drop_zero];rfl
  have hpure:∀q,dh (bV (bK.fl (ls.take q).flatten++Z.drop ((ls.take q).flatten.length*17)) .nil):=λq=>by
   refine bX.rX (λa ha=>?_) .nil;rcases List.mem_append.1 ha with ha|ha
   .obtain⟨x,_,ha⟩:=List.mem_flatMap.1 ha;exact bK.dp x a ha
   .have ha:=List.mem_of_mem_drop ha;rw [hZd]at ha;obtain⟨l,hl,ha⟩:=List.mem_flatten.1 ha;rw [(List.mem_replicate.1 hl).2]at ha;exact adM a ha
  refine Cw.lp (σ:=Unit) af rfl rfl hc ls.length (λq _=>[(6,.slice (pathOf 64) 0 (ls.take q).flatten.length ls.flatten.length 17),(25,bK.list.list.v ls),(26,.int .i64 (ls.length:Int)),(27,.int .i64 (q:Int))])
   (λq _=>hp [(64,.gl (bV (bK.fl (ls.take q).flatten++Z.drop ((ls.take q).flatten.length*17)) .nil) false)] 65) (λ_ _=>True) () aA ?_ (λq _ hq _=>?_)
  .have hp0:=hpure 0;rw [AO.gl.injEq]at mw;have mw:=mw.1;exact sb [(64,64)]
  conv=>whnf
  refine an (λh2=>?_) (λh2=>?_)
  .have hq:=mY h2;have bM:=mX hq (by omega);have hs:=cC q hq;have hb:=hle (q+1);have rO:=hb;rw [hs,List.length_append]at hb;conv=>whnf
   refine aG.go q rfl hq (aB ?_);refine⟨_,bK.list.rd rfl hq,aC ?_⟩;refine⟨_,bK.src ls[q],aB ?_⟩;refine wj (afF bK (xs:=(ls.take q).flatten) (ys:=ls[q]) (Z:=Z.drop ((ls.take q).flatten.length*17)) (cap:=ls.flatten.length) rfl ?_ hb ?_) ?_
   .exact Nat.le_trans (Nat.mul_le_mul (Nat.le_trans hb hn) (Nat.le_of_ble_eq_true (m:=1048576) rfl)) (by decide)
   .show ls[q].length*17<=_;rw [List.length_drop,hZ];omega
   have hl1:(ls.take q).flatten.length+ls[q].length=(ls.take (q+1)).flatten.length:=(by rw [hs,List.length_append]);have AM:bV (bK.fl ((ls.take q).flatten++ls[q])++(Z.drop ((ls.take q).flatten.length*17)).drop (ls[q].length*bK.sz)) .nil=bV (bK.fl (ls.take (q+1)).flatten++Z.drop ((ls.take (q+1)).flatten.length*17)) .nil:=by
    rw [List.drop_drop,<-hl1,<-hs,Nat.add_mul];rfl
   have oC:=hpure (q+1);refine aC ?_;exact⟨(),hq,aA,sb [(64,64)]⟩
  .obtain rfl:=ou hq h2;rw [List.take_length];have AX:bV (bK.fl ls.flatten++Z.drop (ls.flatten.length*17)) .nil=bK.l ls.flatten:=by
    rw [List.drop_eq_nil_of_le (by omega),List.append_nil,<-bK.XS]
   rw [AX];refine aC ?_;exact aj.slice rfl (bK.src ls.flatten) (bE.pure (bK.bh _))
def abp:Cn prog:= .lE bK.list.list bK.list 174 false (λls=>0<ls.flatten.length/\ls.flatten.length<=1048576/\ls.length<=1048576) (λls=>ls.flatten) (λe=>by cases e) (λls h=>agv ls h.1 h.2.1 h.2.2) (au rfl rfl)
theorem TV (xs:List _) (hn:xs.length<=1048576):dA 171 (.cons ((aq .i64).list.v xs) .nil) ((aq .i64).list.v xs):=by
 refine PF.ze (c:=_) (by decide) (fn:=f171) rfl rfl rfl (.cons ((aq .i64).list.ak _) .nil) (call:=aE (P:=prog) []) (h0:=⟨.leaf,pathOf 64⟩) (λ_ _ e=>by cases e) rfl (λB0=>?_);have hc:=ay (P:=prog) ae [] B0;cases xs with
 |nil=>
  refine Cw.vo 0 1 rfl ?_ ?_
  .refine aD af rfl rfl hc _ (aB ?_);exact aj.bA
  .refine aD af rfl rfl hc _ (aB ?_);refine⟨.nil,rfl,aB ?_⟩;refine⟨⟨by decide,rfl,rfl⟩,aB ?_⟩;exact(aq .i64).gk (xs:=[]) rfl rfl rfl
 |cons x t=>
  refine aD af rfl rfl hc _ (aB ?_);refine⟨(aq .i64).l (x::t),((aq .i64).kM (xs:=x::t) (i:=(x::t).length) (Nat.le_refl _)).trans (by rw [List.take_length]),aB ?_⟩;refine⟨⟨?_,(aq .i64).lu _,rfl⟩,?_⟩
  .show(0+(x::t).length)*(8+1)<=1099511627776;omega
  conv=>whnf
  exact(aq .i64).gk (xs:=x::t) rfl rfl (Nat.zero_add _)
def He:Cn prog:= .lE (aq .i64).list (aq .i64).list 171 false (λl=>l.length<=1048576) (λl=>l) (λe=>by cases e) TV (au rfl rfl)
theorem TW (xs:List _) (hn:xs.length<=1048576):dA 168 (.cons (jy.list.v xs) .nil) (jy.list.v xs):=by
 refine PF.ze (c:=_) (by decide) (fn:=f168) rfl rfl rfl (.cons (jy.list.ak _) .nil) (call:=aE (P:=prog) []) (h0:=⟨.leaf,pathOf 64⟩) (λ_ _ e=>by cases e) rfl (λB0=>?_);have hc:=ay (P:=prog) ae [] B0;cases xs with
 |nil=>
  refine Cw.vo 0 4 rfl ?_ ?_
  .refine aD af rfl rfl hc _ (aB ?_);exact aj.bA
  .refine aD af rfl rfl hc _ (aB ?_);refine⟨.nil,rfl,aB ?_⟩;refine⟨⟨by decide,rfl,rfl⟩,aB ?_⟩;exact jy.gk (xs:=[]) rfl rfl rfl
 |cons x t=>
  refine aD af rfl rfl hc _ (aB ?_);refine⟨jy.l (x::t),(jy.kM (xs:=x::t) (i:=(x::t).length) (Nat.le_refl _)).trans (by rw [List.take_length]),aB ?_⟩;refine⟨⟨?_,jy.lu _,rfl⟩,?_⟩
  .show(0+(x::t).length)*(32+1)<=1099511627776;omega
  conv=>whnf
  exact jy.gk (xs:=x::t) rfl rfl (Nat.zero_add _)
def Hf:Cn prog:= .lE jy.list jy.list 168 false (λl=>l.length<=1048576) (λl=>l) (λe=>by cases e) TW (au rfl rfl)
def ug:List (Cn prog):=[Hf,ME,Eh,lv,kF,He]
def Ci (m:Ef) (vs:List Q3) (f:lQ):lQ:=(aP (iY m f.1),cQ (aP (iY m f.1)) (vs.getD (f.2.2.headD 0).toNat z3),f.2.2)
def ru (m:Ef) (s:cW):cW:=(s.1.map (oQ m),s.2.1.map (Ci m (s.1.map (oQ m))),s.2.2)
def adN (m:Ef) (vs:List Q3) (f:lQ):Prop:=uf m f.1/\jl (iY m f.1)/\f.2.2.length<=1048575/\∃i:Nat,i<vs.length/\f.2.2.head?=some (i:Int)/\oP (aP (iY m f.1)) (vs.getD i z3)
structure sg (m:Ef) (s:cW):Prop where
 l1:s.1.length<=1048575
 l2:s.2.1.length<=1048575
 l3:s.2.2.length<=1048575
 v:∀q (hq:q<s.1.length),MD m s.1[q]
 f:∀q (hq:q<s.2.1.length),adN m (s.1.map (oQ m)) s.2.1[q]
theorem YM (s:cW) (m:Ef) (h:sg m s):dA 120 (.cons (aL.v s) (.cons (lR.v m) .nil)) (aL.v (ru m s)):=by
 obtain⟨vs,fs,es⟩:=s;obtain⟨l1,l2,l3,hv,hf⟩:=h;have l1:vs.length<=1048575:=l1;have l2:fs.length<=1048575:=l2;have l3:es.length<=1048575:=l3;rw [show ru m (vs,fs,es)=(vs.map (oQ m),fs.map (Ci m (vs.map (oQ m))),es)from rfl];refine PF.go af ae ug (fn:=f120) rfl rfl rfl λB0 hc=>?_;refine aC ?_;refine cg ug 0 Hf es (by show es.length<=_;omega) (aC ?_);refine Cw.lp (σ:=Unit) af rfl rfl hc vs.length (λq _=>[(2,.ptr (pathOf 64) 0),(3,.ptr (pathOf 65) 0),(4,.ptr (pathOf 66) 0),(5,.ptr (pathOf 67) 0),(17,aN.list.v vs),(18,.int .i64 (vs.length:Int)),(19,.int .i64 (q:Int))])
  (λq _=>hp [(64,cl (aL.cs (vs,fs,es))),(65,cl (lR.cs m)),(66,cl [.bA,.bA,.bA]),(67,cl [.gs (pathOf 68) q 12,.bA,jy.list.v es]),(68,.gl (aN.l ((vs.take q).map (oQ m))) false)] 69) (λ_ _=>True) () aA ?_ (λq _ hq _=>?_)
 .exact sb [(64,64),(65,65),(66,66),(67,67),(68,0)]
 conv=>whnf
 refine an (λh1=>?_) (λh1=>?_)
 .have hq:=mY h1;have bM:=mX hq (by omega);conv=>whnf
  refine aG.go q rfl hq (aB ?_);refine⟨_,aN.rd rfl hq,aC ?_⟩;refine cg ug 1 ME (m,vs[q]) (hv q hq) (aC ?_);refine⟨_,rfl,aB ?_⟩;refine⟨aN.ap (gd (Nat.le_of_lt hq)) (by omega),aC ?_⟩;have ha:=aN.pH (oQ m) hq;refine⟨(),hq,aA,sb [(64,64),(65,65),(66,66),(67,67),(68,71)]⟩
 .obtain rfl:=ou hq h1;rw [List.take_length];have hW:(vs.map (oQ m)).length=vs.length:=List.length_map ..;generalize vs.map (oQ m)=W at*;conv=>whnf
  refine Cw.lp (σ:=Unit) af rfl rfl hc fs.length (λq _=>[(2,.ptr (pathOf 64) 0),(3,.ptr (pathOf 65) 0),(4,.ptr (pathOf 66) 0),(5,.ptr (pathOf 67) 0),(33,bK.list.v fs),(34,.int .i64 (fs.length:Int)),(35,.int .i64 (q:Int))])
   (λq _=>hp [(65,cl (lR.cs m)),(66,cl [.bA,.bA,.bA]),(67,cl [.gs (pathOf 68) vs.length 12,.gs (pathOf 69) q 17,jy.list.v es]),(68,.gl (aN.l W) false),(69,.gl (bK.l ((fs.take q).map (Ci m W))) false)] 70) (λ_ _=>True) () aA ?_ (λq _ hq _=>?_)
  .exact sb [(64,64),(65,65),(66,66),(67,67),(68,68),(69,0)]
  conv=>whnf
  refine an (λh1=>?_) (λh1=>?_)
  .have hq:=mY h1;have bM:=mX hq (by omega);obtain⟨k1,k2,k3,i,k4,k5,k6⟩:=hf q hq;have k1:uf m fs[q].1:=k1;have k2:jl (iY m fs[q].1):=k2;have ha:=bK.pH (Ci m W) hq;have hr:∃h0:0<fs[q].2.2.length,fs[q].2.2[0]=(i:Int):=by
    have k5:fs[q].2.2.head?=some (i:Int):=k5;rw [List.head?_eq_getElem?]at k5;exact List.getElem?_eq_some_iff.1 k5
   have h0:=hr.1;have hi:=hr.2;have hg:W.getD i z3=W[i]:=(by rw [List.getD_eq_getElem?_getD,List.getElem?_eq_getElem k4];rfl);have hF:Ci m W fs[q]=(aP (iY m fs[q].1),cQ (aP (iY m fs[q].1)) W[i],fs[q].2.2):=by
    unfold Ci;rw [List.headD_eq_head?_getD,show fs[q].2.2.head?=some (i:Int)from k5,<-hg];rfl
   rw [hF]at ha;rw [hg]at k6;conv=>whnf
   refine aG.go q rfl hq (aB ?_);refine⟨_,bK.rd rfl hq,aC ?_⟩;refine cg ug 2 Eh (m,fs[q].1) k1 (aC ?_);refine cg ug 3 lv (iY m fs[q].1) k2 (aC ?_);refine aG.go 0 rfl h0 (aB ?_);refine⟨_,(aq .i64).rd rfl h0,aC ?_⟩;refine aG.go i hi (hW ▸ k4) (aB ?_);refine⟨_,aN.rd rfl k4,aC ?_⟩;refine cg ug 4 kF (aP (iY m fs[q].1),W[i]) k6 (aC ?_);refine cg ug 5 He fs[q].2.2 (by show fs[q].2.2.length<=_;have:fs[q].2.2.length<=1048575:=k3;omega) (aC ?_);refine⟨_,rfl,aB ?_⟩;refine⟨bK.ap (gd (Nat.le_of_lt hq)) (by omega),aC ?_⟩;refine⟨(),hq,aA,sb [(64,64),(65,65),(66,66),(67,67),(68,68),(69,73)]⟩
  .obtain rfl:=ou hq h1;rw [List.take_length];refine aC ?_;exact .agg (.cons (aN.gk rfl rfl hW.symm) (.cons (bK.gk rfl rfl (List.length_map ..).symm) (.cons (aj.same rfl (jy.list.ak es)) .nil)))
def Ej:Cn prog:= .kz aL lR aL 120 false (λs m=>sg m s) (λs m=>ru m s) (λe=>by cases e) YM (au rfl rfl)
abbrev Az:=Int×Int×Q×Q
def og:bX Az:=(aq .i64).pair ((aq .i64).pair (aK.pair aK))
def tFa:List (Cn prog):=[iC]
def YN (s:Az):Bool:=dj 0 s.2.2.2.1.sign
def zQ (s:Az):Bool:=match gg s.2.2.1.1.sign 0 with|true=>YN s|false=>false
theorem agw (s:Az):dA 95 (.cons (og.v s) .nil) (bj.v (YN s)):=by
 refine PF.go af ae tFa (fn:=f95) rfl rfl rfl λB0 hc=>?_;conv=>whnf
 refine cg tFa 0 iC s.2.2.2 aA (aC ?_);exact aj.same rfl .bool
theorem YO (s:Az):dA 96 (.cons (og.v s) .nil) (bj.v (zQ s)):=by
 refine PF.go af ae tFa (fn:=f96) rfl rfl rfl λB0 hc=>?_;unfold zQ;conv=>whnf
 refine cg tFa 0 iC s.2.2.1 aA (aC ?_);refine an (λh=>?_) (λh=>?_)
 .have h:gg s.2.2.1.1.sign 0=true:=h;rw [h];refine aC ?_;refine cg tFa 0 iC s.2.2.2 aA (aC ?_);exact aj.same rfl .bool
 .have h:gg s.2.2.1.1.sign 0=false:=h;rw [h];refine aC ?_;exact aj.same rfl .bool
end
section
open Go.RowKit Go.Proofs Go.Shelf
attribute [local instance] bJ
def ofB (l:List UInt8):List Nat:=l.map UInt8.toNat
theorem Ku {μ:Mu} (l:List UInt8):dw μ (.str (ofB l)) (.string ⟨l.toArray⟩):=⟨⟨l.toArray⟩,rfl,rfl⟩
theorem adO:Lib.pow10Tab=xl:=by decide
theorem YP {s:Nat ->Option (Array Value)} {w:World} (hs:mD s w) (ht:AD s aY.l):Lib.TabIs prog w "internal/strconv.uint64pow10" .u64 Lib.pow10Tab:=by
 obtain⟨c,vs,h1,h2,h3,h4⟩:=ht 0 (tx .u64 xl,20) rfl (by intro h;cases h);obtain⟨el,fz,h5⟩:=hs 0 c h1;have h6:=xc xl (h3 (tP s));have hc:c=(xl.map (Value.int .u64)).toArray:=by
  apply Array.ext_getElem?;intro k;by_cases hk:k<20
  .have hv:vs[k]?=some (vs[k]'(by rw [h6];simpa [xl]using hk)):=List.getElem?_eq_getElem _;rw [h4 k _ hv,<-hv,h6];simp
  .rw [Array.getElem?_eq_none (by omega),Array.getElem?_eq_none (by simp [xl];omega)]
 unfold Lib.TabIs World.var?;rw [show prog.globalNamed "internal/strconv.uint64pow10" =some 0 from rfl];show(match w.heap[0]? with|some (.cells cs _ _)=>some cs|_=>none)=_;rw [h5,adO,hc]
def gK (n:Int):List Nat:=ofB (Lib.itoa n)
theorem adP (n:Int) (h:Ay n):PF prog 88 (.cons ((aq .i64).v n) .nil) (aR.v (gK n)):=by
 intro sl w hs ht cargs hv;obtain⟨a,r,h1,h2,h3⟩:=hv;have h2:=zK h2;have h3:r=[]:=h3;subst h3 h2;have hc:cargs=#[.int .i64 n]:=by cases cargs;simp at h1;rw [h1]
 subst hc;refine(strconv_Itoa n h.1 (by have:=h.2;omega) w (YP hs ht)).mono λe w' ⟨he,k,os,hw⟩=>?_;have rO:Below w.heap.size w w':=by
  rw [hw];refine⟨⟨rfl,rfl,rfl,?_,λk hk=>?_⟩,λ_=>?_⟩
  .show _<=(_++os).size;rw [Array.size_append];exact Nat.le_add_right _ _
  .show(_++os)[_]?=_;exact Array.getElem?_append_left hk
  .exact Nat.le_add_right _ _
 refine⟨_,sl,he,Grow.refl _ _,λb x e=>?_,Ku _,rO⟩;obtain⟨el,fz,h1⟩:=hs b x e;exact⟨el,fz,(rO.block b (Array.getElem?_eq_some_iff.1 h1).1).trans h1⟩
theorem agx (l:List UInt8):∀c:Nat,ofB (Lib.repeatL l c)=(List.replicate c (l.map UInt8.toNat)).flatten
 |0=>rfl|c+1=>by
  rw [List.replicate_succ,List.flatten_cons,<-agx l c];exact List.map_append
theorem agy (l:List (List UInt8)):Lib.join l []=l.flatten:=by
 unfold Lib.join;induction l with
 |nil=>rfl|cons a l ih=>
  cases l with
  |nil=>simp|cons b l=>rw [List.intercalate_cons_cons,ih];simp
theorem oS (a:List Nat):∀y∈aR.cs a,qa y=true:=λy hy=>by rw [List.mem_singleton.1 hy];rfl
def TX:Cn prog:= .lE (aq .i64) aR 88 true Ay gK (λ_ y=>oS y) adP (rm rfl rfl)
theorem TY (s:List Nat) (c:Int) (h:0<=c/\c<=1000/\s.length<=1000):PF prog 89 (.cons (aR.v s) (.cons ((aq .i64).v c) .nil)) (aR.v (List.replicate c.toNat s).flatten):=by
 intro sl w hs ht cargs hv;obtain⟨a,r,h1,h2,b,q,h3,h4,h5⟩:=hv;obtain⟨bs,rfl,hb⟩:=zJ h2;have h4:=zK h4;have h5:q=[]:=h5;subst h5 h4 h3;have hc:cargs=#[.string bs,.int .i64 c]:=by cases cargs;simp at h1;rw [h1]
 subst hc;obtain⟨c,rfl⟩:∃k:Nat,c=(k:Int):=⟨c.toNat,(Int.toNat_of_nonneg h.1).symm⟩
 have hsz:bs.size=s.length:=by rw [<-hb];simp
 refine(strings_Repeat bs c w (by omega) (by
  rw [hsz];exact Nat.le_trans (Nat.mul_le_mul h.2.2 (show c<=1000 by omega)) (by decide))).mono λe w' ⟨he,hw⟩=>?_
 have rO:Below w.heap.size w w':=⟨hw,λe=>by cases e⟩
 refine⟨_,sl,he,Grow.refl _ _,λb x e=>?_,?_,rO⟩
 .obtain⟨el,fz,h1⟩:=hs b x e;exact⟨el,fz,(rO.block b (Array.getElem?_eq_some_iff.1 h1).1).trans h1⟩
 .have:=Ku (μ:=tP sl) (Lib.repeatL bs.data.toList c);have e:ofB (Lib.repeatL bs.data.toList c)=(List.replicate ((c:Int)).toNat s).flatten:=by
   rw [Int.toNat_natCast,<-hb];exact agx _ _
  rw [e]at this;exact this
def Hg:Cn prog:= .kz aR (aq .i64) aR 89 true (λs c=>0<=c/\c<=1000/\s.length<=1000) (λs c=>(List.replicate c.toNat s).flatten) (λ_ y=>oS y) TY (rm rfl rfl)
theorem MH {μ:Mu}:∀{gs:List (List Nat)} {vs:List Value},cG μ (aR.l gs) vs ->∃xs:List ByteArray,vs=xs.map Value.string/\xs.map (λb=>b.data.toList.map UInt8.toNat)=gs
 |[],vs,h=>by
  have h:vs=[]:=h;exact⟨[],h,rfl⟩
 |g::gs,vs,h=>by
  obtain⟨v,r,e,h1,h2⟩:=(show ∃v r,vs=v::r/\VR μ (.str g) false [v]/\cG μ (aR.l gs) r from h)
  obtain⟨b,rfl,hb⟩:=zJ h1;obtain⟨xs,rfl,hx⟩:=MH h2;exact⟨b::xs,by rw [e];rfl,by rw [List.map_cons,hb,hx]⟩
theorem adQ (gs:List (List Nat)) (h:gs≠[]/\gs.length<=140737488355328/\gs.flatten.length<=140737488355328):PF prog 91 (.cons (aR.list.v gs) (.cons (aR.v []) .nil)) (aR.v gs.flatten):=by
 intro sl w hs ht cargs hv;obtain⟨dE,hn,hfl⟩:=h;obtain⟨a,r,h1,h2,b,q,h3,h4,h5⟩:=hv;obtain⟨sb,rfl,Xm⟩:=zJ h4;have h5:q=[]:=h5;subst h5 h3;obtain⟨vs,xM,wS⟩:=h2;obtain⟨xs,Fv,hx⟩:=MH xM;have IM:xs.length=gs.length:=by rw [<-hx,List.length_map]
 rcases wS with ⟨bk,o,c,ha,hcap,hse⟩|⟨h0,h01,h02⟩
 .injection ha with ha _;subst ha;have hc:cargs=#[.slice (some ⟨bk,o,none⟩) xs.length c,.string sb]:=by cases cargs;simp at h1;rw [h1,IM]
  subst hc;have hse:=hse.resolve_left (λe=>dE (List.length_eq_zero_iff.1 (by rw [<-IM,<-List.length_map (f:=Value.string),<-Fv,e];rfl)));subst Fv;obtain⟨cs,mU,CT⟩:=hse;obtain⟨el,fz,hh⟩:=hs bk cs mU;have hsd:sb.data.toList=[]:=by simpa using Xm
  have hJ:ofB (Lib.join (xs.map (·.data.toList)) sb.data.toList)=gs.flatten:=by
   rw [hsd,<-hx,agy];unfold ofB;rw [List.map_flatten,List.map_map];rfl
  refine(strings_Join bk o c xs sb w (λj x hj=>?_) (Array.getElem?_eq_some_iff.1 hh).1 (by omega) (by omega) ?_).mono λe w' ⟨he,hw⟩=>?_
  .simp only [World.cell?,hh];exact CT j (.string x) (by rw [List.getElem?_map,hj];rfl)
  .have:=congrArg List.length hJ;unfold ofB at this;rw [List.length_map]at this;omega
  have rO:Below w.heap.size w w':=⟨hw,λe=>by cases e⟩
  refine⟨_,sl,he,Grow.refl _ _,λb x e=>?_,?_,rO⟩
  .obtain⟨el,fz,h1⟩:=hs b x e;exact⟨el,fz,(rO.block b (Array.getElem?_eq_some_iff.1 h1).1).trans h1⟩
  .have:=Ku (μ:=tP sl) (Lib.join (xs.map (·.data.toList)) sb.data.toList);rw [hJ]at this;exact this
 .exact absurd (List.length_eq_zero_iff.1 h0) dE
def TZ:Cn prog:= .kz aR.list aR aR 91 true (λgs s=>s=[]/\gs≠[]/\gs.length<=140737488355328/\gs.flatten.length<=140737488355328) (λgs _=>gs.flatten) (λ_ y=>oS y) (λgs s h=>by
 obtain⟨rfl,h⟩:=h;exact adQ gs h) (rm rfl rfl)
end
section
open Go.RowKit Go.Proofs Go.Sort
attribute [local irreducible] Cw aj bE PF Sub
attribute [local instance] fe
structure kG {α:Type} (c:α ->α ->Int):Prop where
 sym:∀x y,c y x= - c x y
 le:∀x y z,c x y<=0 ->c y z<=0 ->c x z<=0
 lt:∀x y z,c x y<0 ->c y z<=0 ->c x z<0
theorem kG.lt' {α:Type} {c:α ->α ->Int} (h:kG c) {x y z:α} (h1:c x y<=0) (h2:c y z<0):c x z<0:=by
 rcases Int.lt_or_le (c x z) 0 with h3|h3
 .exact h3
 .have h4:c z x<=0:=by rw [h.sym x z];omega
  have h5:=h.lt y z x h2 h4;rw [h.sym x y]at h5;omega
theorem kG.swo {α:Type} {c:α ->α ->Int} (h:kG c):SWO λx y=>decide (c x y<0) where
 irrefl x:=by have:=h.sym x x;exact decide_eq_false (by omega)
 trans x y z h1 h2:=by
  have h1:=of_decide_eq_true h1;have h2:=of_decide_eq_true h2;exact decide_eq_true (h.lt x y z h1 (by omega))
 ntrans x y z h1 h2:=by
  have h1:=of_decide_eq_false h1;have h2:=of_decide_eq_false h2;refine decide_eq_false ?_;have:=h.le z y x (by rw [h.sym y z];omega) (by rw [h.sym x y];omega);rw [h.sym x z]at this;omega
def Kv {α:Type} (c d:α ->α ->Int) (x y:α):Int:=match bG (c x y) 0 with|false=>c x y|true=>d x y
theorem Ek {α:Type} {c d:α ->α ->Int} {x y:α} (h:c x y=0):Kv c d x y=d x y:=by
 unfold Kv;rw [show bG (c x y) 0=true from bw.2 h]
theorem El {α:Type} {c d:α ->α ->Int} {x y:α} (h:c x y≠0):Kv c d x y=c x y:=by
 unfold Kv;cases hb:bG (c x y) 0 with
 |false=>rfl|true=>exact absurd (bw.1 hb) h
theorem kG.lex {α:Type} {c d:α ->α ->Int} (h:kG c) (k:kG d):kG (Kv c d):=by
 have key:∀x y,(Kv c d x y<=0↔c x y<0\/(c x y=0/\d x y<=0))/\(Kv c d x y<0↔c x y<0\/(c x y=0/\d x y<0)):=λx y=>by
  by_cases e:c x y=0
  .rw [Ek e];omega
  .rw [El e];omega
 refine⟨λx y=>?_,λx y z=>?_,λx y z=>?_⟩
 .by_cases e:c x y=0
  .rw [Ek e,Ek (by rw [h.sym x y];omega)];exact k.sym x y
  .rw [El e,El (by rw [h.sym x y];omega)];exact h.sym x y
 .rw [(key x y).1,(key y z).1,(key x z).1];rintro (a|⟨a,a'⟩) (b|⟨b,b'⟩)
  .exact .inl (h.lt x y z a (by omega))
  .exact .inl (h.lt x y z a (by omega))
  .exact .inl (h.lt' (by omega) b)
  .have h1:=h.le x y z (by omega) (by omega);have h2:=h.le z y x (by rw [h.sym y z];omega) (by rw [h.sym x y];omega);rw [h.sym x z]at h2;exact .inr ⟨by omega,k.le x y z a' b'⟩
 .rw [(key x y).2,(key y z).1,(key x z).2];rintro (a|⟨a,a'⟩) (b|⟨b,b'⟩)
  .exact .inl (h.lt x y z a (by omega))
  .exact .inl (h.lt x y z a (by omega))
  .exact .inl (h.lt' (by omega) b)
  .have h1:=h.le x y z (by omega) (by omega);have h2:=h.le z y x (by rw [h.sym y z];omega) (by rw [h.sym x y];omega);rw [h.sym x z]at h2;exact .inr ⟨by omega,k.lt x y z a' b'⟩
theorem kG.on {α β:Type} {c:β ->β ->Int} (h:kG c) (f:α ->β):kG λx y=>c (f x) (f y):=
 ⟨λx y=>h.sym _ _,λx y z=>h.le _ _ _,λx y z=>h.lt _ _ _⟩
def gN (q:Q):Q:=(q.1,if q.2<=0 then 0 else q.2)
theorem wu (q:Q):0<Q.dn (gN q):=by
 unfold Q.dn gN;by_cases h:q.2<=0
 .rw [if_pos h];show 0<(if (0:Int)=0 then(1:Int)else 0);decide
 .rw [if_neg h];show 0<if q.2=0 then 1 else q.2;rw [if_neg (by omega)];omega
theorem nG (p q:Q):Q.cmp p q=kD (p.1*Q.dn q) (q.1*Q.dn p):=by
 unfold Q.cmp;split
 .rename_i h;have hw:∀q:Q,Q.whole q=true ->Q.dn q=1:=λq h=>by
   unfold Q.whole at h;have h:=of_decide_eq_true h;unfold Q.dn;split
   .rfl
   .omega
  rw [Bool.and_eq_true]at h;rw [hw p h.1,hw q h.2,Int.mul_one,Int.mul_one]
 .rfl
theorem iD {a b:Int}:(kD a b<0↔a<b)/\(kD a b<=0↔a<=b)/\kD b a= - kD a b:=by
 unfold kD;refine⟨?_,?_,?_⟩<;>(repeat' split)<;>omega
theorem adR:kG λp q=>Q.cmp (gN p) (gN q):=by
 have mul:∀a b c:Int,0<c ->(a*c<b*c↔a<b)/\(a*c<=b*c↔a<=b):=λa b c h=>⟨Int.mul_lt_mul_right h,Int.mul_le_mul_right h⟩
 refine⟨λx y=>?_,λx y z h1 h2=>?_,λx y z h1 h2=>?_⟩
 .show Q.cmp (gN y) (gN x)= - Q.cmp (gN x) (gN y);rw [nG,nG];exact iD.2.2
 .have h1:Q.cmp (gN x) (gN y)<=0:=h1;have h2:Q.cmp (gN y) (gN z)<=0:=h2;show Q.cmp (gN x) (gN z)<=0;rw [nG]at h1 h2 ⊢;have h1:=iD.2.1.1 h1;have h2:=iD.2.1.1 h2;refine iD.2.1.2 ?_;have hx:=wu x;have hy:=wu y;have hz:=wu z;generalize Q.dn (gN x)=dx at*;generalize Q.dn (gN y)=dy at*;generalize Q.dn (gN z)=dz at*;generalize (gN x).1=a at*;generalize (gN y).1=b at*;generalize (gN z).1=c at*;have e1:=(mul _ _ dz hz).2.2 h1;have e2:=(mul _ _ dx hx).2.2 h2;refine(mul _ _ dy hy).2.1 ?_;calc a*dz*dy=a*dy*dz:=by rw [Int.mul_right_comm]
   _<=b*dx*dz:=e1
   _=b*dz*dx:=by rw [Int.mul_right_comm]
   _<=c*dy*dx:=e2
   _=c*dx*dy:=by rw [Int.mul_right_comm]
 .have h1:Q.cmp (gN x) (gN y)<0:=h1;have h2:Q.cmp (gN y) (gN z)<=0:=h2;show Q.cmp (gN x) (gN z)<0;rw [nG]at h1 h2 ⊢;have h1:=iD.1.1 h1;have h2:=iD.2.1.1 h2;refine iD.1.2 ?_;have hx:=wu x;have hy:=wu y;have hz:=wu z;generalize Q.dn (gN x)=dx at*;generalize Q.dn (gN y)=dy at*;generalize Q.dn (gN z)=dz at*;generalize (gN x).1=a at*;generalize (gN y).1=b at*;generalize (gN z).1=c at*;have e1:=(mul _ _ dz hz).1.2 h1;have e2:=(mul _ _ dx hx).2.2 h2;refine(mul _ _ dy hy).1.1 ?_;calc a*dz*dy=a*dy*dz:=by rw [Int.mul_right_comm]
   _<b*dx*dz:=e1
   _=b*dz*dx:=by rw [Int.mul_right_comm]
   _<=c*dy*dx:=e2
   _=c*dx*dy:=by rw [Int.mul_right_comm]
def YQ (v:Q3):Q3:=(gN v.1,gN v.2.1,gN v.2.2)
def oT (a b:Q3):Int:=dH (YQ a) (YQ b)
theorem YR:kG oT:=
 (adR.on (λv:Q3=>v.1)).lex ((adR.on (λv:Q3=>v.2.1)).lex (adR.on (λv:Q3=>v.2.2)))
def Hh (v:Q3):Prop:=0<=v.1.2/\0<=v.2.1.2/\0<=v.2.2.2
theorem zR {q:Q} (h:0<=q.2):gN q=q:=by
 obtain⟨n,d⟩:=q;have h:0<=d:=h;show(n,if d<=0 then 0 else d)=(n,d)
 split
 .rw [show d=0 by omega]
 .rfl
theorem Hi {v:Q3} (h:Hh v):YQ v=v:=by
 unfold YQ;rw [zR h.1,zR h.2.1,zR h.2.2]
theorem Hj {a b:Q3} (ha:Hh a) (hb:Hh b):oT a b=dH a b:=by unfold oT;rw [Hi ha,Hi hb]
theorem Cj {a b:Q3} (ha:Hh a) (hb:Hh b) (h0:dH a b=0 ->a=b) (h1:¬oT a b<0) (h2:¬oT b a<0):a=b:=by
 have h3:oT a b=0:=by have:=YR.sym a b;omega
 rw [Hj ha hb]at h3;exact h0 h3
theorem agz (a b:Q3) (h:ri de a b):dA 178 (.cons (aN.v a) (.cons (aN.v b) .nil)) ((aq .i64).v (dH a b)):=by
 refine PF.go af ae [eX] (fn:=f178) rfl rfl rfl λB0 hc=>?_;conv=>whnf
 refine cg [eX] 0 eX (a,b) h (aC ?_) (hl:=List.nodup_cons.2 ⟨List.not_mem_nil,List.nodup_nil⟩);exact aj.same rfl .int
end
section
attribute [local irreducible] Cw aj bE PF Sub
def nH (gs:List (List Nat)) (i:Nat):List (List Nat):=(List.range gs.length).map λk=>if k<i\/gs.length - i<=k then gs.getD (gs.length - 1 - k) []else gs.getD k []
theorem jx (gs:List (List Nat)) (i:Nat):(nH gs i).length=gs.length:=by simp [nH]
theorem Kw (gs:List (List Nat)):nH gs 0=gs:=by
 apply List.ext_getElem (jx _ _);intro k h1 h2;simp [nH,h2];intro h;omega
theorem Ql (gs:List (List Nat)) (i:Nat) (h:gs.length - 1<=2*i):nH gs i=gs.reverse:=by
 apply List.ext_getElem (by rw [jx,List.length_reverse]);intro k h1 h2;rw [jx]at h1;rw [List.getElem_reverse];simp only [nH,List.getElem_map,List.getElem_range];split
 .rw [List.getD_eq_getElem?_getD,List.getElem?_eq_getElem (by omega)];rfl
 .rw [List.getD_eq_getElem?_getD,List.getElem?_eq_getElem (by omega)];show gs[k]=_;congr 1;omega
theorem Kx (gs:List (List Nat)) (i:Nat) (h:2*i+1<gs.length):((nH gs i).set i (gs.getD (gs.length - 1 - i) [])).set (gs.length - 1 - i) (gs.getD i [])=nH gs (i+1):=by
 apply List.ext_getElem (by rw [List.length_set,List.length_set,jx,jx]);intro k h1 h2;rw [jx]at h2;rw [List.getElem_set,List.getElem_set];simp only [nH,List.getElem_map,List.getElem_range];by_cases e1:gs.length - 1 - i=k
 .rw [if_pos e1,if_pos (by omega),show gs.length - 1 - k=i by omega]
 .rw [if_neg e1];by_cases e2:i=k
  .rw [if_pos e2,if_pos (by omega),e2]
  .rw [if_neg e2];by_cases e3:k<i\/gs.length - i<=k
   .rw [if_pos e3,if_pos (by omega)]
   .rw [if_neg e3,if_neg (by omega)]
theorem Ck {gs:List (List Nat)} {i k:Nat} (hk:k<gs.length) (h:i<=k/\k<gs.length - i):(nH gs i)[k]'(by rw [jx];exact hk)=gs.getD k []:=by
 simp only [nH,List.getElem_map,List.getElem_range];rw [if_neg (by omega)]
section
local instance iK:aY:=qi fe 2
def hRv (neg:Bool) (M:Nat) (gs:List (List Nat)):Heap:=hp [(64,cl [.bool neg,aM.v M]),(65,.gl (aR.l gs) false)] 66
def aRv (gs:List (List Nat)):AV:= .cons (.gs (pathOf 65) gs.length 1) .nil
theorem agA (neg:Bool) (M:Nat) (gs:List (List Nat)) (h0:0<gs.length) (hn:gs.length<=1048575) (B0:Nat) {r:Tr AV} (hr:gH (aRv gs) 0 f90.ntmps .leaf=some r):
  @Cw iK prog B0 ⟨prog,90,f90.ntmps,none,aE (P:=prog) [],0⟩ (oJ f90) r [] (hRv neg M gs)
   (QK (fa prog f90 (.aO .nil) [(pathOf 64,cl [.bool neg,aM.v M]),(pathOf 65,.gl (aR.l gs.reverse) false)] (pathOf 66)) (fa prog f90 (.aO .nil) [(pathOf 64,cl [.bool neg,aM.v M]),(pathOf 65,.gl (aR.l gs.reverse) false)] (pathOf 66)) (λ_ _ _ _=>False)):=by
 cases hr;have hc:= @ay iK prog ae [] B0;refine aD af rfl rfl hc _ (aB ?_);have hj0:ah .i64 (Int.sub (gs.length:Int) 1)=((gs.length - 1 - 0:Nat):Int):=by
  show ah .i64 ((gs.length:Int) - 1)=_;rw [az (by omega) (by omega)];omega
 refine Cw.loop (ι:=Nat) (λi=>bm [(0,.gs (pathOf 65) gs.length 1),(2,.int .i64 (i:Int)),(3,.int .i64 ((gs.length - 1 - i:Nat):Int))]) (λ_=>[]) (λi=>hp [(64,cl [.bool neg,aM.v M]),(65,.gl (aR.l (nH gs i)) false)] 66)
  (λi=>2*i<=gs.length) (λi=>gs.length - i) ?_ 0 (Nat.zero_le _) ?_
 .intro i hi;have hi:2*i<=gs.length:=hi;refine aD af rfl rfl hc _ (aB ?_);refine an (λh1=>?_) (λh1=>?_)
  .have h1:i<gs.length - 1 - i:=mY h1;have bM:=mX (show i<gs.length by omega) (by omega);have XP:ah .i64 (Int.sub ((gs.length - 1 - i:Nat):Int) 1)=((gs.length - 1 - (i+1):Nat):Int):=by
    show ah .i64 (((gs.length - 1 - i:Nat):Int) - 1)=_;rw [az (by omega) (by omega)];omega
   have hL:=jx gs i;have g1:=Ck (gs:=gs) (i:=i) (k:=i) (by omega) ⟨Nat.le_refl _,by omega⟩;have g2:=Ck (gs:=gs) (i:=i) (k:=gs.length - 1 - i) (by omega) ⟨by omega,by omega⟩;have hs:=Kx gs i (by omega);conv=>whnf
   refine aG.go (gs.length - 1 - i) rfl (by omega) (aB ?_);refine⟨_,(aR.rd rfl (by omega:gs.length - 1 - i<(nH gs i).length)).trans (congrArg (λx=>some (aR.v x)) g2),aB ?_⟩;refine aG.go i rfl (by omega) (aB ?_);refine⟨_,(aR.rd rfl (by omega:i<(nH gs i).length)).trans (congrArg (λx=>some (aR.v x)) g1),aB ?_⟩;refine aG.go i rfl (by omega) (aB ?_);refine aR.st (gs.getD (gs.length - 1 - i) []) (by omega) (aB ?_);refine aG.go (gs.length - 1 - i) rfl (by omega) (aB ?_);refine aR.st (gs.getD i []) (by rw [List.length_set];omega) ?_;have wS:=congrArg aR.l hs;conv=>whnf
   refine⟨i+1,by show 2*(i+1)<=gs.length;omega,by show gs.length - (i+1)<gs.length - i;omega,sb [(64,64),(65,65)]⟩
  .have h1:((gs.length - 1 - i:Nat):Int)<=(i:Int):=bf.1 h1;have he:=Ql gs i (by omega);rw [he];conv=>whnf
   exact⟨rfl,rfl,rfl,rfl,aA⟩
 .have wS:=congrArg aR.l (Kw gs).symm;exact sb [(64,64),(65,65)]
end
attribute [local instance] bJ
def grp (m:Nat):List Nat:=match dj 0 (nd (m/1000000000):Int)with
 |true=>(List.replicate (9 - (gK ((m % 1000000000:Nat):Int)).length) [48]).flatten++gK ((m % 1000000000:Nat):Int)|false=>gK ((m % 1000000000:Nat):Int)
def Be:Nat ->Nat ->List (List Nat)
 |0,_=>[]
 |f+1,m=>if m=0 then []else grp m::Be f (m/1000000000)
def fK (m:Nat):List (List Nat):=Be m m
theorem Hk:∀(f g m:Nat),m<=f ->m<=g ->Be f m=Be g m
 |0,g,m,h,_=>by
  obtain rfl:m=0:=by omega
  cases g<;>rfl
 |f+1,0,m,_,h=>by
  obtain rfl:m=0:=by omega
  rfl
 |f+1,g+1,m,h1,h2=>by
  unfold Be;split
  .rfl
  .rw [Hk f g (m/1000000000) (by omega) (by omega)]
theorem wx {m:Nat} (h:m≠0):fK m=grp m::fK (m/1000000000):=by
 obtain⟨k,rfl⟩:∃k,m=k+1:=⟨m - 1,by omega⟩
 show Be (k+1) (k+1)=_;unfold Be;rw [if_neg h,Hk k ((k+1)/1000000000) _ (by omega) (Nat.le_refl _)];rfl
theorem Qm:fK 0=[]:=rfl
theorem Hl:∀(k m:Nat),m<65536 ^ k ->(fK m).length<=k
 |0,m,h=>by
  obtain rfl:m=0:=by simpa using h
  exact Nat.le_refl _
 |k+1,m,h=>by
  by_cases h0:m=0
  .subst h0;exact Nat.zero_le _
  .rw [wx h0,List.length_cons];refine Nat.succ_le_succ (Hl k _ ?_);rw [Nat.div_lt_iff_lt_mul (by decide)];rw [Nat.pow_succ]at h;exact Nat.lt_of_lt_of_le h (Nat.mul_le_mul_left _ (by decide))
theorem MI (m:Nat):(fK m).length<=2*nd m:=by
 refine Hl _ _ ?_;have:=dG m;rw [show(4294967296:Nat)=65536 ^ 2 by decide,<-Nat.pow_mul]at this;exact this
theorem abq {r:Nat} (h:r<1000000000):(gK (r:Int)).length<=9:=by
 unfold gK ofB;rw [List.length_map];unfold Lib.itoa;rw [if_neg (by omega),Int.toNat_natCast,Lib.decDigits_length];rcases Nat.lt_or_ge (Lib.nDigits r) 10 with h1|h1
 .omega
 .exfalso;have h2:10 ^ 9<=r:=by
   have hn:Lib.nDigits r<=Lib.nDigits r:=Nat.le_refl _;obtain⟨k,hk⟩:∃k,Lib.nDigits r=k+1:=⟨Lib.nDigits r - 1,by omega⟩
   by_cases hr:r<10
   .rw [Lib.nDigits_small hr]at h1;omega
   .exact Nat.le_trans (Nat.pow_le_pow_right (by decide) (show 9<=k by omega)) (MJ k r hk hr)
  omega
where
 MJ:∀(k r:Nat),Lib.nDigits r=k+1 ->¬r<10 ->10 ^ k<=r
 |0,r,h,hr=>by omega
 |k+1,r,h,hr=>by
  rw [Lib.nDigits_big hr]at h;by_cases h2:r/10<10
  .rw [Lib.nDigits_small h2]at h;obtain rfl:k=0:=by omega
   show 10 ^ 1<=r;omega
  .have:=MJ k (r/10) (by omega) h2;rw [Nat.pow_succ];omega
theorem YS (m:Nat):(grp m).length<=9:=by
 have h:=abq (Nat.mod_lt m (show 0<1000000000 by decide));unfold grp;split
 .rw [List.length_append,List.length_flatten,List.map_replicate,List.sum_replicate_nat];show(9 - _)*1+_<=9;omega
 .exact h
theorem Cl (m:Nat):(fK m).flatten.length<=9*(fK m).length:=by
 unfold fK;generalize m=f at*
 suffices ∀f m,(Be f m).flatten.length<=9*(Be f m).length from this f f
 intro f;induction f with
 |zero=>intro m;exact Nat.le_refl _|succ f ih=>
  intro m;unfold Be;split
  .exact Nat.le_refl _
  .rw [List.flatten_cons,List.length_append,List.length_cons];have:=YS m;have:=ih (m/1000000000);omega
def ng (z:Int):List Nat:=if z=0 then [48]else match decide (z<0)with|true=>45::(fK z.natAbs).reverse.flatten|false=>(fK z.natAbs).reverse.flatten
def wy (z:Int):Prop:=nd z.natAbs<=500000
def Ky:List (Cn prog):=[Cn.lift bJ vx,TX,Hg,TZ]
def cRv (neg:Bool) (M:Nat):dY ->AV ->Heap ->CR:=jL 90 (aRv (fK M)) (hRv neg M (fK M)) (.aO .nil) ⟨bW [(pathOf 64,cl [.bool neg,aM.v M]),(pathOf 65,.gl (aR.l (fK M).reverse) false)],pathOf 66⟩ (aE Ky)
theorem Ua (neg:Bool) (M:Nat) (h0:0<(fK M).length) (hn:(fK M).length<=1048575) (B0:Nat):aW prog B0 (cRv neg M):=
 Pr (T0:=fe) rfl ae 2 (ay ae Ky B0) (fn:=f90) rfl rfl rfl rfl (Nat.le_refl _) (agA neg M (fK M) h0 hn B0 rfl)
theorem adS (z:Int) (h:wy z):PF prog 49 (.cons (aX.v z) .nil) (aR.v (ng z)):=by
 by_cases hz:z=0
 .subst hz;refine PF.go af ae Ky (fn:=f49) rfl rfl rfl λB0 hc=>?_;conv=>whnf
  exact aj.pure (aR.ak _)
 have hz':z.natAbs≠0:=λe=>hz (Int.natAbs_eq_zero.1 e);have hl:=MI z.natAbs;have h:nd z.natAbs<=500000:=h;have h0:0<(fK z.natAbs).length:=by rw [wx hz'];exact Nat.succ_pos _
 have hv:ng z=match decide (z<0)with|true=>45::(fK z.natAbs).reverse.flatten|false=>(fK z.natAbs).reverse.flatten:=if_neg hz
 have hfl:=Cl z.natAbs;refine PF.of_wp af (by decide) (fn:=f49) rfl rfl rfl (.cons (aX.ak _) .nil) (call:=cRv (decide (z<0)) z.natAbs) (λB0=>Ua _ _ h0 (by omega) B0) λB0=>?_;have hc:=Ua (decide (z<0)) z.natAbs h0 (by omega) B0;rw [hv];have hd0:(dg z.natAbs).length=nd z.natAbs:=br _;conv=>whnf
 refine an (λh1=>?_) (λh1=>?_)
 .exfalso;have h1:bG ((dg z.natAbs).length:Int) 0=true:=h1;rw [hd0]at h1;have h1:=bw.1 h1;have:=pF hz';omega
 conv=>whnf
 refine Cw.loop (ι:=Nat×List (List Nat)) (λq=>bm [(1,.ptr (pathOf 64) 0),(3,.gs (pathOf 65) q.2.length 1),(4,aM.v q.1)]) (λ_=>[]) (λq=>hp [(64,cl [.bool (decide (z<0)),aM.v z.natAbs]),(65,.gl (aR.l q.2) false)] 66)
  (λq=>q.2++fK q.1=fK z.natAbs/\nd q.1<=500000) (λq=>q.1) ?_ (z.natAbs,[]) ⟨rfl,h⟩ (sb [(64,64),(65,0)])
 rintro ⟨m,gs⟩ ⟨hq,hm⟩;have hq:gs++fK m=fK z.natAbs:=hq;have hm:nd m<=500000:=hm;refine aD af rfl rfl hc _ ?_;have hdm:(dg m).length=nd m:=br _;conv=>whnf
 refine an (λh2=>?_) (λh2=>?_)
 .have h2:dj 0 ((dg m).length:Int)=true:=h2;rw [hdm]at h2;have h2:=aQ.1 h2;have hm0:m≠0:=λe=>by subst e;exact absurd h2 (by decide)
  have hqd:nd (m/1000000000)<=500000:=Nat.le_trans (pJ (Nat.div_le_self _ _)) hm;have hr:m % 1000000000<1000000000:=Nat.mod_lt _ (by decide);rw [wx hm0]at hq;have hgl:gs.length<1048575:=by
   have:=congrArg List.length hq;rw [List.length_append,List.length_cons]at this;omega
  have cJ:m/1000000000<m:=Nat.div_lt_self (by omega) (by decide);have hrl:=abq hr;conv=>whnf
  refine gJ (by decide) (cg Ky 0 (Cn.lift bJ vx) (m,(1000000000:Int)) ⟨by show nd m<_;omega,by show(0:Int)<1000000000;decide,by show(1000000000:Int)<4294967296;decide⟩ (aB ?_));have ajj:ah .i64 ((m % 1000000000:Nat):Int)=((m % 1000000000:Nat):Int):=az (by omega) (by omega);refine gJ (by decide) (cg Ky 1 TX ((m % 1000000000:Nat):Int) ⟨by omega,by omega⟩ (has:=?_) ?_);rotate_left
  .exact congrArg (λx=>AV.cons (.int .i64 x) .nil) ajj.symm
  conv=>whnf
  refine an (λh3=>?_) (λh3=>?_)
  .have h3:dj 0 ((dg (m/1000000000)).length:Int)=true:=h3;rw [br]at h3;have hg:grp m=(List.replicate (9 - (gK ((m % 1000000000:Nat):Int)).length) [48]).flatten++gK ((m % 1000000000:Nat):Int):=(by unfold grp;rw [h3]);rw [hg]at hq;have h9:ah .i64 (Int.sub 9 ((gK ((m % 1000000000:Nat):Int)).length:Int))=((9 - (gK ((m % 1000000000:Nat):Int)).length:Nat):Int):=by
    show ah .i64 (9 - ((gK ((m % 1000000000:Nat):Int)).length:Int))=_;rw [az (by omega) (by omega)];omega
   conv=>whnf
   refine gJ (by decide) (cg Ky 2 Hg ([48],((9 - (gK ((m % 1000000000:Nat):Int)).length:Nat):Int)) ⟨Int.natCast_nonneg _,by show((9 - _:Nat):Int)<=1000;omega,by show 1<=1000;decide⟩ (has:=?_) ?_);rotate_left
   .exact congrArg (λx=>AV.cons (.str [48]) (.cons (.int .i64 x) .nil)) h9.symm
   refine aC ?_;refine nw ?_ (by
    show(List.replicate (9 - (gK ((m % 1000000000:Nat):Int)).length) [48]).flatten.length+_<=9223372036854775807;rw [List.length_flatten,List.map_replicate,List.sum_replicate_nat];show(9 - _)*1+_<=_;omega)
   refine aC ?_;refine⟨_,rfl,aB ?_⟩;refine⟨aR.ap (q:=gs.length) rfl (by omega),?_⟩;have Kz:=aR.wg gs ((List.replicate (9 - (gK ((m % 1000000000:Nat):Int)).length) [48]).flatten++gK ((m % 1000000000:Nat):Int));have ajk:gs.length+1=(gs++[(List.replicate (9 - (gK ((m % 1000000000:Nat):Int)).length) [48]).flatten++gK ((m % 1000000000:Nat):Int)]).length:=(by rw [List.length_append];rfl);refine aC ?_;refine⟨(m/1000000000,gs++[(List.replicate (9 - (gK ((m % 1000000000:Nat):Int)).length) [48]).flatten++gK ((m % 1000000000:Nat):Int)]),⟨?_,hqd⟩,cJ,sb [(64,64),(65,67)]⟩;rw [<-hq,List.append_assoc];rfl
  .have h3:dj 0 ((dg (m/1000000000)).length:Int)=false:=h3;rw [br]at h3;have hg:grp m=gK ((m % 1000000000:Nat):Int):=(by unfold grp;rw [h3]);rw [hg]at hq;refine aC ?_;refine⟨_,rfl,aB ?_⟩;refine⟨aR.ap (q:=gs.length) rfl (by omega),?_⟩;have Kz:=aR.wg gs (gK ((m % 1000000000:Nat):Int));have ajk:gs.length+1=(gs++[gK ((m % 1000000000:Nat):Int)]).length:=(by rw [List.length_append];rfl);refine aC ?_;refine⟨(m/1000000000,gs++[gK ((m % 1000000000:Nat):Int)]),⟨?_,hqd⟩,cJ,sb [(64,64),(65,67)]⟩;rw [<-hq,List.append_assoc];rfl
 .have h2:dj 0 ((dg m).length:Int)=false:=h2;rw [hdm]at h2;have h2:=bf.1 h2;obtain rfl:m=0:=by
   by_cases e:m=0
   .exact e
   .have:=pF e;omega
  rw [Qm,List.append_nil]at hq;rw [hq];have hrl:(fK z.natAbs).reverse.length=(fK z.natAbs).length:=List.length_reverse;have dE:(fK z.natAbs).reverse≠[]:=λe=>by rw [e]at hrl;simp at hrl;omega
  have akt:(fK z.natAbs).reverse.flatten.length<=9*(fK z.natAbs).length:=by
   refine Nat.le_trans (Nat.le_of_eq ?_) hfl;rw [List.length_flatten,List.length_flatten,List.map_reverse,List.sum_reverse]
  conv=>whnf
  refine pG (hk:=?_);conv=>whnf
  refine gJ (by decide) (cg Ky 3 TZ ((fK z.natAbs).reverse,[]) ⟨rfl,dE,by show(fK z.natAbs).reverse.length<=_;omega,by show(fK z.natAbs).reverse.flatten.length<=_;omega⟩ (hbor:=?_) (has:=?_) ?_);rotate_left
  .have rO:(aR.l (fK z.natAbs).reverse).len=(fK z.natAbs).length*1:=(by rw [aR.ep,hrl];rfl);repeat' first|exact aA|exact rO|exact rO.symm|exact rfl|refine And.intro ?_ ?_
  .show AV.cons (.ro (fK z.natAbs).reverse.length (aR.l (fK z.natAbs).reverse)) _= .cons (.ro (fK z.natAbs).length (aR.l (fK z.natAbs).reverse)) _;rw [hrl];rfl
  conv=>whnf
  refine an (λh4=>?_) (λh4=>?_)
  .have h4:decide (z<0)=true:=h4;rw [h4];conv=>whnf
   refine nw (aC ?_) (by show 1+(fK z.natAbs).reverse.flatten.length<=9223372036854775807;omega);exact aj.pure (aR.ak _)
  .have h4:decide (z<0)=false:=h4;rw [h4];refine aC ?_;exact aj.pure (aR.ak _)
def Em:Cn prog:= .lE aX aR 49 true wy ng (λ_ y=>oS y) adS (au rfl rfl)
end
section
attribute [local irreducible] Cw aj bE PF Sub
def Cn.of3 [aY] {P:Program} {α β γ ρ:Type} (A:bX α) (B:bX β) (C:bX γ) (R:bX ρ) (f:FuncId) (flat:Bool) (ok:α ->β ->γ ->Prop) (g:α ->β ->γ ->ρ) (fl:flat=true ->∀y,∀a∈R.cs y,qa a=true) (pf:∀a b c,ok a b c ->PF P f (.cons (A.v a) (.cons (B.v b) (.cons (C.v c) .nil))) (R.v (g a b c))) (bd:∃fn,P.funcs[f]?=some fn/\fn.body.isSome=true):Cn P where
 f:=f
 flat:=flat
 α:=α×β×γ
 aZs:=λa=> .cons (A.v a.1) (.cons (B.v a.2.1) (.cons (C.v a.2.2) .nil))
 v:=λa=>R.v (g a.1 a.2.1 a.2.2)
 ok:=λa=>ok a.1 a.2.1 a.2.2
 inj:=λa b _ _ h=>by injection h with h1 h;injection h with h2 h;injection h with h3 _;rw [A.aZ h1,B.aZ h2,C.aZ h3]
 dp:=λa=>⟨A.eK _,B.eK _,C.eK _,aA⟩
 pv:=λa=>R.ak _
 fl:=λe a=>R.zl _ (fl e _)
 pf:=λa h=>pf a.1 a.2.1 a.2.2 h
 bd:=bd
attribute [local instance] fe
def gp (s:cW) (n:Q3):Q×Q:=oR n 0 s.1 ((0,0),(0,0))
def Cm (s:cW) (n:Q3):Prop:=s.1.length<=1000000/\Hc n 0 s.1 ((0,0),(0,0))
def pR:Cn prog:= .Gr aL aN aK aK 167 Cm (λs n=>(gp s n).1) (λs n=>(gp s n).2) (λs n h=>TT s.1 s.2.1.length s.2.2.length (bK.l s.2.1) (jy.l s.2.2) n (Nat.le_trans h.1 (by decide)) h.2) (au rfl rfl)
def lS (s:cW):List AV:=[aN.list.v s.1,bK.list.v s.2.1,jy.list.v s.2.2]
end
section
attribute [local irreducible] Cw aj bE PF Sub
attribute [local instance] bJ
theorem Hm {z:Int} (h:wy z):(ng z).length<=10000000:=by
 have h:nd z.natAbs<=500000:=h;have h1:=MI z.natAbs;have h2:=Cl z.natAbs;have h3:(fK z.natAbs).reverse.flatten.length=(fK z.natAbs).flatten.length:=by rw [List.length_flatten,List.length_flatten,List.map_reverse,List.sum_reverse]
 unfold ng;split
 .decide
 .split
  .rw [List.length_cons];omega
  .omega
def uh (q:Q):List Nat:=match Q.whole q with|true=>ng q.1|false=>(ng q.1++[47])++ng q.2
def zS (q:Q):Prop:=SZ q.2/\wy q.1/\wy q.2
def Ub:List (Cn prog):=[Cn.lift bJ jf,Em]
theorem Uc (q:Q) (h:zS q):PF prog 20 (.cons (aK.v q) .nil) (aR.v (uh q)):=by
 obtain⟨n,d⟩:=q;obtain⟨h0,h1,h2⟩:=h;have l1:(ng n).length<=10000000:=Hm h1;have l2:(ng d).length<=10000000:=Hm h2;have l3:(ng n++[47]).length=(ng n).length+1:=List.length_append;refine PF.go af ae Ub (fn:=f20) rfl rfl rfl λB0 hc=>?_;unfold uh;conv=>whnf
 refine cg Ub 0 (Cn.lift bJ jf) (n,d) h0 (aB ?_);refine an (λh3=>?_) (λh3=>?_)
 .have h3:Q.whole (n,d)=true:=h3;rw [h3];refine aC ?_;refine cg Ub 1 Em n h1 (aC ?_);exact aj.pure (aR.ak _)
 .have h3:Q.whole (n,d)=false:=h3;rw [h3];refine aC ?_;refine cg Ub 1 Em n h1 (aC ?_);refine nw (aC ?_) (show(ng n).length+1<=9223372036854775807 by omega);refine cg Ub 1 Em d h2 (aB ?_);repeat(first|(refine nw ?_;conv=>whnf)|(refine nw ?_ (show(ng n).length+1<=9223372036854775807 by omega);conv=>whnf)|(refine nw ?_ (show(ng n++[47]).length+(ng d).length<=9223372036854775807 by omega);conv=>whnf))
  exact aj.pure (aR.ak _)
def oU:Cn prog:= .lE aK aR 20 true zS uh (λ_ y=>oS y) Uc (au rfl rfl)
abbrev Pnt:=List Nat×List Nat×List Nat
def iE:bX Pnt:=aR.pair (aR.pair aR)
def jz (v:Q3):Pnt:=(uh v.1,uh v.2.1,uh v.2.2)
def YT:List (Cn prog):=[oU]
def qc (v:Q3):Prop:=zS v.1/\zS v.2.1/\zS v.2.2
theorem YU (v:Q3) (h:qc v):PF prog 8 (.cons (aN.v v) .nil) (iE.v (jz v)):=by
 obtain⟨a,b,c⟩:=v;obtain⟨h1,h2,h3⟩:=h;refine PF.go af ae YT (fn:=f8) rfl rfl rfl λB0 hc=>?_;conv=>whnf
 refine Cw.bL af rfl rfl hc 4 (aB ?_);refine cg YT 0 oU a h1 (aC ?_);refine cg YT 0 oU b h2 (aC ?_);refine cg YT 0 oU c h3 (aC ?_);exact aj.pure (iE.ak (jz (a,b,c)))
theorem Ud (y:Pnt):∀a∈iE.cs y,qa a=true:=by
 intro a ha;have ha:a∈[AV.str y.1,.str y.2.1,.str y.2.2]:=ha;simp only [List.mem_cons,List.not_mem_nil,or_false]at ha;rcases ha with rfl|rfl|rfl<;>rfl
def nI:Cn prog:= .lE aN iE 8 true qc jz (λ_ y=>Ud y) YU (au rfl rfl)
def Bf:Nat ->Nat ->Nat
 |0,_=>0|f+1,m=>match Nat.beq (m % 2) 1 with|true=>0|false=>Bf f (m/2)+1
def ajl:List (AV×AV):=(List.range 255).map λi=>(.cons ((aq .u64).v ((i+1:Nat):Int)) .nil,(aq .i64).v ((Bf 8 (i+1):Nat):Int))
theorem adT:cP prog (λ_ _ _=>none) 267 ajl=true:=by decide+kernel
theorem YV (B0:Nat):xB prog B0 (λ_ _ _=>none):=λt xs h v h' e=>by cases e
theorem agB (m:Nat) (h:0<m/\m<256):PF prog 267 (.cons ((aq .u64).v (m:Int)) .nil) ((aq .i64).v ((Bf 8 m:Nat):Int)):=by
 have key:=cm af ae YV (by decide) adT;refine(key (.cons ((aq .u64).v ((m:Nat):Int)) .nil,(aq .i64).v ((Bf 8 m:Nat):Int)) (List.mem_map.2 ⟨m - 1,List.mem_range.2 (by omega),?_⟩)).1;rw [show m - 1+1=m by omega]
def abr:Cn prog:= .lE (aq .u64) (aq .i64) 267 true (λn=>0<n/\n<256) (λn=>((Bf 8 n.toNat:Nat):Int)) (cM _) (λn h=>by
 have:=agB n.toNat (by omega);rw [Int.toNat_of_nonneg (by omega)]at this;exact this) (au rfl rfl)
def sY:List (Cn prog):=[abr,Cn.lift bJ nC,Cn.lift bJ pK,Cn.lift bJ vy]
def rv:Nat ->Nat ->List Int ->Option (List Int)
 |0,_,_=>none|f+1,m,acc=>match Nat.beq m 0 with|true=>some acc|false=>rv f (Nat.land m (m - 1)) (acc++[((Bf 8 m:Nat):Int)])
def kW (l:List V3) (n last:V3) (li i nx:Int):Option Int:=
 match bG i li with
 |true=>some nx|false=>(match dj nx 0 with
  |true=>some i|false=>(match l[nx.toNat]?,l[i.toNat]? with
   |some a,some b=>some (match dj (iW n (eD (bU a last) (bU b last))) 0 with
    |true=>i|false=>(match bG (iW n (eD (bU a last) (bU b last))) 0 with
     |true=>(match dj (iW (bU a last) (bU a last)) (iW (bU b last) (bU b last))with|true=>i|false=>nx)
     |false=>nx))
   |_,_=>none))
def iO (l:List V3) (n last:V3) (li:Int):List Int ->Int ->Option Int
 |[],nx=>some nx|i::r,nx=>(kW l n last li i nx).bind (iO l n last li r)
def YW (l:List V3) (i:Int):Option V3:=match gg 0 i with|true=>l[i.toNat]?|false=>none
def jT (l:List V3) (n:V3) (on:List Int) (i0:Int):Nat ->List Int ->Option (List Int)
 |0,_=>none|f+1,out=>match out.getLast? with
  |none=>none|some li=>(match YW l li with
   |none=>none|some last=>(match iO l n last li on (-1)with
    |none=>none|some nx=>(match bG nx i0 with|true=>some out|false=>jT l n on i0 f (out++[nx]))))
def nJ (l:List V3) (n:V3) (m:Nat):Option (List Int):=
 match rv 9 m []with
 |some (i::r)=>(match (i::r).all λj=>gg 0 j &&dj j (l.length:Int)with|true=>jT l n (i::r) i 65 [i]|false=>none)
 |_=>none
theorem nv {p q:Prop} (k:q) (h:p:=by first|exact⟨_,rfl,rfl⟩|exact aA|exact⟨_,bR.rd (P:=prog) (t:=72) rfl (by assumption),bR.rd (P:=prog) (t:=72) rfl (by assumption)⟩|exact rfl):p/\q:=⟨h,k⟩
theorem sZ {p q:Prop} (h:q) (e:(True ->q) ->p:=by intro hq;(conv=>whnf);(repeat(refine nv ?_;conv=>whnf));exact hq trivial):p:=e λ_=>h
theorem adU (l:List V3) (n:V3) (m:Nat) (r:List Int) (hl:l.length<=4294967296) (hm:m<256) (h:nJ l n m=some r):PF prog 211 (.cons (bR.list.v l) (.cons (bY.v (n,(m:Int))) .nil)) ((aq .i64).list.v r):=by
 unfold nJ at h;cases hb:rv 9 m []with
 |none=>rw [hb]at h;cases h|some on=>
 rw [hb]at h;cases on with
 |nil=>cases h|cons i0 on'=>
 have h:(match (i0::on').all λj=>gg 0 j &&dj j (l.length:Int)with|true=>jT l n (i0::on') i0 65 [i0]|false=>none)=some r:=h;cases hal:(i0::on').all λj=>gg 0 j &&dj j (l.length:Int)with
 |false=>rw [hal]at h;cases h|true=>
 rw [hal]at h;have h:jT l n (i0::on') i0 65 [i0]=some r:=h;have dC:∀j∈i0::on',0<=j/\j<(l.length:Int):=λj hj=>by
  have:=List.all_eq_true.1 hal j hj;simp only [Bool.and_eq_true]at this;exact⟨cA.1 this.1,aQ.1 this.2⟩
 generalize hon:i0::on'=on at*;obtain⟨n0,n1,n2⟩:=n;refine PF.of_wp (c:=_) af (by decide) (fn:=f211) rfl rfl rfl (.cons (bR.list.ak _) (.cons (bY.ak _) .nil)) (call:=aE sY) (λB0=>ay ae sY B0) ?_;intro B0;have hc:=ay (P:=prog) ae sY B0;conv=>whnf
 refine Cw.loop (ι:=Nat×Nat×List Int) (λq=>bm [(0,bR.list.v l),(3,.ptr (pathOf 64) 0),(5,.gs (pathOf 65) q.2.2.length 1),(6,.int .u64 (q.2.1:Int))]) (λ_=>[]) (λq=>⟨bW [(pathOf 64,.cells (bm [(0,.int .i64 n0),(1,.int .i64 n1),(2,.int .i64 n2),(3,.int .u64 (m:Int))]) 4 false),(pathOf 65,.gl ((aq .i64).l q.2.2) false)],pathOf 66⟩)
  (λq=>rv q.1 q.2.1 q.2.2=some on/\q.2.1<256/\q.1+q.2.2.length=9) (λq=>q.1) ?_ (9,m,[]) ⟨hb,hm,rfl⟩ ?_
 .intro q hq;obtain⟨f,x,acc⟩:=q;obtain⟨g1,g2,g3⟩:=hq;have g1:rv f x acc=some on:=g1;have g2:x<256:=g2;have g3:f+acc.length=9:=g3;cases f with
  |zero=>cases g1|succ f=>
  refine aD af rfl rfl hc _ (aB ?_);refine an (λh1=>?_) (λh1=>?_)
  .have hx:x≠0:=λe=>xR.1 h1 (by show((x:Nat):Int)=0;omega);have hac:acc.length<=8:=(by omega);conv=>whnf
   refine ct (l:=sY) (by decide) 0 (c:=abr) rfl (x:Int) ⟨by omega,by omega⟩ (hk:=?_);conv=>whnf
   repeat(refine nx ?_;conv=>whnf)
   refine⟨_,rfl,aB ?_⟩;refine⟨⟨?_,rfl,((aq .i64).ep acc).symm⟩,?_⟩
   .show(acc.length+1)*(8+1)<=1099511627776;omega
   conv=>whnf
   have hs:ah .u64 (Int.sub (x:Int) 1)=((x - 1:Nat):Int):=by
    show ah .u64 ((x:Int) - 1)=_;rw [aJ (by omega) (by omega)];omega
   have hs0:ah .u64 (Int.sub (((f+1,x,acc):Nat×Nat×List Int).2.1:Int) 1)=((x - 1:Nat):Int):=hs;have hand:Int.ofNat (Nat.land (Int.toNat ((x:Nat):Int)) (Int.toNat (ah .u64 (Int.sub (x:Int) 1))))=((Nat.land x (x - 1):Nat):Int):=(by rw [hs];rfl);refine⟨⟨Int.natCast_nonneg _,oM (Int.natCast_nonneg _) (show(x:Int)<_ by omega),by rw [hs0];exact Int.natCast_nonneg _,by rw [hs0];exact oM (Int.natCast_nonneg _) (by omega)⟩,aB ?_⟩;repeat(refine nx ?_;conv=>whnf)
   have hg:rv f (Nat.land x (x - 1)) (acc++[((Bf 8 x:Nat):Int)])=some on:=by
    have g1:(match Nat.beq x 0 with|true=>some acc|false=>rv f (Nat.land x (x - 1)) (acc++[((Bf 8 x:Nat):Int)]))=some on:=g1;rwa [show Nat.beq x 0=false by cases e:Nat.beq x 0 with|false=>rfl|true=>exact absurd (Nat.eq_of_beq_eq_true e) hx]at g1
   refine⟨(f,Nat.land x (x - 1),acc++[((Bf 8 x:Nat):Int)]),⟨hg,Nat.lt_of_le_of_lt Nat.and_le_left g2,by show f+(acc++[_]).length=9;rw [List.length_append];show f+(acc.length+1)=9;omega⟩,Nat.lt_succ_self f,?_⟩;refine Sub.of [(pathOf 64,some (pathOf 64)),(pathOf 65,some (pathOf 67))] [] rfl rfl rfl ?_ ?_
   .repeat' first|exact aA|exact rfl|refine And.intro ?_ ?_
    all_goals first|exact hand|(rw [List.length_append];exact rfl)|(simp;done)
   .repeat' first|exact aA|exact rfl|refine And.intro ?_ ?_
    all_goals first|exact(aq .i64).oH acc [((Bf 8 x:Nat):Int)]|exact(aq .i64).bh _
  .have hx:x=0:=by
    have:=zk.1 h1;have this:((x:Nat):Int)=0:=this;omega
   have ha:acc=on:=by
    rw [hx]at g1;injection g1
   subst hx;subst ha;have dE:0<acc.length:=(by rw [<-hon];exact Nat.succ_pos _);have Xk:acc[0]=i0:=(by subst hon;rfl);conv=>whnf
   refine aG.go 0 rfl dE (aB ?_);refine⟨_,(aq .i64).rd rfl dE,aB ?_⟩;rw [Xk];refine Cw.loop (ι:=Nat×List Int) (λq=>bm [(0,bR.list.v l),(3,.ptr (pathOf 64) 0),(5,.gs (pathOf 65) acc.length 1),(7,.gs (pathOf 66) q.2.length 1)]) (λ_=>[]) (λq=>⟨bW [(pathOf 64,.cells (bm [(0,.int .i64 n0),(1,.int .i64 n1),(2,.int .i64 n2),(3,.int .u64 (m:Int))]) 4 false),(pathOf 65,.gl ((aq .i64).l acc) false),(pathOf 66,.gl ((aq .i64).l q.2) false)],pathOf 67⟩)
    (λq=>jT l (n0,n1,n2) acc i0 q.1 q.2=some r/\0<q.2.length/\q.2[0]?=some i0/\q.1+q.2.length=66) (λq=>q.1) ?_ (65,[i0]) ⟨h,Nat.succ_pos _,rfl,rfl⟩ ?_
   .intro q hq;obtain⟨f,out⟩:=q;obtain⟨g1,g2,g4,g3⟩:=hq;have g1:jT l (n0,n1,n2) acc i0 f out=some r:=g1;have g2:0<out.length:=g2;have g3:f+out.length=66:=g3;have g4:out[0]?=some i0:=g4;cases f with
    |zero=>cases g1|succ f=>
    have Ue:out.length - 1<out.length:=(by omega);have hgl:out.getLast?=some out[out.length - 1]:=(by rw [List.getLast?_eq_getElem?,List.getElem?_eq_getElem Ue]);have g1:(match out.getLast? with
     |none=>none|some li=>(match YW l li with
      |none=>none|some last=>(match iO l (n0,n1,n2) last li acc (-1)with
       |none=>none|some nz=>(match bG nz i0 with|true=>some out|false=>jT l (n0,n1,n2) acc i0 f (out++[nz])))))=some r:=g1
    rw [hgl]at g1;generalize hli:out[out.length - 1]=li at*;replace g1:(match YW l li with
     |none=>none|some last=>(match iO l (n0,n1,n2) last li acc (-1)with
      |none=>none|some nz=>(match bG nz i0 with|true=>some out|false=>jT l (n0,n1,n2) acc i0 f (out++[nz]))))=some r:=g1
    cases Ib:YW l li with
    |none=>rw [Ib]at g1;cases g1|some last=>
    rw [Ib]at g1;obtain⟨aku,Uf,agC,hla⟩:0<=li/\∃Uf:li.toNat<l.length,li=((li.toNat:Nat):Int)/\l[li.toNat]=last:=by
     unfold YW at Ib;cases hle:gg 0 li with
     |false=>rw [hle]at Ib;cases Ib|true=>
      rw [hle]at Ib;have h0:=cA.1 hle;obtain⟨p,q⟩:=List.getElem?_eq_some_iff.1 Ib;exact⟨h0,p,(Int.toNat_of_nonneg h0).symm,q⟩
    subst hla;replace g1:(match iO l (n0,n1,n2) l[li.toNat] li acc (-1)with
     |none=>none|some nz=>(match bG nz i0 with|true=>some out|false=>jT l (n0,n1,n2) acc i0 f (out++[nz])))=some r:=g1
    cases hng:iO l (n0,n1,n2) l[li.toNat] li acc (-1)with
    |none=>rw [hng]at g1;cases g1|some nz=>
    rw [hng]at g1;replace g1:(match bG nz i0 with|true=>some out|false=>jT l (n0,n1,n2) acc i0 f (out++[nz]))=some r:=g1;have DH:ah .i64 (Int.sub ((out.length:Nat):Int) 1)=((out.length - 1:Nat):Int):=by
     show ah .i64 ((out.length:Int) - 1)=_;rw [az (by omega) (by omega)];omega
    refine aD af rfl rfl hc _ (aB ?_);refine aG.go (out.length - 1) DH Ue (aB ?_);refine⟨_,(aq .i64).rd rfl Ue,aB ?_⟩;rw [hli];refine Cw.loop (ι:=Nat×Int) (λq=>bm [(0,bR.list.v l),(3,.ptr (pathOf 64) 0),(5,.gs (pathOf 65) acc.length 1),(7,.gs (pathOf 66) out.length 1),(8,.int .i64 li),(9,.int .i64 q.2),(38,.gs (pathOf 65) acc.length 1),(39,.int .i64 (acc.length:Int)),(40,.int .i64 (q.1:Int))]) (λ_=>[]) (λ_=>⟨bW [(pathOf 64,.cells (bm [(0,.int .i64 n0),(1,.int .i64 n1),(2,.int .i64 n2),(3,.int .u64 (m:Int))]) 4 false),(pathOf 65,.gl ((aq .i64).l acc) false),(pathOf 66,.gl ((aq .i64).l out) false)],pathOf 67⟩)
     (λq=>q.1<=acc.length/\iO l (n0,n1,n2) l[li.toNat] li (acc.drop q.1) q.2=some nz) (λq=>acc.length - q.1) ?_ (0,-1) ⟨Nat.zero_le _,hng⟩ ?_
    .intro q hq;obtain⟨k,y⟩:=q;obtain⟨e1,e2⟩:=hq;have e1:k<=acc.length:=e1;have e2:iO l (n0,n1,n2) l[li.toNat] li (acc.drop k) y=some nz:=e2;refine aD af rfl rfl hc _ (aB ?_);refine an (λh1=>?_) (λh1=>?_)
     .have hk:k<acc.length:=Int.ofNat_lt.1 (aQ.1 h1);have bM:ah .i64 (Int.add (k:Int) 1)=((k+1:Nat):Int):=by
       show ah .i64 ((k:Int)+1)=_;rw [az (by omega) (by omega)];omega
      obtain⟨j0,j1⟩:=dC acc[k] (List.getElem_mem hk);rw [List.drop_eq_getElem_cons hk]at e2;generalize hi:acc[k]=i at*;have e2:(kW l (n0,n1,n2) l[li.toNat] li i y).bind (iO l (n0,n1,n2) l[li.toNat] li (acc.drop (k+1)))=some nz:=e2;obtain⟨y',s1,s2⟩:∃y',kW l (n0,n1,n2) l[li.toNat] li i y=some y'/\iO l (n0,n1,n2) l[li.toNat] li (acc.drop (k+1)) y'=some nz:=by
       cases hs:kW l (n0,n1,n2) l[li.toNat] li i y with
       |none=>rw [hs]at e2;cases e2|some y'=>rw [hs]at e2;exact⟨y',rfl,e2⟩
      unfold kW at s1;conv=>whnf
      refine aG.go k rfl hk (aB ?_);refine⟨_,(aq .i64).rd rfl hk,aB ?_⟩;rw [hi];refine an (λh2=>?_) (λh2=>?_)
      .have h2:bG i li=true:=h2;rw [h2]at s1;injection s1 with s1;subst s1;conv=>whnf
       refine⟨(k+1,y),⟨hk,s2⟩,by show acc.length - (k+1)<acc.length - k;omega,?_⟩;refine Sub.of (fI [64,65,66]) [] rfl rfl rfl ?_ ?_
       .repeat' first|exact aA|exact rfl|refine And.intro ?_ ?_
        all_goals exact bM
       .repeat' first|exact aA|exact rfl|refine And.intro ?_ ?_
        all_goals exact(aq .i64).bh _
      .have h2:bG i li=false:=h2;rw [h2]at s1;conv=>whnf
       refine an (λh3=>?_) (λh3=>?_)
       .have h3:dj y 0=true:=h3;rw [h3]at s1;injection s1 with s1;subst s1;conv=>whnf
        refine⟨(k+1,i),⟨hk,s2⟩,by show acc.length - (k+1)<acc.length - k;omega,?_⟩;refine Sub.of (fI [64,65,66]) [] rfl rfl rfl ?_ ?_
        .repeat' first|exact aA|exact rfl|refine And.intro ?_ ?_
         all_goals exact bM
        .repeat' first|exact aA|exact rfl|refine And.intro ?_ ?_
         all_goals exact(aq .i64).bh _
       .have h3:dj y 0=false:=h3;rw [h3]at s1;have hy0:0<=y:=bf.1 h3;replace s1:(match l[y.toNat]?,l[i.toNat]? with
         |some a,some b=>some (match dj (iW (n0,n1,n2) (eD (bU a l[li.toNat]) (bU b l[li.toNat]))) 0 with
          |true=>i|false=>(match bG (iW (n0,n1,n2) (eD (bU a l[li.toNat]) (bU b l[li.toNat]))) 0 with
           |true=>(match dj (iW (bU a l[li.toNat]) (bU a l[li.toNat])) (iW (bU b l[li.toNat]) (bU b l[li.toNat]))with|true=>i|false=>y)
           |false=>y))
         |_,_=>none)=some y':=s1
        have adV:i.toNat<l.length:=(by omega);cases hya:l[y.toNat]? with
        |none=>rw [hya]at s1;cases s1|some a=>
        obtain⟨hyl,hya⟩:=List.getElem?_eq_some_iff.1 hya;subst hya;rw [List.getElem?_eq_getElem hyl,List.getElem?_eq_getElem adV]at s1;replace s1:some (match dj (iW (n0,n1,n2) (eD (bU l[y.toNat] l[li.toNat]) (bU l[i.toNat] l[li.toNat]))) 0 with
         |true=>i|false=>(match bG (iW (n0,n1,n2) (eD (bU l[y.toNat] l[li.toNat]) (bU l[i.toNat] l[li.toNat]))) 0 with
          |true=>(match dj (iW (bU l[y.toNat] l[li.toNat]) (bU l[y.toNat] l[li.toNat])) (iW (bU l[i.toNat] l[li.toNat]) (bU l[i.toNat] l[li.toNat]))with|true=>i|false=>y)
          |false=>y))=some y':=s1
        have hyn:y=((y.toNat:Nat):Int):=(Int.toNat_of_nonneg hy0).symm;have ajm:i=((i.toNat:Nat):Int):=(Int.toNat_of_nonneg j0).symm;conv=>whnf
        refine aG.go y.toNat hyn hyl (aB ?_);refine⟨_,bR.rd rfl hyl,aB ?_⟩;refine aG.go li.toNat agC Uf (aB ?_);refine⟨_,bR.rd rfl Uf,aB ?_⟩;refine aG.go i.toNat ajm adV (aB ?_);refine⟨_,bR.rd rfl adV,aB ?_⟩;refine aG.go li.toNat agC Uf (aB ?_);refine⟨_,bR.rd rfl Uf,aB ?_⟩;refine ct (l:=sY) (by decide) 1 (c:=Cn.lift bJ nC) rfl (l[y.toNat],l[li.toNat]) trivial (hk:=?_);refine sZ ?_;refine ct (l:=sY) (by decide) 1 (c:=Cn.lift bJ nC) rfl (l[i.toNat],l[li.toNat]) trivial (hk:=?_);refine sZ ?_;refine ct (l:=sY) (by decide) 2 (c:=Cn.lift bJ pK) rfl (bU l[y.toNat] l[li.toNat],bU l[i.toNat] l[li.toNat]) trivial (hk:=?_);refine sZ ?_;refine ct (l:=sY) (by decide) 3 (c:=Cn.lift bJ vy) rfl ((n0,n1,n2),eD (bU l[y.toNat] l[li.toNat]) (bU l[i.toNat] l[li.toNat])) trivial (hk:=?_);refine sZ ?_;refine an (λh4=>?_) (λh4=>?_)
        .have h4:dj (iW (n0,n1,n2) (eD (bU l[y.toNat] l[li.toNat]) (bU l[i.toNat] l[li.toNat]))) 0=true:=h4;rw [h4]at s1;injection s1 with s1;subst s1;refine sZ ?_;refine⟨(k+1,i),⟨hk,s2⟩,by show acc.length - (k+1)<acc.length - k;omega,?_⟩;refine Sub.of (fI [64,65,66]) [] rfl rfl rfl ?_ ?_
         .repeat' first|exact aA|exact rfl|refine And.intro ?_ ?_
          all_goals exact bM
         .repeat' first|exact aA|exact rfl|refine And.intro ?_ ?_
          all_goals exact(aq .i64).bh _
        .have h4:dj (iW (n0,n1,n2) (eD (bU l[y.toNat] l[li.toNat]) (bU l[i.toNat] l[li.toNat]))) 0=false:=h4;rw [h4]at s1;refine sZ ?_;refine an (λh5=>?_) (λh5=>?_)
         .have h5:bG (iW (n0,n1,n2) (eD (bU l[y.toNat] l[li.toNat]) (bU l[i.toNat] l[li.toNat]))) 0=true:=h5;rw [h5]at s1;refine sZ ?_;refine ct (l:=sY) (by decide) 3 (c:=Cn.lift bJ vy) rfl (bU l[i.toNat] l[li.toNat],bU l[i.toNat] l[li.toNat]) trivial (hk:=?_);refine sZ ?_;refine ct (l:=sY) (by decide) 3 (c:=Cn.lift bJ vy) rfl (bU l[y.toNat] l[li.toNat],bU l[y.toNat] l[li.toNat]) trivial (hk:=?_);refine sZ ?_;refine an (λh6=>?_) (λh6=>?_)
          .have h6:dj (iW (bU l[y.toNat] l[li.toNat]) (bU l[y.toNat] l[li.toNat])) (iW (bU l[i.toNat] l[li.toNat]) (bU l[i.toNat] l[li.toNat]))=true:=h6;rw [h6]at s1;injection s1 with s1;subst s1;refine sZ ?_;refine⟨(k+1,i),⟨hk,s2⟩,by show acc.length - (k+1)<acc.length - k;omega,?_⟩;refine Sub.of (fI [64,65,66]) [] rfl rfl rfl ?_ ?_
           .repeat' first|exact aA|exact rfl|refine And.intro ?_ ?_
            all_goals exact bM
           .repeat' first|exact aA|exact rfl|refine And.intro ?_ ?_
            all_goals exact(aq .i64).bh _
          .have h6:dj (iW (bU l[y.toNat] l[li.toNat]) (bU l[y.toNat] l[li.toNat])) (iW (bU l[i.toNat] l[li.toNat]) (bU l[i.toNat] l[li.toNat]))=false:=h6;rw [h6]at s1;injection s1 with s1;subst s1;refine sZ ?_;refine⟨(k+1,y),⟨hk,s2⟩,by show acc.length - (k+1)<acc.length - k;omega,?_⟩;refine Sub.of (fI [64,65,66]) [] rfl rfl rfl ?_ ?_
           .repeat' first|exact aA|exact rfl|refine And.intro ?_ ?_
            all_goals exact bM
           .repeat' first|exact aA|exact rfl|refine And.intro ?_ ?_
            all_goals exact(aq .i64).bh _
         .have h5:bG (iW (n0,n1,n2) (eD (bU l[y.toNat] l[li.toNat]) (bU l[i.toNat] l[li.toNat]))) 0=false:=h5;rw [h5]at s1;injection s1 with s1;subst s1;refine sZ ?_;refine⟨(k+1,y),⟨hk,s2⟩,by show acc.length - (k+1)<acc.length - k;omega,?_⟩;refine Sub.of (fI [64,65,66]) [] rfl rfl rfl ?_ ?_
          .repeat' first|exact aA|exact rfl|refine And.intro ?_ ?_
           all_goals exact bM
          .repeat' first|exact aA|exact rfl|refine And.intro ?_ ?_
           all_goals exact(aq .i64).bh _
     .have hk:k=acc.length:=(by have:=bf.1 h1;have this:((acc.length:Nat):Int)<=(k:Int):=this;omega);rw [hk,List.drop_length]at e2;injection e2 with e2;subst e2;conv=>whnf
      have abt:out[0]=i0:=by
       have:=(List.getElem?_eq_getElem g2).symm.trans g4;injection this
      refine aG.go 0 rfl g2 (aB ?_);refine⟨_,(aq .i64).rd rfl g2,aB ?_⟩;refine an (λh7=>?_) (λh7=>?_)
      .have h7:bG y out[0]=true:=h7;rw [abt]at h7;rw [h7]at g1;injection g1 with g1;subst g1;conv=>whnf
       exact(aq .i64).gk rfl rfl rfl
      .have h7:bG y out[0]=false:=h7;rw [abt]at h7;rw [h7]at g1;replace g1:jT l (n0,n1,n2) acc i0 f (out++[y])=some r:=g1;conv=>whnf
       refine⟨_,rfl,aB ?_⟩;refine⟨⟨?_,rfl,((aq .i64).ep out).symm⟩,?_⟩
       .show(out.length+1)*(8+1)<=1099511627776;omega
       conv=>whnf
       refine⟨(f,out++[y]),⟨g1,by show 0<(out++[y]).length;rw [List.length_append];omega,by show(out++[y])[0]?=some i0;rw [List.getElem?_append_left g2];exact g4,by show f+(out++[y]).length=66;rw [List.length_append];show f+(out.length+1)=66;omega⟩,Nat.lt_succ_self f,?_⟩;refine Sub.of [(pathOf 64,some (pathOf 64)),(pathOf 65,some (pathOf 65)),(pathOf 66,some (pathOf 68))] [] rfl rfl rfl ?_ ?_
       .repeat' first|exact aA|exact rfl|refine And.intro ?_ ?_
        all_goals first|(rw [List.length_append];exact rfl)|(simp;done)
       .repeat' first|exact aA|exact rfl|refine And.intro ?_ ?_
        all_goals first|exact(aq .i64).oH out [y]|exact(aq .i64).bh _
    .refine Sub.of (fI [64,65,66]) [] rfl rfl rfl ?_ ?_
     .exact pc
     .repeat' first|exact aA|exact rfl|refine And.intro ?_ ?_
      all_goals exact(aq .i64).bh _
   .refine Sub.of (fI [64,65,66]) [] rfl rfl rfl ?_ ?_
    .exact pc
    .repeat' first|exact aA|exact rfl|refine And.intro ?_ ?_
     all_goals exact(aq .i64).bh _
 .refine Sub.of [(pathOf 64,some (pathOf 64)),(pathOf 65,none)] [] rfl rfl rfl ?_ ?_
  .exact pc
  .exact pc
def Ug:Cn prog:= .kz bR.list bY (aq .i64).list 211 false (λl p=>l.length<=4294967296/\0<=p.2/\p.2<256/\(nJ l p.1 p.2.toNat).isSome=true) (λl p=>(nJ l p.1 p.2.toNat).getD []) (λe=>by cases e)
 (λl p h=>by
  obtain⟨h1,h2,h3,h4⟩:=h;obtain⟨n,m⟩:=p;obtain⟨r,hr⟩:=Option.isSome_iff_exists.1 h4;have h2:0<=m:=h2;have h3:m<256:=h3;have hr:nJ l n m.toNat=some r:=hr;have:=adU l n m.toNat r h1 (by omega) hr;rw [Int.toNat_of_nonneg h2]at this;show PF _ _ _ ((aq .i64).list.v ((nJ l n m.toNat).getD []));rw [hr];exact this) (au rfl rfl)
end
section
theorem PF.tabs {T T':aY} (e:T.l=T'.l) {P:Program} {f:FuncId} {xs v:AV} (h:@PF T P f xs v):@PF T' P f xs v:=λs w hs ht cargs hc=>(h s w hs (by rw [e];exact ht) cargs hc).mono λe' w' ⟨cv,s',h1,h2,h3,h4,h5⟩=>⟨cv,s',h1,h2,h3,h4,Below.tabs (λk=>e.trans k) h5⟩
def Cn.tabs {T T':aY} (e:T.l=T'.l) {P:Program} (c:@Cn T P):@Cn T' P:=
 @Cn.mk T' P (@Cn.f T P c) (@Cn.flat T P c) (@Cn.α T P c) (@Cn.aZs T P c) (@Cn.v T P c) (@Cn.ok T P c) (@Cn.inj T P c) (@Cn.dp T P c) (@Cn.pv T P c) (@Cn.fl T P c) (λa h=>PF.tabs e (@Cn.pf T P c a h)) (@Cn.bd T P c)
attribute [local irreducible] Cw aj bE PF Sub
theorem En:PA prog 37 iE where
 eqv:=by
  rintro ⟨a,b,c⟩ ⟨d,e,f⟩;show some (aF (kq a d) (aF (kq b e) (aF (kq c f) true)))=_;rw [eM,eM,eM];congr 1;by_cases h1:a=d<;>by_cases h2:b=e<;>by_cases h3:c=f<;>simp [h1,h2,h3,aF]
 key:=by rintro ⟨a,b,c⟩;rfl
 ke:=by
  rintro ⟨a,b,c⟩;show aF (kq a a) (aF (kq b b) (aF (kq c c) true))=true;rw [eM,eM,eM];simp [aF]
theorem Eo [aY] {κ β:Type} {A:bX κ} {B:bX β} {l k:List (κ×β)} (h:mE A B l=mE A B k):l=k:=by
 unfold mE at h;refine(List.map_inj_right ?_).1 h;rintro ⟨a,b⟩ ⟨c,d⟩ e;injection e with e1 e2;have e1:a=c:=A.aZ e1;have e2:b=d:=B.aZ e2;rw [e1,e2]
def oV (a:Q3):Q3:=jS Q.sub z3 a
abbrev ML:=List (Pnt×Q3)
def cD (l:ML) (v:Q3):ML:=match dP v with
 |true=>l|false=>nZ (jz (oV (aP v))) (oV (aP v)) (nZ (jz (aP v)) (aP v) l)
structure KA (v:Q3):Prop where
 p:jl v
 n:dP v=false ->qc (aP v)/\ri kg z3 (aP v)/\qc (oV (aP v))
def fcL (f:lQ):List AV:=nE f.1++[.bool (decide (f.2.1.1<0)),aM.v f.2.1.1.natAbs,.bool (decide (f.2.1.2<0)),aM.v f.2.1.2.natAbs,(aq .i64).list.v f.2.2]
abbrev IxF:=cW×cW×lQ
abbrev IxP:=cW×cW×Q3×Q3
def hAF (i:IxF) (l:ML):List (Nat×AO):=[(64,cl (lS i.1)),(65,cl (lS i.2.1)),(66,.mp (mE iE aN l)),(67,cl [.map (pathOf 66)]),(68,cl (fcL i.2.2))]
def MM:xf (IxF×ML) where
 ar:=λi=> .cons (aN.v i.1.2.2.1) (.cons (.ptr (pathOf 67) 0) .nil)
 h0:=λi=>hp (hAF i.1 i.2) 69
 v:=λ_=> .aO .nil
 H:=λi=>(hAF i.1 (cD i.2 i.1.2.2.1)).map λx=>(pathOf x.1,x.2)
 N:=λ_=>pathOf 71
 ok:=λi=>KA i.1.2.2.1
 inj:=by
  rintro ⟨i,l⟩ ⟨j,k⟩ _ _ e1 e2;injection e1 with e0 _;have e1:i.2.2.1=j.2.2.1:=aN.aZ e0;clear e0;have g4:some (cl (lS i.1))=some (cl (lS j.1)):=congrArg (λh:Heap=>h.t.get (pathOf 64)) e2;have g5:some (cl (lS i.2.1))=some (cl (lS j.2.1)):=congrArg (λh:Heap=>h.t.get (pathOf 65)) e2;have g6:some (AO.mp (mE iE aN l))=some (.mp (mE iE aN k)):=congrArg (λh:Heap=>h.t.get (pathOf 66)) e2;have g8:some (cl (fcL i.2.2))=some (cl (fcL j.2.2)):=congrArg (λh:Heap=>h.t.get (pathOf 68)) e2;injection g6 with g6;injection g6 with g6;have g6:=Eo g6;subst g6;refine⟨rfl,?_,rfl⟩;show(hAF i (cD l (i.2.2.1))).map _=(hAF j (cD l (j.2.2.1))).map _;rw [e1];unfold hAF;rw [Option.some.inj g4,Option.some.inj g5,Option.some.inj g8]
section
abbrev iAF:aY:=qi bJ 5
attribute [local instance] iAF
def Qn:List (Cn prog):=[Cn.lift iAF lv,Cn.tabs (T:=bJ) (T':=iAF) rfl nI,Cn.lift iAF tY]
theorem agD (i:IxF) (l:ML) (h:KA i.2.2.1) (B0:Nat) {r:Tr AV} (hr:gH (.cons (aN.v i.2.2.1) (.cons (.ptr (pathOf 67) 0) .nil)) 0 f172.ntmps .leaf=some r):
  Cw prog B0 ⟨prog,172,f172.ntmps,none,aE Qn,0⟩ (oJ f172) r [] (hp (hAF i l) 69)
   (QK (fa prog f172 (.aO .nil) ((hAF i (cD l i.2.2.1)).map λx=>(pathOf x.1,x.2)) (pathOf 71)) (fa prog f172 (.aO .nil) ((hAF i (cD l i.2.2.1)).map λx=>(pathOf x.1,x.2)) (pathOf 71)) (λ_ _ _ _=>False)):=by
 cases hr;obtain⟨hp,hn⟩:=h;have hc:=ay (P:=prog) ae Qn B0;refine aD af rfl rfl hc _ ?_;obtain⟨l',yE⟩:∃l',l'=cD l i.2.2.1:=⟨_,rfl⟩
 rw [<-yE];obtain⟨a,b,f⟩:=i;have hp:jl f.1:=hp;have hn:dP f.1=false ->qc (aP f.1)/\ri kg z3 (aP f.1)/\qc (oV (aP f.1)):=hn;have yE:l'=cD l f.1:=yE;conv=>whnf
 refine cg Qn 0 (Cn.lift iAF lv) f.1 hp (aC ?_);refine an (λh1=>?_) (λh1=>?_)
 .have h1:aU (bG (kh f.1) 0)=true:=h1;have hz:dP f.1=true:=by
   cases hb:dP f.1 with
   |true=>rfl|false=>unfold kh at h1;rw [hb]at h1;cases h1
  have e:cD l f.1=l:=by unfold cD;rw [hz]
  rw [e]at yE;subst yE;conv=>whnf
  repeat' first|exact aA|exact rfl|refine And.intro ?_ ?_
 .have h1:aU (bG (kh f.1) 0)=false:=h1;have hz:dP f.1=false:=by
   cases hb:dP f.1 with
   |false=>rfl|true=>unfold kh at h1;rw [hb]at h1;cases h1
  obtain⟨n1,n2,n3⟩:=hn hz;have e:cD l f.1=nZ (jz (oV (aP f.1))) (oV (aP f.1)) (nZ (jz (aP f.1)) (aP f.1) l):=by unfold cD;rw [hz]
  rw [e]at yE;subst yE;conv=>whnf
  refine cg Qn 1 (Cn.tabs (T:=bJ) (T':=iAF) rfl nI) (aP f.1) n1 (aC ?_);refine wj (PB (A:=iE) (B:=aN) (key:=jz (aP f.1)) (v:=aP f.1) (l:=l) En rfl rfl rfl rfl rfl) (aC ?_);refine cg Qn 2 (Cn.lift iAF tY) (aP f.1) n2 (aC ?_);refine cg Qn 1 (Cn.tabs (T:=bJ) (T':=iAF) rfl nI) (oV (aP f.1)) n3 (aC ?_);refine wj (PB (A:=iE) (B:=aN) (key:=jz (oV (aP f.1))) (v:=oV (aP f.1)) (l:=nZ (jz (aP f.1)) (aP f.1) l) En rfl rfl rfl rfl rfl) (aC ?_);repeat' first|exact aA|exact rfl|refine And.intro ?_ ?_
end
theorem Uh {B0:Nat} {call:dY ->AV ->Heap ->CR} (bl:@aW bJ prog B0 call):@aW bJ prog B0 (fx 172 MM call):=
 ic ae 5 bl (fn:=f172) rfl rfl MM (λi hi=>⟨_,_,rfl,rfl,(show(pathOf 69).toNat<=(pathOf 71).toNat by decide),agD i.1 i.2 hi B0 rfl⟩)
def hAP (i:IxP) (l:ML):List (Nat×AO):=[(64,cl (lS i.1)),(65,cl (lS i.2.1)),(66,.mp (mE iE aN l)),(67,cl [.map (pathOf 66)]),(68,cl (nE i.2.2.1)),(69,cl (nE i.2.2.2))]
def MN:xf (IxP×ML) where
 ar:=λi=> .cons (aN.v (aI i.1.2.2.1 i.1.2.2.2)) (.cons (.ptr (pathOf 67) 0) .nil)
 h0:=λi=>hp (hAP i.1 i.2) 70
 v:=λ_=> .aO .nil
 H:=λi=>(hAP i.1 (cD i.2 (aI i.1.2.2.1 i.1.2.2.2))).map λx=>(pathOf x.1,x.2)
 N:=λ_=>pathOf 72
 ok:=λi=>KA (aI i.1.2.2.1 i.1.2.2.2)
 inj:=by
  rintro ⟨i,l⟩ ⟨j,k⟩ _ _ e1 e2;injection e1 with e0 _;have e1:aI i.2.2.1 i.2.2.2=aI j.2.2.1 j.2.2.2:=aN.aZ e0;clear e0;have g4:some (cl (lS i.1))=some (cl (lS j.1)):=congrArg (λh:Heap=>h.t.get (pathOf 64)) e2;have g5:some (cl (lS i.2.1))=some (cl (lS j.2.1)):=congrArg (λh:Heap=>h.t.get (pathOf 65)) e2;have g6:some (AO.mp (mE iE aN l))=some (.mp (mE iE aN k)):=congrArg (λh:Heap=>h.t.get (pathOf 66)) e2;have g8:some (cl (nE i.2.2.1))=some (cl (nE j.2.2.1)):=congrArg (λh:Heap=>h.t.get (pathOf 68)) e2;have g9:some (cl (nE i.2.2.2))=some (cl (nE j.2.2.2)):=congrArg (λh:Heap=>h.t.get (pathOf 69)) e2;injection g6 with g6;injection g6 with g6;have g6:=Eo g6;subst g6;refine⟨rfl,?_,rfl⟩;show(hAP i (cD l (aI i.2.2.1 i.2.2.2))).map _=(hAP j (cD l (aI j.2.2.1 j.2.2.2))).map _;rw [e1];unfold hAP;rw [Option.some.inj g4,Option.some.inj g5,Option.some.inj g8,Option.some.inj g9]
section
abbrev iAP:aY:=qi bJ 6
attribute [local instance] iAP
def Qo:List (Cn prog):=[Cn.lift iAP lv,Cn.tabs (T:=bJ) (T':=iAP) rfl nI,Cn.lift iAP tY]
theorem agE (i:IxP) (l:ML) (h:KA (aI i.2.2.1 i.2.2.2)) (B0:Nat) {r:Tr AV} (hr:gH (.cons (aN.v (aI i.2.2.1 i.2.2.2)) (.cons (.ptr (pathOf 67) 0) .nil)) 0 f172.ntmps .leaf=some r):
  Cw prog B0 ⟨prog,172,f172.ntmps,none,aE Qo,0⟩ (oJ f172) r [] (hp (hAP i l) 70)
   (QK (fa prog f172 (.aO .nil) ((hAP i (cD l (aI i.2.2.1 i.2.2.2))).map λx=>(pathOf x.1,x.2)) (pathOf 72)) (fa prog f172 (.aO .nil) ((hAP i (cD l (aI i.2.2.1 i.2.2.2))).map λx=>(pathOf x.1,x.2)) (pathOf 72)) (λ_ _ _ _=>False)):=by
 cases hr;obtain⟨hp,hn⟩:=h;have hc:=ay (P:=prog) ae Qo B0;refine aD af rfl rfl hc _ ?_;obtain⟨l',yE⟩:∃l',l'=cD l (aI i.2.2.1 i.2.2.2):=⟨_,rfl⟩
 rw [<-yE];obtain⟨a,b,x,y⟩:=i;have hp:jl (aI x y):=hp;have hn:dP (aI x y)=false ->qc (aP (aI x y))/\ri kg z3 (aP (aI x y))/\qc (oV (aP (aI x y))):=hn;have yE:l'=cD l (aI x y):=yE;conv=>whnf
 refine cg Qo 0 (Cn.lift iAP lv) (aI x y) hp (aC ?_);refine an (λh1=>?_) (λh1=>?_)
 .have h1:aU (bG (kh (aI x y)) 0)=true:=h1;have hz:dP (aI x y)=true:=by
   cases hb:dP (aI x y)with
   |true=>rfl|false=>unfold kh at h1;rw [hb]at h1;cases h1
  have e:cD l (aI x y)=l:=by unfold cD;rw [hz]
  rw [e]at yE;subst yE;conv=>whnf
  repeat' first|exact aA|exact rfl|refine And.intro ?_ ?_
 .have h1:aU (bG (kh (aI x y)) 0)=false:=h1;have hz:dP (aI x y)=false:=by
   cases hb:dP (aI x y)with
   |false=>rfl|true=>unfold kh at h1;rw [hb]at h1;cases h1
  obtain⟨n1,n2,n3⟩:=hn hz;have e:cD l (aI x y)=nZ (jz (oV (aP (aI x y)))) (oV (aP (aI x y))) (nZ (jz (aP (aI x y))) (aP (aI x y)) l):=by unfold cD;rw [hz]
  rw [e]at yE;subst yE;conv=>whnf
  refine cg Qo 1 (Cn.tabs (T:=bJ) (T':=iAP) rfl nI) (aP (aI x y)) n1 (aC ?_);refine wj (PB (A:=iE) (B:=aN) (key:=jz (aP (aI x y))) (v:=aP (aI x y)) (l:=l) En rfl rfl rfl rfl rfl) (aC ?_);refine cg Qo 2 (Cn.lift iAP tY) (aP (aI x y)) n2 (aC ?_);refine cg Qo 1 (Cn.tabs (T:=bJ) (T':=iAP) rfl nI) (oV (aP (aI x y))) n3 (aC ?_);refine wj (PB (A:=iE) (B:=aN) (key:=jz (oV (aP (aI x y)))) (v:=oV (aP (aI x y))) (l:=nZ (jz (aP (aI x y))) (aP (aI x y)) l) En rfl rfl rfl rfl rfl) (aC ?_);repeat' first|exact aA|exact rfl|refine And.intro ?_ ?_
end
theorem Ui {B0:Nat} {call:dY ->AV ->Heap ->CR} (bl:@aW bJ prog B0 call):@aW bJ prog B0 (fx 172 MN call):=
 ic ae 6 bl (fn:=f172) rfl rfl MN (λi hi=>⟨_,_,rfl,rfl,(show(pathOf 70).toNat<=(pathOf 72).toNat by decide),agE i.1 i.2 hi B0 rfl⟩)
end
end
end Go.Sy
