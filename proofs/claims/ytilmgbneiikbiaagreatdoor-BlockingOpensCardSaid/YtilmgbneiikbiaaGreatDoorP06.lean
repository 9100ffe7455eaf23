/- A piece of the proof, made small by a program of ours. -/
import Derived.Test.YtilmgbneiikbiaaGreatDoorP05
import Derived.Shelf.SlSortCmp.WholeK
import Derived.Test.YtilmgbneiikbiaaGreatDoorProg
import Derived.KernelRfl
set_option linter.all false
set_option maxRecDepth 1000000
set_option maxHeartbeats 0
namespace Go.Sy
noncomputable section
open Go.RowKit Go.Proofs Go.Proofs.Tryz
section
def iz (k:IntKind) (l:List Int) (t:AV):AV:=List.rec (motive:=λ_=>AV) t (λn _ r=> .cons (.int k n) r) l
def mg (m:Nat):AV:=Nat.rec (motive:=λ_=>AV) (.ro 0 .nil) (λ_ _=> .ro 1 (.cons (.int .u32 (.ofNat m)) .nil)) m
def qz (l:List Int) (t:AV):AV:=List.rec (motive:=λ_=>AV) t (λn _ r=>Int.rec (motive:=λ_=>AV) (λm=> .cons (.bool false) (.cons (mg m) (.cons (.bool false) (.cons (.ro 0 .nil) r)))) (λm=> .cons (.bool true) (.cons (mg (Nat.succ m)) (.cons (.bool false) (.cons (.ro 0 .nil) r)))) n) l
def qd (l:List (Int×Nat)) (t:AV):AV:=List.rec (motive:=λ_=>AV) t (λn _ r=>Int.rec (motive:=λ_=>AV) (λm=> .cons (.bool false) (.cons (mg m) (.cons (.bool false) (.cons (mg n.2) r)))) (λm=> .cons (.bool true) (.cons (mg (Nat.succ m)) (.cons (.bool false) (.cons (mg n.2) r)))) n.1) l
end
section
def bxL (a b c x y z:Int):List Int:=[a,b,c,a,b,z,a,y,c,a,y,z,x,b,c,x,b,z,x,y,c,x,y,z]
def bxI (a b c x y z:Int):AV:= .ro 8 (iz .i64 (bxL a b c x y z) .nil)
def Re (l:List Int):AV:= .ro 4 (iz .i64 l .nil)
def bxF (d0 d1 d2 d3 d4 d5:Nat) (a b c x y z:Int):AV:=
 .ro 6 (qd [(-1,d0),(0,d0),(0,d0),(-a,0)] (.cons (Re [0,1,3,2]) (qd [(0,d1),(0,d1),(-1,d1),(-c,0)] (.cons (Re [0,2,6,4]) (qd [(0,d2),(-1,d2),(0,d2),(-b,0)] (.cons (Re [0,4,5,1])
  (qd [(0,d3),(0,d3),(1,d3),(z,0)] (.cons (Re [1,5,7,3]) (qd [(0,d4),(1,d4),(0,d4),(y,0)] (.cons (Re [2,3,7,6]) (qd [(1,d5),(0,d5),(0,d5),(x,0)] (.cons (Re [4,6,7,5]) .nil))))))))))))
def bxE:AV:= .ro 12 (iz .i64 [0,1,0,2,0,2,0,1,0,4,1,2,1,3,0,3,1,5,2,3,2,3,0,4,2,6,1,4,3,7,3,4,4,5,2,5,4,6,1,5,5,7,3,5,6,7,4,5] .nil)
def bx (d0 d1 d2 d3 d4 d5:Nat) (a b c x y z:Int):AV:= .agg (.cons (.ro 8 (qz (bxL a b c x y z) .nil)) (.cons (bxF d0 d1 d2 d3 d4 d5 a b c x y z) (.cons bxE .nil)))
def GD:Int ->Int ->Int ->Int ->Int ->Int ->AV:=bx 0 0 0 0 0 0
def bxp (n:List Int) (m:Int) (t:AV):AV:=iz .i64 n (.cons (.int .u64 m) t)
def bxR (a b c x y z:Int):AV:= .aS (.cons (.ro 6 (bxp [-((y - b)*(z - c)),0,0] 15 (bxp [0,0,-((x - a)*(y - b))] 85 (bxp [0,-((x - a)*(z - c)),0] 51 (bxp [0,0,(x - a)*(y - b)] 170 (bxp [0,(x - a)*(z - c),0] 204 (bxp [(y - b)*(z - c),0,0] 240 .nil)))))))
 (.cons (.ro 6 (.cons (Re [0,1,3,2]) (.cons (Re [0,2,6,4]) (.cons (Re [0,4,5,1]) (.cons (Re [1,5,7,3]) (.cons (Re [2,3,7,6]) (.cons (Re [4,6,7,5]) .nil))))))) (.cons (.int .u64 255) .nil)))
end
section
variable [aT]
section
def PV (j:Nat) (l:List Nat):Bool:=List.rec (motive:=λ_=>Bool) false (λx _ ih=>Bool.rec (motive:=λ_=>Bool) ih true (Nat.beq j x)) l
def ow (n:Nat) (seen:List Nat):List Nat:=Nat.rec (motive:=λ_=>List Nat) [] (λi ih=>Bool.rec (motive:=λ_=>List Nat) (i::ih) ih (PV i seen)) n
def vh (f:Nat ->AV×Heap) (l:List Nat):List (AV×Heap):=List.rec (motive:=λ_=>List (AV×Heap)) [] (λj _ ih=>f j::ih) l
def mF (l:List (AV×AV)) (j:Nat):AV:=match l[j]? with|some e=> .aS (.cons (.bool true) (.cons e.1 (.cons e.2 .nil)))|none=> .undef
def qL (x:Operand) (r:Tr AV) (h:Heap):Option (List (AV×Heap)):=
 match ev x r with
 | .ptr id 0=>(match h.t.get id with
  |some (.mi m n seen)=>(match h.t.get m with
   |some (.mp l)=>Bool.casesOn (motive:=λ_=>Option (List (AV×Heap))) (Nat.beq l.length n) none
    (match ow n seen with
     |[]=>some [(.aS (.cons (.bool false) .nil),h)]|j::js=>some (vh (λj=>(mF l j,⟨h.t.set (.mi m n (j::seen)) id,h.n⟩)) (j::js)))
   |_=>none)
  |_=>none)
 |_=>none
end
theorem zk {j:Nat}:∀{l:List Nat},PV j l=true↔j∈l
 |[]=>by simp [PV]
 |x::l=>by
  change (Bool.rec (motive:=λ_=>Bool) (PV j l) true (Nat.beq j x))=true↔_;cases h:Nat.beq j x with
  |true=>simp [Nat.eq_of_beq_eq_true h]|false=>
   have:j≠x:=λe=>by rw [e,Nat.beq_refl]at h;cases h
   simp [zk (l:=l),this]
theorem mb {seen:List Nat} {j:Nat}:∀{n:Nat},j∈ow n seen↔j<n/\j ∉ seen
 |0=>by show j∈([]:List Nat)↔_;simp
 |n+1=>by
  change j∈(Bool.rec (motive:=λ_=>List Nat) (n::ow n seen) (ow n seen) (PV n seen))↔_;cases h:PV n seen with
  |true=>
   have h:=zk.1 h;rw [show(Bool.rec (motive:=λ_=>List Nat) (n::ow n seen) (ow n seen) true:List Nat)=ow n seen from rfl,mb (n:=n)];constructor
   .rintro ⟨h1,h2⟩;exact⟨by omega,h2⟩
   .rintro ⟨h1,h2⟩;refine⟨?_,h2⟩;rcases Nat.lt_or_ge j n with h3|h3
    .exact h3
    .have:j=n:=(by omega);subst this;exact absurd h h2
  |false=>
   have h:n ∉ seen:=λe=>by rw [zk.2 e]at h;cases h
   rw [show(Bool.rec (motive:=λ_=>List Nat) (n::ow n seen) (ow n seen) false:List Nat)=n::ow n seen from rfl,List.mem_cons,mb (n:=n)];constructor
   .rintro (h1|⟨h1,h2⟩)
    .subst h1;exact⟨by omega,h⟩
    .exact⟨by omega,h2⟩
   .rintro ⟨h1,h2⟩;rcases Nat.lt_or_ge j n with h3|h3
    .exact .inr ⟨h3,h2⟩
    .exact .inl (by omega)
theorem xc {f:Nat ->AV×Heap} {j:Nat}:∀{l:List Nat},j∈l ->f j∈vh f l
 |x::l,h=>by
  change f j∈f x::vh f l;rcases List.mem_cons.1 h with rfl|h
  .exact List.mem_cons_self
  .exact List.mem_cons_of_mem _ (xc h)
theorem vi {m:Pos} {n:Nat} {s:List Nat} {B:nJ}:¬(AO.mi m n s).cU B:=λ⟨_,_,e⟩=>by cases e
variable {P:Program} {B0:Nat}
theorem Te {o:Oper} {x:Operand} (ho:o.op= .next x false) {r:Tr AV} {μ:Mu} {h:Heap} {w:World} {a:Act} (hh:HR μ B0 h w) (hr:RR μ r a.tmps) {L:List (AV×Heap)} (hL:qL x r h=some L):
  ∃q∈L,uM P μ B0 h w a o (.val q.1 q.2):=by
 have hx:=aP hh.dO hr x;unfold qL at hL;split at hL
 .rename_i id ex;rw [ex]at hx;obtain⟨B,hB,hx⟩:=hx;split at hL
  .rename_i m n seen hg;obtain⟨AG,M,sn,hM,hw,hsn⟩:=hh.obj id B _ hB hg;have hx:a.eval x= .pointer (some ⟨B.b,0,none⟩):=(by rw [AG]at hx;simpa using hx);split at hL
   .rename_i l hgm;obtain⟨es,h1,h2⟩:=hh.obj m M _ hM hgm;have hlen:=Dw h2;cases hn:Nat.beq l.length n with
    |false=>rw [hn]at hL;cases hL|true=>
     rw [hn]at hL;have hn:=Nat.eq_of_beq_eq_true hn;simp only at hL;have hsz:es.size=n:=(by rw [<-hn,hlen];simp);have dF:∀j,j∈sn.toList↔j∈seen:=λj=>by rw [hsn,List.mem_reverse]
     have abk:∀e,e∈(leftOf es sn).toList↔e∈es.toList/\e.born ∉ seen:=λe=>by
      unfold leftOf;rw [Array.toList_filter,List.mem_filter];refine and_congr_right λ_=>?_;rw [Bool.not_eq_true',<-Bool.not_eq_true,Array.contains_iff_mem,<-Array.mem_toList_iff,dF]
     have Mc:∀e∈es.toList,es.toList[e.born]?=some e/\e.born<n:=λe he=>by
      obtain⟨i,hi⟩:=List.getElem?_of_mem he;have Iv:i<l.length:=(by have:=(List.getElem?_eq_some_iff.1 hi).1;omega);obtain⟨e',g1,_,_,g4⟩:=yA h2 i (x:=l[i]) (List.getElem?_eq_getElem Iv);rw [hi]at g1;cases g1;have:e.born=i:=(by omega);rw [this];exact⟨hi,by omega⟩
     have bu:=run_next_at (P:=P) w o.type B.b M.b n n sn es es.size hw h1 (λe he=>(Mc e he).2) (Nat.le_refl _);rcases bu with ⟨Xh,bu⟩|⟨e,he,w1,hw1,bu⟩
     .have JF:ow n seen=[]:=by
       rw [List.eq_nil_iff_forall_not_mem];intro j hj;obtain⟨hj1,hj2⟩:=mb.1 hj;obtain⟨e,g1,_,_,g4⟩:=yA h2 j (x:=l[j]'(by omega)) (List.getElem?_eq_getElem (by omega));have:e∈(leftOf es sn).toList:=(abk e).2 ⟨List.mem_of_getElem? g1,by rw [g4];simpa using hj2⟩;have h0:(leftOf es sn).toList.length=0:=(by simpa using Xh);rw [List.length_eq_zero_iff.1 h0]at this;cases this
      rw [JF]at hL;cases hL;refine⟨_,List.mem_cons_self,.tuple #[.bool false],μ,w,.inl ?_,⟨#[.bool false],rfl,.bool false,[],rfl,rfl,rfl⟩,bP.refl hh⟩;simp only [execOp,ho,hx,Sem.run_bind,bu,Result.andThen_ok,Sem.run_pure]
     .obtain⟨he1,he2⟩:=(abk e).1 he;obtain⟨nZ,rz⟩:=Mc e he1;have qA:e.born∈ow n seen:=mb.2 ⟨rz,he2⟩;have hLm:(mF l e.born,(⟨h.t.set (.mi m n (e.born::seen)) id,h.n⟩:Heap))∈L:=by
       split at hL
       .rename_i JF;rw [JF]at qA;cases qA
       .rename_i j js hjs;cases hL;rw [hjs]at qA;exact xc (f:=λj=>(mF l j,(⟨h.t.set (.mi m n (j::seen)) id,h.n⟩:Heap))) qA
      refine⟨_,hLm,?_⟩;obtain⟨e',g1,g2,g3,g4⟩:=yA h2 e.born (x:=l[e.born]'(by omega)) (List.getElem?_eq_getElem (by omega));rw [nZ]at g1;cases g1;have Js:mF l e.born= .aS (.cons (.bool true) (.cons (l[e.born]'(by omega)).1 (.cons (l[e.born]'(by omega)).2 .nil))):=by
       unfold mF;rw [List.getElem?_eq_getElem (by omega)]
      rw [Js];have oh:bP μ B0 h w μ h w1:=by
       rcases hw1 with rfl|rfl
       .exact bP.refl hh
       .exact⟨λ_ _=>rfl,Nat.le_refl _,HR.yo (w:=w) (w':=w.drew) rfl hh,(Below.refl _ _).drew,Grow.refl _ _⟩
      have Bx:w1.heap[B.b]?=some (.mapIter (some M.b) n sn n):=(by rcases hw1 with rfl|rfl<;>exact hw);have sF:(ChangeMaps.setBlock w1 B.b (.mapIter (some M.b) n (sn.push e.born) es.size)).heap[B.b]?=some (.mapIter (some M.b) n (sn.push e.born) es.size):=by
       show(w1.heap.setIfInBounds B.b _)[B.b]?=_;exact Array.getElem?_setIfInBounds_self_of_lt (Array.getElem?_eq_some_iff.1 Bx).1
      have jQ:∀k,k≠B.b ->(ChangeMaps.setBlock w1 B.b (.mapIter (some M.b) n (sn.push e.born) es.size)).heap[k]?=w1.heap[k]?:=λk hk=>by
       show(w1.heap.setIfInBounds B.b _)[k]?=_;exact Array.getElem?_setIfInBounds_ne (λe=>hk e.symm)
      have lq:bP μ B0 h w1 μ ⟨h.t.set (.mi m n (e.born::seen)) id,h.n⟩ (ChangeMaps.setBlock w1 B.b (.mapIter (some M.b) n (sn.push e.born) es.size)):=by
       refine⟨λ_ _=>rfl,Nat.le_refl _,oh.rel.chg id B hB (.mi m n (e.born::seen)) rfl (.mi m n seen) hg rfl vi jQ (by simp [ChangeMaps.setBlock]) ⟨AG,M,sn.push e.born,hM,by rw [sF,hsz],by simp [hsn]⟩ _ (λq p e'=>?_),⟨⟨rfl,rfl,rfl,by simp [ChangeMaps.setBlock],λk hk=>jQ k (λe'=>?_)⟩,λ_=>Nat.le_refl _⟩,Grow.refl _ _⟩
       .rw [Tr.bE]at e';by_cases hq:q=id
        .rw [if_pos hq]at e';cases e';exact .inl ⟨hq,rfl⟩
        .rw [if_neg hq]at e';exact .inr ⟨hq,e'⟩
       .have:=(hh.own id B _ hB hg rfl).resolve_left vi;omega
      refine⟨.tuple #[.bool true,e.key,e.val],μ,_,.inl ?_,⟨#[.bool true,e.key,e.val],rfl,_,_,rfl,rfl,_,_,rfl,g2,_,_,rfl,g3,rfl⟩,oh.trans lq⟩;simp only [execOp,ho,hx,Sem.run_bind,bu,Result.andThen_ok,Sem.run_pure]
   .cases hL
  .cases hL
 .cases hL
theorem AY {μ:Mu} {w:World} {b:Frame} {a:Act} {o:Oper} {h h':Heap} {v:AV} (kO:∀c,o.op≠.defer c) (hs:uM P μ B0 h w a o (.val v h')):RZ P B0 μ h w b a o v h':=by
 intro ops i rest k cs ho hw;have mT:∀u,(b.atR a (.inRegion ops (i::rest)::k)).finish u=b.atR (a.put o.dst u) (.inRegion ops rest::k):=by
  intro u;rw [Frame.finish_atR,ho];rfl
 have hg:=stepGR_op (P:=P) (b:=b) (k:=k) (cs:=cs) (w:=w) (rest:=rest) ho hw;rw [Oper.semAt_eq _ _ _ kO]at hg;obtain⟨cv,μ',w',bu,hv,hp⟩:=hs;refine⟨cv,μ',w',hv,hp,.one (step_lone_go ?_)⟩;rcases bu with bu|⟨bu,rfl⟩
 .rw [hg,<-mT];simp [stepG.apply,bu]
 .rw [hg,<-mT];simp [stepG.apply,bu]
section
end
theorem ft.aiy {μ:Mu} {h:Heap} {w:World} {nt:Nat} {b:Frame} {S:List Item ->List Frame ->Machine} {x:R} (hx:x≠.fail) (hp:ft P B0 μ h w nt b S x) (k:List Item) (cs:List Frame):RW P B0 μ h.n w nt b k cs (S k cs) x:=by
 cases x with
 |fail=>exact hx rfl|ok r m h'=>obtain⟨μ',a',w',hp,h1,h2⟩:=hp k cs;exact⟨μ',a',w',.pd hp,h1,h2⟩
 |exit i r m h'=>obtain⟨μ',a',w',hp,h1,h2⟩:=hp k cs;exact⟨μ',a',w',.pd hp,h1,h2⟩
 |ret r m h'=>obtain⟨μ',a',w',hp,h1,h2⟩:=hp k cs;exact⟨μ',a',w',.pd hp,h1,h2⟩
section
variable {cx:Cx}
end
end
section
variable [aT] {P:Program} {B0:Nat} {cx:Cx}
theorem Cw.next (hP:cx.P=P) (aZ:aU P B0 cx.call) {id:Nat} {ops:Array Oper} {o:Oper} {x:Operand} {l:List Oper} (hl:ops.toList=o::l) (hgd:o.guard=none) (ho:o.op= .next x false) {r:Tr AV} {m:List Pos} {h:Heap} {L:List (AV×Heap)} (hL:qL x r h=some L) {Q:R ->Prop}
  (hb:∀q∈L,∃r',oV o.dst cx.nt q.1 r=some r'/\wM ops l cx r' m q.2≠.fail/\Q (wM ops l cx r' m q.2)):Cw P B0 cx (.region id ops false) r m h Q:=by
 intro μ w b a kk cs hr ha hf;obtain⟨q,hq,hs⟩:=Te (P:=P) ho hr ha.rr hL;obtain⟨r',SU,dD,hQ⟩:=hb q hq;refine⟨_,hQ,?_⟩;have Bw:ops[0]?=some o:=by rw [<-Array.getElem?_toList,hl];rfl
 have mw:=AY (b:=b) (λc e=>by rw [ho]at e;cases e) hs;have afD:Region.wanted o (yielded ops a.tmps)=true:=by unfold Region.wanted;rw [hgd]
 obtain⟨cv,μ',w',hv,hp,tu⟩:=mw ops 0 (List.range' 1 l.length) kk cs Bw afD;obtain⟨g1,g2,g3⟩:=tx SU (ha.rr.mono (hp.mu hr)) ha.size hv;have aa9:=qB hP aZ (b:=b) (ops:=ops) l 1 r' m q.2 μ' w' (a.put o.dst cv) (λn o' hn=>by
  rw [<-Array.getElem?_toList,hl,show 1+n=n+1 by omega];simpa using hn) hp.rel ⟨g1,g2,by rw [g3];exact ha.dr.mono (hp.mu hr)⟩
 have hRW:=ft.aiy dD aa9 kk cs;refine hRW.ahead ?_ hp.below (XT.pd hp).dK;have h0:=stepR_region (P:=P) (b:=b) (a:=a) (k:=kk) (cs:=cs) (w:=w) (ops:=ops) (id:=id);have hsz:List.range ops.size=0::List.range' 1 l.length:=by
  rw [<-Array.length_toList,hl,List.length_cons,List.range_eq_range',List.range'_succ]
 rw [hsz]at h0;exact(Steps.one h0).trans tu
variable {κ β:Type} [DecidableEq κ] {A:bW κ} {B:bW β}
theorem zl {f:Nat ->AV×Heap} {q:AV×Heap}:∀{l:List Nat},q∈vh f l ->∃j∈l,q=f j
 |x::l,h=>by
  change q∈f x::vh f l at h;rcases List.mem_cons.1 h with rfl|h
  .exact⟨x,List.mem_cons_self,rfl⟩
  .obtain⟨j,h1,h2⟩:=zl h;exact⟨j,List.mem_cons_of_mem _ h1,h2⟩
theorem afE {x:Operand} {r:Tr AV} {h:Heap} {id m:Pos} {n:Nat} {seen:List Nat} {l:List (κ×β)} (hx:ev x r= .ptr id 0) (hi:h.t.get id=some (.mi m n seen)) (hm:h.t.get m=some (.mp (mE A B l))) (hn:l.length=n):
  ∃L,qL x r h=some L/\∀q∈L,((∀j,j<l.length ->j∈seen)/\q=(.aS (.cons (.bool false) .nil),h))\/
   (∃(j:Nat) (hj:j<l.length),j ∉ seen/\q=(.aS (.cons (.bool true) (.cons (A.v l[j].1) (.cons (B.v l[j].2) .nil))),⟨h.t.set (.mi m n (j::seen)) id,h.n⟩)):=by
 unfold qL;rw [hx];simp only [hi,hm];have hlen:Nat.beq (mE A B l).length n=true:=by rw [Kg,hn];exact Nat.beq_refl _
 rw [hlen];simp only;cases hj:ow n seen with
 |nil=>
  refine⟨_,rfl,λq hq=> .inl ⟨λj hjl=>?_,List.mem_singleton.1 hq⟩⟩;by_cases h1:j∈seen
  .exact h1
  .exact absurd (mb.2 ⟨hn ▸ hjl,h1⟩) (by rw [hj];exact List.not_mem_nil)
 |cons a js=>
  refine⟨_,rfl,λq hq=> .inr ?_⟩;obtain⟨j,h1,rfl⟩:=zl hq;rw [<-hj]at h1;obtain⟨h1,h2⟩:=mb.1 h1;refine⟨j,by omega,h2,?_⟩;have:mF (mE A B l) j= .aS (.cons (.bool true) (.cons (A.v (l[j]'(by omega)).1) (.cons (B.v (l[j]'(by omega)).2) .nil))):=by
   unfold mF mE;rw [List.getElem?_map,List.getElem?_eq_getElem (by omega)];rfl
  rw [this]
theorem aiz {x:Operand} {r:Tr AV} {h:Heap} {id m:Pos} {n j:Nat} {seen:List Nat} {l:List (κ×β)} (hx:ev x r= .ptr id 0) (hi:h.t.get id=some (.mi m n (j::seen))) (hm:h.t.get m=some (.mp (mE A B l))) (hn:l.length=n) (hj:j<l.length):
  pY (.entry x) P r h= .val (.aS (.cons (A.v l[j].1) (.cons (B.v l[j].2) .nil))) h:=by
 have e:oU x P r h=some (.aS (.cons (A.v l[j].1) (.cons (B.v l[j].2) .nil))):=by
  unfold oU;rw [hx];simp only [hi,hm];have hlen:Nat.beq (mE A B l).length n=true:=by rw [Kg,hn];exact Nat.beq_refl _
  rw [hlen];simp only;unfold mE;rw [List.getElem?_map,List.getElem?_eq_getElem hj];rfl
 show Option.casesOn (motive:=λ_=>Heap ->OR) (oU x P r h) (λ_=> .fail) (λv h=> .val v h) h=_;rw [e]
theorem PW {l:List (κ×β)} {seen:List Nat} (h1:∀j,j<l.length ->j∈seen) (h2:seen.Nodup) (h3:∀j∈seen,j<l.length) (z:β):(seen.reverse.map λj=>(l[j]?.map (·.2)).getD z).Perm (l.map (·.2)):=by
 have hp:seen.reverse.Perm (List.range l.length):=by
  refine(List.reverse_perm _).trans ?_;refine(List.perm_ext_iff_of_nodup h2 List.nodup_range).2 λj=>?_;rw [List.mem_range];exact⟨h3 j,h1 j⟩
 refine(hp.map _).trans (List.Perm.of_eq ?_);apply List.ext_getElem?;intro k;rw [List.getElem?_map,List.getElem?_map];by_cases hk:k<l.length
 .rw [List.getElem?_range hk,List.getElem?_eq_getElem hk];simp [hk]
 .rw [List.getElem?_eq_none (by rw [List.length_range];omega),List.getElem?_eq_none (by omega)];rfl
end
section
open Go.RowKit Go.Proofs Go.Sort
theorem qM {β γ:Type} {f:β ->List γ} {k:Nat} (hk:∀x,(f x).length=k) (GF:0<k):∀(L:List β) (t:Nat),(L.flatMap f)[t]?=(L[t/k]?).bind λx=>(f x)[t % k]?
 |[],t=>by simp
 |x::L,t=>by
  rw [List.flatMap_cons];by_cases h:t<k
  .rw [List.getElem?_append_left (by rw [hk];exact h),Nat.div_eq_of_lt h,Nat.mod_eq_of_lt h];rfl
  .rw [List.getElem?_append_right (by rw [hk];omega),hk,qM hk GF L];have h1:t/k=(t - k)/k+1:=(by rw [<-Nat.add_div_right _ GF];congr 1;omega);have h2:t % k=(t - k) % k:=(by rw [<-Nat.add_mod_right (t - k) k];congr 1;omega);rw [h1,h2,List.getElem?_cons_succ]
def Iw {α:Type} (cmp:α ->α ->Int) (xs:List α):List α:=xs.mergeSort λa b=>!decide (cmp b a<0)
theorem jY {α:Type} (cmp:α ->α ->Int) (xs:List α):(Iw cmp xs).Perm xs:=List.mergeSort_perm ..
section
variable {α:Type} [Inhabited α] {cmp:α ->α ->Int}
theorem vj (hO:SWO λx y=>decide (cmp x y<0)) (xs:List α):(Iw cmp xs).Pairwise λa b=>(!decide (cmp b a<0))=true:=by
 refine List.pairwise_mergeSort (le:=λa b=>!decide (cmp b a<0)) (λa b c h1 h2=>?_) (λa b=>?_) xs
 .have h1:(!decide (cmp b a<0))=true:=h1;have h2:(!decide (cmp c b<0))=true:=h2;show(!decide (cmp c a<0))=true;rw [Bool.not_eq_true']at h1 h2 ⊢;exact hO.ntrans c b a h2 h1
 .show((!decide (cmp b a<0))||(!decide (cmp a b<0)))=true;cases h1:decide (cmp b a<0)with
  |false=>rfl|true=>
   cases h2:decide (cmp a b<0)with
   |false=>rfl|true=>have:=hO.trans b a b h1 h2;rw [hO.irrefl]at this;cases this
theorem Kj (hO:SWO λx y=>decide (cmp x y<0)) {xs zs:List α} (ha:∀x∈xs,∀y∈xs,¬cmp x y<0 ->¬cmp y x<0 ->x=y) (hp:zs.Perm xs) (hs:zs.Pairwise λa b=>(!decide (cmp b a<0))=true):zs=Iw cmp xs:=by
 refine List.Perm.eq_of_pairwise (le:=λa b=>(!decide (cmp b a<0))=true) (λa b h1 h2 h3 h4=>?_) hs (vj hO xs) (hp.trans (jY cmp xs).symm);refine ha a (hp.subset h1) b ((jY cmp xs).subset h2) ?_ ?_
 .intro h;rw [decide_eq_true h]at h4;cases h4
 .intro h;rw [decide_eq_true h]at h3;cases h3
theorem GG (hO:SWO λx y=>decide (cmp x y<0)) {xs zs:List α} (ha:∀x∈xs,∀y∈xs,¬cmp x y<0 ->¬cmp y x<0 ->x=y) (hp:zs.Perm xs):Iw cmp zs=Iw cmp xs:=
 Kj hO ha ((jY cmp zs).trans hp) (vj hO zs)
end
def SortShelf (P:Program) (f g:FuncId) (k:Nat):Prop:=
 ∀(enc:Nat ->List Value),(∀x,(enc x).length=k) ->(∀x,∀v∈enc x,v.oneCell'=true) ->∀(cf:Nat ->Nat ->Int),SWO (ltOf cf) ->∀(blk off cap:Nat) (d:Array Nat) (w:World),
  (∀args w,(callFunc g args).run P w= .ok (.enter g args) w) ->CmpLays P g #[] enc k cf blk off d.size w ->HoldsK enc k w blk off d ->blk<w.heap.size ->d.size<4611686018427387904 ->
  Calls P f #[.slice (some ⟨blk,off,none⟩) d.size cap,.func (.func g) #[] #[]] w λe w'=>
   e= .returned (.tuple #[])/\∃d' n os,PermIn 0 d.size d d'/\SortedIn (ltOf cf) 0 d.size d'/\w'=sortWorldK enc k w blk off n d' os
section
variable {α:Type} [Inhabited α]
open Classical in
def BU (f g:FuncId) (E:bW α) (cmp:α ->α ->Int) (ok:List α ->Prop) (call:eL ->AV ->Heap ->CR):eL ->AV ->Heap ->CR:=λt a h=>
 if hx:∃p:Pos×List α,ok p.2/\t= .fn f/\a= .cons (.gs p.1 p.2.length E.sz) (.cons (.func (.func g) .nil .nil) .nil)/\h.t.get p.1=some (.gl (E.l p.2) false)then
  .ret (.aS .nil) ⟨h.t.set (.gl (E.l (Iw cmp hx.choose.2)) false) hx.choose.1,h.n⟩else call t a h
variable {f g:FuncId} {E:bW α} {cmp:α ->α ->Int} {ok:List α ->Prop} {call:eL ->AV ->Heap ->CR}
theorem Yg [aT] {id:Pos} {xs:List α} {n sz:Nat} {h:Heap} (gy:ok xs) (hg:h.t.get id=some (.gl (E.l xs) false)) (hn:n=xs.length) (hz:sz=E.sz) {K:AV ->Heap ->Prop} (hk:K (.aS .nil) ⟨h.t.set (.gl (E.l (Iw cmp xs)) false) id,h.n⟩):
  ∃v h',BU f g E cmp ok call (.fn f) (.cons (.gs id n sz) (.cons (.func (.func g) .nil .nil) .nil)) h= .ret v h'/\K v h':=by
 subst hn hz;have hx:∃p:Pos×List α,ok p.2/\eL.fn f= .fn f/\AV.cons (.gs id xs.length E.sz) (.cons (.func (.func g) .nil .nil) .nil)= .cons (.gs p.1 p.2.length E.sz) (.cons (.func (.func g) .nil .nil) .nil)/\h.t.get p.1=some (.gl (E.l p.2) false):=⟨(id,xs),gy,rfl,rfl,hg⟩
 refine⟨_,_,dif_pos hx,?_⟩;obtain⟨_,_,h2,h3⟩:=hx.choose_spec;generalize hx.choose=p at*;injection h2 with h2 _;injection h2 with h2 _;subst h2;rw [hg]at h3;injection h3 with h3;injection h3 with h3 _;rw [<-E.vd h3];exact hk
theorem xN {f':FuncId} (dD:f'≠f) {a:AV} {h:Heap} {K:AV ->Heap ->Prop} (hk:∃v h',call (.fn f') a h= .ret v h'/\K v h'):∃v h',BU f g E cmp ok call (.fn f') a h= .ret v h'/\K v h':=by
 obtain⟨v,h',e,k⟩:=hk;refine⟨v,h',?_,k⟩;unfold BU;rw [dif_neg]
 .exact e
 .rintro ⟨p,_,e,_⟩;exact dD (by injection e)
end
theorem bW.Tf [aT] {α:Type} (E:bW α) (x:α) (t:AV):app (E.c x .nil) t=E.c x t:=bW.xL
structure Tg {α:Type} [Inhabited α] (T:aT) (P:Program) (f g:FuncId) (E:bW α) (cmp:α ->α ->Int) (ok:List α ->Prop):Prop where
 agg:E.agg=true
 shelf:SortShelf P f g E.sz
 swo:SWO λx y=>decide (cmp x y<0)
 Yh:∀xs,ok xs ->∀x∈xs,∀y∈xs,¬cmp x y<0 ->¬cmp y x<0 ->x=y
 ne:∀xs,ok xs ->xs≠[]/\xs.length<4611686018427387904
 bd:∃fn,P.funcs[f]?=some fn/\fn.body.isSome=true
 bg:∃fn,P.funcs[g]?=some fn/\fn.body.isSome=true
 pf:∀xs,ok xs ->∀x∈xs,∀y∈xs,@PF fp P g (.cons (E.v x) (.cons (E.v y) .nil)) (.int .i64 (cmp x y))
theorem Yi {B:Nat} {w w':World} (hB:B=w.heap.size) (h:@Below fp B w w'):∃q os,w'=grow (w.drewN q) os:=by
 subst hB;have hb:= @Below.toBelow fp _ _ _ h;have hd:= @Below.drawn fp _ _ _ h rfl;refine⟨w'.drawn - w.drawn,w'.heap.extract w.heap.size w'.heap.size,?_⟩;have hh:w'.heap=w.heap++w'.heap.extract w.heap.size w'.heap.size:=by
  apply Array.ext_getElem?;intro k;by_cases hk:k<w.heap.size
  .rw [hb.block k hk,Array.getElem?_append_left hk]
  .rw [Array.getElem?_append_right (by omega),Array.getElem?_extract];by_cases h2:k<w'.heap.size
   .rw [if_pos (by omega),show w.heap.size+(k - w.heap.size)=k by omega]
   .rw [if_neg (by omega),Array.getElem?_eq_none (by omega)]
 have e:w.drawn+(w'.drawn - w.drawn)=w'.drawn:=by omega
 obtain⟨h1,t1,d1,o1,p1⟩:=w';obtain⟨h0,t0,d0,o0,p0⟩:=w;have a1:o1=o0:=hb.os;have a2:t1=t0:=hb.tape;have a3:p1=p0:=hb.output;subst a1 a2 a3;simp only [grow,World.drewN]at*;rw [e,<-hh]
theorem zm {enc:Nat ->List Value} {k blk off m:Nat} {w:World} {dk:Array Nat} {os:Array Obj} {b:Nat} (hb:b<w.heap.size):
  (sortWorldK enc k w blk off m dk os).heap[b]?=if blk=b then(w.heap[b]?).map (onCells (putCells id off (flatK enc k dk)))else w.heap[b]?:=by
 show((w.heap.modify blk (onCells (putCells id off (flatK enc k dk))))++os)[b]?=_;rw [Array.getElem?_append_left (by rw [Array.size_modify];exact hb),Array.getElem?_modify]
theorem Kk {enc:Nat ->List Value} {k blk off m:Nat} {w:World} {dk:Array Nat} {os:Array Obj}:w.heap.size<=(sortWorldK enc k w blk off m dk os).heap.size:=by
 show w.heap.size<=((w.heap.modify blk (onCells (putCells id off (flatK enc k dk))))++os).size;rw [Array.size_append,Array.size_modify];omega
theorem zn {enc:Nat ->List Value} {k:Nat} (hk:∀x,(enc x).length=k) (GF:0<k) (d:Array Nat):(flatK enc k d).toList=d.toList.flatMap enc:=by
 apply List.ext_getElem?;intro t;have hl:(d.toList.flatMap enc).length=d.size*k:=by
  have:∀L:List Nat,(L.flatMap enc).length=L.length*k:=λL=>by
   induction L with
   |nil=>simp|cons x L ih=>rw [List.flatMap_cons,List.length_append,hk,ih,List.length_cons,Nat.add_mul];omega
  rw [this,Array.length_toList]
 by_cases ht:t<d.size*k
 .have h1:t/k<d.size:=Nat.div_lt_of_lt_mul (by rw [Nat.mul_comm];exact ht);have h2:t % k<k:=Nat.mod_lt _ GF;rw [qM hk GF,Array.getElem?_toList,Array.getElem?_toList,Array.getElem?_eq_getElem h1,Array.getElem?_eq_getElem (by rw [size_flatK];exact ht)];have h3:=get_flatK enc k d t ht;rw [getElem!_pos _ t (by rw [size_flatK];exact ht),getElem!_pos d _ h1,getElem!_pos _ _ (by rw [hk];exact h2)]at h3;rw [h3];exact(List.getElem?_eq_getElem (by rw [hk];exact h2)).symm
 .rw [List.getElem?_eq_none (by rw [Array.length_toList,size_flatK];omega),List.getElem?_eq_none (by rw [hl];omega)]
theorem GH [aT] {α:Type} (E:bW α) {μ:Mu} {g:Nat ->α} {enc:Nat ->List Value} (h:∀i,cJ μ (E.c (g i) .nil) (enc i)):∀L:List Nat,cJ μ (E.l (L.map g)) (L.flatMap enc)
 |[]=>rfl|i::L=>by
  have:=(GH E h L).app (h i);rw [E.Tf]at this;exact this
theorem Th {α:Type} [Inhabited α] {T:aT} {P:Program} {B0:Nat} (eH:eO P) {f g:FuncId} {E:bW α} {cmp:α ->α ->Int} {ok:List α ->Prop} (I:Tg T P f g E cmp ok) {call:eL ->AV ->Heap ->CR} (aZ:@aU T P B0 call):@aU T P B0 (BU f g E cmp ok call):=by
 letI:aT:=T
 intro t xs' h v h' e μ w hr;unfold BU at e;split at e
 .rename_i hx;obtain⟨gy,ht,ha,hg⟩:=hx.choose_spec;generalize hx.choose=p at*;obtain⟨AZ,xs⟩:=p;subst ht ha;cases e;obtain⟨fn,Gb,hb⟩:=I.bd;obtain⟨gn,hgn,hbg⟩:=I.bg;refine⟨λcargs=>eH _ fn cargs w Gb hb,λcargs eR=>?_⟩;obtain⟨dD,cR⟩:=I.ne xs gy;have Yj:0<xs.length:=List.length_pos_iff.2 dD;have hsz:0<E.sz:=E.pos;obtain⟨v0,r,e1,h1,v1,r',e2,h2,h3⟩:=eR;have h3:r'=[]:=h3;subst h3 e2;obtain⟨B,hB,wP⟩:=h1;have wP:∃c,v0= .slice (some ⟨B.b,B.base,none⟩) xs.length c/\xs.length<=c:=by
   rcases wP with ⟨c,hc,h4,_⟩|⟨h0,_⟩
   .exact⟨c,by injection hc,h4⟩
   .have h0:xs.length=0:=h0;omega
  obtain⟨c0,rfl,xB⟩:=wP;obtain⟨F,C,e3,_,hF,hC⟩:=h2;have hF:F.toList=[]:=hF;have hC:C.toList=[]:=hC;have hF:F=#[]:=by cases F;simp at hF;rw [hF]
  have hC:C=#[]:=by cases C;simp at hC;rw [hC]
  subst hF hC;injection e3 with e3 _;subst e3;have hca:cargs=#[.slice (some ⟨B.b,B.base,none⟩) xs.length c0,.func (.func g) #[] #[]]:=by cases cargs;simp at e1;rw [e1]
  subst hca;have Dt:E.l xs≠.nil:=λh0=>by
   have:=E.ep xs;rw [h0]at this;have this:0=xs.length*E.sz:=this;have:=Nat.mul_pos Yj hsz;omega
  have dF:¬(AO.gl (E.l xs) false).cU B:=λ⟨_,ro,e⟩=>by injection e with e _;exact Dt e
  rcases hr.obj AZ B _ hB hg with ⟨_,h0⟩|⟨gI,hv,Rf,c,el,fz,hh,Xe,Yk,_,Az⟩
  .exact absurd h0 Dt
  have hlen:gI.length=xs.length*E.sz:=by rw [<-hv.len,E.ep]
  have afF:B.b<w.heap.size:=(Array.getElem?_eq_some_iff.1 hh).1;generalize hn:xs.length=n at*;have Ti:∀i (hi:i<xs.length),cJ μ (E.c xs[i] .nil) ((gI.drop (i*E.sz)).take E.sz)/\E.sz<=(gI.drop (i*E.sz)).length:=λi hi=>
   cJ.take_drop E.sz (i*E.sz) hv (by rw [show i*E.sz=Nat.mul i E.sz from rfl,E.BQ hi];exact E.Mt _ _)
  have pU:∀i,i % n<xs.length:=λi=>by rw [hn];exact Nat.mod_lt _ Yj
  have hk:∀i,((gI.drop ((i % n)*E.sz)).take E.sz).length=E.sz:=λi=>by rw [List.length_take,Nat.min_eq_left (Ti _ (pU i)).2]
  generalize BV:(λi=>(gI.drop ((i % n)*E.sz)).take E.sz)=enc at*;have BV:∀i,enc i=(gI.drop ((i % n)*E.sz)).take E.sz:=λi=>by rw [<-BV]
  have hk:∀i,(enc i).length=E.sz:=λi=>by rw [BV];exact hk i
  have yu:∀i,cJ μ (E.c (xs[i % n]'(pU i)) .nil) (enc i):=λi=>by rw [BV];exact(Ti _ (pU i)).1
  have h1c:∀i,∀v∈enc i,v.oneCell'=true:=λi=>eJ (yu i) (E.kF [xs[i % n]'(pU i)]);have aiA:SWO (ltOf λi j:Nat=>cmp (xs[i % n]'(pU i)) (xs[j % n]'(pU j))):=⟨λx=>I.swo.irrefl _,λx y z=>I.swo.trans _ _ _,λx y z=>I.swo.ntrans _ _ _⟩
  have afG:(flatK enc E.sz (Array.range n)).toList=gI:=by
   rw [zn hk hsz,Array.toList_range];apply List.ext_getElem?;intro t;rw [qM hk hsz];by_cases ht:t<n*E.sz
   .have h1:t/E.sz<n:=Nat.div_lt_of_lt_mul (by rw [Nat.mul_comm];exact ht);have h2:t % E.sz<E.sz:=Nat.mod_lt _ hsz;rw [List.getElem?_range h1];show(enc (t/E.sz))[t % E.sz]?=_;rw [BV,Nat.mod_eq_of_lt h1,List.getElem?_take,if_pos h2,List.getElem?_drop];congr 1;rw [Nat.mul_comm];exact Nat.div_add_mod t E.sz
   .rw [List.getElem?_eq_none (l:=gI) (by omega),List.getElem?_eq_none (l:=List.range n)]
    .rfl
    .rw [List.length_range];exact(Nat.le_div_iff_mul_le hsz).2 (by omega)
  have hH:HoldsK enc E.sz w B.b B.base (Array.range n):=by
   intro j hj;rw [size_flatK,Array.size_range]at hj;have hjv:j<gI.length:=(by omega);have mo:(flatK enc E.sz (Array.range n))[j]! =gI[j]:=by
    rw [getElem!_pos _ j (by rw [size_flatK,Array.size_range];exact hj)];have:(flatK enc E.sz (Array.range n)).toList[j]?=gI[j]?:=(by rw [afG]);rw [Array.getElem?_toList,Array.getElem?_eq_getElem (by rw [size_flatK,Array.size_range];exact hj),List.getElem?_eq_getElem hjv]at this;exact Option.some.inj this
   refine⟨?_,?_⟩
   .show w.cell? ⟨B.b,B.base+j,none⟩=some ((flatK enc E.sz (Array.range n))[j]!);rw [mo];simp only [World.cell?,hh];exact Az j _ (List.getElem?_eq_getElem hjv)
   .have hu:=Yk (B.base+j) (by omega);obtain⟨f1,f2⟩:=fz;simp [World.frozen?,hh];intro e;simp at hu;exact hu e
  have hcmp:CmpLays P g #[] enc E.sz (λi j:Nat=>cmp (xs[i % n]'(pU i)) (xs[j % n]'(pU j))) B.b B.base (Array.range n).size w:=by
   intro m os dk hdk x y;have hnb:∀b c,μ.s b=some c ->b≠B.b:=λb c e eb=>by
    subst eb;rw [(hr.apart AZ B _ hB hg rfl).resolve_left dF]at e;cases e
   have hS:mC μ.s (sortWorldK enc E.sz w B.b B.base m dk os):=λb c e=>by
    obtain⟨el',fz',h1⟩:=hr.Ar b c e;refine⟨el',fz',?_⟩;rw [zm (Array.getElem?_eq_some_iff.1 h1).1,if_neg (λe'=>hnb b c e e'.symm)];exact h1
   have hva:∀i,dC (tH μ.s) (E.v (xs[i % n]'(pU i))) (.agg (enc i).toArray):=λi=>by
    unfold bW.v;rw [I.agg];exact⟨_,rfl,(E.bm [xs[i % n]'(pU i)]) μ (tH μ.s) _ (λ_ _ e=>e) (yu i)⟩
   have hx:=pU x;have hy:=pU y;refine(I.pf xs gy _ (List.getElem_mem hx) _ (List.getElem_mem hy) μ.s _ hS (λi x hi=>by change ([]:List (AV×Nat))[i]?=some x at hi;simp at hi) #[.agg (enc x).toArray,.agg (enc y).toArray] ⟨_,_,rfl,hva x,_,_,rfl,hva y,rfl⟩).mono λe w' ⟨cv,s',he,_,_,Tj,rB⟩=>?_;have Tj:[cv]=[.int .i64 _]:=Tj;injection Tj with Tj _;obtain⟨q,os',hw⟩:=Yi rfl rB;exact⟨by rw [he,Tj],q,os',hw⟩
  have hsh:=I.shelf enc hk h1c _ aiA B.b B.base c0 (Array.range n) w (λargs w=>eH g gn args w hgn hbg) hcmp hH afF (by rw [Array.size_range];exact cR);rw [Array.size_range]at hsh;refine hsh.mono λe w' ⟨he,d',m,os,hp,hs,hw⟩=>?_;obtain⟨hd,_,zo⟩:=hp;rw [Array.size_range]at hd;have hex:∀d:Array Nat,d.size=n ->(d.extract 0 n).toList=d.toList:=λd hd=>by rw [<-hd,Array.extract_size]
  rw [hex d' hd,hex _ Array.size_range,Array.toList_range]at zo;have hZ:d'.toList.map (λi=>xs[i % n]'(pU i))=Iw cmp xs:=by
   refine Kj I.swo (I.Yh xs gy) ?_ ?_
   .refine(zo.map _).trans (List.Perm.of_eq ?_);apply List.ext_getElem
    .rw [List.length_map,List.length_range,hn]
    .intro i h1 h2;rw [List.getElem_map,List.getElem_range];congr 1;exact Nat.mod_eq_of_lt (by omega)
   .rw [List.pairwise_iff_getElem];intro i j hi hj pQ;rw [List.length_map,Array.length_toList]at hi hj;have:=hs i j (Nat.zero_le _) pQ (by omega);rw [getElem!_pos d' i hi,getElem!_pos d' j hj]at this;rw [List.getElem_map,List.getElem_map];have this:decide (cmp (xs[d'[j] % n]'(pU _)) (xs[d'[i] % n]'(pU _))<0)=false:=this;simp only [Array.getElem_toList];rw [this];rfl
  have hVZ:cJ μ (E.l (Iw cmp xs)) (d'.toList.flatMap enc):=by rw [<-hZ];exact GH E yu _
  have abl:(d'.toList.flatMap enc).length=n*E.sz:=by rw [<-hVZ.len,E.ep,(jY cmp xs).length_eq,hn]
  refine⟨.tuple #[],μ,he,⟨#[],rfl,rfl⟩,λ_ _=>rfl,Nat.le_refl _,?_,?_,Grow.refl _ _⟩
  .have aiB:AB μ (putRowK enc E.sz (Sort.ahead w m) B.b B.base d').heap B (.gl (E.l (Iw cmp xs)) false):=by
    refine .inr ⟨_,hVZ,by rw [abl];omega,putCells id B.base (flatK enc E.sz d') c,el,fz,?_,?_,?_,(λe=>by cases e),λk v LX=>?_⟩
    .show(w.heap.modify B.b (onCells (putCells id B.base (flatK enc E.sz d'))))[B.b]?=_;rw [Array.getElem?_modify,if_pos rfl,hh];rfl
    .unfold putCells;rw [Array.size_mapIdx];exact Xe
    .unfold putCells;rw [Array.size_mapIdx];exact Yk
    .have hkl:k<n*E.sz:=(by rw [<-abl];exact(List.getElem?_eq_some_iff.1 LX).1);have hkc:B.base+k<c.size:=(by omega);unfold putCells;rw [Array.getElem?_mapIdx,Array.getElem?_eq_getElem hkc];have hsf:(flatK enc E.sz d').size=n*E.sz:=(by rw [size_flatK,hd]);show some (if B.base<=B.base+k/\B.base+k<B.base+(flatK enc E.sz d').size then id (flatK enc E.sz d')[B.base+k - B.base]! else _)=some v;rw [if_pos ⟨by omega,by omega⟩,show B.base+k - B.base=k by omega,getElem!_pos _ k (by omega)];rw [<-zn hk hsz,Array.getElem?_toList,Array.getElem?_eq_getElem (by omega)]at LX;exact LX
   have h1:HR μ B0 ⟨h.t.set (.gl (E.l (Iw cmp xs)) false) AZ,h.n⟩ (putRowK enc E.sz (Sort.ahead w m) B.b B.base d'):=by
    refine hr.chg AZ B hB _ rfl _ hg rfl dF (λk hk=>?_) ?_ aiB _ (λq p e=>?_)
    .show(w.heap.modify B.b (onCells (putCells id B.base (flatK enc E.sz d'))))[k]?=_;rw [Array.getElem?_modify,if_neg (λe=>hk e.symm)]
    .show w.heap.size<=(w.heap.modify B.b _).size;rw [Array.size_modify];exact Nat.le_refl _
    .rw [Tr.bE]at e;by_cases hq:q=AZ
     .rw [if_pos hq]at e;exact .inl ⟨hq,by injection e with e;exact e.symm⟩
     .rw [if_neg hq]at e;exact .inr ⟨hq,e⟩
   rw [hw];refine h1.below ⟨⟨rfl,rfl,rfl,?_,λk hk=>?_⟩,λ_=>Nat.le_refl _⟩
   .show _<=(_++os).size;rw [Array.size_append];exact Nat.le_add_right _ _
   .show(_++os)[k]?=_;exact Array.getElem?_append_left hk
  .rw [hw];refine⟨⟨rfl,rfl,rfl,Kk,λk hk=>?_⟩,λ_=>by show w.drawn<=w.drawn+m;omega⟩;have hkb:=(hr.own AZ B _ hB hg rfl).resolve_left dF;rw [zm (by have:=hr.size;omega),if_neg (by omega)]
 .exact aZ t xs' h v h' e μ w hr
end
section
attribute [local instance] fp
theorem il:∀{n v i:Nat} (h:i<(fL n v).length),(fL n v)[i]=((v/4294967296 ^ i % 4294967296:Nat):Int)
 |0,v,i,h=>by simp [fL]at h
 |n+1,v,0,h=>by simp [fL]
 |n+1,v,i+1,h=>by
  simp only [fL,List.getElem_cons_succ];rw [il,Nat.pow_succ,Nat.mul_comm _ 4294967296,Nat.div_div_eq_div_mul]
theorem bI {v i:Nat} (h:i<(dg v).length):(dg v)[i]=((v/4294967296 ^ i % 4294967296:Nat):Int):=il h
theorem vk:∀(n v i:Nat),i<=n ->val ((fL n v).take i)=v % 4294967296 ^ i
 |n,v,0,_=>by simp [val,Nat.mod_one]
 |0,v,i+1,h=>by omega
 |n+1,v,i+1,h=>by
  simp only [fL,List.take_succ_cons,val];rw [vk n _ i (by omega),show(((v % 4294967296:Nat):Int)).toNat=v % 4294967296 from rfl,Nat.pow_succ,Nat.mul_comm _ 4294967296,Nat.mod_mul]
theorem sN {l:List Int} {i:Nat} (h:i<l.length):val (l.take (i+1))=val (l.take i)+4294967296 ^ i*l[i].toNat:=by
 rw [List.take_succ_eq_append_getElem h,gf,List.length_take_of_le (by omega)];simp [val]
theorem oz (l:List Int) (x:Int):val (l++[x])=val l+4294967296 ^ l.length*x.toNat:=by
 rw [gf];simp [val]
theorem DG.append {l m:List Int}:DG (l++m)↔DG l/\DG m:=by
 unfold DG;simp only [List.mem_append];exact⟨λh=>⟨λx hx=>h x (.inl hx),λx hx=>h x (.inr hx)⟩,λh x hx=>hx.elim (h.1 x) (h.2 x)⟩
theorem DG.get {l:List Int} (h:DG l) {i:Nat} (hi:i<l.length):0<=l[i]/\l[i]<4294967296:=h _ (List.getElem_mem hi)
theorem DG.set {l:List Int} (h:DG l) (i:Nat) {x:Int} (h1:0<=x) (h2:x<4294967296):DG (l.set i x):=λy hy=>by
 rcases List.mem_or_eq_of_mem_set hy with e|e
 .exact h y e
 .exact e ▸ ⟨h1,h2⟩
theorem DG.take {l:List Int} (h:DG l) (i:Nat):DG (l.take i):=λy hy=>h y (List.mem_of_mem_take hy)
theorem vl:∀{l:List Int} {i:Nat} (hi:i<l.length) (x:Int),val (l.set i x)+4294967296 ^ i*l[i].toNat=val l+4294967296 ^ i*x.toNat
 |y::l,0,hi,x=>by simp [val];omega
 |y::l,i+1,hi,x=>by
  have:=vl (l:=l) (i:=i) (by simpa using hi) x;simp only [List.set_cons_succ,val,List.getElem_cons_succ,Nat.pow_succ];have e1:∀n:Nat,4294967296 ^ i*4294967296*n=4294967296*(4294967296 ^ i*n):=λn=>by rw [Nat.mul_comm (4294967296 ^ i),Nat.mul_assoc]
  rw [e1,e1];omega
theorem wj:∀n,val (List.replicate n (0:Int))=0
 |0=>rfl|n+1=>by simp [List.replicate_succ,val,wj n]
theorem kH {p:List Int} {n:Nat} {x:Int} (h:0<n):(p++List.replicate n (0:Int)).set p.length x=(p++[x])++List.replicate (n - 1) 0:=by
 obtain⟨m,rfl⟩:∃m,n=m+1:=⟨n - 1,by omega⟩
 rw [List.set_append_right _ _ (by omega)];simp [List.replicate_succ]
def mW:bW (List Int):=(au .u32).list
def aM:bW Nat:=mW.by dg (λ_ _ h=>acP h)
theorem Yl:∀x y:Int,(decide (x<0),x.natAbs)=(decide (y<0),y.natAbs) ->x=y:=by
 intro x y h;injection h with h1 h2;have h1:(x<0)=(y<0):=by simpa using h1
 by_cases hx:x<0
 .have hy:y<0:=h1 ▸ hx;omega
 .have hy:¬y<0:=h1 ▸ hx;omega
def aR:bW Int:=(bG.pair aM).by (λx=>(decide (x<0),x.natAbs)) Yl
def eV (neg:Bool) (m:Nat):Int:=match neg with|true=> -m|false=>m
theorem af:prog.follows .mixedOrders=true:=by kernel_rfl
theorem ae:eO prog:=Gg (by kernel_rfl)
abbrev dQ (f:FuncId) (xs v:AV):Prop:=PF prog f xs v
end
section
attribute [local irreducible] Cw ak bq PF Sub
attribute [local instance] fp
theorem acZ (l:List Int) (hd:DG l) (hs:l.length<4294967296):dQ 202 (.cons (mW.v l) .nil) (aM.v (val l)):=by
 refine PF.of_wp (c:=_) af (by decide) (fn:=f202) rfl rfl rfl ?_ (call:=aH []) (λB0=>az ae [] B0) ?_
 .exact .cons (mW.an _) .nil
 .intro B0;conv=>whnf
  refine Cw.loop (ι:=Nat) (λk=>bl [(0,mW.v (l.take k))]) (λ_=>[]) (λ_=>⟨bV [],pathOf 64⟩)
   (λk=>k<=l.length/\val (l.take k)=val l) (λk=>k) ?_ l.length ⟨Nat.le_refl _,by simp⟩ ?_
  .rintro k ⟨hk,hv⟩;refine aD af rfl rfl (az ae [] B0) _ (aC ?_);have hl:(l.take k).length=k:=List.length_take_of_le hk;refine ay (λh=>?_) (λh=>?_)
   .have h:=aO.1 h;have h0:0<k:=(by rw [hl]at h;exact Int.ofNat_lt.1 h);have e1:aj .i64 (Int.sub (Int.ofNat (l.take k).length) 1)=((k - 1:Nat):Int):=by
     rw [hl,show Int.sub (Int.ofNat k) 1=((k - 1:Nat):Int) by show(k:Int) - 1=_;omega];exact aA (by omega) (by omega)
    conv=>whnf
    refine aL.go (k - 1) e1 (by omega) (aC ?_);refine⟨_,(au .u32).rd rfl (by omega:k - 1<(l.take k).length),aC ?_⟩;refine ay (λh1=>?_) (λh1=>?_)
    .conv=>whnf
     refine JR.go (k - 1) e1 (by omega) (aC ?_);refine⟨_,(au .u32).jW (by omega:k - 1<=(l.take k).length),aC ?_⟩;have hz:(l.take k)[k - 1]'(by omega)=0:=bh.1 h1;have Xf:l.take (k - 1)=(l.take k).take (k - 1):=(by rw [List.take_take,Nat.min_eq_left (by omega)]);refine⟨k - 1,⟨by omega,?_⟩,by omega,?_⟩
     .rw [<-hv];have:=sN (l:=l.take k) (i:=k - 1) (by omega);rw [show k - 1+1=k by omega,List.take_take,Nat.min_self,hz]at this;rw [Xf,this];simp
     .refine Sub.of [] [] rfl rfl rfl ⟨⟨?_,?_⟩,aB⟩ trivial
      .rw [Xf,List.length_take_of_le (by omega)];rfl
      .rw [Xf];rfl
    .have hnz:(l.take k)[k - 1]'(by omega)≠0:=jo.1 h1;have ht:Trim (l.take k):=by
      unfold Trim;rw [List.getLast?_eq_getElem?,List.getElem?_eq_getElem (by omega)];intro e;apply hnz;have e:=Option.some.inj e;simp only [hl]at e;exact e
     have hdg:l.take k=dg (val l):=(by rw [<-hv,acS (hd.take k) ht]);conv=>whnf
     rw [hdg];exact ak.pure (aM.an _)
   .have h:=aX.1 h;have h0:k=0:=(by rw [hl]at h;exact Int.ofNat_le.1 h|>Nat.le_zero.1);have hdg:l.take k=dg (val l):=(by rw [<-hv,h0];rfl);conv=>whnf
    rw [hdg];exact ak.pure (aM.an _)
  .refine Sub.of [] [] rfl rfl rfl ⟨⟨?_,?_⟩,aB⟩ trivial
   .rw [List.take_length]
   .rw [List.take_length]
theorem aw {f:FuncId} {fn:Func} (h:prog.funcs[f]?=some fn) (hb:fn.body.isSome=true):∃fn,prog.funcs[f]?=some fn/\fn.body.isSome=true:=⟨fn,h,hb⟩
def eW:Cn prog:= .mU mW aM 202 false (λl=>DG l/\l.length<4294967296) val (λe=>by cases e) (λl h=>acZ l h.1 h.2) (aw rfl rfl)
def km (a b:Nat):Int:=if a<b then -1 else if b<a then 1 else 0
theorem GI {a b i:Nat} (h:a/4294967296 ^ (i+1)=b/4294967296 ^ (i+1)) (cR:a/4294967296 ^ i % 4294967296<b/4294967296 ^ i % 4294967296):a<b:=by
 apply Nat.lt_of_not_le;intro hle;have h1:=Nat.div_le_div_right (c:=4294967296 ^ i) hle;rw [Nat.pow_succ,<-Nat.div_div_eq_div_mul,<-Nat.div_div_eq_div_mul]at h;omega
theorem Ym (a b:Nat) (ha:nd a<4294967296) (hb:nd b<4294967296):dQ 158 (.cons (aM.v a) (.cons (aM.v b) .nil)) ((au .i64).v (km a b)):=by
 refine PF.of_wp (c:=_) af (by decide) (fn:=f158) rfl rfl rfl ?_ (call:=aH []) (λB0=>az ae [] B0) ?_
 .exact .cons (aM.an _) (.cons (aM.an _) .nil)
 .intro B0;have la:=bj a;have lb:=bj b;conv=>whnf
  refine ay (λh=>?_) (λh=>?_)
  .have h:=xM.1 h;rw [la,lb]at h;conv=>whnf
   refine ay (λh1=>?_) (λh1=>?_)
   .have h1:=aO.1 h1;rw [la,lb]at h1;have cR:a<b:=Nat.lt_of_lt_of_le (dV a) (qK (Int.ofNat_lt.1 h1));have:km a b= -1:=if_pos cR;rw [this];conv=>whnf
    exact ak.pure .int
   .have h1:=aX.1 h1;rw [la,lb]at h1;have dD:nd a≠nd b:=λe=>h (by rw [e]);have hle:nd b<=nd a:=Int.ofNat_le.1 h1;have cR:b<a:=Nat.lt_of_lt_of_le (dV b) (qK (by omega));have:km a b=1:=(by unfold km;rw [if_neg (by omega),if_pos cR]);rw [this];conv=>whnf
    exact ak.pure .int
  .have h:=zc.1 h;have hl:nd a=nd b:=(by rw [<-la,<-lb];exact Int.ofNat.inj h);conv=>whnf
   refine Cw.loop (ι:=Nat) (λj=>bl [(0,aM.v a),(1,aM.v b),(5,.int .i64 ((j:Int) - 1))]) (λ_=>[]) (λ_=>⟨bV [],pathOf 64⟩)
    (λj=>j<=nd a/\a/4294967296 ^ j=b/4294967296 ^ j) (λj=>j) ?_ (nd a) ⟨Nat.le_refl _,?_⟩ ?_
   .rintro j ⟨hj,he⟩;refine aD af rfl rfl (az ae [] B0) _ (aC ?_);refine ay (λh1=>?_) (λh1=>?_)
    .have h1:=cG.1 h1;have hi:j - 1<(dg a).length:=(by rw [la];omega);have iu:j - 1<(dg b).length:=(by rw [lb];omega);conv=>whnf
     refine aL.go (j - 1) (by omega) hi (aC ?_);refine⟨_,(au .u32).rd rfl hi,aC ?_⟩;refine aL.go (j - 1) (by omega) iu (aC ?_);refine⟨_,(au .u32).rd rfl iu,aC ?_⟩;have he':a/4294967296 ^ (j - 1+1)=b/4294967296 ^ (j - 1+1):=(by rw [show j - 1+1=j by omega];exact he);refine ay (λh2=>?_) (λh2=>?_)
     .have h2:=xM.1 h2;rw [bI,bI]at h2;conv=>whnf
      refine aL.go (j - 1) (by omega) hi (aC ?_);refine⟨_,(au .u32).rd rfl hi,aC ?_⟩;refine aL.go (j - 1) (by omega) iu (aC ?_);refine⟨_,(au .u32).rd rfl iu,aC ?_⟩;refine ay (λh3=>?_) (λh3=>?_)
      .have h3:=aO.1 h3;rw [bI,bI]at h3;have cR:a<b:=GI he' (Int.ofNat_lt.1 h3);have:km a b= -1:=if_pos cR;rw [this];conv=>whnf
       exact ak.pure .int
      .have h3:=aX.1 h3;rw [bI,bI]at h3;have cR:b<a:=GI he'.symm (by omega);have:km a b=1:=(by unfold km;rw [if_neg (by omega),if_pos cR]);rw [this];conv=>whnf
       exact ak.pure .int
     .have h2:=zc.1 h2;rw [bI,bI]at h2;have h2:=Int.ofNat.inj h2;conv=>whnf
      refine⟨j - 1,⟨by omega,?_⟩,by omega,?_⟩
      .rw [Nat.pow_succ,<-Nat.div_div_eq_div_mul,<-Nat.div_div_eq_div_mul]at he';omega
      .refine Sub.of [] [] rfl rfl rfl ⟨⟨rfl,rfl⟩,⟨rfl,rfl⟩,?_,aB⟩ trivial;show aj .i64 ((j:Int) - 1 - 1)=((j - 1:Nat):Int) - 1;rw [aA (by omega) (by omega)];omega
    .have h1:=kG.1 h1;have hj0:j=0:=(by omega);subst hj0;have hab:a=b:=(by simpa using he);have:km a b=0:=(by unfold km;rw [if_neg (by omega),if_neg (by omega)]);rw [this];conv=>whnf
     exact ak.pure .int
   .rw [Nat.div_eq_of_lt (dV a),hl,Nat.div_eq_of_lt (dV b)]
   .refine Sub.of [] [] rfl rfl rfl ⟨⟨rfl,rfl⟩,⟨rfl,rfl⟩,?_,aB⟩ trivial;show aj .i64 (((dg a).length:Int) - 1)=_;rw [la,aA (by omega) (by omega)]
def iD:Cn prog:= .kP aM aM (au .i64) 158 true (λa b=>nd a<4294967296/\nd b<4294967296) km (λ_ y x hx=>by rw [List.mem_singleton.1 hx];rfl) (λa b h=>Ym a b h.1 h.2) (aw rfl rfl)
end
section
attribute [local irreducible] Cw ak bq PF Sub
attribute [local instance] fp
theorem Mw (neg:Bool) (m:Nat):(eV neg m).natAbs=m:=by cases neg<;>simp [eV]
theorem Yn (neg:Bool) (m:Nat):decide (eV neg m<0)=(neg &&decide (0<m)):=by
 cases neg
 .show decide ((m:Int)<0)=_;rw [Bool.false_and];exact decide_eq_false (by omega)
 .simp [eV]
theorem GJ (neg:Bool) (l:List Int) (hd:DG l) (hs:l.length<4294967296):dQ 143 (.cons (bG.v neg) (.cons (mW.v l) .nil)) (aR.v (eV neg (val l))):=by
 refine PF.of_wp (c:=_) af (by decide) (fn:=f143) rfl rfl rfl ?_ (call:=aH [eW]) (λB0=>az ae [eW] B0) ?_
 .exact .cons (bG.an _) (.cons (mW.an _) .nil)
 .intro B0;have e1:decide (eV neg (val l)<0)=(neg &&decide (0<(dg (val l)).length)):=by
   rw [Yn];congr 1;rw [bj];by_cases h0:val l=0
   .rw [h0];simp [nd]
   .rw [nQ h0];simp;omega
  have e2:aR.v (eV neg (val l))= .agg (.cons (.bool (neg &&decide (0<(dg (val l)).length))) (.cons (aM.v (val l)) .nil)):=by
   show AV.agg (.cons (.bool (decide (eV neg (val l)<0))) (.cons (aM.v (eV neg (val l)).natAbs) .nil))=_;rw [e1,Mw]
  rw [e2];conv=>whnf
  refine df [eW] 0 eW l ⟨hd,hs⟩ ?_;cases neg with
  |true=>
   conv=>whnf
   rw [Bool.true_and,<-show cQ 0 (Int.ofNat (dg (val l)).length)=decide (0<(dg (val l)).length) by rw [iy];simp];exact ak.pure (.agg (.cons .bool (.cons (aM.an _) .nil)))
  |false=>
   conv=>whnf
   exact ak.pure (.agg (.cons .bool (.cons (aM.an _) .nil)))
def cD:Cn prog:= .kP bG mW aR 143 false (λ_ l=>DG l/\l.length<4294967296) (λneg l=>eV neg (val l)) (λe=>by cases e) (λneg l h=>GJ neg l h.1 h.2) (aw rfl rfl)
theorem ak.same {h:Heap} {u v:AV} (e:u=v) (hv:cN v):ak h u v:=by subst e;exact ak.pure hv
theorem ej (z:Int):aR.v z= .agg (.cons (.bool (decide (z<0))) (.cons (aM.v z.natAbs) .nil)):=rfl
theorem Mx {b:Bool} {z:Int} {m:Nat} (h1:decide (z<0)=b) (h2:z.natAbs=m):aR.v z= .agg (.cons (.bool b) (.cons (aM.v m) .nil)):=by rw [ej,h1,h2]
theorem de (k:IntKind):true=true ->∀y,∀a∈(au k).cs y,pL a=true:=λ_ y x hx=>by rw [List.mem_singleton.1 hx];rfl
theorem fF:true=true ->∀y,∀a∈bG.cs y,pL a=true:=λ_ y x hx=>by rw [List.mem_singleton.1 hx];rfl
theorem xe {v:Nat}:bD (Int.ofNat (dg v).length) 0=true↔v=0:=by
 rw [bh,bj];by_cases h:v=0
 .subst h;simp [nd]
 .rw [nQ h];constructor
  .intro e;exact absurd (Int.ofNat.inj e) (Nat.succ_ne_zero _)
  .intro e;exact absurd e h
theorem tO {v:Nat}:cQ 0 (Int.ofNat (dg v).length)=decide (0<v):=by
 rw [iy,bj];by_cases h:v=0
 .subst h;simp [nd]
 .rw [nQ h];have h1:(0:Int)<Int.ofNat (v.log2/32+1):=Int.ofNat_lt.2 (Nat.succ_pos _);have h2:0<v:=by omega
  simp only [h1,h2,decide_true]
theorem ac0 (z:Int):dQ 107 (.cons (aR.v z) .nil) ((au .i64).v z.sign):=by
 refine PF.of_wp (c:=_) af (by decide) (fn:=f107) rfl rfl rfl ?_ (call:=aH []) (λB0=>az ae [] B0) ?_
 .exact .cons (aR.an _) .nil
 .intro B0;rw [ej];conv=>whnf
  refine ay (λh=>?_) (λh=>?_)
  .have h:=xe.1 h;have hz:z=0:=Int.natAbs_eq_zero.1 h;subst hz;conv=>whnf
   exact ak.pure .int
  .have hz:z≠0:=λe=>by rw [xe.2 (by rw [e];rfl)]at h;cases h
   conv=>whnf
   refine ay (λh1=>?_) (λh1=>?_)
   .have h1:=of_decide_eq_true h1;rw [show z.sign= -1 from Int.sign_eq_neg_one_of_neg h1];conv=>whnf
    exact ak.pure .int
   .have h1:=of_decide_eq_false h1;rw [show z.sign=1 from Int.sign_eq_one_of_pos (by omega)];conv=>whnf
    exact ak.pure .int
def fa:Cn prog:= .mU aR (au .i64) 107 true (λ_=>True) Int.sign (de _) (λz _=>ac0 z) (aw rfl rfl)
theorem afH (z:Int):dQ 156 (.cons (aR.v z) .nil) (aR.v (-z)):=by
 refine PF.of_wp (c:=_) af (by decide) (fn:=f156) rfl rfl rfl ?_ (call:=aH []) (λB0=>az ae [] B0) ?_
 .exact .cons (aR.an _) .nil
 .intro B0;rw [ej];conv=>whnf
  refine ay (λh=>?_) (λh=>?_)
  .have h:=kV.1 h;have h:=of_decide_eq_false h;conv=>whnf
   rw [tO];refine ak.same ?_ (aR.an _);exact(Mx (z:= -z) (m:=z.natAbs) (b:=decide (0<z.natAbs)) (by congr 1;simp only [eq_iff_iff];omega) (by simp)).symm
  .have h:=rM.1 h;have h':=of_decide_eq_true h;conv=>whnf
   rw [h];refine ak.same ?_ (aR.an _);exact(Mx (z:= -z) (m:=z.natAbs) (b:=false) (decide_eq_false (by omega)) (by simp)).symm
def sO:Cn prog:= .mU aR aR 156 false (λ_=>True) (λz=> -z) (λe=>by cases e) (λz _=>afH z) (aw rfl rfl)
def eM (a b:Int):Int:=if a<b then -1 else if b<a then 1 else 0
def SZ (z:Int):Prop:=nd z.natAbs<134217728
theorem PX (a b:Int) (ha:SZ a) (hb:SZ b):dQ 108 (.cons (aR.v a) (.cons (aR.v b) .nil)) ((au .i64).v (eM a b)):=by
 unfold SZ at ha hb;refine PF.of_wp (c:=_) af (by decide) (fn:=f108) rfl rfl rfl ?_ (call:=aH [iD]) (λB0=>az ae [iD] B0) ?_
 .exact .cons (aR.an _) (.cons (aR.an _) .nil)
 .intro B0;rw [ej,ej];rcases Int.lt_or_le a 0 with h1|h1
  .rcases Int.lt_or_le b 0 with h2|h2
   .rw [decide_eq_true h1,decide_eq_true h2];conv=>whnf
    refine df [iD] 0 iD (b.natAbs,a.natAbs) ⟨by show nd b.natAbs<_;omega,by show nd a.natAbs<_;omega⟩ ?_
    .conv=>whnf
     rw [show eM a b=km b.natAbs a.natAbs by unfold eM km;split<;>split<;>(try split)<;>first|rfl|omega];exact ak.pure .int
   .rw [decide_eq_true h1,decide_eq_false (show ¬b<0 by omega)];conv=>whnf
    rw [show eM a b= -1 from if_pos (by omega)];exact ak.pure .int
  .rcases Int.lt_or_le b 0 with h2|h2
   .rw [decide_eq_false (show ¬a<0 by omega),decide_eq_true h2];conv=>whnf
    rw [show eM a b=1 by unfold eM;rw [if_neg (by omega),if_pos (by omega)]];exact ak.pure .int
   .rw [decide_eq_false (show ¬a<0 by omega),decide_eq_false (show ¬b<0 by omega)];conv=>whnf
    refine df [iD] 0 iD (a.natAbs,b.natAbs) ⟨by show nd a.natAbs<_;omega,by show nd b.natAbs<_;omega⟩ ?_
    .conv=>whnf
     rw [show eM a b=km a.natAbs b.natAbs by unfold eM km;split<;>split<;>(try split)<;>first|rfl|omega];exact ak.pure .int
def gB:Cn prog:= .kP aR aR (au .i64) 108 true (λa b=>SZ a/\SZ b) eM (de _) (λa b h=>PX a b h.1 h.2) (aw rfl rfl)
theorem BW {x y i c:Nat} {p:List Int} (hp:p.length=i) (hv:val p+4294967296 ^ i*c=x % 4294967296 ^ i+y % 4294967296 ^ i) (t:Nat) (ht:t=c+x/4294967296 ^ i % 4294967296+y/4294967296 ^ i % 4294967296):
  val (p++[((t % 4294967296:Nat):Int)])+4294967296 ^ (i+1)*(t/4294967296)=x % 4294967296 ^ (i+1)+y % 4294967296 ^ (i+1):=by
 rw [oz,hp,show(((t % 4294967296:Nat):Int)).toNat=t % 4294967296 from rfl,Nat.mod_pow_succ,Nat.mod_pow_succ,Nat.pow_succ,Nat.mul_assoc];have e:4294967296 ^ i*t=4294967296 ^ i*(t % 4294967296)+4294967296 ^ i*(4294967296*(t/4294967296)):=by rw [<-Nat.mul_add,Nat.mod_add_div]
 have e2:4294967296 ^ i*t=4294967296 ^ i*c+4294967296 ^ i*(x/4294967296 ^ i % 4294967296)+4294967296 ^ i*(y/4294967296 ^ i % 4294967296):=by rw [ht,Nat.mul_add,Nat.mul_add]
 omega
theorem Tk {x y n c:Nat} {p:List Int} (hd:DG p) (hp:p.length=n) (hx:nd x<=n) (hy:nd y<=n) (hc:c<=1) (hv:val p+4294967296 ^ n*c=x % 4294967296 ^ n+y % 4294967296 ^ n):p++[(c:Int)]=fL (n+1) (x+y):=by
 have h1:x<4294967296 ^ n:=Nat.lt_of_lt_of_le (dV x) (Nat.pow_le_pow_right (by decide) hx);have h2:y<4294967296 ^ n:=Nat.lt_of_lt_of_le (dV y) (Nat.pow_le_pow_right (by decide) hy);rw [Nat.mod_eq_of_lt h1,Nat.mod_eq_of_lt h2]at hv;apply val_inj
 .exact DG.append.2 ⟨hd,DG.cons.2 ⟨by omega,.nil⟩⟩
 .exact gH _ _
 .rw [bf];simp [hp]
 .rw [gO,oz,hp,show((c:Int)).toNat=c from rfl,hv,Nat.mod_eq_of_lt];rw [Nat.pow_succ];omega
theorem zp {y i:Nat} (h:nd y<=i):y/4294967296 ^ i % 4294967296=0:=by
 rw [Nat.div_eq_of_lt (Nat.lt_of_lt_of_le (dV y) (Nat.pow_le_pow_right (by decide) h))]
theorem ac1 (a b:Nat) (ha:nd a<134217728) (hb:nd b<134217728):dQ 157 (.cons (aM.v a) (.cons (aM.v b) .nil)) (mW.v (fL (max (nd a) (nd b)+1) (a+b))):=by
 refine PF.of_wp (c:=_) af (by decide) (fn:=f157) rfl rfl rfl ?_ (call:=aH []) (λB0=>az ae [] B0) ?_
 .exact .cons (aM.an _) (.cons (aM.an _) .nil)
 .intro B0;have hx:∃x y,nd y<=nd x/\x+y=a+b/\max (nd a) (nd b)=nd x/\nd x<134217728/\((x=a/\y=b/\¬nd a<nd b)\/(x=b/\y=a/\nd a<nd b)):=by
   by_cases h:nd a<nd b
   .exact⟨b,a,by omega,by omega,by omega,by omega,.inr ⟨rfl,rfl,h⟩⟩
   .exact⟨a,b,by omega,by omega,by omega,by omega,.inl ⟨rfl,rfl,h⟩⟩
  obtain⟨x,y,hyx,hs,hm,FD,hc⟩:=hx;rw [hm,<-hs];have lx:=bj x;have ly:=bj y;rcases hc with ⟨rfl,rfl,hc⟩|⟨rfl,rfl,hc⟩;all_goals
   conv=>whnf
   refine ay (λh=>?_) (λh=>?_)
  any_goals
   exfalso;first
    |have h:=aO.1 h
     rw [bj,bj]at h;exact hc (Int.ofNat_lt.1 h)
    |have h:=aX.1 h
     rw [bj,bj]at h;have:=Int.ofNat_le.1 h;omega
  all_goals
   conv=>whnf
  all_goals
   clear hs hm ha hb h hc;have e0:aj .i64 (Int.add (Int.ofNat (dg x).length) 1)=((nd x+1:Nat):Int):=by
    rw [lx];exact aA (by show(-9223372036854775808:Int)<=((nd x:Nat):Int)+1;omega) (by show((nd x:Nat):Int)+1<_;omega)
   refine(au .u32).mk' (x:=0) (nd x+1) (nd x+1) e0 e0 (Nat.le_refl _) (by show(nd x+1)*(4+1)<=_;omega) ?_;conv=>whnf
   refine Cw.loop (ι:=Nat×List Int×Nat)
    (λq=>bl [(0,aM.v x),(1,aM.v y),(5,.gs (pathOf 64) (nd x+1) 1),(6,.int .u64 q.2.2),(20,aM.v x),(21,.int .i64 (nd x)),(22,.int .i64 q.1)]) (λ_=>[])
    (λq=>⟨bV [(pathOf 64,.gl ((au .u32).l (q.2.1++List.replicate (nd x+1 - q.1) 0)) false)],pathOf 65⟩)
    (λq=>q.1<=nd x/\q.2.1.length=q.1/\DG q.2.1/\q.2.2<=1/\val q.2.1+4294967296 ^ q.1*q.2.2=x % 4294967296 ^ q.1+y % 4294967296 ^ q.1)
    (λq=>nd x - q.1) ?_ (0,[],0) ⟨Nat.zero_le _,rfl,.nil,by decide,by simp [val,Nat.mod_one]⟩ ?_
   .rintro ⟨i,p,c⟩ ⟨hi,hp,hd,hc,hv⟩;simp only at hi hp hd hc hv;refine aD af rfl rfl (az ae [] B0) _ (aC ?_);refine ay (λh=>?_) (λh=>?_)
    .have h:i<nd x:=Int.ofNat_lt.1 (aO.1 h);have GK:i<(dg x).length:=(by omega);have hx:=bI GK;have ex:aj .u64 (dg x)[i]=((x/4294967296 ^ i % 4294967296:Nat):Int):=(by rw [hx];exact aW (by omega) (by omega));have ec:aj .u64 (Int.add (c:Int) (aj .u64 (dg x)[i]))=((c+x/4294967296 ^ i % 4294967296:Nat):Int):=by
      rw [ex];exact aW (n:=(c:Int)+_) (by omega) (by omega)
     conv=>whnf
     refine aL.go i rfl GK (aC ?_);refine⟨_,(au .u32).rd rfl GK,aC ?_⟩;refine ay (λh2=>?_) (λh2=>?_)
     .have h2:i<(dg y).length:=Int.ofNat_lt.1 (aO.1 h2);have hy:=bI h2;have ey:aj .u64 (dg y)[i]=((y/4294967296 ^ i % 4294967296:Nat):Int):=(by rw [hy];exact aW (by omega) (by omega));have ht:aj .u64 (Int.add (aj .u64 (Int.add (c:Int) (aj .u64 (dg x)[i]))) (aj .u64 (dg y)[i]))=((c+x/4294967296 ^ i % 4294967296+y/4294967296 ^ i % 4294967296:Nat):Int):=by
       rw [ec,ey];exact aW (n:=((_:Nat):Int)+_) (by omega) (by omega)
      conv=>whnf
      refine aL.go i rfl h2 (aC ?_);refine⟨_,(au .u32).rd rfl h2,aC ?_⟩;have Ba:=BW (x:=x) (y:=y) hp hv (c+x/4294967296 ^ i % 4294967296+y/4294967296 ^ i % 4294967296) rfl;refine aL.go i rfl (by omega) (aC ?_);refine(au .u32).st (xs:=p++List.replicate (nd x+1 - i) 0) (i:=i) _ (by simp;omega) ?_;conv=>whnf
      refine⟨⟨by show(0:Int)<=aj .u64 _;rw [ht];omega,by decide⟩,aC ?_⟩;refine⟨(i+1,p++[(((c+x/4294967296 ^ i % 4294967296+y/4294967296 ^ i % 4294967296) % 4294967296:Nat):Int)],(c+x/4294967296 ^ i % 4294967296+y/4294967296 ^ i % 4294967296)/4294967296),⟨by show i+1<=nd x;omega,by simp [hp],DG.append.2 ⟨hd,DG.cons.2 ⟨by omega,.nil⟩⟩,by show(c+x/4294967296 ^ i % 4294967296+y/4294967296 ^ i % 4294967296)/4294967296<=1;omega,Ba⟩,by show nd x - (i+1)<nd x - i;omega,?_⟩;refine Sub.of (gU [64]) [] rfl rfl rfl ⟨⟨rfl,rfl⟩,⟨rfl,rfl⟩,⟨rfl,rfl⟩,?_,⟨rfl,rfl⟩,rfl,?_,aB⟩ ⟨⟨?_,rfl,(au .u32).bm _⟩,aB⟩
      .show Int.ofNat (Nat.div (aj .u64 _).toNat 4294967296)=_;rw [ht];rfl
      .exact aA (n:=(i:Int)+1) (by omega) (by omega)
      .show(au .u32).l ((p++List.replicate (nd x+1 - i) 0).set i (aj .u32 (aj .u64 _)))=(au .u32).l ((p++[_])++List.replicate (nd x+1 - (i+1)) 0);rw [ht,wrap_u32];rw [<-hp]at*;rw [kH (by omega)];rfl
     .have h2:(dg y).length<=i:=Int.ofNat_le.1 (aX.1 h2);have hy0:=zp (y:=y) (i:=i) (by omega);have ht:=ec;conv=>whnf
      have Ba:=BW (x:=x) (y:=y) hp hv (c+x/4294967296 ^ i % 4294967296) (by rw [hy0];rfl);refine aL.go i rfl (by omega) (aC ?_);refine(au .u32).st (xs:=p++List.replicate (nd x+1 - i) 0) (i:=i) _ (by simp;omega) ?_;conv=>whnf
      refine⟨⟨by show(0:Int)<=aj .u64 _;rw [ht];omega,by decide⟩,aC ?_⟩;refine⟨(i+1,p++[(((c+x/4294967296 ^ i % 4294967296) % 4294967296:Nat):Int)],(c+x/4294967296 ^ i % 4294967296)/4294967296),⟨by show i+1<=nd x;omega,by simp [hp],DG.append.2 ⟨hd,DG.cons.2 ⟨by omega,.nil⟩⟩,by show(c+x/4294967296 ^ i % 4294967296)/4294967296<=1;omega,Ba⟩,by show nd x - (i+1)<nd x - i;omega,?_⟩;refine Sub.of (gU [64]) [] rfl rfl rfl ⟨⟨rfl,rfl⟩,⟨rfl,rfl⟩,⟨rfl,rfl⟩,?_,⟨rfl,rfl⟩,rfl,?_,aB⟩ ⟨⟨?_,rfl,(au .u32).bm _⟩,aB⟩
      .show Int.ofNat (Nat.div (aj .u64 _).toNat 4294967296)=_;rw [ht];rfl
      .exact aA (n:=(i:Int)+1) (by omega) (by omega)
      .show(au .u32).l ((p++List.replicate (nd x+1 - i) 0).set i (aj .u32 (aj .u64 _)))=(au .u32).l ((p++[_])++List.replicate (nd x+1 - (i+1)) 0);rw [ht,wrap_u32];rw [<-hp]at*;rw [kH (by omega)];rfl
    .have h:nd x<=i:=Int.ofNat_le.1 (aX.1 h);have dF:i=nd x:=(by omega);subst dF;have mT:=Tk hd hp (Nat.le_refl _) hyx hc hv;conv=>whnf
     refine aL.go (nd x) (congrArg Int.ofNat lx) (by omega) (aC ?_);refine(au .u32).st (xs:=p++List.replicate (nd x+1 - nd x) 0) (i:=nd x) _ (by simp;omega) ?_;conv=>whnf
     have tq:(p++List.replicate (nd x+1 - nd x) 0).set (nd x) (aj .u32 (c:Int))=fL (nd x+1) (x+y):=by
      rw [<-mT,gA (by omega) (by omega),show nd x+1 - nd x=1 by omega];conv=>lhs;arg 2;rw [<-hp]
      rw [kH (by decide)];simp
     exact(au .u32).gG rfl tq (by rw [bf])
   .refine Sub.of (gU [64]) [] rfl rfl rfl ⟨⟨rfl,rfl⟩,⟨rfl,rfl⟩,⟨rfl,rfl⟩,rfl,⟨rfl,rfl⟩,congrArg Int.ofNat lx,rfl,aB⟩ ⟨⟨rfl,rfl,(au .u32).bm _⟩,aB⟩
def Kl:Cn prog:= .kP aM aM mW 157 false (λa b=>nd a<134217728/\nd b<134217728) (λa b=>fL (max (nd a) (nd b)+1) (a+b)) (λe=>by cases e) (λa b h=>ac1 a b h.1 h.2) (aw rfl rfl)
theorem pw {x y i c:Nat} {p:List Int} (hp:p.length=i) (hv:val p+y % 4294967296 ^ i=x % 4294967296 ^ i+4294967296 ^ i*c) (t:Int) (c':Nat) (ht:t=(x/4294967296 ^ i % 4294967296:Nat) - (c:Int) - (y/4294967296 ^ i % 4294967296:Nat)) (h1:0<=t+4294967296*c') (h2:t+4294967296*c'<4294967296):
  val (p++[t+4294967296*c'])+y % 4294967296 ^ (i+1)=x % 4294967296 ^ (i+1)+4294967296 ^ (i+1)*c':=by
 rw [oz,hp,Nat.mod_pow_succ,Nat.mod_pow_succ,Nat.pow_succ,Nat.mul_assoc];obtain⟨d,hd⟩:=Int.eq_ofNat_of_zero_le h1;rw [hd,show((d:Int)).toNat=d from rfl];have e:d+c+y/4294967296 ^ i % 4294967296=x/4294967296 ^ i % 4294967296+4294967296*c':=by omega
 have e2:=congrArg (λz=>4294967296 ^ i*z) e;simp only [Nat.mul_add]at e2;omega
theorem PY {x y n c:Nat} {p:List Int} (hd:DG p) (hp:p.length=n) (hx:nd x<=n) (hy:y<=x) (hv:val p+y % 4294967296 ^ n=x % 4294967296 ^ n+4294967296 ^ n*c):p=fL n (x - y):=by
 have h1:x<4294967296 ^ n:=Nat.lt_of_lt_of_le (dV x) (Nat.pow_le_pow_right (by decide) hx);have h3:=pj hd;rw [hp]at h3;rw [Nat.mod_eq_of_lt h1,Nat.mod_eq_of_lt (by omega)]at hv;apply val_inj hd (gH _ _)
 .rw [bf,hp]
 .rw [gO,Nat.mod_eq_of_lt (by omega)];cases c with
  |zero=>omega|succ c=>rw [Nat.mul_succ]at hv;omega
theorem px {x y:Nat} (h:y<=x):nd y<=nd x:=xa (Nat.lt_of_le_of_lt h (dV x))
theorem Yo (x y:Nat) (FD:nd x<134217728) (hyx:y<=x):dQ 159 (.cons (aM.v x) (.cons (aM.v y) .nil)) (mW.v (fL (nd x) (x - y))):=by
 refine PF.of_wp (c:=_) af (by decide) (fn:=f159) rfl rfl rfl ?_ (call:=aH []) (λB0=>az ae [] B0) ?_
 .exact .cons (aM.an _) (.cons (aM.an _) .nil)
 .intro B0;have lx:=bj x;have ly:=bj y;have kO:=px hyx;conv=>whnf
  have e0:Int.ofNat (dg x).length=((nd x:Nat):Int):=congrArg Int.ofNat lx;refine(au .u32).mk' (x:=0) (nd x) (nd x) e0 e0 (Nat.le_refl _) (by show nd x*(4+1)<=_;omega) ?_;conv=>whnf
  refine Cw.loop (ι:=Nat×List Int×Nat)
   (λq=>bl [(0,aM.v x),(1,aM.v y),(5,.gs (pathOf 64) (nd x) 1),(6,.int .i64 q.2.2),(13,aM.v x),(14,.int .i64 (nd x)),(15,.int .i64 q.1)]) (λ_=>[])
   (λq=>⟨bV [(pathOf 64,.gl ((au .u32).l (q.2.1++List.replicate (nd x - q.1) 0)) false)],pathOf 65⟩)
   (λq=>q.1<=nd x/\q.2.1.length=q.1/\DG q.2.1/\q.2.2<=1/\val q.2.1+y % 4294967296 ^ q.1=x % 4294967296 ^ q.1+4294967296 ^ q.1*q.2.2)
   (λq=>nd x - q.1) ?_ (0,[],0) ⟨Nat.zero_le _,rfl,.nil,by decide,by simp [val,Nat.mod_one]⟩ ?_
  .rintro ⟨i,p,c⟩ ⟨hi,hp,hd,hc,hv⟩;simp only at hi hp hd hc hv;refine aD af rfl rfl (az ae [] B0) _ (aC ?_);refine ay (λh=>?_) (λh=>?_)
   .have h:i<nd x:=Int.ofNat_lt.1 (aO.1 h);have GK:i<(dg x).length:=(by omega);have hx:=bI GK;have ec:aj .i64 (Int.sub (aj .i64 (dg x)[i]) (c:Int))=((x/4294967296 ^ i % 4294967296:Nat):Int) - (c:Int):=by
     rw [show aj .i64 (dg x)[i]=((x/4294967296 ^ i % 4294967296:Nat):Int) by rw [hx];exact aA (by omega) (by omega)];exact aA (n:=_ - _) (by omega) (by omega)
    conv=>whnf
    refine aL.go i rfl GK (aC ?_);refine⟨_,(au .u32).rd rfl GK,aC ?_⟩;refine ay (λh2=>?_) (λh2=>?_)
    .have h2:i<(dg y).length:=Int.ofNat_lt.1 (aO.1 h2);have hy:=bI h2;have ht:aj .i64 (Int.sub (aj .i64 (Int.sub (aj .i64 (dg x)[i]) (c:Int))) (aj .i64 (dg y)[i]))=((x/4294967296 ^ i % 4294967296:Nat):Int) - (c:Int) - ((y/4294967296 ^ i % 4294967296:Nat):Int):=by
      rw [ec,show aj .i64 (dg y)[i]=((y/4294967296 ^ i % 4294967296:Nat):Int) by rw [hy];exact aA (by omega) (by omega)];exact aA (n:=_ - _) (by omega) (by omega)
     conv=>whnf
     refine aL.go i rfl h2 (aC ?_);refine⟨_,(au .u32).rd rfl h2,aC ?_⟩;have hyt:((x/4294967296 ^ i % 4294967296:Nat):Int) - (c:Int) - ((y/4294967296 ^ i % 4294967296:Nat):Int)=(x/4294967296 ^ i % 4294967296:Nat) - (c:Int) - (y/4294967296 ^ i % 4294967296:Nat):=rfl;refine ay (λh3=>?_) (λh3=>?_)
     .have h3:=aO.1 h3;have h3:(((x/4294967296 ^ i % 4294967296:Nat):Int) - (c:Int) - ((y/4294967296 ^ i % 4294967296:Nat):Int):Int)<0:=(by rw [<-ht];exact h3);have cA:=pw (x:=x) (y:=y) hp hv (((x/4294967296 ^ i % 4294967296:Nat):Int) - (c:Int) - ((y/4294967296 ^ i % 4294967296:Nat):Int)) 1 hyt (by omega) (by omega);conv=>whnf
      refine aL.go i rfl (by omega) (aC ?_);refine(au .u32).st (xs:=p++List.replicate (nd x - i) 0) (i:=i) _ (by simp;omega) ?_;conv=>whnf
      refine⟨(i+1,p++[(((x/4294967296 ^ i % 4294967296:Nat):Int) - (c:Int) - ((y/4294967296 ^ i % 4294967296:Nat):Int))+4294967296*1],1),⟨by show i+1<=nd x;omega,by simp [hp],DG.append.2 ⟨hd,DG.cons.2 ⟨by omega,.nil⟩⟩,by simp,cA⟩,by show nd x - (i+1)<nd x - i;omega,?_⟩;refine Sub.of (gU [64]) [] rfl rfl rfl ⟨⟨rfl,rfl⟩,⟨rfl,rfl⟩,⟨rfl,rfl⟩,rfl,⟨rfl,rfl⟩,rfl,?_,aB⟩ ⟨⟨?_,rfl,(au .u32).bm _⟩,aB⟩
      .exact aA (n:=(i:Int)+1) (by omega) (by omega)
      .show(au .u32).l ((p++List.replicate (nd x - i) 0).set i (aj .u32 (aj .i64 _)))=(au .u32).l ((p++[_])++List.replicate (nd x - (i+1)) 0);rw [ht,wrap_u32,show(((x/4294967296 ^ i % 4294967296:Nat):Int) - (c:Int) - ((y/4294967296 ^ i % 4294967296:Nat):Int)) % 4294967296=(((x/4294967296 ^ i % 4294967296:Nat):Int) - (c:Int) - ((y/4294967296 ^ i % 4294967296:Nat):Int))+4294967296*1 by omega];rw [<-hp]at*;rw [kH (by omega)];rfl
     .have h3:=aX.1 h3;have h3:(0:Int)<=((x/4294967296 ^ i % 4294967296:Nat):Int) - (c:Int) - ((y/4294967296 ^ i % 4294967296:Nat):Int):=(by rw [<-ht];exact h3);have cA:=pw (x:=x) (y:=y) hp hv (((x/4294967296 ^ i % 4294967296:Nat):Int) - (c:Int) - ((y/4294967296 ^ i % 4294967296:Nat):Int)) 0 hyt (by omega) (by omega);conv=>whnf
      refine aL.go i rfl (by omega) (aC ?_);refine(au .u32).st (xs:=p++List.replicate (nd x - i) 0) (i:=i) _ (by simp;omega) ?_;conv=>whnf
      refine⟨(i+1,p++[(((x/4294967296 ^ i % 4294967296:Nat):Int) - (c:Int) - ((y/4294967296 ^ i % 4294967296:Nat):Int))+4294967296*0],0),⟨by show i+1<=nd x;omega,by simp [hp],DG.append.2 ⟨hd,DG.cons.2 ⟨by omega,.nil⟩⟩,by simp,cA⟩,by show nd x - (i+1)<nd x - i;omega,?_⟩;refine Sub.of (gU [64]) [] rfl rfl rfl ⟨⟨rfl,rfl⟩,⟨rfl,rfl⟩,⟨rfl,rfl⟩,rfl,⟨rfl,rfl⟩,rfl,?_,aB⟩ ⟨⟨?_,rfl,(au .u32).bm _⟩,aB⟩
      .exact aA (n:=(i:Int)+1) (by omega) (by omega)
      .show(au .u32).l ((p++List.replicate (nd x - i) 0).set i (aj .u32 (aj .i64 _)))=(au .u32).l ((p++[_])++List.replicate (nd x - (i+1)) 0);rw [ht,wrap_u32,show(((x/4294967296 ^ i % 4294967296:Nat):Int) - (c:Int) - ((y/4294967296 ^ i % 4294967296:Nat):Int)) % 4294967296=(((x/4294967296 ^ i % 4294967296:Nat):Int) - (c:Int) - ((y/4294967296 ^ i % 4294967296:Nat):Int))+4294967296*0 by omega];rw [<-hp]at*;rw [kH (by omega)];rfl
    .have h2:(dg y).length<=i:=Int.ofNat_le.1 (aX.1 h2);have hy0:=zp (y:=y) (i:=i) (by omega);have ht:=ec;conv=>whnf
     have hyt:((x/4294967296 ^ i % 4294967296:Nat):Int) - (c:Int)=(x/4294967296 ^ i % 4294967296:Nat) - (c:Int) - (y/4294967296 ^ i % 4294967296:Nat):=(by rw [hy0];simp);refine ay (λh3=>?_) (λh3=>?_)
     .have h3:=aO.1 h3;have h3:(((x/4294967296 ^ i % 4294967296:Nat):Int) - (c:Int):Int)<0:=(by rw [<-ht];exact h3);have cA:=pw (x:=x) (y:=y) hp hv (((x/4294967296 ^ i % 4294967296:Nat):Int) - (c:Int)) 1 hyt (by omega) (by omega);conv=>whnf
      refine aL.go i rfl (by omega) (aC ?_);refine(au .u32).st (xs:=p++List.replicate (nd x - i) 0) (i:=i) _ (by simp;omega) ?_;conv=>whnf
      refine⟨(i+1,p++[(((x/4294967296 ^ i % 4294967296:Nat):Int) - (c:Int))+4294967296*1],1),⟨by show i+1<=nd x;omega,by simp [hp],DG.append.2 ⟨hd,DG.cons.2 ⟨by omega,.nil⟩⟩,by simp,cA⟩,by show nd x - (i+1)<nd x - i;omega,?_⟩;refine Sub.of (gU [64]) [] rfl rfl rfl ⟨⟨rfl,rfl⟩,⟨rfl,rfl⟩,⟨rfl,rfl⟩,rfl,⟨rfl,rfl⟩,rfl,?_,aB⟩ ⟨⟨?_,rfl,(au .u32).bm _⟩,aB⟩
      .exact aA (n:=(i:Int)+1) (by omega) (by omega)
      .show(au .u32).l ((p++List.replicate (nd x - i) 0).set i (aj .u32 (aj .i64 _)))=(au .u32).l ((p++[_])++List.replicate (nd x - (i+1)) 0);rw [ht,wrap_u32,show(((x/4294967296 ^ i % 4294967296:Nat):Int) - (c:Int)) % 4294967296=(((x/4294967296 ^ i % 4294967296:Nat):Int) - (c:Int))+4294967296*1 by omega];rw [<-hp]at*;rw [kH (by omega)];rfl
     .have h3:=aX.1 h3;have h3:(0:Int)<=((x/4294967296 ^ i % 4294967296:Nat):Int) - (c:Int):=(by rw [<-ht];exact h3);have cA:=pw (x:=x) (y:=y) hp hv (((x/4294967296 ^ i % 4294967296:Nat):Int) - (c:Int)) 0 hyt (by omega) (by omega);conv=>whnf
      refine aL.go i rfl (by omega) (aC ?_);refine(au .u32).st (xs:=p++List.replicate (nd x - i) 0) (i:=i) _ (by simp;omega) ?_;conv=>whnf
      refine⟨(i+1,p++[(((x/4294967296 ^ i % 4294967296:Nat):Int) - (c:Int))+4294967296*0],0),⟨by show i+1<=nd x;omega,by simp [hp],DG.append.2 ⟨hd,DG.cons.2 ⟨by omega,.nil⟩⟩,by simp,cA⟩,by show nd x - (i+1)<nd x - i;omega,?_⟩;refine Sub.of (gU [64]) [] rfl rfl rfl ⟨⟨rfl,rfl⟩,⟨rfl,rfl⟩,⟨rfl,rfl⟩,rfl,⟨rfl,rfl⟩,rfl,?_,aB⟩ ⟨⟨?_,rfl,(au .u32).bm _⟩,aB⟩
      .exact aA (n:=(i:Int)+1) (by omega) (by omega)
      .show(au .u32).l ((p++List.replicate (nd x - i) 0).set i (aj .u32 (aj .i64 _)))=(au .u32).l ((p++[_])++List.replicate (nd x - (i+1)) 0);rw [ht,wrap_u32,show(((x/4294967296 ^ i % 4294967296:Nat):Int) - (c:Int)) % 4294967296=(((x/4294967296 ^ i % 4294967296:Nat):Int) - (c:Int))+4294967296*0 by omega];rw [<-hp]at*;rw [kH (by omega)];rfl
   .have h:nd x<=i:=Int.ofNat_le.1 (aX.1 h);have dF:i=nd x:=(by omega);subst dF;have mT:=PY hd hp (Nat.le_refl _) hyx hv;conv=>whnf
    exact(au .u32).gG rfl (by rw [<-mT];simp) (by rw [bf])
  .refine Sub.of (gU [64]) [] rfl rfl rfl ⟨⟨rfl,rfl⟩,⟨rfl,rfl⟩,⟨rfl,rfl⟩,rfl,⟨rfl,rfl⟩,e0,rfl,aB⟩ ⟨⟨rfl,rfl,(au .u32).bm _⟩,aB⟩
def vm:Cn prog:= .kP aM aM mW 159 false (λa b=>nd a<134217728/\b<=a) (λa b=>fL (nd a) (a - b)) (λe=>by cases e) (λa b h=>Yo a b h.1 h.2) (aw rfl rfl)
def sj:List (Cn prog):=[Kl,vm,iD,cD]
theorem GL (m n:Nat):val (fL (max (nd m) (nd n)+1) (m+n))=m+n:=by
 rw [gO,Nat.mod_eq_of_lt];have h1:m<4294967296 ^ max (nd m) (nd n):=Nat.lt_of_lt_of_le (dV m) (Nat.pow_le_pow_right (by decide) (Nat.le_max_left _ _));have h2:n<4294967296 ^ max (nd m) (nd n):=Nat.lt_of_lt_of_le (dV n) (Nat.pow_le_pow_right (by decide) (Nat.le_max_right _ _));rw [Nat.pow_succ];omega
theorem rO (m n:Nat):val (fL (nd m) (m - n))=m - n:=by
 rw [gO,Nat.mod_eq_of_lt];have:=dV m;omega
theorem afI (a b:Int) (ha:SZ a) (hb:SZ b):dQ 97 (.cons (aR.v a) (.cons (aR.v b) .nil)) (aR.v (a+b)):=by
 unfold SZ at ha hb;refine PF.of_wp (c:=_) af (by decide) (fn:=f97) rfl rfl rfl ?_ (call:=aH sj) (λB0=>az ae sj B0) ?_
 .exact .cons (aR.an _) (.cons (aR.an _) .nil)
 .intro B0;rw [ej a,ej b];by_cases h1:a<0
  .by_cases h2:b<0
   .rw [decide_eq_true h1,decide_eq_true h2];conv=>whnf
    refine df sj 0 Kl (a.natAbs,b.natAbs) ⟨ha,hb⟩ (kj ?_);refine df sj 3 cD (true,fL (max (nd a.natAbs) (nd b.natAbs)+1) (a.natAbs+b.natAbs)) ⟨gH _ _,by show(fL _ _).length<_;rw [bf];omega⟩ (kj ?_);refine ak.same ?_ (aR.an _);show aR.v (eV true (val _))=_;rw [GL];exact congrArg aR.v (by simp only [eV];omega)
   .rw [decide_eq_true h1,decide_eq_false h2];conv=>whnf
    refine df sj 2 iD (a.natAbs,b.natAbs) ⟨by show nd a.natAbs<_;omega,by show nd b.natAbs<_;omega⟩ (aC ?_);refine ay (λh=>?_) (λh=>?_)
    .have h:=cG.1 h;have h:b.natAbs<=a.natAbs:=by
      have h:(0:Int)<=km a.natAbs b.natAbs:=h;unfold km at h;split at h
      .omega
      .omega
     conv=>whnf
     refine df sj 1 vm (a.natAbs,b.natAbs) ⟨ha,by show b.natAbs<=a.natAbs;omega⟩ (kj ?_);refine df sj 3 cD (true,fL (nd a.natAbs) (a.natAbs - b.natAbs)) ⟨gH _ _,by show(fL _ _).length<_;rw [bf];omega⟩ (kj ?_);refine ak.same ?_ (aR.an _);show aR.v (eV true (val _))=_;rw [rO];exact congrArg aR.v (by simp only [eV];omega)
    .have h:=kG.1 h;have h:a.natAbs<b.natAbs:=by
      have h:km a.natAbs b.natAbs<(0:Int):=h;unfold km at h;split at h
      .omega
      .split at h<;>omega
     conv=>whnf
     refine df sj 1 vm (b.natAbs,a.natAbs) ⟨hb,by show a.natAbs<=b.natAbs;omega⟩ (kj ?_);refine df sj 3 cD (false,fL (nd b.natAbs) (b.natAbs - a.natAbs)) ⟨gH _ _,by show(fL _ _).length<_;rw [bf];omega⟩ (kj ?_);refine ak.same ?_ (aR.an _);show aR.v (eV false (val _))=_;rw [rO];exact congrArg aR.v (by simp only [eV];omega)
  .by_cases h2:b<0
   .rw [decide_eq_false h1,decide_eq_true h2];conv=>whnf
    refine df sj 2 iD (a.natAbs,b.natAbs) ⟨by show nd a.natAbs<_;omega,by show nd b.natAbs<_;omega⟩ (aC ?_);refine ay (λh=>?_) (λh=>?_)
    .have h:=cG.1 h;have h:b.natAbs<=a.natAbs:=by
      have h:(0:Int)<=km a.natAbs b.natAbs:=h;unfold km at h;split at h
      .omega
      .omega
     conv=>whnf
     refine df sj 1 vm (a.natAbs,b.natAbs) ⟨ha,by show b.natAbs<=a.natAbs;omega⟩ (kj ?_);refine df sj 3 cD (false,fL (nd a.natAbs) (a.natAbs - b.natAbs)) ⟨gH _ _,by show(fL _ _).length<_;rw [bf];omega⟩ (kj ?_);refine ak.same ?_ (aR.an _);show aR.v (eV false (val _))=_;rw [rO];exact congrArg aR.v (by simp only [eV];omega)
    .have h:=kG.1 h;have h:a.natAbs<b.natAbs:=by
      have h:km a.natAbs b.natAbs<(0:Int):=h;unfold km at h;split at h
      .omega
      .split at h<;>omega
     conv=>whnf
     refine df sj 1 vm (b.natAbs,a.natAbs) ⟨hb,by show a.natAbs<=b.natAbs;omega⟩ (kj ?_);refine df sj 3 cD (true,fL (nd b.natAbs) (b.natAbs - a.natAbs)) ⟨gH _ _,by show(fL _ _).length<_;rw [bf];omega⟩ (kj ?_);refine ak.same ?_ (aR.an _);show aR.v (eV true (val _))=_;rw [rO];exact congrArg aR.v (by simp only [eV];omega)
   .rw [decide_eq_false h1,decide_eq_false h2];conv=>whnf
    refine df sj 0 Kl (a.natAbs,b.natAbs) ⟨ha,hb⟩ (kj ?_);refine df sj 3 cD (false,fL (max (nd a.natAbs) (nd b.natAbs)+1) (a.natAbs+b.natAbs)) ⟨gH _ _,by show(fL _ _).length<_;rw [bf];omega⟩ (kj ?_);refine ak.same ?_ (aR.an _);show aR.v (eV false (val _))=_;rw [GL];exact congrArg aR.v (by simp only [eV];omega)
def sP:Cn prog:= .kP aR aR aR 97 false (λa b=>SZ a/\SZ b) (λa b=>a+b) (λe=>by cases e) (λa b h=>afI a b h.1 h.2) (aw rfl rfl)
def Yp:List (Cn prog):=[sP,sO]
theorem afJ (a b:Int) (ha:SZ a) (hb:SZ b):dQ 145 (.cons (aR.v a) (.cons (aR.v b) .nil)) (aR.v (a - b)):=by
 refine PF.of_wp (c:=_) af (by decide) (fn:=f145) rfl rfl rfl ?_ (call:=aH Yp) (λB0=>az ae Yp B0) ?_
 .exact .cons (aR.an _) (.cons (aR.an _) .nil)
 .intro B0;rw [ej a,ej b];conv=>whnf
  refine df Yp 1 sO b aB (kj ?_);refine df Yp 0 sP (a,-b) ⟨ha,by unfold SZ at hb ⊢;rw [Int.natAbs_neg];exact hb⟩ (kj ?_);exact ak.same (congrArg aR.v (Int.sub_eq_add_neg ..).symm) (aR.an _)
def My:Cn prog:= .kP aR aR aR 145 false (λa b=>SZ a/\SZ b) (λa b=>a - b) (λe=>by cases e) (λa b h=>afJ a b h.1 h.2) (aw rfl rfl)
abbrev abm (s:Bool) (m:Nat):AV:= .agg (.cons (.bool s) (.cons (aM.v m) .nil))
theorem Tl {l:List Int} {A B i k c:Nat} (hj:i+k<l.length) (hd:DG l) (hv:val l+4294967296 ^ (i+k)*c=A % 4294967296 ^ i*B+A/4294967296 ^ i % 4294967296*(4294967296 ^ i*(B % 4294967296 ^ k))) (t:Nat) (ht:t=A/4294967296 ^ i % 4294967296*(B/4294967296 ^ k % 4294967296)+l[i+k].toNat+c):
  val (l.set (i+k) ((t % 4294967296:Nat):Int))+4294967296 ^ (i+(k+1))*(t/4294967296)=A % 4294967296 ^ i*B+A/4294967296 ^ i % 4294967296*(4294967296 ^ i*(B % 4294967296 ^ (k+1))):=by
 have h1:=vl hj ((t % 4294967296:Nat):Int);rw [show(((t % 4294967296:Nat):Int)).toNat=t % 4294967296 from rfl]at h1;rw [Nat.mod_pow_succ,show i+(k+1)=i+k+1 from rfl,Nat.pow_succ,Nat.mul_assoc];generalize A/4294967296 ^ i % 4294967296=x at*;generalize hy:B/4294967296 ^ k % 4294967296=y at*;have e:4294967296 ^ (i+k)*t=4294967296 ^ (i+k)*(t % 4294967296)+4294967296 ^ (i+k)*(4294967296*(t/4294967296)):=by rw [<-Nat.mul_add,Nat.mod_add_div]
 have e2:4294967296 ^ (i+k)*t=4294967296 ^ (i+k)*(x*y)+4294967296 ^ (i+k)*l[i+k].toNat+4294967296 ^ (i+k)*c:=by rw [ht,Nat.mul_add,Nat.mul_add]
 have e3:x*(4294967296 ^ i*(B % 4294967296 ^ k+4294967296 ^ k*y))=x*(4294967296 ^ i*(B % 4294967296 ^ k))+4294967296 ^ (i+k)*(x*y):=by
  rw [Nat.mul_add,Nat.mul_add,Nat.pow_add];congr 1;rw [<-Nat.mul_assoc (4294967296 ^ i),Nat.mul_left_comm]
 rw [e3];omega
theorem Yq {l:List Int} {A B i c n:Nat} (hj:i+n<l.length) (hz:l[i+n]=0) (hc:c<4294967296) (hn:B<4294967296 ^ n) (hv:val l+4294967296 ^ (i+n)*c=A % 4294967296 ^ i*B+A/4294967296 ^ i % 4294967296*(4294967296 ^ i*(B % 4294967296 ^ n))):
  val (l.set (i+n) (c:Int))=A % 4294967296 ^ (i+1)*B:=by
 have h1:=vl hj (c:Int);rw [hz,show((c:Int)).toNat=c from rfl]at h1;rw [Nat.mod_eq_of_lt hn]at hv;rw [Nat.mod_pow_succ,Nat.add_mul];simp only [Int.toNat_zero,Nat.mul_zero,Nat.add_zero]at h1;rw [h1,hv];congr 1;rw [Nat.mul_left_comm,Nat.mul_assoc]
theorem afK {x y o c:Nat} (h:x*y<=4294967295*4294967295) (ho:o<4294967296) (hc:c<4294967296):aj .u64 (Int.add (c:Int) (aj .u64 (Int.add ((x*y:Nat):Int) (o:Int))))=((x*y+o+c:Nat):Int):=by
 have h1:aj .u64 (Int.add ((x*y:Nat):Int) (o:Int))=((x*y+o:Nat):Int):=(aW (n:=((x*y:Nat):Int)+(o:Int)) (by omega) (by omega)).trans (by omega);rw [h1];exact(aW (n:=(c:Int)+((x*y+o:Nat):Int)) (by omega) (by omega)).trans (by omega)
theorem ac2 (s1 s2:Bool) (A B:Nat) (ha:nd A<67108864) (hb:nd B<67108864):dQ 85 (.cons (abm s1 A) (.cons (abm s2 B) .nil)) (aR.v (eV (s1 !=s2) (A*B))):=by
 refine PF.of_wp (c:=_) af (by decide) (fn:=f85) rfl rfl rfl ?_ (call:=aH [cD]) (λB0=>az ae [cD] B0) ?_
 .exact .cons (.agg (.cons .bool (.cons (aM.an _) .nil))) (.cons (.agg (.cons .bool (.cons (aM.an _) .nil))) .nil)
 .intro B0;have la:=bj A;have lb:=bj B;conv=>whnf
  have e0:aj .i64 (Int.add (Int.ofNat (dg A).length) (Int.ofNat (dg B).length))=((nd A+nd B:Nat):Int):=by
   rw [la,lb];exact aA (n:=((nd A:Nat):Int)+((nd B:Nat):Int)) (by omega) (by omega)
  refine(au .u32).mk' (x:=0) (nd A+nd B) (nd A+nd B) e0 e0 (Nat.le_refl _) (by show(nd A+nd B)*(4+1)<=_;omega) ?_;conv=>whnf
  refine Cw.loop (ι:=Nat×List Int)
   (λq=>bl [(2,.ptr (pathOf 64) 0),(3,.ptr (pathOf 65) 0),(4,.ptr (pathOf 66) 0),(5,.gs (pathOf 67) (nd A+nd B) 1),(20,aM.v A),(21,.int .i64 (nd A)),(22,.int .i64 q.1)]) (λ_=>[])
   (λq=>⟨bV [(pathOf 64,.cells (bl [(0,.bool s1),(1,aM.v A)]) 2 false),(pathOf 65,.cells (bl [(0,.bool s2),(1,aM.v B)]) 2 false),(pathOf 66,.cells .leaf 2 false),(pathOf 67,.gl ((au .u32).l q.2) false)],pathOf 68⟩)
   (λq=>q.1<=nd A/\q.2.length=nd A+nd B/\DG q.2/\(∀j (hj:j<q.2.length),q.1+nd B<=j ->q.2[j]=0)/\val q.2=A % 4294967296 ^ q.1*B)
   (λq=>nd A - q.1) ?_ (0,List.replicate (nd A+nd B) 0) ⟨Nat.zero_le _,by simp,?_,?_,by simp [wj,Nat.mod_one]⟩ ?_
  .rintro ⟨i,l⟩ ⟨hi,hl,hd,hz,hv⟩;simp only at hi hl hd hz hv;refine aD af rfl rfl (az ae [cD] B0) _ (aC ?_);refine ay (λh=>?_) (λh=>?_)
   .have h:i<nd A:=Int.ofNat_lt.1 (aO.1 h);have GK:i<(dg A).length:=(by omega);have hx:=bI GK;conv=>whnf
    refine aL.go i rfl GK (aC ?_);refine⟨_,(au .u32).rd rfl GK,aC ?_⟩;refine Cw.loop (ι:=Nat×List Int×Nat)
     (λq=>bl [(2,.ptr (pathOf 64) 0),(3,.ptr (pathOf 65) 0),(4,.ptr (pathOf 66) 0),(5,.gs (pathOf 67) (nd A+nd B) 1),(6,.int .i64 i),(7,.int .u32 (A/4294967296 ^ i % 4294967296:Nat)),(8,.int .u64 q.2.2),(20,aM.v A),(21,.int .i64 (nd A)),(22,.int .i64 i),(28,aM.v B),(29,.int .i64 (nd B)),(30,.int .i64 q.1)]) (λ_=>[])
     (λq=>⟨bV [(pathOf 64,.cells (bl [(0,.bool s1),(1,aM.v A)]) 2 false),(pathOf 65,.cells (bl [(0,.bool s2),(1,aM.v B)]) 2 false),(pathOf 66,.cells .leaf 2 false),(pathOf 67,.gl ((au .u32).l q.2.1) false)],pathOf 68⟩)
     (λq=>q.1<=nd B/\q.2.1.length=nd A+nd B/\DG q.2.1/\q.2.2<4294967296/\(∀j (hj:j<q.2.1.length),i+nd B<=j ->q.2.1[j]=0)/\val q.2.1+4294967296 ^ (i+q.1)*q.2.2=A % 4294967296 ^ i*B+A/4294967296 ^ i % 4294967296*(4294967296 ^ i*(B % 4294967296 ^ q.1)))
     (λq=>nd B - q.1) ?_ (0,l,0) ⟨Nat.zero_le _,hl,hd,by show(0:Nat)<_;decide,hz,by simp [hv,Nat.mod_one]⟩ ?_
    .rintro ⟨k,o,c⟩ ⟨hk,ho,hdo,hc,hzo,hvo⟩;simp only at hk ho hdo hc hzo hvo;refine aD af rfl rfl (az ae [cD] B0) _ (aC ?_);refine ay (λh2=>?_) (λh2=>?_)
     .have h2:k<nd B:=Int.ofNat_lt.1 (aO.1 h2);have hky:k<(dg B).length:=(by omega);have hy:=bI hky;have hj:i+k<o.length:=(by omega);have hoj:=hdo.get hj;have eo:o[i+k]=(o[i+k].toNat:Int):=(by omega);have hxy:A/4294967296 ^ i % 4294967296*(B/4294967296 ^ k % 4294967296)<=4294967295*4294967295:=Nat.mul_le_mul (by omega) (by omega);have eij:aj .i64 (Int.add (i:Int) (k:Int))=((i+k:Nat):Int):=aA (n:=(i:Int)+(k:Int)) (by omega) (by omega);have em:aj .u64 (Int.mul (aj .u64 ((A/4294967296 ^ i % 4294967296:Nat):Int)) (aj .u64 (dg B)[k]))=((A/4294967296 ^ i % 4294967296*(B/4294967296 ^ k % 4294967296):Nat):Int):=by
       rw [hy,aW (n:=((A/4294967296 ^ i % 4294967296:Nat):Int)) (by omega) (by omega),aW (n:=((B/4294967296 ^ k % 4294967296:Nat):Int)) (by omega) (by omega)];rw [show Int.mul ((A/4294967296 ^ i % 4294967296:Nat):Int) ((B/4294967296 ^ k % 4294967296:Nat):Int)=((A/4294967296 ^ i % 4294967296*(B/4294967296 ^ k % 4294967296):Nat):Int)from rfl];exact aW (by omega) (by omega)
      have ht:aj .u64 (Int.add (c:Int) (aj .u64 (Int.add (aj .u64 (Int.mul (aj .u64 ((A/4294967296 ^ i % 4294967296:Nat):Int)) (aj .u64 (dg B)[k]))) (aj .u64 o[i+k]))))=((A/4294967296 ^ i % 4294967296*(B/4294967296 ^ k % 4294967296)+o[i+k].toNat+c:Nat):Int):=by
       rw [em,show aj .u64 o[i+k]=(o[i+k].toNat:Int) by rw [aW (by omega) (by omega)];exact eo];exact afK hxy (by omega) hc
      have cA:=Tl (A:=A) (B:=B) hj hdo hvo _ rfl;conv=>whnf
      refine aL.go k rfl hky (aC ?_);refine⟨_,(au .u32).rd rfl hky,aC ?_⟩;refine aL.go (i+k) eij (by omega) (aC ?_);refine⟨_,(au .u32).rd rfl hj,aC ?_⟩;refine aL.go (i+k) eij (by omega) (aC ?_);refine(au .u32).st (xs:=o) (i:=i+k) _ hj ?_;conv=>whnf
      refine⟨⟨by show(0:Int)<=aj .u64 _;rw [ht];omega,by decide⟩,aC ?_⟩;generalize htt:A/4294967296 ^ i % 4294967296*(B/4294967296 ^ k % 4294967296)+o[i+k].toNat+c=t at ht cA;refine⟨(k+1,o.set (i+k) ((t % 4294967296:Nat):Int),t/4294967296),⟨by show k+1<=nd B;omega,by simp [ho],hdo.set _ (by omega) (by omega),by show t/4294967296<_;omega,?_,cA⟩,by show nd B - (k+1)<nd B - k;omega,?_⟩
      .intro j Tm hle;have dD:i+k≠j:=(by omega);simp only [List.getElem_set_ne dD];exact hzo j (by simpa using Tm) hle
      .refine Sub.of (gU [64,65,66,67]) [] rfl rfl rfl ⟨rfl,rfl,rfl,⟨rfl,rfl⟩,rfl,rfl,?_,⟨rfl,rfl⟩,rfl,rfl,⟨rfl,rfl⟩,rfl,?_,aB⟩ ⟨⟨rfl,rfl,aB,rfl,aB,⟨rfl,rfl⟩,aB⟩,⟨rfl,rfl,aB,rfl,aB,⟨rfl,rfl⟩,aB⟩,⟨rfl,rfl,aB⟩,⟨?_,rfl,(au .u32).bm _⟩,aB⟩
       .show Int.ofNat (Nat.div (aj .u64 _).toNat 4294967296)=_;rw [ht];rfl
       .exact aA (n:=(k:Int)+1) (by omega) (by omega)
       .show(au .u32).l (o.set (i+k) (aj .u32 (aj .u64 _)))=(au .u32).l (o.set (i+k) _);rw [ht,wrap_u32];rfl
     .have h2:nd B<=k:=Int.ofNat_le.1 (aX.1 h2);have hkn:k=nd B:=(by omega);subst hkn;have hj:i+nd B<o.length:=(by omega);have eij:aj .i64 (Int.add (i:Int) (Int.ofNat (dg B).length))=((i+nd B:Nat):Int):=by
       rw [lb];exact aA (n:=(i:Int)+((nd B:Nat):Int)) (by omega) (by omega)
      have aiC:=Yq hj (hzo _ hj (Nat.le_refl _)) hc (dV B) hvo;conv=>whnf
      refine aL.go (i+nd B) eij (by omega) (aC ?_);refine(au .u32).st (xs:=o) (i:=i+nd B) _ hj ?_;conv=>whnf
      refine⟨(i+1,o.set (i+nd B) (c:Int)),⟨by show i+1<=nd A;omega,by simp [ho],hdo.set _ (by omega) (by omega),?_,aiC⟩,by show nd A - (i+1)<nd A - i;omega,?_⟩
      .intro j Tm hle;have dD:i+nd B≠j:=(by simp only at hle;omega);simp only [List.getElem_set_ne dD];exact hzo j (by simpa using Tm) (by simp only at hle;omega)
      .refine Sub.of (gU [64,65,66,67]) [] rfl rfl rfl ⟨rfl,rfl,rfl,⟨rfl,rfl⟩,⟨rfl,rfl⟩,rfl,?_,aB⟩ ⟨⟨rfl,rfl,aB,rfl,aB,⟨rfl,rfl⟩,aB⟩,⟨rfl,rfl,aB,rfl,aB,⟨rfl,rfl⟩,aB⟩,⟨rfl,rfl,aB⟩,⟨?_,rfl,(au .u32).bm _⟩,aB⟩
       .exact aA (n:=(i:Int)+1) (by omega) (by omega)
       .show(au .u32).l (o.set (i+nd B) (aj .u32 (c:Int)))=(au .u32).l (o.set (i+nd B) _);rw [gA (by omega) (by omega)]
    .refine Sub.of (gU [64,65,66,67]) [] rfl rfl rfl ⟨rfl,rfl,rfl,⟨rfl,rfl⟩,rfl,hx,rfl,⟨rfl,rfl⟩,rfl,rfl,⟨rfl,rfl⟩,congrArg Int.ofNat lb,rfl,aB⟩ ⟨⟨rfl,rfl,aB,rfl,aB,⟨rfl,rfl⟩,aB⟩,⟨rfl,rfl,aB,rfl,aB,⟨rfl,rfl⟩,aB⟩,⟨rfl,rfl,aB⟩,⟨rfl,rfl,(au .u32).bm _⟩,aB⟩
   .have h:nd A<=i:=Int.ofNat_le.1 (aX.1 h);have dF:i=nd A:=(by omega);subst dF;rw [Nat.mod_eq_of_lt (dV A)]at hv;rw [<-hv];cases s1<;>cases s2
    .conv=>whnf
     refine bA (l:=[cD]) (by decide) 0 (c:=cD) rfl (false,l) ⟨hd,by show l.length<_;omega⟩ ?_ ?_ ?_
     .exact⟨aB,by show(nd A+nd B)*1=((au .u32).l l).len;rw [bW.ep,hl];rfl,aB⟩
     .show AV.cons _ (.cons (.ro l.length _) .nil)=AV.cons _ (.cons (.ro (nd A+nd B) _) .nil);rw [hl];rfl
     refine kj ?_;exact ak.same rfl (aR.an _)
    .conv=>whnf
     refine bA (l:=[cD]) (by decide) 0 (c:=cD) rfl (true,l) ⟨hd,by show l.length<_;omega⟩ ?_ ?_ ?_
     .exact⟨aB,by show(nd A+nd B)*1=((au .u32).l l).len;rw [bW.ep,hl];rfl,aB⟩
     .show AV.cons _ (.cons (.ro l.length _) .nil)=AV.cons _ (.cons (.ro (nd A+nd B) _) .nil);rw [hl];rfl
     refine kj ?_;exact ak.same rfl (aR.an _)
    .conv=>whnf
     refine bA (l:=[cD]) (by decide) 0 (c:=cD) rfl (true,l) ⟨hd,by show l.length<_;omega⟩ ?_ ?_ ?_
     .exact⟨aB,by show(nd A+nd B)*1=((au .u32).l l).len;rw [bW.ep,hl];rfl,aB⟩
     .show AV.cons _ (.cons (.ro l.length _) .nil)=AV.cons _ (.cons (.ro (nd A+nd B) _) .nil);rw [hl];rfl
     refine kj ?_;exact ak.same rfl (aR.an _)
    .conv=>whnf
     refine bA (l:=[cD]) (by decide) 0 (c:=cD) rfl (false,l) ⟨hd,by show l.length<_;omega⟩ ?_ ?_ ?_
     .exact⟨aB,by show(nd A+nd B)*1=((au .u32).l l).len;rw [bW.ep,hl];rfl,aB⟩
     .show AV.cons _ (.cons (.ro l.length _) .nil)=AV.cons _ (.cons (.ro (nd A+nd B) _) .nil);rw [hl];rfl
     refine kj ?_;exact ak.same rfl (aR.an _)
  .intro y hy;rw [List.eq_of_mem_replicate hy];omega
  .intro j hj _;simp
  .refine Sub.of (gU [64,65,66,67]) [] rfl rfl rfl ⟨rfl,rfl,rfl,⟨rfl,rfl⟩,⟨rfl,rfl⟩,congrArg Int.ofNat la,rfl,aB⟩ ⟨⟨rfl,rfl,aB,rfl,aB,⟨rfl,rfl⟩,aB⟩,⟨rfl,rfl,aB,rfl,aB,⟨rfl,rfl⟩,aB⟩,⟨rfl,rfl,aB⟩,⟨rfl,rfl,(au .u32).bm _⟩,aB⟩
theorem Yr (a b:Int):eV (decide (a<0) !=decide (b<0)) (a.natAbs*b.natAbs)=a*b:=by
 rw [<-Int.natAbs_mul];rcases Int.lt_or_le a 0 with h1|h1<;>rcases Int.lt_or_le b 0 with h2|h2
 .rw [decide_eq_true h1,decide_eq_true h2];have:=Int.mul_pos_of_neg_of_neg h1 h2;simp only [eV,bne_self_eq_false];omega
 .rw [decide_eq_true h1,decide_eq_false (by omega)];have:=Int.mul_nonpos_of_nonpos_of_nonneg (Int.le_of_lt h1) h2;show -(((a*b).natAbs:Nat):Int)=_;omega
 .rw [decide_eq_false (by omega),decide_eq_true h2];have:=Int.mul_nonpos_of_nonneg_of_nonpos h1 (Int.le_of_lt h2);show -(((a*b).natAbs:Nat):Int)=_;omega
 .rw [decide_eq_false (show ¬a<0 by omega),decide_eq_false (show ¬b<0 by omega)];have:=Int.mul_nonneg h1 h2;simp only [eV,bne_self_eq_false];omega
def SH (z:Int):Prop:=nd z.natAbs<67108864
theorem afL (a b:Int) (ha:SH a) (hb:SH b):dQ 85 (.cons (aR.v a) (.cons (aR.v b) .nil)) (aR.v (a*b)):=by
 have:=ac2 (decide (a<0)) (decide (b<0)) a.natAbs b.natAbs ha hb;rw [Yr]at this;exact this
def fR:Cn prog:= .kP aR aR aR 85 false (λa b=>SH a/\SH b) (λa b=>a*b) (λe=>by cases e) (λa b h=>afL a b h.1 h.2) (aw rfl rfl)
theorem ac3 (n:Int) (h1:-9223372036854775808<=n) (h2:n<9223372036854775808):dQ 81 (.cons ((au .i64).v n) .nil) (aR.v n):=by
 refine PF.of_wp (c:=_) af (by decide) (fn:=f81) rfl rfl rfl ?_ (call:=aH [cD]) (λB0=>az ae [cD] B0) ?_
 .exact .cons .int .nil
 .intro B0;conv=>whnf
  refine ay (λh=>?_) (λh=>?_)
  .have hn:=aO.1 h;have eu:aj .u64 (Int.sub 0 (aj .u64 n))=((n.natAbs:Nat):Int):=by
    rw [wrap_u64 n,wrap_u64];show((0:Int) - n % 18446744073709551616) % 18446744073709551616=_;omega
   conv=>whnf
   refine⟨⟨by rw [eu];omega,by decide⟩,aC ?_⟩;have hl:[aj .u32 (aj .u64 (Int.sub 0 (aj .u64 n))),aj .u32 (Int.ofNat (Nat.div (aj .u64 (Int.sub 0 (aj .u64 n))).toNat 4294967296))]=[((n.natAbs % 4294967296:Nat):Int),((n.natAbs/4294967296:Nat):Int)]:=by
    rw [eu,wrap_u32];congr 1;congr 1;exact gA (n:=((n.natAbs/4294967296:Nat):Int)) (by omega) (by omega)
   refine bA (l:=[cD]) (by decide) 0 (c:=cD) rfl (cQ n 0,[aj .u32 (aj .u64 (Int.sub 0 (aj .u64 n))),aj .u32 (Int.ofNat (Nat.div (aj .u64 (Int.sub 0 (aj .u64 n))).toNat 4294967296))]) ⟨?_,by show(2:Nat)<_;omega⟩ ?_ ?_ ?_
   .rw [hl];exact DG.cons.2 ⟨by omega,DG.cons.2 ⟨by omega,.nil⟩⟩
   .exact⟨aB,rfl,aB⟩
   .rfl
   refine kj ?_;refine ak.same (congrArg aR.v (a₁:=eV (cQ n 0) (val [aj .u32 (aj .u64 (Int.sub 0 (aj .u64 n))),aj .u32 (Int.ofNat (Nat.div (aj .u64 (Int.sub 0 (aj .u64 n))).toNat 4294967296))])) ?_) (aR.an _);rw [hl,h];show -((((n.natAbs % 4294967296:Nat):Int).toNat+4294967296*(((n.natAbs/4294967296:Nat):Int).toNat+4294967296*0):Nat):Int)=n;omega
  .have hn:=aX.1 h;have eu:aj .u64 n=((n.natAbs:Nat):Int):=(by rw [aW hn (by omega)];omega);conv=>whnf
   refine⟨⟨by rw [eu];omega,by decide⟩,aC ?_⟩;have hl:[aj .u32 (aj .u64 n),aj .u32 (Int.ofNat (Nat.div (aj .u64 n).toNat 4294967296))]=[((n.natAbs % 4294967296:Nat):Int),((n.natAbs/4294967296:Nat):Int)]:=by
    rw [eu,wrap_u32];congr 1;congr 1;exact gA (n:=((n.natAbs/4294967296:Nat):Int)) (by omega) (by omega)
   refine bA (l:=[cD]) (by decide) 0 (c:=cD) rfl (cQ n 0,[aj .u32 (aj .u64 n),aj .u32 (Int.ofNat (Nat.div (aj .u64 n).toNat 4294967296))]) ⟨?_,by show(2:Nat)<_;omega⟩ ?_ ?_ ?_
   .rw [hl];exact DG.cons.2 ⟨by omega,DG.cons.2 ⟨by omega,.nil⟩⟩
   .exact⟨aB,rfl,aB⟩
   .rfl
   refine kj ?_;refine ak.same (congrArg aR.v (a₁:=eV (cQ n 0) (val [aj .u32 (aj .u64 n),aj .u32 (Int.ofNat (Nat.div (aj .u64 n).toNat 4294967296))])) ?_) (aR.an _);rw [hl,h];show((((n.natAbs % 4294967296:Nat):Int).toNat+4294967296*(((n.natAbs/4294967296:Nat):Int).toNat+4294967296*0):Nat):Int)=n;omega
def iP:Cn prog:= .mU (au .i64) aR 81 false (λn=> -9223372036854775808<=n/\n<9223372036854775808) (λn=>n) (λe=>by cases e) (λn h=>ac3 n h.1 h.2) (aw rfl rfl)
end
end
end Go.Sy
