/- A piece of the proof, made small by a program of ours. -/
import Derived.Test.YtilmgbneiikbiaaGreatDoorP24
import Derived.Test.YtilmgbneiikbiaaGreatDoorP25
import Derived.Lib.LaidTab
import Derived.Lib.LaidU8
set_option linter.all false
set_option maxRecDepth 1000000
set_option maxHeartbeats 0
namespace Go.Proofs.YtilmgbneiikbiaaGreatDoor
open Go.ChangeShapes Go.WideShapes Go.ChangeAt Go.RowKit
abbrev wK:Prop:= @Sy.PF Sy.bZ Tryz.prog 7 .nil (.bool true)
theorem own:ownKnob Tryz.prog.godebug=none:=by kernel_rfl
theorem laidOut:laidOutB Tryz.prog=true:=by kernel_rfl
theorem wty:Sy.WTy Tryz.prog 24 105 103 227 225 57 5 56 4 22 101 where
 w:=⟨_,Tryz.underlying24,rfl,rfl⟩
 I:=Tryz.underlying22
 i:=⟨_,_,_,_,_,Tryz.underlying105,⟨rfl,rfl⟩,⟨rfl,rfl⟩,⟨rfl,rfl⟩,⟨rfl,rfl⟩,rfl,rfl⟩
 b:=⟨_,_,Tryz.underlying103,⟨rfl,rfl⟩,rfl,rfl⟩
 B:=Tryz.underlying101
 k:=⟨_,_,_,Tryz.underlying227,⟨rfl,rfl⟩,⟨rfl,rfl⟩,rfl,rfl⟩
 a:=Tryz.underlying225
 s:=Tryz.underlying57
 u:=Tryz.underlying5
 j:=Tryz.underlying56
 o:=Tryz.underlying4
 cw:=by kernel_rfl
 cI:=by kernel_rfl
 ci:=by kernel_rfl
 cb:=by kernel_rfl
 cB:=by kernel_rfl
 ck:=by kernel_rfl
 ca:=by kernel_rfl
 cs:=by kernel_rfl
 cu:=by kernel_rfl
 cj:=by kernel_rfl
 co:=by kernel_rfl
theorem LF {W:World} {nm:String} {g:Nat} {t e:TypeId} {n:Nat} {k:IntKind} {zs:List Int} (hr:Lib.VarReads Tryz.prog W nm (Lib.tabData k zs)) (hg:Tryz.prog.globalNamed nm=some g) (ht:(Tryz.prog.globals[g]?).map (·.type)=some t)
  (hu:Tryz.prog.underlying t=some (.array n e)) (he:Tryz.prog.underlying e=some (.int k)) (hce:Tryz.prog.cellsOf e=1) (hct:Tryz.prog.cellsOf t=n):
  ∃(c:Array Value) (el:TypeId) (fz:Nat×Nat),W.heap[g]?=some (.cells c el fz)/\c.toList=zs.map λz=>Value.int k z:=by
 obtain⟨g',t',cs,fuel,p,h1,h2,h3,h4⟩:=hr;obtain rfl:=Option.some.inj (hg.symm.trans h1);obtain rfl:=Option.some.inj (ht.symm.trans h2);have mQ:=Lib.cells_of_tab (zs:=zs) hu he hce hct h4;unfold World.var? at h3;rw [hg]at h3;have h3:(match W.heap[g]? with|some (.cells cs _ _)=>some cs|_=>none)=some cs:=h3;split at h3
 .rename_i c el fz hc;cases h3;exact⟨_,el,fz,hc,mQ⟩
 .cases h3
theorem Fg {W:World} (h:laidMetH Tryz.prog Rows.blockingOpensRow.laid W):Sy.Mi W (@Sy.aT.l Sy.bZ):=by
 rw [MakeChecks.laidMetH_plain _ _ _ (by kernel_rfl)]at h;have r5:Lib.VarReads Tryz.prog W "internal/strconv.uint64pow10" (Lib.tabData .u64 Sy.xh):=Lib.laidMet.reads h (by simp [Rows.blockingOpensRow];first|exact rfl|exact .inl rfl|exact .inr (.inl rfl)|exact .inr (.inr (.inl rfl))|exact .inr (.inr rfl));have r6:Lib.VarReads Tryz.prog W "math/bits.deBruijn64tab" (Lib.tabData .u8 Sy.abv):=Lib.laidMet.reads h (by simp [Rows.blockingOpensRow];first|exact rfl|exact .inl rfl|exact .inr (.inl rfl)|exact .inr (.inr (.inl rfl))|exact .inr (.inr rfl));have r7:Lib.VarReads Tryz.prog W "math/bits.deBruijn32tab" (Lib.tabData .u8 Sy.abw):=Lib.laidMet.reads h (by simp [Rows.blockingOpensRow];first|exact rfl|exact .inl rfl|exact .inr (.inl rfl)|exact .inr (.inr (.inl rfl))|exact .inr (.inr rfl));obtain⟨c5,e5,f5,h5,k5⟩:=LF (g:=6) r5 (by kernel_rfl) (by kernel_rfl) Tryz.underlying486 Tryz.underlying246 (by kernel_rfl) (by kernel_rfl);obtain⟨c6,e6,f6,h6,k6⟩:=LF (g:=1) r6 (by kernel_rfl) (by kernel_rfl) Tryz.underlying465 Tryz.underlying5 (by kernel_rfl) (by kernel_rfl);obtain⟨c7,e7,f7,h7,k7⟩:=LF (g:=7) r7 (by kernel_rfl) (by kernel_rfl) Tryz.underlying504 Tryz.underlying5 (by kernel_rfl) (by kernel_rfl);have mk:∀{g:Nat} {k:IntKind} {zs:List Int} {c:Array Value} {e:TypeId} {f:Nat×Nat},W.heap[g]?=some (.cells c e f) ->(c.toList=zs.map λz=>Value.int k z) ->∃(c:Array Value) (el:TypeId) (fz:Nat×Nat) (vs:List Value),W.heap[g]?=some (.cells c el fz)/\c.size=zs.length/\(∀μ,Sy.cJ μ (Sy.tf k zs) vs)/\∀(k:Nat) (v:Value),vs[k]?=some v ->c[k]?=some v:=by
  intro g k zs c e f hc hk;refine⟨c,e,f,zs.map (Value.int k),hc,by rw [<-Array.length_toList,hk];simp,λμ=>Sy.uV k zs μ,λj v hj=>?_⟩;have:c.toList[j]?=some v:=by rw [hk];exact hj
  simpa using this
 intro i x hi hu;rcases i with _|_|_|_|_|_|_|_|i
 .cases hi;exact absurd rfl hu
 .cases hi;exact mk h6 k6
 .cases hi;exact absurd rfl hu
 .cases hi;exact absurd rfl hu
 .cases hi;exact absurd rfl hu
 .cases hi;exact absurd rfl hu
 .cases hi;exact mk h5 k5
 .cases hi;exact mk h7 k7
 .cases hi
set_option maxRecDepth 100000 in
theorem lifted (hT:wK) (os:Os) (started:os.Started) (H:Type) (enc:TypeId×Value ->H):
  ReturnsInHanded {} Tryz.checked os 3 .any (λw args=>(Rows.blockingOpensSpec.pre enc Tryz.prog Tryz.f3 [] false w args/\laidMetH Tryz.prog Rows.blockingOpensRow.laid w)/\sizedMet enc Tryz.prog Tryz.f3 (OpenSpec.ofChange Rows.blockingOpensSpec) false w args)
   (Rows.blockingOpensSpec.post enc Tryz.prog Tryz.f3 false true false false):=by
 refine returnsInHanded_of_change_and (C:=Tryz.checked) (X:=λw _=>laidMetH Tryz.prog Rows.blockingOpensRow.laid w) (λ_ _ _ hh h=>h.of_heap hh) own started (by kernel_rfl) Tryz.func3
  (ChangeSpec.witness_shaped (enc:=enc) (C:=Tryz.checked) (os:=os) (X:=λw _=>laidMetH Tryz.prog Rows.blockingOpensRow.laid w) false (World.laidAll Tryz.prog os Rows.blockingOpensRow.laid) #[.agg #[.slice none 0 0],.int .u8 0] 12 (World.laidAll_os _ _ _) (World.shaped_of_ZipB (by kernel_rfl) (by kernel_rfl)) (by kernel_rfl) (by kernel_rfl) (by kernel_rfl)
   (by rw [MakeChecks.laidMetH_plain _ _ _ (by kernel_rfl)];exact laidMet_laidAll _ (by kernel_rfl) (by kernel_rfl))) ?_
 intro W base args ds gs before abY hW _ _ hL _;have ae3:∀(j:Nat) t v,Tryz.f3.params[j]?=some t ->args[j]?=some v ->Value.okWide Tryz.prog W .any base t v:=abY;have hW':=hW;obtain⟨p,q,hA0,hV,rfl,Yk,kO⟩:=hW;have hA:DataW.TrodAll enc Tryz.prog W 0 (λ_=>true) true Tryz.f3.params.toList args.toList ds p:=hA0;rw [Tryz.params3]at hA ae3;obtain⟨v0,vs0,d0,ds0,p0,q0,eR,rfl,rfl,h0,r0⟩:=trodAll_cons hA;obtain⟨v1,vs1,d1,ds1,p1,q1,rfl,rfl,rfl,h1,r1⟩:=trodAll_cons r0;obtain⟨rfl,rfl,rfl⟩:=trodAll_nil r1;obtain rfl:args=#[v0,v1]:=by cases args;simp_all
 obtain⟨rfl,rfl⟩:=trodVars_none hV;have g0:=ae3 0 24 v0 rfl rfl;unfold Value.okWide at g0;rw [Tryz.underlying24]at g0;obtain⟨c0,rfl,_,_⟩:=g0;have h0':=h0;obtain⟨f0,t0⟩:=h0';obtain⟨l,hl,hi,k0⟩:=Sy.WH wty t0;obtain⟨a2,rfl,rfl,rfl,w2⟩:=open_int Tryz.underlying5 (ae3 1 5 v1 rfl rfl) h1;obtain⟨m1,m2⟩:=Sy.wf_u8 w2;obtain⟨M,rfl⟩:=Int.eq_ofNat_of_zero_le m1;clear hA0 abY;simp only [List.append_nil]at hW';have ajM:∀x∈p0,x.block<W.heap.size:=λx hx=>by
  have:=hW'.lt x (by simp [hx]);simpa using this
 refine(Sy.LD hT (Fg hL) (M:=M) hl hi k0 (by omega)).mono λe W' ⟨he,hb'⟩=>?_;subst he;have hb:=hb'.toBelow;have h0':=Below.trod laidOut (by kernel_rfl) (of_decide_eq_true (by kernel_rfl)) h0 hb ajM;exact⟨_,rfl,⟨_,_,_,[],_,[],hW',trodAll_cons_mk (shut_bool Tryz.underlying4 _) trodAll_mk0,trodAll_cons_mk h0' (trodAll_cons_mk (shut_int Tryz.underlying5 w2) trodAll_mk0),rfl,hb.frame _,λh=>by cases h⟩⟩
theorem over (hT:wK):Rows.BlockingOpensSaid:=
 OpenClaim.holds_of_wide 3 Tryz.f3 rfl rfl rfl rfl rfl rfl rfl ⟨rfl,rfl,rfl,rfl,rfl⟩ rfl rfl rfl rfl rfl (by kernel_rfl) Tryz.func3 aaK
  (of_decide_eq_true (by kernel_rfl)) (by unfold Func.isWrapper;first|(rw [if_pos (by decide+kernel)];kernel_rfl)|(rw [if_neg (by decide+kernel)];exact⟨rfl,rfl⟩))
  (λos started H enc _=>lifted hT os started H enc)
theorem aaL (hT:wK):Rows.BlockingOpensCardSaid:=
 Claim7.holds_tied_plain_at .later [] [.data,.data,.data,.data,.sentinel,.sentinel,.pinned] true (true, "1cf9b4eae10b8c8a0fd8aa50b6345969a822f1df874c704acd892da908a99b20") true
  (over hT) (λ_ h=>by cases h) (by kernel_rfl) (λ_ h=>by cases h) blockingOpens_row_tie rfl ⟨rfl,rfl⟩ (by kernel_rfl) rfl
  (λf fn hf Gb=>by
   obtain rfl:f=3:=Option.some.inj ((show Tryz.prog.funcNamed "dowel/dowellaw21.BlockingOpens" =some 3 by kernel_rfl).symm.trans hf)|>.symm;obtain rfl:fn=Tryz.f3:=(Option.some.inj (Tryz.func3.symm.trans Gb)).symm;exact⟨by kernel_rfl,λj t ht=>by
    rw [Tryz.params3]at ht;have h3:t=24\/t=5:=by
     rcases j with _|_|j
     .exact .inl (by simpa using ht.symm)
     .exact .inr (by simpa using ht.symm)
     .simp at ht
    rcases h3 with rfl|rfl
    .exact(show Tryz.prog.wantsStandIn 24=false by kernel_rfl)
    .exact(show Tryz.prog.wantsStandIn 5=false by kernel_rfl)⟩)
  ahq
end Go.Proofs.YtilmgbneiikbiaaGreatDoor
