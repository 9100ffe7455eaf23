/- CataloguePlans returns true for whatever three bytes; its tied card. -/
import Derived.Test.YtemoafmennfhhaaGreatDoorSpCases
import Derived.Test.YtemoafmennfhhaaGreatDoorSpFacts
import Derived.Test.YtemoafmennfhhaaGreatDoorRows
import Derived.Test.YtemoafmennfhhaaGreatDoorSpTie
import Derived.Test.YtemoafmennfhhaaGreatDoorCards
import Derived.WalkKit
import Derived.ProofKit
import Derived.LaidMore
import Derived.OpenShut
import Derived.Stop.Joined
import Derived.SevenTiedAt
import Derived.Lay
import Derived.Lib.LaidTab
import Derived.Lib.LaidU8
namespace Go.Proofs.YtemoafmennfhhaaGreatDoor
open Go.ChangeShapes Go.WideShapes Go.ChangeAt Go.RowKit
set_option linter.unusedVariables false
theorem own : ownKnob Tryz.prog.godebug = none:=by kernel_rfl
theorem tab_at {W : World} {nm : String} {g : Nat} {t e : TypeId} {n : Nat} {k : IntKind} {zs : List Int} (hr : Lib.VarReads Tryz.prog W nm (Lib.tabData k zs)) (hg : Tryz.prog.globalNamed nm = some g) (ht : (Tryz.prog.globals[g]?).map (·.type) = some t)
    (hu : Tryz.prog.underlying t = some (.array n e)) (he : Tryz.prog.underlying e = some (.int k)) (hce : Tryz.prog.cellsOf e = 1) (hct : Tryz.prog.cellsOf t = n) :
    ∃ (c : Array Value) (el : TypeId) (fz : Nat × Nat),W.heap[g]? = some (.cells c el fz)∧c.toList = zs.map fun z=>Value.int k z:=by
  obtain ⟨g',t',cs,fuel,p,h1,h2,h3,h4⟩:=hr
  obtain rfl:=Option.some.inj (hg.symm.trans h1)
  obtain rfl:=Option.some.inj (ht.symm.trans h2)
  have hcs:=Lib.cells_of_tab (zs:=zs) hu he hce hct h4
  unfold World.var? at h3
  rw [hg] at h3
  have h3 : (match W.heap[g]? with | some (.cells cs _ _)=>some cs | _=>none) = some cs:=h3
  split at h3
  · rename_i c el fz hc
    cases h3
    exact ⟨_,el,fz,hc,hcs⟩
  · cases h3
theorem tabs_of_laid {W : World} (h : laidMetH Tryz.prog Rows.cataloguePlansRow.laid W) : Sy.TabOK W (@Sy.Tabs.l Sy.tb1):=by
  rw [MakeChecks.laidMetH_plain _ _ _ (by kernel_rfl)] at h
  have r0 : Lib.VarReads Tryz.prog W "internal/strconv.uint64pow10" (Lib.tabData .u64 Sy.pow10):=Lib.laidMet.reads h (by simp [Rows.cataloguePlansRow]; first | exact rfl | exact .inl rfl | exact .inr (.inl rfl) | exact .inr (.inr (.inl rfl)) | exact .inr (.inr rfl))
  have r1 : Lib.VarReads Tryz.prog W "math/bits.deBruijn32tab" (Lib.tabData .u8 Sy.deB32):=Lib.laidMet.reads h (by simp [Rows.cataloguePlansRow]; first | exact rfl | exact .inl rfl | exact .inr (.inl rfl) | exact .inr (.inr (.inl rfl)) | exact .inr (.inr rfl))
  have r2 : Lib.VarReads Tryz.prog W "math/bits.deBruijn64tab" (Lib.tabData .u8 Sy.deB64):=Lib.laidMet.reads h (by simp [Rows.cataloguePlansRow]; first | exact rfl | exact .inl rfl | exact .inr (.inl rfl) | exact .inr (.inr (.inl rfl)) | exact .inr (.inr rfl))
  obtain ⟨c0,e0,f0,h0,k0⟩:=tab_at (g:=0) r0 (by kernel_rfl) (by kernel_rfl) Tryz.underlying312 Tryz.underlying206 (by kernel_rfl) (by kernel_rfl)
  obtain ⟨c1,e1,f1,h1,k1⟩:=tab_at (g:=1) r1 (by kernel_rfl) (by kernel_rfl) Tryz.underlying430 Tryz.underlying5 (by kernel_rfl) (by kernel_rfl)
  obtain ⟨c2,e2,f2,h2,k2⟩:=tab_at (g:=2) r2 (by kernel_rfl) (by kernel_rfl) Tryz.underlying431 Tryz.underlying5 (by kernel_rfl) (by kernel_rfl)
  have mk : ∀ {g : Nat} {k : IntKind} {zs : List Int} {c : Array Value} {e : TypeId} {f : Nat × Nat},W.heap[g]? = some (.cells c e f) → (c.toList = zs.map fun z=>Value.int k z) → ∃ (c : Array Value) (el : TypeId) (fz : Nat × Nat) (vs : List Value),W.heap[g]? = some (.cells c el fz)∧c.size = zs.length∧(∀ μ,Sy.VRL μ (Sy.intsAV k zs) vs)∧∀ (k : Nat) (v : Value),vs[k]? = some v → c[k]? = some v:=by
    intro g k zs c e f hc hk
    refine ⟨c,e,f,zs.map (Value.int k),hc,by rw [← Array.length_toList,hk]; simp,fun μ=>Sy.intsAV_sound k zs μ,fun j v hj=>?_⟩
    have : c.toList[j]? = some v:=by rw [hk]; exact hj
    simpa using this
  intro i x hi hu
  rcases i with _ | _ | _ | i
  · cases hi; exact mk h0 k0
  · cases hi; exact mk h1 k1
  · cases hi; exact mk h2 k2
  · cases hi
theorem bounds {n : Int} (h : (Lit.int .u8 n).wf = true) : 0 ≤ n∧n ≤ 255:=by
  simp only [Lit.wf,Bool.and_eq_true,decide_eq_true_eq] at h
  exact h
set_option maxRecDepth 100000 in
theorem lifted (os : Os) (started : os.Started) (H : Type) (enc : TypeId × Value → H) :
    ReturnsInHanded {} Tryz.checked os 3 .any (fun w args=>(Rows.cataloguePlansSpec.pre enc Tryz.prog Tryz.f3 [] false w args∧laidMetH Tryz.prog Rows.cataloguePlansRow.laid w)∧sizedMet enc Tryz.prog Tryz.f3 (OpenSpec.ofChange Rows.cataloguePlansSpec) false w args)
      (Rows.cataloguePlansSpec.post enc Tryz.prog Tryz.f3 false true false false):=by
  refine returnsInHanded_of_change_and (C:=Tryz.checked) (X:=fun w _=>laidMetH Tryz.prog Rows.cataloguePlansRow.laid w) (fun _ _ _ hh h=>h.of_heap hh) own started (by kernel_rfl) Tryz.func3
    (ChangeSpec.witness_shaped (enc:=enc) (C:=Tryz.checked) (os:=os) (X:=fun w _=>laidMetH Tryz.prog Rows.cataloguePlansRow.laid w) false (World.laidAll Tryz.prog os Rows.cataloguePlansRow.laid) #[.int .u8 0,.int .u8 0,.int .u8 0] 8 (World.laidAll_os _ _ _) (World.shaped_of_ZipB (by kernel_rfl) (by kernel_rfl)) (by kernel_rfl) (by kernel_rfl) (by kernel_rfl)
      (by rw [MakeChecks.laidMetH_plain _ _ _ (by kernel_rfl)]; exact laidMet_laidAll _ (by kernel_rfl) (by kernel_rfl))) ?_
  intro W base args ds gs before hval0 hW _ _ hL _
  have hval : ∀ (j : Nat) t v,Tryz.f3.params[j]? = some t → args[j]? = some v → Value.okWide Tryz.prog W .any base t v:=hval0
  have hW':=hW
  obtain ⟨p,q,hA0,hV,rfl,hfz,hnd⟩:=hW
  have hA : DataW.TrodAll enc Tryz.prog W 0 (fun _=>true) true Tryz.f3.params.toList args.toList ds p:=hA0
  rw [Tryz.params3] at hA hval
  obtain ⟨v0,vs0,d0,ds0,p0,q0,hargs,rfl,rfl,h0,r0⟩:=trodAll_cons hA
  obtain ⟨v1,vs1,d1,ds1,p1,q1,rfl,rfl,rfl,h1,r1⟩:=trodAll_cons r0
  obtain ⟨v2,vs2,d2,ds2,p2,q2,rfl,rfl,rfl,h2,r2⟩:=trodAll_cons r1
  obtain ⟨rfl,rfl,rfl⟩:=trodAll_nil r2
  obtain rfl : args = #[v0,v1,v2]:=by cases args; simp_all
  obtain ⟨rfl,rfl⟩:=trodVars_none hV
  obtain ⟨a0,rfl,rfl,rfl,w0⟩:=open_int Tryz.underlying5 (hval 0 5 v0 rfl rfl) h0
  obtain ⟨a1,rfl,rfl,rfl,w1⟩:=open_int Tryz.underlying5 (hval 1 5 v1 rfl rfl) h1
  obtain ⟨a2,rfl,rfl,rfl,w2⟩:=open_int Tryz.underlying5 (hval 2 5 v2 rfl rfl) h2
  clear hA0 hval0
  simp only [List.append_nil] at hW'
  refine (Sy.told_all (bounds w0) (bounds w1) (bounds w2) (tabs_of_laid hL)).mono fun e W' ⟨he,hb⟩=>?_
  subst he
  exact ⟨_,rfl,⟨_,_,_,[],[],[],hW',trodAll_cons_mk (shut_bool Tryz.underlying4 _) trodAll_mk0,trodAll_cons_mk (shut_int Tryz.underlying5 w0) (trodAll_cons_mk (shut_int Tryz.underlying5 w1) (trodAll_cons_mk (shut_int Tryz.underlying5 w2) trodAll_mk0)),rfl,hb.frame _,fun h=>by cases h⟩⟩
theorem over : Rows.CataloguePlansSaid :=
  OpenClaim.holds_of_wide 3 Tryz.f3 rfl rfl rfl rfl rfl rfl rfl ⟨rfl,rfl,rfl,rfl,rfl⟩ rfl rfl rfl rfl rfl (by kernel_rfl) Tryz.func3 joined1
    (of_decide_eq_true (by kernel_rfl)) (by unfold Func.isWrapper; first | (rw [if_pos (by decide +kernel)]; kernel_rfl) | (rw [if_neg (by decide +kernel)]; exact ⟨rfl,rfl⟩))
    (fun os started H enc _=>lifted os started H enc)
theorem card_holds : Rows.CataloguePlansCardSaid :=
  Claim7.holds_tied_plain_at .later [] [.data,.data,.data,.pinned,.data,.sentinel,.sentinel] true (true, "de7fdef10c892ae553cbfe950e6fc7bc072a1d0925339b9510536e0b2725994c") true
    over (fun _ h=>by cases h) (by kernel_rfl) (fun _ h=>by cases h) cataloguePlans_row_tie rfl ⟨rfl,rfl⟩ (by kernel_rfl) rfl
    (fun f fn hf hfn=>by
      obtain rfl : f = 3:=Option.some.inj ((show Tryz.prog.funcNamed "dowel/dowellaw55.CataloguePlans" = some 3 by kernel_rfl).symm.trans hf) |>.symm
      obtain rfl : fn = Tryz.f3:=(Option.some.inj (Tryz.func3.symm.trans hfn)).symm
      exact ⟨by kernel_rfl,fun j t ht=>by
        rw [Tryz.params3] at ht
        have h3 : t = 5:=by
          rcases j with _ | _ | _ | j
          · simpa using ht.symm
          · simpa using ht.symm
          · simpa using ht.symm
          · simp at ht
        subst h3
        exact (show Tryz.prog.wantsStandIn 5 = false by kernel_rfl)⟩)
    goes1
#print axioms card_holds
end Go.Proofs.YtemoafmennfhhaaGreatDoor
