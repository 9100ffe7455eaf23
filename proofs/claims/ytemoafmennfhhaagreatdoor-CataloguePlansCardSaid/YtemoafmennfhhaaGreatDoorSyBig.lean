/- Where less is said of a state: names of blocks are changed, blocks are forgotten, lists are sealed. -/
import Derived.Test.YtemoafmennfhhaaGreatDoorSyCn2
namespace Go.Sy
open Go.RowKit
set_option linter.unusedVariables false
set_option linter.unusedSimpArgs false
set_option linter.unusedSectionVars false
variable [Tabs]
abbrev RL:=List (Pos × Option Pos)
noncomputable section
def look (q : Pos) : RL → Option (Option Pos)
  | []=>none
  | (p,o)::l=>Bool.casesOn (motive:=fun _=>Option (Option Pos)) (Pos.beq q p) (look q l) (some o)
def memP (q : Pos) : List Pos → Bool
  | []=>false
  | p::l=>Bool.casesOn (motive:=fun _=>Bool) (Pos.beq q p) (memP q l) true
def glb (q : Pos) : Bool:=natLt q.toNat 64
def keptOK (q : Pos) (o : Option Pos) : Bool:=Bool.casesOn (motive:=fun _=>Bool) (kept q) true (match o with | some p=>Pos.beq q p | none=>false)
def isId (L : RL) (q old : Pos) : Bool :=
  Bool.casesOn (motive:=fun _=>Bool) (kept q) (match look q L with | some (some p)=>Pos.beq p old | _=>false) (Pos.beq q old)
def isNo (L : RL) (q : Pos) : Bool:=Bool.casesOn (motive:=fun _=>Bool) (kept q) (match look q L with | some none=>true | _=>false) false
abbrev bF (b : Bool) (p : Prop) : Prop:=Bool.casesOn (motive:=fun _=>Prop) b False p
def RelV (h : Heap) (L : RL) (F : List Pos) : AV → Bool → AV → Prop
  | .nil,true,v=>(match v with | .nil=>True | _=>False)
  | .cons a t,true,v=>(match v with | .cons b u=>RelV h L F a false b∧RelV h L F t true u | _=>False)
  | _,true,_=>False
  | .nil,false,_=>False
  | .cons _ _,false,_=>False
  | .undef,false,_=>True
  | .bool b,false,v=>(match v with | .bool c=>c = b | _=>False)
  | .int k n,false,v=>(match v with | .int j m=>bF (keq j k) (m = n) | _=>False)
  | .rng k a b,false,v=>(match v with | .rng j c d=>bF (keq j k) (c = a∧d = b) | _=>False)
  | .str s,false,v=>(match v with | .str t=>t = s | _=>False)
  | .ustr s,false,v=>(match v with | .ustr t=>t = s | _=>False)
  | .ptr q o,false,v=>(match v with | .ptr p o'=>bF (isId L q p) (o' = o) | _=>False)
  | .rop l k,false,v=>(match v with | .rop m j=>m = l∧j = k | _=>False)
  | .nilp,false,v=>(match v with | .nilp=>True | _=>False)
  | .slice q a b c d,false,v=>(match v with | .slice p a' b' c' d'=>bF (isId L q p) (a' = a∧b' = b∧c' = c∧d' = d) | _=>False)
  | .ro n l,false,v=>(match v with
    | .ro m u=>m = n∧u = l
    | .nils=>n = 0∧l = .nil
    | .gs p m sz=>bF (memP p F) (match h.t.get p with | some (.gl u _)=>m = n∧u = l∧m * sz = u.len∧PureL u | _=>False)
    | _=>False)
  | .gs q n sz,false,v=>(match v with
    | .gs p m sz'=>bF (isId L q p) (m = n∧sz' = sz)
    | .nils=>bF (isNo L q) (n = 0)
    | _=>False)
  | .sle q s,false,v=>(match v with | .sle p s'=>bF (isId L q p) (s' = s) | _=>False)
  | .nils,false,v=>(match v with | .nils=>True | _=>False)
  | .map q,false,v=>(match v with | .map p=>bF (isId L q p) True | _=>False)
  | .nilm,false,v=>(match v with | .nilm=>True | _=>False)
  | .func fn f c,false,v=>(match v with | .func gn g d=>gn = fn∧RelV h L F f true g∧RelV h L F c true d | _=>False)
  | .yield q,false,v=>(match v with | .yield p=>bF (isId L q p) True | _=>False)
  | .nilf,false,v=>(match v with | .nilf=>True | _=>False)
  | .iface t a,false,v=>(match v with | .iface u b=>u = t∧RelV h L F a false b | _=>False)
  | .nili,false,v=>(match v with | .nili=>True | _=>False)
  | .agg l,false,v=>(match v with | .agg m=>RelV h L F l true m | _=>False)
  | .tup l,false,v=>(match v with | .tup m=>RelV h L F l true m | _=>False)
def RelT (h : Heap) (L : RL) (F : List Pos) : Tr AV → Tr AV → Prop
  | .leaf,_=>True
  | .node l v r,t=>(match t with
    | .leaf=>False
    | .node l0 v0 r0=>RelT h L F l l0∧(match v,v0 with | none,_=>True | some a,some b=>RelV h L F a false b | some _,none=>False)∧RelT h L F r r0)
def PureM (l : List (AV × AV)) : Prop:=∀ x ∈ l,PureV x.1∧PureV x.2
theorem MR_pure {μ μ' : Mu} (hs : ∀ b c,μ.s b = some c → μ'.s b = some c) : ∀ {i : Nat} {l : List (AV × AV)} {es : List MapEntry},PureM l → MR μ i l es → MR μ' i l es
  | _,[],[],_,_=>trivial
  | _,x::l,e::es,hp,hm=>⟨(hp x (.head _)).1 μ μ' _ hs hm.1,(hp x (.head _)).2 μ μ' _ hs hm.2.1,hm.2.2.1,MR_pure hs (fun y hy=>hp y (.tail _ hy)) hm.2.2.2⟩
  | _,[],_::_,_,hm=>hm.elim
  | _,_::_,[],_,hm=>hm.elim
def RelO (h : Heap) (L : RL) (F : List Pos) : AO → AO → Prop
  | .cells t n ro,o=>(match o with | .cells t0 n0 ro0=>n0 = n∧ro0 = ro∧RelT h L F t t0 | _=>False)
  | .gl l ro,o=>(match o with | .gl l0 ro0=>l0 = l∧ro0 = ro∧PureL l | _=>False)
  | .mp l,o=>(match o with | .mp l0=>l0 = l∧PureM l | _=>False)
  | _,_=>False
def RelR (h : Heap) (L : RL) (F : List Pos) (r : Tr AV) : List (Nat × AV) → Prop
  | []=>True
  | (k,a)::R=>(match r.get (pathOf k) with | some b=>RelV h L F a false b | none=>(match a with | .undef=>False | _=>False))∧RelR h L F r R
def RelH (h : Heap) (L : RL) (F : List Pos) : List (Pos × AO) → Prop
  | []=>True
  | (q,o)::H=>(match look q L with
    | some (some p)=>(match h.t.get p with | some o0=>RelO h L F o o0 | none=>False)
    | some none=>(match o with | .gl .nil false=>True | _=>False)
    | none=>False)∧RelH h L F H
def keysOK (n : Pos) : RL → Bool
  | []=>true
  | (p,o)::l=>band (bnot (glb p)) (band (natLt p.toNat n.toNat) (band (match look p l with | none=>true | some _=>false) (band (keptOK p o) (keysOK n l))))
def oldsOK (F : List Pos) : RL → Bool
  | []=>true
  | (_,none)::l=>oldsOK F l
  | (_,some p)::l=>band (bnot (glb p)) (band (bnot (memP p F)) (band (l.all fun x=>match x.2 with | some q=>bnot (Pos.beq p q) | none=>true) (oldsOK F l)))
def regsT (R : List (Nat × AV)) : Tr AV:=R.foldr (fun x t=>Tr.set x.2 t (pathOf x.1)) .leaf
def heapT (H : List (Pos × AO)) : Tr AO:=H.foldr (fun x t=>Tr.set x.2 t x.1) .leaf
end
theorem beq_refl : ∀ (p : Pos),p.beq p = true
  | .e=>rfl
  | .o p=>beq_refl p
  | .i p=>beq_refl p
theorem look_mem {q : Pos} {o : Option Pos} : ∀ {L : RL},look q L = some o → (q,o) ∈ L
  | [],h=>by cases h
  | (p,o')::l,h=>by
    unfold look at h
    cases hb : Pos.beq q p with
    | true=>rw [hb] at h; cases h; rw [Pos.beq_eq _ _ hb]; simp
    | false=>rw [hb] at h; simp [look_mem h]
theorem memP_iff {q : Pos} : ∀ {F : List Pos},memP q F = true ↔ q ∈ F
  | []=>by simp [memP]
  | p::l=>by
    unfold memP
    cases hb : Pos.beq q p with
    | true=>simp [Pos.beq_eq _ _ hb]
    | false =>
      have hne : q ≠ p:=fun e=>by rw [e,beq_refl] at hb; cases hb
      simp only [List.mem_cons,hne,false_or]
      exact memP_iff
noncomputable def muL (μ : Mu) (L : RL) (s : Seals) : Mu:=⟨fun q=>if kept q = true then μ q else match look q L with | some (some p)=>μ p | some none=>some ⟨0,0,0⟩ | none=>none,s⟩
theorem isId_mu {μ : Mu} {L : RL} {s : Seals} {q p : Pos} (h : isId L q p = true) : (muL μ L s) q = μ p:=by
  unfold isId at h
  show (if kept q = true then μ q else match look q L with | some (some p)=>μ p | some none=>some ⟨0,0,0⟩ | none=>none) = μ p
  cases hg : kept q with
  | true=>rw [hg] at h; rw [if_pos rfl,Pos.beq_eq _ _ h]
  | false =>
    rw [hg] at h
    rw [if_neg (by simp)]
    simp only at h
    split at h
    · rename_i p' hp
      rw [hp,Pos.beq_eq _ _ h]
    · cases h
theorem isNo_mu {μ : Mu} {L : RL} {s : Seals} {q : Pos} (h : isNo L q = true) : (muL μ L s) q = some ⟨0,0,0⟩:=by
  unfold isNo at h
  show (if kept q = true then μ q else match look q L with | some (some p)=>μ p | some none=>some ⟨0,0,0⟩ | none=>none) = _
  cases hg : kept q with
  | true=>rw [hg] at h; cases h
  | false =>
    rw [hg] at h
    rw [if_neg (by simp)]
    simp only at h
    split at h
    · rename_i hp; rw [hp]
    · cases h
theorem bF_iff {b : Bool} {p : Prop} (h : bF b p) : b = true∧p:=boolF h
theorem RelV_sound {μ : Mu} {B0 : Nat} {h : Heap} {w : World} (hr : HR μ B0 h w) (L : RL) (F : List Pos) {a : AV} : ∀ {v : AV} {b : Bool} {vs : List Value},RelV h L F a b v → VR μ v b vs → VR (muL μ L (sealS μ h w F)) a b vs:=by
  have hp : μ.pure.le (muL μ L (sealS μ h w F)).pure:=⟨(fun _ _ e=>by cases e),(sealS_grow hr F).le⟩
  have hs:=(sealS_grow hr F).le
  induction a with
  | undef =>
    intro v b vs hrel hv
    cases b with
    | true=>exact hrel.elim
    | false =>
      cases v with
      | undef=>exact hv
      | nil=>exact hv.elim
      | cons _ _=>exact hv.elim
      | bool _=>exact ⟨_,hv⟩
      | int _ _=>exact ⟨_,hv⟩
      | rng _ _ _=>obtain ⟨n,e,_⟩:=hv; exact ⟨_,e⟩
      | str _=>obtain ⟨n,e,_⟩:=hv; exact ⟨_,e⟩
      | ustr _=>obtain ⟨n,e,_⟩:=hv; exact ⟨_,e⟩
      | ptr _ _=>obtain ⟨B,_,e⟩:=hv; exact ⟨_,e⟩
      | rop _ _=>obtain ⟨_,_,_,e,_⟩:=hv; exact ⟨_,e⟩
      | nilp=>exact ⟨_,hv⟩
      | slice _ _ _ _ _=>obtain ⟨_,_,_,e,_⟩:=hv; exact ⟨_,e⟩
      | ro _ _=>obtain ⟨_,_,⟨_,_,_,e,_⟩ | ⟨_,_,e⟩⟩:=hv <;> exact ⟨_,e⟩
      | gs _ _ _=>obtain ⟨_,_,⟨_,e,_⟩ | ⟨_,e⟩⟩:=hv <;> exact ⟨_,e⟩
      | sle _ _=>obtain ⟨_,_,_,_,e,_⟩:=hv; exact ⟨_,e⟩
      | nils=>exact ⟨_,hv⟩
      | map _=>obtain ⟨_,_,e⟩:=hv; exact ⟨_,e⟩
      | nilm=>exact ⟨_,hv⟩
      | func _ _ _=>obtain ⟨_,_,e,_⟩:=hv; exact ⟨_,e⟩
      | yield _=>obtain ⟨_,_,e⟩:=hv; exact ⟨_,e⟩
      | nilf=>exact ⟨_,hv⟩
      | iface _ _=>obtain ⟨_,e,_⟩:=hv; exact ⟨_,e⟩
      | nili=>exact ⟨_,hv⟩
      | agg _=>obtain ⟨_,e,_⟩:=hv; exact ⟨_,e⟩
      | tup _=>obtain ⟨_,e,_⟩:=hv; exact ⟨_,e⟩
  | cons x t ihx iht =>
    intro v b vs hrel hv
    cases b with
    | false=>exact hrel.elim
    | true =>
      cases v with
      | cons y u=>obtain ⟨cv,r,e,h1,h2⟩:=hv; exact ⟨cv,r,e,ihx hrel.1 h1,iht hrel.2 h2⟩
      | _=>exact hrel.elim
  | nil =>
    intro v b vs hrel hv
    cases b with
    | false=>exact hrel.elim
    | true=>cases v <;> first | exact hv | exact hrel.elim
  | bool x =>
    intro v b vs hrel hv
    cases b with
    | true=>exact hrel.elim
    | false=>cases v <;> first | exact hrel.elim | (cases hrel; exact hv)
  | int k n =>
    intro v b vs hrel hv
    cases b with
    | true=>exact hrel.elim
    | false =>
      cases v <;> first | exact hrel.elim | skip
      obtain ⟨h1,h2⟩:=bF_iff hrel
      rw [← keq_iff.1 h1,← h2]; exact hv
  | rng k n m =>
    intro v b vs hrel hv
    cases b with
    | true=>exact hrel.elim
    | false =>
      cases v <;> first | exact hrel.elim | skip
      obtain ⟨h1,h2,h3⟩:=bF_iff hrel
      rw [← keq_iff.1 h1,← h2,← h3]; exact hv
  | str x =>
    intro v b vs hrel hv
    cases b with
    | true=>exact hrel.elim
    | false=>cases v <;> first | exact hrel.elim | (cases hrel; exact hv)
  | ustr x =>
    intro v b vs hrel hv
    cases b with
    | true=>exact hrel.elim
    | false=>cases v <;> first | exact hrel.elim | (cases hrel; exact hv)
  | ptr q o =>
    intro v b vs hrel hv
    cases b with
    | true=>exact hrel.elim
    | false =>
      cases v <;> first | exact hrel.elim | skip
      obtain ⟨h1,h2⟩:=bF_iff hrel
      obtain ⟨B,hB,e⟩:=hv
      exact ⟨B,(isId_mu h1).trans hB,by rw [← h2]; exact e⟩
  | rop l k ih =>
    intro v b vs hrel hv
    cases b with
    | true=>exact hrel.elim
    | false =>
      cases v <;> first | exact hrel.elim | skip
      obtain ⟨rfl,rfl⟩:=hrel
      obtain ⟨bb,o,xs,e,h1,h2⟩:=hv
      exact ⟨bb,o,xs,e,h1.mono hp,h2.mono hs⟩
  | nilp=>intro v b vs hrel hv; cases b <;> cases v <;> first | exact hrel.elim | exact hv
  | slice q a1 a2 a3 a4 =>
    intro v b vs hrel hv
    cases b with
    | true=>exact hrel.elim
    | false =>
      cases v <;> first | exact hrel.elim | skip
      obtain ⟨h1,rfl,rfl,rfl,rfl⟩:=bF_iff hrel
      obtain ⟨B,c,hB,e⟩:=hv
      exact ⟨B,c,(isId_mu h1).trans hB,e⟩
  | ro n l ih =>
    intro v b vs hrel hv
    cases b with
    | true=>exact hrel.elim
    | false =>
      cases v <;> first | exact hrel.elim | skip
      · obtain ⟨rfl,rfl⟩:=hrel
        obtain ⟨xs,h1,h2⟩:=hv
        refine ⟨xs,h1.mono hp,?_⟩
        rcases h2 with ⟨b,o,c,e,hn,h3⟩ | h2
        · exact .inl ⟨b,o,c,e,hn,h3.mono hs⟩
        · exact .inr h2
      · rename_i p m sz
        obtain ⟨h1,h2⟩:=bF_iff hrel
        split at h2
        · rename_i u ro hg
          obtain ⟨rfl,rfl,h3,h4⟩:=h2
          obtain ⟨B,hB,hx⟩:=hv
          rcases hr.obj p B _ hB hg with ⟨g1,rfl⟩ | ⟨xs,g1,g2,c,el,fz,g3,g4,g5,g6,g7⟩
          · refine ⟨[],rfl,?_⟩
            rcases hx with ⟨c,hx,hnc,_⟩ | ⟨e0,hx⟩
            · exact .inl ⟨_,_,c,hx,hnc,.inl rfl⟩
            · exact .inr ⟨e0,rfl,hx⟩
          · refine ⟨xs,h4 μ _ xs hs g1,?_⟩
            rcases hx with ⟨c',hx,hnc,_⟩ | ⟨e0,hx⟩
            · refine .inl ⟨_,_,c',hx,hnc,?_⟩
              by_cases hin : (AO.gl u ro).inert B
              · obtain ⟨e1,_,e2⟩:=hin
                refine .inl ?_
                cases xs with
                | nil=>rfl
                | cons _ _=>simp at g2; omega
              · refine .inr ⟨c,?_,g7⟩
                show sealS μ h w F B.b = some c
                unfold sealS
                rw [if_pos ⟨p,memP_iff.1 h1,B,u,ro,hB,hg,hin,rfl⟩]
                exact snap_of g3
            · refine .inr ⟨e0,?_,hx⟩
              have:=g1.len
              rw [← h3,e0,Nat.zero_mul] at this
              cases xs with
              | nil=>rfl
              | cons _ _=>simp at this
        · exact h2.elim
      · obtain ⟨rfl,rfl⟩:=hrel
        exact ⟨[],rfl,.inr ⟨rfl,rfl,hv⟩⟩
  | gs q n sz =>
    intro v b vs hrel hv
    cases b with
    | true=>exact hrel.elim
    | false =>
      cases v <;> first | exact hrel.elim | skip
      · obtain ⟨h1,rfl,rfl⟩:=bF_iff hrel
        obtain ⟨B,hB,e⟩:=hv
        exact ⟨B,(isId_mu h1).trans hB,e⟩
      · obtain ⟨h1,rfl⟩:=bF_iff hrel
        exact ⟨_,isNo_mu h1,.inr ⟨rfl,hv⟩⟩
  | sle q sz =>
    intro v b vs hrel hv
    cases b with
    | true=>exact hrel.elim
    | false =>
      cases v <;> first | exact hrel.elim | skip
      obtain ⟨h1,rfl⟩:=bF_iff hrel
      obtain ⟨B,o,c,hB,e⟩:=hv
      exact ⟨B,o,c,(isId_mu h1).trans hB,e⟩
  | nils=>intro v b vs hrel hv; cases b <;> cases v <;> first | exact hrel.elim | exact hv
  | map q =>
    intro v b vs hrel hv
    cases b with
    | true=>exact hrel.elim
    | false =>
      cases v <;> first | exact hrel.elim | skip
      obtain ⟨h1,_⟩:=bF_iff hrel
      obtain ⟨B,hB,e⟩:=hv
      exact ⟨B,(isId_mu h1).trans hB,e⟩
  | nilm=>intro v b vs hrel hv; cases b <;> cases v <;> first | exact hrel.elim | exact hv
  | func fn f c ihf ihc =>
    intro v b vs hrel hv
    cases b with
    | true=>exact hrel.elim
    | false =>
      cases v <;> first | exact hrel.elim | skip
      obtain ⟨rfl,h1,h2⟩:=hrel
      obtain ⟨F',C',e,h0,h3,h4⟩:=hv
      exact ⟨F',C',e,h0,ihf h1 h3,ihc h2 h4⟩
  | yield q =>
    intro v b vs hrel hv
    cases b with
    | true=>exact hrel.elim
    | false =>
      cases v <;> first | exact hrel.elim | skip
      obtain ⟨h1,_⟩:=bF_iff hrel
      obtain ⟨B,hB,e⟩:=hv
      exact ⟨B,(isId_mu h1).trans hB,e⟩
  | nilf=>intro v b vs hrel hv; cases b <;> cases v <;> first | exact hrel.elim | exact hv
  | iface t x ih =>
    intro v b vs hrel hv
    cases b with
    | true=>exact hrel.elim
    | false =>
      cases v <;> first | exact hrel.elim | skip
      obtain ⟨rfl,h1⟩:=hrel
      obtain ⟨u,e,h2⟩:=hv
      exact ⟨u,e,ih h1 h2⟩
  | nili=>intro v b vs hrel hv; cases b <;> cases v <;> first | exact hrel.elim | exact hv
  | agg l ih =>
    intro v b vs hrel hv
    cases b with
    | true=>exact hrel.elim
    | false =>
      cases v <;> first | exact hrel.elim | skip
      obtain ⟨u,e,h2⟩:=hv
      exact ⟨u,e,ih hrel h2⟩
  | tup l ih =>
    intro v b vs hrel hv
    cases b with
    | true=>exact hrel.elim
    | false =>
      cases v <;> first | exact hrel.elim | skip
      obtain ⟨u,e,h2⟩:=hv
      exact ⟨u,e,ih hrel h2⟩
theorem regsT_get {k : Nat} {a : AV} : ∀ {R : List (Nat × AV)},(regsT R).get (pathOf k) = some a → (k,a) ∈ R
  | [],h=>by cases h
  | (j,b)::R,h=>by
    change (Tr.set b (regsT R) (pathOf j)).get (pathOf k) = some a at h
    rw [Tr.get_set] at h
    by_cases e : pathOf k = pathOf j
    · rw [if_pos e] at h; cases h; rw [pathOf_inj e]; simp
    · rw [if_neg e] at h; simp [regsT_get h]
theorem heapT_get {q : Pos} {o : AO} : ∀ {H : List (Pos × AO)},(heapT H).get q = some o → (q,o) ∈ H
  | [],h=>by cases h
  | (p,b)::H,h=>by
    change (Tr.set b (heapT H) p).get q = some o at h
    rw [Tr.get_set] at h
    by_cases e : q = p
    · rw [if_pos e] at h; cases h; rw [e]; simp
    · rw [if_neg e] at h; simp [heapT_get h]
theorem RelR_get {h : Heap} {L : RL} {F : List Pos} {r : Tr AV} {k : Nat} {a : AV} : ∀ {R : List (Nat × AV)},RelR h L F r R → (k,a) ∈ R → ∃ b,r.get (pathOf k) = some b∧RelV h L F a false b
  | [],_,hm=>by cases hm
  | (j,c)::R,hr,hm=>by
    rcases List.mem_cons.1 hm with e | e
    · cases e
      have h1:=hr.1
      split at h1
      · rename_i b hb; exact ⟨b,hb,h1⟩
      · exfalso
        split at h1 <;> exact h1
    · exact RelR_get hr.2 e
theorem RelH_get {h : Heap} {L : RL} {F : List Pos} {q : Pos} {o : AO} : ∀ {H : List (Pos × AO)},RelH h L F H → (q,o) ∈ H → (∃ p o0,look q L = some (some p)∧h.t.get p = some o0∧RelO h L F o o0) ∨ (look q L = some none∧o = .gl .nil false)
  | [],_,hm=>by cases hm
  | (j,c)::H,hr,hm=>by
    rcases List.mem_cons.1 hm with e | e
    · cases e
      have h1:=hr.1
      split at h1
      · rename_i p hp
        split at h1
        · rename_i o0 ho; exact .inl ⟨p,o0,hp,ho,h1⟩
        · exact h1.elim
      · rename_i hp
        refine .inr ⟨hp,?_⟩
        split at h1
        · rfl
        · exact h1.elim
      · exact h1.elim
    · exact RelH_get hr.2 e
theorem keysOK_mem {n : Pos} {q : Pos} {o : Option Pos} : ∀ {L : RL},keysOK n L = true → (q,o) ∈ L → glb q = false∧q.toNat < n.toNat∧keptOK q o = true
  | [],_,hm=>by cases hm
  | (p,o')::l,h,hm=>by
    obtain ⟨a1,b1⟩:=band_iff.1 h
    obtain ⟨a2,b2⟩:=band_iff.1 b1
    obtain ⟨a3,b3⟩:=band_iff.1 b2
    obtain ⟨a4,b4⟩:=band_iff.1 b3
    clear h b1 b2 b3
    rcases List.mem_cons.1 hm with e | e
    · cases e
      rw [bnot_eq] at a1
      exact ⟨by simpa using a1,natLt_iff.1 a2,a4⟩
    · exact keysOK_mem b4 e
theorem keptOK_eq {q : Pos} {o : Option Pos} (h : keptOK q o = true) (hk : kept q = true) : o = some q:=by
  unfold keptOK at h
  rw [hk] at h
  simp only at h
  split at h
  · rw [Pos.beq_eq _ _ h]
  · cases h
theorem oldsOK_mem {F : List Pos} {q p : Pos} : ∀ {L : RL},oldsOK F L = true → (q,some p) ∈ L → glb p = false∧p ∉ F
  | [],_,hm=>by cases hm
  | (j,none)::l,h,hm=>by
    rcases List.mem_cons.1 hm with e | e
    · cases e
    · exact oldsOK_mem (L:=l) h e
  | (j,some p')::l,h,hm=>by
    obtain ⟨h1,h2⟩:=band_iff.1 h
    obtain ⟨h2,h3⟩:=band_iff.1 h2
    obtain ⟨h3,h4⟩:=band_iff.1 h3
    rcases List.mem_cons.1 hm with e | e
    · cases e
      rw [bnot_eq] at h1 h2
      refine ⟨by simpa using h1,fun hf=>?_⟩
      rw [memP_iff.2 hf] at h2; cases h2
    · exact oldsOK_mem h4 e
theorem look_inj {F : List Pos} {n : Pos} {i j p : Pos} : ∀ {L : RL},keysOK n L = true → oldsOK F L = true → look i L = some (some p) → look j L = some (some p) → i = j
  | [],_,_,h,_=>by cases h
  | (k,o)::l,hk,ho,h1,h2=>by
    obtain ⟨_,g2⟩:=band_iff.1 hk
    obtain ⟨_,g3⟩:=band_iff.1 g2
    obtain ⟨_,g4⟩:=band_iff.1 g3
    obtain ⟨_,g4⟩:=band_iff.1 g4
    have ho' : oldsOK F l = true:=by
      cases o with
      | none=>exact ho
      | some p'=>exact (band_iff.1 (band_iff.1 (band_iff.1 ho).2).2).2
    unfold look at h1 h2
    have clash : ∀ {x : Pos},o = some p → look x l = some (some p) → False:=by
      intro x e hx
      subst e
      have h3:=(band_iff.1 (band_iff.1 (band_iff.1 ho).2).2).1
      have:=List.all_eq_true.1 h3 _ (look_mem hx)
      simp only [beq_refl] at this
      cases this
    cases hi : Pos.beq i k with
    | true =>
      rw [hi] at h1
      cases hj : Pos.beq j k with
      | true=>rw [Pos.beq_eq _ _ hi,Pos.beq_eq _ _ hj]
      | false=>rw [hj] at h2; exact (clash (Option.some.inj h1) h2).elim
    | false =>
      rw [hi] at h1
      cases hj : Pos.beq j k with
      | true=>rw [hj] at h2; exact (clash (Option.some.inj h2) h1).elim
      | false=>rw [hj] at h2; exact look_inj g4 ho' h1 h2
def muO (μ : Mu) : Option Pos → Option Blk
  | some p=>μ p
  | none=>some ⟨0,0,0⟩
theorem muL_look {μ : Mu} {L : RL} {s : Seals} {q : Pos} {o : Option Pos} (hg : keptOK q o = true) (hl : look q L = some o) : (muL μ L s) q = muO μ o:=by
  show (if kept q = true then μ q else match look q L with | some (some p)=>μ p | some none=>some ⟨0,0,0⟩ | none=>none) = _
  cases hq : kept q with
  | true=>rw [if_pos rfl,keptOK_eq hg hq]; rfl
  | false =>
    rw [if_neg (by simp),hl]
    cases o <;> rfl
theorem DR_nil {μ μ' : Mu} {ds : List Deferred} (h : DR μ [] ds) : DR μ' [] ds:=by
  cases ds with
  | nil=>trivial
  | cons _ _=>exact h.elim
theorem RelT_get {h : Heap} {L : RL} {F : List Pos} : ∀ {t t0 : Tr AV} {q : Pos} {a : AV},RelT h L F t t0 → t.get q = some a → ∃ b,t0.get q = some b∧RelV h L F a false b
  | .leaf,t0,q,a,_,hg=>by cases hg
  | .node l v r,t0,q,a,hr,hg=>by
    cases t0 with
    | leaf=>exact hr.elim
    | node l0 v0 r0 =>
      obtain ⟨h1,h2,h3⟩:=hr
      cases q with
      | e =>
        change v = some a at hg
        subst hg
        cases v0 with
        | none=>exact h2.elim
        | some b=>exact ⟨b,rfl,h2⟩
      | o q=>exact RelT_get (q:=q) h1 hg
      | i q=>exact RelT_get (q:=q) h3 hg
theorem RelO_ro {h : Heap} {L : RL} {F : List Pos} {o o0 : AO} (hr : RelO h L F o o0) : o.isRo = o0.isRo∧∀ B,o0.inert B → o.inert B:=by
  cases o with
  | cells t n ro =>
    cases o0 <;> first | exact hr.elim | skip
    obtain ⟨rfl,rfl,_⟩:=hr
    exact ⟨rfl,fun B hi=>absurd hi not_inert_cells⟩
  | gl l ro =>
    cases o0 <;> first | exact hr.elim | skip
    obtain ⟨rfl,rfl,_⟩:=hr
    exact ⟨rfl,fun B hi=>hi⟩
  | mp l =>
    cases o0 <;> first | exact hr.elim | skip
    obtain ⟨rfl,_⟩:=hr
    exact ⟨rfl,fun B hi=>hi⟩
  | _=>exact hr.elim
theorem Sub.of {B0 nt : Nat} {r : Tr AV} {h : Heap} (L : RL) (F : List Pos) {R : List (Nat × AV)} {H : List (Pos × AO)} {n' : Pos} (hk : keysOK n' L = true) (ho : oldsOK F L = true) (hn : natLt (Nat.add 63 Tabs.k) n'.toNat = true) (hR : RelR h L F r R) (hH : RelH h L F H) :
    Sub B0 nt r [] h (regsT R) [] ⟨heapT H,n'⟩:=by
  intro μ w a hr har
  have hn:=natLt_iff.1 hn
  change 63 + Tabs.k < n'.toNat at hn
  have glb_lt : ∀ {q : Pos},kept q = true → q.toNat < 64 + Tabs.k:=fun hg=>natLt_iff.1 hg
  have key : ∀ q o,(heapT H).get q = some o → (∀ x,look q L = some x → keptOK q x = true)∧q.toNat < n'.toNat∧((∃ p o0,look q L = some (some p)∧h.t.get p = some o0∧RelO h L F o o0∧p ∉ F) ∨ (look q L = some none∧o = .gl .nil false)):=by
    intro q o e
    rcases RelH_get hH (heapT_get e) with ⟨p,o0,h1,h2,h3⟩ | ⟨h1,h2⟩
    · obtain ⟨_,g2,g1⟩:=keysOK_mem hk (look_mem h1)
      exact ⟨fun x hx=>by rw [h1] at hx; cases hx; exact g1,g2,.inl ⟨p,o0,h1,h2,h3,(oldsOK_mem ho (look_mem h1)).2⟩⟩
    · obtain ⟨_,g2,g1⟩:=keysOK_mem hk (look_mem h1)
      exact ⟨fun x hx=>by rw [h1] at hx; cases hx; exact g1,g2,.inr ⟨h1,h2⟩⟩
  have old : ∀ q o B,(muL μ L (sealS μ h w F)) q = some B → (heapT H).get q = some o → (∃ p o0,look q L = some (some p)∧μ p = some B∧h.t.get p = some o0∧RelO h L F o o0∧p ∉ F) ∨ o.inert B:=by
    intro q o B e1 e2
    obtain ⟨g1,g2,⟨p,o0,h1,h2,h3,h4⟩ | ⟨h1,rfl⟩⟩:=key q o e2
    · rw [muL_look (g1 _ h1) h1] at e1
      exact .inl ⟨p,o0,h1,e1,h2,h3,h4⟩
    · rw [muL_look (g1 _ h1) h1] at e1
      have e1 : some (⟨0,0,0⟩ : Blk) = some B:=e1
      cases e1
      exact .inr ⟨rfl,_,rfl⟩
  refine ⟨muL μ L (sealS μ h w F),⟨sealS_grow hr F,fun _=>⟨fun q hq=>if_pos hq,by show 64 + Tabs.k ≤ n'.toNat; omega⟩⟩,⟨?_,?_,?_,?_,?_,?_,hr.size,sealS_ok hr F,?_,hr.tab.mono (sealS_grow hr F).le⟩,⟨?_,har.size,DR_nil har.dr⟩⟩
  · intro q B e
    cases hg : kept q with
    | true=>have:=glb_lt hg; show q.toNat < n'.toNat; omega
    | false =>
      change (if kept q = true then μ q else match look q L with | some (some p)=>μ p | some none=>some ⟨0,0,0⟩ | none=>none) = some B at e
      rw [hg,if_neg (by simp)] at e
      cases hl : look q L with
      | none=>rw [hl] at e; cases e
      | some o=>exact (keysOK_mem hk (look_mem hl)).2.1
  · intro q o e; exact (key q o e).2.1
  · intro q B o e1 e2
    rcases old q o B e1 e2 with ⟨p,o0,h1,h2,h3,h4,h5⟩ | hi
    · have hob:=hr.obj p B o0 h2 h3
      cases o with
      | cells t n ro =>
        cases o0 <;> first | exact h4.elim | skip
        obtain ⟨rfl,rfl,hT⟩:=h4
        obtain ⟨k0,c,el,fz,k1,k2,k3,k4⟩:=hob
        refine ⟨k0,c,el,fz,k1,k2,k3,fun k v hv=>?_⟩
        obtain ⟨b,hb,hrel⟩:=RelT_get hT hv
        obtain ⟨m1,cv,m2,m3⟩:=k4 k b hb
        exact ⟨m1,cv,m2,RelV_sound hr L F hrel m3⟩
      | gl l ro =>
        cases o0 <;> first | exact h4.elim | skip
        obtain ⟨rfl,rfl,hpl⟩:=h4
        rcases hob with hob | ⟨xs,g1,g2,c,el,fz,g3,g4,g5,g6,g7⟩
        · exact .inl hob
        · exact .inr ⟨xs,hpl μ _ xs (sealS_grow hr F).le g1,g2,c,el,fz,g3,g4,g5,fun e=>(sealS_grow hr F).le _ _ (g6 e),g7⟩
      | mp l =>
        cases o0 <;> first | exact h4.elim | skip
        obtain ⟨rfl,hpm⟩:=h4
        obtain ⟨es,g1,g2⟩:=hob
        exact ⟨es,g1,MR_pure (sealS_grow hr F).le hpm g2⟩
      | _=>exact h4.elim
    · obtain ⟨g1,ro,rfl⟩:=hi
      exact .inl ⟨g1,rfl⟩
  · intro i j A B o p hij e1 e2 e3 e4
    rcases old i o A e1 e3 with ⟨p1,o1,h1,h2,h3,h4,h5⟩ | hi
    · rcases old j p B e2 e4 with ⟨p2,o2,k1,k2,k3,k4,k5⟩ | hi
      · have hne : p1 ≠ p2:=fun e=>by subst e; exact hij (look_inj hk ho h1 k1)
        rcases hr.sep p1 p2 A B o1 o2 hne h2 k2 h3 k3 with g | g | g
        · exact .inl g
        · exact .inr (.inl ((RelO_ro h4).2 _ g))
        · exact .inr (.inr ((RelO_ro k4).2 _ g))
      · exact .inr (.inr hi)
    · exact .inr (.inl hi)
  · intro q B o e1 e2 e3
    rcases old q o B e1 e2 with ⟨p,o0,h1,h2,h3,h4,h5⟩ | hi
    · rcases hr.own p B o0 h2 h3 ((RelO_ro h4).1.symm.trans e3) with g | g
      · exact .inl ((RelO_ro h4).2 _ g)
      · exact .inr g
    · exact .inl hi
  · intro g hg
    obtain ⟨n,e⟩:=hr.glob g hg
    refine ⟨n,?_⟩
    show (if kept (pathOf g) = true then μ (pathOf g) else _) = _
    rw [if_pos (by unfold kept; rw [toNat_pathOf]; exact natLt_iff.2 (show g < 64 + Tabs.k by omega))]
    exact e
  · intro q B o e1 e2 e3
    rcases old q o B e1 e2 with ⟨p,o0,h1,h2,h3,h4,h5⟩ | hi
    · rcases hr.apart p B o0 h2 h3 ((RelO_ro h4).1.symm.trans e3) with g | g
      · exact .inl ((RelO_ro h4).2 _ g)
      · by_cases hin : o0.inert B
        · exact .inl ((RelO_ro h4).2 _ hin)
        · refine .inr ?_
          show sealS μ h w F B.b = none
          unfold sealS
          rw [if_neg]
          · exact g
          · rintro ⟨id,hid,B2,l2,ro2,m1,m2,m3,m4⟩
            have hne : p ≠ id:=fun e=>by subst e; exact h5 hid
            rcases hr.sep p id B B2 o0 _ hne h2 m1 h3 m2 with k | k | k
            · exact k m4.symm
            · exact hin k
            · exact m3 k
    · exact .inl hi
  · intro k v hv
    obtain ⟨b,hb,hrel⟩:=RelR_get hR (regsT_get hv)
    obtain ⟨cv,h1,h2⟩:=har.rr k b hb
    exact ⟨cv,h1,RelV_sound hr L F hrel h2⟩
end Go.Sy
namespace Go.Sy
set_option linter.unusedVariables false
set_option linter.unusedSectionVars false
section
variable [Tabs]
noncomputable section
def catL (l : List AV) (t : AV) : AV:=l.foldr AV.cons t
end
theorem PureV_of_DP : ∀ {a : AV},DP a → PureV a:=fun hd μ μ' cv hs hv=>DP.pure hs hd hv
theorem catL_inj : ∀ {l m : List AV} {t u : AV},l.length = m.length → catL l t = catL m u → l = m∧t = u
  | [],[],t,u,_,h=>⟨rfl,h⟩
  | [],_::_,_,_,hl,_=>by cases hl
  | _::_,[],_,_,hl,_=>by cases hl
  | a::l,b::m,t,u,hl,h=>by
    injection h with h1 h2
    obtain ⟨h3,h4⟩:=catL_inj (by simpa using hl) h2
    exact ⟨by rw [h1,h3],h4⟩
structure Enc (α : Type) where
  sz : Nat
  agg : Bool
  cs : α → List AV
  len : ∀ x,(cs x).length = sz
  pos : 0 < sz
  wf : agg = true ∨ sz = 1
  cell : ∀ x,∀ a ∈ cs x,a.isCell = true
  dp : ∀ x,∀ a ∈ cs x,DP a
  inj : ∀ x y,cs x = cs y → x = y
namespace Enc
variable {α β : Type} (E : Enc α)
noncomputable section
def c (x : α) (t : AV) : AV:=catL (E.cs x) t
def v (x : α) : AV:=match E.agg with | true=>.agg (E.c x .nil) | false=>(match E.cs x with | a::_=>a | []=>.undef)
def l (xs : List α) : AV:=xs.foldr E.c .nil
def s (xs : List α) : AV:=.ro xs.length (E.l xs)
end
theorem PureL_cat : ∀ {l : List AV} {t : AV},(∀ a ∈ l,DP a) → PureL t → PureL (catL l t)
  | [],_,_,h=>h
  | a::l,t,hl,h=>.cons (PureV_of_DP (hl a (by simp))) (PureL_cat (fun b hb=>hl b (by simp [hb])) h)
theorem DP_cat : ∀ {l : List AV} {t : AV},(∀ a ∈ l,DP a) → DP t → DP (catL l t)
  | [],_,_,h=>h
  | a::l,t,hl,h=>⟨hl a (by simp),DP_cat (fun b hb=>hl b (by simp [hb])) h⟩
theorem pureL : ∀ (xs : List α),PureL (E.l xs)
  | []=>.nil
  | x::xs=>PureL_cat (E.dp x) (pureL xs)
theorem dpS (xs : List α) : DP (E.s xs):=E.pureL xs
theorem ne_nil (x : α) : E.cs x ≠ []:=fun h=>by
  have h1:=E.len x
  have h2:=E.pos
  rw [h] at h1
  simp at h1
  omega
theorem dpV (x : α) : DP (E.v x):=by
  unfold v
  split
  · exact DP_cat (E.dp x) trivial
  · split
    · rename_i a l h; exact E.dp x a (by rw [h]; simp)
    · rename_i h; exact absurd h (E.ne_nil x)
theorem pureV (x : α) : PureV (E.v x):=PureV_of_DP (E.dpV x)
theorem v_inj {x y : α} (h : E.v x = E.v y) : x = y:=by
  have h1:=E.wf
  unfold v at h
  apply E.inj
  cases ha : E.agg with
  | true =>
    rw [ha] at h
    injection h with h
    exact (catL_inj (by rw [E.len,E.len]) h).1
  | false =>
    rw [ha] at h
    have h1 : E.sz = 1:=h1.resolve_left (by rw [ha]; simp)
    have hx:=E.len x
    have hy:=E.len y
    rw [h1] at hx hy
    obtain ⟨a,ea⟩:=List.length_eq_one_iff.1 hx
    obtain ⟨b,eb⟩:=List.length_eq_one_iff.1 hy
    rw [ea,eb] at h ⊢
    simp only at h
    rw [h]
theorem l_inj : ∀ {xs ys : List α},E.l xs = E.l ys → xs = ys
  | [],[],_=>rfl
  | [],y::ys,h=>by
    exfalso
    change AV.nil = catL (E.cs y) (E.l ys) at h
    cases he : E.cs y with
    | nil=>exact E.ne_nil y he
    | cons a l=>rw [he] at h; cases h
  | x::xs,[],h=>by
    exfalso
    change catL (E.cs x) (E.l xs) = AV.nil at h
    cases he : E.cs x with
    | nil=>exact E.ne_nil x he
    | cons a l=>rw [he] at h; cases h
  | x::xs,y::ys,h=>by
    obtain ⟨h1,h2⟩:=catL_inj (by rw [E.len,E.len]) (h : catL (E.cs x) (E.l xs) = catL (E.cs y) (E.l ys))
    rw [E.inj x y h1,l_inj h2]
theorem dropL_cat : ∀ {l : List AV} {t : AV} {n : Nat},dropL (l.length + n) (catL l t) = dropL n t
  | [],t,n=>by simp [catL]
  | a::l,t,n=>by
    rw [show (a::l).length + n = (l.length + n) + 1 by simp; omega]
    exact dropL_cat (l:=l)
theorem dropL_at : ∀ {xs : List α} {i : Nat} (hi : i < xs.length) (k : Nat),dropL (Nat.add (Nat.mul i E.sz) k) (E.l xs) = dropL k (E.c xs[i] (E.l (xs.drop (i + 1))))
  | x::xs,0,hi,k=>by
    rw [show Nat.add (Nat.mul 0 E.sz) k = k by simp]
    rfl
  | x::xs,i + 1,hi,k=>by
    rw [show Nat.add (Nat.mul (i + 1) E.sz) k = (E.cs x).length + Nat.add (Nat.mul i E.sz) k by rw [E.len]; simp [Nat.add_mul]; omega]
    exact dropL_cat.trans (dropL_at (xs:=xs) (i:=i) (by simpa using hi) k)
theorem dropL_at0 {xs : List α} {i : Nat} (hi : i < xs.length) : dropL (Nat.mul i E.sz) (E.l xs) = E.c xs[i] (E.l (xs.drop (i + 1))):=E.dropL_at hi 0
theorem takeL_cat : ∀ {l : List AV} {t : AV} {n : Nat} {r : AV},takeL n t = some r → takeL (l.length + n) (catL l t) = some (catL l r)
  | [],t,n,r,h=>by simpa [catL] using h
  | a::l,t,n,r,h=>by
    rw [show (a::l).length + n = (l.length + n) + 1 by simp; omega]
    show Option.casesOn (motive:=fun _=>Option AV) (takeL (l.length + n) (catL l t)) none (fun l=>some (.cons a l)) = _
    rw [takeL_cat h]
    rfl
theorem takeL_l : ∀ {xs : List α} {i : Nat},i ≤ xs.length → takeL (Nat.mul i E.sz) (E.l xs) = some (E.l (xs.take i))
  | xs,0,hi=>by simp [takeL]; rfl
  | x::xs,i + 1,hi=>by
    rw [show Nat.mul (i + 1) E.sz = (E.cs x).length + Nat.mul i E.sz by rw [E.len]; simp [Nat.add_mul]; omega]
    exact takeL_cat (takeL_l (xs:=xs) (i:=i) (by simpa using hi))
theorem len_cat : ∀ {l : List AV} {t : AV},(catL l t).len = l.length + t.len
  | [],t=>by simp [catL]
  | a::l,t=>by
    show Nat.succ (catL l t).len = _
    rw [len_cat]
    simp; omega
theorem len_l : ∀ (xs : List α),(E.l xs).len = xs.length * E.sz
  | []=>by simp [l]; rfl
  | x::xs=>by
    show (catL (E.cs x) (E.l xs)).len = _
    rw [len_cat,len_l xs,E.len]
    simp [Nat.add_mul]; omega
theorem app_cat : ∀ {l : List AV} {t u : AV},app (catL l t) u = catL l (app t u)
  | [],t,u=>rfl
  | a::l,t,u=>by
    show AV.cons a (app (catL l t) u) = _
    rw [app_cat]; rfl
theorem reps_l (x : α) : ∀ n,reps n (E.c x .nil) = E.l (List.replicate n x)
  | 0=>rfl
  | n + 1=>by
    show app (E.c x .nil) (reps n (E.c x .nil)) = _
    rw [reps_l x n]
    exact app_cat
theorem splice_zero : ∀ {l m : List AV} {t : AV},l.length = m.length → splice 0 (catL l t) (catL m .nil) = catL m t
  | [],[],t,_=>rfl
  | [],_::_,_,h=>by cases h
  | _::_,[],_,h=>by cases h
  | a::l,b::m,t,h=>by
    show AV.cons b (splice 0 (catL l t) (catL m .nil)) = _
    rw [splice_zero (by simpa using h)]
    rfl
theorem splice_cat : ∀ {l : List AV} {t p : AV} {n : Nat},splice (l.length + n) (catL l t) p = catL l (splice n t p)
  | [],t,p,n=>by simp [catL]
  | a::l,t,p,n=>by
    rw [show (a::l).length + n = (l.length + n) + 1 by simp; omega]
    show AV.cons a (splice (l.length + n) (catL l t) p) = _
    rw [splice_cat]
    rfl
theorem splice_l : ∀ {xs : List α} {i : Nat} (x : α),i < xs.length → splice (Nat.mul i E.sz) (E.l xs) (E.c x .nil) = E.l (xs.set i x)
  | y::xs,0,x,hi=>by
    rw [show Nat.mul 0 E.sz = 0 by simp]
    exact splice_zero (by rw [E.len,E.len])
  | y::xs,i + 1,x,hi=>by
    rw [show Nat.mul (i + 1) E.sz = (E.cs y).length + Nat.mul i E.sz by rw [E.len]; simp [Nat.add_mul]; omega]
    exact splice_cat.trans (congrArg (catL (E.cs y)) (splice_l (xs:=xs) (i:=i) x (by simpa using hi)))
theorem takeL_c (x : α) (t : AV) : takeL E.sz (E.c x t) = some (E.c x .nil):=by
  have:=takeL_cat (l:=E.cs x) (t:=t) (n:=0) (r:=.nil) rfl
  rwa [E.len,Nat.add_zero] at this
theorem rd {P : Program} {t : TypeId} (ht : tload P t = some (match E.agg with | true=>some E.sz | false=>none)) {xs : List α} {i : Nat} (hi : i < xs.length) : rdCells P t (dropL (Nat.mul i E.sz) (E.l xs)) = some (E.v xs[i]):=by
  rw [E.dropL_at0 hi]
  unfold rdCells
  rw [ht]
  unfold v
  cases E.agg with
  | true=>simp only [E.takeL_c,Option.map_some]
  | false =>
    simp only
    show (match E.c xs[i] _ with | .cons a _=>some a | _=>none) = _
    cases he : E.cs xs[i] with
    | nil=>exact absurd he (E.ne_nil _)
    | cons a l=>unfold c; rw [he]; rfl
theorem st {xs : List α} {i : Nat} (x : α) (hi : i < xs.length) {K : AV → Prop} (hk : K (E.l (xs.set i x))) : StP (Nat.mul i E.sz) E.sz (E.l xs) (E.c x .nil) K:=by
  refine ⟨?_,by rw [E.splice_l x hi]; exact hk⟩
  rw [E.len_l]
  show i * E.sz + E.sz ≤ _
  rw [← Nat.succ_mul]
  exact Nat.mul_le_mul_right _ hi
theorem mk' {x : α} {ln cp : Int} {by_ : Nat} (n m : Nat) (e1 : ln = (n : Int)) (e2 : cp = (m : Int)) (hle : n ≤ m) (hf : m * (by_ + 1) ≤ 1099511627776) {K : Nat → AV → Prop} (hk : K n (E.l (List.replicate n x))) : MkP ln cp by_ (E.c x .nil) K:=by
  subst e1 e2
  refine ⟨by omega,by omega,?_,?_⟩
  · rw [← Int.natCast_mul]; omega
  · show K n (reps n (E.c x .nil))
    rw [E.reps_l]
    exact hk
theorem give {h : Heap} {id : Pos} {n : Nat} {ro : Bool} {xs ys : List α} (hg : h.t.get id = some (.gl (E.l xs) ro)) (e : xs = ys) (hn : n = ys.length) : SealV h (.gs id n E.sz) (E.s ys):=by
  subst e hn
  exact SealV.gs hg (E.len_l xs) (SealL.pure (E.pureL xs))
end Enc
theorem IdxP.go {z : Int} {n : Nat} {K : Nat → Prop} (i : Nat) (e : z = (i : Int)) (hi : i < n) (hk : K i) : IdxP z n K:=by
  subst e
  exact ⟨by omega,by omega,hk⟩
theorem BndP.go {z : Int} {n : Nat} {K : Nat → Prop} (i : Nat) (e : z = (i : Int)) (hi : i ≤ n) (hk : K i) : BndP z n K:=by
  subst e
  exact ⟨by omega,by omega,hk⟩
def Enc.one {α : Type} (f : α → AV) (hc : ∀ x,(f x).isCell = true) (hd : ∀ x,DP (f x)) (hi : ∀ x y,f x = f y → x = y) : Enc α where
  sz:=1
  agg:=false
  cs:=fun x=>[f x]
  len:=fun _=>rfl
  pos:=by decide
  wf:=.inr rfl
  cell:=fun x a h=>by rw [List.mem_singleton.1 h]; exact hc x
  dp:=fun x a h=>by rw [List.mem_singleton.1 h]; exact hd x
  inj:=fun x y h=>by injection h with h; exact hi x y h
def eInt (k : IntKind) : Enc Int:=.one (.int k) (fun _=>rfl) (fun _=>trivial) (fun x y h=>by injection h)
def eBool : Enc Bool:=.one .bool (fun _=>rfl) (fun _=>trivial) (fun x y h=>by injection h)
def eStr : Enc (List Nat):=.one .str (fun _=>rfl) (fun _=>trivial) (fun x y h=>by injection h)
def Enc.list {α : Type} (E : Enc α) : Enc (List α):=.one E.s (fun _=>rfl) E.dpS (fun x y h=>E.l_inj (by injection h))
def Enc.pair {α β : Type} (A : Enc α) (B : Enc β) : Enc (α × β):=⟨A.sz + B.sz,true,fun x=>A.cs x.1++B.cs x.2,fun x=>by rw [List.length_append,A.len,B.len],by have:=A.pos; omega,.inl rfl,
  fun x a h=>(List.mem_append.1 h).elim (A.cell _ a) (B.cell _ a),fun x a h=>(List.mem_append.1 h).elim (A.dp _ a) (B.dp _ a),
  fun x y h=>by
    obtain ⟨h1,h2⟩:=List.append_inj h (by rw [A.len,A.len])
    exact Prod.ext (A.inj _ _ h1) (B.inj _ _ h2)⟩
def Enc.by {α β : Type} (E : Enc α) (f : β → α) (hf : ∀ x y,f x = f y → x = y) : Enc β:=⟨E.sz,E.agg,fun x=>E.cs (f x),fun x=>E.len _,E.pos,E.wf,fun x=>E.cell _,fun x=>E.dp _,fun x y h=>hf _ _ (E.inj _ _ h)⟩
def Enc.struct {α : Type} (E : Enc α) : Enc α:={ E with agg:=true,wf:=.inl rfl }
end
end Go.Sy
namespace Go.Sy
set_option linter.unusedVariables false
set_option linter.unusedSectionVars false
abbrev tb0 : Tabs:=⟨[],0⟩
attribute [local instance] tb0
theorem ilt_iff {x y : Int} : ilt x y = true ↔ x < y:=by rw [ilt_dec]; simp
theorem ilt_no {x y : Int} : ilt x y = false ↔ y ≤ x:=by rw [ilt_dec]; simp
theorem ile_iff {x y : Int} : ile x y = true ↔ x ≤ y:=by rw [ile_dec]; simp
theorem ile_no {x y : Int} : ile x y = false ↔ y < x:=by rw [ile_dec]; simp
theorem ieq_iff {x y : Int} : ieq x y = true ↔ x = y:=by rw [ieq_dec]; simp
theorem ieq_no {x y : Int} : ieq x y = false ↔ x ≠ y:=by rw [ieq_dec]; simp
theorem bnot_yes {b : Bool} : bnot b = true ↔ b = false:=by cases b <;> simp [bnot]
theorem bnot_no {b : Bool} : bnot b = false ↔ b = true:=by cases b <;> simp [bnot]
theorem ine_iff {x y : Int} : bnot (ieq x y) = true ↔ x ≠ y:=by rw [bnot_yes,ieq_no]
theorem ine_no {x y : Int} : bnot (ieq x y) = false ↔ x = y:=by rw [bnot_no,ieq_iff]
theorem iwrap_of {k : IntKind} {n : Int} (h1 : -(kneg k : Int) ≤ n) (h2 : n < (ktop k : Int)) : iwrap k n = n:=by
  unfold iwrap
  rw [fits_iff.2 ⟨h1,h2⟩]
theorem iwrap_i64 {n : Int} (h1 : -9223372036854775808 ≤ n) (h2 : n < 9223372036854775808) : iwrap .i64 n = n:=iwrap_of h1 h2
theorem iwrap_u64 {n : Int} (h1 : 0 ≤ n) (h2 : n < 18446744073709551616) : iwrap .u64 n = n:=iwrap_of (by simpa [kneg] using h1) h2
theorem iwrap_u32 {n : Int} (h1 : 0 ≤ n) (h2 : n < 4294967296) : iwrap .u32 n = n:=iwrap_of (by simpa [kneg] using h1) h2
theorem wrap_u32 (n : Int) : iwrap .u32 n = n % 4294967296:=by
  rw [iwrap_eq]; simp [IntKind.wrap,IntKind.signed,IntKind.bits]
theorem wrap_u64 (n : Int) : iwrap .u64 n = n % 18446744073709551616:=by
  rw [iwrap_eq]; simp [IntKind.wrap,IntKind.signed,IntKind.bits]
/-! ### Digits -/
def dgN : Nat → Nat → List Int
  | 0,_=>[]
  | n + 1,v=>((v % 4294967296 : Nat) : Int)::dgN n (v / 4294967296)
def nd (v : Nat) : Nat:=match v with | 0=>0 | v=>v.log2 / 32 + 1
def dg (v : Nat) : List Int:=dgN (nd v) v
def val : List Int → Nat
  | []=>0
  | x::l=>x.toNat + 4294967296 * val l
def DG (l : List Int) : Prop:=∀ x ∈ l,0 ≤ x∧x < 4294967296
theorem DG.cons {x : Int} {l : List Int} : DG (x::l) ↔ (0 ≤ x∧x < 4294967296)∧DG l:=by simp [DG]
theorem DG.nil : DG []:=by simp [DG]
theorem dgN_length : ∀ (n v : Nat),(dgN n v).length = n
  | 0,_=>rfl
  | n + 1,v=>by simp [dgN,dgN_length n]
theorem dgN_DG : ∀ (n v : Nat),DG (dgN n v)
  | 0,_=>.nil
  | n + 1,v=>DG.cons.2 ⟨by omega,dgN_DG n _⟩
theorem val_dgN : ∀ (n v : Nat),val (dgN n v) = v % 4294967296 ^ n
  | 0,v=>by simp [dgN,val,Nat.mod_one]
  | n + 1,v=>by
    simp only [dgN,val]
    rw [show (((v % 4294967296 : Nat) : Int)).toNat = v % 4294967296 from rfl,val_dgN n,Nat.pow_succ,Nat.mul_comm _ 4294967296,Nat.mod_mul]
theorem dgN_val : ∀ {l : List Int},DG l → dgN l.length (val l) = l
  | [],_=>rfl
  | x::l,h=>by
    obtain ⟨⟨h1,h2⟩,h3⟩:=DG.cons.1 h
    simp only [List.length_cons,dgN,val]
    have e1 : (x.toNat + 4294967296 * val l) % 4294967296 = x.toNat:=by omega
    have e2 : (x.toNat + 4294967296 * val l) / 4294967296 = val l:=by omega
    rw [e1,e2,dgN_val h3]
    congr 1
    omega
theorem val_lt : ∀ {l : List Int},DG l → val l < 4294967296 ^ l.length
  | [],_=>by simp [val]
  | x::l,h=>by
    obtain ⟨⟨h1,h2⟩,h3⟩:=DG.cons.1 h
    have:=val_lt h3
    simp only [List.length_cons,val,Nat.pow_succ]
    omega
theorem val_append : ∀ (l m : List Int),val (l++m) = val l + 4294967296 ^ l.length * val m
  | [],m=>by simp [val]
  | x::l,m=>by
    simp only [List.cons_append,val,val_append l m,List.length_cons,Nat.pow_succ]
    rw [Nat.mul_add,← Nat.mul_assoc,Nat.mul_comm 4294967296 (4294967296 ^ l.length)]
    omega
theorem val_inj {l m : List Int} (hl : DG l) (hm : DG m) (hn : l.length = m.length) (h : val l = val m) : l = m:=by
  rw [← dgN_val hl,← dgN_val hm,hn,h]
theorem nd_pos {v : Nat} (h : v ≠ 0) : nd v = v.log2 / 32 + 1:=by
  unfold nd
  split
  · exact absurd rfl h
  · rfl
theorem pow32 (n : Nat) : 4294967296 ^ n = 2 ^ (32 * n):=by rw [Nat.pow_mul]
theorem lt_nd (v : Nat) : v < 4294967296 ^ nd v:=by
  by_cases h : v = 0
  · subst h; simp [nd]
  · rw [nd_pos h,pow32,← Nat.log2_lt h]; omega
theorem nd_le {v n : Nat} (h : v < 4294967296 ^ n) : nd v ≤ n:=by
  by_cases h0 : v = 0
  · subst h0; simp [nd]
  · rw [pow32,← Nat.log2_lt h0] at h
    rw [nd_pos h0]; omega
theorem le_of_nd {v n : Nat} (h : n < nd v) : 4294967296 ^ n ≤ v:=by
  apply Nat.le_of_not_lt
  intro hh
  have:=nd_le hh
  omega
theorem dg_length (v : Nat) : (dg v).length = nd v:=dgN_length _ _
theorem dg_DG (v : Nat) : DG (dg v):=dgN_DG _ _
theorem val_dg (v : Nat) : val (dg v) = v:=by
  unfold dg
  rw [val_dgN,Nat.mod_eq_of_lt (lt_nd v)]
theorem dg_inj {v w : Nat} (h : dg v = dg w) : v = w:=by rw [← val_dg v,h,val_dg]
def Trim (l : List Int) : Prop:=l.getLast? ≠ some 0
theorem nd_val {l : List Int} (hl : DG l) (ht : Trim l) : nd (val l) = l.length:=by
  rcases List.eq_nil_or_concat l with rfl | ⟨m,x,rfl⟩
  · rfl
  · have hx : x ≠ 0:=by
      intro e; apply ht; simp [e]
    have hm : DG m:=fun y hy=>hl y (by simp [hy])
    obtain ⟨h1,h2⟩:=hl x (by simp)
    rw [List.concat_eq_append,val_append,List.length_append]
    have hlt:=val_lt hm
    apply Nat.le_antisymm
    · apply nd_le
      rw [← List.length_append]
      have:=val_lt (l:=m++[x]) (by simpa [List.concat_eq_append] using hl)
      rwa [val_append] at this
    · apply Nat.le_of_not_lt
      intro hh
      have h3:=lt_nd (val m + 4294967296 ^ m.length * val [x])
      have h4 : nd (val m + 4294967296 ^ m.length * val [x]) ≤ m.length:=by simp at hh; simpa using Nat.le_of_lt_succ hh
      have h5:=Nat.lt_of_lt_of_le h3 (Nat.pow_le_pow_right (by decide) h4)
      have h6 : val [x] = x.toNat:=by simp [val]
      rw [h6] at h5
      have h7 : 1 ≤ x.toNat:=by omega
      have:=Nat.mul_le_mul_left (4294967296 ^ m.length) h7
      omega
theorem dg_val {l : List Int} (hl : DG l) (ht : Trim l) : dg (val l) = l:=by
  unfold dg
  rw [nd_val hl ht,dgN_val hl]
end Go.Sy
namespace Go.Sy
open Go.RowKit
set_option linter.unusedVariables false
set_option linter.unusedSectionVars false
variable [Tabs] {P : Program}
theorem pairwise_of {l : List (Cn P)} (h : (l.map Cn.f).Nodup) : l.Pairwise (fun c d=>c.f ≠ d.f):=by
  induction l with
  | nil=>exact .nil
  | cons c l ih =>
    simp only [List.map_cons,List.nodup_cons] at h
    refine List.pairwise_cons.2 ⟨fun d hd e=>h.1 ?_,ih h.2⟩
    rw [e]
    exact List.mem_map.2 ⟨d,hd,rfl⟩
theorem callT_go {l : List (Cn P)} (hl : (l.map Cn.f).Nodup) (i : Nat) {c : Cn P} (hc : l[i]? = some c) (a : c.α) (hok : c.ok a) {as : AV} {h : Heap} (hbor : BorOK h as) (has : c.as a = borV c.flat h as) {K : AV → Heap → Prop}
    (hk : K (c.v a) (match c.flat with | true=>h | false=>frz h (lent as))) : ∃ v h',callT l (.fn c.f) as h = .ret v h'∧K v h':=by
  refine ⟨_,_,callT_mem (pairwise_of hl) (List.mem_of_getElem? hc) (v:=c.v a) (h':=if c.flat then h else frz h (lent as)) ⟨rfl,hbor,⟨a,hok,has,rfl⟩,rfl⟩,?_⟩
  cases hf : c.flat with
  | true=>rw [hf] at hk; simpa using hk
  | false=>rw [hf] at hk; simpa using hk
def flatC : AV → Bool
  | .bool _=>true
  | .int _ _=>true
  | .str _=>true
  | .nilp=>true
  | .nili=>true
  | .nilf=>true
  | .nils=>true
  | _=>false
theorem flatC_sound {a : AV} (h : flatC a = true) : FlatV a:=by
  intro μ μ' cv hv
  cases a <;> first | exact hv | cases h
theorem flat_list : ∀ {l : List AV},(∀ a ∈ l,flatC a = true) → ∀ (μ μ' : Mu) (xs : List Value),VRL μ (catL l .nil) xs → VRL μ' (catL l .nil) xs
  | [],_,_,_,_,h=>h
  | a::l,hl,μ,μ',xs,h=>by
    obtain ⟨v,r,e,h1,h2⟩:=h
    exact ⟨v,r,e,flatC_sound (hl a (by simp)) μ μ' v h1,flat_list (fun b hb=>hl b (by simp [hb])) μ μ' r h2⟩
theorem Enc.flatV {α : Type} (E : Enc α) (x : α) (h : ∀ a ∈ E.cs x,flatC a = true) : FlatV (E.v x):=by
  unfold Enc.v
  split
  · intro μ μ' cv hv
    obtain ⟨c,e,h1⟩:=hv
    exact ⟨c,e,flat_list h μ μ' _ h1⟩
  · split
    · rename_i a l he; exact flatC_sound (h a (by rw [he]; simp))
    · rename_i he; exact absurd he (E.ne_nil x)
section
variable {α β γ ρ : Type}
def Cn.of0 (R : Enc ρ) (f : FuncId) (y : ρ) (pf : PF P f .nil (R.v y)) (bd : ∃ fn,P.funcs[f]? = some fn∧fn.body.isSome = true) : Cn P where
  f:=f
  flat:=false
  α:=Unit
  as:=fun _=>.nil
  v:=fun _=>R.v y
  ok:=fun _=>True
  inj:=fun _ _ _ _ _=>rfl
  dp:=fun _=>trivial
  pv:=fun _=>R.pureV _
  fl:=fun h=>by cases h
  pf:=fun _ _=>pf
  bd:=bd
def Cn.of1 (A : Enc α) (R : Enc ρ) (f : FuncId) (flat : Bool) (ok : α → Prop) (g : α → ρ) (fl : flat = true → ∀ y,∀ a ∈ R.cs y,flatC a = true) (pf : ∀ a,ok a → PF P f (.cons (A.v a) .nil) (R.v (g a))) (bd : ∃ fn,P.funcs[f]? = some fn∧fn.body.isSome = true) : Cn P where
  f:=f
  flat:=flat
  α:=α
  as:=fun a=>.cons (A.v a) .nil
  v:=fun a=>R.v (g a)
  ok:=ok
  inj:=fun a b _ _ h=>by injection h with h1 _; rw [A.v_inj h1]
  dp:=fun a=>⟨A.dpV a,trivial⟩
  pv:=fun a=>R.pureV _
  fl:=fun h a=>R.flatV _ (fl h _)
  pf:=pf
  bd:=bd
def Cn.of2 (A : Enc α) (B : Enc β) (R : Enc ρ) (f : FuncId) (flat : Bool) (ok : α → β → Prop) (g : α → β → ρ) (fl : flat = true → ∀ y,∀ a ∈ R.cs y,flatC a = true) (pf : ∀ a b,ok a b → PF P f (.cons (A.v a) (.cons (B.v b) .nil)) (R.v (g a b))) (bd : ∃ fn,P.funcs[f]? = some fn∧fn.body.isSome = true) : Cn P where
  f:=f
  flat:=flat
  α:=α × β
  as:=fun a=>.cons (A.v a.1) (.cons (B.v a.2) .nil)
  v:=fun a=>R.v (g a.1 a.2)
  ok:=fun a=>ok a.1 a.2
  inj:=fun a b _ _ h=>by injection h with h1 h; injection h with h2 _; rw [A.v_inj h1,B.v_inj h2]
  dp:=fun a=>⟨A.dpV _,B.dpV _,trivial⟩
  pv:=fun a=>R.pureV _
  fl:=fun h a=>R.flatV _ (fl h _)
  pf:=fun a h=>pf _ _ h
  bd:=bd
def Cn.of2t {σ : Type} (A : Enc α) (B : Enc β) (R : Enc ρ) (S : Enc σ) (f : FuncId) (ok : α → β → Prop) (g : α → β → ρ) (k : α → β → σ) (pf : ∀ a b,ok a b → PF P f (.cons (A.v a) (.cons (B.v b) .nil)) (.tup (.cons (R.v (g a b)) (.cons (S.v (k a b)) .nil)))) (bd : ∃ fn,P.funcs[f]? = some fn∧fn.body.isSome = true) : Cn P where
  f:=f
  flat:=false
  α:=α × β
  as:=fun a=>.cons (A.v a.1) (.cons (B.v a.2) .nil)
  v:=fun a=>.tup (.cons (R.v (g a.1 a.2)) (.cons (S.v (k a.1 a.2)) .nil))
  ok:=fun a=>ok a.1 a.2
  inj:=fun a b _ _ h=>by injection h with h1 h; injection h with h2 _; rw [A.v_inj h1,B.v_inj h2]
  dp:=fun a=>⟨A.dpV _,B.dpV _,trivial⟩
  pv:=fun a=>.tup (.cons (R.pureV _) (.cons (S.pureV _) .nil))
  fl:=fun h=>by cases h
  pf:=fun a h=>pf _ _ h
  bd:=bd
def Cn.of2t3 {σ τ : Type} (A : Enc α) (B : Enc β) (R : Enc ρ) (S : Enc σ) (T : Enc τ) (f : FuncId) (ok : α → β → Prop) (g : α → β → ρ) (k : α → β → σ) (m : α → β → τ) (pf : ∀ a b,ok a b → PF P f (.cons (A.v a) (.cons (B.v b) .nil)) (.tup (.cons (R.v (g a b)) (.cons (S.v (k a b)) (.cons (T.v (m a b)) .nil))))) (bd : ∃ fn,P.funcs[f]? = some fn∧fn.body.isSome = true) : Cn P where
  f:=f
  flat:=false
  α:=α × β
  as:=fun a=>.cons (A.v a.1) (.cons (B.v a.2) .nil)
  v:=fun a=>.tup (.cons (R.v (g a.1 a.2)) (.cons (S.v (k a.1 a.2)) (.cons (T.v (m a.1 a.2)) .nil)))
  ok:=fun a=>ok a.1 a.2
  inj:=fun a b _ _ h=>by injection h with h1 h; injection h with h2 _; rw [A.v_inj h1,B.v_inj h2]
  dp:=fun a=>⟨A.dpV _,B.dpV _,trivial⟩
  pv:=fun a=>.tup (.cons (R.pureV _) (.cons (S.pureV _) (.cons (T.pureV _) .nil)))
  fl:=fun h=>by cases h
  pf:=fun a h=>pf _ _ h
  bd:=bd
end
end Go.Sy
namespace Go.Sy
set_option linter.unusedVariables false
set_option linter.unusedSectionVars false
attribute [local instance] tb0
theorem dgN_getElem : ∀ {n v i : Nat} (h : i < (dgN n v).length),(dgN n v)[i] = ((v / 4294967296 ^ i % 4294967296 : Nat) : Int)
  | 0,v,i,h=>by simp [dgN] at h
  | n + 1,v,0,h=>by simp [dgN]
  | n + 1,v,i + 1,h=>by
    simp only [dgN,List.getElem_cons_succ]
    rw [dgN_getElem,Nat.pow_succ,Nat.mul_comm _ 4294967296,Nat.div_div_eq_div_mul]
theorem dg_getElem {v i : Nat} (h : i < (dg v).length) : (dg v)[i] = ((v / 4294967296 ^ i % 4294967296 : Nat) : Int):=dgN_getElem h
theorem val_take_succ {l : List Int} {i : Nat} (h : i < l.length) : val (l.take (i + 1)) = val (l.take i) + 4294967296 ^ i * l[i].toNat:=by
  rw [List.take_succ_eq_append_getElem h,val_append,List.length_take_of_le (by omega)]
  simp [val]
theorem val_snoc (l : List Int) (x : Int) : val (l++[x]) = val l + 4294967296 ^ l.length * x.toNat:=by
  rw [val_append]; simp [val]
theorem DG.append {l m : List Int} : DG (l++m) ↔ DG l∧DG m:=by
  unfold DG; simp only [List.mem_append]
  exact ⟨fun h=>⟨fun x hx=>h x (.inl hx),fun x hx=>h x (.inr hx)⟩,fun h x hx=>hx.elim (h.1 x) (h.2 x)⟩
theorem DG.get {l : List Int} (h : DG l) {i : Nat} (hi : i < l.length) : 0 ≤ l[i]∧l[i] < 4294967296:=h _ (List.getElem_mem hi)
theorem DG.set {l : List Int} (h : DG l) (i : Nat) {x : Int} (h1 : 0 ≤ x) (h2 : x < 4294967296) : DG (l.set i x):=fun y hy=>by
  rcases List.mem_or_eq_of_mem_set hy with e | e
  · exact h y e
  · exact e ▸ ⟨h1,h2⟩
theorem DG.take {l : List Int} (h : DG l) (i : Nat) : DG (l.take i):=fun y hy=>h y (List.mem_of_mem_take hy)
theorem val_set : ∀ {l : List Int} {i : Nat} (hi : i < l.length) (x : Int),val (l.set i x) + 4294967296 ^ i * l[i].toNat = val l + 4294967296 ^ i * x.toNat
  | y::l,0,hi,x=>by simp [val]; omega
  | y::l,i + 1,hi,x=>by
    have:=val_set (l:=l) (i:=i) (by simpa using hi) x
    simp only [List.set_cons_succ,val,List.getElem_cons_succ,Nat.pow_succ]
    have e1 : ∀ n : Nat,4294967296 ^ i * 4294967296 * n = 4294967296 * (4294967296 ^ i * n):=fun n=>by rw [Nat.mul_comm (4294967296 ^ i),Nat.mul_assoc]
    rw [e1,e1]
    omega
theorem val_zeros : ∀ n,val (List.replicate n (0 : Int)) = 0
  | 0=>rfl
  | n + 1=>by simp [List.replicate_succ,val,val_zeros n]
theorem set_zeros {p : List Int} {n : Nat} {x : Int} (h : 0 < n) : (p++List.replicate n (0 : Int)).set p.length x = (p++[x])++List.replicate (n - 1) 0:=by
  obtain ⟨m,rfl⟩ : ∃ m,n = m + 1:=⟨n - 1,by omega⟩
  rw [List.set_append_right _ _ (by omega)]
  simp [List.replicate_succ]
/-! ### Encodings -/
def eDig : Enc (List Int):=(eInt .u32).list
def eMag : Enc Nat:=eDig.by dg (fun _ _ h=>dg_inj h)
theorem sgn_inj : ∀ x y : Int,(decide (x < 0),x.natAbs) = (decide (y < 0),y.natAbs) → x = y:=by
  intro x y h
  injection h with h1 h2
  have h1 : (x < 0) = (y < 0):=by simpa using h1
  by_cases hx : x < 0
  · have hy : y < 0:=h1 ▸ hx
    omega
  · have hy : ¬ y < 0:=h1 ▸ hx
    omega
def eBig : Enc Int:=(eBool.pair eMag).by (fun x=>(decide (x < 0),x.natAbs)) sgn_inj
def sgn (neg : Bool) (m : Nat) : Int:=match neg with | true=>-m | false=>m
def Small (v : Nat) : Prop:=v < 4294967296 ^ 134217728
theorem Small.nd {v : Nat} (h : Small v) : nd v ≤ 134217728:=nd_le h
end Go.Sy
