/- A piece of the proof, made small by a program of ours. -/
import Derived.Test.YtilmgbneiikbiaaGreatDoorP08
import Derived.Test.YtilmgbneiikbiaaGreatDoorSyShelf
import Derived.Shelf.Spec.SlicesInsertGrow
set_option linter.all false
set_option maxRecDepth 1000000
set_option maxHeartbeats 0
namespace Go.Sy
noncomputable section
open Go.RowKit Go.Proofs Go.Proofs.Tryz
section
open Go.RowKit Go.Proofs Go.Shelf
attribute [local instance] fp
theorem qS {f:FuncId} {fn:Func} (h:prog.funcs[f]?=some fn) (hb:fn.body.isSome=true):∃fn,prog.funcs[f]?=some fn/\fn.body.isSome=true:=⟨fn,h,hb⟩
theorem zB {s:List Nat} {bs:ByteArray} (hb:bs.data.toList.map UInt8.toNat=s):s.map Nat.toUInt8=bs.data.toList:=by
 rw [<-hb,List.map_map];conv=>rhs;rw [<-List.map_id bs.data.toList]
 apply List.map_congr_left;intro x _;exact UInt8.ofNat_toNat
theorem zC {μ:Mu} {s:List Nat} {a:Value} (h:dC μ (.str s) a):∃bs:ByteArray,a= .string bs/\bs.data.toList.map UInt8.toNat=s:=by
 obtain⟨bs,ha,hb⟩:=h;exact⟨bs,by simpa using ha,hb⟩
theorem zD {μ:Mu} {k:IntKind} {n:Int} {a:Value} (h:dC μ (.int k n) a):a= .int k n:=by
 have h:[a]=[Value.int k n]:=h;simpa using h
def KD (s:List Nat) (c:Int):Int:=Lib.indexByte (s.map Nat.toUInt8) c.toNat.toUInt8
theorem GY (s:List Nat) (c:Int):dQ 319 (.cons (aV.v s) (.cons ((au .u8).v c) .nil)) ((au .i64).v (KD s c)):=by
 intro sl w hs _ cargs hv;obtain⟨a,r,h1,h2,b,q,h3,h4,h5⟩:=hv;obtain⟨bs,rfl,hb⟩:=zC h2;have h4:=zD h4;have h5:q=[]:=h5;subst h5 h4 h3;have hc:cargs=#[.string bs,.int .u8 c]:=by cases cargs;simp at h1;rw [h1]
 subst hc;refine(stringslite_IndexByte bs c w).mono λe w' ⟨he,hw⟩=>?_;subst hw;refine⟨_,sl,he,Grow.refl _ _,hs,?_,Below.refl _ _⟩;show [_]=[_]
 unfold KD;rw [zB hb]
def GZ:Cn prog:= .kP aV (au .u8) (au .i64) 319 true (λ_ _=>True) KD (λ_ y x hx=>by rw [List.mem_singleton.1 hx];rfl) (λs c _=>GY s c) (qS rfl rfl)
def Ha:Dc prog:=⟨GZ,mV aiu (Kf .u8),λ_=>true,λ_ _ h=>dW h,λ_ _=>trivial⟩
def Qp (s:List Nat):Option Nat:=match Lib.parseUintB 32 (s.map Nat.toUInt8)with| .ok u=>some u|_=>none
theorem TT (s:List Nat) (u:Nat) (hn:s.length<=9223372036854775806) (h:Qp s=some u):dQ 220 (.cons (.str s) (.cons (.int .i64 10) (.cons (.int .i64 32) .nil))) (.aS (.cons (.int .u64 u) (.cons .lM .nil))):=by
 intro sl w hs _ cargs hv;obtain⟨a,r,h1,h2,b,q,h3,h4,c,p,h5,h6,h7⟩:=hv;obtain⟨bs,rfl,hb⟩:=zC h2;have h4:=zD h4;have h6:=zD h6;have h7:p=[]:=h7;subst h7 h6 h5 h4 h3;have hc:cargs=#[.string bs,.int .i64 10,.int .i64 32]:=by cases cargs;simp at h1;rw [h1]
 subst hc;have hp:Lib.parseUintB 32 bs.data.toList= .ok u:=by
  unfold Qp at h;rw [zB hb]at h;split at h
  .rename_i v hv;cases h;exact hv
  .cases h
 have hsz:bs.size<=9223372036854775806:=by
  rw [<-hb]at hn;simpa using hn
 refine(strconv_ParseUint_10_at32_ok bs hsz u hp w).mono λe w' ⟨he,hw⟩=>?_;have rB:Below w.heap.size w w':=by
  rcases hw with rfl|rfl
  .exact Below.refl _ _
  .exact⟨Lib.bytesWorld_below _ _ _,λ_=>Nat.le_succ _⟩
 refine⟨_,sl,he,Grow.refl _ _,λb x e=>?_,⟨_,rfl,_,_,rfl,rfl,_,_,rfl,rfl,rfl⟩,rB⟩;obtain⟨el,fz,h1⟩:=hs b x e;exact⟨el,fz,(rB.block b (Array.getElem?_eq_some_iff.1 h1).1).trans h1⟩
def TU:Cn prog where
 f:=220
 flat:=false
 α:=List Nat×Nat
 aZs:=λs=> .cons (.str s.1) (.cons (.int .i64 10) (.cons (.int .i64 32) .nil))
 v:=λs=> .aS (.cons (.int .u64 s.2) (.cons .lM .nil))
 ok:=λs=>s.1.length<=9223372036854775806/\Qp s.1=some s.2
 inj:=λa b ha hb h=>by
  injection h with h _;injection h with h;have h2:=hb.2;rw [<-h,ha.2]at h2;rw [Option.some.inj h2]
 dp:=λa=>⟨aB,aB,aB,aB⟩
 pv:=λa=> .aS (.cons .int (.cons (λ_ _ _ _ h=>h) .nil))
 fl:=λh=>by cases h
 pf:=λa h=>TT a.1 a.2 h.1 h.2
 bd:=qS rfl rfl
def TV (l:AV):Option (List Nat×Nat):=match l with| .cons (.str s) (.cons (.int .i64 n) (.cons (.int .i64 m) .nil))=>bB (aF (bD n 10) (bD m 32)) (oB (Qp s) λu=>some (s,u))|_=>none
theorem TW {l:AV} {a:List Nat×Nat} (h:TV l=some a):AV.cons (.str a.1) (.cons (.int .i64 10) (.cons (.int .i64 32) .nil))=l/\Qp a.1=some a.2:=by
 unfold TV at h;split at h
 .obtain⟨h1,h⟩:=ns h;obtain⟨u,h2,h3⟩:=dB h;cases h3;obtain⟨h4,h5⟩:=aq.1 h1;rw [bh.1 h4,bh.1 h5];exact⟨rfl,h2⟩
 .cases h
def TX:Dc prog:=⟨TU,TV,λa=>aF (Nat.ble a.1.length 9223372036854775806) (match Qp a.1 with|some u=>Nat.beq u a.2|none=>false),λ_ _ h=>(TW h).1,λa h=>by
 obtain⟨h1,h2⟩:=aq.1 h;refine⟨Nat.le_of_ble_eq_true h1,?_⟩;split at h2
 .rename_i u hu;rw [hu,Nat.eq_of_beq_eq_true h2]
 .cases h2⟩
end
section
open Go.Shelf Go.RowKit Go.Lib Go.Proofs
theorem pC {P:Program} (z:Nat) (w:World) (dT sT ty elem:TypeId) (b o adr aiK:Nat) (a:Addr) (ib oZ:Nat) (cs:List Value)
  (hu:P.underlying dT=some (.slice elem)) (hs:(P.info? elem).map (·.size)=some z) (hn:cs.length=Nat.min ib adr*z)
  (aiL:∀j v,cs[j]?=some v ->w.cell? (a.add j)=some v) (hc:∀j,j<cs.length ->(w.cell? ⟨b,o+j,none⟩).isSome=true) (hf:∀j,j<cs.length ->w.frozen? ⟨b,o+j,none⟩=false) (h1:∀v∈cs,v.oneCell'=true):
  (Builtin.copy_ #[dT,sT] ty #[.slice (some ⟨b,o,none⟩) adr aiK,.slice (some a) ib oZ]).run P w= .ok (goInt (Nat.min ib adr)) (w.setCells b o cs):=by
 have hl:=run_loadCells_list (P:=P) w a cs aiL;have mw:=run_storeCells_cells (P:=P) b o cs 0 w (by simpa using hc) (by simpa using hf) h1;cases hq:P.info? elem with
 |none=>simp [hq]at hs|some i=>
  have hi:i.size=z:=by simpa [hq]using hs
  simp [Builtin.copy_,run_underlying hu,Builtin.lenOf,Builtin.firstCells,sizeOf,typeInfo,hq,hi,<-hn,hl,mw]
set_option maxHeartbeats 4000000 in
set_option maxRecDepth 100000 in
theorem Qq (b off n c i vb:Nat) (tV vc:Nat) (cs vs:List Value) (w:World) (hi:i<n) (pK:n+1<=c) (aiM:n<4611686018427387904) (hvb:vb≠b)
  (eH:cs.length=n*12) (Rf:vs.length=12)
  (mQ:∀j v,cs[j]?=some v ->w.cell? ⟨b,off+j,none⟩=some v) (fw:∀j,j<(n+1)*12 ->(w.cell? ⟨b,off+j,none⟩).isSome=true) (Yk:∀j,j<(n+1)*12 ->w.frozen? ⟨b,off+j,none⟩=false)
  (xG:∀j v,vs[j]?=some v ->w.cell? ⟨vb,tV+j,none⟩=some v) (h1c:∀v∈cs,v.oneCell'=true) (h1v:∀v∈vs,v.oneCell'=true)
  (tA tB:TypeId) (kA kB:Nat) (hsa:w.shape? vb=some (tA,kA)) (Xz:w.shape? b=some (tB,kB)) (hkB:kB≠0) (hfa:w.frozen? ⟨vb,tV,none⟩=false) (hfe:w.frozen? ⟨vb,kA,none⟩=false):
  Calls prog 233 #[.slice (some ⟨b,off,none⟩) n c,.int .i64 i,.slice (some ⟨vb,tV,none⟩) 1 vc] w λe w'=>
   e= .returned (.slice (some ⟨b,off,none⟩) (n+1) c)/\w'=(w.drew.setCells b (off+(i+1)*12) (cs.drop (i*12))).setCells b (off+i*12) vs:=by
 have mixed:prog.follows .mixedOrders=true:=af;have t3:prog.underlying 3=some (.int .i64):=rfl;have a3:∀w,(isAgg 3).run prog w= .ok false w:=λw=>rfl;have z3:∀w,(Go.sizeOf 3).run prog w= .ok 1 w:=λw=>rfl;have v3:∀w,(zeroValue 3).run prog w= .ok (.int .i64 0) w:=λw=>rfl;have t4:prog.underlying 4=some .bool:=rfl;have a4:∀w,(isAgg 4).run prog w= .ok false w:=λw=>rfl;have z4:∀w,(Go.sizeOf 4).run prog w= .ok 1 w:=λw=>rfl;have v4:∀w,(zeroValue 4).run prog w= .ok (.bool false) w:=λw=>rfl;have z9:∀w,(Go.sizeOf 70).run prog w= .ok 12 w:=λw=>rfl;have t24:prog.underlying 138=some (.slice 70):=rfl;have a24:∀w,(isAgg 138).run prog w= .ok false w:=λw=>rfl;have z24:∀w,(Go.sizeOf 138).run prog w= .ok 1 w:=λw=>rfl;have v24:∀w,(zeroValue 138).run prog w= .ok (.slice none 0 0) w:=λw=>rfl;have u3:=run_underlying t3;have u4:=run_underlying t4;have u24:=run_underlying t24;have hsz:(prog.info? 70).map (·.size)=some 12:=rfl;have IX:¬((1:Int)=0):=by omega
 have Bs:¬((i:Int)=(n:Int)):=by omega
 have Ip:∀lb cb,(callFunc 286 #[.slice (some ⟨vb,tV,none⟩) 1 vc,.slice (some ⟨b,off+(i+1)*12,none⟩) lb cb]).run prog w= .ok (.value (.bool false)) w:=λlb cb=>by
  rw [run_callFunc_extern (fn:=f286) rfl (by kernel_rfl) (by kernel_rfl) (by kernel_rfl) (e:=Extern.SlicesOverlaps.overlaps #[138,138] #[4]) (by kernel_rfl),
   Lib.run_overlaps_apart w 138 4 70 t24 12 z9 ⟨vb,tV,none⟩ ⟨b,off+(i+1)*12,none⟩ 1 vc lb cb hvb tA tB kA kB hsa Xz hkB hfa hfe]
  rfl
 have hdl:(cs.drop (i*12)).length=(n - i)*12:=by rw [List.length_drop,eH];omega
 have hw1:IntKind.i64.wrap ((i:Int)+1)=(i:Int)+1:=by rw [IntKind.wrap_i64];omega
 have nZ:(0:Int)<=(i:Int)+1:=by omega
 have dF:i<=n:=by omega
 have htn:((i:Int)+1).toNat=i+1:=by omega
 have rz:¬(c=i+1):=by omega
 have XB:(i:Int)<=(n:Int)+1:=by omega
 have hb4:¬(c=i):=by omega
 have af9:∀ty dc sc,(Builtin.copy_ #[138,138] ty #[.slice (some ⟨b,off+(i+1)*12,none⟩) (n - i) dc,.slice (some ⟨b,off+i*12,none⟩) (n+1 - i) sc]).run prog w.drew= .ok (goInt (Nat.min (n+1 - i) (n - i))) (w.drew.setCells b (off+(i+1)*12) (cs.drop (i*12))):=λty dc sc=>
  pC 12 w.drew _ _ ty 70 b (off+(i+1)*12) (n - i) dc ⟨b,off+i*12,none⟩ (n+1 - i) sc (cs.drop (i*12)) t24 hsz (by rw [hdl];simp only [Nat.min_def];split<;>omega)
   (λj v hj=>by rw [Addr.add_lit,Nat.add_assoc];exact mQ (i*12+j) v (by rwa [List.getElem?_drop]at hj))
   (λj hj=>by rw [Nat.add_assoc];exact fw _ (by omega)) (λj hj=>by rw [Nat.add_assoc];exact Yk _ (by omega)) (λv hv=>h1c v (List.mem_of_mem_drop hv))
 obtain⟨W1,Rh⟩:∃W1,W1=w.drew.setCells b (off+(i+1)*12) (cs.drop (i*12)):=⟨_,rfl⟩
 have aiN:∀k,k<(n+1)*12 ->(W1.cell? ⟨b,off+k,none⟩).isSome=true:=λk hk=>by
  rw [Rh];exact isSome_setCells b _ _ _ (λj hj=>by rw [Nat.add_assoc];exact fw _ (by omega)) _ (fw k hk)
 have aiO:∀(W:World),(∀x,W.cell? x=W1.cell? x) ->(∀x,W.frozen? x=W1.frozen? x) ->∀ty dc,(Builtin.copy_ #[138,138] ty #[.slice (some ⟨b,off+i*12,none⟩) (n+1 - i) dc,.slice (some ⟨vb,tV,none⟩) 1 vc]).run prog W= .ok (goInt (Nat.min 1 (n+1 - i))) (W.setCells b (off+i*12) vs):=λW hWc hWf ty dc=>
  pC 12 W _ _ ty 70 b (off+i*12) (n+1 - i) dc ⟨vb,tV,none⟩ 1 vc vs t24 hsz (by rw [Rf];simp only [Nat.min_def];split<;>omega)
   (λj v hj=>by
    rw [Addr.add_lit,hWc,Rh,World.cell?_setCells_out b _ _ _ _ (λh _=>absurd h hvb)];exact xG j v hj)
   (λj hj=>by rw [hWc,Nat.add_assoc];exact aiN _ (by omega)) (λj hj=>by rw [hWf,Rh,World.frozen?_setCells,Nat.add_assoc];exact Yk _ (by omega)) h1v
 rw [<-Rh]at af9
 go_enter (show prog.funcs[233]?=some f233 from rfl),(show f233.ntmps=95 from rfl)
 go_wp2_with (simp only [Ip])
 go_region_law_o (refine step_copy_runI rfl _ _ 138 138 rfl _ _ (by simp [Act.eval,Act.put]) (by simp [Act.eval,Act.put]) (af9 _ _ _) ?_)
 go_wp2_with (at_builtin;refine wpList_copy_runI _ rfl _ _ 138 138 rfl _ _ rfl rfl (aiO _ (λ_=>rfl) (λ_=>rfl) _ _) ?_)
 go_ret
 first|exact⟨rfl,rfl⟩|exact⟨rfl,by rw [Rh]⟩
end
section
open Go.Shelf Go.RowKit Go.Lib Go.Proofs
set_option maxHeartbeats 4000000 in
set_option maxRecDepth 100000 in
theorem TY (b off n c i vb tV vc:Nat) (cs vs:List Value) (w:World) (i0:TypeInfo) (zv:Value) (hi0:prog.info? 70=some i0) (XE:i0.zero=some zv) (iO:i0.size=12) (Io:zv.cells.size=12) (hi:i<n) (uO:n<=c) (pK:c<n+1) (Jm:(n+1)*i0.bytes<=140737488355328) (aiM:n<4611686018427387904)
  (eH:cs.length=n*12) (Rf:vs.length=12)
  (mQ:∀j v,cs[j]?=some v ->w.cell? ⟨b,off+j,none⟩=some v)
  (xG:∀j v,vs[j]?=some v ->w.cell? ⟨vb,tV+j,none⟩=some v) (h1c:∀v∈cs,v.oneCell'=true) (h1v:∀v∈vs,v.oneCell'=true):
  Calls prog 233 #[.slice (some ⟨b,off,none⟩) n c,.int .i64 i,.slice (some ⟨vb,tV,none⟩) 1 vc] w λe w'=>
   e= .returned (.slice (some ⟨w.heap.size,0,none⟩) (n+1) (grownCap w (n+1) c 70))/\
   w'=(((w.alloc (.cells ((cs.take (i*12)).toArray++Builtin.zeroCells zv.cells (n+1 - i)++Builtin.zeroCells zv.cells (grownCap w (n+1) c 70 - (n+1))) 70)).drew.setCells w.heap.size (i*12) vs).drew).setCells w.heap.size ((i+1)*12) (cs.drop (i*12)):=by
 have mixed:prog.follows .mixedOrders=true:=af;have t3:prog.underlying 3=some (.int .i64):=rfl;have a3:∀w,(isAgg 3).run prog w= .ok false w:=λw=>rfl;have z3:∀w,(Go.sizeOf 3).run prog w= .ok 1 w:=λw=>rfl;have v3:∀w,(zeroValue 3).run prog w= .ok (.int .i64 0) w:=λw=>rfl;have t4:prog.underlying 4=some .bool:=rfl;have a4:∀w,(isAgg 4).run prog w= .ok false w:=λw=>rfl;have z4:∀w,(Go.sizeOf 4).run prog w= .ok 1 w:=λw=>rfl;have v4:∀w,(zeroValue 4).run prog w= .ok (.bool false) w:=λw=>rfl;have z9:∀w,(Go.sizeOf 70).run prog w= .ok 12 w:=λw=>rfl;have t24:prog.underlying 138=some (.slice 70):=rfl;have a24:∀w,(isAgg 138).run prog w= .ok false w:=λw=>rfl;have z24:∀w,(Go.sizeOf 138).run prog w= .ok 1 w:=λw=>rfl;have v24:∀w,(zeroValue 138).run prog w= .ok (.slice none 0 0) w:=λw=>rfl;have u3:=run_underlying t3;have u4:=run_underlying t4;have u24:=run_underlying t24;have hsz:(prog.info? 70).map (·.size)=some 12:=rfl;have IX:¬((1:Int)=0):=by omega
 have Bs:¬((i:Int)=(n:Int)):=by omega
 have hz3:(c:Int)<(n:Int)+1:=by omega
 have hbw:b<w.heap.size:=block_lt_of_cell (mQ 0 _ (List.getElem?_eq_getElem (by omega)));have hvw:vb<w.heap.size:=block_lt_of_cell (xG 0 _ (List.getElem?_eq_getElem (by omega)));have QX:(n:Int)+1 - (i:Int)=((n+1 - i:Nat):Int):=by omega
 have hik:i+(n+1 - i)=n+1:=by omega
 have hold:(Builtin.firstCells i0.size i (.slice (some ⟨b,off,none⟩) i c)).run prog w.drew= .ok (cs.take (i*12)).toArray w.drew:=by
  rw [iO];exact run_firstCells_some w.drew 12 i ⟨b,off,none⟩ i c (cs.take (i*12)) (by rw [List.length_take];omega) (λj v hj=>by
   rw [Addr.add_lit];rw [List.getElem?_take]at hj;split at hj
   .exact mQ j v hj
   .cases hj)
 have hrz:∀ty,(Builtin.append_ #[138,3] ty #[.slice (some ⟨b,off,none⟩) i c,.int .i64 ((n:Int)+1 - (i:Int))]).run prog w=
   .ok (.slice (some ⟨w.heap.size,0,none⟩) (n+1) (grownCap w (n+1) c 70)) (w.drew.alloc (.cells ((cs.take (i*12)).toArray++Builtin.zeroCells zv.cells (n+1 - i)++Builtin.zeroCells zv.cells (grownCap w (n+1) c 70 - (n+1))) 70)):=λty=>by
  have h:=Lib.run_append_grow_zeros w 138 3 ty 70 i0 _ .i64 .i64 t24 t3 hi0 XE (some ⟨b,off,none⟩) i c (cs.take (i*12)) hold (n+1 - i) (by omega) (by omega) (by omega) (by omega) (by
   have:(n+1 - i)*i0.bytes<=(n+1)*i0.bytes:=Nat.mul_le_mul_right _ (by omega);omega) (by rw [hik];exact growslice_fits pK Jm)
  rw [hik]at h;rw [QX];exact h
 obtain⟨G,hG⟩:∃G,G=grownCap w (n+1) c 70:=⟨_,rfl⟩
 obtain⟨MO,ads⟩:∃MO:Array Value,MO=(cs.take (i*12)).toArray++Builtin.zeroCells zv.cells (n+1 - i)++Builtin.zeroCells zv.cells (G - (n+1)):=⟨_,rfl⟩
 rw [<-hG]at hrz ⊢;rw [<-ads]at hrz ⊢;have hRl:(n+1)*12<=MO.size:=by
  rw [ads];simp [Builtin.zeroCells,Io];omega
 obtain⟨W1,Rh⟩:∃W1,W1=w.drew.alloc (.cells MO 70):=⟨_,rfl⟩
 rw [<-Rh]at hrz;have hN:∀j,j<(n+1)*12 ->(W1.cell? ⟨w.heap.size,j,none⟩).isSome=true:=λj hj=>by
  rw [Rh,World.cell?_alloc_at (w:=w.drew) MO _ w.heap.size j rfl,Array.getElem?_eq_getElem (by omega)];rfl
 have hNf:∀j,W1.frozen? ⟨w.heap.size,j,none⟩=false:=λj=>by rw [Rh];exact World.frozen?_alloc_at (w:=w.drew) MO _ w.heap.size j rfl
 have hOb:∀j v,w.cell? ⟨b,j,none⟩=some v ->W1.cell? ⟨b,j,none⟩=some v:=λj v h=>by rw [Rh,World.cell?_alloc_past (w:=w.drew) _ b j hbw];exact h
 have hOv:∀j v,w.cell? ⟨vb,j,none⟩=some v ->W1.cell? ⟨vb,j,none⟩=some v:=λj v h=>by rw [Rh,World.cell?_alloc_past (w:=w.drew) _ vb j hvw];exact h
 have aiP:∀(W:World),(∀x,W.cell? x=W1.cell? x) ->(∀x,W.frozen? x=W1.frozen? x) ->∀ty dc,(Builtin.copy_ #[138,138] ty #[.slice (some ⟨w.heap.size,i*12,none⟩) (n+1 - i) dc,.slice (some ⟨vb,tV,none⟩) 1 vc]).run prog W= .ok (goInt (Nat.min 1 (n+1 - i))) (W.setCells w.heap.size (i*12) vs):=λW hWc hWf ty dc=>
  pC 12 W _ _ ty 70 w.heap.size (i*12) (n+1 - i) dc ⟨vb,tV,none⟩ 1 vc vs t24 hsz (by rw [Rf];simp only [Nat.min_def];split<;>omega)
   (λj v hj=>by rw [Addr.add_lit,hWc];exact hOv _ v (xG j v hj))
   (λj hj=>by rw [hWc];exact hN _ (by omega)) (λj hj=>by rw [hWf];exact hNf _) h1v
 have hGn:n+1<=G:=by rw [hG];exact grownCap_ge w _ _ _
 have aj2:G<=9223372036854775807:=by
  have:=grownCap_le_maxLen w (n+1) c 70 (by unfold maxLen;omega);rw [<-hG]at this;unfold maxLen at this;omega
 have hGi:¬(G=i):=by omega
 have aj3:¬(G=i+1):=by omega
 have hci:¬(c=i):=by omega
 have hbN:b≠w.heap.size:=by omega
 have hdl:(cs.drop (i*12)).length=(n - i)*12:=by rw [List.length_drop,eH];omega
 have aga:∀(W:World),(∀x,W.cell? x=(W1.setCells w.heap.size (i*12) vs).cell? x) ->(∀x,W.frozen? x=(W1.setCells w.heap.size (i*12) vs).frozen? x) ->∀ty dc sc,(Builtin.copy_ #[138,138] ty #[.slice (some ⟨w.heap.size,(i+1)*12,none⟩) (n - i) dc,.slice (some ⟨b,off+i*12,none⟩) (n - i) sc]).run prog W= .ok (goInt (Nat.min (n - i) (n - i))) (W.setCells w.heap.size ((i+1)*12) (cs.drop (i*12))):=λW hWc hWf ty dc sc=>
  pC 12 W _ _ ty 70 w.heap.size ((i+1)*12) (n - i) dc ⟨b,off+i*12,none⟩ (n - i) sc (cs.drop (i*12)) t24 hsz (by rw [hdl];simp only [Nat.min_def];split<;>omega)
   (λj v hj=>by
    rw [Addr.add_lit,hWc,World.cell?_setCells_out _ _ _ _ _ (λh _=>absurd h hbN),Nat.add_assoc];exact hOb _ v (mQ (i*12+j) v (by rwa [List.getElem?_drop]at hj)))
   (λj hj=>by rw [hWc];exact isSome_setCells _ _ _ _ (λt ht=>hN _ (by omega)) _ (hN _ (by omega)))
   (λj hj=>by rw [hWf,World.frozen?_setCells];exact hNf _) (λv hv=>h1c v (List.mem_of_mem_drop hv))
 subst Rh;have hE1:∀x,((w.alloc (.cells MO 70)).drew).cell? x=(w.drew.alloc (.cells MO 70)).cell? x:=λx=>rfl;have hE2:∀x,((w.alloc (.cells MO 70)).drew).frozen? x=(w.drew.alloc (.cells MO 70)).frozen? x:=λx=>rfl;have hF1:∀x,(((w.alloc (.cells MO 70)).drew.setCells w.heap.size (i*12) vs).drew).cell? x=((w.drew.alloc (.cells MO 70)).setCells w.heap.size (i*12) vs).cell? x:=λx=>rfl;have hF2:∀x,(((w.alloc (.cells MO 70)).drew.setCells w.heap.size (i*12) vs).drew).frozen? x=((w.drew.alloc (.cells MO 70)).setCells w.heap.size (i*12) vs).frozen? x:=λx=>rfl;have hw1:IntKind.i64.wrap ((i:Int)+1)=(i:Int)+1:=by rw [IntKind.wrap_i64];omega
 have nZ:(0:Int)<=(i:Int)+1:=by omega
 have dF:i<=n:=by omega
 have htn:((i:Int)+1).toNat=i+1:=by omega
 have XB:(i:Int)<=(n:Int):=by omega
 clear QX hik hold ads hG hRl
 go_enter (show prog.funcs[233]?=some f233 from rfl),(show f233.ntmps=95 from rfl)
 go_wp2_with (first
  |(at_builtin;refine Lib.wpList_append_run _ rfl _ _ _ _ rfl _ _ rfl rfl _ _ (hrz _) ?_)
  |(at_builtin;refine wpList_copy_runI _ rfl _ _ 138 138 rfl _ _ rfl rfl (aiP _ hE1 hE2 _ _) ?_)
  |(at_builtin;refine wpList_copy_runI _ rfl _ _ 138 138 rfl _ _ rfl rfl (aga _ (λ_=>rfl) (λ_=>rfl) _ _ _) ?_))
 go_region_law_o (refine step_copy_runI rfl _ _ 138 138 rfl (.slice (some ⟨w.heap.size,(i+1)*12,none⟩) (n - i) (G - (i+1))) (.slice (some ⟨b,off+i*12,none⟩) (n - i) (c - i)) (by simp [Act.eval,Act.put]) (by simp [Act.eval,Act.put]) (aga _ hF1 hF2 3 (G - (i+1)) (c - i)) ?_)
 go_wp2
 go_ret
 exact⟨rfl,rfl⟩
end
section
open Go.Shelf Go.RowKit Go.Lib Go.Proofs
set_option maxHeartbeats 4000000 in
set_option maxRecDepth 100000 in
theorem MP (base:Option Addr) (n c vb tV vc:Nat) (w w':World) (cv:Value) (uO:n<=c) (JF:base=none ->n=0/\c=0)
  (bu:(Builtin.append_ #[138,138] 138 #[.slice base n c,.slice (some ⟨vb,tV,none⟩) 1 vc]).run prog w= .ok cv w'):
  Calls prog 233 #[.slice base n c,.int .i64 n,.slice (some ⟨vb,tV,none⟩) 1 vc] w λe w2=>e= .returned cv/\w2=w':=by
 have mixed:prog.follows .mixedOrders=true:=af;have t3:prog.underlying 3=some (.int .i64):=rfl;have a3:∀w,(isAgg 3).run prog w= .ok false w:=λw=>rfl;have z3:∀w,(Go.sizeOf 3).run prog w= .ok 1 w:=λw=>rfl;have v3:∀w,(zeroValue 3).run prog w= .ok (.int .i64 0) w:=λw=>rfl;have t4:prog.underlying 4=some .bool:=rfl;have a4:∀w,(isAgg 4).run prog w= .ok false w:=λw=>rfl;have z4:∀w,(Go.sizeOf 4).run prog w= .ok 1 w:=λw=>rfl;have v4:∀w,(zeroValue 4).run prog w= .ok (.bool false) w:=λw=>rfl;have z9:∀w,(Go.sizeOf 70).run prog w= .ok 12 w:=λw=>rfl;have t24:prog.underlying 138=some (.slice 70):=rfl;have a24:∀w,(isAgg 138).run prog w= .ok false w:=λw=>rfl;have z24:∀w,(Go.sizeOf 138).run prog w= .ok 1 w:=λw=>rfl;have v24:∀w,(zeroValue 138).run prog w= .ok (.slice none 0 0) w:=λw=>rfl;have u3:=run_underlying t3;have u4:=run_underlying t4;have u24:=run_underlying t24;have hsz:(prog.info? 70).map (·.size)=some 12:=rfl;have IX:¬((1:Int)=0):=by omega
 go_enter (show prog.funcs[233]?=some f233 from rfl),(show f233.ntmps=95 from rfl)
 cases base with
 |none=>
  obtain⟨h0,h1⟩:=JF rfl;subst h0 h1
  go_wp2_with (at_builtin;refine Lib.wpList_append_run _ rfl _ _ _ _ rfl _ _ rfl rfl _ _ bu ?_)
  go_ret
  exact⟨rfl,rfl⟩
 |some a=>
  obtain⟨ab,ao,asp⟩:=a
  go_wp2_with (at_builtin;refine Lib.wpList_append_run _ rfl _ _ _ _ rfl _ _ rfl rfl _ _ bu ?_)
  all_goals (go_ret;exact⟨rfl,rfl⟩)
def wo {α:Type} (xs:List α) (i:Nat) (d:α):List α:=xs.take i++d::xs.drop i
theorem zE {α:Type} {xs:List α} {i:Nat} {d:α} (hi:i<=xs.length):(wo xs i d).length=xs.length+1:=by
 unfold wo;rw [List.length_append,List.length_cons,List.length_take,List.length_drop,Nat.min_eq_left hi];omega
structure KE where
 id:Pos
 iv:Pos
 xs:List Q3
 i:Nat
 d:Q3
 ro:Bool
def KE.ok (p:KE) (h:Heap):Prop:=p.i<=p.xs.length/\p.xs.length<=1048575/\p.id≠p.iv/\h.t.get p.id=some (.gl (aQ.l p.xs) false)/\h.t.get p.iv=some (.gl (aQ.l [p.d]) p.ro)
def KE.ar (p:KE):AV:= .cons (.gs p.id p.xs.length 12) (.cons (.int .i64 (p.i:Int)) (.cons (.gs p.iv 1 12) .nil))
open Classical in
def Cf (call:eL ->AV ->Heap ->CR):eL ->AV ->Heap ->CR:=λt a h=>
 if hx:∃p:KE,p.ok h/\t= .fn 233/\a=p.ar then .ret (.gs h.n (hx.choose.xs.length+1) 12) ⟨(h.t.del hx.choose.id).set (.gl (aQ.l (wo hx.choose.xs hx.choose.i hx.choose.d)) false) h.n,h.n.succ⟩else call t a h
theorem MQ {call:eL ->AV ->Heap ->CR} (p:KE) {h:Heap} (hp:p.ok h) {uZ:AV} (ha:uZ=p.ar) {K:AV ->Heap ->Prop} (hk:K (.gs h.n (p.xs.length+1) 12) ⟨(h.t.del p.id).set (.gl (aQ.l (wo p.xs p.i p.d)) false) h.n,h.n.succ⟩):
  ∃v h',Cf call (.fn 233) uZ h= .ret v h'/\K v h':=by
 subst ha;have hx:∃q:KE,q.ok h/\eL.fn 233= .fn 233/\p.ar=q.ar:=⟨p,hp,rfl,rfl⟩
 refine⟨_,_,dif_pos hx,?_⟩;obtain⟨⟨_,_,_,h1,h2⟩,_,h3⟩:=hx.choose_spec;generalize hx.choose=q at*;obtain⟨id,iv,xs,i,d,ro⟩:=p;obtain⟨id',iv',xs',i',d',Xt⟩:=q;obtain⟨_,_,_,k1,k2⟩:=hp;injection h3 with a1 a2;injection a1 with a1 _ _;injection a2 with a2 a3;injection a2 with _ a2;injection a3 with a3 _;injection a3 with a3 _ _;have b1:id=id':=a1;have b3:iv=iv':=a3;have b2:i=i':=Int.ofNat.inj a2;clear a1 a2 a3;subst b1 b3 b2;have e1:aQ.l xs=aQ.l xs':=by
  have:=k1.symm.trans h1;injection this with this;injection this
 have e2:aQ.l [d]=aQ.l [d']:=by
  have:=k2.symm.trans h2;injection this with this;injection this
 have e1:= @bW.vd fp _ aQ _ _ e1;have e2:= @bW.vd fp _ aQ _ _ e2;injection e2 with e2 _;subst e1 e2;exact hk
theorem rR {call:eL ->AV ->Heap ->CR} {f':FuncId} (dD:f'≠233) {a:AV} {h:Heap} {K:AV ->Heap ->Prop} (hk:∃v h',call (.fn f') a h= .ret v h'/\K v h'):∃v h',Cf call (.fn f') a h= .ret v h'/\K v h':=by
 obtain⟨v,h',e,k⟩:=hk;refine⟨v,h',?_,k⟩;unfold Cf;rw [dif_neg]
 .exact e
 .rintro ⟨p,_,e,_⟩;exact dD (by injection e)
theorem TZ {α:Type} (xs:List α) (d:α):wo xs xs.length d=xs++[d]:=by
 unfold wo;rw [List.take_length,List.drop_length]
theorem Qr {μ:Mu} {xs:List Q3} {d:Q3} {i:Nat} {gI vs:List Value} (hi:i<=xs.length) (hv:cJ μ (aQ.l xs) gI) (hd:cJ μ (aQ.l [d]) vs):cJ μ (aQ.l (wo xs i d)) (gI.take (i*12)++(vs++gI.drop (i*12))):=by
 have hlen:gI.length=xs.length*12:=by rw [<-hv.len];exact @bW.ep fp _ aQ xs
 have h1:=(cJ.take (i*12) hv (@bW.jW fp _ aQ xs i hi)).1;have h2:=cJ.drop (i*12) hv (by omega);rw [show cZ (i*12) (aQ.l xs)=aQ.l (xs.drop i)from @bW.xK fp _ aQ xs i hi]at h2;have e:aQ.l (wo xs i d)=app (aQ.l (xs.take i)) (app (aQ.l [d]) (aQ.l (xs.drop i))):=by
  rw [@bW.ot fp _ aQ,@bW.ot fp _ aQ];rfl
 rw [e];exact cJ.app (cJ.app h2 hd) h1
theorem Hb {T:aT} {B0:Nat} {call:eL ->AV ->Heap ->CR} (aZ:@aU T prog B0 call):@aU T prog B0 (Cf call):=by
 letI:aT:=T
 intro t a h v h' e μ w hr;unfold Cf at e;split at e
 .rename_i hx;obtain⟨gy,ht,ha⟩:=hx.choose_spec;generalize hx.choose=p at*;obtain⟨AZ,iv,xs,i,d,ro⟩:=p;obtain⟨hi,hl,dD,hg,hgv⟩:=gy;have hi:i<=xs.length:=hi;have hl:xs.length<=1048575:=hl;have dD:AZ≠iv:=dD;have hg:h.t.get AZ=some (.gl (aQ.l xs) false):=hg;have hgv:h.t.get iv=some (.gl (aQ.l [d]) ro):=hgv;subst ht ha;cases e;refine⟨λcargs=>ae _ f233 cargs w rfl rfl,λcargs eR=>?_⟩;obtain⟨v0,r,e1,hv0,v1,r1,e2,hv1,v2,r2,e3,hv2,h4⟩:=eR;have h4:r2=[]:=h4;have hv1:[v1]=[.int .i64 (i:Int)]:=hv1;injection hv1 with hv1 _;subst h4 e3 e2 hv1;have hca:cargs=#[v0,.int .i64 (i:Int),v2]:=by cases cargs;simp at e1;rw [e1]
  subst hca;obtain⟨i0,zv,hi0,XE,iO,Io,hib⟩:∃(i0:TypeInfo) (zv:Value),prog.info? 70=some i0/\i0.zero=some zv/\i0.size=12/\zv.cells.size=12/\i0.bytes<=1024:=⟨_,_,rfl,rfl,rfl,rfl,by decide⟩
  have aiQ:=hv0;obtain⟨B,hB,wP⟩:=hv0;have aj4:=hv2;obtain⟨Bv,hBv,aiR⟩:=hv2;obtain⟨cv,rfl,aj5⟩:∃c,v2= .slice (some ⟨Bv.b,Bv.base,none⟩) 1 c/\1<=c:=by
   rcases aiR with ⟨c,hc,h4,_⟩|⟨h0,_⟩
   .exact⟨c,by injection hc,h4⟩
   .cases h0
  have hinv:¬(AO.gl (aQ.l [d]) ro).cU Bv:=λ⟨_,r,e⟩=>by injection e with e _;cases e
  rcases hr.obj iv Bv _ hBv hgv with ⟨_,h0⟩|⟨vs,xG,aj6,c2,el2,fz2,hh2,aj7,agb,_,aiS⟩
  .cases h0
  have Rf:vs.length=12:=by rw [<-xG.len];rfl
  have h1v:∀v∈vs,v.oneCell'=true:=eJ xG (@bW.kF fp _ aQ [d]);have KF:∀j v,vs[j]?=some v ->w.cell? ⟨Bv.b,Bv.base+j,none⟩=some v:=λj v hj=>by
   simp only [World.cell?,hh2];exact aiS j v hj
  have hfr:∀{b off:Nat} {c:Array Value} {el:TypeId} {fz:Nat×Nat},w.heap[b]?=some (.cells c el fz) ->Xv fz c.size ->off<=c.size ->w.frozen? ⟨b,off,none⟩=false:=λ{b off c el fz} h1 h2 h3=>by
   have hu:=h2 off h3;obtain⟨f1,f2⟩:=fz;simp [World.frozen?,h1];intro e;simp at hu;exact hu e
  by_cases dF:i=xs.length
  .subst dF;have hlx:(aQ.l xs).len=xs.length*12:= @bW.ep fp _ aQ xs;have cW:iw 12 i0.bytes (.gs AZ xs.length 12) (.gs iv 1 12) 1 (aQ.l [d]) h= .val (.gs h.n (xs.length+1) 12) ⟨(h.t.del AZ).set (.gl (aQ.l (wo xs xs.length d)) false) h.n,h.n.succ⟩:=by
    have gy:gN 12 12 i0.bytes (xs.length+1) (aQ.l [d])=true:=by
     unfold gN;refine aq.2 ⟨rfl,aq.2 ⟨?_,@bW.kF fp _ aQ [d]⟩⟩;refine Nat.ble_eq_true_of_le (show(xs.length+1)*(i0.bytes+1)<=1099511627776 from ?_);calc (xs.length+1)*(i0.bytes+1)<=1048576*1025:=Nat.mul_le_mul (by omega) (by omega)
      _<=_:=by decide
    show Bool.casesOn (motive:=λ_=>OR) (gN 12 12 i0.bytes (xs.length+1) (aQ.l [d])) .fail (match h.t.get AZ with
     |some (.gl l ro)=>Bool.casesOn (motive:=λ_=>OR) (aF (aY ro) (Nat.beq (Nat.mul xs.length 12) l.len))
      (Bool.casesOn (motive:=λ_=>OR) ro (Option.casesOn (motive:=λ_=>OR) (dS (Nat.mul xs.length 12) l) .fail (λold=>gX old (aQ.l [d]) (some AZ) (xs.length+1) 12 h)) .fail)
      (gX l (aQ.l [d]) (some AZ) (xs.length+1) 12 h)
     |_=> .fail)=_
    rw [gy,hg];show Bool.casesOn (motive:=λ_=>OR) (aF (aY false) (Nat.beq (Nat.mul xs.length 12) (aQ.l xs).len)) _ (gX (aQ.l xs) (aQ.l [d]) (some AZ) (xs.length+1) 12 h)=_;rw [hlx,show Nat.beq (Nat.mul xs.length 12) (xs.length*12)=true from Nat.beq_refl _,TZ,<-@bW.ot fp _ aQ];rfl
   have agc:∀w,(Builtin.lenOf (.slice (some ⟨Bv.b,Bv.base,none⟩) 1 cv)).run prog w= .ok 1 w:=λw=>by simp [Builtin.lenOf]
   obtain⟨c',μ',w',bu,hvv,hp⟩:=sD (P:=prog) hr (ts:=#[138,138]) (ty:=138) (aZs:=#[v0,.slice (some ⟨Bv.b,Bv.base,none⟩) 1 cv]) (t:=138) (u:=138) (e:=70) (zv:=zv) (sz:=12) (by_:=i0.bytes) rfl rfl rfl rfl rfl rfl (by unfold iM;rw [hi0];rfl) (by unfold lD;rw [hi0];exact XE) Io (dx:= .slice 70) rfl (λk e=>by cases e) agc aiQ xG (by rw [Rf]) (λw' hw=>run_firstCells_some (P:=prog) w' 12 1 ⟨Bv.b,Bv.base,none⟩ 1 cv vs (by rw [Rf]) (λj v hj=>by
    rw [Addr.add_lit];have:=KF j v hj;simp only [World.cell?,hw]at this ⊢;exact this)) cW
   rcases wP with ⟨c,hc,uO,_⟩|⟨h0,hc⟩
   .injection hc with hc _;subst hc;exact(MP (some ⟨B.b,B.base,none⟩) xs.length c Bv.b Bv.base cv w w' c' uO (λe=>by cases e) bu).mono λe w2 ⟨he,hw⟩=>⟨c',μ',he,hvv,by rw [hw];exact hp⟩
   .injection hc with hc _;subst hc;have h0:xs.length=0:=h0;obtain rfl:=List.length_eq_zero_iff.1 h0;exact(MP none 0 0 Bv.b Bv.base cv w w' c' (Nat.le_refl _) (λ_=>⟨rfl,rfl⟩) bu).mono λe w2 ⟨he,hw⟩=>⟨c',μ',he,hvv,by rw [hw];exact hp⟩
  .have agd:i<xs.length:=(by omega);obtain⟨c0,rfl,xB,aiT⟩:∃c,v0= .slice (some ⟨B.b,B.base,none⟩) xs.length c/\xs.length<=c/\c*12<=B.n:=by
    rcases wP with ⟨c,hc,h4,h5⟩|⟨h0,_⟩
    .exact⟨c,by injection hc,h4,h5⟩
    .have h0:xs.length=0:=h0;omega
   have Dt:aQ.l xs≠.nil:=λh0=>by
    have:= @bW.ep fp _ aQ xs;rw [h0]at this;have this:0=xs.length*12:=this;omega
   have adt:¬(AO.gl (aQ.l xs) false).cU B:=λ⟨_,ro,e⟩=>by injection e with e _;exact Dt e
   rcases hr.obj AZ B _ hB hg with ⟨_,h0⟩|⟨gI,hv,aj8,c,el,fz,hh,Xe,Yk,_,Az⟩
   .exact absurd h0 Dt
   have hlen:gI.length=xs.length*12:=(by rw [<-hv.len];exact @bW.ep fp _ aQ xs);have hbb:Bv.b≠B.b:=λe=>by
    rcases hr.sep AZ iv B Bv _ _ dD hB hBv hg hgv with h5|h5|h5
    .exact h5 e.symm
    .exact adt h5
    .exact hinv h5
   have abr:∀j v,gI[j]?=some v ->w.cell? ⟨B.b,B.base+j,none⟩=some v:=λj v hj=>by
    simp only [World.cell?,hh];exact Az j v hj
   have h1c:∀v∈gI,v.oneCell'=true:=eJ hv (@bW.kF fp _ aQ xs);have afF:B.b<w.heap.size:=(Array.getElem?_eq_some_iff.1 hh).1;have RQ:=(hr.own AZ B _ hB hg rfl).resolve_left adt;have hVR:=Qr hi hv xG;have hNL:(gI.take (i*12)++(vs++gI.drop (i*12))).length=(xs.length+1)*12:=by
    rw [List.length_append,List.length_append,List.length_take,List.length_drop];omega
   have mo:∀k v,(gI.take (i*12)++(vs++gI.drop (i*12)))[k]?=some v ->(k<i*12/\gI[k]?=some v)\/(i*12<=k/\k<(i+1)*12/\vs[k - i*12]?=some v)\/((i+1)*12<=k/\(gI.drop (i*12))[k - (i+1)*12]?=some v):=λk v hk=>by
    have cR:(gI.take (i*12)).length=i*12:=(by rw [List.length_take];omega);by_cases h1:k<i*12
    .rw [List.getElem?_append_left (by omega),List.getElem?_take,if_pos h1]at hk;exact .inl ⟨h1,hk⟩
    .rw [List.getElem?_append_right (by omega),cR]at hk;by_cases h2:k<(i+1)*12
     .rw [List.getElem?_append_left (by omega)]at hk;exact .inr (.inl ⟨by omega,h2,hk⟩)
     .rw [List.getElem?_append_right (by omega),Rf]at hk;exact .inr (.inr ⟨by omega,by rw [show k - (i+1)*12=k - i*12 - 12 by omega];exact hk⟩)
   have Jn:∀(X:nJ) (q:Pos),q.toNat<h.n.toNat ->(μ.put h.n X) q=μ q:=λX q hq=>Mu.bc _ _ _ (λe'=>by subst e';omega);by_cases pK:xs.length+1<=c0
   .refine(Qq B.b B.base xs.length c0 i Bv.b Bv.base cv gI vs w agd pK (by omega) hbb hlen Rf abr (λj hj=>?_) (λj hj=>hfr hh Yk (by omega)) KF h1c h1v el2 el c2.size c.size (by simp only [World.shape?,hh2]) (by simp only [World.shape?,hh]) (by omega) (hfr hh2 agb (by omega)) (hfr hh2 agb (Nat.le_refl _))).mono λe w' ⟨he,hw⟩=>?_
    .simp only [World.cell?,hh];rw [Array.getElem?_eq_getElem (by omega)];rfl
    obtain⟨c1,a1,a2,a3,a4,a5,a6,a7,a8⟩:=eI B.b el fz (gI.drop (i*12)) (B.base+(i+1)*12) w.drew c hh (by rw [List.length_drop];omega);obtain⟨c3,b1,b2,b3,b4,b5,b6,b7,b8⟩:=eI B.b el fz vs (B.base+i*12) (w.drew.setCells B.b (B.base+(i+1)*12) (gI.drop (i*12))) c1 a1 (by omega);rw [<-hw]at b1 b4 b5 b6 b7 b8;refine⟨_,μ.put h.n B,he,⟨B,Mu.ct _ _ _,.inl ⟨c0,rfl,pK,aiT⟩⟩,Jn _,by show h.n.toNat<=h.n.succ.toNat;rw [Pos.cV];omega,?_,?_,Grow.refl _ _⟩
    .refine hr.ae8 AZ B B hB _ hg rfl adt rfl (.gl (aQ.l (wo xs i d)) false) (λk hk=>(b4 k hk).trans (a4 k hk)) (by rw [b5,a5];exact Nat.le_refl _) (.inr ⟨_,hVR.mono (Mu.oY hr.nL _),by rw [hNL];omega,c3,el,fz,b1,by omega,by rw [b2,a2];exact Yk,(λe=>by cases e),λk v hk=>?_⟩) _ (λq p e=>?_)
     .rw [b3,a3];have hdl:(gI.drop (i*12)).length=(xs.length - i)*12:=(by rw [List.length_drop];omega);rcases mo k v hk with ⟨h1,h2⟩|⟨h1,h2,h3⟩|⟨h1,h2⟩
      .rw [if_neg (by omega),if_neg (by omega)];exact Az k v h2
      .rw [if_pos (by omega),show B.base+k - (B.base+i*12)=k - i*12 by omega];exact h3
      .have hkl:=(List.getElem?_eq_some_iff.1 h2).1;rw [if_neg (by omega),if_pos (by omega),show B.base+k - (B.base+(i+1)*12)=k - (i+1)*12 by omega];exact h2
     .rw [Tr.bE]at e;by_cases hq:q=h.n
      .rw [if_pos hq]at e;cases e;exact .inl ⟨hq,rfl⟩
      .rw [if_neg hq,Tr.rn]at e;by_cases hqi:q=AZ
       .rw [if_pos hqi]at e;cases e
       .rw [if_neg hqi]at e;exact .inr ⟨hq,hqi,e⟩
    .refine⟨⟨b6.trans a6,b7.trans a7,b8.trans a8,by rw [b5,a5];exact Nat.le_refl _,λk hk=>(b4 k (by omega)).trans (a4 k (by omega))⟩,λ_=>?_⟩;rw [hw,dP,dP];exact Nat.le_succ _
   .obtain rfl:c0=xs.length:=by omega
    have Jm:(xs.length+1)*i0.bytes<=140737488355328:=
     calc (xs.length+1)*i0.bytes<=1048576*1024:=Nat.mul_le_mul (by omega) hib
      _<=_:=by decide
    refine(TY B.b B.base xs.length xs.length i Bv.b Bv.base cv gI vs w i0 zv hi0 XE iO Io agd (Nat.le_refl _) (by omega) Jm (by omega) hlen Rf abr KF h1c h1v).mono λe w' ⟨he,hw⟩=>?_;have hG:=grownCap_ge w (xs.length+1) xs.length 70;generalize grownCap w (xs.length+1) xs.length 70=G at he hw hG;have XD:zv.cells.size=12:=Io;obtain⟨C,hC⟩:∃C,C=(gI.take (i*12)).toArray++Builtin.zeroCells zv.cells (xs.length+1 - i)++Builtin.zeroCells zv.cells (G - (xs.length+1)):=⟨_,rfl⟩
    rw [<-hC]at hw;have hCs:C.size=G*12:=by
     rw [hC,Array.size_append,Array.size_append,size_zeroCells,size_zeroCells,XD,List.size_toArray,List.length_take];omega
    have hC0:∀k,k<i*12 ->C[k]?=gI[k]?:=λk hk=>by
     have cR:(gI.take (i*12)).toArray.size=i*12:=(by rw [List.size_toArray,List.length_take];omega);rw [hC,Array.getElem?_append_left (by rw [Array.size_append];omega),Array.getElem?_append_left (by omega),List.getElem?_toArray,List.getElem?_take,if_pos hk]
    have AG:(w.alloc (.cells C 70)).drew.heap[w.heap.size]?=some (.cells C 70 (0,0)):=by
     show(w.heap.push _)[w.heap.size]?=_;rw [Array.getElem?_push_size]
    obtain⟨c1,a1,a2,a3,a4,a5,a6,a7,a8⟩:=eI w.heap.size 70 (0,0) vs (i*12) (w.alloc (.cells C 70)).drew C AG (by omega);obtain⟨c3,b1,b2,b3,b4,b5,b6,b7,b8⟩:=eI w.heap.size 70 (0,0) (gI.drop (i*12)) ((i+1)*12) ((w.alloc (.cells C 70)).drew.setCells w.heap.size (i*12) vs).drew c1 a1 (by rw [List.length_drop];omega);rw [<-hw]at b1 b4 b5 b6 b7 b8;have aj9:w'.heap.size=w.heap.size+1:=by
     rw [b5];show(World.heap _).size=_;rw [show((w.alloc (.cells C 70)).drew.setCells w.heap.size (i*12) vs).drew.heap.size=((w.alloc (.cells C 70)).drew.setCells w.heap.size (i*12) vs).heap.size from rfl,a5];exact Array.size_push _
    have abt:w'.heap=(w.alloc (.cells c3 70)).heap:=by
     apply Array.ext_getElem?;intro k;by_cases h1:k=w.heap.size
     .subst h1;rw [b1];show _=(w.heap.push _)[w.heap.size]?;rw [Array.getElem?_push_size]
     .rw [b4 k h1,show((w.alloc (.cells C 70)).drew.setCells w.heap.size (i*12) vs).drew.heap[k]?=((w.alloc (.cells C 70)).drew.setCells w.heap.size (i*12) vs).heap[k]? from rfl,a4 k h1];show(w.heap.push _)[k]?=(w.heap.push _)[k]?;rw [Array.getElem?_push,Array.getElem?_push,if_neg h1,if_neg h1]
    have aiU:c3.size=G*12:=(by rw [b2,a2,hCs]);have hN:=Dp (n:=(xs.length+1)*12) (k:= .slice (xs.length+1) 12 12) (hr.kill AZ) hVR rfl c3 70 (λk v hk=>by
     have hdl:(gI.drop (i*12)).length=(xs.length - i)*12:=(by rw [List.length_drop];omega);rw [b3,a3];rcases mo k v hk with ⟨h1,h2⟩|⟨h1,h2,h3⟩|⟨h1,h2⟩
     .rw [if_neg (by omega),if_neg (by omega),hC0 k h1];exact h2
     .rw [if_neg (by omega),if_pos (by omega)];exact h3
     .have hkl:=(List.getElem?_eq_some_iff.1 h2).1;rw [if_pos (by omega)];exact h2) (by rw [aiU];omega)
    refine⟨_,μ.put h.n ⟨w.heap.size,0,c3.size⟩,he,⟨⟨w.heap.size,0,c3.size⟩,Mu.ct _ _ _,.inl ⟨G,rfl,hG,by show G*12<=c3.size;omega⟩⟩,Jn _,by show h.n.toNat<=h.n.succ.toNat;rw [Pos.cV];omega,HR.yo abt hN,?_,Grow.refl _ _⟩;refine⟨⟨b6.trans a6,b7.trans a7,b8.trans a8,by omega,λk hk=>?_⟩,λ_=>?_⟩
    .have vJ:k<w.heap.size:=Nat.lt_of_lt_of_le hk hr.size;rw [abt];show(w.heap.push _)[k]?=w.heap[k]?;rw [Array.getElem?_push_lt vJ,Array.getElem?_eq_getElem vJ]
    .rw [hw,dP];show _<=(World.drawn _)+1;rw [dP];exact Nat.le_succ_of_le (Nat.le_succ _)
 .exact aZ t a h v h' e μ w hr
end
section
attribute [local irreducible] Cw ak bq PF Sub
attribute [local instance] fp
def YS:List (Cn prog):=[tR]
def lQ3 (a:Q3):AV:=match aQ.v a with| .agg l=>l|_=> .nil
theorem abu (a:Q3):aQ.v a= .agg (lQ3 a):=rfl
theorem Ua (a:Q3):dj (lQ3 a):=aQ.bm [a]
def YT (a:Q3):Q:=Q.add (Q.add (Q.add (0,0) a.1) a.2.1) a.2.2
def MT (a:Q3):Prop:=oD (0,0) a.1/\oD (Q.add (0,0) a.1) a.2.1/\oD (Q.add (Q.add (0,0) a.1) a.2.1) a.2.2
set_option maxHeartbeats 0 in
theorem adu (a:Q3) (h:MT a):dQ 177 (.cons (.ro 3 (lQ3 a)) .nil) (aK.v (YT a)):=by
 obtain⟨⟨x0,y0⟩,⟨x1,y1⟩,⟨x2,y2⟩⟩:=a;obtain⟨h0,h1,h2⟩:=h;refine PF.of_wp (c:=_) af (by decide) (fn:=f177) rfl rfl rfl (.cons .ro .nil) (call:=aH YS) (λB0=>az ae _ B0) ?_;intro B0;conv=>whnf
 refine Cw.bH af rfl rfl (az ae _ B0) 4 (aC ?_);refine aL.go 0 rfl (by decide) (aC ?_);refine⟨_,rfl,aC ?_⟩;refine df YS 0 tR ((0,0),(x0,y0)) h0 (eD ?_);refine aL.go 1 rfl (by decide) (aC ?_);refine⟨_,rfl,aC ?_⟩;refine df YS 0 tR (Q.add (0,0) (x0,y0),(x1,y1)) h1 (eD ?_);refine aL.go 2 rfl (by decide) (aC ?_);refine⟨_,rfl,aC ?_⟩;refine df YS 0 tR (Q.add (Q.add (0,0) (x0,y0)) (x1,y1),(x2,y2)) h2 (eD ?_);exact ak.same rfl (aK.an (YT ((x0,y0),(x1,y1),(x2,y2))))
def Ub:Cn prog:=
 Cn.mk 177 false Q3 (λa=> .cons (.ro 3 (lQ3 a)) .nil) (λa=>aK.v (YT a)) MT
  (λa b _ _ h=>by
   injection h with h1 _;injection h1 with _ h2;have:aQ.v a=aQ.v b:=(by rw [abu,abu,h2]);rw [aQ.bO this])
  (λa=>⟨Ua a,aB⟩) (λa=>aK.an _) (λh=>by cases h) (λa h=>adu a h) (aw rfl rfl)
def adv:List (Cn prog):=[Ce,Ub]
def bw (a b:Q3):Q:=YT (jC Q.mul a b)
def oG (a b:Q3):Prop:=rP oE a b/\MT (jC Q.mul a b)
theorem adw (a b:Q3) (h:oG a b):dQ 104 (.cons (aQ.v a) (.cons (aQ.v b) .nil)) (aK.v (bw a b)):=by
 obtain⟨⟨x0,y0⟩,⟨x1,y1⟩,⟨x2,y2⟩⟩:=a;obtain⟨⟨u0,v0⟩,⟨u1,v1⟩,⟨u2,v2⟩⟩:=b;obtain⟨h1,h2⟩:=h;refine PF.of_wp (c:=_) af (by decide) (fn:=f104) rfl rfl rfl (.cons (aQ.an _) (.cons (aQ.an _) .nil)) (call:=zA (aH adv)) (λB0=>qR (az ae _ B0)) ?_;intro B0;conv=>whnf
 refine oF (l:=adv) (by decide) 0 (c:=Ce) rfl (((x0,y0),(x1,y1),(x2,y2)),((u0,v0),(u1,v1),(u2,v2))) h1 TL rfl (aC ?_);refine oF (l:=adv) (by decide) 1 (c:=Ub) rfl (jC Q.mul ((x0,y0),(x1,y1),(x2,y2)) ((u0,v0),(u1,v1),(u2,v2))) h2 ?_ ?_ ?_
 .repeat' first|exact aB|exact rfl|refine⟨?_,?_⟩
 .rfl
 conv=>whnf
 exact ak.same rfl (aK.an (bw ((x0,y0),(x1,y1),(x2,y2)) ((u0,v0),(u1,v1),(u2,v2))))
def kJ:Cn prog:= .kP aQ aQ aK 104 false oG bw (λe=>by cases e) adw (aw rfl rfl)
end
section
attribute [local instance] fp
section
def Uc:aQ.Rd:=tU.pair (tU.pair tU)
def b3 (f:Q ->Q ->Bool) (a b:Q3):Bool:=aF (f a.1 b.1) (aF (f a.2.1 b.2.1) (f a.2.2 b.2.2))
theorem Hc {f:Q ->Q ->Bool} {R:Q ->Q ->Prop} (hf:∀{p q},f p q=true ->R p q) {a b:Q3} (h:b3 f a b=true):rP R a b:=by
 obtain⟨h1,h2⟩:=aq.1 h;obtain⟨h2,h3⟩:=aq.1 h2;exact⟨hf h1,hf h2,hf h3⟩
def Ud (p q:Q):Bool:=Kz p (Q.neg q)
theorem xS {p q:Q} (h:Ud p q=true):kq p q:=rQ h
def crB (p q r s:Q):Bool:=aF (qQ p q) (aF (qQ r s) (Ud (Q.mul p q) (Q.mul r s)))
theorem KG {p q r s:Q} (h:crB p q r s=true):TM p q r s:=by
 obtain⟨h1,h2⟩:=aq.1 h;obtain⟨h2,h3⟩:=aq.1 h2;exact⟨pB h1,pB h2,xS h3⟩
def Ue (a b:Q3):Bool:=aF (crB a.2.1 b.2.2 a.2.2 b.2.1) (aF (crB a.2.2 b.1 a.1 b.2.2) (crB a.1 b.2.1 a.2.1 b.1))
theorem Qs {a b:Q3} (h:Ue a b=true):pA a b:=by
 obtain⟨h1,h2⟩:=aq.1 h;obtain⟨h2,h3⟩:=aq.1 h2;exact⟨KG h1,KG h2,KG h3⟩
def age (a:Q3):Bool:=aF (Kz (0,0) a.1) (aF (Kz (Q.add (0,0) a.1) a.2.1) (Kz (Q.add (Q.add (0,0) a.1) a.2.1) a.2.2))
theorem YU {a:Q3} (h:age a=true):MT a:=by
 obtain⟨h1,h2⟩:=aq.1 h;obtain⟨h2,h3⟩:=aq.1 h2;exact⟨rQ h1,rQ h2,rQ h3⟩
def agf (a b:Q3):Bool:=aF (b3 qQ a b) (age (jC Q.mul a b))
theorem YV {a b:Q3} (h:agf a b=true):oG a b:=by
 obtain⟨h1,h2⟩:=aq.1 h;exact⟨Hc pB h1,YU h2⟩
def aiV (p q:Q):Bool:=sh4 p q
def adx:Dc prog:=⟨tS,mV tU tU,λa=>Ud a.1 a.2,λ_ _ h=>dW h,λ_ h=>xS h⟩
def KH:Dc prog:=⟨fb,mV Uc Uc,λa=>b3 aiV a.1 a.2,λ_ _ h=>dW h,λ_ h=>Hc TQ h⟩
def ady:Dc prog:=⟨Kv,mV Uc Uc,λa=>b3 Kz a.1 a.2,λ_ _ h=>dW h,λ_ h=>Hc rQ h⟩
def adz:Dc prog:=⟨Kw,mV Uc Uc,λa=>b3 Ud a.1 a.2,λ_ _ h=>dW h,λ_ h=>Hc xS h⟩
def adA:Dc prog:=⟨tT,zf Uc,λa=>b3 Ud z3 a,λ_ _ h=>lP h,λ_ h=>Hc xS h⟩
def Uf:Dc prog:=⟨qP,mV Uc Uc,λa=>Ue a.1 a.2,λ_ _ h=>dW h,λ_ h=>Qs h⟩
def adB:Dc prog:=⟨kJ,mV Uc Uc,λa=>agf a.1 a.2,λ_ _ h=>dW h,λ_ h=>YV h⟩
def agh:List (Dc prog):=[adx,KH,ady,adz,adA,Uf,adB]
end
end
def xh:List Int:=[1,10,100,1000,10000,100000,1000000,10000000,100000000,1000000000,10000000000,100000000000,1000000000000,10000000000000,100000000000000,1000000000000000,10000000000000000,100000000000000000,1000000000000000000,10000000000000000000]
def abv:List Int:=[0,1,56,2,57,49,28,3,61,58,42,50,38,29,17,4,62,47,59,36,45,43,51,22,53,39,33,30,24,18,12,5,63,55,48,27,60,41,37,16,46,35,44,21,52,32,23,11,54,26,40,15,34,20,31,10,25,14,19,9,13,8,7,6]
def abw:List Int:=[0,1,28,2,29,14,24,3,30,22,20,15,25,17,4,8,31,27,13,23,21,19,16,7,26,12,18,6,11,5,10,9]
instance bZ:aT:=⟨[(.undef,0),(tf .u8 abv,64),(.undef,0),(.undef,0),(.undef,0),(.undef,0),(tf .u64 xh,20),(tf .u8 abw,32)],0⟩
def dc0:List (Dc prog):=(Ha::TX::(agh++(ado++af4))).map (Dc.lift bZ)
def vq:eL ->AV ->Heap ->Option CR:=ovD (sL dc0)
theorem iR (B0:Nat):xw prog B0 vq:=ze ae _ B0
section
attribute [local irreducible] Cw ak bq PF Sub
attribute [local instance] fp
abbrev lS:=Q3×Q×List Int
abbrev Ug:=Int×Int×Int×Int
abbrev dh:=List Q3×List lS×List Ug
abbrev fA:=Int×List dh
abbrev Bc:=(Q3×Q3×Q3)×Q3
def bC:bW lS:=aQ.pair (aK.pair (au .i64).list)
def jD:bW Ug:=(au .i64).pair ((au .i64).pair ((au .i64).pair (au .i64)))
def aN:bW dh:=aQ.list.pair (bC.list.pair jD.list)
def bM:bW fA:=(au .i64).pair aN.list
def kY:bW Bc:=(aQ.pair (aQ.pair aQ)).pair aQ
def tM1:List (Cn prog):=[fb]
def cT (a:Q3):Bool:=bD (dH a z3) 0
theorem Uh (a:Q3) (h:rP dt a z3):dQ 80 (.cons (aQ.v a) .nil) (bG.v (cT a)):=by
 refine PF.go af ae tM1 (fn:=f80) rfl rfl rfl λB0 hc=>?_;conv=>whnf
 refine cg tM1 0 fb (a,z3) h (aE ?_);exact ak.same rfl .bool
def mH:Cn prog:= .mU aQ bG 80 true (λa=>rP dt a z3) cT fF Uh (aw rfl rfl)
def tM2:List (Cn prog):=[jZ]
def Iy (n:Int):Prop:= -9223372036854775808<=n/\n<9223372036854775808
def gR (v:V3):Q3:=((v.1,0),(v.2.1,0),(v.2.2,0))
theorem agi (v:V3) (h:Iy v.1/\Iy v.2.1/\Iy v.2.2):dQ 45 (.cons (bL.v v) .nil) (aQ.v (gR v)):=by
 refine PF.go af ae tM2 (fn:=f45) rfl rfl rfl λB0 hc=>?_;conv=>whnf
 refine Cw.bH af rfl rfl hc 4 (aC ?_);refine cg tM2 0 jZ v.1 h.1 (aE ?_);refine cg tM2 0 jZ v.2.1 h.2.1 (aE ?_);refine cg tM2 0 jZ v.2.2 h.2.2 (aE ?_);exact ak.same rfl (aQ.an (gR v))
def zF:Cn prog:= .mU bL aQ 45 false (λv=>Iy v.1/\Iy v.2.1/\Iy v.2.2) gR (λe=>by cases e) agi (aw rfl rfl)
def tM3:List (Cn prog):=[nR]
theorem agj (x y k:Q) (h:oE k x):dQ 148 (.cons (aK.v x) (.cons (aK.v y) (.cons (.dq (aK.l [k]) 0) .nil))) (aK.v (Q.mul k x)):=by
 refine PF.go af ae tM3 (fn:=f148) rfl rfl rfl (hpure:= .cons (aK.an _) (.cons (aK.an _) (.cons .dq .nil))) λB0 hc=>?_;conv=>whnf
 refine⟨_,rfl,aC ?_⟩;refine cg tM3 0 nR (k,x) h (aE ?_);exact ak.same rfl (aK.an (Q.mul k x))
def MU:Cn prog:=
 Cn.mk 148 false (Q×Q×Q) (λp=> .cons (aK.v p.1) (.cons (aK.v p.2.1) (.cons (.dq (aK.l [p.2.2]) 0) .nil))) (λp=>aK.v (Q.mul p.2.2 p.1)) (λp=>oE p.2.2 p.1)
  (λa b _ _ h=>by injection h with h1 h2;injection h2 with _ h2;injection h2 with h2 _;injection h2 with h2 _;injection aK.vd h2 with h2 _;rw [aK.bO h1,h2])
  (λp=>⟨aK.jm _,aK.jm _,aK.bm _,aB⟩) (λp=>aK.an _) (λh=>by cases h) (λp h=>agj _ _ _ h) (aw rfl rfl)
def tM4:List (Cn prog):=[MU]
def qT (a:Q3) (k:Q):Q3:=(Q.mul k a.1,Q.mul k a.2.1,Q.mul k a.2.2)
def Hd (a:Q3) (k:Q):Prop:=oE k a.1/\oE k a.2.1/\oE k a.2.2
def fSc (k:Q):AV:= .func (.func 148) .nil (.cons (.dq (aK.l [k]) 0) .nil)
theorem Ui (k:Q):DP (fSc k):=⟨aB,aK.bm [k],aB⟩
theorem YW (a b:Q3) (k:Q) (h:Hd a k):dQ 147 (.cons (aQ.v a) (.cons (aQ.v b) (.cons (fSc k) .nil))) (aQ.v (qT a k)):=by
 refine PF.go af ae tM4 (fn:=f147) rfl rfl rfl (hpure:= .cons (aQ.an _) (.cons (aQ.an _) (.cons (br (Ui k)) .nil))) λB0 hc=>?_;conv=>whnf
 refine Cw.bH af rfl rfl hc 4 (aC ?_);refine cg tM4 0 MU (a.1,b.1,k) h.1 (aE ?_);refine cg tM4 0 MU (a.2.1,b.2.1,k) h.2.1 (aE ?_);refine cg tM4 0 MU (a.2.2,b.2.2,k) h.2.2 (aE ?_);exact ak.same rfl (aQ.an (qT a k))
def MV:Cn prog:=
 Cn.mk 147 false (Q3×Q3×Q) (λp=> .cons (aQ.v p.1) (.cons (aQ.v p.2.1) (.cons (fSc p.2.2) .nil))) (λp=>aQ.v (qT p.1 p.2.2)) (λp=>Hd p.1 p.2.2)
  (λa b _ _ h=>by injection h with h1 h2;injection h2 with _ h2;injection h2 with h2 _;injection h2 with _ _ h2;injection h2 with h2 _;injection h2 with h2 _;injection aK.vd h2 with h2 _;rw [aQ.bO h1,h2])
  (λp=>⟨aQ.jm _,aQ.jm _,Ui _,aB⟩) (λp=>aQ.an _) (λh=>by cases h) (λp h=>YW _ _ _ h) (aw rfl rfl)
def tM5:List (Cn prog):=[MV]
theorem YX (a:Q3) (k:Q) (h:Hd a k):dQ 87 (.cons (aQ.v a) (.cons (aK.v k) .nil)) (aQ.v (qT a k)):=by
 refine PF.of_wp (c:=_) af (by decide) (fn:=f87) rfl rfl rfl (.cons (aQ.an _) (.cons (aK.an _) .nil)) (call:=zA (aH tM5)) (λB0=>qR (az ae _ B0)) ?_;intro B0;conv=>whnf
 refine oF (l:=tM5) (by decide) 0 (c:=MV) rfl (a,a,k) h ?_ ?_ ?_
 .repeat' first|exact aB|exact rfl|refine⟨?_,?_⟩
 .rfl
 conv=>whnf
 exact ak.same rfl (aQ.an (qT a k))
def pE:Cn prog:= .kP aQ aK aQ 87 false Hd qT (λe=>by cases e) YX (aw rfl rfl)
theorem MW {h:Heap} {t u:AV} (k:bq h t u):bq h (.cons (.bool false) (.cons .bt (.cons (.bool false) (.cons .bt t)))) (.cons (.bool false) (.cons (aM.v 0) (.cons (.bool false) (.cons (aM.v 0) u)))):=
 .cons (.pure .bool) (.cons .bt (.cons (.pure .bool) (.cons .bt k)))
theorem agk (q:Q):dQ 88 (.cons (aK.v q) .nil) (aR.v q.1):=by
 refine PF.go af ae [] (fn:=f88) rfl rfl rfl λB0 hc=>?_;conv=>whnf
 exact ak.same rfl (aR.an q.1)
def MX:Cn prog:= .mU aK aR 88 false (λ_=>True) (λq=>q.1) (λe=>by cases e) (λq _=>agk q) (aw rfl rfl)
def tMk:List (Cn prog):=[fa,fG]
theorem MY {d:Int} (h:d≠0):bD d.sign 0=false:=jo.2 λe=>h (Int.sign_eq_zero_iff_zero.1 e)
theorem adC (n d:Int) (h:pM n d):dQ 86 (.cons (aR.v n) (.cons (aR.v d) .nil)) (.aS (.cons (aK.v (dv n d)) (.cons ((au .i64).v 0) .nil))):=by
 refine PF.go af ae tMk (fn:=f86) rfl rfl rfl λB0 hc=>?_;conv=>whnf
 refine cg tMk 0 fa d aB (aE ?_);refine xA (MY h.2.2) (aC ?_);refine cg tMk 1 fG (n,d) h (aE ?_);exact ak.same rfl (.aS (.cons (aK.an (dv n d)) (.cons .int .nil)))
def KI:Cn prog:= .Gy aR aR aK (au .i64) 86 pM dv (λ_ _=>0) adC (aw rfl rfl)
def He:List (Cn prog):=[lR,fg,fR,fG]
def Q.div (a b:Q):Q:=if b.1=0 then(0,0)else dv (a.1*Q.dn b) (Q.dn a*b.1)
def Q.adD (a b:Q):Int:=if b.1=0 then 19 else 0
def Uj (a b:Q):Prop:=b.1≠0 ->SH a.1/\SH b.1/\SH (Q.dn a)/\SH (Q.dn b)/\pM (a.1*Q.dn b) (Q.dn a*b.1)
theorem adE (a b:Q) (h:Uj a b):dQ 48 (.cons (aK.v a) (.cons (aK.v b) .nil)) (.aS (.cons (aK.v (Q.div a b)) (.cons ((au .i64).v (Q.adD a b)) .nil))):=by
 refine PF.go af ae He (fn:=f48) rfl rfl rfl λB0 hc=>?_;unfold Q.div Q.adD;by_cases h0:b.1=0
 .rw [if_pos h0,if_pos h0];conv=>whnf
  refine cg He 0 lR b aB (aE ?_);refine bT (show bD b.1.sign 0=true by rw [h0];rfl) (aC ?_);exact .aS (.cons (.agg (MW .nil)) (.cons (.pure .int) .nil))
 .rw [if_neg h0,if_neg h0];obtain⟨h1,h2,h3,h4,h5⟩:=h h0;conv=>whnf
  refine cg He 0 lR b aB (aE ?_);refine xA (MY h0) (aE ?_);refine cg He 1 fg b aB (aE ?_);refine cg He 2 fR (a.1,Q.dn b) ⟨h1,h4⟩ (aE ?_);refine cg He 1 fg a aB (aE ?_);refine cg He 2 fR (Q.dn a,b.1) ⟨h3,h2⟩ (aE ?_);refine cg He 3 fG (a.1*Q.dn b,Q.dn a*b.1) h5 (aE ?_);exact ak.same rfl (.aS (.cons (aK.an (dv (a.1*Q.dn b) (Q.dn a*b.1))) (.cons .int .nil)))
def zG:Cn prog:= .Gy aK aK aK (au .i64) 48 Uj Q.div Q.adD adE (aw rfl rfl)
def YY:List (Cn prog):=[ch]
def Q.max (a b:Q):Q:=match cQ 0 (Q.cmp b a)with|true=>b|false=>a
def Q.min (a b:Q):Q:=match cQ (Q.cmp b a) 0 with|true=>b|false=>a
theorem adF (a b:Q) (h:dt b a):dQ 93 (.cons (aK.v a) (.cons (aK.v b) .nil)) (aK.v (Q.max a b)):=by
 refine PF.go af ae YY (fn:=f93) rfl rfl rfl λB0 hc=>?_;unfold Q.max;conv=>whnf
 refine cg YY 0 ch (b,a) h (aE ?_);refine ay (λh1=>?_) (λh1=>?_);all_goals (rw [show cQ 0 (Q.cmp b a)=_ from h1];conv=>whnf)
 .exact ak.same rfl (aK.an b)
 .exact ak.same rfl (aK.an a)
theorem adG (a b:Q) (h:dt b a):dQ 106 (.cons (aK.v a) (.cons (aK.v b) .nil)) (aK.v (Q.min a b)):=by
 refine PF.go af ae YY (fn:=f106) rfl rfl rfl λB0 hc=>?_;unfold Q.min;conv=>whnf
 refine cg YY 0 ch (b,a) h (aE ?_);refine ay (λh1=>?_) (λh1=>?_);all_goals (rw [show cQ (Q.cmp b a) 0=_ from h1];conv=>whnf)
 .exact ak.same rfl (aK.an b)
 .exact ak.same rfl (aK.an a)
def Uk:Cn prog:= .kP aK aK aK 93 false (λa b=>dt b a) Q.max (λe=>by cases e) adF (aw rfl rfl)
def Ul:Cn prog:= .kP aK aK aK 106 false (λa b=>dt b a) Q.min (λe=>by cases e) adG (aw rfl rfl)
def oc (x:Q3):List AV:=[.bool (decide (x.1.1<0)),aM.v x.1.1.natAbs,.bool (decide (x.1.2<0)),aM.v x.1.2.natAbs,.bool (decide (x.2.1.1<0)),aM.v x.2.1.1.natAbs,.bool (decide (x.2.1.2<0)),aM.v x.2.1.2.natAbs,.bool (decide (x.2.2.1<0)),aM.v x.2.2.1.natAbs,.bool (decide (x.2.2.2<0)),aM.v x.2.2.2.natAbs]
def gQ (s:List Q3) (i:Nat):Q3:=s.getD i z3
def YZ (s:List Q3) (x:Q3):Nat ->Nat ->Nat ->Nat
 |0,i,_=>i|f+1,i,j=>match bJ i j with
  |true=>(match cQ (dH (gQ s ((i+j)/2)) x) 0 with|true=>YZ s x f ((i+j)/2+1) j|false=>YZ s x f i ((i+j)/2))
  |false=>i
def Qt (s:List Q3) (x:Q3):Nat:=YZ s x s.length 0 s.length
def Hf (s:List Q3) (x:Q3):Bool:=match bJ (Qt s x) s.length with|true=>bD (dH (gQ s (Qt s x)) x) 0|false=>false
def tBq:List (Cn prog):=[fb]
def adH:AV:= .func (.func 142) .nil .nil
theorem agl (s:List Q3) (x:Q3) (hn:s.length<=1000000) (hk:∀i (h:i<s.length),rP dt s[i] x):dQ 232 (.cons (aQ.list.v s) (.cons (aQ.v x) (.cons adH .nil))) (.aS (.cons ((au .i64).v (Qt s x:Nat)) (.cons (bG.v (Hf s x)) .nil))):=by
 refine PF.go af ae tBq (fn:=f232) rfl rfl rfl λB0 hc=>?_;have gz:∀k (hk:k<s.length),gQ s k=s[k]:=λk hk=>by
  unfold gQ;rw [List.getD_eq_getElem?_getD,List.getElem?_eq_getElem hk];rfl
 conv=>whnf
 refine Cw.loop (ι:=Nat×Nat×Nat) (λq=>bl [(0,aQ.list.v s),(2,adH),(4,.ptr (pathOf 64) 0),(8,.int .i64 (s.length:Int)),(9,.int .i64 (q.2.1:Int)),(10,.int .i64 (q.2.2:Int))]) (λ_=>[]) (λ_=>hp [(64,cl (oc x))] 65)
  (λq=>q.2.1<=q.2.2/\q.2.2<=s.length/\q.2.2 - q.2.1<=q.1/\YZ s x q.1 q.2.1 q.2.2=Qt s x) (λq=>q.1) ?_ (s.length,0,s.length) ⟨Nat.zero_le _,Nat.le_refl _,Nat.sub_le _ _,rfl⟩ ?_
 .intro q hq;obtain⟨f,i,j⟩:=q;obtain⟨h1,h2,h3,h4⟩:=hq;have h1:i<=j:=h1;have h2:j<=s.length:=h2;have h3:j - i<=f:=h3;have h4:YZ s x f i j=Qt s x:=h4;refine aD af rfl rfl hc _ (aC ?_);refine ay (λh5=>?_) (λh5=>?_)
  .have pQ:i<j:=Int.ofNat_lt.1 (aO.1 h5);obtain⟨f,rfl⟩:∃g,f=g+1:=⟨f - 1,by omega⟩
   have Ba:aj .i64 (Int.add (i:Int) (j:Int))=((i+j:Nat):Int):=by
    show aj .i64 ((i:Int)+(j:Int))=_;rw [aA (by omega) (by omega)];omega
   have hu:aj .u64 ((i+j:Nat):Int)=((i+j:Nat):Int):=aW (by omega) (by omega);have hh:aj .i64 (Int.ofNat (Nat.div (Int.toNat (aj .u64 (aj .i64 (Int.add (i:Int) (j:Int))))) 2))=(((i+j)/2:Nat):Int):=by
    rw [Ba,hu,Int.toNat_natCast];show aj .i64 (((i+j)/2:Nat):Int)=_;rw [aA (by omega) (by omega)]
   have ajU:aj .i64 (Int.add (aj .i64 (Int.ofNat (Nat.div (Int.toNat (aj .u64 (aj .i64 (Int.add (i:Int) (j:Int))))) 2))) 1)=(((i+j)/2+1:Nat):Int):=(by rw [hh];exact pS (n:=(i+j)/2+1) (by omega) (by omega));conv=>whnf
   refine⟨⟨?_,by decide⟩,?_⟩
   .show 0<=aj .u64 (aj .i64 (Int.add (i:Int) (j:Int)));rw [Ba,hu];omega
   conv=>whnf
   refine aL.go ((i+j)/2) hh (by omega) (aC ?_);refine⟨_,aQ.rd rfl (i:=(i+j)/2) (by omega),aC ?_⟩;refine cg tBq 0 fb (s[(i+j)/2],x) (hk _ (by omega)) (aC ?_);refine ay (λh6=>?_) (λh6=>?_)
   .have h6:cQ (dH s[(i+j)/2] x) 0=true:=h6;conv=>whnf
    refine⟨(f,(i+j)/2+1,j),⟨by show(i+j)/2+1<=j;omega,h2,by show j - ((i+j)/2+1)<=f;omega,?_⟩,Nat.lt_succ_self _,sb [(64,64)]⟩;rw [<-h4];show _=(match bJ i j with|true=>(match cQ (dH (gQ s ((i+j)/2)) x) 0 with|true=>YZ s x f ((i+j)/2+1) j|false=>_)|false=>_)
    rw [bz.2 pQ,gz _ (by omega),h6]
   .have h6:cQ (dH s[(i+j)/2] x) 0=false:=h6;conv=>whnf
    refine⟨(f,i,(i+j)/2),⟨by show i<=(i+j)/2;omega,by show(i+j)/2<=s.length;omega,by show(i+j)/2 - i<=f;omega,?_⟩,Nat.lt_succ_self _,sb [(64,64)]⟩;rw [<-h4];show _=(match bJ i j with|true=>(match cQ (dH (gQ s ((i+j)/2)) x) 0 with|true=>_|false=>YZ s x f i ((i+j)/2))|false=>_)
    rw [bz.2 pQ,gz _ (by omega),h6]
  .have h5:(j:Int)<=(i:Int):=aX.1 h5;have h5:i=j:=(by omega);have e:Qt s x=i:=by
    rw [<-h4];cases f with
    |zero=>rfl|succ f=>
     show(match bJ i j with|true=>_|false=>i)=i;rw [show bJ i j=false by rw [kC,decide_eq_false (by omega)]]
   have eB:Hf s x=(match bJ i s.length with|true=>bD (dH (gQ s i) x) 0|false=>false):=(by unfold Hf;rw [e]);rw [e,eB];conv=>whnf
   refine ay (λh6=>?_) (λh6=>?_)
   .have h6:i<s.length:=Int.ofNat_lt.1 (aO.1 h6);rw [bz.2 h6,gz i h6];conv=>whnf
    refine aL.go i rfl h6 (aC ?_);refine⟨_,aQ.rd rfl h6,aC ?_⟩;refine cg tBq 0 fb (s[i],x) (hk _ h6) (aE ?_);exact ak.same rfl (.aS (.cons .int (.cons .bool .nil)))
   .have h6:(s.length:Int)<=(i:Int):=aX.1 h6;rw [show bJ i s.length=false by rw [kC,decide_eq_false (by omega)]];refine aE ?_;exact ak.same rfl (.aS (.cons .int (.cons .bool .nil)))
 .exact sb [(64,64)]
theorem KJ (s:List Q3) (x:Q3):∀(f i j:Nat),i<=j ->YZ s x f i j<=j
 |0,i,j,h=>h|f+1,i,j,h=>by
  unfold YZ;split
  .rename_i h1;have h1:=bz.1 h1;split
   .exact KJ s x f _ _ (by omega)
   .exact Nat.le_trans (KJ s x f _ _ (by omega)) (by omega)
  .exact h
theorem zH (s:List Q3) (x:Q3):Qt s x<=s.length:=KJ s x _ _ _ (Nat.zero_le _)
def Um:Cn prog:=
 ⟨232,true,List Q3×Q3,λa=> .cons (aQ.list.v a.1) (.cons (aQ.v a.2) (.cons adH .nil)),λa=> .aS (.cons ((au .i64).v (Qt a.1 a.2:Nat)) (.cons (bG.v (Hf a.1 a.2)) .nil)),λa=>a.1.length<=1000000/\∀i (h:i<a.1.length),rP dt a.1[i] a.2,
  λa b _ _ h=>by injection h with h1 h;injection h with h2 _;rw [aQ.list.bO h1,aQ.bO h2],λa=>⟨aQ.list.jm _,aQ.jm _,⟨aB,aB⟩,aB⟩,λa=> .aS (.cons .int (.cons .bool .nil)),λ_ _ _ _ _ h=>h,λa h=>agl a.1 a.2 h.1 h.2,aw rfl rfl⟩
def eK:List (Cn prog):=[mH,iP,fg,qN,iZ,fR,KI,pE,MX]
def wq (a b:Int):Int:=(Nat.gcd a.natAbs b.natAbs:Nat)
def pD (d:Int) (x:Q):Int:=lA d (wq d (Q.dn x))*Q.dn x
def oH (a:Q3):Int:=pD (pD (pD 1 a.1) a.2.1) a.2.2
def tW (a:Q3):Int:=wq (wq (wq 0 a.1.1) a.2.1.1) a.2.2.1
def aI (a:Q3):Q3:=match cT a with|true=>z3|false=>qT (qT a (dv (oH a) 1)) (dv 1 (tW (qT a (dv (oH a) 1))))
def qU (a:Q3):Int:=match cT a with|true=>19|false=>0
def PD (d:Int) (x:Q):Prop:=xf d (Q.dn x)/\zu d (wq d (Q.dn x))/\SH (lA d (wq d (Q.dn x)))/\SH (Q.dn x)
def agm (b:Q3):Prop:=xf 0 b.1.1/\xf (wq 0 b.1.1) b.2.1.1/\xf (wq (wq 0 b.1.1) b.2.1.1) b.2.2.1/\pM 1 (tW b)/\Hd b (dv 1 (tW b))
def mI (a:Q3):Prop:=rP dt a z3/\(cT a=false ->PD 1 a.1/\PD (pD 1 a.1) a.2.1/\PD (pD (pD 1 a.1) a.2.1) a.2.2/\pM (oH a) 1/\Hd a (dv (oH a) 1)/\agm (qT a (dv (oH a) 1)))
theorem Hg (a:Q3) (h:mI a):dQ 43 (.cons (aQ.v a) .nil) (.aS (.cons (aQ.v (aI a)) (.cons ((au .i64).v (qU a)) .nil))):=by
 obtain⟨hz,h⟩:=h;unfold aI qU;cases hb:cT a with
 |true=>
  refine PF.go af ae eK (fn:=f43) rfl rfl rfl λB0 hc=>?_;conv=>whnf
  refine cg eK 0 mH a hz (aE ?_);refine bT hb (aC ?_);exact .aS (.cons (.agg (MW (MW (MW .nil)))) (.cons (.pure .int) .nil))
 |false=>
  obtain⟨h1,h2,h3,h4,h5,h6⟩:=h hb;unfold oH at*;refine PF.go af ae eK (fn:=f43) rfl rfl rfl λB0 hc=>?_;conv=>whnf
  refine cg eK 0 mH a hz (aE ?_);refine xA hb (aC ?_);refine cg eK 1 iP (1:Int) ⟨by decide,by decide⟩ (aE ?_);refine Cw.bH af rfl rfl hc 4 (aE ?_);refine cg eK 2 fg a.1 aB (aE ?_);refine cg eK 3 qN ((1:Int),Q.dn a.1) h1.1 (aE ?_);refine cg eK 4 iZ ((1:Int),wq 1 (Q.dn a.1)) h1.2.1 (aE ?_);refine cg eK 2 fg a.1 aB (aE ?_);refine cg eK 5 fR (lA 1 (wq 1 (Q.dn a.1)),Q.dn a.1) h1.2.2 (aE ?_);refine cg eK 2 fg a.2.1 aB (aE ?_);refine cg eK 3 qN (pD 1 a.1,Q.dn a.2.1) h2.1 (aE ?_);refine cg eK 4 iZ (pD 1 a.1,wq (pD 1 a.1) (Q.dn a.2.1)) h2.2.1 (aE ?_);refine cg eK 2 fg a.2.1 aB (aE ?_);refine cg eK 5 fR (lA (pD 1 a.1) (wq (pD 1 a.1) (Q.dn a.2.1)),Q.dn a.2.1) h2.2.2 (aE ?_);refine cg eK 2 fg a.2.2 aB (aE ?_);refine cg eK 3 qN (pD (pD 1 a.1) a.2.1,Q.dn a.2.2) h3.1 (aE ?_);refine cg eK 4 iZ (pD (pD 1 a.1) a.2.1,wq (pD (pD 1 a.1) a.2.1) (Q.dn a.2.2)) h3.2.1 (aE ?_);refine cg eK 2 fg a.2.2 aB (aE ?_);refine cg eK 5 fR (lA (pD (pD 1 a.1) a.2.1) (wq (pD (pD 1 a.1) a.2.1) (Q.dn a.2.2)),Q.dn a.2.2) h3.2.2 (aE ?_);refine cg eK 1 iP (1:Int) ⟨by decide,by decide⟩ (aE ?_);refine cg eK 6 KI (pD (pD (pD 1 a.1) a.2.1) a.2.2,(1:Int)) h4 (aE ?_);refine cg eK 7 pE (a,dv (pD (pD (pD 1 a.1) a.2.1) a.2.2) 1) h5 (aE ?_);generalize qT a (dv (pD (pD (pD 1 a.1) a.2.1) a.2.2) 1)=b at*;obtain⟨k1,k2,k3,k4,k5⟩:=h6;refine Cw.bH af rfl rfl hc 4 (aE ?_);refine cg eK 8 MX b.1 aB (aE ?_);refine cg eK 3 qN ((0:Int),b.1.1) k1 (aE ?_);refine cg eK 8 MX b.2.1 aB (aE ?_);refine cg eK 3 qN (wq 0 b.1.1,b.2.1.1) k2 (aE ?_);refine cg eK 8 MX b.2.2 aB (aE ?_);refine cg eK 3 qN (wq (wq 0 b.1.1) b.2.1.1,b.2.2.1) k3 (aE ?_);refine cg eK 1 iP (1:Int) ⟨by decide,by decide⟩ (aE ?_);refine cg eK 6 KI ((1:Int),tW b) k4 (aE ?_);refine cg eK 7 pE (b,dv 1 (tW b)) k5 (aE ?_);exact ak.same rfl (.aS (.cons (aQ.an (qT b (dv 1 (tW b)))) (.cons .int .nil)))
def nT:Cn prog:=Cn.mk 43 false Q3 (λa=> .cons (aQ.v a) .nil) (λa=> .aS (.cons (aQ.v (aI a)) (.cons ((au .i64).v (qU a)) .nil))) mI
 (λa b _ _ h=>by injection h with h _;rw [aQ.bO h]) (λa=>⟨aQ.jm a,aB⟩) (λa=> .aS (.cons (aQ.an _) (.cons .int .nil))) (λh=>by cases h) Hg (aw rfl rfl)
def MZ:List (Cn prog):=[kJ]
def iI (m:Bc) (v:Q3):Q3:=(bw m.1.1 v,bw m.1.2.1 v,bw m.1.2.2 v)
def qV (m:Bc) (v:Q3):Prop:=oG m.1.1 v/\oG m.1.2.1 v/\oG m.1.2.2 v
theorem adI (m:Bc) (v:Q3) (h:qV m v):dQ 198 (.cons (kY.v m) (.cons (aQ.v v) .nil)) (aQ.v (iI m v)):=by
 refine PF.go af ae MZ (fn:=f198) rfl rfl rfl λB0 hc=>?_;conv=>whnf
 refine Cw.bH af rfl rfl hc 4 (aE ?_);refine cg MZ 0 kJ (m.1.1,v) h.1 (aE ?_);refine cg MZ 0 kJ (m.1.2.1,v) h.2.1 (aE ?_);refine cg MZ 0 kJ (m.1.2.2,v) h.2.2 (aE ?_);exact ak.same rfl (aQ.an (iI m v))
def Ek:Cn prog:= .kP kY aQ aQ 198 false qV iI (λe=>by cases e) adI (aw rfl rfl)
def adJ:List (Cn prog):=[Ek,Kv]
def lT (m:Bc) (v:Q3):Q3:=jC Q.add (iI m v) m.2
def Hh (m:Bc) (v:Q3):Prop:=qV m v/\rP oD (iI m v) m.2
theorem Za (m:Bc) (v:Q3) (h:Hh m v):dQ 197 (.cons (kY.v m) (.cons (aQ.v v) .nil)) (aQ.v (lT m v)):=by
 refine PF.go af ae adJ (fn:=f197) rfl rfl rfl λB0 hc=>?_;refine aE ?_;refine cg adJ 0 Ek (m,v) h.1 (aE ?_);refine cg adJ 1 Kv (iI m v,m.2) h.2 (aE ?_);exact ak.same rfl (aQ.an (lT m v))
def Na:Cn prog:= .kP kY aQ aQ 197 false Hh lT (λe=>by cases e) Za (aw rfl rfl)
def jA (vs:List Q3) (e:Ug):Q3:=match cQ (dH (aI (jC Q.sub (gQ vs e.2.1.toNat) (gQ vs e.1.toNat))) z3) 0 with
 |true=>jC Q.sub z3 (aI (jC Q.sub (gQ vs e.2.1.toNat) (gQ vs e.1.toNat)))|false=>aI (jC Q.sub (gQ vs e.2.1.toNat) (gQ vs e.1.toNat))
def dY (vs:List Q3) (xs:List Q3) (e:Ug):List Q3:=match Hf xs (jA vs e)with|true=>xs|false=>wo xs (Qt xs (jA vs e)) (jA vs e)
def dw (s:dh):List Q3:=s.2.2.foldl (dY s.1) []
structure Nb (vs:List Q3) (e:Ug):Prop where
 i:∃i:Nat,e.1=(i:Int)/\i<vs.length
 j:∃j:Nat,e.2.1=(j:Int)/\j<vs.length
 sub:rP kq (gQ vs e.2.1.toNat) (gQ vs e.1.toNat)
 aka:mI (jC Q.sub (gQ vs e.2.1.toNat) (gQ vs e.1.toNat))
 cmp:rP dt (aI (jC Q.sub (gQ vs e.2.1.toNat) (gQ vs e.1.toNat))) z3
 neg:rP kq z3 (aI (jC Q.sub (gQ vs e.2.1.toNat) (gQ vs e.1.toNat)))
structure zI (s:dh):Prop where
 n:s.2.2.length<=1000
 e:∀q (h:q<s.2.2.length),Nb s.1 s.2.2[q]
 c:∀p q (h:p<s.2.2.length) (k:q<s.2.2.length),rP dt (jA s.1 s.2.2[p]) (jA s.1 s.2.2[q])
theorem Un {α:Type} {xs:List α} {i:Nat} {d x:α} (h:x∈wo xs i d):x=d\/x∈xs:=by
 unfold wo at h;rcases List.mem_append.1 h with h|h
 .exact .inr (List.mem_of_mem_take h)
 .rcases List.mem_cons.1 h with h|h
  .exact .inl h
  .exact .inr (List.mem_of_mem_drop h)
theorem mf (vs:List Q3):∀(es:List Ug) (xs:List Q3),(∀x∈es.foldl (dY vs) xs,x∈xs\/∃e∈es,x=jA vs e)/\(es.foldl (dY vs) xs).length<=xs.length+es.length
 |[],xs=>⟨λx h=> .inl h,Nat.le_refl _⟩
 |e::es,xs=>by
  obtain⟨h1,h2⟩:=mf vs es (dY vs xs e);have h3:(∀x∈dY vs xs e,x=jA vs e\/x∈xs)/\(dY vs xs e).length<=xs.length+1:=by
   unfold dY;split
   .exact⟨λx h=> .inr h,Nat.le_succ _⟩
   .exact⟨λx h=>Un h,Nat.le_of_eq (zE (zH _ _))⟩
  refine⟨λx hx=>?_,by rw [List.length_cons];exact Nat.le_trans h2 (by omega)⟩;rcases h1 x hx with h|⟨e',h,h'⟩
  .rcases h3.1 x h with h|h
   .exact .inr ⟨e,List.mem_cons_self ..,h⟩
   .exact .inl h
  .exact .inr ⟨e',List.mem_cons_of_mem _ h,h'⟩
def El:List (Cn prog):=[Kw,nT,fb,tT,Um]
theorem adK (s:dh) (h:zI s):dQ 171 (.cons (aN.v s) .nil) (aQ.list.v (dw s)):=by
 obtain⟨vs,fs,es⟩:=s;obtain⟨hn,he,hcc⟩:=h;have hn:es.length<=1000:=hn;have he:∀q (h:q<es.length),Nb vs es[q]:=he;have hcc:∀p q (h:p<es.length) (k:q<es.length),rP dt (jA vs es[p]) (jA vs es[q]):=hcc;refine PF.of_wp af (by decide) (fn:=f171) rfl rfl rfl (.cons (aN.an _) .nil) (call:=Cf (aH El)) (λB0=>Hb (az ae El B0)) λB0=>?_;have hc:=Hb (az ae El B0);conv=>whnf
 refine Cw.lp (σ:=Unit) af rfl rfl hc es.length (λq _=>[(1,.ptr (pathOf 64) 0),(3,.gs (pathOf 65) ((es.take q).foldl (dY vs) []).length 12),(11,jD.list.v es),(12,.int .i64 (es.length:Int)),(13,.int .i64 (q:Int))])
  (λq _=>hp [(64,cl [aQ.list.v vs,bC.list.v fs,jD.list.v es]),(65,.gl (aQ.l ((es.take q).foldl (dY vs) [])) false)] 66) (λ_ _=>True) () trivial (sb [(64,64),(65,0)]) (λq _ hq _=>?_)
 conv=>whnf
 refine ay (λh1=>?_) (λh1=>?_)
 .have hq:=pT h1;have cE:=pS hq (by omega);obtain⟨⟨i,hi,iu⟩,⟨j,hj,Tm⟩,g1,g2,g3,g4⟩:=he q hq;have gi:gQ vs es[q].1.toNat=vs[i]:=by
   rw [hi];unfold gQ;rw [List.getD_eq_getElem?_getD,Int.toNat_natCast,List.getElem?_eq_getElem iu];rfl
  have gj:gQ vs es[q].2.1.toNat=vs[j]:=by
   rw [hj];unfold gQ;rw [List.getD_eq_getElem?_getD,Int.toNat_natCast,List.getElem?_eq_getElem Tm];rfl
  have hD:jA vs es[q]=match cQ (dH (aI (jC Q.sub vs[j] vs[i])) z3) 0 with|true=>jC Q.sub z3 (aI (jC Q.sub vs[j] vs[i]))|false=>aI (jC Q.sub vs[j] vs[i]):=by unfold jA;rw [gi,gj]
  rw [gi,gj]at g1 g2 g3 g4;have mw:(es.take (q+1)).foldl (dY vs) []=dY vs ((es.take q).foldl (dY vs) []) es[q]:=by
   rw [List.take_succ_eq_append_getElem hq,List.foldl_append];rfl
  obtain⟨f1,f2⟩:=mf vs (es.take q) [];have gy:∀x∈(es.take q).foldl (dY vs) [],rP dt x (jA vs es[q]):=λx hx=>by
   rcases f1 x hx with h|⟨e,h,rfl⟩
   .cases h
   .obtain⟨p,hp,rfl⟩:=List.mem_iff_getElem.1 (List.mem_of_mem_take h);exact hcc p q hp hq
  have hlen:((es.take q).foldl (dY vs) []).length<=1000:=by
   rw [List.length_take]at f2;have f2:((es.take q).foldl (dY vs) []).length<=0+min q es.length:=f2;omega
  generalize (es.take q).foldl (dY vs) []=xs at*;rw [mw];unfold dY;conv=>whnf
  refine aL.go q rfl hq (aC ?_);refine⟨_,jD.rd rfl hq,aE ?_⟩;refine aL.go j hj Tm (aC ?_);refine⟨_,aQ.rd rfl Tm,aE ?_⟩;refine aL.go i hi iu (aC ?_);refine⟨_,aQ.rd rfl iu,aE ?_⟩;refine rR (by decide) (cg El 0 Kw (vs[j],vs[i]) g1 (aC ?_));repeat(first|(refine nw ?_;conv=>whnf)|(refine nw ?_ ⟨_,aQ.rd (P:=prog) (t:=70) rfl Tm,aQ.rd (P:=prog) (t:=70) rfl Tm⟩;conv=>whnf)|(refine nw ?_ ⟨_,aQ.rd (P:=prog) (t:=70) rfl iu,aQ.rd (P:=prog) (t:=70) rfl iu⟩;conv=>whnf))
  refine rR (by decide) (cg El 1 nT (jC Q.sub vs[j] vs[i]) g2 (aE ?_));refine rR (by decide) (cg El 2 fb (aI (jC Q.sub vs[j] vs[i]),z3) g3 (aE ?_));refine ay (λh2=>?_) (λh2=>?_)
  .have h2:cQ (dH (aI (jC Q.sub vs[j] vs[i])) z3) 0=true:=h2;rw [h2]at hD;have hD:jA vs es[q]=jC Q.sub z3 (aI (jC Q.sub vs[j] vs[i])):=hD;rw [hD]at gy ⊢;refine aE ?_;refine rR (by decide) (cg El 3 tT (aI (jC Q.sub vs[j] vs[i])) g4 (aE ?_));refine rR (by decide) (cg El 4 Um (xs,jC Q.sub z3 (aI (jC Q.sub vs[j] vs[i]))) ⟨Nat.le_trans hlen (by decide),λi h=>gy _ (List.getElem_mem h)⟩ (hbor:=?_) (has:=?_) ?_);rotate_left
   .repeat' first|exact aB|exact(aQ.ep _).symm|exact rfl|refine And.intro ?_ ?_
   .rfl
   refine aE ?_;refine ay (λh3=>?_) (λh3=>?_)
   .have h3:Hf xs (jC Q.sub z3 (aI (jC Q.sub vs[j] vs[i])))=false:=(by have h3:aY (Hf xs (jC Q.sub z3 (aI (jC Q.sub vs[j] vs[i]))))=true:=h3;cases hb:Hf xs (jC Q.sub z3 (aI (jC Q.sub vs[j] vs[i])))with|true=>rw [hb]at h3;cases h3|false=>rfl);rw [h3];refine aE ?_;refine MQ ⟨pathOf 65,pathOf 68,xs,Qt xs (jC Q.sub z3 (aI (jC Q.sub vs[j] vs[i]))),jC Q.sub z3 (aI (jC Q.sub vs[j] vs[i])),false⟩ ?_ rfl ?_
    .exact⟨zH _ _,Nat.le_trans hlen (by decide),(by decide:pathOf 65≠pathOf 68),rfl,rfl⟩
    have hI:=zE (xs:=xs) (i:=Qt xs (jC Q.sub z3 (aI (jC Q.sub vs[j] vs[i])))) (d:=(jC Q.sub z3 (aI (jC Q.sub vs[j] vs[i])))) (zH _ _);have hI:=hI.symm;refine aE ?_;exact⟨(),hq,aB,sb [(64,64),(65,69)]⟩
   .have h3:Hf xs (jC Q.sub z3 (aI (jC Q.sub vs[j] vs[i])))=true:=(by have h3:aY (Hf xs (jC Q.sub z3 (aI (jC Q.sub vs[j] vs[i]))))=false:=h3;cases hb:Hf xs (jC Q.sub z3 (aI (jC Q.sub vs[j] vs[i])))with|false=>rw [hb]at h3;cases h3|true=>rfl);rw [h3];refine aE ?_;exact⟨(),hq,aB,sb [(64,64),(65,65)]⟩
  .have h2:cQ (dH (aI (jC Q.sub vs[j] vs[i])) z3) 0=false:=h2;rw [h2]at hD;have hD:jA vs es[q]=aI (jC Q.sub vs[j] vs[i]):=hD;rw [hD]at gy ⊢;refine aE ?_;generalize aI (jC Q.sub vs[j] vs[i])=d at*;refine rR (by decide) (cg El 4 Um (xs,d) ⟨Nat.le_trans hlen (by decide),λi h=>gy _ (List.getElem_mem h)⟩ (hbor:=?_) (has:=?_) ?_);rotate_left
   .repeat' first|exact aB|exact(aQ.ep _).symm|exact rfl|refine And.intro ?_ ?_
   .rfl
   refine aE ?_;refine ay (λh3=>?_) (λh3=>?_)
   .have h3:Hf xs d=false:=(by have h3:aY (Hf xs d)=true:=h3;cases hb:Hf xs d with|true=>rw [hb]at h3;cases h3|false=>rfl);rw [h3];refine aE ?_;refine MQ ⟨pathOf 65,pathOf 68,xs,Qt xs d,d,false⟩ ?_ rfl ?_
    .exact⟨zH _ _,Nat.le_trans hlen (by decide),(by decide:pathOf 65≠pathOf 68),rfl,rfl⟩
    have hI:=zE (xs:=xs) (i:=Qt xs d) (d:=d) (zH _ _);have hI:=hI.symm;refine aE ?_;exact⟨(),hq,aB,sb [(64,64),(65,69)]⟩
   .have h3:Hf xs d=true:=(by have h3:aY (Hf xs d)=false:=h3;cases hb:Hf xs d with|false=>rw [hb]at h3;cases h3|true=>rfl);rw [h3];refine aE ?_;exact⟨(),hq,aB,sb [(64,64),(65,65)]⟩
 .obtain rfl:=rN hq h1;rw [List.take_length];refine aE ?_;exact aQ.gG rfl rfl rfl
def wu:Cn prog:= .mU aN aQ.list 171 false zI dw (λe=>by cases e) adK (aw rfl rfl)
def Qu:List (Cn prog):=[kJ,ch]
def bU (n:Q3) (q:Nat) (v:Q3) (s:Q×Q):Q×Q:=
 match bD (q:Int) 0 with
 |true=>(bw n v,bw n v)
 |false=>((match cQ (Q.cmp (bw n v) s.1) 0 with|true=>bw n v|false=>s.1),(match cQ 0 (Q.cmp (bw n v) s.2)with|true=>bw n v|false=>s.2))
def fS (n:Q3):Nat ->List Q3 ->Q×Q ->Q×Q
 |_,[],s=>s|q,v::l,s=>fS n (q+1) l (bU n q v s)
def Hi (n:Q3):Nat ->List Q3 ->Q×Q ->Prop
 |_,[],_=>True|q,v::l,s=>oG n v/\(bD (q:Int) 0=false ->dt (bw n v) s.1/\dt (bw n v) s.2)/\Hi n (q+1) l (bU n q v s)
theorem zJ {n v:Q3}:∀{l:List Q3} {a:Nat} {s:Q×Q},fS n a (l++[v]) s=bU n (a+l.length) v (fS n a l s)
 |[],a,s=>rfl|u::l,a,s=>by
  show fS n (a+1) (l++[v]) (bU n a u s)=_;rw [zJ,List.length_cons,show a+1+l.length=a+(l.length+1) by omega];rfl
theorem Hj {n:Q3}:∀{l:List Q3} {a:Nat} {s:Q×Q},Hi n a l s ->∀(q:Nat) (hq:q<l.length),oG n l[q]/\(bD ((a+q:Nat):Int) 0=false ->dt (bw n l[q]) (fS n a (l.take q) s).1/\dt (bw n l[q]) (fS n a (l.take q) s).2)
 |[],_,_,_,q,hq=>absurd hq (Nat.not_lt_zero _)|v::l,a,s,h,0,_=>⟨h.1,h.2.1⟩
 |v::l,a,s,h,q+1,hq=>by
  have:=Hj h.2.2 q (Nat.lt_of_succ_lt_succ hq);rw [show a+1+q=a+(q+1) by omega]at this;exact this
theorem aiW {b:Bool} {kt kf:Prop} (h:b=true) (k:kt):Bool.casesOn (motive:=λ_=>Prop) b kf kt:=by subst h;exact k
theorem adL {b:Bool} {kt kf:Prop} (h:b=false) (k:kf):Bool.casesOn (motive:=λ_=>Prop) b kf kt:=by subst h;exact k
theorem Uo (l:List Q3) (nf ne:Nat) (lf le:AV) (n:Q3) (hl:l.length<=4294967296) (gy:Hi n 0 l ((0,0),(0,0))):
  dQ 175 (.cons (.agg (.cons (aQ.list.v l) (.cons (.ro nf lf) (.cons (.ro ne le) .nil)))) (.cons (aQ.v n) .nil)) (.aS (.cons (aK.v (fS n 0 l ((0,0),(0,0))).1) (.cons (aK.v (fS n 0 l ((0,0),(0,0))).2) .nil))):=by
 obtain⟨⟨n0,m0⟩,⟨n1,m1⟩,⟨n2,m2⟩⟩:=n;refine PF.of_wp (c:=_) af (by decide) (fn:=f175) rfl rfl rfl (.cons (.agg (.cons (aQ.list.an _) (.cons .ro (.cons .ro .nil)))) (.cons (aQ.an _) .nil)) (call:=aH Qu) (λB0=>az ae _ B0) ?_;intro B0;conv=>whnf
 obtain⟨st,hS⟩:∃st:Nat ->Q×Q,∀q,st q=fS ((n0,m0),(n1,m1),(n2,m2)) 0 (l.take q) ((0,0),(0,0)):=⟨_,λ_=>rfl⟩
 have Xx:st 0=((0,0),(0,0)):=by rw [hS];rfl
 have fe:∀q (hq:q<l.length),st (q+1)=bU ((n0,m0),(n1,m1),(n2,m2)) q l[q] (st q):=λq hq=>by
  rw [hS,hS,List.take_succ_eq_append_getElem hq,zJ,List.length_take_of_le (by omega),Nat.zero_add]
 have AQ:fS ((n0,m0),(n1,m1),(n2,m2)) 0 l ((0,0),(0,0))=st l.length:=by rw [hS,List.take_length]
 have hat:∀q (hq:q<l.length),oG ((n0,m0),(n1,m1),(n2,m2)) l[q]/\(bD (q:Int) 0=false ->dt (bw ((n0,m0),(n1,m1),(n2,m2)) l[q]) (st q).1/\dt (bw ((n0,m0),(n1,m1),(n2,m2)) l[q]) (st q).2):=λq hq=>by
  have:=Hj gy q hq;rw [Nat.zero_add,<-hS]at this;exact this
 refine Cw.loop (ι:=Nat) (λq=>bl [(3,.ptr (pathOf 65) 0),(4,.ptr (pathOf 66) 0),(5,.ptr (pathOf 67) 0),(10,aQ.list.v l),(11,.int .i64 (l.length:Int)),(12,.int .i64 (q:Int))]) (λ_=>[]) (λq=>⟨bV [(pathOf 65,.cells (bl [(0,.bool (decide (((n0,m0):Q).1<0))),(1,aM.v ((n0,m0):Q).1.natAbs),(2,.bool (decide (((n0,m0):Q).2<0))),(3,aM.v ((n0,m0):Q).2.natAbs),(4,.bool (decide (((n1,m1):Q).1<0))),(5,aM.v ((n1,m1):Q).1.natAbs),(6,.bool (decide (((n1,m1):Q).2<0))),(7,aM.v ((n1,m1):Q).2.natAbs),(8,.bool (decide (((n2,m2):Q).1<0))),(9,aM.v ((n2,m2):Q).1.natAbs),(10,.bool (decide (((n2,m2):Q).2<0))),(11,aM.v ((n2,m2):Q).2.natAbs)]) 12 false),(pathOf 66,.cells (bl [(0,.bool (decide ((st q).1.1<0))),(1,aM.v (st q).1.1.natAbs),(2,.bool (decide ((st q).1.2<0))),(3,aM.v (st q).1.2.natAbs)]) 4 false),(pathOf 67,.cells (bl [(0,.bool (decide ((st q).2.1<0))),(1,aM.v (st q).2.1.natAbs),(2,.bool (decide ((st q).2.2<0))),(3,aM.v (st q).2.2.natAbs)]) 4 false)],pathOf 68⟩) (λq=>q<=l.length) (λq=>l.length - q) ?_ 0 (Nat.zero_le _) ?_
 .intro q hq;refine aD af rfl rfl (az ae Qu B0) _ (aC ?_);refine ay (λh1=>?_) (λh1=>?_)
  .have iB:q<l.length:=Int.ofNat_lt.1 (aO.1 h1);have cE:aj .i64 (Int.add (q:Int) 1)=((q+1:Nat):Int):=by
    show aj .i64 ((q:Int)+1)=_;rw [aA (by omega) (by omega)];omega
   obtain⟨hd,hc⟩:=hat q iB;conv=>whnf
   refine aL.go q rfl iB (aC ?_);refine⟨_,aQ.rd rfl iB,aC ?_⟩;refine bA (l:=Qu) (by decide) 0 (c:=kJ) rfl (((n0,m0),(n1,m1),(n2,m2)),l[q]) hd ?_ ?_ ?_
   .repeat' first|exact aB|refine⟨?_,?_⟩
   .rfl
   conv=>whnf
   repeat(first|(refine⟨⟨_,rfl,rfl⟩,?_⟩;conv=>whnf)|(refine⟨aB,?_⟩;conv=>whnf)|(refine⟨⟨_,aQ.rd (P:=prog) (t:=70) rfl iB,aQ.rd (P:=prog) (t:=70) rfl iB⟩,?_⟩;conv=>whnf))
   refine ay (λh2=>?_) (λh2=>?_)
   .have Qv:bD (q:Int) 0=true:=h2;have cA:bU ((n0,m0),(n1,m1),(n2,m2)) q l[q] (st q)=(bw ((n0,m0),(n1,m1),(n2,m2)) l[q],bw ((n0,m0),(n1,m1),(n2,m2)) l[q]):=(by unfold bU;rw [Qv]);conv=>whnf
    repeat(first|(refine aiW Qv ?_;conv=>whnf)|(refine⟨⟨_,rfl,rfl⟩,?_⟩;conv=>whnf)|(refine⟨aB,?_⟩;conv=>whnf))
    refine⟨q+1,iB,by omega,?_⟩;refine Sub.of (gU [65,66,67]) [] rfl rfl rfl ?_ ?_
    .repeat' first|exact aB|exact rfl|refine And.intro ?_ ?_
     all_goals first|exact cE|(rw [fe q iB,cA];done)|(rw [fe q iB,cA];exact rfl)
    .repeat' first|exact aB|exact rfl|refine And.intro ?_ ?_
     all_goals first|exact cE|(rw [fe q iB,cA];done)|(rw [fe q iB,cA];exact rfl)
   .have Qv:bD (q:Int) 0=false:=h2;conv=>whnf
    repeat(first|(refine adL Qv ?_;conv=>whnf)|(refine⟨⟨_,rfl,rfl⟩,?_⟩;conv=>whnf)|(refine⟨aB,?_⟩;conv=>whnf))
    refine bA (l:=Qu) (by decide) 1 (c:=ch) rfl (bw ((n0,m0),(n1,m1),(n2,m2)) l[q],(st q).1) (hc Qv).1 ?_ ?_ ?_
    .repeat' first|exact aB|refine⟨?_,?_⟩
    .rfl
    conv=>whnf
    repeat(first|(refine⟨⟨_,rfl,rfl⟩,?_⟩;conv=>whnf)|(refine⟨aB,?_⟩;conv=>whnf))
    refine ay (λh3=>?_) (λh3=>?_)
    .have h3':cQ (Q.cmp (bw ((n0,m0),(n1,m1),(n2,m2)) l[q]) (st q).1) 0=true:=h3;conv=>whnf
     repeat(first|(refine adL Qv ?_;conv=>whnf)|(refine⟨⟨_,rfl,rfl⟩,?_⟩;conv=>whnf)|(refine⟨aB,?_⟩;conv=>whnf))
     refine bA (l:=Qu) (by decide) 1 (c:=ch) rfl (bw ((n0,m0),(n1,m1),(n2,m2)) l[q],(st q).2) (hc Qv).2 ?_ ?_ ?_
     .repeat' first|exact aB|refine⟨?_,?_⟩
     .rfl
     conv=>whnf
     repeat(first|(refine⟨⟨_,rfl,rfl⟩,?_⟩;conv=>whnf)|(refine⟨aB,?_⟩;conv=>whnf))
     refine ay (λh4=>?_) (λh4=>?_)
     .have h4':cQ 0 (Q.cmp (bw ((n0,m0),(n1,m1),(n2,m2)) l[q]) (st q).2)=true:=h4;have cA:bU ((n0,m0),(n1,m1),(n2,m2)) q l[q] (st q)=(bw ((n0,m0),(n1,m1),(n2,m2)) l[q],bw ((n0,m0),(n1,m1),(n2,m2)) l[q]):=(by unfold bU;rw [Qv];simp only [h3',h4']);conv=>whnf
      repeat(first|(refine⟨⟨_,rfl,rfl⟩,?_⟩;conv=>whnf)|(refine⟨aB,?_⟩;conv=>whnf))
      refine⟨q+1,iB,by omega,?_⟩;refine Sub.of (gU [65,66,67]) [] rfl rfl rfl ?_ ?_
      .repeat' first|exact aB|exact rfl|refine And.intro ?_ ?_
       all_goals first|exact cE|(rw [fe q iB,cA];done)|(rw [fe q iB,cA];exact rfl)
      .repeat' first|exact aB|exact rfl|refine And.intro ?_ ?_
       all_goals first|exact cE|(rw [fe q iB,cA];done)|(rw [fe q iB,cA];exact rfl)
     .have h4':cQ 0 (Q.cmp (bw ((n0,m0),(n1,m1),(n2,m2)) l[q]) (st q).2)=false:=h4;have cA:bU ((n0,m0),(n1,m1),(n2,m2)) q l[q] (st q)=(bw ((n0,m0),(n1,m1),(n2,m2)) l[q],(st q).2):=(by unfold bU;rw [Qv];simp only [h3',h4']);conv=>whnf
      repeat(first|(refine⟨⟨_,rfl,rfl⟩,?_⟩;conv=>whnf)|(refine⟨aB,?_⟩;conv=>whnf))
      refine⟨q+1,iB,by omega,?_⟩;refine Sub.of (gU [65,66,67]) [] rfl rfl rfl ?_ ?_
      .repeat' first|exact aB|exact rfl|refine And.intro ?_ ?_
       all_goals first|exact cE|(rw [fe q iB,cA];done)|(rw [fe q iB,cA];exact rfl)
      .repeat' first|exact aB|exact rfl|refine And.intro ?_ ?_
       all_goals first|exact cE|(rw [fe q iB,cA];done)|(rw [fe q iB,cA];exact rfl)
    .have h3':cQ (Q.cmp (bw ((n0,m0),(n1,m1),(n2,m2)) l[q]) (st q).1) 0=false:=h3;conv=>whnf
     repeat(first|(refine adL Qv ?_;conv=>whnf)|(refine⟨⟨_,rfl,rfl⟩,?_⟩;conv=>whnf)|(refine⟨aB,?_⟩;conv=>whnf))
     refine bA (l:=Qu) (by decide) 1 (c:=ch) rfl (bw ((n0,m0),(n1,m1),(n2,m2)) l[q],(st q).2) (hc Qv).2 ?_ ?_ ?_
     .repeat' first|exact aB|refine⟨?_,?_⟩
     .rfl
     conv=>whnf
     repeat(first|(refine⟨⟨_,rfl,rfl⟩,?_⟩;conv=>whnf)|(refine⟨aB,?_⟩;conv=>whnf))
     refine ay (λh4=>?_) (λh4=>?_)
     .have h4':cQ 0 (Q.cmp (bw ((n0,m0),(n1,m1),(n2,m2)) l[q]) (st q).2)=true:=h4;have cA:bU ((n0,m0),(n1,m1),(n2,m2)) q l[q] (st q)=((st q).1,bw ((n0,m0),(n1,m1),(n2,m2)) l[q]):=(by unfold bU;rw [Qv];simp only [h3',h4']);conv=>whnf
      repeat(first|(refine⟨⟨_,rfl,rfl⟩,?_⟩;conv=>whnf)|(refine⟨aB,?_⟩;conv=>whnf))
      refine⟨q+1,iB,by omega,?_⟩;refine Sub.of (gU [65,66,67]) [] rfl rfl rfl ?_ ?_
      .repeat' first|exact aB|exact rfl|refine And.intro ?_ ?_
       all_goals first|exact cE|(rw [fe q iB,cA];done)|(rw [fe q iB,cA];exact rfl)
      .repeat' first|exact aB|exact rfl|refine And.intro ?_ ?_
       all_goals first|exact cE|(rw [fe q iB,cA];done)|(rw [fe q iB,cA];exact rfl)
     .have h4':cQ 0 (Q.cmp (bw ((n0,m0),(n1,m1),(n2,m2)) l[q]) (st q).2)=false:=h4;have cA:bU ((n0,m0),(n1,m1),(n2,m2)) q l[q] (st q)=((st q).1,(st q).2):=(by unfold bU;rw [Qv];simp only [h3',h4']);conv=>whnf
      repeat(first|(refine⟨⟨_,rfl,rfl⟩,?_⟩;conv=>whnf)|(refine⟨aB,?_⟩;conv=>whnf))
      refine⟨q+1,iB,by omega,?_⟩;refine Sub.of (gU [65,66,67]) [] rfl rfl rfl ?_ ?_
      .repeat' first|exact aB|exact rfl|refine And.intro ?_ ?_
       all_goals first|exact cE|(rw [fe q iB,cA];done)|(rw [fe q iB,cA];exact rfl)
      .repeat' first|exact aB|exact rfl|refine And.intro ?_ ?_
       all_goals first|exact cE|(rw [fe q iB,cA];done)|(rw [fe q iB,cA];exact rfl)
  .have LU:q=l.length:=(by have:=aX.1 h1;omega);subst LU;rw [AQ];conv=>whnf
   repeat(first|(refine⟨⟨_,rfl,rfl⟩,?_⟩;conv=>whnf)|(refine⟨aB,?_⟩;conv=>whnf))
   exact ak.same rfl (.aS (.cons (aK.an (st l.length).1) (.cons (aK.an (st l.length).2) .nil)))
 .refine Sub.of (gU [65,66,67]) [] rfl rfl rfl ?_ ?_
  .exact oR
  .repeat' first|exact aB|exact rfl|refine And.intro ?_ ?_
   all_goals (rw [Xx];first|exact rfl|exact⟨rfl,rfl⟩)
def Xk:List AV:=[.bool false,.bt,.bool false,.bt,.bool false,.bt,.bool false,.bt,.bool false,.bt,.bool false,.bt,.bool false,.bt,.bool false,.bt,.bt]
theorem Up:∀a∈Xk,a.jG=true:=by decide
theorem adM:∀a∈Xk,DP a:=by
 intro a ha;simp only [Xk,List.mem_cons,List.not_mem_nil,or_false,or_self]at ha;rcases ha with rfl|rfl|ha<;>first|exact aB|(rcases ha with rfl|rfl|ha<;>first|exact aB|(subst ha;exact aB)|skip)
 all_goals (repeat' (rcases ha with rfl|ha))<;>first|exact aB|(subst ha;exact aB)
theorem agn (n:Nat) (h0:0<n) (hn:n<=1048576) (B0:Nat) {r:Tr AV} (hr:iH (.cons .bt (.cons (.int .i64 (n:Int)) .nil)) 0 f230.ntmps .leaf=some r):
  @Cw (pR fp 0) prog B0 ⟨prog,230,f230.ntmps,none,@aH (pR fp 0) prog [],0⟩ (vK f230) r [] ⟨.leaf,pathOf 64⟩
   (QK (fK prog f230 (.slice (pathOf 64) 0 0 n 17) [(pathOf 64,.gl (fW n (bR Xk .nil)) false)] (pathOf 65)) (fK prog f230 (.slice (pathOf 64) 0 0 n 17) [(pathOf 64,.gl (fW n (bR Xk .nil)) false)] (pathOf 65)) (λ_ _ _ _=>False)):=by
 cases hr;have hc:= @az (pR fp 0) prog ae [] B0;refine @aD (pR fp 0) _ _ _ af rfl rfl hc _ _ _ _ _ _ _ (aC ?_);have hw:aj .i64 (Int.sub (n:Int) 0)=(n:Int):=by
  show aj .i64 ((n:Int) - 0)=_;rw [aA (by omega) (by omega)];omega
 refine ay (λh1=>?_) (λh1=>?_)
 .refine aE ?_;refine wi (afB (Z:=Xk) (n:=n) hw rfl rfl rfl rfl rfl rfl rfl (Nat.le_trans (Nat.mul_le_mul hn (show _<=1048576 by decide)) (by decide)) Up (by omega)) (aE ?_);refine afC (v:= .slice (pathOf 64) 0 0 n 17) ?_ ?_
  .exact aix (n:=n) rfl rfl rfl (k:= .i64) rfl (by omega)
  refine aE ?_;repeat' first|exact aB|exact rfl|refine And.intro ?_ ?_
 .exfalso;have h1:cQ 0 (aj .i64 (Int.sub (n:Int) 0))=false:=h1;rw [hw]at h1;have:=aX.1 h1;omega
def ago (n:Nat):eL ->AV ->Heap ->CR:=jS 230 (.cons .bt (.cons (.int .i64 (n:Int)) .nil)) ⟨.leaf,pathOf 64⟩ (.slice (pathOf 64) 0 0 n 17) ⟨bV [(pathOf 64,.gl (fW n (bR Xk .nil)) false)],pathOf 65⟩ (aH (P:=prog) [])
theorem Nc (n:Nat) (h0:0<n) (hn:n<=1048576) (B0:Nat):aU prog B0 (ago n):=
 jT ae 0 (az ae [] B0) (fn:=f230) rfl rfl rfl rfl (by decide) (agn n h0 hn B0 rfl)
theorem agp (ls:List (List lS)) (h0:0<ls.flatten.length) (hn:ls.flatten.length<=1048576) (hl:ls.length<=1048576):dQ 170 (.cons (bC.list.list.v ls) .nil) (bC.list.v ls.flatten):=by
 refine PF.of_wp af (by decide) (fn:=f170) rfl rfl rfl (.cons (bC.list.list.an _) .nil) (call:=ago ls.flatten.length) (λB0=>Nc _ h0 hn B0) λB0=>?_;have hc:=Nc ls.flatten.length h0 hn B0;have cA:∀q (hq:q<ls.length),(ls.take (q+1)).flatten=(ls.take q).flatten++ls[q]:=λq hq=>by
  rw [List.take_succ_eq_append_getElem hq,List.flatten_append,List.flatten_cons,List.flatten_nil,List.append_nil]
 have hle:∀q,(ls.take q).flatten.length<=ls.flatten.length:=λq=>by
  have:=congrArg (λl=>(List.flatten l).length) (List.take_append_drop q ls);simp only [List.flatten_append,List.length_append]at this;omega
 conv=>whnf
 refine Cw.lp (σ:=Unit) af rfl rfl hc ls.length (λq _=>[(0,bC.list.list.v ls),(3,.int .i64 ((ls.take q).flatten.length:Int)),(9,bC.list.list.v ls),(10,.int .i64 (ls.length:Int)),(11,.int .i64 (q:Int))])
  (λq _=>hp [] 64) (λ_ _=>True) () trivial (sb []) (λq _ hq _=>?_)
 conv=>whnf
 refine ay (λh1=>?_) (λh1=>?_)
 .have hq:=pT h1;have cE:=pS hq (by omega);have hs:=cA q hq;have hb:=hle (q+1);rw [hs,List.length_append]at hb;have Ba:aj .i64 (Int.add ((ls.take q).flatten.length:Int) (ls[q].length:Int))=((ls.take (q+1)).flatten.length:Int):=by
   rw [hs,List.length_append];show aj .i64 (((ls.take q).flatten.length:Int)+(ls[q].length:Int))=_;rw [aA (by omega) (by omega)];omega
  conv=>whnf
  refine aL.go q rfl hq (aC ?_);refine⟨_,bC.list.rd rfl hq,aE ?_⟩;refine ay (λh2=>?_) (λh2=>?_)
  .exfalso;have h2:cQ (aj .i64 (Int.add ((ls.take q).flatten.length:Int) (ls[q].length:Int))) 0=true:=h2;rw [Ba]at h2;have:=aO.1 h2;omega
  .refine aE ?_;exact⟨(),hq,aB,sb []⟩
 .obtain rfl:=rN hq h1;rw [List.take_length];conv=>whnf
  refine pn (hk:=?_);conv=>whnf
  have hZ:(List.replicate ls.flatten.length Xk).flatten.length=ls.flatten.length*17:=by
   rw [List.length_flatten,List.map_replicate,List.sum_replicate_nat];rfl
  obtain⟨Z,hZd⟩:∃Z,Z=(List.replicate ls.flatten.length Xk).flatten:=⟨_,rfl⟩
  rw [<-hZd]at hZ;have mw:AO.gl (fW ls.flatten.length (bR Xk .nil)) false= .gl (bR (bC.fl (ls.take 0).flatten++Z.drop ((ls.take 0).flatten.length*17)) .nil) false:=by
   rw [zh,<-hZd];show AO.gl (bR Z .nil) false= .gl (bR ([]++Z.drop (0*17)) .nil) false;rw [Nat.zero_mul,List.drop_zero];rfl
  have hpure:∀q,dj (bR (bC.fl (ls.take q).flatten++Z.drop ((ls.take q).flatten.length*17)) .nil):=λq=>by
   refine bW.rK (λa ha=>?_) .nil;rcases List.mem_append.1 ha with ha|ha
   .obtain⟨x,_,ha⟩:=List.mem_flatMap.1 ha;exact bC.dp x a ha
   .have ha:=List.mem_of_mem_drop ha;rw [hZd]at ha;obtain⟨l,hl,ha⟩:=List.mem_flatten.1 ha;rw [(List.mem_replicate.1 hl).2]at ha;exact adM a ha
  refine Cw.lp (σ:=Unit) af rfl rfl hc ls.length (λq _=>[(6,.slice (pathOf 64) 0 (ls.take q).flatten.length ls.flatten.length 17),(25,bC.list.list.v ls),(26,.int .i64 (ls.length:Int)),(27,.int .i64 (q:Int))])
   (λq _=>hp [(64,.gl (bR (bC.fl (ls.take q).flatten++Z.drop ((ls.take q).flatten.length*17)) .nil) false)] 65) (λ_ _=>True) () aB ?_ (λq _ hq _=>?_)
  .have hp0:=hpure 0;rw [AO.gl.injEq]at mw;have mw:=mw.1;exact sb [(64,64)]
  conv=>whnf
  refine ay (λh2=>?_) (λh2=>?_)
  .have hq:=pT h2;have cE:=pS hq (by omega);have hs:=cA q hq;have hb:=hle (q+1);have rB:=hb;rw [hs,List.length_append]at hb;conv=>whnf
   refine aL.go q rfl hq (aC ?_);refine⟨_,bC.list.rd rfl hq,aE ?_⟩;refine⟨_,bC.src ls[q],aC ?_⟩;refine wi (afA bC (xs:=(ls.take q).flatten) (ys:=ls[q]) (Z:=Z.drop ((ls.take q).flatten.length*17)) (cap:=ls.flatten.length) rfl ?_ hb ?_) ?_
   .exact Nat.le_trans (Nat.mul_le_mul (Nat.le_trans hb hn) (Nat.le_of_ble_eq_true (m:=1048576) rfl)) (by decide)
   .show ls[q].length*17<=_;rw [List.length_drop,hZ];omega
   have hl1:(ls.take q).flatten.length+ls[q].length=(ls.take (q+1)).flatten.length:=(by rw [hs,List.length_append]);have AJ:bR (bC.fl ((ls.take q).flatten++ls[q])++(Z.drop ((ls.take q).flatten.length*17)).drop (ls[q].length*bC.sz)) .nil=bR (bC.fl (ls.take (q+1)).flatten++Z.drop ((ls.take (q+1)).flatten.length*17)) .nil:=by
    rw [List.drop_drop,<-hl1,<-hs,Nat.add_mul];rfl
   have oh:=hpure (q+1);refine aE ?_;exact⟨(),hq,aB,sb [(64,64)]⟩
  .obtain rfl:=rN hq h2;rw [List.take_length];have AQ:bR (bC.fl ls.flatten++Z.drop (ls.flatten.length*17)) .nil=bC.l ls.flatten:=by
    rw [List.drop_eq_nil_of_le (by omega),List.append_nil,<-bC.Yf]
   rw [AQ];refine aE ?_;exact ak.slice rfl (bC.src ls.flatten) (bq.pure (bC.bm _))
def abx:Cn prog:= .mU bC.list.list bC.list 170 false (λls=>0<ls.flatten.length/\ls.flatten.length<=1048576/\ls.length<=1048576) (λls=>ls.flatten) (λe=>by cases e) (λls h=>agp ls h.1 h.2.1 h.2.2) (aw rfl rfl)
theorem Uq (xs:List _) (hn:xs.length<=1048576):dQ 199 (.cons ((au .i64).list.v xs) .nil) ((au .i64).list.v xs):=by
 refine PF.yW (c:=_) (by decide) (fn:=f199) rfl rfl rfl (.cons ((au .i64).list.an _) .nil) (call:=aH (P:=prog) []) (h0:=⟨.leaf,pathOf 64⟩) (λ_ _ e=>by cases e) rfl (λB0=>?_);have hc:=az (P:=prog) ae [] B0;cases xs with
 |nil=>
  refine Cw.vf 0 1 rfl ?_ ?_
  .refine aD af rfl rfl hc _ (aC ?_);exact ak.bt
  .refine aD af rfl rfl hc _ (aC ?_);refine⟨.nil,rfl,aC ?_⟩;refine⟨⟨by decide,rfl,rfl⟩,aC ?_⟩;exact(au .i64).gG (xs:=[]) rfl rfl rfl
 |cons x t=>
  refine aD af rfl rfl hc _ (aC ?_);refine⟨(au .i64).l (x::t),((au .i64).jW (xs:=x::t) (i:=(x::t).length) (Nat.le_refl _)).trans (by rw [List.take_length]),aC ?_⟩;refine⟨⟨?_,(au .i64).kF _,rfl⟩,?_⟩
  .show(0+(x::t).length)*(8+1)<=1099511627776;omega
  conv=>whnf
  exact(au .i64).gG (xs:=x::t) rfl rfl (Nat.zero_add _)
def Hk:Cn prog:= .mU (au .i64).list (au .i64).list 199 false (λl=>l.length<=1048576) (λl=>l) (λe=>by cases e) Uq (aw rfl rfl)
theorem Us (xs:List _) (hn:xs.length<=1048576):dQ 196 (.cons (jD.list.v xs) .nil) (jD.list.v xs):=by
 refine PF.yW (c:=_) (by decide) (fn:=f196) rfl rfl rfl (.cons (jD.list.an _) .nil) (call:=aH (P:=prog) []) (h0:=⟨.leaf,pathOf 64⟩) (λ_ _ e=>by cases e) rfl (λB0=>?_);have hc:=az (P:=prog) ae [] B0;cases xs with
 |nil=>
  refine Cw.vf 0 4 rfl ?_ ?_
  .refine aD af rfl rfl hc _ (aC ?_);exact ak.bt
  .refine aD af rfl rfl hc _ (aC ?_);refine⟨.nil,rfl,aC ?_⟩;refine⟨⟨by decide,rfl,rfl⟩,aC ?_⟩;exact jD.gG (xs:=[]) rfl rfl rfl
 |cons x t=>
  refine aD af rfl rfl hc _ (aC ?_);refine⟨jD.l (x::t),(jD.jW (xs:=x::t) (i:=(x::t).length) (Nat.le_refl _)).trans (by rw [List.take_length]),aC ?_⟩;refine⟨⟨?_,jD.kF _,rfl⟩,?_⟩
  .show(0+(x::t).length)*(32+1)<=1099511627776;omega
  conv=>whnf
  exact jD.gG (xs:=x::t) rfl rfl (Nat.zero_add _)
def Hl:Cn prog:= .mU jD.list jD.list 196 false (λl=>l.length<=1048576) (λl=>l) (λe=>by cases e) Us (aw rfl rfl)
end
end
end Go.Sy
