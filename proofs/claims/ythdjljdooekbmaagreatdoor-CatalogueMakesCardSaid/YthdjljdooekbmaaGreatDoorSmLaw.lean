/- What is known beforehand, level 3. -/
import Derived.Test.YthdjljdooekbmaaGreatDoorSmMPe0
import Derived.Test.YthdjljdooekbmaaGreatDoorSmMPe1
import Derived.Test.YthdjljdooekbmaaGreatDoorSmMPe2
import Derived.Test.YthdjljdooekbmaaGreatDoorSmMPe3
import Derived.Test.YthdjljdooekbmaaGreatDoorSmMPe4
namespace Go.Sy
open Go.RowKit Go.Proofs
set_option linter.unusedVariables false
set_option maxRecDepth 1000000
set_option maxHeartbeats 0
noncomputable def smPeAll : List (AV × AV) := smPe0 ++ (smPe1 ++ (smPe2 ++ (smPe3 ++ (smPe4 ++ (smPe5 ++ (smPe6 ++ (smPe7 ++ (smPe8 ++ (smPe9 ++ (smPe10 ++ (smPe11 ++ (smPe12 ++ (smPe13 ++ (smPe14 ++ (smPe15 ++ (smPe16 ++ (smPe17 ++ (smPe18 ++ (smPe19 ++ (smPe20 ++ (smPe21 ++ (smPe22 ++ (smPe23 ++ (smPe24 ++ (smPe25 ++ (smPe26 ++ (smPe27 ++ (smPe28 ++ (smPe29 ++ (smPe30 ++ (smPe31 ++ (smPe32 ++ (smPe33 ++ (smPe34 ++ (smPe35 ++ (smPe36 ++ (smPe37 ++ (smPe38 ++ (smPe39 ++ (smPe40 ++ (smPe41 ++ (smPe42 ++ (smPe43 ++ (smPe44 ++ (smPe45 ++ (smPe46 ++ (smPe47 ++ (smPe48 ++ (smPe49 ++ (smPe50 ++ (smPe51 ++ (smPe52 ++ (smPe53 ++ (smPe54 ++ (smPe55 ++ (smPe56 ++ (smPe57 ++ (smPe58 ++ (smPe59 ++ (smPe60 ++ (smPe61 ++ (smPe62 ++ (smPe63 ++ (smPe64 ++ (smPe65 ++ (smPe66 ++ (smPe67 ++ (smPe68 ++ (smPe69 ++ (smPe70 ++ (smPe71 ++ (smPe72 ++ (smPe73)))))))))))))))))))))))))))))))))))))))))))))))))))))))))))))))))))))))))
theorem smmemPe : ∀ e ∈ smPeAll, @PF tb1 Tryz.prog 173 e.1 e.2 ∧ DP e.1 ∧ DP e.2 := by
  intro e he
  rcases List.mem_append.1 he with h0 | h0
  · exact ranAll_ok p_mixed p_callable smov2_ok (by decide) smranPe0 e h0
  rcases List.mem_append.1 h0 with h1 | h1
  · exact ranAll_ok p_mixed p_callable smov2_ok (by decide) smranPe1 e h1
  rcases List.mem_append.1 h1 with h2 | h2
  · exact ranAll_ok p_mixed p_callable smov2_ok (by decide) smranPe2 e h2
  rcases List.mem_append.1 h2 with h3 | h3
  · exact ranAll_ok p_mixed p_callable smov2_ok (by decide) smranPe3 e h3
  rcases List.mem_append.1 h3 with h4 | h4
  · exact ranAll_ok p_mixed p_callable smov2_ok (by decide) smranPe4 e h4
  rcases List.mem_append.1 h4 with h5 | h5
  · exact ranAll_ok p_mixed p_callable smov2_ok (by decide) smranPe5 e h5
  rcases List.mem_append.1 h5 with h6 | h6
  · exact ranAll_ok p_mixed p_callable smov2_ok (by decide) smranPe6 e h6
  rcases List.mem_append.1 h6 with h7 | h7
  · exact ranAll_ok p_mixed p_callable smov2_ok (by decide) smranPe7 e h7
  rcases List.mem_append.1 h7 with h8 | h8
  · exact ranAll_ok p_mixed p_callable smov2_ok (by decide) smranPe8 e h8
  rcases List.mem_append.1 h8 with h9 | h9
  · exact ranAll_ok p_mixed p_callable smov2_ok (by decide) smranPe9 e h9
  rcases List.mem_append.1 h9 with h10 | h10
  · exact ranAll_ok p_mixed p_callable smov2_ok (by decide) smranPe10 e h10
  rcases List.mem_append.1 h10 with h11 | h11
  · exact ranAll_ok p_mixed p_callable smov2_ok (by decide) smranPe11 e h11
  rcases List.mem_append.1 h11 with h12 | h12
  · exact ranAll_ok p_mixed p_callable smov2_ok (by decide) smranPe12 e h12
  rcases List.mem_append.1 h12 with h13 | h13
  · exact ranAll_ok p_mixed p_callable smov2_ok (by decide) smranPe13 e h13
  rcases List.mem_append.1 h13 with h14 | h14
  · exact ranAll_ok p_mixed p_callable smov2_ok (by decide) smranPe14 e h14
  rcases List.mem_append.1 h14 with h15 | h15
  · exact ranAll_ok p_mixed p_callable smov2_ok (by decide) smranPe15 e h15
  rcases List.mem_append.1 h15 with h16 | h16
  · exact ranAll_ok p_mixed p_callable smov2_ok (by decide) smranPe16 e h16
  rcases List.mem_append.1 h16 with h17 | h17
  · exact ranAll_ok p_mixed p_callable smov2_ok (by decide) smranPe17 e h17
  rcases List.mem_append.1 h17 with h18 | h18
  · exact ranAll_ok p_mixed p_callable smov2_ok (by decide) smranPe18 e h18
  rcases List.mem_append.1 h18 with h19 | h19
  · exact ranAll_ok p_mixed p_callable smov2_ok (by decide) smranPe19 e h19
  rcases List.mem_append.1 h19 with h20 | h20
  · exact ranAll_ok p_mixed p_callable smov2_ok (by decide) smranPe20 e h20
  rcases List.mem_append.1 h20 with h21 | h21
  · exact ranAll_ok p_mixed p_callable smov2_ok (by decide) smranPe21 e h21
  rcases List.mem_append.1 h21 with h22 | h22
  · exact ranAll_ok p_mixed p_callable smov2_ok (by decide) smranPe22 e h22
  rcases List.mem_append.1 h22 with h23 | h23
  · exact ranAll_ok p_mixed p_callable smov2_ok (by decide) smranPe23 e h23
  rcases List.mem_append.1 h23 with h24 | h24
  · exact ranAll_ok p_mixed p_callable smov2_ok (by decide) smranPe24 e h24
  rcases List.mem_append.1 h24 with h25 | h25
  · exact ranAll_ok p_mixed p_callable smov2_ok (by decide) smranPe25 e h25
  rcases List.mem_append.1 h25 with h26 | h26
  · exact ranAll_ok p_mixed p_callable smov2_ok (by decide) smranPe26 e h26
  rcases List.mem_append.1 h26 with h27 | h27
  · exact ranAll_ok p_mixed p_callable smov2_ok (by decide) smranPe27 e h27
  rcases List.mem_append.1 h27 with h28 | h28
  · exact ranAll_ok p_mixed p_callable smov2_ok (by decide) smranPe28 e h28
  rcases List.mem_append.1 h28 with h29 | h29
  · exact ranAll_ok p_mixed p_callable smov2_ok (by decide) smranPe29 e h29
  rcases List.mem_append.1 h29 with h30 | h30
  · exact ranAll_ok p_mixed p_callable smov2_ok (by decide) smranPe30 e h30
  rcases List.mem_append.1 h30 with h31 | h31
  · exact ranAll_ok p_mixed p_callable smov2_ok (by decide) smranPe31 e h31
  rcases List.mem_append.1 h31 with h32 | h32
  · exact ranAll_ok p_mixed p_callable smov2_ok (by decide) smranPe32 e h32
  rcases List.mem_append.1 h32 with h33 | h33
  · exact ranAll_ok p_mixed p_callable smov2_ok (by decide) smranPe33 e h33
  rcases List.mem_append.1 h33 with h34 | h34
  · exact ranAll_ok p_mixed p_callable smov2_ok (by decide) smranPe34 e h34
  rcases List.mem_append.1 h34 with h35 | h35
  · exact ranAll_ok p_mixed p_callable smov2_ok (by decide) smranPe35 e h35
  rcases List.mem_append.1 h35 with h36 | h36
  · exact ranAll_ok p_mixed p_callable smov2_ok (by decide) smranPe36 e h36
  rcases List.mem_append.1 h36 with h37 | h37
  · exact ranAll_ok p_mixed p_callable smov2_ok (by decide) smranPe37 e h37
  rcases List.mem_append.1 h37 with h38 | h38
  · exact ranAll_ok p_mixed p_callable smov2_ok (by decide) smranPe38 e h38
  rcases List.mem_append.1 h38 with h39 | h39
  · exact ranAll_ok p_mixed p_callable smov2_ok (by decide) smranPe39 e h39
  rcases List.mem_append.1 h39 with h40 | h40
  · exact ranAll_ok p_mixed p_callable smov2_ok (by decide) smranPe40 e h40
  rcases List.mem_append.1 h40 with h41 | h41
  · exact ranAll_ok p_mixed p_callable smov2_ok (by decide) smranPe41 e h41
  rcases List.mem_append.1 h41 with h42 | h42
  · exact ranAll_ok p_mixed p_callable smov2_ok (by decide) smranPe42 e h42
  rcases List.mem_append.1 h42 with h43 | h43
  · exact ranAll_ok p_mixed p_callable smov2_ok (by decide) smranPe43 e h43
  rcases List.mem_append.1 h43 with h44 | h44
  · exact ranAll_ok p_mixed p_callable smov2_ok (by decide) smranPe44 e h44
  rcases List.mem_append.1 h44 with h45 | h45
  · exact ranAll_ok p_mixed p_callable smov2_ok (by decide) smranPe45 e h45
  rcases List.mem_append.1 h45 with h46 | h46
  · exact ranAll_ok p_mixed p_callable smov2_ok (by decide) smranPe46 e h46
  rcases List.mem_append.1 h46 with h47 | h47
  · exact ranAll_ok p_mixed p_callable smov2_ok (by decide) smranPe47 e h47
  rcases List.mem_append.1 h47 with h48 | h48
  · exact ranAll_ok p_mixed p_callable smov2_ok (by decide) smranPe48 e h48
  rcases List.mem_append.1 h48 with h49 | h49
  · exact ranAll_ok p_mixed p_callable smov2_ok (by decide) smranPe49 e h49
  rcases List.mem_append.1 h49 with h50 | h50
  · exact ranAll_ok p_mixed p_callable smov2_ok (by decide) smranPe50 e h50
  rcases List.mem_append.1 h50 with h51 | h51
  · exact ranAll_ok p_mixed p_callable smov2_ok (by decide) smranPe51 e h51
  rcases List.mem_append.1 h51 with h52 | h52
  · exact ranAll_ok p_mixed p_callable smov2_ok (by decide) smranPe52 e h52
  rcases List.mem_append.1 h52 with h53 | h53
  · exact ranAll_ok p_mixed p_callable smov2_ok (by decide) smranPe53 e h53
  rcases List.mem_append.1 h53 with h54 | h54
  · exact ranAll_ok p_mixed p_callable smov2_ok (by decide) smranPe54 e h54
  rcases List.mem_append.1 h54 with h55 | h55
  · exact ranAll_ok p_mixed p_callable smov2_ok (by decide) smranPe55 e h55
  rcases List.mem_append.1 h55 with h56 | h56
  · exact ranAll_ok p_mixed p_callable smov2_ok (by decide) smranPe56 e h56
  rcases List.mem_append.1 h56 with h57 | h57
  · exact ranAll_ok p_mixed p_callable smov2_ok (by decide) smranPe57 e h57
  rcases List.mem_append.1 h57 with h58 | h58
  · exact ranAll_ok p_mixed p_callable smov2_ok (by decide) smranPe58 e h58
  rcases List.mem_append.1 h58 with h59 | h59
  · exact ranAll_ok p_mixed p_callable smov2_ok (by decide) smranPe59 e h59
  rcases List.mem_append.1 h59 with h60 | h60
  · exact ranAll_ok p_mixed p_callable smov2_ok (by decide) smranPe60 e h60
  rcases List.mem_append.1 h60 with h61 | h61
  · exact ranAll_ok p_mixed p_callable smov2_ok (by decide) smranPe61 e h61
  rcases List.mem_append.1 h61 with h62 | h62
  · exact ranAll_ok p_mixed p_callable smov2_ok (by decide) smranPe62 e h62
  rcases List.mem_append.1 h62 with h63 | h63
  · exact ranAll_ok p_mixed p_callable smov2_ok (by decide) smranPe63 e h63
  rcases List.mem_append.1 h63 with h64 | h64
  · exact ranAll_ok p_mixed p_callable smov2_ok (by decide) smranPe64 e h64
  rcases List.mem_append.1 h64 with h65 | h65
  · exact ranAll_ok p_mixed p_callable smov2_ok (by decide) smranPe65 e h65
  rcases List.mem_append.1 h65 with h66 | h66
  · exact ranAll_ok p_mixed p_callable smov2_ok (by decide) smranPe66 e h66
  rcases List.mem_append.1 h66 with h67 | h67
  · exact ranAll_ok p_mixed p_callable smov2_ok (by decide) smranPe67 e h67
  rcases List.mem_append.1 h67 with h68 | h68
  · exact ranAll_ok p_mixed p_callable smov2_ok (by decide) smranPe68 e h68
  rcases List.mem_append.1 h68 with h69 | h69
  · exact ranAll_ok p_mixed p_callable smov2_ok (by decide) smranPe69 e h69
  rcases List.mem_append.1 h69 with h70 | h70
  · exact ranAll_ok p_mixed p_callable smov2_ok (by decide) smranPe70 e h70
  rcases List.mem_append.1 h70 with h71 | h71
  · exact ranAll_ok p_mixed p_callable smov2_ok (by decide) smranPe71 e h71
  rcases List.mem_append.1 h71 with h72 | h72
  · exact ranAll_ok p_mixed p_callable smov2_ok (by decide) smranPe72 e h72
  exact ranAll_ok p_mixed p_callable smov2_ok (by decide) smranPe73 e h72
noncomputable def smdPe : Dc Tryz.prog := Dc.memo 173 smPeAll smmemPe (hasbody rfl rfl)
noncomputable def smdc3 : List (Dc Tryz.prog) := smdPe :: smdc2
noncomputable def smov3 : Tgt → AV → Heap → Option CR := ovD (dcTab smdc3)
theorem smov3_ok (B0 : Nat) : OvOK Tryz.prog B0 smov3 := ovD_ok p_callable _ B0
end Go.Sy
/- CatalogueMakes: a run of the law. -/
namespace Go.Sy
open Go.RowKit Go.Proofs
set_option linter.unusedVariables false
set_option maxRecDepth 1000000
set_option maxHeartbeats 0
/-- Three arguments. -/
def args3 (x y z : AV) : AV := .cons x (.cons y (.cons z .nil))
noncomputable def chk (x y z : AV) : Bool := (callO Tryz.prog smov3 1000 40 (.fn 3) (args3 x y z) (startWith Tabs.l 64)).isTrue
/-- What the law does. -/
def Told (W : World) (a b c : Int) : Prop := Calls Tryz.prog 3 #[.int .u8 a, .int .u8 b, .int .u8 c] W fun e w => e = .returned (.bool true) ∧ Below W.heap.size W w
theorem told_of {x y z : AV} (h : chk x y z = true) {a b c : Int} (hx : ∀ μ, VR1 μ x (.int .u8 a)) (hy : ∀ μ, VR1 μ y (.int .u8 b)) (hz : ∀ μ, VR1 μ z (.int .u8 c)) {W : World} (ht : TabOK W Tabs.l) : Told W a b c :=
  run_trueO p_mixed p_callable smov3_ok h (by decide) ht (fun μ => ⟨_, _, rfl, hx μ, _, _, rfl, hy μ, _, _, rfl, hz μ, rfl⟩)
/-- A small int by its rest. -/
theorem in_cls {n m r : Int} (h0 : 0 ≤ n) (h1 : n ≤ 255) (hm : r < 0) (hm0 : 0 ≤ m) (h : n % m = r + m) (μ : Mu) : VR1 μ (.rng .u8 m r) (.int .u8 n) := ⟨n, rfl, fun e => by omega, fun _ => ⟨h0, h1, h⟩⟩
end Go.Sy
