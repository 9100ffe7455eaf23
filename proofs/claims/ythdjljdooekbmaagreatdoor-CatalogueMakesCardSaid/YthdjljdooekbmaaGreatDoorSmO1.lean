/- What is known beforehand, level 2. -/
import Derived.Test.YthdjljdooekbmaaGreatDoorSmMOf0
import Derived.Test.YthdjljdooekbmaaGreatDoorSmMOf1
import Derived.Test.YthdjljdooekbmaaGreatDoorSmMOf2
import Derived.Test.YthdjljdooekbmaaGreatDoorSmMOf3
import Derived.Test.YthdjljdooekbmaaGreatDoorSmMOf4
import Derived.Test.YthdjljdooekbmaaGreatDoorSmMOf5
import Derived.Test.YthdjljdooekbmaaGreatDoorSmMOf6
import Derived.Test.YthdjljdooekbmaaGreatDoorSmMOf7
namespace Go.Sy
open Go.RowKit Go.Proofs
set_option linter.unusedVariables false
set_option maxRecDepth 1000000
set_option maxHeartbeats 0
noncomputable def smOfAll : List (AV × AV) := smOf0 ++ (smOf1 ++ (smOf2 ++ (smOf3 ++ (smOf4 ++ (smOf5 ++ (smOf6 ++ (smOf7 ++ (smOf8 ++ (smOf9 ++ (smOf10 ++ (smOf11 ++ (smOf12 ++ (smOf13 ++ (smOf14 ++ (smOf15 ++ (smOf16 ++ (smOf17 ++ (smOf18 ++ (smOf19 ++ (smOf20 ++ (smOf21 ++ (smOf22 ++ (smOf23 ++ (smOf24 ++ (smOf25 ++ (smOf26 ++ (smOf27 ++ (smOf28 ++ (smOf29 ++ (smOf30 ++ (smOf31 ++ (smOf32 ++ (smOf33 ++ (smOf34 ++ (smOf35 ++ (smOf36 ++ (smOf37 ++ (smOf38 ++ (smOf39 ++ (smOf40 ++ (smOf41 ++ (smOf42 ++ (smOf43 ++ (smOf44 ++ (smOf45 ++ (smOf46 ++ (smOf47 ++ (smOf48 ++ (smOf49 ++ (smOf50 ++ (smOf51 ++ (smOf52 ++ (smOf53 ++ (smOf54 ++ (smOf55 ++ (smOf56 ++ (smOf57 ++ (smOf58 ++ (smOf59 ++ (smOf60 ++ (smOf61 ++ (smOf62 ++ (smOf63 ++ (smOf64 ++ (smOf65 ++ (smOf66 ++ (smOf67 ++ (smOf68 ++ (smOf69 ++ (smOf70 ++ (smOf71 ++ (smOf72 ++ (smOf73 ++ (smOf74 ++ (smOf75 ++ (smOf76 ++ (smOf77 ++ (smOf78 ++ (smOf79)))))))))))))))))))))))))))))))))))))))))))))))))))))))))))))))))))))))))))))))
theorem smmemOf : ∀ e ∈ smOfAll, @PF tb1 Tryz.prog 170 e.1 e.2 ∧ DP e.1 ∧ DP e.2 := by
  intro e he
  rcases List.mem_append.1 he with h0 | h0
  · exact ranAll_ok p_mixed p_callable smov1_ok (by decide) smranOf0 e h0
  rcases List.mem_append.1 h0 with h1 | h1
  · exact ranAll_ok p_mixed p_callable smov1_ok (by decide) smranOf1 e h1
  rcases List.mem_append.1 h1 with h2 | h2
  · exact ranAll_ok p_mixed p_callable smov1_ok (by decide) smranOf2 e h2
  rcases List.mem_append.1 h2 with h3 | h3
  · exact ranAll_ok p_mixed p_callable smov1_ok (by decide) smranOf3 e h3
  rcases List.mem_append.1 h3 with h4 | h4
  · exact ranAll_ok p_mixed p_callable smov1_ok (by decide) smranOf4 e h4
  rcases List.mem_append.1 h4 with h5 | h5
  · exact ranAll_ok p_mixed p_callable smov1_ok (by decide) smranOf5 e h5
  rcases List.mem_append.1 h5 with h6 | h6
  · exact ranAll_ok p_mixed p_callable smov1_ok (by decide) smranOf6 e h6
  rcases List.mem_append.1 h6 with h7 | h7
  · exact ranAll_ok p_mixed p_callable smov1_ok (by decide) smranOf7 e h7
  rcases List.mem_append.1 h7 with h8 | h8
  · exact ranAll_ok p_mixed p_callable smov1_ok (by decide) smranOf8 e h8
  rcases List.mem_append.1 h8 with h9 | h9
  · exact ranAll_ok p_mixed p_callable smov1_ok (by decide) smranOf9 e h9
  rcases List.mem_append.1 h9 with h10 | h10
  · exact ranAll_ok p_mixed p_callable smov1_ok (by decide) smranOf10 e h10
  rcases List.mem_append.1 h10 with h11 | h11
  · exact ranAll_ok p_mixed p_callable smov1_ok (by decide) smranOf11 e h11
  rcases List.mem_append.1 h11 with h12 | h12
  · exact ranAll_ok p_mixed p_callable smov1_ok (by decide) smranOf12 e h12
  rcases List.mem_append.1 h12 with h13 | h13
  · exact ranAll_ok p_mixed p_callable smov1_ok (by decide) smranOf13 e h13
  rcases List.mem_append.1 h13 with h14 | h14
  · exact ranAll_ok p_mixed p_callable smov1_ok (by decide) smranOf14 e h14
  rcases List.mem_append.1 h14 with h15 | h15
  · exact ranAll_ok p_mixed p_callable smov1_ok (by decide) smranOf15 e h15
  rcases List.mem_append.1 h15 with h16 | h16
  · exact ranAll_ok p_mixed p_callable smov1_ok (by decide) smranOf16 e h16
  rcases List.mem_append.1 h16 with h17 | h17
  · exact ranAll_ok p_mixed p_callable smov1_ok (by decide) smranOf17 e h17
  rcases List.mem_append.1 h17 with h18 | h18
  · exact ranAll_ok p_mixed p_callable smov1_ok (by decide) smranOf18 e h18
  rcases List.mem_append.1 h18 with h19 | h19
  · exact ranAll_ok p_mixed p_callable smov1_ok (by decide) smranOf19 e h19
  rcases List.mem_append.1 h19 with h20 | h20
  · exact ranAll_ok p_mixed p_callable smov1_ok (by decide) smranOf20 e h20
  rcases List.mem_append.1 h20 with h21 | h21
  · exact ranAll_ok p_mixed p_callable smov1_ok (by decide) smranOf21 e h21
  rcases List.mem_append.1 h21 with h22 | h22
  · exact ranAll_ok p_mixed p_callable smov1_ok (by decide) smranOf22 e h22
  rcases List.mem_append.1 h22 with h23 | h23
  · exact ranAll_ok p_mixed p_callable smov1_ok (by decide) smranOf23 e h23
  rcases List.mem_append.1 h23 with h24 | h24
  · exact ranAll_ok p_mixed p_callable smov1_ok (by decide) smranOf24 e h24
  rcases List.mem_append.1 h24 with h25 | h25
  · exact ranAll_ok p_mixed p_callable smov1_ok (by decide) smranOf25 e h25
  rcases List.mem_append.1 h25 with h26 | h26
  · exact ranAll_ok p_mixed p_callable smov1_ok (by decide) smranOf26 e h26
  rcases List.mem_append.1 h26 with h27 | h27
  · exact ranAll_ok p_mixed p_callable smov1_ok (by decide) smranOf27 e h27
  rcases List.mem_append.1 h27 with h28 | h28
  · exact ranAll_ok p_mixed p_callable smov1_ok (by decide) smranOf28 e h28
  rcases List.mem_append.1 h28 with h29 | h29
  · exact ranAll_ok p_mixed p_callable smov1_ok (by decide) smranOf29 e h29
  rcases List.mem_append.1 h29 with h30 | h30
  · exact ranAll_ok p_mixed p_callable smov1_ok (by decide) smranOf30 e h30
  rcases List.mem_append.1 h30 with h31 | h31
  · exact ranAll_ok p_mixed p_callable smov1_ok (by decide) smranOf31 e h31
  rcases List.mem_append.1 h31 with h32 | h32
  · exact ranAll_ok p_mixed p_callable smov1_ok (by decide) smranOf32 e h32
  rcases List.mem_append.1 h32 with h33 | h33
  · exact ranAll_ok p_mixed p_callable smov1_ok (by decide) smranOf33 e h33
  rcases List.mem_append.1 h33 with h34 | h34
  · exact ranAll_ok p_mixed p_callable smov1_ok (by decide) smranOf34 e h34
  rcases List.mem_append.1 h34 with h35 | h35
  · exact ranAll_ok p_mixed p_callable smov1_ok (by decide) smranOf35 e h35
  rcases List.mem_append.1 h35 with h36 | h36
  · exact ranAll_ok p_mixed p_callable smov1_ok (by decide) smranOf36 e h36
  rcases List.mem_append.1 h36 with h37 | h37
  · exact ranAll_ok p_mixed p_callable smov1_ok (by decide) smranOf37 e h37
  rcases List.mem_append.1 h37 with h38 | h38
  · exact ranAll_ok p_mixed p_callable smov1_ok (by decide) smranOf38 e h38
  rcases List.mem_append.1 h38 with h39 | h39
  · exact ranAll_ok p_mixed p_callable smov1_ok (by decide) smranOf39 e h39
  rcases List.mem_append.1 h39 with h40 | h40
  · exact ranAll_ok p_mixed p_callable smov1_ok (by decide) smranOf40 e h40
  rcases List.mem_append.1 h40 with h41 | h41
  · exact ranAll_ok p_mixed p_callable smov1_ok (by decide) smranOf41 e h41
  rcases List.mem_append.1 h41 with h42 | h42
  · exact ranAll_ok p_mixed p_callable smov1_ok (by decide) smranOf42 e h42
  rcases List.mem_append.1 h42 with h43 | h43
  · exact ranAll_ok p_mixed p_callable smov1_ok (by decide) smranOf43 e h43
  rcases List.mem_append.1 h43 with h44 | h44
  · exact ranAll_ok p_mixed p_callable smov1_ok (by decide) smranOf44 e h44
  rcases List.mem_append.1 h44 with h45 | h45
  · exact ranAll_ok p_mixed p_callable smov1_ok (by decide) smranOf45 e h45
  rcases List.mem_append.1 h45 with h46 | h46
  · exact ranAll_ok p_mixed p_callable smov1_ok (by decide) smranOf46 e h46
  rcases List.mem_append.1 h46 with h47 | h47
  · exact ranAll_ok p_mixed p_callable smov1_ok (by decide) smranOf47 e h47
  rcases List.mem_append.1 h47 with h48 | h48
  · exact ranAll_ok p_mixed p_callable smov1_ok (by decide) smranOf48 e h48
  rcases List.mem_append.1 h48 with h49 | h49
  · exact ranAll_ok p_mixed p_callable smov1_ok (by decide) smranOf49 e h49
  rcases List.mem_append.1 h49 with h50 | h50
  · exact ranAll_ok p_mixed p_callable smov1_ok (by decide) smranOf50 e h50
  rcases List.mem_append.1 h50 with h51 | h51
  · exact ranAll_ok p_mixed p_callable smov1_ok (by decide) smranOf51 e h51
  rcases List.mem_append.1 h51 with h52 | h52
  · exact ranAll_ok p_mixed p_callable smov1_ok (by decide) smranOf52 e h52
  rcases List.mem_append.1 h52 with h53 | h53
  · exact ranAll_ok p_mixed p_callable smov1_ok (by decide) smranOf53 e h53
  rcases List.mem_append.1 h53 with h54 | h54
  · exact ranAll_ok p_mixed p_callable smov1_ok (by decide) smranOf54 e h54
  rcases List.mem_append.1 h54 with h55 | h55
  · exact ranAll_ok p_mixed p_callable smov1_ok (by decide) smranOf55 e h55
  rcases List.mem_append.1 h55 with h56 | h56
  · exact ranAll_ok p_mixed p_callable smov1_ok (by decide) smranOf56 e h56
  rcases List.mem_append.1 h56 with h57 | h57
  · exact ranAll_ok p_mixed p_callable smov1_ok (by decide) smranOf57 e h57
  rcases List.mem_append.1 h57 with h58 | h58
  · exact ranAll_ok p_mixed p_callable smov1_ok (by decide) smranOf58 e h58
  rcases List.mem_append.1 h58 with h59 | h59
  · exact ranAll_ok p_mixed p_callable smov1_ok (by decide) smranOf59 e h59
  rcases List.mem_append.1 h59 with h60 | h60
  · exact ranAll_ok p_mixed p_callable smov1_ok (by decide) smranOf60 e h60
  rcases List.mem_append.1 h60 with h61 | h61
  · exact ranAll_ok p_mixed p_callable smov1_ok (by decide) smranOf61 e h61
  rcases List.mem_append.1 h61 with h62 | h62
  · exact ranAll_ok p_mixed p_callable smov1_ok (by decide) smranOf62 e h62
  rcases List.mem_append.1 h62 with h63 | h63
  · exact ranAll_ok p_mixed p_callable smov1_ok (by decide) smranOf63 e h63
  rcases List.mem_append.1 h63 with h64 | h64
  · exact ranAll_ok p_mixed p_callable smov1_ok (by decide) smranOf64 e h64
  rcases List.mem_append.1 h64 with h65 | h65
  · exact ranAll_ok p_mixed p_callable smov1_ok (by decide) smranOf65 e h65
  rcases List.mem_append.1 h65 with h66 | h66
  · exact ranAll_ok p_mixed p_callable smov1_ok (by decide) smranOf66 e h66
  rcases List.mem_append.1 h66 with h67 | h67
  · exact ranAll_ok p_mixed p_callable smov1_ok (by decide) smranOf67 e h67
  rcases List.mem_append.1 h67 with h68 | h68
  · exact ranAll_ok p_mixed p_callable smov1_ok (by decide) smranOf68 e h68
  rcases List.mem_append.1 h68 with h69 | h69
  · exact ranAll_ok p_mixed p_callable smov1_ok (by decide) smranOf69 e h69
  rcases List.mem_append.1 h69 with h70 | h70
  · exact ranAll_ok p_mixed p_callable smov1_ok (by decide) smranOf70 e h70
  rcases List.mem_append.1 h70 with h71 | h71
  · exact ranAll_ok p_mixed p_callable smov1_ok (by decide) smranOf71 e h71
  rcases List.mem_append.1 h71 with h72 | h72
  · exact ranAll_ok p_mixed p_callable smov1_ok (by decide) smranOf72 e h72
  rcases List.mem_append.1 h72 with h73 | h73
  · exact ranAll_ok p_mixed p_callable smov1_ok (by decide) smranOf73 e h73
  rcases List.mem_append.1 h73 with h74 | h74
  · exact ranAll_ok p_mixed p_callable smov1_ok (by decide) smranOf74 e h74
  rcases List.mem_append.1 h74 with h75 | h75
  · exact ranAll_ok p_mixed p_callable smov1_ok (by decide) smranOf75 e h75
  rcases List.mem_append.1 h75 with h76 | h76
  · exact ranAll_ok p_mixed p_callable smov1_ok (by decide) smranOf76 e h76
  rcases List.mem_append.1 h76 with h77 | h77
  · exact ranAll_ok p_mixed p_callable smov1_ok (by decide) smranOf77 e h77
  rcases List.mem_append.1 h77 with h78 | h78
  · exact ranAll_ok p_mixed p_callable smov1_ok (by decide) smranOf78 e h78
  exact ranAll_ok p_mixed p_callable smov1_ok (by decide) smranOf79 e h78
noncomputable def smdOf : Dc Tryz.prog := Dc.memo 170 smOfAll smmemOf (hasbody rfl rfl)
noncomputable def smdc2 : List (Dc Tryz.prog) := smdOf :: smdc1
noncomputable def smov2 : Tgt → AV → Heap → Option CR := ovD (dcTab smdc2)
theorem smov2_ok (B0 : Nat) : OvOK Tryz.prog B0 smov2 := ovD_ok p_callable _ B0
end Go.Sy
