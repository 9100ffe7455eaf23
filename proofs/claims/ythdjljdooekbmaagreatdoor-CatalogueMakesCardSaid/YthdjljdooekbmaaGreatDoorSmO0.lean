/- What is known beforehand, level 1. -/
import Derived.Test.YthdjljdooekbmaaGreatDoorSmMKn0
import Derived.Test.YthdjljdooekbmaaGreatDoorSmMRd0
import Derived.Test.YthdjljdooekbmaaGreatDoorSmMNu0
import Derived.Test.YthdjljdooekbmaaGreatDoorSmMPr0
import Derived.Test.YthdjljdooekbmaaGreatDoorSmMRi0
import Derived.Test.YthdjljdooekbmaaGreatDoorSmMRi1
import Derived.Test.YthdjljdooekbmaaGreatDoorSmMRi2
import Derived.Test.YthdjljdooekbmaaGreatDoorSmMRi3
import Derived.Test.YthdjljdooekbmaaGreatDoorSmMRi4
import Derived.Test.YthdjljdooekbmaaGreatDoorSmMRi5
import Derived.Test.YthdjljdooekbmaaGreatDoorSmMRi6
import Derived.Test.YthdjljdooekbmaaGreatDoorSmMRi7
namespace Go.Sy
open Go.RowKit Go.Proofs
set_option linter.unusedVariables false
set_option maxRecDepth 1000000
set_option maxHeartbeats 0
noncomputable def smKnAll : List (AV × AV) := smKn0
theorem smmemKn : ∀ e ∈ smKnAll, @PF tb1 Tryz.prog 4 e.1 e.2 ∧ DP e.1 ∧ DP e.2 := by
  intro e he
  exact ranAll_ok p_mixed p_callable ov0_ok (by decide) smranKn0 e he
noncomputable def smdKn : Dc Tryz.prog := Dc.memo 4 smKnAll smmemKn (hasbody rfl rfl)
noncomputable def smRdAll : List (AV × AV) := smRd0 ++ (smRd1 ++ (smRd2 ++ (smRd3 ++ (smRd4))))
theorem smmemRd : ∀ e ∈ smRdAll, @PF tb1 Tryz.prog 118 e.1 e.2 ∧ DP e.1 ∧ DP e.2 := by
  intro e he
  rcases List.mem_append.1 he with h0 | h0
  · exact ranAll_ok p_mixed p_callable ov0_ok (by decide) smranRd0 e h0
  rcases List.mem_append.1 h0 with h1 | h1
  · exact ranAll_ok p_mixed p_callable ov0_ok (by decide) smranRd1 e h1
  rcases List.mem_append.1 h1 with h2 | h2
  · exact ranAll_ok p_mixed p_callable ov0_ok (by decide) smranRd2 e h2
  rcases List.mem_append.1 h2 with h3 | h3
  · exact ranAll_ok p_mixed p_callable ov0_ok (by decide) smranRd3 e h3
  exact ranAll_ok p_mixed p_callable ov0_ok (by decide) smranRd4 e h3
noncomputable def smdRd : Dc Tryz.prog := Dc.memo 118 smRdAll smmemRd (hasbody rfl rfl)
noncomputable def smNuAll : List (AV × AV) := smNu0 ++ (smNu1 ++ (smNu2))
theorem smmemNu : ∀ e ∈ smNuAll, @PF tb1 Tryz.prog 31 e.1 e.2 ∧ DP e.1 ∧ DP e.2 := by
  intro e he
  rcases List.mem_append.1 he with h0 | h0
  · exact ranAll_ok p_mixed p_callable ov0_ok (by decide) smranNu0 e h0
  rcases List.mem_append.1 h0 with h1 | h1
  · exact ranAll_ok p_mixed p_callable ov0_ok (by decide) smranNu1 e h1
  exact ranAll_ok p_mixed p_callable ov0_ok (by decide) smranNu2 e h1
noncomputable def smdNu : Dc Tryz.prog := Dc.memo 31 smNuAll smmemNu (hasbody rfl rfl)
noncomputable def smPrAll : List (AV × AV) := smPr0 ++ (smPr1 ++ (smPr2 ++ (smPr3)))
theorem smmemPr : ∀ e ∈ smPrAll, @PF tb1 Tryz.prog 207 e.1 e.2 ∧ DP e.1 ∧ DP e.2 := by
  intro e he
  rcases List.mem_append.1 he with h0 | h0
  · exact ranAll_ok p_mixed p_callable ov0_ok (by decide) smranPr0 e h0
  rcases List.mem_append.1 h0 with h1 | h1
  · exact ranAll_ok p_mixed p_callable ov0_ok (by decide) smranPr1 e h1
  rcases List.mem_append.1 h1 with h2 | h2
  · exact ranAll_ok p_mixed p_callable ov0_ok (by decide) smranPr2 e h2
  exact ranAll_ok p_mixed p_callable ov0_ok (by decide) smranPr3 e h2
noncomputable def smdPr : Dc Tryz.prog := Dc.memo 207 smPrAll smmemPr (hasbody rfl rfl)
noncomputable def smRiAll : List (AV × AV) := smRi0 ++ (smRi1 ++ (smRi2 ++ (smRi3 ++ (smRi4 ++ (smRi5 ++ (smRi6 ++ (smRi7 ++ (smRi8 ++ (smRi9 ++ (smRi10 ++ (smRi11 ++ (smRi12 ++ (smRi13 ++ (smRi14 ++ (smRi15 ++ (smRi16 ++ (smRi17 ++ (smRi18 ++ (smRi19 ++ (smRi20 ++ (smRi21 ++ (smRi22 ++ (smRi23 ++ (smRi24 ++ (smRi25 ++ (smRi26 ++ (smRi27 ++ (smRi28 ++ (smRi29 ++ (smRi30 ++ (smRi31 ++ (smRi32 ++ (smRi33 ++ (smRi34 ++ (smRi35 ++ (smRi36 ++ (smRi37 ++ (smRi38 ++ (smRi39 ++ (smRi40 ++ (smRi41 ++ (smRi42 ++ (smRi43 ++ (smRi44 ++ (smRi45 ++ (smRi46 ++ (smRi47 ++ (smRi48 ++ (smRi49 ++ (smRi50 ++ (smRi51 ++ (smRi52 ++ (smRi53 ++ (smRi54 ++ (smRi55 ++ (smRi56 ++ (smRi57 ++ (smRi58 ++ (smRi59 ++ (smRi60 ++ (smRi61 ++ (smRi62 ++ (smRi63)))))))))))))))))))))))))))))))))))))))))))))))))))))))))))))))
theorem smmemRi : ∀ e ∈ smRiAll, @PF tb1 Tryz.prog 206 e.1 e.2 ∧ DP e.1 ∧ DP e.2 := by
  intro e he
  rcases List.mem_append.1 he with h0 | h0
  · exact ranAll_ok p_mixed p_callable ov0_ok (by decide) smranRi0 e h0
  rcases List.mem_append.1 h0 with h1 | h1
  · exact ranAll_ok p_mixed p_callable ov0_ok (by decide) smranRi1 e h1
  rcases List.mem_append.1 h1 with h2 | h2
  · exact ranAll_ok p_mixed p_callable ov0_ok (by decide) smranRi2 e h2
  rcases List.mem_append.1 h2 with h3 | h3
  · exact ranAll_ok p_mixed p_callable ov0_ok (by decide) smranRi3 e h3
  rcases List.mem_append.1 h3 with h4 | h4
  · exact ranAll_ok p_mixed p_callable ov0_ok (by decide) smranRi4 e h4
  rcases List.mem_append.1 h4 with h5 | h5
  · exact ranAll_ok p_mixed p_callable ov0_ok (by decide) smranRi5 e h5
  rcases List.mem_append.1 h5 with h6 | h6
  · exact ranAll_ok p_mixed p_callable ov0_ok (by decide) smranRi6 e h6
  rcases List.mem_append.1 h6 with h7 | h7
  · exact ranAll_ok p_mixed p_callable ov0_ok (by decide) smranRi7 e h7
  rcases List.mem_append.1 h7 with h8 | h8
  · exact ranAll_ok p_mixed p_callable ov0_ok (by decide) smranRi8 e h8
  rcases List.mem_append.1 h8 with h9 | h9
  · exact ranAll_ok p_mixed p_callable ov0_ok (by decide) smranRi9 e h9
  rcases List.mem_append.1 h9 with h10 | h10
  · exact ranAll_ok p_mixed p_callable ov0_ok (by decide) smranRi10 e h10
  rcases List.mem_append.1 h10 with h11 | h11
  · exact ranAll_ok p_mixed p_callable ov0_ok (by decide) smranRi11 e h11
  rcases List.mem_append.1 h11 with h12 | h12
  · exact ranAll_ok p_mixed p_callable ov0_ok (by decide) smranRi12 e h12
  rcases List.mem_append.1 h12 with h13 | h13
  · exact ranAll_ok p_mixed p_callable ov0_ok (by decide) smranRi13 e h13
  rcases List.mem_append.1 h13 with h14 | h14
  · exact ranAll_ok p_mixed p_callable ov0_ok (by decide) smranRi14 e h14
  rcases List.mem_append.1 h14 with h15 | h15
  · exact ranAll_ok p_mixed p_callable ov0_ok (by decide) smranRi15 e h15
  rcases List.mem_append.1 h15 with h16 | h16
  · exact ranAll_ok p_mixed p_callable ov0_ok (by decide) smranRi16 e h16
  rcases List.mem_append.1 h16 with h17 | h17
  · exact ranAll_ok p_mixed p_callable ov0_ok (by decide) smranRi17 e h17
  rcases List.mem_append.1 h17 with h18 | h18
  · exact ranAll_ok p_mixed p_callable ov0_ok (by decide) smranRi18 e h18
  rcases List.mem_append.1 h18 with h19 | h19
  · exact ranAll_ok p_mixed p_callable ov0_ok (by decide) smranRi19 e h19
  rcases List.mem_append.1 h19 with h20 | h20
  · exact ranAll_ok p_mixed p_callable ov0_ok (by decide) smranRi20 e h20
  rcases List.mem_append.1 h20 with h21 | h21
  · exact ranAll_ok p_mixed p_callable ov0_ok (by decide) smranRi21 e h21
  rcases List.mem_append.1 h21 with h22 | h22
  · exact ranAll_ok p_mixed p_callable ov0_ok (by decide) smranRi22 e h22
  rcases List.mem_append.1 h22 with h23 | h23
  · exact ranAll_ok p_mixed p_callable ov0_ok (by decide) smranRi23 e h23
  rcases List.mem_append.1 h23 with h24 | h24
  · exact ranAll_ok p_mixed p_callable ov0_ok (by decide) smranRi24 e h24
  rcases List.mem_append.1 h24 with h25 | h25
  · exact ranAll_ok p_mixed p_callable ov0_ok (by decide) smranRi25 e h25
  rcases List.mem_append.1 h25 with h26 | h26
  · exact ranAll_ok p_mixed p_callable ov0_ok (by decide) smranRi26 e h26
  rcases List.mem_append.1 h26 with h27 | h27
  · exact ranAll_ok p_mixed p_callable ov0_ok (by decide) smranRi27 e h27
  rcases List.mem_append.1 h27 with h28 | h28
  · exact ranAll_ok p_mixed p_callable ov0_ok (by decide) smranRi28 e h28
  rcases List.mem_append.1 h28 with h29 | h29
  · exact ranAll_ok p_mixed p_callable ov0_ok (by decide) smranRi29 e h29
  rcases List.mem_append.1 h29 with h30 | h30
  · exact ranAll_ok p_mixed p_callable ov0_ok (by decide) smranRi30 e h30
  rcases List.mem_append.1 h30 with h31 | h31
  · exact ranAll_ok p_mixed p_callable ov0_ok (by decide) smranRi31 e h31
  rcases List.mem_append.1 h31 with h32 | h32
  · exact ranAll_ok p_mixed p_callable ov0_ok (by decide) smranRi32 e h32
  rcases List.mem_append.1 h32 with h33 | h33
  · exact ranAll_ok p_mixed p_callable ov0_ok (by decide) smranRi33 e h33
  rcases List.mem_append.1 h33 with h34 | h34
  · exact ranAll_ok p_mixed p_callable ov0_ok (by decide) smranRi34 e h34
  rcases List.mem_append.1 h34 with h35 | h35
  · exact ranAll_ok p_mixed p_callable ov0_ok (by decide) smranRi35 e h35
  rcases List.mem_append.1 h35 with h36 | h36
  · exact ranAll_ok p_mixed p_callable ov0_ok (by decide) smranRi36 e h36
  rcases List.mem_append.1 h36 with h37 | h37
  · exact ranAll_ok p_mixed p_callable ov0_ok (by decide) smranRi37 e h37
  rcases List.mem_append.1 h37 with h38 | h38
  · exact ranAll_ok p_mixed p_callable ov0_ok (by decide) smranRi38 e h38
  rcases List.mem_append.1 h38 with h39 | h39
  · exact ranAll_ok p_mixed p_callable ov0_ok (by decide) smranRi39 e h39
  rcases List.mem_append.1 h39 with h40 | h40
  · exact ranAll_ok p_mixed p_callable ov0_ok (by decide) smranRi40 e h40
  rcases List.mem_append.1 h40 with h41 | h41
  · exact ranAll_ok p_mixed p_callable ov0_ok (by decide) smranRi41 e h41
  rcases List.mem_append.1 h41 with h42 | h42
  · exact ranAll_ok p_mixed p_callable ov0_ok (by decide) smranRi42 e h42
  rcases List.mem_append.1 h42 with h43 | h43
  · exact ranAll_ok p_mixed p_callable ov0_ok (by decide) smranRi43 e h43
  rcases List.mem_append.1 h43 with h44 | h44
  · exact ranAll_ok p_mixed p_callable ov0_ok (by decide) smranRi44 e h44
  rcases List.mem_append.1 h44 with h45 | h45
  · exact ranAll_ok p_mixed p_callable ov0_ok (by decide) smranRi45 e h45
  rcases List.mem_append.1 h45 with h46 | h46
  · exact ranAll_ok p_mixed p_callable ov0_ok (by decide) smranRi46 e h46
  rcases List.mem_append.1 h46 with h47 | h47
  · exact ranAll_ok p_mixed p_callable ov0_ok (by decide) smranRi47 e h47
  rcases List.mem_append.1 h47 with h48 | h48
  · exact ranAll_ok p_mixed p_callable ov0_ok (by decide) smranRi48 e h48
  rcases List.mem_append.1 h48 with h49 | h49
  · exact ranAll_ok p_mixed p_callable ov0_ok (by decide) smranRi49 e h49
  rcases List.mem_append.1 h49 with h50 | h50
  · exact ranAll_ok p_mixed p_callable ov0_ok (by decide) smranRi50 e h50
  rcases List.mem_append.1 h50 with h51 | h51
  · exact ranAll_ok p_mixed p_callable ov0_ok (by decide) smranRi51 e h51
  rcases List.mem_append.1 h51 with h52 | h52
  · exact ranAll_ok p_mixed p_callable ov0_ok (by decide) smranRi52 e h52
  rcases List.mem_append.1 h52 with h53 | h53
  · exact ranAll_ok p_mixed p_callable ov0_ok (by decide) smranRi53 e h53
  rcases List.mem_append.1 h53 with h54 | h54
  · exact ranAll_ok p_mixed p_callable ov0_ok (by decide) smranRi54 e h54
  rcases List.mem_append.1 h54 with h55 | h55
  · exact ranAll_ok p_mixed p_callable ov0_ok (by decide) smranRi55 e h55
  rcases List.mem_append.1 h55 with h56 | h56
  · exact ranAll_ok p_mixed p_callable ov0_ok (by decide) smranRi56 e h56
  rcases List.mem_append.1 h56 with h57 | h57
  · exact ranAll_ok p_mixed p_callable ov0_ok (by decide) smranRi57 e h57
  rcases List.mem_append.1 h57 with h58 | h58
  · exact ranAll_ok p_mixed p_callable ov0_ok (by decide) smranRi58 e h58
  rcases List.mem_append.1 h58 with h59 | h59
  · exact ranAll_ok p_mixed p_callable ov0_ok (by decide) smranRi59 e h59
  rcases List.mem_append.1 h59 with h60 | h60
  · exact ranAll_ok p_mixed p_callable ov0_ok (by decide) smranRi60 e h60
  rcases List.mem_append.1 h60 with h61 | h61
  · exact ranAll_ok p_mixed p_callable ov0_ok (by decide) smranRi61 e h61
  rcases List.mem_append.1 h61 with h62 | h62
  · exact ranAll_ok p_mixed p_callable ov0_ok (by decide) smranRi62 e h62
  exact ranAll_ok p_mixed p_callable ov0_ok (by decide) smranRi63 e h62
noncomputable def smdRi : Dc Tryz.prog := Dc.memo 206 smRiAll smmemRi (hasbody rfl rfl)
noncomputable def smdc1 : List (Dc Tryz.prog) := smdKn :: smdRd :: smdNu :: smdPr :: smdRi :: dc0
noncomputable def smov1 : Tgt → AV → Heap → Option CR := ovD (dcTab smdc1)
theorem smov1_ok (B0 : Nat) : OvOK Tryz.prog B0 smov1 := ovD_ok p_callable _ B0
end Go.Sy
