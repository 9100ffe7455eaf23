/- Runs of (dowel/rational.Rat).Number. -/
import Derived.Test.YthdjljdooekbmaaGreatDoorSmV1
namespace Go.Sy
open Go.RowKit Go.Proofs
set_option linter.unusedVariables false
set_option maxRecDepth 1000000
set_option maxHeartbeats 0
noncomputable def smNu0 : List (AV × AV) := [
  ((.cons (.agg (qz [11990] .nil)) .nil), (.str [49, 49, 57, 57, 48])),
  ((.cons (.agg (qz [12020] .nil)) .nil), (.str [49, 50, 48, 50, 48])),
  ((.cons (.agg (qz [2994] .nil)) .nil), (.str [50, 57, 57, 52])),
  ((.cons (.agg (qz [3012] .nil)) .nil), (.str [51, 48, 49, 50])),
  ((.cons (.agg (qz [999] .nil)) .nil), (.str [57, 57, 57])),
  ((.cons (.agg (qz [1002] .nil)) .nil), (.str [49, 48, 48, 50])),
  ((.cons (.agg (qz [3999] .nil)) .nil), (.str [51, 57, 57, 57])),
  ((.cons (.agg (qz [4002] .nil)) .nil), (.str [52, 48, 48, 50])),
  ((.cons (.agg (qz [1999] .nil)) .nil), (.str [49, 57, 57, 57])),
  ((.cons (.agg (qz [2002] .nil)) .nil), (.str [50, 48, 48, 50])),
  ((.cons (.agg (qz [7990] .nil)) .nil), (.str [55, 57, 57, 48])),
  ((.cons (.agg (qz [8020] .nil)) .nil), (.str [56, 48, 50, 48])),
  ((.cons (.agg (qz [1997] .nil)) .nil), (.str [49, 57, 57, 55])),
  ((.cons (.agg (qz [2006] .nil)) .nil), (.str [50, 48, 48, 54])),
  ((.cons (.agg (qz [7997] .nil)) .nil), (.str [55, 57, 57, 55])),
  ((.cons (.agg (qz [8006] .nil)) .nil), (.str [56, 48, 48, 54]))]
theorem smranNu0 : ranAll Tryz.prog ov0 31 smNu0 = true := by decide +kernel
noncomputable def smNu1 : List (AV × AV) := [
  ((.cons (.agg (qz [3997] .nil)) .nil), (.str [51, 57, 57, 55])),
  ((.cons (.agg (qz [4006] .nil)) .nil), (.str [52, 48, 48, 54])),
  ((.cons (.agg (qz [2999] .nil)) .nil), (.str [50, 57, 57, 57])),
  ((.cons (.agg (qz [3002] .nil)) .nil), (.str [51, 48, 48, 50])),
  ((.cons (.agg (qz [5994] .nil)) .nil), (.str [53, 57, 57, 52])),
  ((.cons (.agg (qz [6012] .nil)) .nil), (.str [54, 48, 49, 50])),
  ((.cons (.agg (qz [5997] .nil)) .nil), (.str [53, 57, 57, 55])),
  ((.cons (.agg (qz [6006] .nil)) .nil), (.str [54, 48, 48, 54])),
  ((.cons (.agg (qz [8994] .nil)) .nil), (.str [56, 57, 57, 52])),
  ((.cons (.agg (qz [9012] .nil)) .nil), (.str [57, 48, 49, 50])),
  ((.cons (.agg (qz [3990] .nil)) .nil), (.str [51, 57, 57, 48])),
  ((.cons (.agg (qz [4020] .nil)) .nil), (.str [52, 48, 50, 48])),
  ((.cons (.agg (qz [11994] .nil)) .nil), (.str [49, 49, 57, 57, 52])),
  ((.cons (.agg (qz [12012] .nil)) .nil), (.str [49, 50, 48, 49, 50])),
  ((.cons (.agg (qz [5979] .nil)) .nil), (.str [53, 57, 55, 57])),
  ((.cons (.agg (qz [6042] .nil)) .nil), (.str [54, 48, 52, 50]))]
theorem smranNu1 : ranAll Tryz.prog ov0 31 smNu1 = true := by decide +kernel
noncomputable def smNu2 : List (AV × AV) := [
  ((.cons (.agg (qz [19985] .nil)) .nil), (.str [49, 57, 57, 56, 53])),
  ((.cons (.agg (qz [20030] .nil)) .nil), (.str [50, 48, 48, 51, 48])),
  ((.cons (.agg (qz [23979] .nil)) .nil), (.str [50, 51, 57, 55, 57])),
  ((.cons (.agg (qz [24042] .nil)) .nil), (.str [50, 52, 48, 52, 50])),
  ((.cons (.agg (qz [15990] .nil)) .nil), (.str [49, 53, 57, 57, 48])),
  ((.cons (.agg (qz [16020] .nil)) .nil), (.str [49, 54, 48, 50, 48])),
  ((.cons (.agg (qz [4985] .nil)) .nil), (.str [52, 57, 56, 53])),
  ((.cons (.agg (qz [5030] .nil)) .nil), (.str [53, 48, 51, 48])),
  ((.cons (.agg (qz [17979] .nil)) .nil), (.str [49, 55, 57, 55, 57])),
  ((.cons (.agg (qz [18042] .nil)) .nil), (.str [49, 56, 48, 52, 50])),
  ((.cons (.agg (qz [9985] .nil)) .nil), (.str [57, 57, 56, 53])),
  ((.cons (.agg (qz [10030] .nil)) .nil), (.str [49, 48, 48, 51, 48])),
  ((.cons (.agg (qz [14985] .nil)) .nil), (.str [49, 52, 57, 56, 53])),
  ((.cons (.agg (qz [15030] .nil)) .nil), (.str [49, 53, 48, 51, 48])),
  ((.cons (.agg (qz [11979] .nil)) .nil), (.str [49, 49, 57, 55, 57])),
  ((.cons (.agg (qz [12042] .nil)) .nil), (.str [49, 50, 48, 52, 50]))]
theorem smranNu2 : ranAll Tryz.prog ov0 31 smNu2 = true := by decide +kernel
end Go.Sy
