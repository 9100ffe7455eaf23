/- CatalogueGaps: texts that are read. -/
import Derived.Test.YtnffnbbphpobeaaGreatDoorSgBase
namespace Go.Sy
open Go.RowKit Go.Proofs
set_option linter.unusedVariables false
set_option maxRecDepth 1000000
set_option maxHeartbeats 0
def tr4 : List (AV × AV) := [
  (.cons (.str [49, 50, 48, 50, 48]) (.cons (.int .i64 65536) .nil), .tup (.cons (.agg (.cons (.bool false) (.cons (.ro 1 (.cons (.int .u32 12020) .nil)) (.cons (.bool false) (.cons (.ro 0 .nil) .nil))))) (.cons (.int .i64 0) .nil))),
  (.cons (.str [51, 57, 57, 53]) (.cons (.int .i64 65536) .nil), .tup (.cons (.agg (.cons (.bool false) (.cons (.ro 1 (.cons (.int .u32 3995) .nil)) (.cons (.bool false) (.cons (.ro 0 .nil) .nil))))) (.cons (.int .i64 0) .nil))),
  (.cons (.str [45, 57, 57, 53]) (.cons (.int .i64 65536) .nil), .tup (.cons (.agg (.cons (.bool true) (.cons (.ro 1 (.cons (.int .u32 995) .nil)) (.cons (.bool false) (.cons (.ro 0 .nil) .nil))))) (.cons (.int .i64 0) .nil))),
  (.cons (.str [49, 53, 57, 57, 48]) (.cons (.int .i64 400) .nil), .tup (.cons (.agg (.cons (.bool false) (.cons (.ro 1 (.cons (.int .u32 15990) .nil)) (.cons (.bool false) (.cons (.ro 0 .nil) .nil))))) (.cons (.int .i64 0) .nil))),
  (.cons (.str [49, 54, 48, 50, 48]) (.cons (.int .i64 400) .nil), .tup (.cons (.agg (.cons (.bool false) (.cons (.ro 1 (.cons (.int .u32 16020) .nil)) (.cons (.bool false) (.cons (.ro 0 .nil) .nil))))) (.cons (.int .i64 0) .nil))),
  (.cons (.str [49, 53, 57, 57, 48]) (.cons (.int .i64 65536) .nil), .tup (.cons (.agg (.cons (.bool false) (.cons (.ro 1 (.cons (.int .u32 15990) .nil)) (.cons (.bool false) (.cons (.ro 0 .nil) .nil))))) (.cons (.int .i64 0) .nil))),
  (.cons (.str [49, 54, 48, 50, 48]) (.cons (.int .i64 65536) .nil), .tup (.cons (.agg (.cons (.bool false) (.cons (.ro 1 (.cons (.int .u32 16020) .nil)) (.cons (.bool false) (.cons (.ro 0 .nil) .nil))))) (.cons (.int .i64 0) .nil))),
  (.cons (.str [45, 50, 57, 57, 53]) (.cons (.int .i64 65536) .nil), .tup (.cons (.agg (.cons (.bool true) (.cons (.ro 1 (.cons (.int .u32 2995) .nil)) (.cons (.bool false) (.cons (.ro 0 .nil) .nil))))) (.cons (.int .i64 0) .nil))),
  (.cons (.str [50, 48, 49, 50]) (.cons (.int .i64 65536) .nil), .tup (.cons (.agg (.cons (.bool false) (.cons (.ro 1 (.cons (.int .u32 2012) .nil)) (.cons (.bool false) (.cons (.ro 0 .nil) .nil))))) (.cons (.int .i64 0) .nil))),
  (.cons (.str [49, 57, 57, 53]) (.cons (.int .i64 65536) .nil), .tup (.cons (.agg (.cons (.bool false) (.cons (.ro 1 (.cons (.int .u32 1995) .nil)) (.cons (.bool false) (.cons (.ro 0 .nil) .nil))))) (.cons (.int .i64 0) .nil))),
  (.cons (.str [50, 51, 57, 55, 57]) (.cons (.int .i64 400) .nil), .tup (.cons (.agg (.cons (.bool false) (.cons (.ro 1 (.cons (.int .u32 23979) .nil)) (.cons (.bool false) (.cons (.ro 0 .nil) .nil))))) (.cons (.int .i64 0) .nil))),
  (.cons (.str [50, 52, 48, 52, 50]) (.cons (.int .i64 400) .nil), .tup (.cons (.agg (.cons (.bool false) (.cons (.ro 1 (.cons (.int .u32 24042) .nil)) (.cons (.bool false) (.cons (.ro 0 .nil) .nil))))) (.cons (.int .i64 0) .nil))),
  (.cons (.str [51, 57, 57, 52]) (.cons (.int .i64 65536) .nil), .tup (.cons (.agg (.cons (.bool false) (.cons (.ro 1 (.cons (.int .u32 3994) .nil)) (.cons (.bool false) (.cons (.ro 0 .nil) .nil))))) (.cons (.int .i64 0) .nil))),
  (.cons (.str [50, 51, 57, 55, 57]) (.cons (.int .i64 65536) .nil), .tup (.cons (.agg (.cons (.bool false) (.cons (.ro 1 (.cons (.int .u32 23979) .nil)) (.cons (.bool false) (.cons (.ro 0 .nil) .nil))))) (.cons (.int .i64 0) .nil))),
  (.cons (.str [50, 52, 48, 52, 50]) (.cons (.int .i64 65536) .nil), .tup (.cons (.agg (.cons (.bool false) (.cons (.ro 1 (.cons (.int .u32 24042) .nil)) (.cons (.bool false) (.cons (.ro 0 .nil) .nil))))) (.cons (.int .i64 0) .nil))),
  (.cons (.str [45, 50, 57, 57, 52]) (.cons (.int .i64 65536) .nil), .tup (.cons (.agg (.cons (.bool true) (.cons (.ro 1 (.cons (.int .u32 2994) .nil)) (.cons (.bool false) (.cons (.ro 0 .nil) .nil))))) (.cons (.int .i64 0) .nil))),
  (.cons (.str [45, 49, 57, 57, 52]) (.cons (.int .i64 65536) .nil), .tup (.cons (.agg (.cons (.bool true) (.cons (.ro 1 (.cons (.int .u32 1994) .nil)) (.cons (.bool false) (.cons (.ro 0 .nil) .nil))))) (.cons (.int .i64 0) .nil))),
  (.cons (.str [49, 48, 49, 50]) (.cons (.int .i64 65536) .nil), .tup (.cons (.agg (.cons (.bool false) (.cons (.ro 1 (.cons (.int .u32 1012) .nil)) (.cons (.bool false) (.cons (.ro 0 .nil) .nil))))) (.cons (.int .i64 0) .nil))),
  (.cons (.str [57, 57, 53]) (.cons (.int .i64 65536) .nil), .tup (.cons (.agg (.cons (.bool false) (.cons (.ro 1 (.cons (.int .u32 995) .nil)) (.cons (.bool false) (.cons (.ro 0 .nil) .nil))))) (.cons (.int .i64 0) .nil))),
  (.cons (.str [50, 57, 57, 53]) (.cons (.int .i64 65536) .nil), .tup (.cons (.agg (.cons (.bool false) (.cons (.ro 1 (.cons (.int .u32 2995) .nil)) (.cons (.bool false) (.cons (.ro 0 .nil) .nil))))) (.cons (.int .i64 0) .nil))),
  (.cons (.str [49, 57, 57, 56, 53]) (.cons (.int .i64 400) .nil), .tup (.cons (.agg (.cons (.bool false) (.cons (.ro 1 (.cons (.int .u32 19985) .nil)) (.cons (.bool false) (.cons (.ro 0 .nil) .nil))))) (.cons (.int .i64 0) .nil))),
  (.cons (.str [50, 48, 48, 51, 48]) (.cons (.int .i64 400) .nil), .tup (.cons (.agg (.cons (.bool false) (.cons (.ro 1 (.cons (.int .u32 20030) .nil)) (.cons (.bool false) (.cons (.ro 0 .nil) .nil))))) (.cons (.int .i64 0) .nil))),
  (.cons (.str [49, 57, 57, 56, 53]) (.cons (.int .i64 65536) .nil), .tup (.cons (.agg (.cons (.bool false) (.cons (.ro 1 (.cons (.int .u32 19985) .nil)) (.cons (.bool false) (.cons (.ro 0 .nil) .nil))))) (.cons (.int .i64 0) .nil))),
  (.cons (.str [50, 48, 48, 51, 48]) (.cons (.int .i64 65536) .nil), .tup (.cons (.agg (.cons (.bool false) (.cons (.ro 1 (.cons (.int .u32 20030) .nil)) (.cons (.bool false) (.cons (.ro 0 .nil) .nil))))) (.cons (.int .i64 0) .nil))),
  (.cons (.str [57, 57, 56, 53]) (.cons (.int .i64 400) .nil), .tup (.cons (.agg (.cons (.bool false) (.cons (.ro 1 (.cons (.int .u32 9985) .nil)) (.cons (.bool false) (.cons (.ro 0 .nil) .nil))))) (.cons (.int .i64 0) .nil))),
  (.cons (.str [49, 48, 48, 51, 48]) (.cons (.int .i64 400) .nil), .tup (.cons (.agg (.cons (.bool false) (.cons (.ro 1 (.cons (.int .u32 10030) .nil)) (.cons (.bool false) (.cons (.ro 0 .nil) .nil))))) (.cons (.int .i64 0) .nil))),
  (.cons (.str [57, 57, 56, 53]) (.cons (.int .i64 65536) .nil), .tup (.cons (.agg (.cons (.bool false) (.cons (.ro 1 (.cons (.int .u32 9985) .nil)) (.cons (.bool false) (.cons (.ro 0 .nil) .nil))))) (.cons (.int .i64 0) .nil)))]
theorem ran_r4 : ranAll Tryz.prog ov0 58 tr4 = true := by decide +kernel
end Go.Sy
