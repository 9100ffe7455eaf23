/- CatalogueGaps: texts that are read. -/
import Derived.Test.YtnffnbbphpobeaaGreatDoorSgBase
namespace Go.Sy
open Go.RowKit Go.Proofs
set_option linter.unusedVariables false
set_option maxRecDepth 1000000
set_option maxHeartbeats 0
def tr5 : List (AV × AV) := [
  (.cons (.str [49, 48, 48, 51, 48]) (.cons (.int .i64 65536) .nil), .tup (.cons (.agg (.cons (.bool false) (.cons (.ro 1 (.cons (.int .u32 10030) .nil)) (.cons (.bool false) (.cons (.ro 0 .nil) .nil))))) (.cons (.int .i64 0) .nil))),
  (.cons (.str [45, 57, 57, 52]) (.cons (.int .i64 65536) .nil), .tup (.cons (.agg (.cons (.bool true) (.cons (.ro 1 (.cons (.int .u32 994) .nil)) (.cons (.bool false) (.cons (.ro 0 .nil) .nil))))) (.cons (.int .i64 0) .nil))),
  (.cons (.str [52, 57, 56, 53]) (.cons (.int .i64 400) .nil), .tup (.cons (.agg (.cons (.bool false) (.cons (.ro 1 (.cons (.int .u32 4985) .nil)) (.cons (.bool false) (.cons (.ro 0 .nil) .nil))))) (.cons (.int .i64 0) .nil))),
  (.cons (.str [53, 48, 51, 48]) (.cons (.int .i64 400) .nil), .tup (.cons (.agg (.cons (.bool false) (.cons (.ro 1 (.cons (.int .u32 5030) .nil)) (.cons (.bool false) (.cons (.ro 0 .nil) .nil))))) (.cons (.int .i64 0) .nil))),
  (.cons (.str [52, 57, 56, 53]) (.cons (.int .i64 65536) .nil), .tup (.cons (.agg (.cons (.bool false) (.cons (.ro 1 (.cons (.int .u32 4985) .nil)) (.cons (.bool false) (.cons (.ro 0 .nil) .nil))))) (.cons (.int .i64 0) .nil))),
  (.cons (.str [53, 48, 51, 48]) (.cons (.int .i64 65536) .nil), .tup (.cons (.agg (.cons (.bool false) (.cons (.ro 1 (.cons (.int .u32 5030) .nil)) (.cons (.bool false) (.cons (.ro 0 .nil) .nil))))) (.cons (.int .i64 0) .nil))),
  (.cons (.str [49, 55, 57, 55, 57]) (.cons (.int .i64 400) .nil), .tup (.cons (.agg (.cons (.bool false) (.cons (.ro 1 (.cons (.int .u32 17979) .nil)) (.cons (.bool false) (.cons (.ro 0 .nil) .nil))))) (.cons (.int .i64 0) .nil))),
  (.cons (.str [49, 56, 48, 52, 50]) (.cons (.int .i64 400) .nil), .tup (.cons (.agg (.cons (.bool false) (.cons (.ro 1 (.cons (.int .u32 18042) .nil)) (.cons (.bool false) (.cons (.ro 0 .nil) .nil))))) (.cons (.int .i64 0) .nil))),
  (.cons (.str [49, 55, 57, 55, 57]) (.cons (.int .i64 65536) .nil), .tup (.cons (.agg (.cons (.bool false) (.cons (.ro 1 (.cons (.int .u32 17979) .nil)) (.cons (.bool false) (.cons (.ro 0 .nil) .nil))))) (.cons (.int .i64 0) .nil))),
  (.cons (.str [49, 56, 48, 52, 50]) (.cons (.int .i64 65536) .nil), .tup (.cons (.agg (.cons (.bool false) (.cons (.ro 1 (.cons (.int .u32 18042) .nil)) (.cons (.bool false) (.cons (.ro 0 .nil) .nil))))) (.cons (.int .i64 0) .nil))),
  (.cons (.str [49, 49, 57, 55, 57]) (.cons (.int .i64 400) .nil), .tup (.cons (.agg (.cons (.bool false) (.cons (.ro 1 (.cons (.int .u32 11979) .nil)) (.cons (.bool false) (.cons (.ro 0 .nil) .nil))))) (.cons (.int .i64 0) .nil))),
  (.cons (.str [49, 50, 48, 52, 50]) (.cons (.int .i64 400) .nil), .tup (.cons (.agg (.cons (.bool false) (.cons (.ro 1 (.cons (.int .u32 12042) .nil)) (.cons (.bool false) (.cons (.ro 0 .nil) .nil))))) (.cons (.int .i64 0) .nil))),
  (.cons (.str [49, 57, 57, 52]) (.cons (.int .i64 65536) .nil), .tup (.cons (.agg (.cons (.bool false) (.cons (.ro 1 (.cons (.int .u32 1994) .nil)) (.cons (.bool false) (.cons (.ro 0 .nil) .nil))))) (.cons (.int .i64 0) .nil))),
  (.cons (.str [49, 49, 57, 55, 57]) (.cons (.int .i64 65536) .nil), .tup (.cons (.agg (.cons (.bool false) (.cons (.ro 1 (.cons (.int .u32 11979) .nil)) (.cons (.bool false) (.cons (.ro 0 .nil) .nil))))) (.cons (.int .i64 0) .nil))),
  (.cons (.str [49, 50, 48, 52, 50]) (.cons (.int .i64 65536) .nil), .tup (.cons (.agg (.cons (.bool false) (.cons (.ro 1 (.cons (.int .u32 12042) .nil)) (.cons (.bool false) (.cons (.ro 0 .nil) .nil))))) (.cons (.int .i64 0) .nil))),
  (.cons (.str [53, 57, 55, 57]) (.cons (.int .i64 400) .nil), .tup (.cons (.agg (.cons (.bool false) (.cons (.ro 1 (.cons (.int .u32 5979) .nil)) (.cons (.bool false) (.cons (.ro 0 .nil) .nil))))) (.cons (.int .i64 0) .nil))),
  (.cons (.str [54, 48, 52, 50]) (.cons (.int .i64 400) .nil), .tup (.cons (.agg (.cons (.bool false) (.cons (.ro 1 (.cons (.int .u32 6042) .nil)) (.cons (.bool false) (.cons (.ro 0 .nil) .nil))))) (.cons (.int .i64 0) .nil))),
  (.cons (.str [57, 57, 52]) (.cons (.int .i64 65536) .nil), .tup (.cons (.agg (.cons (.bool false) (.cons (.ro 1 (.cons (.int .u32 994) .nil)) (.cons (.bool false) (.cons (.ro 0 .nil) .nil))))) (.cons (.int .i64 0) .nil))),
  (.cons (.str [53, 57, 55, 57]) (.cons (.int .i64 65536) .nil), .tup (.cons (.agg (.cons (.bool false) (.cons (.ro 1 (.cons (.int .u32 5979) .nil)) (.cons (.bool false) (.cons (.ro 0 .nil) .nil))))) (.cons (.int .i64 0) .nil))),
  (.cons (.str [54, 48, 52, 50]) (.cons (.int .i64 65536) .nil), .tup (.cons (.agg (.cons (.bool false) (.cons (.ro 1 (.cons (.int .u32 6042) .nil)) (.cons (.bool false) (.cons (.ro 0 .nil) .nil))))) (.cons (.int .i64 0) .nil))),
  (.cons (.str [49, 52, 57, 56, 53]) (.cons (.int .i64 400) .nil), .tup (.cons (.agg (.cons (.bool false) (.cons (.ro 1 (.cons (.int .u32 14985) .nil)) (.cons (.bool false) (.cons (.ro 0 .nil) .nil))))) (.cons (.int .i64 0) .nil))),
  (.cons (.str [49, 53, 48, 51, 48]) (.cons (.int .i64 400) .nil), .tup (.cons (.agg (.cons (.bool false) (.cons (.ro 1 (.cons (.int .u32 15030) .nil)) (.cons (.bool false) (.cons (.ro 0 .nil) .nil))))) (.cons (.int .i64 0) .nil))),
  (.cons (.str [49, 52, 57, 56, 53]) (.cons (.int .i64 65536) .nil), .tup (.cons (.agg (.cons (.bool false) (.cons (.ro 1 (.cons (.int .u32 14985) .nil)) (.cons (.bool false) (.cons (.ro 0 .nil) .nil))))) (.cons (.int .i64 0) .nil))),
  (.cons (.str [49, 53, 48, 51, 48]) (.cons (.int .i64 65536) .nil), .tup (.cons (.agg (.cons (.bool false) (.cons (.ro 1 (.cons (.int .u32 15030) .nil)) (.cons (.bool false) (.cons (.ro 0 .nil) .nil))))) (.cons (.int .i64 0) .nil)))]
theorem ran_r5 : ranAll Tryz.prog ov0 58 tr5 = true := by decide +kernel
end Go.Sy
