/- CatalogueGaps: texts that are read. -/
import Derived.Test.YtnffnbbphpobeaaGreatDoorSgBase
namespace Go.Sy
open Go.RowKit Go.Proofs
set_option linter.unusedVariables false
set_option maxRecDepth 1000000
set_option maxHeartbeats 0
def tr3 : List (AV × AV) := [
  (.cons (.str [52, 48, 49, 48]) (.cons (.int .i64 65536) .nil), .tup (.cons (.agg (.cons (.bool false) (.cons (.ro 1 (.cons (.int .u32 4010) .nil)) (.cons (.bool false) (.cons (.ro 0 .nil) .nil))))) (.cons (.int .i64 0) .nil))),
  (.cons (.str [57, 57, 57]) (.cons (.int .i64 400) .nil), .tup (.cons (.agg (.cons (.bool false) (.cons (.ro 1 (.cons (.int .u32 999) .nil)) (.cons (.bool false) (.cons (.ro 0 .nil) .nil))))) (.cons (.int .i64 0) .nil))),
  (.cons (.str [49, 48, 48, 50]) (.cons (.int .i64 400) .nil), .tup (.cons (.agg (.cons (.bool false) (.cons (.ro 1 (.cons (.int .u32 1002) .nil)) (.cons (.bool false) (.cons (.ro 0 .nil) .nil))))) (.cons (.int .i64 0) .nil))),
  (.cons (.str [51, 57, 57, 57]) (.cons (.int .i64 400) .nil), .tup (.cons (.agg (.cons (.bool false) (.cons (.ro 1 (.cons (.int .u32 3999) .nil)) (.cons (.bool false) (.cons (.ro 0 .nil) .nil))))) (.cons (.int .i64 0) .nil))),
  (.cons (.str [52, 48, 48, 50]) (.cons (.int .i64 400) .nil), .tup (.cons (.agg (.cons (.bool false) (.cons (.ro 1 (.cons (.int .u32 4002) .nil)) (.cons (.bool false) (.cons (.ro 0 .nil) .nil))))) (.cons (.int .i64 0) .nil))),
  (.cons (.str [49, 57, 57, 54]) (.cons (.int .i64 65536) .nil), .tup (.cons (.agg (.cons (.bool false) (.cons (.ro 1 (.cons (.int .u32 1996) .nil)) (.cons (.bool false) (.cons (.ro 0 .nil) .nil))))) (.cons (.int .i64 0) .nil))),
  (.cons (.str [45, 51, 57, 57, 53]) (.cons (.int .i64 65536) .nil), .tup (.cons (.agg (.cons (.bool true) (.cons (.ro 1 (.cons (.int .u32 3995) .nil)) (.cons (.bool false) (.cons (.ro 0 .nil) .nil))))) (.cons (.int .i64 0) .nil))),
  (.cons (.str [51, 57, 57, 54]) (.cons (.int .i64 65536) .nil), .tup (.cons (.agg (.cons (.bool false) (.cons (.ro 1 (.cons (.int .u32 3996) .nil)) (.cons (.bool false) (.cons (.ro 0 .nil) .nil))))) (.cons (.int .i64 0) .nil))),
  (.cons (.str [50, 48, 49, 48]) (.cons (.int .i64 65536) .nil), .tup (.cons (.agg (.cons (.bool false) (.cons (.ro 1 (.cons (.int .u32 2010) .nil)) (.cons (.bool false) (.cons (.ro 0 .nil) .nil))))) (.cons (.int .i64 0) .nil))),
  (.cons (.str [57, 57, 54]) (.cons (.int .i64 65536) .nil), .tup (.cons (.agg (.cons (.bool false) (.cons (.ro 1 (.cons (.int .u32 996) .nil)) (.cons (.bool false) (.cons (.ro 0 .nil) .nil))))) (.cons (.int .i64 0) .nil))),
  (.cons (.str [52, 48, 49, 50]) (.cons (.int .i64 65536) .nil), .tup (.cons (.agg (.cons (.bool false) (.cons (.ro 1 (.cons (.int .u32 4012) .nil)) (.cons (.bool false) (.cons (.ro 0 .nil) .nil))))) (.cons (.int .i64 0) .nil))),
  (.cons (.str [55, 57, 57, 48]) (.cons (.int .i64 400) .nil), .tup (.cons (.agg (.cons (.bool false) (.cons (.ro 1 (.cons (.int .u32 7990) .nil)) (.cons (.bool false) (.cons (.ro 0 .nil) .nil))))) (.cons (.int .i64 0) .nil))),
  (.cons (.str [56, 48, 50, 48]) (.cons (.int .i64 400) .nil), .tup (.cons (.agg (.cons (.bool false) (.cons (.ro 1 (.cons (.int .u32 8020) .nil)) (.cons (.bool false) (.cons (.ro 0 .nil) .nil))))) (.cons (.int .i64 0) .nil))),
  (.cons (.str [55, 57, 57, 48]) (.cons (.int .i64 65536) .nil), .tup (.cons (.agg (.cons (.bool false) (.cons (.ro 1 (.cons (.int .u32 7990) .nil)) (.cons (.bool false) (.cons (.ro 0 .nil) .nil))))) (.cons (.int .i64 0) .nil))),
  (.cons (.str [56, 48, 50, 48]) (.cons (.int .i64 65536) .nil), .tup (.cons (.agg (.cons (.bool false) (.cons (.ro 1 (.cons (.int .u32 8020) .nil)) (.cons (.bool false) (.cons (.ro 0 .nil) .nil))))) (.cons (.int .i64 0) .nil))),
  (.cons (.str [50, 57, 57, 54]) (.cons (.int .i64 65536) .nil), .tup (.cons (.agg (.cons (.bool false) (.cons (.ro 1 (.cons (.int .u32 2996) .nil)) (.cons (.bool false) (.cons (.ro 0 .nil) .nil))))) (.cons (.int .i64 0) .nil))),
  (.cons (.str [49, 48, 49, 48]) (.cons (.int .i64 65536) .nil), .tup (.cons (.agg (.cons (.bool false) (.cons (.ro 1 (.cons (.int .u32 1010) .nil)) (.cons (.bool false) (.cons (.ro 0 .nil) .nil))))) (.cons (.int .i64 0) .nil))),
  (.cons (.str [51, 57, 57, 48]) (.cons (.int .i64 400) .nil), .tup (.cons (.agg (.cons (.bool false) (.cons (.ro 1 (.cons (.int .u32 3990) .nil)) (.cons (.bool false) (.cons (.ro 0 .nil) .nil))))) (.cons (.int .i64 0) .nil))),
  (.cons (.str [52, 48, 50, 48]) (.cons (.int .i64 400) .nil), .tup (.cons (.agg (.cons (.bool false) (.cons (.ro 1 (.cons (.int .u32 4020) .nil)) (.cons (.bool false) (.cons (.ro 0 .nil) .nil))))) (.cons (.int .i64 0) .nil))),
  (.cons (.str [51, 57, 57, 48]) (.cons (.int .i64 65536) .nil), .tup (.cons (.agg (.cons (.bool false) (.cons (.ro 1 (.cons (.int .u32 3990) .nil)) (.cons (.bool false) (.cons (.ro 0 .nil) .nil))))) (.cons (.int .i64 0) .nil))),
  (.cons (.str [52, 48, 50, 48]) (.cons (.int .i64 65536) .nil), .tup (.cons (.agg (.cons (.bool false) (.cons (.ro 1 (.cons (.int .u32 4020) .nil)) (.cons (.bool false) (.cons (.ro 0 .nil) .nil))))) (.cons (.int .i64 0) .nil))),
  (.cons (.str [51, 48, 49, 48]) (.cons (.int .i64 65536) .nil), .tup (.cons (.agg (.cons (.bool false) (.cons (.ro 1 (.cons (.int .u32 3010) .nil)) (.cons (.bool false) (.cons (.ro 0 .nil) .nil))))) (.cons (.int .i64 0) .nil))),
  (.cons (.str [45, 49, 57, 57, 53]) (.cons (.int .i64 65536) .nil), .tup (.cons (.agg (.cons (.bool true) (.cons (.ro 1 (.cons (.int .u32 1995) .nil)) (.cons (.bool false) (.cons (.ro 0 .nil) .nil))))) (.cons (.int .i64 0) .nil))),
  (.cons (.str [45, 51, 57, 57, 52]) (.cons (.int .i64 65536) .nil), .tup (.cons (.agg (.cons (.bool true) (.cons (.ro 1 (.cons (.int .u32 3994) .nil)) (.cons (.bool false) (.cons (.ro 0 .nil) .nil))))) (.cons (.int .i64 0) .nil))),
  (.cons (.str [49, 49, 57, 57, 48]) (.cons (.int .i64 400) .nil), .tup (.cons (.agg (.cons (.bool false) (.cons (.ro 1 (.cons (.int .u32 11990) .nil)) (.cons (.bool false) (.cons (.ro 0 .nil) .nil))))) (.cons (.int .i64 0) .nil))),
  (.cons (.str [49, 50, 48, 50, 48]) (.cons (.int .i64 400) .nil), .tup (.cons (.agg (.cons (.bool false) (.cons (.ro 1 (.cons (.int .u32 12020) .nil)) (.cons (.bool false) (.cons (.ro 0 .nil) .nil))))) (.cons (.int .i64 0) .nil))),
  (.cons (.str [49, 49, 57, 57, 48]) (.cons (.int .i64 65536) .nil), .tup (.cons (.agg (.cons (.bool false) (.cons (.ro 1 (.cons (.int .u32 11990) .nil)) (.cons (.bool false) (.cons (.ro 0 .nil) .nil))))) (.cons (.int .i64 0) .nil)))]
theorem ran_r3 : ranAll Tryz.prog ov0 58 tr3 = true := by decide +kernel
end Go.Sy
