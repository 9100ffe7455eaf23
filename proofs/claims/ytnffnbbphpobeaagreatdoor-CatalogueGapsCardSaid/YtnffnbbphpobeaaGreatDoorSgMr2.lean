/- CatalogueGaps: texts that are read. -/
import Derived.Test.YtnffnbbphpobeaaGreatDoorSgBase
namespace Go.Sy
open Go.RowKit Go.Proofs
set_option linter.unusedVariables false
set_option maxRecDepth 1000000
set_option maxHeartbeats 0
def tr2 : List (AV × AV) := [
  (.cons (.str [53, 57, 57, 55]) (.cons (.int .i64 65536) .nil), .tup (.cons (.agg (.cons (.bool false) (.cons (.ro 1 (.cons (.int .u32 5997) .nil)) (.cons (.bool false) (.cons (.ro 0 .nil) .nil))))) (.cons (.int .i64 0) .nil))),
  (.cons (.str [54, 48, 48, 54]) (.cons (.int .i64 65536) .nil), .tup (.cons (.agg (.cons (.bool false) (.cons (.ro 1 (.cons (.int .u32 6006) .nil)) (.cons (.bool false) (.cons (.ro 0 .nil) .nil))))) (.cons (.int .i64 0) .nil))),
  (.cons (.str [49, 49, 57, 57, 52]) (.cons (.int .i64 400) .nil), .tup (.cons (.agg (.cons (.bool false) (.cons (.ro 1 (.cons (.int .u32 11994) .nil)) (.cons (.bool false) (.cons (.ro 0 .nil) .nil))))) (.cons (.int .i64 0) .nil))),
  (.cons (.str [49, 50, 48, 49, 50]) (.cons (.int .i64 400) .nil), .tup (.cons (.agg (.cons (.bool false) (.cons (.ro 1 (.cons (.int .u32 12012) .nil)) (.cons (.bool false) (.cons (.ro 0 .nil) .nil))))) (.cons (.int .i64 0) .nil))),
  (.cons (.str [49, 49, 57, 57, 52]) (.cons (.int .i64 65536) .nil), .tup (.cons (.agg (.cons (.bool false) (.cons (.ro 1 (.cons (.int .u32 11994) .nil)) (.cons (.bool false) (.cons (.ro 0 .nil) .nil))))) (.cons (.int .i64 0) .nil))),
  (.cons (.str [49, 50, 48, 49, 50]) (.cons (.int .i64 65536) .nil), .tup (.cons (.agg (.cons (.bool false) (.cons (.ro 1 (.cons (.int .u32 12012) .nil)) (.cons (.bool false) (.cons (.ro 0 .nil) .nil))))) (.cons (.int .i64 0) .nil))),
  (.cons (.str [51, 57, 57, 55]) (.cons (.int .i64 400) .nil), .tup (.cons (.agg (.cons (.bool false) (.cons (.ro 1 (.cons (.int .u32 3997) .nil)) (.cons (.bool false) (.cons (.ro 0 .nil) .nil))))) (.cons (.int .i64 0) .nil))),
  (.cons (.str [52, 48, 48, 54]) (.cons (.int .i64 400) .nil), .tup (.cons (.agg (.cons (.bool false) (.cons (.ro 1 (.cons (.int .u32 4006) .nil)) (.cons (.bool false) (.cons (.ro 0 .nil) .nil))))) (.cons (.int .i64 0) .nil))),
  (.cons (.str [45, 51, 57, 57, 54]) (.cons (.int .i64 65536) .nil), .tup (.cons (.agg (.cons (.bool true) (.cons (.ro 1 (.cons (.int .u32 3996) .nil)) (.cons (.bool false) (.cons (.ro 0 .nil) .nil))))) (.cons (.int .i64 0) .nil))),
  (.cons (.str [51, 48, 49, 50]) (.cons (.int .i64 65536) .nil), .tup (.cons (.agg (.cons (.bool false) (.cons (.ro 1 (.cons (.int .u32 3012) .nil)) (.cons (.bool false) (.cons (.ro 0 .nil) .nil))))) (.cons (.int .i64 0) .nil))),
  (.cons (.str [45, 57, 57, 54]) (.cons (.int .i64 65536) .nil), .tup (.cons (.agg (.cons (.bool true) (.cons (.ro 1 (.cons (.int .u32 996) .nil)) (.cons (.bool false) (.cons (.ro 0 .nil) .nil))))) (.cons (.int .i64 0) .nil))),
  (.cons (.str [56, 57, 57, 52]) (.cons (.int .i64 400) .nil), .tup (.cons (.agg (.cons (.bool false) (.cons (.ro 1 (.cons (.int .u32 8994) .nil)) (.cons (.bool false) (.cons (.ro 0 .nil) .nil))))) (.cons (.int .i64 0) .nil))),
  (.cons (.str [57, 48, 49, 50]) (.cons (.int .i64 400) .nil), .tup (.cons (.agg (.cons (.bool false) (.cons (.ro 1 (.cons (.int .u32 9012) .nil)) (.cons (.bool false) (.cons (.ro 0 .nil) .nil))))) (.cons (.int .i64 0) .nil))),
  (.cons (.str [56, 57, 57, 52]) (.cons (.int .i64 65536) .nil), .tup (.cons (.agg (.cons (.bool false) (.cons (.ro 1 (.cons (.int .u32 8994) .nil)) (.cons (.bool false) (.cons (.ro 0 .nil) .nil))))) (.cons (.int .i64 0) .nil))),
  (.cons (.str [57, 48, 49, 50]) (.cons (.int .i64 65536) .nil), .tup (.cons (.agg (.cons (.bool false) (.cons (.ro 1 (.cons (.int .u32 9012) .nil)) (.cons (.bool false) (.cons (.ro 0 .nil) .nil))))) (.cons (.int .i64 0) .nil))),
  (.cons (.str [50, 57, 57, 57]) (.cons (.int .i64 400) .nil), .tup (.cons (.agg (.cons (.bool false) (.cons (.ro 1 (.cons (.int .u32 2999) .nil)) (.cons (.bool false) (.cons (.ro 0 .nil) .nil))))) (.cons (.int .i64 0) .nil))),
  (.cons (.str [51, 48, 48, 50]) (.cons (.int .i64 400) .nil), .tup (.cons (.agg (.cons (.bool false) (.cons (.ro 1 (.cons (.int .u32 3002) .nil)) (.cons (.bool false) (.cons (.ro 0 .nil) .nil))))) (.cons (.int .i64 0) .nil))),
  (.cons (.str [45, 50, 57, 57, 54]) (.cons (.int .i64 65536) .nil), .tup (.cons (.agg (.cons (.bool true) (.cons (.ro 1 (.cons (.int .u32 2996) .nil)) (.cons (.bool false) (.cons (.ro 0 .nil) .nil))))) (.cons (.int .i64 0) .nil))),
  (.cons (.str [50, 57, 57, 52]) (.cons (.int .i64 65536) .nil), .tup (.cons (.agg (.cons (.bool false) (.cons (.ro 1 (.cons (.int .u32 2994) .nil)) (.cons (.bool false) (.cons (.ro 0 .nil) .nil))))) (.cons (.int .i64 0) .nil))),
  (.cons (.str [53, 57, 57, 52]) (.cons (.int .i64 400) .nil), .tup (.cons (.agg (.cons (.bool false) (.cons (.ro 1 (.cons (.int .u32 5994) .nil)) (.cons (.bool false) (.cons (.ro 0 .nil) .nil))))) (.cons (.int .i64 0) .nil))),
  (.cons (.str [54, 48, 49, 50]) (.cons (.int .i64 400) .nil), .tup (.cons (.agg (.cons (.bool false) (.cons (.ro 1 (.cons (.int .u32 6012) .nil)) (.cons (.bool false) (.cons (.ro 0 .nil) .nil))))) (.cons (.int .i64 0) .nil))),
  (.cons (.str [53, 57, 57, 52]) (.cons (.int .i64 65536) .nil), .tup (.cons (.agg (.cons (.bool false) (.cons (.ro 1 (.cons (.int .u32 5994) .nil)) (.cons (.bool false) (.cons (.ro 0 .nil) .nil))))) (.cons (.int .i64 0) .nil))),
  (.cons (.str [54, 48, 49, 50]) (.cons (.int .i64 65536) .nil), .tup (.cons (.agg (.cons (.bool false) (.cons (.ro 1 (.cons (.int .u32 6012) .nil)) (.cons (.bool false) (.cons (.ro 0 .nil) .nil))))) (.cons (.int .i64 0) .nil))),
  (.cons (.str [49, 57, 57, 57]) (.cons (.int .i64 400) .nil), .tup (.cons (.agg (.cons (.bool false) (.cons (.ro 1 (.cons (.int .u32 1999) .nil)) (.cons (.bool false) (.cons (.ro 0 .nil) .nil))))) (.cons (.int .i64 0) .nil))),
  (.cons (.str [50, 48, 48, 50]) (.cons (.int .i64 400) .nil), .tup (.cons (.agg (.cons (.bool false) (.cons (.ro 1 (.cons (.int .u32 2002) .nil)) (.cons (.bool false) (.cons (.ro 0 .nil) .nil))))) (.cons (.int .i64 0) .nil))),
  (.cons (.str [50, 57, 57, 52]) (.cons (.int .i64 400) .nil), .tup (.cons (.agg (.cons (.bool false) (.cons (.ro 1 (.cons (.int .u32 2994) .nil)) (.cons (.bool false) (.cons (.ro 0 .nil) .nil))))) (.cons (.int .i64 0) .nil))),
  (.cons (.str [51, 48, 49, 50]) (.cons (.int .i64 400) .nil), .tup (.cons (.agg (.cons (.bool false) (.cons (.ro 1 (.cons (.int .u32 3012) .nil)) (.cons (.bool false) (.cons (.ro 0 .nil) .nil))))) (.cons (.int .i64 0) .nil)))]
theorem ran_r2 : ranAll Tryz.prog ov0 58 tr2 = true := by decide +kernel
end Go.Sy
