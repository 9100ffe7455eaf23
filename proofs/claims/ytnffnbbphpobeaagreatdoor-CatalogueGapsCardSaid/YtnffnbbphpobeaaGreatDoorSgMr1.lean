/- CatalogueGaps: texts that are read. -/
import Derived.Test.YtnffnbbphpobeaaGreatDoorSgBase
namespace Go.Sy
open Go.RowKit Go.Proofs
set_option linter.unusedVariables false
set_option maxRecDepth 1000000
set_option maxHeartbeats 0
def tr1 : List (AV × AV) := [
  (.cons (.str [57, 57, 57]) (.cons (.int .i64 65536) .nil), .tup (.cons (.agg (.cons (.bool false) (.cons (.ro 1 (.cons (.int .u32 999) .nil)) (.cons (.bool false) (.cons (.ro 0 .nil) .nil))))) (.cons (.int .i64 0) .nil))),
  (.cons (.str [49, 48, 48, 54]) (.cons (.int .i64 65536) .nil), .tup (.cons (.agg (.cons (.bool false) (.cons (.ro 1 (.cons (.int .u32 1006) .nil)) (.cons (.bool false) (.cons (.ro 0 .nil) .nil))))) (.cons (.int .i64 0) .nil))),
  (.cons (.str [45, 51, 57, 57, 55]) (.cons (.int .i64 65536) .nil), .tup (.cons (.agg (.cons (.bool true) (.cons (.ro 1 (.cons (.int .u32 3997) .nil)) (.cons (.bool false) (.cons (.ro 0 .nil) .nil))))) (.cons (.int .i64 0) .nil))),
  (.cons (.str [45, 49, 57, 57, 55]) (.cons (.int .i64 65536) .nil), .tup (.cons (.agg (.cons (.bool true) (.cons (.ro 1 (.cons (.int .u32 1997) .nil)) (.cons (.bool false) (.cons (.ro 0 .nil) .nil))))) (.cons (.int .i64 0) .nil))),
  (.cons (.str [45, 50, 57, 57, 55]) (.cons (.int .i64 65536) .nil), .tup (.cons (.agg (.cons (.bool true) (.cons (.ro 1 (.cons (.int .u32 2997) .nil)) (.cons (.bool false) (.cons (.ro 0 .nil) .nil))))) (.cons (.int .i64 0) .nil))),
  (.cons (.str [51, 57, 57, 56]) (.cons (.int .i64 65536) .nil), .tup (.cons (.agg (.cons (.bool false) (.cons (.ro 1 (.cons (.int .u32 3998) .nil)) (.cons (.bool false) (.cons (.ro 0 .nil) .nil))))) (.cons (.int .i64 0) .nil))),
  (.cons (.str [49, 57, 57, 55]) (.cons (.int .i64 65536) .nil), .tup (.cons (.agg (.cons (.bool false) (.cons (.ro 1 (.cons (.int .u32 1997) .nil)) (.cons (.bool false) (.cons (.ro 0 .nil) .nil))))) (.cons (.int .i64 0) .nil))),
  (.cons (.str [51, 57, 57, 55]) (.cons (.int .i64 65536) .nil), .tup (.cons (.agg (.cons (.bool false) (.cons (.ro 1 (.cons (.int .u32 3997) .nil)) (.cons (.bool false) (.cons (.ro 0 .nil) .nil))))) (.cons (.int .i64 0) .nil))),
  (.cons (.str [45, 57, 57, 55]) (.cons (.int .i64 65536) .nil), .tup (.cons (.agg (.cons (.bool true) (.cons (.ro 1 (.cons (.int .u32 997) .nil)) (.cons (.bool false) (.cons (.ro 0 .nil) .nil))))) (.cons (.int .i64 0) .nil))),
  (.cons (.str [57, 57, 56]) (.cons (.int .i64 65536) .nil), .tup (.cons (.agg (.cons (.bool false) (.cons (.ro 1 (.cons (.int .u32 998) .nil)) (.cons (.bool false) (.cons (.ro 0 .nil) .nil))))) (.cons (.int .i64 0) .nil))),
  (.cons (.str [49, 57, 57, 56]) (.cons (.int .i64 65536) .nil), .tup (.cons (.agg (.cons (.bool false) (.cons (.ro 1 (.cons (.int .u32 1998) .nil)) (.cons (.bool false) (.cons (.ro 0 .nil) .nil))))) (.cons (.int .i64 0) .nil))),
  (.cons (.str [50, 57, 57, 56]) (.cons (.int .i64 65536) .nil), .tup (.cons (.agg (.cons (.bool false) (.cons (.ro 1 (.cons (.int .u32 2998) .nil)) (.cons (.bool false) (.cons (.ro 0 .nil) .nil))))) (.cons (.int .i64 0) .nil))),
  (.cons (.str [50, 48, 48, 56]) (.cons (.int .i64 65536) .nil), .tup (.cons (.agg (.cons (.bool false) (.cons (.ro 1 (.cons (.int .u32 2008) .nil)) (.cons (.bool false) (.cons (.ro 0 .nil) .nil))))) (.cons (.int .i64 0) .nil))),
  (.cons (.str [52, 48, 48, 56]) (.cons (.int .i64 65536) .nil), .tup (.cons (.agg (.cons (.bool false) (.cons (.ro 1 (.cons (.int .u32 4008) .nil)) (.cons (.bool false) (.cons (.ro 0 .nil) .nil))))) (.cons (.int .i64 0) .nil))),
  (.cons (.str [49, 48, 48, 56]) (.cons (.int .i64 65536) .nil), .tup (.cons (.agg (.cons (.bool false) (.cons (.ro 1 (.cons (.int .u32 1008) .nil)) (.cons (.bool false) (.cons (.ro 0 .nil) .nil))))) (.cons (.int .i64 0) .nil))),
  (.cons (.str [50, 57, 57, 55]) (.cons (.int .i64 65536) .nil), .tup (.cons (.agg (.cons (.bool false) (.cons (.ro 1 (.cons (.int .u32 2997) .nil)) (.cons (.bool false) (.cons (.ro 0 .nil) .nil))))) (.cons (.int .i64 0) .nil))),
  (.cons (.str [51, 48, 48, 56]) (.cons (.int .i64 65536) .nil), .tup (.cons (.agg (.cons (.bool false) (.cons (.ro 1 (.cons (.int .u32 3008) .nil)) (.cons (.bool false) (.cons (.ro 0 .nil) .nil))))) (.cons (.int .i64 0) .nil))),
  (.cons (.str [45, 49, 57, 57, 54]) (.cons (.int .i64 65536) .nil), .tup (.cons (.agg (.cons (.bool true) (.cons (.ro 1 (.cons (.int .u32 1996) .nil)) (.cons (.bool false) (.cons (.ro 0 .nil) .nil))))) (.cons (.int .i64 0) .nil))),
  (.cons (.str [57, 57, 55]) (.cons (.int .i64 65536) .nil), .tup (.cons (.agg (.cons (.bool false) (.cons (.ro 1 (.cons (.int .u32 997) .nil)) (.cons (.bool false) (.cons (.ro 0 .nil) .nil))))) (.cons (.int .i64 0) .nil))),
  (.cons (.str [49, 57, 57, 55]) (.cons (.int .i64 400) .nil), .tup (.cons (.agg (.cons (.bool false) (.cons (.ro 1 (.cons (.int .u32 1997) .nil)) (.cons (.bool false) (.cons (.ro 0 .nil) .nil))))) (.cons (.int .i64 0) .nil))),
  (.cons (.str [50, 48, 48, 54]) (.cons (.int .i64 400) .nil), .tup (.cons (.agg (.cons (.bool false) (.cons (.ro 1 (.cons (.int .u32 2006) .nil)) (.cons (.bool false) (.cons (.ro 0 .nil) .nil))))) (.cons (.int .i64 0) .nil))),
  (.cons (.str [55, 57, 57, 55]) (.cons (.int .i64 400) .nil), .tup (.cons (.agg (.cons (.bool false) (.cons (.ro 1 (.cons (.int .u32 7997) .nil)) (.cons (.bool false) (.cons (.ro 0 .nil) .nil))))) (.cons (.int .i64 0) .nil))),
  (.cons (.str [56, 48, 48, 54]) (.cons (.int .i64 400) .nil), .tup (.cons (.agg (.cons (.bool false) (.cons (.ro 1 (.cons (.int .u32 8006) .nil)) (.cons (.bool false) (.cons (.ro 0 .nil) .nil))))) (.cons (.int .i64 0) .nil))),
  (.cons (.str [55, 57, 57, 55]) (.cons (.int .i64 65536) .nil), .tup (.cons (.agg (.cons (.bool false) (.cons (.ro 1 (.cons (.int .u32 7997) .nil)) (.cons (.bool false) (.cons (.ro 0 .nil) .nil))))) (.cons (.int .i64 0) .nil))),
  (.cons (.str [56, 48, 48, 54]) (.cons (.int .i64 65536) .nil), .tup (.cons (.agg (.cons (.bool false) (.cons (.ro 1 (.cons (.int .u32 8006) .nil)) (.cons (.bool false) (.cons (.ro 0 .nil) .nil))))) (.cons (.int .i64 0) .nil))),
  (.cons (.str [53, 57, 57, 55]) (.cons (.int .i64 400) .nil), .tup (.cons (.agg (.cons (.bool false) (.cons (.ro 1 (.cons (.int .u32 5997) .nil)) (.cons (.bool false) (.cons (.ro 0 .nil) .nil))))) (.cons (.int .i64 0) .nil))),
  (.cons (.str [54, 48, 48, 54]) (.cons (.int .i64 400) .nil), .tup (.cons (.agg (.cons (.bool false) (.cons (.ro 1 (.cons (.int .u32 6006) .nil)) (.cons (.bool false) (.cons (.ro 0 .nil) .nil))))) (.cons (.int .i64 0) .nil)))]
theorem ran_r1 : ranAll Tryz.prog ov0 58 tr1 = true := by decide +kernel
end Go.Sy
