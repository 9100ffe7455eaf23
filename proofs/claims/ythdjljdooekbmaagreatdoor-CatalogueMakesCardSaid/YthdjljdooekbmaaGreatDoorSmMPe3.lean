/- Runs of dowel/solid.Penetrate. -/
import Derived.Test.YthdjljdooekbmaaGreatDoorSmO1
namespace Go.Sy
open Go.RowKit Go.Proofs
set_option linter.unusedVariables false
set_option maxRecDepth 1000000
set_option maxHeartbeats 0
noncomputable def smPe45 : List (AV × AV) := [
  ((.cons smv1087 (.cons smv791 .nil)), (.bool false)),
  ((.cons smv1087 (.cons smv1079 .nil)), (.bool false)),
  ((.cons smv1087 (.cons smv1083 .nil)), (.bool false)),
  ((.cons smv95 (.cons smv1099 .nil)), (.bool false)),
  ((.cons smv1103 (.cons smv1099 .nil)), (.bool false)),
  ((.cons smv1103 (.cons smv95 .nil)), (.bool false)),
  ((.cons smv321 (.cons smv1099 .nil)), (.bool false)),
  ((.cons smv321 (.cons smv95 .nil)), (.bool false))]
theorem smranPe45 : ranAll Tryz.prog smov2 173 smPe45 = true := by decide +kernel
noncomputable def smPe46 : List (AV × AV) := [
  ((.cons smv321 (.cons smv1103 .nil)), (.bool false)),
  ((.cons smv325 (.cons smv1099 .nil)), (.bool false)),
  ((.cons smv325 (.cons smv95 .nil)), (.bool false)),
  ((.cons smv325 (.cons smv1103 .nil)), (.bool false)),
  ((.cons smv1115 (.cons smv1111 .nil)), (.bool false)),
  ((.cons smv1119 (.cons smv1111 .nil)), (.bool false)),
  ((.cons smv1119 (.cons smv1115 .nil)), (.bool false)),
  ((.cons smv1123 (.cons smv1111 .nil)), (.bool false))]
theorem smranPe46 : ranAll Tryz.prog smov2 173 smPe46 = true := by decide +kernel
noncomputable def smPe47 : List (AV × AV) := [
  ((.cons smv1123 (.cons smv1115 .nil)), (.bool false)),
  ((.cons smv1123 (.cons smv1119 .nil)), (.bool false)),
  ((.cons smv1135 (.cons smv1129 .nil)), (.bool false)),
  ((.cons smv1139 (.cons smv1129 .nil)), (.bool false)),
  ((.cons smv1139 (.cons smv1135 .nil)), (.bool false)),
  ((.cons smv1145 (.cons smv1129 .nil)), (.bool false)),
  ((.cons smv1145 (.cons smv1135 .nil)), (.bool false)),
  ((.cons smv1145 (.cons smv1139 .nil)), (.bool false))]
theorem smranPe47 : ranAll Tryz.prog smov2 173 smPe47 = true := by decide +kernel
noncomputable def smPe48 : List (AV × AV) := [
  ((.cons smv1149 (.cons smv1129 .nil)), (.bool false)),
  ((.cons smv1149 (.cons smv1135 .nil)), (.bool false)),
  ((.cons smv1149 (.cons smv1139 .nil)), (.bool false)),
  ((.cons smv1149 (.cons smv1145 .nil)), (.bool false)),
  ((.cons smv1161 (.cons smv1157 .nil)), (.bool false)),
  ((.cons smv1165 (.cons smv1157 .nil)), (.bool false)),
  ((.cons smv1165 (.cons smv1161 .nil)), (.bool false)),
  ((.cons smv1169 (.cons smv1157 .nil)), (.bool false))]
theorem smranPe48 : ranAll Tryz.prog smov2 173 smPe48 = true := by decide +kernel
noncomputable def smPe49 : List (AV × AV) := [
  ((.cons smv1169 (.cons smv1161 .nil)), (.bool false)),
  ((.cons smv1169 (.cons smv1165 .nil)), (.bool false)),
  ((.cons smv1173 (.cons smv695 .nil)), (.bool false)),
  ((.cons smv1173 (.cons smv699 .nil)), (.bool false)),
  ((.cons smv1173 (.cons smv703 .nil)), (.bool false)),
  ((.cons smv1179 (.cons smv695 .nil)), (.bool false)),
  ((.cons smv1179 (.cons smv699 .nil)), (.bool false)),
  ((.cons smv1179 (.cons smv703 .nil)), (.bool false))]
theorem smranPe49 : ranAll Tryz.prog smov2 173 smPe49 = true := by decide +kernel
noncomputable def smPe50 : List (AV × AV) := [
  ((.cons smv1179 (.cons smv1173 .nil)), (.bool false)),
  ((.cons smv1183 (.cons smv695 .nil)), (.bool false)),
  ((.cons smv1183 (.cons smv699 .nil)), (.bool false)),
  ((.cons smv1183 (.cons smv703 .nil)), (.bool false)),
  ((.cons smv1183 (.cons smv1173 .nil)), (.bool false)),
  ((.cons smv1183 (.cons smv1179 .nil)), (.bool false)),
  ((.cons smv791 (.cons smv1201 .nil)), (.bool false)),
  ((.cons smv1205 (.cons smv1201 .nil)), (.bool false))]
theorem smranPe50 : ranAll Tryz.prog smov2 173 smPe50 = true := by decide +kernel
noncomputable def smPe51 : List (AV × AV) := [
  ((.cons smv1205 (.cons smv791 .nil)), (.bool false)),
  ((.cons smv193 (.cons smv1201 .nil)), (.bool false)),
  ((.cons smv193 (.cons smv791 .nil)), (.bool false)),
  ((.cons smv193 (.cons smv1205 .nil)), (.bool false)),
  ((.cons smv197 (.cons smv1201 .nil)), (.bool false)),
  ((.cons smv197 (.cons smv791 .nil)), (.bool false)),
  ((.cons smv197 (.cons smv1205 .nil)), (.bool false)),
  ((.cons smv1221 (.cons smv1215 .nil)), (.bool false))]
theorem smranPe51 : ranAll Tryz.prog smov2 173 smPe51 = true := by decide +kernel
noncomputable def smPe52 : List (AV × AV) := [
  ((.cons smv1225 (.cons smv1215 .nil)), (.bool false)),
  ((.cons smv1225 (.cons smv1221 .nil)), (.bool false)),
  ((.cons smv1231 (.cons smv1215 .nil)), (.bool false)),
  ((.cons smv1231 (.cons smv1221 .nil)), (.bool false)),
  ((.cons smv1231 (.cons smv1225 .nil)), (.bool false)),
  ((.cons smv1235 (.cons smv1215 .nil)), (.bool false)),
  ((.cons smv1235 (.cons smv1221 .nil)), (.bool false)),
  ((.cons smv1235 (.cons smv1225 .nil)), (.bool false))]
theorem smranPe52 : ranAll Tryz.prog smov2 173 smPe52 = true := by decide +kernel
noncomputable def smPe53 : List (AV × AV) := [
  ((.cons smv1235 (.cons smv1231 .nil)), (.bool false)),
  ((.cons smv1247 (.cons smv859 .nil)), (.bool false)),
  ((.cons smv1251 (.cons smv859 .nil)), (.bool false)),
  ((.cons smv1251 (.cons smv1247 .nil)), (.bool false)),
  ((.cons smv1005 (.cons smv859 .nil)), (.bool false)),
  ((.cons smv1005 (.cons smv1247 .nil)), (.bool false)),
  ((.cons smv1005 (.cons smv1251 .nil)), (.bool false)),
  ((.cons smv1009 (.cons smv859 .nil)), (.bool false))]
theorem smranPe53 : ranAll Tryz.prog smov2 173 smPe53 = true := by decide +kernel
noncomputable def smPe54 : List (AV × AV) := [
  ((.cons smv1009 (.cons smv1247 .nil)), (.bool false)),
  ((.cons smv1009 (.cons smv1251 .nil)), (.bool false)),
  ((.cons smv391 (.cons smv1023 .nil)), (.bool false)),
  ((.cons smv1265 (.cons smv1023 .nil)), (.bool false)),
  ((.cons smv1265 (.cons smv391 .nil)), (.bool false)),
  ((.cons smv1269 (.cons smv1023 .nil)), (.bool false)),
  ((.cons smv1269 (.cons smv391 .nil)), (.bool false)),
  ((.cons smv1269 (.cons smv1265 .nil)), (.bool false))]
theorem smranPe54 : ranAll Tryz.prog smov2 173 smPe54 = true := by decide +kernel
noncomputable def smPe55 : List (AV × AV) := [
  ((.cons smv1273 (.cons smv1023 .nil)), (.bool false)),
  ((.cons smv1273 (.cons smv391 .nil)), (.bool false)),
  ((.cons smv1273 (.cons smv1265 .nil)), (.bool false)),
  ((.cons smv1273 (.cons smv1269 .nil)), (.bool false)),
  ((.cons smv95 (.cons smv1279 .nil)), (.bool false)),
  ((.cons smv1283 (.cons smv1279 .nil)), (.bool false)),
  ((.cons smv1283 (.cons smv95 .nil)), (.bool false)),
  ((.cons smv1039 (.cons smv1279 .nil)), (.bool false))]
theorem smranPe55 : ranAll Tryz.prog smov2 173 smPe55 = true := by decide +kernel
noncomputable def smPe56 : List (AV × AV) := [
  ((.cons smv1039 (.cons smv95 .nil)), (.bool false)),
  ((.cons smv1039 (.cons smv1283 .nil)), (.bool false)),
  ((.cons smv1043 (.cons smv1279 .nil)), (.bool false)),
  ((.cons smv1043 (.cons smv95 .nil)), (.bool false)),
  ((.cons smv1043 (.cons smv1283 .nil)), (.bool false)),
  ((.cons smv367 (.cons smv787 .nil)), (.bool false)),
  ((.cons smv367 (.cons smv791 .nil)), (.bool false)),
  ((.cons smv367 (.cons smv795 .nil)), (.bool false))]
theorem smranPe56 : ranAll Tryz.prog smov2 173 smPe56 = true := by decide +kernel
noncomputable def smPe57 : List (AV × AV) := [
  ((.cons smv809 (.cons smv787 .nil)), (.bool false)),
  ((.cons smv809 (.cons smv791 .nil)), (.bool false)),
  ((.cons smv809 (.cons smv795 .nil)), (.bool false)),
  ((.cons smv809 (.cons smv367 .nil)), (.bool false)),
  ((.cons smv1305 (.cons smv859 .nil)), (.bool false)),
  ((.cons smv1309 (.cons smv859 .nil)), (.bool false)),
  ((.cons smv1309 (.cons smv1305 .nil)), (.bool false)),
  ((.cons smv1315 (.cons smv859 .nil)), (.bool false))]
theorem smranPe57 : ranAll Tryz.prog smov2 173 smPe57 = true := by decide +kernel
noncomputable def smPe58 : List (AV × AV) := [
  ((.cons smv1315 (.cons smv1305 .nil)), (.bool false)),
  ((.cons smv1315 (.cons smv1309 .nil)), (.bool false)),
  ((.cons smv1319 (.cons smv859 .nil)), (.bool false)),
  ((.cons smv1319 (.cons smv1305 .nil)), (.bool false)),
  ((.cons smv1319 (.cons smv1309 .nil)), (.bool false)),
  ((.cons smv1319 (.cons smv1315 .nil)), (.bool false)),
  ((.cons smv1195 (.cons smv767 .nil)), (.bool false)),
  ((.cons smv1327 (.cons smv767 .nil)), (.bool false))]
theorem smranPe58 : ranAll Tryz.prog smov2 173 smPe58 = true := by decide +kernel
noncomputable def smPe59 : List (AV × AV) := [
  ((.cons smv1327 (.cons smv1195 .nil)), (.bool false)),
  ((.cons smv1331 (.cons smv767 .nil)), (.bool false)),
  ((.cons smv1331 (.cons smv1195 .nil)), (.bool false)),
  ((.cons smv1331 (.cons smv1327 .nil)), (.bool false)),
  ((.cons smv1335 (.cons smv767 .nil)), (.bool false)),
  ((.cons smv1335 (.cons smv1195 .nil)), (.bool false)),
  ((.cons smv1335 (.cons smv1327 .nil)), (.bool false)),
  ((.cons smv1335 (.cons smv1331 .nil)), (.bool false))]
theorem smranPe59 : ranAll Tryz.prog smov2 173 smPe59 = true := by decide +kernel
end Go.Sy
