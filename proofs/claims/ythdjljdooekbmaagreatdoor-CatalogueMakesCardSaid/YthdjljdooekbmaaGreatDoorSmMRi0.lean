/- Runs of dowel/cell.rings. -/
import Derived.Test.YthdjljdooekbmaaGreatDoorSmV1
namespace Go.Sy
open Go.RowKit Go.Proofs
set_option linter.unusedVariables false
set_option maxRecDepth 1000000
set_option maxHeartbeats 0
noncomputable def smRi0 : List (AV × AV) := [
  ((.cons smv0 .nil), smv3),
  ((.cons smv14 .nil), smv3),
  ((.cons smv18 .nil), smv20),
  ((.cons smv24 .nil), smv20),
  ((.cons smv28 .nil), smv30)]
theorem smranRi0 : ranAll Tryz.prog ov0 206 smRi0 = true := by decide +kernel
noncomputable def smRi1 : List (AV × AV) := [
  ((.cons smv34 .nil), smv30),
  ((.cons smv38 .nil), smv20),
  ((.cons smv42 .nil), smv20),
  ((.cons smv46 .nil), smv3),
  ((.cons smv50 .nil), smv3)]
theorem smranRi1 : ranAll Tryz.prog ov0 206 smRi1 = true := by decide +kernel
noncomputable def smRi2 : List (AV × AV) := [
  ((.cons smv54 .nil), smv20),
  ((.cons smv58 .nil), smv20),
  ((.cons smv62 .nil), smv30),
  ((.cons smv66 .nil), smv30),
  ((.cons smv70 .nil), smv20)]
theorem smranRi2 : ranAll Tryz.prog ov0 206 smRi2 = true := by decide +kernel
noncomputable def smRi3 : List (AV × AV) := [
  ((.cons smv74 .nil), smv20),
  ((.cons smv82 .nil), smv84),
  ((.cons smv88 .nil), smv90),
  ((.cons smv96 .nil), smv90),
  ((.cons smv100 .nil), smv102)]
theorem smranRi3 : ranAll Tryz.prog ov0 206 smRi3 = true := by decide +kernel
noncomputable def smRi4 : List (AV × AV) := [
  ((.cons smv106 .nil), smv102),
  ((.cons smv110 .nil), smv112),
  ((.cons smv118 .nil), smv120),
  ((.cons smv126 .nil), smv112),
  ((.cons smv130 .nil), smv120)]
theorem smranRi4 : ranAll Tryz.prog ov0 206 smRi4 = true := by decide +kernel
noncomputable def smRi5 : List (AV × AV) := [
  ((.cons smv134 .nil), smv112),
  ((.cons smv138 .nil), smv120),
  ((.cons smv144 .nil), smv146),
  ((.cons smv150 .nil), smv152),
  ((.cons smv156 .nil), smv152)]
theorem smranRi5 : ranAll Tryz.prog ov0 206 smRi5 = true := by decide +kernel
noncomputable def smRi6 : List (AV × AV) := [
  ((.cons smv160 .nil), smv162),
  ((.cons smv166 .nil), smv162),
  ((.cons smv172 .nil), smv174),
  ((.cons smv178 .nil), smv180),
  ((.cons smv184 .nil), smv180)]
theorem smranRi6 : ranAll Tryz.prog ov0 206 smRi6 = true := by decide +kernel
noncomputable def smRi7 : List (AV × AV) := [
  ((.cons smv188 .nil), smv190),
  ((.cons smv194 .nil), smv190),
  ((.cons smv198 .nil), smv190),
  ((.cons smv204 .nil), smv206),
  ((.cons smv210 .nil), smv206)]
theorem smranRi7 : ranAll Tryz.prog ov0 206 smRi7 = true := by decide +kernel
end Go.Sy
