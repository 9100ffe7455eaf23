/- Runs of dowel/solid.Penetrate. -/
import Derived.Test.YthdjljdooekbmaaGreatDoorSmO1
namespace Go.Sy
open Go.RowKit Go.Proofs
set_option linter.unusedVariables false
set_option maxRecDepth 1000000
set_option maxHeartbeats 0
noncomputable def smPe30 : List (AV × AV) := [
  ((.cons smv763 (.cons smv759 .nil)), (.bool false)),
  ((.cons smv767 (.cons smv755 .nil)), (.bool false)),
  ((.cons smv767 (.cons smv759 .nil)), (.bool false)),
  ((.cons smv767 (.cons smv763 .nil)), (.bool false)),
  ((.cons smv771 (.cons smv755 .nil)), (.bool false)),
  ((.cons smv771 (.cons smv759 .nil)), (.bool false)),
  ((.cons smv771 (.cons smv763 .nil)), (.bool false)),
  ((.cons smv771 (.cons smv767 .nil)), (.bool false))]
theorem smranPe30 : ranAll Tryz.prog smov2 173 smPe30 = true := by decide +kernel
noncomputable def smPe31 : List (AV × AV) := [
  ((.cons smv791 (.cons smv787 .nil)), (.bool false)),
  ((.cons smv795 (.cons smv787 .nil)), (.bool false)),
  ((.cons smv795 (.cons smv791 .nil)), (.bool false)),
  ((.cons smv801 (.cons smv787 .nil)), (.bool false)),
  ((.cons smv801 (.cons smv791 .nil)), (.bool false)),
  ((.cons smv801 (.cons smv795 .nil)), (.bool false)),
  ((.cons smv805 (.cons smv787 .nil)), (.bool false)),
  ((.cons smv805 (.cons smv791 .nil)), (.bool false))]
theorem smranPe31 : ranAll Tryz.prog smov2 173 smPe31 = true := by decide +kernel
noncomputable def smPe32 : List (AV × AV) := [
  ((.cons smv805 (.cons smv795 .nil)), (.bool false)),
  ((.cons smv805 (.cons smv801 .nil)), (.bool false)),
  ((.cons smv813 (.cons smv809 .nil)), (.bool false)),
  ((.cons smv849 (.cons smv399 .nil)), (.bool false)),
  ((.cons smv853 (.cons smv399 .nil)), (.bool false)),
  ((.cons smv853 (.cons smv849 .nil)), (.bool false)),
  ((.cons smv485 (.cons smv399 .nil)), (.bool false)),
  ((.cons smv485 (.cons smv849 .nil)), (.bool false))]
theorem smranPe32 : ranAll Tryz.prog smov2 173 smPe32 = true := by decide +kernel
noncomputable def smPe33 : List (AV × AV) := [
  ((.cons smv485 (.cons smv853 .nil)), (.bool false)),
  ((.cons smv489 (.cons smv399 .nil)), (.bool false)),
  ((.cons smv489 (.cons smv849 .nil)), (.bool false)),
  ((.cons smv489 (.cons smv853 .nil)), (.bool false)),
  ((.cons smv863 (.cons smv859 .nil)), (.bool false)),
  ((.cons smv867 (.cons smv859 .nil)), (.bool false)),
  ((.cons smv867 (.cons smv863 .nil)), (.bool false)),
  ((.cons smv529 (.cons smv859 .nil)), (.bool false))]
theorem smranPe33 : ranAll Tryz.prog smov2 173 smPe33 = true := by decide +kernel
noncomputable def smPe34 : List (AV × AV) := [
  ((.cons smv529 (.cons smv863 .nil)), (.bool false)),
  ((.cons smv529 (.cons smv867 .nil)), (.bool false)),
  ((.cons smv533 (.cons smv859 .nil)), (.bool false)),
  ((.cons smv533 (.cons smv863 .nil)), (.bool false)),
  ((.cons smv533 (.cons smv867 .nil)), (.bool false)),
  ((.cons smv889 (.cons smv883 .nil)), (.bool false)),
  ((.cons smv893 (.cons smv883 .nil)), (.bool false)),
  ((.cons smv893 (.cons smv889 .nil)), (.bool false))]
theorem smranPe34 : ranAll Tryz.prog smov2 173 smPe34 = true := by decide +kernel
noncomputable def smPe35 : List (AV × AV) := [
  ((.cons smv899 (.cons smv883 .nil)), (.bool false)),
  ((.cons smv899 (.cons smv889 .nil)), (.bool false)),
  ((.cons smv899 (.cons smv893 .nil)), (.bool false)),
  ((.cons smv903 (.cons smv883 .nil)), (.bool false)),
  ((.cons smv903 (.cons smv889 .nil)), (.bool false)),
  ((.cons smv903 (.cons smv893 .nil)), (.bool false)),
  ((.cons smv903 (.cons smv899 .nil)), (.bool false)),
  ((.cons smv915 (.cons smv909 .nil)), (.bool false))]
theorem smranPe35 : ranAll Tryz.prog smov2 173 smPe35 = true := by decide +kernel
noncomputable def smPe36 : List (AV × AV) := [
  ((.cons smv923 (.cons smv919 .nil)), (.bool false)),
  ((.cons smv933 (.cons smv929 .nil)), (.bool false)),
  ((.cons smv937 (.cons smv929 .nil)), (.bool false)),
  ((.cons smv937 (.cons smv933 .nil)), (.bool false)),
  ((.cons smv941 (.cons smv929 .nil)), (.bool false)),
  ((.cons smv941 (.cons smv933 .nil)), (.bool false)),
  ((.cons smv941 (.cons smv937 .nil)), (.bool false)),
  ((.cons smv951 (.cons smv947 .nil)), (.bool false))]
theorem smranPe36 : ranAll Tryz.prog smov2 173 smPe36 = true := by decide +kernel
noncomputable def smPe37 : List (AV × AV) := [
  ((.cons smv955 (.cons smv947 .nil)), (.bool false)),
  ((.cons smv955 (.cons smv951 .nil)), (.bool false)),
  ((.cons smv959 (.cons smv947 .nil)), (.bool false)),
  ((.cons smv959 (.cons smv951 .nil)), (.bool false)),
  ((.cons smv959 (.cons smv955 .nil)), (.bool false)),
  ((.cons smv967 (.cons smv963 .nil)), (.bool false)),
  ((.cons smv971 (.cons smv963 .nil)), (.bool false)),
  ((.cons smv971 (.cons smv967 .nil)), (.bool false))]
theorem smranPe37 : ranAll Tryz.prog smov2 173 smPe37 = true := by decide +kernel
noncomputable def smPe38 : List (AV × AV) := [
  ((.cons smv975 (.cons smv963 .nil)), (.bool false)),
  ((.cons smv975 (.cons smv967 .nil)), (.bool false)),
  ((.cons smv975 (.cons smv971 .nil)), (.bool false)),
  ((.cons smv475 (.cons smv981 .nil)), (.bool false)),
  ((.cons smv985 (.cons smv981 .nil)), (.bool false)),
  ((.cons smv985 (.cons smv475 .nil)), (.bool false)),
  ((.cons smv415 (.cons smv981 .nil)), (.bool false)),
  ((.cons smv415 (.cons smv475 .nil)), (.bool false))]
theorem smranPe38 : ranAll Tryz.prog smov2 173 smPe38 = true := by decide +kernel
noncomputable def smPe39 : List (AV × AV) := [
  ((.cons smv415 (.cons smv985 .nil)), (.bool false)),
  ((.cons smv419 (.cons smv981 .nil)), (.bool false)),
  ((.cons smv419 (.cons smv475 .nil)), (.bool false)),
  ((.cons smv419 (.cons smv985 .nil)), (.bool false)),
  ((.cons smv521 (.cons smv995 .nil)), (.bool false)),
  ((.cons smv999 (.cons smv995 .nil)), (.bool false)),
  ((.cons smv999 (.cons smv521 .nil)), (.bool false)),
  ((.cons smv1005 (.cons smv995 .nil)), (.bool false))]
theorem smranPe39 : ranAll Tryz.prog smov2 173 smPe39 = true := by decide +kernel
noncomputable def smPe40 : List (AV × AV) := [
  ((.cons smv1005 (.cons smv521 .nil)), (.bool false)),
  ((.cons smv1005 (.cons smv999 .nil)), (.bool false)),
  ((.cons smv1009 (.cons smv995 .nil)), (.bool false)),
  ((.cons smv1009 (.cons smv521 .nil)), (.bool false)),
  ((.cons smv1009 (.cons smv999 .nil)), (.bool false)),
  ((.cons smv1009 (.cons smv1005 .nil)), (.bool false)),
  ((.cons smv1023 (.cons smv209 .nil)), (.bool false)),
  ((.cons smv1023 (.cons smv213 .nil)), (.bool false))]
theorem smranPe40 : ranAll Tryz.prog smov2 173 smPe40 = true := by decide +kernel
noncomputable def smPe41 : List (AV × AV) := [
  ((.cons smv1023 (.cons smv729 .nil)), (.bool false)),
  ((.cons smv1027 (.cons smv209 .nil)), (.bool false)),
  ((.cons smv1027 (.cons smv213 .nil)), (.bool false)),
  ((.cons smv1027 (.cons smv729 .nil)), (.bool false)),
  ((.cons smv1027 (.cons smv1023 .nil)), (.bool false)),
  ((.cons smv1031 (.cons smv309 .nil)), (.bool false)),
  ((.cons smv1035 (.cons smv309 .nil)), (.bool false)),
  ((.cons smv1035 (.cons smv1031 .nil)), (.bool false))]
theorem smranPe41 : ranAll Tryz.prog smov2 173 smPe41 = true := by decide +kernel
noncomputable def smPe42 : List (AV × AV) := [
  ((.cons smv1039 (.cons smv309 .nil)), (.bool false)),
  ((.cons smv1039 (.cons smv1031 .nil)), (.bool false)),
  ((.cons smv1039 (.cons smv1035 .nil)), (.bool false)),
  ((.cons smv1043 (.cons smv309 .nil)), (.bool false)),
  ((.cons smv1043 (.cons smv1031 .nil)), (.bool false)),
  ((.cons smv1043 (.cons smv1035 .nil)), (.bool false)),
  ((.cons smv1043 (.cons smv1039 .nil)), (.bool false)),
  ((.cons smv1051 (.cons smv1047 .nil)), (.bool false))]
theorem smranPe42 : ranAll Tryz.prog smov2 173 smPe42 = true := by decide +kernel
noncomputable def smPe43 : List (AV × AV) := [
  ((.cons smv1055 (.cons smv1047 .nil)), (.bool false)),
  ((.cons smv1055 (.cons smv1051 .nil)), (.bool false)),
  ((.cons smv645 (.cons smv1047 .nil)), (.bool false)),
  ((.cons smv645 (.cons smv1051 .nil)), (.bool false)),
  ((.cons smv645 (.cons smv1055 .nil)), (.bool false)),
  ((.cons smv1059 (.cons smv1047 .nil)), (.bool false)),
  ((.cons smv1059 (.cons smv1051 .nil)), (.bool false)),
  ((.cons smv1059 (.cons smv1055 .nil)), (.bool false))]
theorem smranPe43 : ranAll Tryz.prog smov2 173 smPe43 = true := by decide +kernel
noncomputable def smPe44 : List (AV × AV) := [
  ((.cons smv1059 (.cons smv645 .nil)), (.bool false)),
  ((.cons smv791 (.cons smv1075 .nil)), (.bool false)),
  ((.cons smv1079 (.cons smv1075 .nil)), (.bool false)),
  ((.cons smv1079 (.cons smv791 .nil)), (.bool false)),
  ((.cons smv1083 (.cons smv1075 .nil)), (.bool false)),
  ((.cons smv1083 (.cons smv791 .nil)), (.bool false)),
  ((.cons smv1083 (.cons smv1079 .nil)), (.bool false)),
  ((.cons smv1087 (.cons smv1075 .nil)), (.bool false))]
theorem smranPe44 : ranAll Tryz.prog smov2 173 smPe44 = true := by decide +kernel
end Go.Sy
