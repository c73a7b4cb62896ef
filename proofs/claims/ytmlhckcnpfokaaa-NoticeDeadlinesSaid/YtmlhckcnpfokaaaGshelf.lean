/- slices.Sort and slices.Compact at the calendar's list are the library's own texts: laid in plain words by the shelf's tool. -/
import Derived.Shelf.SlGeneric
import Derived.Shelf.SlicesG.CompactI
import Derived.Shelf.SortM.Plain
import Derived.Shelf.SortM.SortNone
import Derived.Ground.SlgmProg
import Derived.Ground.SlgnProg
import Derived.Test.YtmlhckcnpfokaaaProg
namespace Go.Proofs
open Go.Shelf
def Try.laysSort_ren : Go.Shelf.Ren := ⟨fun | 5 => 39 | 8 => 48 | 7 => 47 | 19 => 60 | 20 => 61 | 10 => 51 | 11 => 52 | 12 => 53 | 13 => 54 | 14 => 55 | 15 => 56 | 16 => 57 | 17 => 58 | 18 => 59 | 30 => 62 | 31 => 63 | 32 => 64 | 33 => 65 | 34 => 66 | 35 => 67 | 40 => 68 | n => n, fun | 23 => 57 | 25 => 3 | 3 => 3 | 32 => 56 | 22 => 25 | 0 => 0 | 44 => 91 | 46 => 93 | 4 => 4 | 36 => 83 | 35 => 82 | 41 => 88 | 5 => 5 | 9 => 9 | 53 => 94 | 57 => 98 | 63 => 100 | 64 => 29 | n => n, fun | n => n⟩
theorem Try.laysSort : Go.Proofs.SlLaysM.n5 Try.prog Try.laysSort_ren := {
  mixed := by kernel_rfl
  f5 := ⟨Try.f39.name, by decide, Try.func39.trans (congrArg some (by kernel_rfl))⟩
  f7 := ⟨Try.f47.name, by decide, Try.func47.trans (congrArg some (by kernel_rfl))⟩
  f8 := Try.func48.trans (congrArg some (by kernel_rfl))
  f10 := ⟨Try.f51.name, by decide, Try.func51.trans (congrArg some (by kernel_rfl))⟩
  f11 := ⟨Try.f52.name, by decide, Try.func52.trans (congrArg some (by kernel_rfl))⟩
  f12 := ⟨Try.f53.name, by decide, Try.func53.trans (congrArg some (by kernel_rfl))⟩
  f13 := ⟨Try.f54.name, by decide, Try.func54.trans (congrArg some (by kernel_rfl))⟩
  f14 := ⟨Try.f55.name, by decide, Try.func55.trans (congrArg some (by kernel_rfl))⟩
  f15 := ⟨Try.f56.name, by decide, Try.func56.trans (congrArg some (by kernel_rfl))⟩
  f16 := ⟨Try.f57.name, by decide, Try.func57.trans (congrArg some (by kernel_rfl))⟩
  f17 := ⟨Try.f58.name, by decide, Try.func58.trans (congrArg some (by kernel_rfl))⟩
  f18 := ⟨Try.f59.name, by decide, Try.func59.trans (congrArg some (by kernel_rfl))⟩
  f19 := Try.func60.trans (congrArg some (by kernel_rfl))
  f20 := Try.func61.trans (congrArg some (by kernel_rfl))
  f30 := ⟨Try.f62.name, by decide, Try.func62.trans (congrArg some (by kernel_rfl))⟩
  f31 := Try.func63.trans (congrArg some (by kernel_rfl))
  f32 := Try.func64.trans (congrArg some (by kernel_rfl))
  f33 := ⟨Try.f65.name, by decide, Try.func65.trans (congrArg some (by kernel_rfl))⟩
  f34 := ⟨Try.f66.name, by decide, Try.func66.trans (congrArg some (by kernel_rfl))⟩
  f35 := ⟨Try.f67.name, by decide, Try.func67.trans (congrArg some (by kernel_rfl))⟩
  f40 := ⟨Try.f68.name, by decide, Try.func68.trans (congrArg some (by kernel_rfl))⟩
  t0 := Try.underlying0
  a0 := Try.isAgg0
  z0 := Try.sizeOf0
  v0 := Try.zeroValue0
  t3 := Try.underlying3
  a3 := Try.isAgg3
  z3 := Try.sizeOf3
  v3 := Try.zeroValue3
  t4 := Try.underlying4
  a4 := Try.isAgg4
  z4 := Try.sizeOf4
  v4 := Try.zeroValue4
  t5 := Try.underlying5
  a5 := Try.isAgg5
  z5 := Try.sizeOf5
  v5 := Try.zeroValue5
  t9 := Try.underlying9
  a9 := Try.isAgg9
  z9 := Try.sizeOf9
  v9 := Try.zeroValue9
  t22 := Try.underlying25
  a22 := Try.isAgg25
  z22 := Try.sizeOf25
  v22 := Try.zeroValue25
  t23 := Try.underlying57
  a23 := Try.isAgg57
  z23 := Try.sizeOf57
  v23 := Try.zeroValue57
  t25 := Try.underlying3
  a25 := Try.isAgg3
  z25 := Try.sizeOf3
  v25 := Try.zeroValue3
  t32 := Try.underlying56
  a32 := Try.isAgg56
  z32 := Try.sizeOf56
  v32 := Try.zeroValue56
  t35 := Try.underlying82
  a35 := Try.isAgg82
  z35 := Try.sizeOf82
  v35 := Try.zeroValue82
  t36 := Try.underlying83
  a36 := Try.isAgg83
  z36 := Try.sizeOf83
  v36 := Try.zeroValue83
  t41 := Try.underlying88
  a41 := Try.isAgg88
  z41 := Try.sizeOf88
  v41 := Try.zeroValue88
  t44 := Try.underlying91
  a44 := Try.isAgg91
  z44 := Try.sizeOf91
  v44 := Try.zeroValue91
  t46 := Try.underlying93
  a46 := Try.isAgg93
  z46 := Try.sizeOf93
  v46 := Try.zeroValue93
  t53 := Try.underlying94
  a53 := Try.isAgg94
  z53 := Try.sizeOf94
  v53 := Try.zeroValue94
  t57 := Try.underlying98
  a57 := Try.isAgg98
  z57 := Try.sizeOf98
  v57 := Try.zeroValue98
  t63 := Try.underlying100
  a63 := Try.isAgg100
  z63 := Try.sizeOf100
  v63 := Try.zeroValue100
  t64 := Try.underlying29
  a64 := Try.isAgg29
  z64 := Try.sizeOf29
  v64 := Try.zeroValue29 }
def Try.laysCompact_ren : Go.Shelf.Ren := ⟨fun | 43 => 40 | n => n, fun | 22 => 57 | 23 => 3 | 3 => 3 | 4 => 4 | 0 => 0 | n => n, fun | n => n⟩
theorem Try.laysCompact : Go.Proofs.SlLaysN.n43 Try.prog Try.laysCompact_ren := {
  mixed := by kernel_rfl
  f43 := ⟨Try.f40.name, by decide, Try.func40.trans (congrArg some (by kernel_rfl))⟩
  t0 := Try.underlying0
  a0 := Try.isAgg0
  z0 := Try.sizeOf0
  v0 := Try.zeroValue0
  t3 := Try.underlying3
  a3 := Try.isAgg3
  z3 := Try.sizeOf3
  v3 := Try.zeroValue3
  t4 := Try.underlying4
  a4 := Try.isAgg4
  z4 := Try.sizeOf4
  v4 := Try.zeroValue4
  t22 := Try.underlying57
  a22 := Try.isAgg57
  z22 := Try.sizeOf57
  v22 := Try.zeroValue57
  t23 := Try.underlying3
  a23 := Try.isAgg3
  z23 := Try.sizeOf3
  v23 := Try.zeroValue3
  i23 := by kernel_rfl }
end Go.Proofs
