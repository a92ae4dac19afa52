/- What the proof of SubsNil leans on: Srt. -/
import Derived.Shelf.SlSortCmp.WholeK
import Derived.Ground.SlsfProg
import Derived.Test.YtjibcekillcgjaaDoorProg
namespace Go.Proofs
open Go.Shelf
def Tryd.sortK_ren : Go.Shelf.Ren := ⟨fun | 6 => 24 | 15 => 37 | 14 => 36 | 28 => 56 | 29 => 57 | 20 => 48 | 21 => 49 | 22 => 50 | 23 => 51 | 24 => 52 | 25 => 53 | 26 => 54 | 27 => 55 | 46 => 74 | 47 => 75 | 48 => 76 | 49 => 77 | 50 => 78 | 57 => 88 | n => n, fun | 22 => 65 | 24 => 61 | 25 => 68 | 3 => 3 | 39 => 80 | 0 => 0 | 53 => 99 | 55 => 101 | 4 => 4 | 46 => 92 | 45 => 91 | 50 => 96 | 5 => 5 | 9 => 9 | 66 => 116 | 70 => 120 | 76 => 130 | 77 => 108 | n => n, fun | n => n⟩
def Tryd.sortW_ren : Go.Shelf.Ren := ⟨fun | 6 => 29 | 15 => 37 | 14 => 41 | 28 => 56 | 29 => 57 | 20 => 60 | 21 => 61 | 22 => 62 | 23 => 63 | 24 => 64 | 25 => 65 | 26 => 66 | 27 => 67 | 46 => 80 | 47 => 75 | 48 => 76 | 49 => 81 | 50 => 82 | 57 => 91 | n => n, fun | 22 => 41 | 24 => 48 | 25 => 72 | 3 => 3 | 39 => 80 | 0 => 0 | 53 => 99 | 55 => 101 | 4 => 4 | 46 => 92 | 45 => 91 | 50 => 96 | 5 => 5 | 9 => 9 | 66 => 116 | 70 => 120 | 76 => 130 | 77 => 108 | n => n, fun | n => n⟩
theorem Tryd.sortW : Go.Proofs.SlLaysF0.n6 Tryd.prog Tryd.sortW_ren := {
  mixed := by kernel_rfl
  f6 := ⟨Tryd.f29.name, by decide, Tryd.func29.trans (congrArg some (by kernel_rfl))⟩
  f14 := ⟨Tryd.f41.name, by decide, Tryd.func41.trans (congrArg some (by kernel_rfl))⟩
  f15 := Tryd.func37.trans (congrArg some (by kernel_rfl))
  f20 := ⟨Tryd.f60.name, by decide, Tryd.func60.trans (congrArg some (by kernel_rfl))⟩
  f21 := ⟨Tryd.f61.name, by decide, Tryd.func61.trans (congrArg some (by kernel_rfl))⟩
  f22 := ⟨Tryd.f62.name, by decide, Tryd.func62.trans (congrArg some (by kernel_rfl))⟩
  f23 := ⟨Tryd.f63.name, by decide, Tryd.func63.trans (congrArg some (by kernel_rfl))⟩
  f24 := ⟨Tryd.f64.name, by decide, Tryd.func64.trans (congrArg some (by kernel_rfl))⟩
  f25 := ⟨Tryd.f65.name, by decide, Tryd.func65.trans (congrArg some (by kernel_rfl))⟩
  f26 := ⟨Tryd.f66.name, by decide, Tryd.func66.trans (congrArg some (by kernel_rfl))⟩
  f27 := ⟨Tryd.f67.name, by decide, Tryd.func67.trans (congrArg some (by kernel_rfl))⟩
  f28 := Tryd.func56.trans (congrArg some (by kernel_rfl))
  f29 := Tryd.func57.trans (congrArg some (by kernel_rfl))
  f46 := ⟨Tryd.f80.name, by decide, Tryd.func80.trans (congrArg some (by kernel_rfl))⟩
  f47 := Tryd.func75.trans (congrArg some (by kernel_rfl))
  f48 := Tryd.func76.trans (congrArg some (by kernel_rfl))
  f49 := ⟨Tryd.f81.name, by decide, Tryd.func81.trans (congrArg some (by kernel_rfl))⟩
  f50 := ⟨Tryd.f82.name, by decide, Tryd.func82.trans (congrArg some (by kernel_rfl))⟩
  f57 := ⟨Tryd.f91.name, by decide, Tryd.func91.trans (congrArg some (by kernel_rfl))⟩
  t0 := Tryd.underlying0
  a0 := Tryd.isAgg0
  z0 := Tryd.sizeOf0
  v0 := Tryd.zeroValue0
  t3 := Tryd.underlying3
  a3 := Tryd.isAgg3
  z3 := Tryd.sizeOf3
  v3 := Tryd.zeroValue3
  t4 := Tryd.underlying4
  a4 := Tryd.isAgg4
  z4 := Tryd.sizeOf4
  v4 := Tryd.zeroValue4
  t5 := Tryd.underlying5
  a5 := Tryd.isAgg5
  z5 := Tryd.sizeOf5
  v5 := Tryd.zeroValue5
  t9 := Tryd.underlying9
  a9 := Tryd.isAgg9
  z9 := Tryd.sizeOf9
  v9 := Tryd.zeroValue9
  t22 := Tryd.underlying41
  a22 := Tryd.isAgg41
  z22 := Tryd.sizeOf41
  v22 := Tryd.zeroValue41
  t25 := Tryd.underlying72
  a25 := Tryd.isAgg72
  z25 := Tryd.sizeOf72
  v25 := Tryd.zeroValue72
  t39 := Tryd.underlying80
  a39 := Tryd.isAgg80
  z39 := Tryd.sizeOf80
  v39 := Tryd.zeroValue80
  t45 := Tryd.underlying91
  a45 := Tryd.isAgg91
  z45 := Tryd.sizeOf91
  v45 := Tryd.zeroValue91
  t46 := Tryd.underlying92
  a46 := Tryd.isAgg92
  z46 := Tryd.sizeOf92
  v46 := Tryd.zeroValue92
  t50 := Tryd.underlying96
  a50 := Tryd.isAgg96
  z50 := Tryd.sizeOf96
  v50 := Tryd.zeroValue96
  t53 := Tryd.underlying99
  a53 := Tryd.isAgg99
  z53 := Tryd.sizeOf99
  v53 := Tryd.zeroValue99
  t55 := Tryd.underlying101
  a55 := Tryd.isAgg101
  z55 := Tryd.sizeOf101
  v55 := Tryd.zeroValue101
  t66 := Tryd.underlying116
  a66 := Tryd.isAgg116
  z66 := Tryd.sizeOf116
  v66 := Tryd.zeroValue116
  t70 := Tryd.underlying120
  a70 := Tryd.isAgg120
  z70 := Tryd.sizeOf120
  v70 := Tryd.zeroValue120
  t76 := Tryd.underlying130
  a76 := Tryd.isAgg130
  z76 := Tryd.sizeOf130
  v76 := Tryd.zeroValue130
  t77 := Tryd.underlying108
  a77 := Tryd.isAgg108
  z77 := Tryd.sizeOf108
  v77 := Tryd.zeroValue108 }
end Go.Proofs
