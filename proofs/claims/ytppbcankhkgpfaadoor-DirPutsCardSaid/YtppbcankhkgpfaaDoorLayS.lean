/-
  The library's contracts, laid at this dump in plain words.
-/
import Derived.Shelf.SlSortCmp.WholeK
import Derived.Shelf.SlSortCmp.NoneTotal
import Derived.Test.YtppbcankhkgpfaaDoorProg
namespace Go.Proofs
open Go.Shelf
def Tryd.laySort_ren : Go.Shelf.Ren := ⟨fun | 6 => 92 | 15 => 104 | 14 => 103 | 28 => 116 | 29 => 117 | 20 => 108 | 21 => 109 | 22 => 110 | 23 => 111 | 24 => 112 | 25 => 113 | 26 => 114 | 27 => 115 | 46 => 119 | 47 => 120 | 48 => 121 | 49 => 122 | 50 => 123 | 57 => 124 | n => n, fun | 22 => 41 | 24 => 64 | 25 => 131 | 3 => 3 | 39 => 120 | 0 => 0 | 53 => 38 | 55 => 67 | 4 => 4 | 46 => 141 | 45 => 140 | 50 => 89 | 5 => 5 | 9 => 9 | 66 => 153 | 70 => 157 | 76 => 159 | 77 => 132 | n => n, fun | n => n⟩
theorem Tryd.laySort : Go.Proofs.SlLaysF0.n6 Tryd.prog Tryd.laySort_ren := {
  mixed := by kernel_rfl
  f6 := ⟨Tryd.f92.name, by decide, Tryd.func92.trans (congrArg some (by kernel_rfl))⟩
  f14 := ⟨Tryd.f103.name, by decide, Tryd.func103.trans (congrArg some (by kernel_rfl))⟩
  f15 := Tryd.func104.trans (congrArg some (by kernel_rfl))
  f20 := ⟨Tryd.f108.name, by decide, Tryd.func108.trans (congrArg some (by kernel_rfl))⟩
  f21 := ⟨Tryd.f109.name, by decide, Tryd.func109.trans (congrArg some (by kernel_rfl))⟩
  f22 := ⟨Tryd.f110.name, by decide, Tryd.func110.trans (congrArg some (by kernel_rfl))⟩
  f23 := ⟨Tryd.f111.name, by decide, Tryd.func111.trans (congrArg some (by kernel_rfl))⟩
  f24 := ⟨Tryd.f112.name, by decide, Tryd.func112.trans (congrArg some (by kernel_rfl))⟩
  f25 := ⟨Tryd.f113.name, by decide, Tryd.func113.trans (congrArg some (by kernel_rfl))⟩
  f26 := ⟨Tryd.f114.name, by decide, Tryd.func114.trans (congrArg some (by kernel_rfl))⟩
  f27 := ⟨Tryd.f115.name, by decide, Tryd.func115.trans (congrArg some (by kernel_rfl))⟩
  f28 := Tryd.func116.trans (congrArg some (by kernel_rfl))
  f29 := Tryd.func117.trans (congrArg some (by kernel_rfl))
  f46 := ⟨Tryd.f119.name, by decide, Tryd.func119.trans (congrArg some (by kernel_rfl))⟩
  f47 := Tryd.func120.trans (congrArg some (by kernel_rfl))
  f48 := Tryd.func121.trans (congrArg some (by kernel_rfl))
  f49 := ⟨Tryd.f122.name, by decide, Tryd.func122.trans (congrArg some (by kernel_rfl))⟩
  f50 := ⟨Tryd.f123.name, by decide, Tryd.func123.trans (congrArg some (by kernel_rfl))⟩
  f57 := ⟨Tryd.f124.name, by decide, Tryd.func124.trans (congrArg some (by kernel_rfl))⟩
  t0 := Tryd.underlying0
  a0 := Tryd.isAgg0
  z0 := Tryd.sizeOf0
  v0 := Tryd.zeroValue0
  t3 := Tryd.underlying3
  a3 := Tryd.isAgg3
  z3 := Tryd.sizeOf3
  v3 := Tryd.zeroValue3
  t4 := Tryd.underlying4
  a4 := Tryd.isAgg4
  z4 := Tryd.sizeOf4
  v4 := Tryd.zeroValue4
  t5 := Tryd.underlying5
  a5 := Tryd.isAgg5
  z5 := Tryd.sizeOf5
  v5 := Tryd.zeroValue5
  t9 := Tryd.underlying9
  a9 := Tryd.isAgg9
  z9 := Tryd.sizeOf9
  v9 := Tryd.zeroValue9
  t22 := Tryd.underlying41
  a22 := Tryd.isAgg41
  z22 := Tryd.sizeOf41
  v22 := Tryd.zeroValue41
  t25 := Tryd.underlying131
  a25 := Tryd.isAgg131
  z25 := Tryd.sizeOf131
  v25 := Tryd.zeroValue131
  t39 := Tryd.underlying120
  a39 := Tryd.isAgg120
  z39 := Tryd.sizeOf120
  v39 := Tryd.zeroValue120
  t45 := Tryd.underlying140
  a45 := Tryd.isAgg140
  z45 := Tryd.sizeOf140
  v45 := Tryd.zeroValue140
  t46 := Tryd.underlying141
  a46 := Tryd.isAgg141
  z46 := Tryd.sizeOf141
  v46 := Tryd.zeroValue141
  t50 := Tryd.underlying89
  a50 := Tryd.isAgg89
  z50 := Tryd.sizeOf89
  v50 := Tryd.zeroValue89
  t53 := Tryd.underlying38
  a53 := Tryd.isAgg38
  z53 := Tryd.sizeOf38
  v53 := Tryd.zeroValue38
  t55 := Tryd.underlying67
  a55 := Tryd.isAgg67
  z55 := Tryd.sizeOf67
  v55 := Tryd.zeroValue67
  t66 := Tryd.underlying153
  a66 := Tryd.isAgg153
  z66 := Tryd.sizeOf153
  v66 := Tryd.zeroValue153
  t70 := Tryd.underlying157
  a70 := Tryd.isAgg157
  z70 := Tryd.sizeOf157
  v70 := Tryd.zeroValue157
  t76 := Tryd.underlying159
  a76 := Tryd.isAgg159
  z76 := Tryd.sizeOf159
  v76 := Tryd.zeroValue159
  t77 := Tryd.underlying132
  a77 := Tryd.isAgg132
  z77 := Tryd.sizeOf132
  v77 := Tryd.zeroValue132 }
end Go.Proofs
