/-
  The library's contracts, laid at this dump in plain words.
-/
import Derived.Shelf.SlSortCmp.WholeK
import Derived.Shelf.SlSortCmp.NoneTotal
import Derived.Test.YtcclaidbikjhiaaGreatDoorProg
namespace Go.Proofs
open Go.Shelf
def Tryz.laySort_ren : Go.Shelf.Ren := ⟨fun | 6 => 178 | 15 => 207 | 14 => 206 | 28 => 226 | 29 => 227 | 20 => 218 | 21 => 219 | 22 => 220 | 23 => 221 | 24 => 222 | 25 => 223 | 26 => 224 | 27 => 225 | 46 => 232 | 47 => 233 | 48 => 234 | 49 => 235 | 50 => 236 | 57 => 241 | n => n, fun | 22 => 44 | 24 => 87 | 25 => 232 | 3 => 3 | 39 => 199 | 0 => 0 | 53 => 190 | 55 => 43 | 4 => 4 | 46 => 264 | 45 => 263 | 50 => 162 | 5 => 5 | 9 => 9 | 66 => 273 | 70 => 276 | 76 => 280 | 77 => 256 | n => n, fun | n => n⟩
theorem Tryz.laySort : Go.Proofs.SlLaysF0.n6 Tryz.prog Tryz.laySort_ren := {
  mixed := by kernel_rfl
  f6 := ⟨Tryz.f178.name, by decide, Tryz.func178.trans (congrArg some (by kernel_rfl))⟩
  f14 := ⟨Tryz.f206.name, by decide, Tryz.func206.trans (congrArg some (by kernel_rfl))⟩
  f15 := Tryz.func207.trans (congrArg some (by kernel_rfl))
  f20 := ⟨Tryz.f218.name, by decide, Tryz.func218.trans (congrArg some (by kernel_rfl))⟩
  f21 := ⟨Tryz.f219.name, by decide, Tryz.func219.trans (congrArg some (by kernel_rfl))⟩
  f22 := ⟨Tryz.f220.name, by decide, Tryz.func220.trans (congrArg some (by kernel_rfl))⟩
  f23 := ⟨Tryz.f221.name, by decide, Tryz.func221.trans (congrArg some (by kernel_rfl))⟩
  f24 := ⟨Tryz.f222.name, by decide, Tryz.func222.trans (congrArg some (by kernel_rfl))⟩
  f25 := ⟨Tryz.f223.name, by decide, Tryz.func223.trans (congrArg some (by kernel_rfl))⟩
  f26 := ⟨Tryz.f224.name, by decide, Tryz.func224.trans (congrArg some (by kernel_rfl))⟩
  f27 := ⟨Tryz.f225.name, by decide, Tryz.func225.trans (congrArg some (by kernel_rfl))⟩
  f28 := Tryz.func226.trans (congrArg some (by kernel_rfl))
  f29 := Tryz.func227.trans (congrArg some (by kernel_rfl))
  f46 := ⟨Tryz.f232.name, by decide, Tryz.func232.trans (congrArg some (by kernel_rfl))⟩
  f47 := Tryz.func233.trans (congrArg some (by kernel_rfl))
  f48 := Tryz.func234.trans (congrArg some (by kernel_rfl))
  f49 := ⟨Tryz.f235.name, by decide, Tryz.func235.trans (congrArg some (by kernel_rfl))⟩
  f50 := ⟨Tryz.f236.name, by decide, Tryz.func236.trans (congrArg some (by kernel_rfl))⟩
  f57 := ⟨Tryz.f241.name, by decide, Tryz.func241.trans (congrArg some (by kernel_rfl))⟩
  t0 := Tryz.underlying0
  a0 := Tryz.isAgg0
  z0 := Tryz.sizeOf0
  v0 := Tryz.zeroValue0
  t3 := Tryz.underlying3
  a3 := Tryz.isAgg3
  z3 := Tryz.sizeOf3
  v3 := Tryz.zeroValue3
  t4 := Tryz.underlying4
  a4 := Tryz.isAgg4
  z4 := Tryz.sizeOf4
  v4 := Tryz.zeroValue4
  t5 := Tryz.underlying5
  a5 := Tryz.isAgg5
  z5 := Tryz.sizeOf5
  v5 := Tryz.zeroValue5
  t9 := Tryz.underlying9
  a9 := Tryz.isAgg9
  z9 := Tryz.sizeOf9
  v9 := Tryz.zeroValue9
  t22 := Tryz.underlying44
  a22 := Tryz.isAgg44
  z22 := Tryz.sizeOf44
  v22 := Tryz.zeroValue44
  t25 := Tryz.underlying232
  a25 := Tryz.isAgg232
  z25 := Tryz.sizeOf232
  v25 := Tryz.zeroValue232
  t39 := Tryz.underlying199
  a39 := Tryz.isAgg199
  z39 := Tryz.sizeOf199
  v39 := Tryz.zeroValue199
  t45 := Tryz.underlying263
  a45 := Tryz.isAgg263
  z45 := Tryz.sizeOf263
  v45 := Tryz.zeroValue263
  t46 := Tryz.underlying264
  a46 := Tryz.isAgg264
  z46 := Tryz.sizeOf264
  v46 := Tryz.zeroValue264
  t50 := Tryz.underlying162
  a50 := Tryz.isAgg162
  z50 := Tryz.sizeOf162
  v50 := Tryz.zeroValue162
  t53 := Tryz.underlying190
  a53 := Tryz.isAgg190
  z53 := Tryz.sizeOf190
  v53 := Tryz.zeroValue190
  t55 := Tryz.underlying43
  a55 := Tryz.isAgg43
  z55 := Tryz.sizeOf43
  v55 := Tryz.zeroValue43
  t66 := Tryz.underlying273
  a66 := Tryz.isAgg273
  z66 := Tryz.sizeOf273
  v66 := Tryz.zeroValue273
  t70 := Tryz.underlying276
  a70 := Tryz.isAgg276
  z70 := Tryz.sizeOf276
  v70 := Tryz.zeroValue276
  t76 := Tryz.underlying280
  a76 := Tryz.isAgg280
  z76 := Tryz.sizeOf280
  v76 := Tryz.zeroValue280
  t77 := Tryz.underlying256
  a77 := Tryz.isAgg256
  z77 := Tryz.sizeOf256
  v77 := Tryz.zeroValue256 }
end Go.Proofs
