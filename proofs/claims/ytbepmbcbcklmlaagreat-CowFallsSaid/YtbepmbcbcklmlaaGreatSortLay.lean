/- The library's sort of keys, laid at this dump. -/
import Derived.Shelf.SlSortCmp.NoneTotal
import Derived.Shelf.SlGeneric
import Derived.Ground.SlsfProg
import Derived.Test.YtbepmbcbcklmlaaGreatProg
namespace Go.Proofs
open Go.Shelf
def Tryz.sortK_ren : Go.Shelf.Ren := ⟨fun | 6 => 84 | 15 => 95 | 14 => 94 | 28 => 107 | 29 => 108 | 20 => 99 | 21 => 100 | 22 => 101 | 23 => 102 | 24 => 103 | 25 => 104 | 26 => 105 | 27 => 106 | 46 => 110 | 47 => 111 | 48 => 112 | 49 => 113 | 50 => 114 | 57 => 116 | n => n, fun | 22 => 102 | 24 => 81 | 25 => 129 | 3 => 3 | 39 => 51 | 0 => 0 | 53 => 158 | 55 => 160 | 4 => 4 | 46 => 152 | 45 => 151 | 50 => 141 | 5 => 5 | 9 => 9 | 66 => 161 | 70 => 165 | 76 => 168 | 77 => 169 | n => n, fun | n => n⟩
theorem Tryz.sortK : Go.Proofs.SlLaysF0.n6 Tryz.prog Tryz.sortK_ren := {
  mixed := by kernel_rfl
  f6 := ⟨Tryz.f84.name, by decide, Tryz.func84.trans (congrArg some (by kernel_rfl))⟩
  f14 := ⟨Tryz.f94.name, by decide, Tryz.func94.trans (congrArg some (by kernel_rfl))⟩
  f15 := Tryz.func95.trans (congrArg some (by kernel_rfl))
  f20 := ⟨Tryz.f99.name, by decide, Tryz.func99.trans (congrArg some (by kernel_rfl))⟩
  f21 := ⟨Tryz.f100.name, by decide, Tryz.func100.trans (congrArg some (by kernel_rfl))⟩
  f22 := ⟨Tryz.f101.name, by decide, Tryz.func101.trans (congrArg some (by kernel_rfl))⟩
  f23 := ⟨Tryz.f102.name, by decide, Tryz.func102.trans (congrArg some (by kernel_rfl))⟩
  f24 := ⟨Tryz.f103.name, by decide, Tryz.func103.trans (congrArg some (by kernel_rfl))⟩
  f25 := ⟨Tryz.f104.name, by decide, Tryz.func104.trans (congrArg some (by kernel_rfl))⟩
  f26 := ⟨Tryz.f105.name, by decide, Tryz.func105.trans (congrArg some (by kernel_rfl))⟩
  f27 := ⟨Tryz.f106.name, by decide, Tryz.func106.trans (congrArg some (by kernel_rfl))⟩
  f28 := Tryz.func107.trans (congrArg some (by kernel_rfl))
  f29 := Tryz.func108.trans (congrArg some (by kernel_rfl))
  f46 := ⟨Tryz.f110.name, by decide, Tryz.func110.trans (congrArg some (by kernel_rfl))⟩
  f47 := Tryz.func111.trans (congrArg some (by kernel_rfl))
  f48 := Tryz.func112.trans (congrArg some (by kernel_rfl))
  f49 := ⟨Tryz.f113.name, by decide, Tryz.func113.trans (congrArg some (by kernel_rfl))⟩
  f50 := ⟨Tryz.f114.name, by decide, Tryz.func114.trans (congrArg some (by kernel_rfl))⟩
  f57 := ⟨Tryz.f116.name, by decide, Tryz.func116.trans (congrArg some (by kernel_rfl))⟩
  t0 := Tryz.underlying0
  a0 := Tryz.isAgg0
  z0 := Tryz.sizeOf0
  v0 := Tryz.zeroValue0
  t3 := Tryz.underlying3
  a3 := Tryz.isAgg3
  z3 := Tryz.sizeOf3
  v3 := Tryz.zeroValue3
  t4 := Tryz.underlying4
  a4 := Tryz.isAgg4
  z4 := Tryz.sizeOf4
  v4 := Tryz.zeroValue4
  t5 := Tryz.underlying5
  a5 := Tryz.isAgg5
  z5 := Tryz.sizeOf5
  v5 := Tryz.zeroValue5
  t9 := Tryz.underlying9
  a9 := Tryz.isAgg9
  z9 := Tryz.sizeOf9
  v9 := Tryz.zeroValue9
  t22 := Tryz.underlying102
  a22 := Tryz.isAgg102
  z22 := Tryz.sizeOf102
  v22 := Tryz.zeroValue102
  t25 := Tryz.underlying129
  a25 := Tryz.isAgg129
  z25 := Tryz.sizeOf129
  v25 := Tryz.zeroValue129
  t39 := Tryz.underlying51
  a39 := Tryz.isAgg51
  z39 := Tryz.sizeOf51
  v39 := Tryz.zeroValue51
  t45 := Tryz.underlying151
  a45 := Tryz.isAgg151
  z45 := Tryz.sizeOf151
  v45 := Tryz.zeroValue151
  t46 := Tryz.underlying152
  a46 := Tryz.isAgg152
  z46 := Tryz.sizeOf152
  v46 := Tryz.zeroValue152
  t50 := Tryz.underlying141
  a50 := Tryz.isAgg141
  z50 := Tryz.sizeOf141
  v50 := Tryz.zeroValue141
  t53 := Tryz.underlying158
  a53 := Tryz.isAgg158
  z53 := Tryz.sizeOf158
  v53 := Tryz.zeroValue158
  t55 := Tryz.underlying160
  a55 := Tryz.isAgg160
  z55 := Tryz.sizeOf160
  v55 := Tryz.zeroValue160
  t66 := Tryz.underlying161
  a66 := Tryz.isAgg161
  z66 := Tryz.sizeOf161
  v66 := Tryz.zeroValue161
  t70 := Tryz.underlying165
  a70 := Tryz.isAgg165
  z70 := Tryz.sizeOf165
  v70 := Tryz.zeroValue165
  t76 := Tryz.underlying168
  a76 := Tryz.isAgg168
  z76 := Tryz.sizeOf168
  v76 := Tryz.zeroValue168
  t77 := Tryz.underlying169
  a77 := Tryz.isAgg169
  z77 := Tryz.sizeOf169
  v77 := Tryz.zeroValue169 }
end Go.Proofs
