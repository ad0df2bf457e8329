/-
  DERIVED: THE SHELF's CONTRACTS AT THIS DUMP, IN PLAIN WORDS (tools/lay-plain.mjs out of 'TryLayShelf.lean', which tools/lay-shelf.mjs wrote): THE SAME DECLARATIONS UNDER THE SAME NAMES: 'import', 'namespace', 'open', 'def', 'theorem' AND NOTHING ELSE: no command of the shelf's: FOR A HAND-IN. Each laying: the table of numbers ('.._ren') and one theorem, a field a fact of the dump's own or the kernel's comparison; each contract: ONE APPLICATION.
-/
import Derived.Shelf.SlGeneric
import Derived.Shelf.SlSortCmp.NoneTotal
import Derived.Ground.SlsfProg
import Derived.Test.YtionghonhnedgaaGreatProg
namespace Go.Proofs
open Go.Shelf
def Tryz.sortShown_ren : Go.Shelf.Ren := ⟨fun | 6 => 98 | 15 => 89 | 14 => 126 | 28 => 118 | 29 => 119 | 20 => 137 | 21 => 138 | 22 => 139 | 23 => 140 | 24 => 141 | 25 => 142 | 26 => 143 | 27 => 144 | 46 => 148 | 47 => 132 | 48 => 133 | 49 => 149 | 50 => 150 | 57 => 152 | n => n, fun | 22 => 23 | 24 => 50 | 25 => 89 | 3 => 3 | 39 => 73 | 0 => 0 | 53 => 151 | 55 => 77 | 4 => 4 | 46 => 144 | 45 => 143 | 50 => 109 | 5 => 5 | 9 => 9 | 66 => 159 | 70 => 162 | 76 => 171 | 77 => 172 | n => n, fun | n => n⟩
theorem Tryz.sortShown : Go.Proofs.SlLaysF0.n6 Tryz.prog Tryz.sortShown_ren := {
  mixed := by kernel_rfl
  f6 := ⟨Tryz.f98.name, by decide, Tryz.func98.trans (congrArg some (by kernel_rfl))⟩
  f14 := ⟨Tryz.f126.name, by decide, Tryz.func126.trans (congrArg some (by kernel_rfl))⟩
  f15 := Tryz.func89.trans (congrArg some (by kernel_rfl))
  f20 := ⟨Tryz.f137.name, by decide, Tryz.func137.trans (congrArg some (by kernel_rfl))⟩
  f21 := ⟨Tryz.f138.name, by decide, Tryz.func138.trans (congrArg some (by kernel_rfl))⟩
  f22 := ⟨Tryz.f139.name, by decide, Tryz.func139.trans (congrArg some (by kernel_rfl))⟩
  f23 := ⟨Tryz.f140.name, by decide, Tryz.func140.trans (congrArg some (by kernel_rfl))⟩
  f24 := ⟨Tryz.f141.name, by decide, Tryz.func141.trans (congrArg some (by kernel_rfl))⟩
  f25 := ⟨Tryz.f142.name, by decide, Tryz.func142.trans (congrArg some (by kernel_rfl))⟩
  f26 := ⟨Tryz.f143.name, by decide, Tryz.func143.trans (congrArg some (by kernel_rfl))⟩
  f27 := ⟨Tryz.f144.name, by decide, Tryz.func144.trans (congrArg some (by kernel_rfl))⟩
  f28 := Tryz.func118.trans (congrArg some (by kernel_rfl))
  f29 := Tryz.func119.trans (congrArg some (by kernel_rfl))
  f46 := ⟨Tryz.f148.name, by decide, Tryz.func148.trans (congrArg some (by kernel_rfl))⟩
  f47 := Tryz.func132.trans (congrArg some (by kernel_rfl))
  f48 := Tryz.func133.trans (congrArg some (by kernel_rfl))
  f49 := ⟨Tryz.f149.name, by decide, Tryz.func149.trans (congrArg some (by kernel_rfl))⟩
  f50 := ⟨Tryz.f150.name, by decide, Tryz.func150.trans (congrArg some (by kernel_rfl))⟩
  f57 := ⟨Tryz.f152.name, by decide, Tryz.func152.trans (congrArg some (by kernel_rfl))⟩
  t0 := Tryz.underlying0
  a0 := Tryz.isAgg0
  z0 := Tryz.sizeOf0
  v0 := Tryz.zeroValue0
  t3 := Tryz.underlying3
  a3 := Tryz.isAgg3
  z3 := Tryz.sizeOf3
  v3 := Tryz.zeroValue3
  t4 := Tryz.underlying4
  a4 := Tryz.isAgg4
  z4 := Tryz.sizeOf4
  v4 := Tryz.zeroValue4
  t5 := Tryz.underlying5
  a5 := Tryz.isAgg5
  z5 := Tryz.sizeOf5
  v5 := Tryz.zeroValue5
  t9 := Tryz.underlying9
  a9 := Tryz.isAgg9
  z9 := Tryz.sizeOf9
  v9 := Tryz.zeroValue9
  t22 := Tryz.underlying23
  a22 := Tryz.isAgg23
  z22 := Tryz.sizeOf23
  v22 := Tryz.zeroValue23
  t25 := Tryz.underlying89
  a25 := Tryz.isAgg89
  z25 := Tryz.sizeOf89
  v25 := Tryz.zeroValue89
  t39 := Tryz.underlying73
  a39 := Tryz.isAgg73
  z39 := Tryz.sizeOf73
  v39 := Tryz.zeroValue73
  t45 := Tryz.underlying143
  a45 := Tryz.isAgg143
  z45 := Tryz.sizeOf143
  v45 := Tryz.zeroValue143
  t46 := Tryz.underlying144
  a46 := Tryz.isAgg144
  z46 := Tryz.sizeOf144
  v46 := Tryz.zeroValue144
  t50 := Tryz.underlying109
  a50 := Tryz.isAgg109
  z50 := Tryz.sizeOf109
  v50 := Tryz.zeroValue109
  t53 := Tryz.underlying151
  a53 := Tryz.isAgg151
  z53 := Tryz.sizeOf151
  v53 := Tryz.zeroValue151
  t55 := Tryz.underlying77
  a55 := Tryz.isAgg77
  z55 := Tryz.sizeOf77
  v55 := Tryz.zeroValue77
  t66 := Tryz.underlying159
  a66 := Tryz.isAgg159
  z66 := Tryz.sizeOf159
  v66 := Tryz.zeroValue159
  t70 := Tryz.underlying162
  a70 := Tryz.isAgg162
  z70 := Tryz.sizeOf162
  v70 := Tryz.zeroValue162
  t76 := Tryz.underlying171
  a76 := Tryz.isAgg171
  z76 := Tryz.sizeOf171
  v76 := Tryz.zeroValue171
  t77 := Tryz.underlying172
  a77 := Tryz.isAgg172
  z77 := Tryz.sizeOf172
  v77 := Tryz.zeroValue172 }
end Go.Proofs
