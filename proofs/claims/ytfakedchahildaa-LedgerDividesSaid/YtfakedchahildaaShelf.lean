/-
  DERIVED: THE SHELF's CONTRACTS AT THIS DUMP, IN PLAIN WORDS (tools/lay-plain.mjs out of 'YtfakedchahildaaShelf.lean', which tools/lay-shelf.mjs wrote): THE SAME DECLARATIONS UNDER THE SAME NAMES: 'import', 'namespace', 'open', 'def', 'theorem' AND NOTHING ELSE: no command of the shelf's: FOR A HAND-IN. Each laying: the table of numbers ('.._ren') and one theorem, a field a fact of the dump's own or the kernel's comparison; each contract: ONE APPLICATION.
-/
import Derived.Shelf.SlSortCmp.WholeK
import Derived.Ground.SlsfProg
import Derived.Shelf.SlicesE.Clone
import Derived.Ground.SlgnProg
import Derived.Shelf.SlGeneric
import Derived.Test.YtfakedchahildaaProg
namespace Go.Proofs
open Go.Shelf
def Try.sortBooked_ren : Go.Shelf.Ren := ⟨fun | 6 => 41 | 15 => 59 | 14 => 58 | 28 => 77 | 29 => 78 | 20 => 69 | 21 => 70 | 22 => 71 | 23 => 72 | 24 => 73 | 25 => 74 | 26 => 75 | 27 => 76 | 46 => 83 | 47 => 84 | 48 => 85 | 49 => 86 | 50 => 87 | 57 => 90 | n => n, fun | 22 => 32 | 24 => 42 | 25 => 76 | 3 => 3 | 39 => 92 | 0 => 0 | 53 => 106 | 55 => 108 | 4 => 4 | 46 => 99 | 45 => 98 | 50 => 103 | 5 => 5 | 9 => 9 | 66 => 110 | 70 => 114 | 76 => 116 | 77 => 117 | n => n, fun | n => n⟩
theorem Try.sortBooked : Go.Proofs.SlLaysF0.n6 Try.prog Try.sortBooked_ren := {
  mixed := by kernel_rfl
  f6 := ⟨Try.f41.name, by decide, Try.func41.trans (congrArg some (by kernel_rfl))⟩
  f14 := ⟨Try.f58.name, by decide, Try.func58.trans (congrArg some (by kernel_rfl))⟩
  f15 := Try.func59.trans (congrArg some (by kernel_rfl))
  f20 := ⟨Try.f69.name, by decide, Try.func69.trans (congrArg some (by kernel_rfl))⟩
  f21 := ⟨Try.f70.name, by decide, Try.func70.trans (congrArg some (by kernel_rfl))⟩
  f22 := ⟨Try.f71.name, by decide, Try.func71.trans (congrArg some (by kernel_rfl))⟩
  f23 := ⟨Try.f72.name, by decide, Try.func72.trans (congrArg some (by kernel_rfl))⟩
  f24 := ⟨Try.f73.name, by decide, Try.func73.trans (congrArg some (by kernel_rfl))⟩
  f25 := ⟨Try.f74.name, by decide, Try.func74.trans (congrArg some (by kernel_rfl))⟩
  f26 := ⟨Try.f75.name, by decide, Try.func75.trans (congrArg some (by kernel_rfl))⟩
  f27 := ⟨Try.f76.name, by decide, Try.func76.trans (congrArg some (by kernel_rfl))⟩
  f28 := Try.func77.trans (congrArg some (by kernel_rfl))
  f29 := Try.func78.trans (congrArg some (by kernel_rfl))
  f46 := ⟨Try.f83.name, by decide, Try.func83.trans (congrArg some (by kernel_rfl))⟩
  f47 := Try.func84.trans (congrArg some (by kernel_rfl))
  f48 := Try.func85.trans (congrArg some (by kernel_rfl))
  f49 := ⟨Try.f86.name, by decide, Try.func86.trans (congrArg some (by kernel_rfl))⟩
  f50 := ⟨Try.f87.name, by decide, Try.func87.trans (congrArg some (by kernel_rfl))⟩
  f57 := ⟨Try.f90.name, by decide, Try.func90.trans (congrArg some (by kernel_rfl))⟩
  t0 := Try.underlying0
  a0 := Try.isAgg0
  z0 := Try.sizeOf0
  v0 := Try.zeroValue0
  t3 := Try.underlying3
  a3 := Try.isAgg3
  z3 := Try.sizeOf3
  v3 := Try.zeroValue3
  t4 := Try.underlying4
  a4 := Try.isAgg4
  z4 := Try.sizeOf4
  v4 := Try.zeroValue4
  t5 := Try.underlying5
  a5 := Try.isAgg5
  z5 := Try.sizeOf5
  v5 := Try.zeroValue5
  t9 := Try.underlying9
  a9 := Try.isAgg9
  z9 := Try.sizeOf9
  v9 := Try.zeroValue9
  t22 := Try.underlying32
  a22 := Try.isAgg32
  z22 := Try.sizeOf32
  v22 := Try.zeroValue32
  t25 := Try.underlying76
  a25 := Try.isAgg76
  z25 := Try.sizeOf76
  v25 := Try.zeroValue76
  t39 := Try.underlying92
  a39 := Try.isAgg92
  z39 := Try.sizeOf92
  v39 := Try.zeroValue92
  t45 := Try.underlying98
  a45 := Try.isAgg98
  z45 := Try.sizeOf98
  v45 := Try.zeroValue98
  t46 := Try.underlying99
  a46 := Try.isAgg99
  z46 := Try.sizeOf99
  v46 := Try.zeroValue99
  t50 := Try.underlying103
  a50 := Try.isAgg103
  z50 := Try.sizeOf103
  v50 := Try.zeroValue103
  t53 := Try.underlying106
  a53 := Try.isAgg106
  z53 := Try.sizeOf106
  v53 := Try.zeroValue106
  t55 := Try.underlying108
  a55 := Try.isAgg108
  z55 := Try.sizeOf108
  v55 := Try.zeroValue108
  t66 := Try.underlying110
  a66 := Try.isAgg110
  z66 := Try.sizeOf110
  v66 := Try.zeroValue110
  t70 := Try.underlying114
  a70 := Try.isAgg114
  z70 := Try.sizeOf114
  v70 := Try.zeroValue114
  t76 := Try.underlying116
  a76 := Try.isAgg116
  z76 := Try.sizeOf116
  v76 := Try.zeroValue116
  t77 := Try.underlying117
  a77 := Try.isAgg117
  z77 := Try.sizeOf117
  v77 := Try.zeroValue117 }
def Try.cloneBooked_ren : Go.Shelf.Ren := ⟨fun | 41 => 45 | n => n, fun | 22 => 32 | 23 => 42 | 4 => 4 | n => n, fun | n => n⟩
end Go.Proofs
