/-
  DERIVED: THE SHELF's CONTRACTS AT THIS DUMP, IN PLAIN WORDS (tools/lay-plain.mjs out of 'YtelmnkmpkljboaaShelf.lean', which tools/lay-shelf.mjs wrote): THE SAME DECLARATIONS UNDER THE SAME NAMES: 'import', 'namespace', 'open', 'def', 'theorem' AND NOTHING ELSE: no command of the shelf's: FOR A HAND-IN. Each laying: the table of numbers ('.._ren') and one theorem, a field a fact of the dump's own or the kernel's comparison; each contract: ONE APPLICATION.
-/
import Derived.Shelf.SlSortCmp.WholeK
import Derived.Ground.SlsfProg
import Derived.Shelf.SlGeneric
import Derived.Test.YtelmnkmpkljboaaProg
namespace Go.Proofs
open Go.Shelf
def Try.sortLine_ren : Go.Shelf.Ren := ⟨fun | 6 => 61 | 15 => 70 | 14 => 69 | 28 => 88 | 29 => 89 | 20 => 80 | 21 => 81 | 22 => 82 | 23 => 83 | 24 => 84 | 25 => 85 | 26 => 86 | 27 => 87 | 46 => 103 | 47 => 104 | 48 => 105 | 49 => 106 | 50 => 107 | 57 => 111 | n => n, fun | 22 => 47 | 24 => 25 | 25 => 81 | 3 => 3 | 39 => 90 | 0 => 0 | 53 => 105 | 55 => 107 | 4 => 4 | 46 => 98 | 45 => 97 | 50 => 102 | 5 => 5 | 9 => 9 | 66 => 114 | 70 => 118 | 76 => 122 | 77 => 123 | n => n, fun | n => n⟩
theorem Try.sortLine : Go.Proofs.SlLaysF0.n6 Try.prog Try.sortLine_ren := {
  mixed := by kernel_rfl
  f6 := ⟨Try.f61.name, by decide, Try.func61.trans (congrArg some (by kernel_rfl))⟩
  f14 := ⟨Try.f69.name, by decide, Try.func69.trans (congrArg some (by kernel_rfl))⟩
  f15 := Try.func70.trans (congrArg some (by kernel_rfl))
  f20 := ⟨Try.f80.name, by decide, Try.func80.trans (congrArg some (by kernel_rfl))⟩
  f21 := ⟨Try.f81.name, by decide, Try.func81.trans (congrArg some (by kernel_rfl))⟩
  f22 := ⟨Try.f82.name, by decide, Try.func82.trans (congrArg some (by kernel_rfl))⟩
  f23 := ⟨Try.f83.name, by decide, Try.func83.trans (congrArg some (by kernel_rfl))⟩
  f24 := ⟨Try.f84.name, by decide, Try.func84.trans (congrArg some (by kernel_rfl))⟩
  f25 := ⟨Try.f85.name, by decide, Try.func85.trans (congrArg some (by kernel_rfl))⟩
  f26 := ⟨Try.f86.name, by decide, Try.func86.trans (congrArg some (by kernel_rfl))⟩
  f27 := ⟨Try.f87.name, by decide, Try.func87.trans (congrArg some (by kernel_rfl))⟩
  f28 := Try.func88.trans (congrArg some (by kernel_rfl))
  f29 := Try.func89.trans (congrArg some (by kernel_rfl))
  f46 := ⟨Try.f103.name, by decide, Try.func103.trans (congrArg some (by kernel_rfl))⟩
  f47 := Try.func104.trans (congrArg some (by kernel_rfl))
  f48 := Try.func105.trans (congrArg some (by kernel_rfl))
  f49 := ⟨Try.f106.name, by decide, Try.func106.trans (congrArg some (by kernel_rfl))⟩
  f50 := ⟨Try.f107.name, by decide, Try.func107.trans (congrArg some (by kernel_rfl))⟩
  f57 := ⟨Try.f111.name, by decide, Try.func111.trans (congrArg some (by kernel_rfl))⟩
  t0 := Try.underlying0
  a0 := Try.isAgg0
  z0 := Try.sizeOf0
  v0 := Try.zeroValue0
  t3 := Try.underlying3
  a3 := Try.isAgg3
  z3 := Try.sizeOf3
  v3 := Try.zeroValue3
  t4 := Try.underlying4
  a4 := Try.isAgg4
  z4 := Try.sizeOf4
  v4 := Try.zeroValue4
  t5 := Try.underlying5
  a5 := Try.isAgg5
  z5 := Try.sizeOf5
  v5 := Try.zeroValue5
  t9 := Try.underlying9
  a9 := Try.isAgg9
  z9 := Try.sizeOf9
  v9 := Try.zeroValue9
  t22 := Try.underlying47
  a22 := Try.isAgg47
  z22 := Try.sizeOf47
  v22 := Try.zeroValue47
  t25 := Try.underlying81
  a25 := Try.isAgg81
  z25 := Try.sizeOf81
  v25 := Try.zeroValue81
  t39 := Try.underlying90
  a39 := Try.isAgg90
  z39 := Try.sizeOf90
  v39 := Try.zeroValue90
  t45 := Try.underlying97
  a45 := Try.isAgg97
  z45 := Try.sizeOf97
  v45 := Try.zeroValue97
  t46 := Try.underlying98
  a46 := Try.isAgg98
  z46 := Try.sizeOf98
  v46 := Try.zeroValue98
  t50 := Try.underlying102
  a50 := Try.isAgg102
  z50 := Try.sizeOf102
  v50 := Try.zeroValue102
  t53 := Try.underlying105
  a53 := Try.isAgg105
  z53 := Try.sizeOf105
  v53 := Try.zeroValue105
  t55 := Try.underlying107
  a55 := Try.isAgg107
  z55 := Try.sizeOf107
  v55 := Try.zeroValue107
  t66 := Try.underlying114
  a66 := Try.isAgg114
  z66 := Try.sizeOf114
  v66 := Try.zeroValue114
  t70 := Try.underlying118
  a70 := Try.isAgg118
  z70 := Try.sizeOf118
  v70 := Try.zeroValue118
  t76 := Try.underlying122
  a76 := Try.isAgg122
  z76 := Try.sizeOf122
  v76 := Try.zeroValue122
  t77 := Try.underlying123
  a77 := Try.isAgg123
  z77 := Try.sizeOf123
  v77 := Try.zeroValue123 }
end Go.Proofs
