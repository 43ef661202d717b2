/-
  DERIVED: THE SHELF's CONTRACTS AT THIS DUMP, IN PLAIN WORDS (tools/lay-plain.mjs out of 'YthplellpcpgddaaShelf.lean', which tools/lay-shelf.mjs wrote): THE SAME DECLARATIONS UNDER THE SAME NAMES: 'import', 'namespace', 'open', 'def', 'theorem' AND NOTHING ELSE: no command of the shelf's: FOR A HAND-IN. Each laying: the table of numbers ('.._ren') and one theorem, a field a fact of the dump's own or the kernel's comparison; each contract: ONE APPLICATION.
-/
import Derived.Shelf.SlGeneric
import Derived.Shelf.SlSortCmp.NoneTotal
import Derived.Test.YthplellpcpgddaaProg
namespace Go.Proofs
open Go.Shelf
def Try.sortL_ren : Go.Shelf.Ren := ⟨fun | 6 => 11 | 15 => 16 | 14 => 15 | 28 => 26 | 29 => 27 | 20 => 18 | 21 => 19 | 22 => 20 | 23 => 21 | 24 => 22 | 25 => 23 | 26 => 24 | 27 => 25 | 46 => 28 | 47 => 29 | 48 => 30 | 49 => 31 | 50 => 32 | 57 => 33 | n => n, fun | 22 => 29 | 24 => 3 | 25 => 39 | 3 => 3 | 39 => 42 | 0 => 0 | 53 => 53 | 55 => 55 | 4 => 4 | 46 => 46 | 45 => 45 | 50 => 50 | 5 => 5 | 9 => 9 | 66 => 56 | 70 => 60 | 76 => 62 | 77 => 63 | n => n, fun | n => n⟩
theorem Try.sortL : Go.Proofs.SlLaysF.n6 Try.prog Try.sortL_ren := {
  mixed := by kernel_rfl
  f6 := ⟨Try.f11.name, by decide, Try.func11.trans (congrArg some (by kernel_rfl))⟩
  f14 := ⟨Try.f15.name, by decide, Try.func15.trans (congrArg some (by kernel_rfl))⟩
  f15 := Try.func16.trans (congrArg some (by kernel_rfl))
  f20 := ⟨Try.f18.name, by decide, Try.func18.trans (congrArg some (by kernel_rfl))⟩
  f21 := ⟨Try.f19.name, by decide, Try.func19.trans (congrArg some (by kernel_rfl))⟩
  f22 := ⟨Try.f20.name, by decide, Try.func20.trans (congrArg some (by kernel_rfl))⟩
  f23 := ⟨Try.f21.name, by decide, Try.func21.trans (congrArg some (by kernel_rfl))⟩
  f24 := ⟨Try.f22.name, by decide, Try.func22.trans (congrArg some (by kernel_rfl))⟩
  f25 := ⟨Try.f23.name, by decide, Try.func23.trans (congrArg some (by kernel_rfl))⟩
  f26 := ⟨Try.f24.name, by decide, Try.func24.trans (congrArg some (by kernel_rfl))⟩
  f27 := ⟨Try.f25.name, by decide, Try.func25.trans (congrArg some (by kernel_rfl))⟩
  f28 := Try.func26.trans (congrArg some (by kernel_rfl))
  f29 := Try.func27.trans (congrArg some (by kernel_rfl))
  f46 := ⟨Try.f28.name, by decide, Try.func28.trans (congrArg some (by kernel_rfl))⟩
  f47 := Try.func29.trans (congrArg some (by kernel_rfl))
  f48 := Try.func30.trans (congrArg some (by kernel_rfl))
  f49 := ⟨Try.f31.name, by decide, Try.func31.trans (congrArg some (by kernel_rfl))⟩
  f50 := ⟨Try.f32.name, by decide, Try.func32.trans (congrArg some (by kernel_rfl))⟩
  f57 := ⟨Try.f33.name, by decide, Try.func33.trans (congrArg some (by kernel_rfl))⟩
  t0 := Try.underlying0
  a0 := Try.isAgg0
  z0 := Try.sizeOf0
  v0 := Try.zeroValue0
  t3 := Try.underlying3
  a3 := Try.isAgg3
  z3 := Try.sizeOf3
  v3 := Try.zeroValue3
  t4 := Try.underlying4
  a4 := Try.isAgg4
  z4 := Try.sizeOf4
  v4 := Try.zeroValue4
  t5 := Try.underlying5
  a5 := Try.isAgg5
  z5 := Try.sizeOf5
  v5 := Try.zeroValue5
  t9 := Try.underlying9
  a9 := Try.isAgg9
  z9 := Try.sizeOf9
  v9 := Try.zeroValue9
  t22 := Try.underlying29
  a22 := Try.isAgg29
  z22 := Try.sizeOf29
  v22 := Try.zeroValue29
  a24 := Try.isAgg3
  z24 := Try.sizeOf3
  t25 := Try.underlying39
  a25 := Try.isAgg39
  z25 := Try.sizeOf39
  v25 := Try.zeroValue39
  t39 := Try.underlying42
  a39 := Try.isAgg42
  z39 := Try.sizeOf42
  v39 := Try.zeroValue42
  t45 := Try.underlying45
  a45 := Try.isAgg45
  z45 := Try.sizeOf45
  v45 := Try.zeroValue45
  t46 := Try.underlying46
  a46 := Try.isAgg46
  z46 := Try.sizeOf46
  v46 := Try.zeroValue46
  t50 := Try.underlying50
  a50 := Try.isAgg50
  z50 := Try.sizeOf50
  v50 := Try.zeroValue50
  t53 := Try.underlying53
  a53 := Try.isAgg53
  z53 := Try.sizeOf53
  v53 := Try.zeroValue53
  t55 := Try.underlying55
  a55 := Try.isAgg55
  z55 := Try.sizeOf55
  v55 := Try.zeroValue55
  t66 := Try.underlying56
  a66 := Try.isAgg56
  z66 := Try.sizeOf56
  v66 := Try.zeroValue56
  t70 := Try.underlying60
  a70 := Try.isAgg60
  z70 := Try.sizeOf60
  v70 := Try.zeroValue60
  t76 := Try.underlying62
  a76 := Try.isAgg62
  z76 := Try.sizeOf62
  v76 := Try.zeroValue62
  t77 := Try.underlying63
  a77 := Try.isAgg63
  z77 := Try.sizeOf63
  v77 := Try.zeroValue63 }
end Go.Proofs
