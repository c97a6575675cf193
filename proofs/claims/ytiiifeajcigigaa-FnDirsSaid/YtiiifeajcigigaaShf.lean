/-
  DERIVED: THE SHELF's CONTRACTS AT THIS DUMP, IN PLAIN WORDS (tools/lay-plain.mjs out of 'TryShelf.lean', which tools/lay-shelf.mjs wrote): THE SAME DECLARATIONS UNDER THE SAME NAMES: 'import', 'namespace', 'open', 'def', 'theorem' AND NOTHING ELSE: no command of the shelf's: FOR A HAND-IN. Each laying: the table of numbers ('.._ren') and one theorem, a field a fact of the dump's own or the kernel's comparison; each contract: ONE APPLICATION.
-/
import Derived.Shelf.Sort.Plain
import Derived.Shelf.Slices.In.SortNone
import Derived.Shelf.Slices.In.SortNone2
import Derived.Test.YtiiifeajcigigaaProg
namespace Go.Proofs
open Go.Shelf
def Try.lays192_ren : Go.Shelf.Ren := ⟨fun | 192 => 63 | 190 => 75 | 125 => 81 | 258 => 80 | 128 => 93 | 129 => 94 | 302 => 84 | 303 => 85 | 304 => 86 | 305 => 87 | 306 => 88 | 307 => 89 | 308 => 90 | 309 => 91 | 310 => 92 | 333 => 95 | 329 => 96 | 330 => 97 | 334 => 98 | 335 => 99 | 336 => 100 | 344 => 101 | n => n, fun | 31 => 51 | 0 => 0 | 9 => 9 | 3 => 3 | 46 => 102 | 51 => 116 | 53 => 118 | 4 => 4 | 183 => 108 | 182 => 107 | 131 => 113 | 5 => 5 | 218 => 119 | 222 => 123 | 228 => 125 | 229 => 126 | n => n, fun | n => n⟩
theorem Try.lays192 : Go.Proofs.Lays.n192 Try.prog Try.lays192_ren := {
  mixed := by kernel_rfl
  f125 := Try.func81.trans (congrArg some (by kernel_rfl))
  f128 := Try.func93.trans (congrArg some (by kernel_rfl))
  f129 := Try.func94.trans (congrArg some (by kernel_rfl))
  f190 := Try.func75.trans (congrArg some (by kernel_rfl))
  f192 := Try.func63.trans (congrArg some (by kernel_rfl))
  f258 := Try.func80.trans (congrArg some (by kernel_rfl))
  f302 := Try.func84.trans (congrArg some (by kernel_rfl))
  f303 := Try.func85.trans (congrArg some (by kernel_rfl))
  f304 := Try.func86.trans (congrArg some (by kernel_rfl))
  f305 := Try.func87.trans (congrArg some (by kernel_rfl))
  f306 := Try.func88.trans (congrArg some (by kernel_rfl))
  f307 := Try.func89.trans (congrArg some (by kernel_rfl))
  f308 := Try.func90.trans (congrArg some (by kernel_rfl))
  f309 := Try.func91.trans (congrArg some (by kernel_rfl))
  f310 := Try.func92.trans (congrArg some (by kernel_rfl))
  f329 := Try.func96.trans (congrArg some (by kernel_rfl))
  f330 := Try.func97.trans (congrArg some (by kernel_rfl))
  f333 := Try.func95.trans (congrArg some (by kernel_rfl))
  f334 := Try.func98.trans (congrArg some (by kernel_rfl))
  f335 := Try.func99.trans (congrArg some (by kernel_rfl))
  f336 := Try.func100.trans (congrArg some (by kernel_rfl))
  f344 := Try.func101.trans (congrArg some (by kernel_rfl))
  t0 := Try.underlying0
  a0 := Try.isAgg0
  z0 := Try.sizeOf0
  v0 := Try.zeroValue0
  t3 := Try.underlying3
  a3 := Try.isAgg3
  z3 := Try.sizeOf3
  v3 := Try.zeroValue3
  t4 := Try.underlying4
  a4 := Try.isAgg4
  z4 := Try.sizeOf4
  v4 := Try.zeroValue4
  t5 := Try.underlying5
  a5 := Try.isAgg5
  z5 := Try.sizeOf5
  v5 := Try.zeroValue5
  t9 := Try.underlying9
  a9 := Try.isAgg9
  z9 := Try.sizeOf9
  v9 := Try.zeroValue9
  t31 := Try.underlying51
  a31 := Try.isAgg51
  z31 := Try.sizeOf51
  v31 := Try.zeroValue51
  t46 := Try.underlying102
  a46 := Try.isAgg102
  z46 := Try.sizeOf102
  v46 := Try.zeroValue102
  t51 := Try.underlying116
  a51 := Try.isAgg116
  z51 := Try.sizeOf116
  v51 := Try.zeroValue116
  t53 := Try.underlying118
  a53 := Try.isAgg118
  z53 := Try.sizeOf118
  v53 := Try.zeroValue118
  t131 := Try.underlying113
  a131 := Try.isAgg113
  z131 := Try.sizeOf113
  v131 := Try.zeroValue113
  t182 := Try.underlying107
  a182 := Try.isAgg107
  z182 := Try.sizeOf107
  v182 := Try.zeroValue107
  t183 := Try.underlying108
  a183 := Try.isAgg108
  z183 := Try.sizeOf108
  v183 := Try.zeroValue108
  t218 := Try.underlying119
  a218 := Try.isAgg119
  z218 := Try.sizeOf119
  v218 := Try.zeroValue119
  t222 := Try.underlying123
  a222 := Try.isAgg123
  z222 := Try.sizeOf123
  v222 := Try.zeroValue123
  t228 := Try.underlying125
  a228 := Try.isAgg125
  z228 := Try.sizeOf125
  v228 := Try.zeroValue125
  t229 := Try.underlying126
  a229 := Try.isAgg126
  z229 := Try.sizeOf126
  v229 := Try.zeroValue126 }
open Go.Sort Go.RowKit in
theorem Try.sort_Strings (blk off cap : Nat) (ss : List (List UInt8)) (w : World) (hH : Holds encStr w blk off ss.toArray) (hblk : blk < w.heap.size) (hsz : ss.length < 4611686018427387904) :
    Calls Try.prog 63 #[.slice (some ⟨blk, off, none⟩) ss.length cap] w fun e w' =>
      e = .returned (.tuple #[]) ∧ ∃ n os, w' = grow (putRow encStr (Sort.ahead w n) blk off (ss.mergeSort fun x y => decide (x ≤ y)).toArray) os := Any.sort_Strings Try.lays192 blk off cap ss w hH hblk hsz
open Go.RowKit Go.Sort in
/-- .. and plain. (LAID: no walk: one application.) -/
theorem Try.sort_Strings_none (p : Option Addr) (cap : Nat) (w : World) :
    Calls Try.prog 63 #[.slice p 0 cap] w fun e w' => e = .returned (.tuple #[]) ∧ w' = w := Any.sort_Strings_none Try.lays192 p cap w
end Go.Proofs
