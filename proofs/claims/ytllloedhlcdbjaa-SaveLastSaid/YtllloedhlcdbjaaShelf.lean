/-
  DERIVED: THE SHELF's CONTRACTS AT THIS DUMP, IN PLAIN WORDS (tools/lay-plain.mjs out of 'TryShelf.lean', which tools/lay-shelf.mjs wrote): THE SAME DECLARATIONS UNDER THE SAME NAMES: 'import', 'namespace', 'open', 'def', 'theorem' AND NOTHING ELSE: no command of the shelf's: FOR A HAND-IN. Each laying: the table of numbers ('.._ren') and one theorem, a field a fact of the dump's own or the kernel's comparison; each contract: ONE APPLICATION.
-/
import Derived.Shelf.SlIterI.Nil
import Derived.Ground.GgzProg
import Derived.Shelf.Strconv.Itoa0
import Derived.Shelf.Slices.Turned
import Derived.Ground.SlgmProg
import Derived.Shelf.SortM.Plain
import Derived.Shelf.SortM.SortNone
import Derived.Test.YtllloedhlcdbjaaProg
namespace Go.Proofs
open Go.Shelf
def Try.lays129_ren : Go.Shelf.Ren := ⟨fun | 129 => 58 | n => n, fun | 53 => 94 | 3 => 3 | 4 => 4 | 46 => 82 | 5 => 5 | 9 => 9 | n => n, fun | n => n⟩
theorem Try.lays129 : Go.Proofs.Lays.n129 Try.prog Try.lays129_ren := {
  mixed := by kernel_rfl
  f129 := Try.func58.trans (congrArg some (by kernel_rfl))
  t3 := Try.underlying3
  a3 := Try.isAgg3
  z3 := Try.sizeOf3
  v3 := Try.zeroValue3
  t4 := Try.underlying4
  a4 := Try.isAgg4
  z4 := Try.sizeOf4
  v4 := Try.zeroValue4
  t5 := Try.underlying5
  a5 := Try.isAgg5
  z5 := Try.sizeOf5
  v5 := Try.zeroValue5
  t9 := Try.underlying9
  a9 := Try.isAgg9
  z9 := Try.sizeOf9
  v9 := Try.zeroValue9
  t46 := Try.underlying82
  a46 := Try.isAgg82
  z46 := Try.sizeOf82
  v46 := Try.zeroValue82
  t53 := Try.underlying94
  a53 := Try.isAgg94
  z53 := Try.sizeOf94
  v53 := Try.zeroValue94 }
/-- bits.Len64: "Len64 returns the minimum number of bits required to represent x; the result is 0 for x == 0.": IT RETURNS 'Lib.bitLen x'; the world is as it was. ('h0', 'h1': x is a uint64.) (LAID: no walk: one application.) -/
theorem Try.bits_Len64 (x : Int) (w : World) (h0 : 0 ≤ x) (h1 : x ≤ 18446744073709551615) :
    Calls Try.prog 58 #[.int .u64 x] w fun e w' => e = .returned (.int .i64 (Lib.bitLen x.toNat)) ∧ w' = w := Any.bits_Len64 Try.lays129 x w h0 h1
def Try.lays108_ren : Go.Shelf.Ren := ⟨fun | 108 => 40 | n => n, fun | 28 => 28 | 3 => 3 | 0 => 0 | 4 => 4 | n => n, fun | n => n⟩
theorem Try.lays108 : Go.Proofs.Lays.n108 Try.prog Try.lays108_ren := {
  mixed := by kernel_rfl
  f108 := Try.func40.trans (congrArg some (by kernel_rfl))
  t0 := Try.underlying0
  a0 := Try.isAgg0
  z0 := Try.sizeOf0
  v0 := Try.zeroValue0
  t3 := Try.underlying3
  a3 := Try.isAgg3
  z3 := Try.sizeOf3
  v3 := Try.zeroValue3
  t4 := Try.underlying4
  a4 := Try.isAgg4
  z4 := Try.sizeOf4
  v4 := Try.zeroValue4
  t28 := Try.underlying28
  a28 := Try.isAgg28
  z28 := Try.sizeOf28
  v28 := Try.zeroValue28 }
open Go.Lib in
/-- slices.Index at []int: "Index returns the index of the first occurrence of v in s, or -1 if not present.": IT RETURNS 'Lib.idxOf (the elements) v'; the world is as it was. 'zs': what the cells behind the slice's address hold (its spare capacity too, if you have it); 'zs.take n': its elements. (LAID: no walk: one application.) -/
theorem Try.slices_Index_int (b off n c : Nat) (zs : List Int) (x : Int) (w : World) (hz : n ≤ zs.length) (hbig : n ≤ 9223372036854775807) (hc : ∀ j, j < zs.length → w.cell? ⟨b, off + j, none⟩ = some (.int .i64 (zs.getD j 0))) :
    Calls Try.prog 40 #[.slice (some ⟨b, off, none⟩) n c, .int .i64 x] w fun e w' => e = .returned (.int .i64 (Lib.idxOf (zs.take n) x)) ∧ w' = w := Any.slices_Index_int Try.lays108 b off n c zs x w hz hbig hc
open Go.Lib in
/-- The same at a slice of length 0, a nil one too: no cell is known, none is asked for. (LAID: no walk: one application.) -/
theorem Try.slices_Index_int_empty (a : Option Addr) (c : Nat) (x : Int) (w : World) :
    Calls Try.prog 40 #[.slice a 0 c, .int .i64 x] w fun e w' => e = .returned (.int .i64 (Lib.idxOf [] x)) ∧ w' = w := Any.slices_Index_int_empty Try.lays108 a c x w
def Try.lays107_ren : Go.Shelf.Ren := ⟨fun | 107 => 30 | 108 => 40 | n => n, fun | 28 => 28 | 3 => 3 | 4 => 4 | 0 => 0 | n => n, fun | n => n⟩
theorem Try.lays107 : Go.Proofs.Lays.n107 Try.prog Try.lays107_ren := {
  mixed := by kernel_rfl
  f107 := Try.func30.trans (congrArg some (by kernel_rfl))
  f108 := Try.func40.trans (congrArg some (by kernel_rfl))
  t0 := Try.underlying0
  a0 := Try.isAgg0
  z0 := Try.sizeOf0
  v0 := Try.zeroValue0
  t3 := Try.underlying3
  a3 := Try.isAgg3
  z3 := Try.sizeOf3
  v3 := Try.zeroValue3
  t4 := Try.underlying4
  a4 := Try.isAgg4
  z4 := Try.sizeOf4
  v4 := Try.zeroValue4
  t28 := Try.underlying28
  a28 := Try.isAgg28
  z28 := Try.sizeOf28
  v28 := Try.zeroValue28 }
open Go.Lib in
/-- slices.Contains at []int: "Contains reports whether v is present in s.": IT RETURNS 'elements.contains v'; the world is as it was. ITS CALLEE slices.Index IS MET BY ITS OWN CONTRACT OFF THE SHELF (lay that first): no loop is walked here. (LAID: no walk: one application.) -/
theorem Try.slices_Contains_int (b off n c : Nat) (zs : List Int) (x : Int) (w : World) (hz : n ≤ zs.length) (hbig : n ≤ 9223372036854775807) (hc : ∀ j, j < zs.length → w.cell? ⟨b, off + j, none⟩ = some (.int .i64 (zs.getD j 0))) :
    Calls Try.prog 30 #[.slice (some ⟨b, off, none⟩) n c, .int .i64 x] w fun e w' => e = .returned (.bool ((zs.take n).contains x)) ∧ w' = w := Any.slices_Contains_int Try.lays107 b off n c zs x w hz hbig hc
open Go.Lib in
/-- The same at a slice of length 0, a nil one too. (LAID: no walk: one application.) -/
theorem Try.slices_Contains_int_empty (a : Option Addr) (c : Nat) (x : Int) (w : World) :
    Calls Try.prog 30 #[.slice a 0 c, .int .i64 x] w fun e w' => e = .returned (.bool false) ∧ w' = w := Any.slices_Contains_int_empty Try.lays107 a c x w
def Try.laysSlM5_f38_ren : Go.Shelf.Ren := ⟨fun | 5 => 38 | 8 => 47 | 7 => 46 | 19 => 57 | 20 => 58 | 10 => 48 | 11 => 49 | 12 => 50 | 13 => 51 | 14 => 52 | 15 => 53 | 16 => 54 | 17 => 55 | 18 => 56 | 30 => 59 | 31 => 60 | 32 => 61 | 33 => 62 | 34 => 63 | 35 => 64 | 40 => 65 | n => n, fun | 23 => 28 | 25 => 3 | 3 => 3 | 32 => 82 | 22 => 28 | 0 => 0 | 44 => 92 | 46 => 94 | 4 => 4 | 36 => 85 | 35 => 84 | 41 => 89 | 5 => 5 | 9 => 9 | 53 => 95 | 57 => 55 | 63 => 100 | 64 => 101 | n => n, fun | n => n⟩
theorem Try.laysSlM5_f38 : Go.Proofs.SlLaysM.n5 Try.prog Try.laysSlM5_f38_ren := {
  mixed := by kernel_rfl
  f5 := ⟨Try.f38.name, by decide, Try.func38.trans (congrArg some (by kernel_rfl))⟩
  f7 := ⟨Try.f46.name, by decide, Try.func46.trans (congrArg some (by kernel_rfl))⟩
  f8 := Try.func47.trans (congrArg some (by kernel_rfl))
  f10 := ⟨Try.f48.name, by decide, Try.func48.trans (congrArg some (by kernel_rfl))⟩
  f11 := ⟨Try.f49.name, by decide, Try.func49.trans (congrArg some (by kernel_rfl))⟩
  f12 := ⟨Try.f50.name, by decide, Try.func50.trans (congrArg some (by kernel_rfl))⟩
  f13 := ⟨Try.f51.name, by decide, Try.func51.trans (congrArg some (by kernel_rfl))⟩
  f14 := ⟨Try.f52.name, by decide, Try.func52.trans (congrArg some (by kernel_rfl))⟩
  f15 := ⟨Try.f53.name, by decide, Try.func53.trans (congrArg some (by kernel_rfl))⟩
  f16 := ⟨Try.f54.name, by decide, Try.func54.trans (congrArg some (by kernel_rfl))⟩
  f17 := ⟨Try.f55.name, by decide, Try.func55.trans (congrArg some (by kernel_rfl))⟩
  f18 := ⟨Try.f56.name, by decide, Try.func56.trans (congrArg some (by kernel_rfl))⟩
  f19 := Try.func57.trans (congrArg some (by kernel_rfl))
  f20 := Try.func58.trans (congrArg some (by kernel_rfl))
  f30 := ⟨Try.f59.name, by decide, Try.func59.trans (congrArg some (by kernel_rfl))⟩
  f31 := Try.func60.trans (congrArg some (by kernel_rfl))
  f32 := Try.func61.trans (congrArg some (by kernel_rfl))
  f33 := ⟨Try.f62.name, by decide, Try.func62.trans (congrArg some (by kernel_rfl))⟩
  f34 := ⟨Try.f63.name, by decide, Try.func63.trans (congrArg some (by kernel_rfl))⟩
  f35 := ⟨Try.f64.name, by decide, Try.func64.trans (congrArg some (by kernel_rfl))⟩
  f40 := ⟨Try.f65.name, by decide, Try.func65.trans (congrArg some (by kernel_rfl))⟩
  t0 := Try.underlying0
  a0 := Try.isAgg0
  z0 := Try.sizeOf0
  v0 := Try.zeroValue0
  t3 := Try.underlying3
  a3 := Try.isAgg3
  z3 := Try.sizeOf3
  v3 := Try.zeroValue3
  t4 := Try.underlying4
  a4 := Try.isAgg4
  z4 := Try.sizeOf4
  v4 := Try.zeroValue4
  t5 := Try.underlying5
  a5 := Try.isAgg5
  z5 := Try.sizeOf5
  v5 := Try.zeroValue5
  t9 := Try.underlying9
  a9 := Try.isAgg9
  z9 := Try.sizeOf9
  v9 := Try.zeroValue9
  t22 := Try.underlying28
  a22 := Try.isAgg28
  z22 := Try.sizeOf28
  v22 := Try.zeroValue28
  t23 := Try.underlying28
  a23 := Try.isAgg28
  z23 := Try.sizeOf28
  v23 := Try.zeroValue28
  t25 := Try.underlying3
  a25 := Try.isAgg3
  z25 := Try.sizeOf3
  v25 := Try.zeroValue3
  t32 := Try.underlying82
  a32 := Try.isAgg82
  z32 := Try.sizeOf82
  v32 := Try.zeroValue82
  t35 := Try.underlying84
  a35 := Try.isAgg84
  z35 := Try.sizeOf84
  v35 := Try.zeroValue84
  t36 := Try.underlying85
  a36 := Try.isAgg85
  z36 := Try.sizeOf85
  v36 := Try.zeroValue85
  t41 := Try.underlying89
  a41 := Try.isAgg89
  z41 := Try.sizeOf89
  v41 := Try.zeroValue89
  t44 := Try.underlying92
  a44 := Try.isAgg92
  z44 := Try.sizeOf92
  v44 := Try.zeroValue92
  t46 := Try.underlying94
  a46 := Try.isAgg94
  z46 := Try.sizeOf94
  v46 := Try.zeroValue94
  t53 := Try.underlying95
  a53 := Try.isAgg95
  z53 := Try.sizeOf95
  v53 := Try.zeroValue95
  t57 := Try.underlying55
  a57 := Try.isAgg55
  z57 := Try.sizeOf55
  v57 := Try.zeroValue55
  t63 := Try.underlying100
  a63 := Try.isAgg100
  z63 := Try.sizeOf100
  v63 := Try.zeroValue100
  t64 := Try.underlying101
  a64 := Try.isAgg101
  z64 := Try.sizeOf101
  v64 := Try.zeroValue101 }
open Go.Sort Go.RowKit in
theorem Try.slices_Sort_int (blk off cap : Nat) (zs : List Int) (w : World) (hH : Holds (Value.int .i64) w blk off zs.toArray) (hblk : blk < w.heap.size) (hsz : zs.length < 4611686018427387904) :
    Calls Try.prog 38 #[.slice (some ⟨blk, off, none⟩) zs.length cap] w fun e w' =>
      e = .returned (.tuple #[]) ∧ ∃ n os, w' = grow (putRow (Value.int .i64) (Sort.ahead w n) blk off (zs.mergeSort fun x y => decide (x ≤ y)).toArray) os := AnyM.slices_Sort_int Try.laysSlM5_f38 blk off cap zs w hH hblk hsz
open Go.RowKit Go.Sort in
/-- .. and plain. (LAID AT THE INSTANCE 'slices.Sort[[]int,int]': no walk: one application.) -/
theorem Try.slices_Sort_int_none (p : Option Addr) (cap : Nat) (w : World) :
    Calls Try.prog 38 #[.slice p 0 cap] w fun e w' => e = .returned (.tuple #[]) ∧ w' = w := AnyM.slices_Sort_int_none Try.laysSlM5_f38 p cap w
def Try.keysA_ren : Go.Shelf.Ren := ⟨fun | 7 => 28 | 10 => 39 | n => n, fun | 23 => 57 | 26 => 3 | 3 => 4 | 28 => 60 | 0 => 0 | 27 => 59 | 33 => 70 | 4 => 4 | n => n, fun | n => n⟩
theorem Try.keysA : Go.Proofs.SlLaysZI.n7 Try.prog Try.keysA_ren := {
  mixed := by kernel_rfl
  f7 := ⟨Try.f28.name, by decide, Try.func28.trans (congrArg some (by kernel_rfl))⟩
  f10 := ⟨Try.f39.name, by decide, Try.func39.trans (congrArg some (by kernel_rfl))⟩
  t0 := Try.underlying0
  a0 := Try.isAgg0
  z0 := Try.sizeOf0
  v0 := Try.zeroValue0
  t4 := Try.underlying4
  a4 := Try.isAgg4
  z4 := Try.sizeOf4
  v4 := Try.zeroValue4
  t23 := Try.underlying57
  a23 := Try.isAgg57
  z23 := Try.sizeOf57
  v23 := Try.zeroValue57
  t26 := Try.underlying3
  a26 := Try.isAgg3
  z26 := Try.sizeOf3
  v26 := Try.zeroValue3
  t27 := Try.underlying59
  a27 := Try.isAgg59
  z27 := Try.sizeOf59
  v27 := Try.zeroValue59
  t28 := Try.underlying60
  a28 := Try.isAgg60
  z28 := Try.sizeOf60
  v28 := Try.zeroValue60
  t33 := Try.underlying70
  a33 := Try.isAgg70
  z33 := Try.sizeOf70
  v33 := Try.zeroValue70 }
def Try.sortedA_ren : Go.Shelf.Ren := ⟨fun | 6 => 27 | 8 => 37 | 9 => 38 | 11 => 45 | 13 => 47 | 12 => 46 | 23 => 57 | 24 => 58 | 14 => 48 | 15 => 49 | 16 => 50 | 17 => 51 | 18 => 52 | 19 => 53 | 20 => 54 | 21 => 55 | 22 => 56 | 25 => 59 | 26 => 60 | 27 => 61 | 28 => 62 | 29 => 63 | 30 => 64 | 31 => 65 | n => n, fun | 26 => 3 | 28 => 60 | 24 => 28 | 0 => 0 | 3 => 3 | 37 => 82 | 48 => 92 | 50 => 94 | 4 => 4 | 40 => 85 | 39 => 84 | 45 => 89 | 5 => 5 | 9 => 9 | 51 => 95 | 55 => 55 | 57 => 100 | 58 => 101 | 33 => 70 | n => n, fun | n => n⟩
theorem Try.sortedA : Go.Proofs.SlLaysZI.n6 Try.prog Try.sortedA_ren := {
  mixed := by kernel_rfl
  f6 := ⟨Try.f27.name, by decide, Try.func27.trans (congrArg some (by kernel_rfl))⟩
  f8 := ⟨Try.f37.name, by decide, Try.func37.trans (congrArg some (by kernel_rfl))⟩
  f11 := ⟨Try.f45.name, by decide, Try.func45.trans (congrArg some (by kernel_rfl))⟩
  t0 := Try.underlying0
  a0 := Try.isAgg0
  z0 := Try.sizeOf0
  v0 := Try.zeroValue0
  t24 := Try.underlying28
  a24 := Try.isAgg28
  z24 := Try.sizeOf28
  v24 := Try.zeroValue28
  t26 := Try.underlying3
  a26 := Try.isAgg3
  z26 := Try.sizeOf3
  v26 := Try.zeroValue3
  t28 := Try.underlying60
  a28 := Try.isAgg60
  z28 := Try.sizeOf60
  v28 := Try.zeroValue60
  i26 := by kernel_rfl }
end Go.Proofs
