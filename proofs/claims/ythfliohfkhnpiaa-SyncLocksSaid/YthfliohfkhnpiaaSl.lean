/- The library's sort and compaction at this program: the shelf's contracts, laid. -/
import Derived.Shelf.Sort.Plain
import Derived.Shelf.Slices.CompactI
import Derived.Shelf.Slices.In.SortNone
import Derived.Test.YthfliohfkhnpiaaProg
namespace Go.Proofs.Ythfliohfkhnpiaa
open Go.Shelf
def lays189_ren : Go.Shelf.Ren := ⟨fun | 189 => 52 | 125 => 97 | 257 => 96 | 128 => 128 | 129 => 129 | 294 => 120 | 295 => 121 | 296 => 122 | 297 => 123 | 298 => 124 | 299 => 125 | 216 => 89 | 300 => 126 | 301 => 127 | 328 => 134 | 329 => 135 | 330 => 136 | 331 => 137 | 332 => 138 | 215 => 118 | 343 => 141 | n => n, fun | 28 => 27 | 3 => 3 | 46 => 108 | 0 => 0 | 51 => 134 | 53 => 136 | 4 => 4 | 183 => 128 | 182 => 127 | 131 => 67 | 5 => 5 | 9 => 9 | 218 => 139 | 222 => 143 | 228 => 147 | 229 => 84 | n => n, fun | n => n⟩
theorem lays189 : Go.Proofs.Lays.n189 Try.prog lays189_ren := {
  mixed := by kernel_rfl
  f125 := Try.func97.trans (congrArg some (by kernel_rfl))
  f128 := Try.func128.trans (congrArg some (by kernel_rfl))
  f129 := Try.func129.trans (congrArg some (by kernel_rfl))
  f189 := Try.func52.trans (congrArg some (by kernel_rfl))
  f215 := Try.func118.trans (congrArg some (by kernel_rfl))
  f216 := Try.func89.trans (congrArg some (by kernel_rfl))
  f257 := Try.func96.trans (congrArg some (by kernel_rfl))
  f294 := Try.func120.trans (congrArg some (by kernel_rfl))
  f295 := Try.func121.trans (congrArg some (by kernel_rfl))
  f296 := Try.func122.trans (congrArg some (by kernel_rfl))
  f297 := Try.func123.trans (congrArg some (by kernel_rfl))
  f298 := Try.func124.trans (congrArg some (by kernel_rfl))
  f299 := Try.func125.trans (congrArg some (by kernel_rfl))
  f300 := Try.func126.trans (congrArg some (by kernel_rfl))
  f301 := Try.func127.trans (congrArg some (by kernel_rfl))
  f328 := Try.func134.trans (congrArg some (by kernel_rfl))
  f329 := Try.func135.trans (congrArg some (by kernel_rfl))
  f330 := Try.func136.trans (congrArg some (by kernel_rfl))
  f331 := Try.func137.trans (congrArg some (by kernel_rfl))
  f332 := Try.func138.trans (congrArg some (by kernel_rfl))
  f343 := Try.func141.trans (congrArg some (by kernel_rfl))
  t0 := Try.underlying0
  a0 := Try.isAgg0
  z0 := Try.sizeOf0
  v0 := Try.zeroValue0
  t3 := Try.underlying3
  a3 := Try.isAgg3
  z3 := Try.sizeOf3
  v3 := Try.zeroValue3
  t4 := Try.underlying4
  a4 := Try.isAgg4
  z4 := Try.sizeOf4
  v4 := Try.zeroValue4
  t5 := Try.underlying5
  a5 := Try.isAgg5
  z5 := Try.sizeOf5
  v5 := Try.zeroValue5
  t9 := Try.underlying9
  a9 := Try.isAgg9
  z9 := Try.sizeOf9
  v9 := Try.zeroValue9
  t28 := Try.underlying27
  a28 := Try.isAgg27
  z28 := Try.sizeOf27
  v28 := Try.zeroValue27
  t46 := Try.underlying108
  a46 := Try.isAgg108
  z46 := Try.sizeOf108
  v46 := Try.zeroValue108
  t51 := Try.underlying134
  a51 := Try.isAgg134
  z51 := Try.sizeOf134
  v51 := Try.zeroValue134
  t53 := Try.underlying136
  a53 := Try.isAgg136
  z53 := Try.sizeOf136
  v53 := Try.zeroValue136
  t131 := Try.underlying67
  a131 := Try.isAgg67
  z131 := Try.sizeOf67
  v131 := Try.zeroValue67
  t182 := Try.underlying127
  a182 := Try.isAgg127
  z182 := Try.sizeOf127
  v182 := Try.zeroValue127
  t183 := Try.underlying128
  a183 := Try.isAgg128
  z183 := Try.sizeOf128
  v183 := Try.zeroValue128
  t218 := Try.underlying139
  a218 := Try.isAgg139
  z218 := Try.sizeOf139
  v218 := Try.zeroValue139
  t222 := Try.underlying143
  a222 := Try.isAgg143
  z222 := Try.sizeOf143
  v222 := Try.zeroValue143
  t228 := Try.underlying147
  a228 := Try.isAgg147
  z228 := Try.sizeOf147
  v228 := Try.zeroValue147
  t229 := Try.underlying84
  a229 := Try.isAgg84
  z229 := Try.sizeOf84
  v229 := Try.zeroValue84 }
open Go.Sort Go.RowKit in
theorem sh_slices_Sort_int (blk off cap : Nat) (zs : List Int) (w : World) (hH : Holds (Value.int .i64) w blk off zs.toArray) (hblk : blk < w.heap.size) (hsz : zs.length < 4611686018427387904) :
    Calls Try.prog 52 #[.slice (some ⟨blk, off, none⟩) zs.length cap] w fun e w' =>
      e = .returned (.tuple #[]) ∧ ∃ n os, w' = grow (putRow (Value.int .i64) (Sort.ahead w n) blk off (zs.mergeSort fun x y => decide (x ≤ y)).toArray) os := Any.slices_Sort_int lays189 blk off cap zs w hH hblk hsz
def laysNm220_ren : Go.Shelf.Ren := ⟨fun | 20 => 53 | n => n, fun | 22 => 27 | 3 => 3 | 4 => 4 | 0 => 0 | n => n, fun | n => n⟩
theorem laysNm220 : Go.Proofs.Lays2.n20 Try.prog laysNm220_ren := {
  mixed := by kernel_rfl
  f20 := Try.func53.trans (congrArg some (by kernel_rfl))
  t0 := Try.underlying0
  a0 := Try.isAgg0
  z0 := Try.sizeOf0
  v0 := Try.zeroValue0
  t3 := Try.underlying3
  a3 := Try.isAgg3
  z3 := Try.sizeOf3
  v3 := Try.zeroValue3
  t4 := Try.underlying4
  a4 := Try.isAgg4
  z4 := Try.sizeOf4
  v4 := Try.zeroValue4
  t22 := Try.underlying27
  a22 := Try.isAgg27
  z22 := Try.sizeOf27
  v22 := Try.zeroValue27
  i3 := by kernel_rfl }
open Go.RowKit Go.Lib Go.Sort in
/-- slices.Compact at []int, over an array: the library's two loops are walked. (LAID: no walk: one application.) -/
theorem sh_slices_Compact_int_arr (blk off cap : Nat) (d : Array Int) (w : World) (hH : Holds encI w blk off d) (hsz : d.size ≤ 9223372036854775807) (hcap : d.size ≤ cap) :
    Calls Try.prog 53 #[.slice (some ⟨blk, off, none⟩) d.size cap] w fun e w' => e = .returned (.slice (some ⟨blk, off, none⟩) (compactUpTo d d.size).length cap) ∧ ∃ q, w' = putRow encI (Sort.ahead w q) blk off (compactUpTo d d.size ++ List.replicate (d.size - (compactUpTo d d.size).length) 0).toArray := Any.slices_Compact_int_arr laysNm220 blk off cap d w hH hsz hcap
open Go.RowKit Go.Lib Go.Sort in
/-- slices.Compact at []int: "Compact replaces consecutive runs of equal elements with a single copy. This is like the uniq command found on Unix. Compact modifies the contents of the slice s and returns the modified slice, which may have a smaller length. Compact zeroes the elements between the new length and the original length. The result preserves the nilness of s.": IT RETURNS THE SLICE CUT TO 'Lib.compact zs'; ITS CELLS HOLD 'Lib.compact zs', THEN ZERO VALUES up to the old length; all else is as it was, but for the count of draws. IN THE WORDS OF slices.Sort's CONTRACT ('Holds', 'putRow'): so the everyday 'slices.Sort(xs); xs = slices.Compact(xs)' goes from the one contract to the other. It asks 'zs.length ≤ cap' (every slice's: the reslicing 's[:k]' looks at it). Length 0, nil: '.._empty'. (LAID: no walk: one application.) -/
theorem sh_slices_Compact_int (blk off cap : Nat) (zs : List Int) (w : World) (hH : Holds (Value.int .i64) w blk off zs.toArray) (hsz : zs.length ≤ 9223372036854775807) (hcap : zs.length ≤ cap) :
    Calls Try.prog 53 #[.slice (some ⟨blk, off, none⟩) zs.length cap] w fun e w' => e = .returned (.slice (some ⟨blk, off, none⟩) (Lib.compact zs).length cap) ∧ ∃ q, w' = putRow (Value.int .i64) (Sort.ahead w q) blk off (Lib.compact zs ++ List.replicate (zs.length - (Lib.compact zs).length) 0).toArray := Any.slices_Compact_int laysNm220 blk off cap zs w hH hsz hcap
open Go.RowKit Go.Lib Go.Sort in
/-- The same at a slice of length 0, a nil one too: it comes back as it is. (LAID: no walk: one application.) -/
theorem sh_slices_Compact_int_empty (a : Option Addr) (cap : Nat) (w : World) :
    Calls Try.prog 53 #[.slice a 0 cap] w fun e w' => e = .returned (.slice a 0 cap) ∧ w' = w := Any.slices_Compact_int_empty laysNm220 a cap w
open Go.RowKit Go.Sort in
/-- .. and plain. (LAID: no walk: one application.) -/
theorem sh_slices_Sort_int_none (p : Option Addr) (cap : Nat) (w : World) :
    Calls Try.prog 52 #[.slice p 0 cap] w fun e w' => e = .returned (.tuple #[]) ∧ w' = w := Any.slices_Sort_int_none lays189 p cap w
end Go.Proofs.Ythfliohfkhnpiaa
