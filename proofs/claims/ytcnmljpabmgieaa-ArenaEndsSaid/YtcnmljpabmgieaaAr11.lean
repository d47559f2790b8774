/- slices.Sort at numbers: the library's own contract, laid at this program (the table of numbers below was written by the kit's tool for this seat). -/
import Derived.Shelf.Sort.Plain
import Derived.Sort.OwnSortedInts
import Derived.Test.YtcnmljpabmgieaaAr4
import Derived.WalkKit
import Derived.WalkSpells
import Derived.WalkLawsBesides
import Derived.Deep.QuietTactic
import Derived.BigQuiet
import Derived.BigRegion
import Derived.Lib.Hide
import Derived.Deep.RegionWith
set_option linter.unusedSimpArgs false
set_option linter.unusedVariables false
namespace Go.Proofs
open Go.Shelf
def Try.lays189_ren : Go.Shelf.Ren := ⟨fun | 189 => 38 | 125 => 47 | 257 => 46 | 128 => 59 | 129 => 60 | 294 => 50 | 295 => 51 | 296 => 52 | 297 => 53 | 298 => 54 | 299 => 55 | 216 => 56 | 300 => 57 | 301 => 58 | 328 => 62 | 329 => 63 | 330 => 64 | 331 => 65 | 332 => 66 | 215 => 67 | 343 => 68 | n => n, fun | 28 => 22 | 3 => 3 | 46 => 70 | 0 => 0 | 51 => 82 | 53 => 84 | 4 => 4 | 183 => 74 | 182 => 73 | 131 => 79 | 5 => 5 | 9 => 9 | 218 => 86 | 222 => 90 | 228 => 92 | 229 => 93 | n => n, fun | n => n⟩
theorem Try.lays189 : Go.Proofs.Lays.n189 Try.prog Try.lays189_ren := {
  mixed := by kernel_rfl
  f125 := Try.func47.trans (congrArg some (by kernel_rfl))
  f128 := Try.func59.trans (congrArg some (by kernel_rfl))
  f129 := Try.func60.trans (congrArg some (by kernel_rfl))
  f189 := Try.func38.trans (congrArg some (by kernel_rfl))
  f215 := Try.func67.trans (congrArg some (by kernel_rfl))
  f216 := Try.func56.trans (congrArg some (by kernel_rfl))
  f257 := Try.func46.trans (congrArg some (by kernel_rfl))
  f294 := Try.func50.trans (congrArg some (by kernel_rfl))
  f295 := Try.func51.trans (congrArg some (by kernel_rfl))
  f296 := Try.func52.trans (congrArg some (by kernel_rfl))
  f297 := Try.func53.trans (congrArg some (by kernel_rfl))
  f298 := Try.func54.trans (congrArg some (by kernel_rfl))
  f299 := Try.func55.trans (congrArg some (by kernel_rfl))
  f300 := Try.func57.trans (congrArg some (by kernel_rfl))
  f301 := Try.func58.trans (congrArg some (by kernel_rfl))
  f328 := Try.func62.trans (congrArg some (by kernel_rfl))
  f329 := Try.func63.trans (congrArg some (by kernel_rfl))
  f330 := Try.func64.trans (congrArg some (by kernel_rfl))
  f331 := Try.func65.trans (congrArg some (by kernel_rfl))
  f332 := Try.func66.trans (congrArg some (by kernel_rfl))
  f343 := Try.func68.trans (congrArg some (by kernel_rfl))
  t0 := Try.underlying0
  a0 := Try.isAgg0
  z0 := Try.sizeOf0
  v0 := Try.zeroValue0
  t3 := Try.underlying3
  a3 := Try.isAgg3
  z3 := Try.sizeOf3
  v3 := Try.zeroValue3
  t4 := Try.underlying4
  a4 := Try.isAgg4
  z4 := Try.sizeOf4
  v4 := Try.zeroValue4
  t5 := Try.underlying5
  a5 := Try.isAgg5
  z5 := Try.sizeOf5
  v5 := Try.zeroValue5
  t9 := Try.underlying9
  a9 := Try.isAgg9
  z9 := Try.sizeOf9
  v9 := Try.zeroValue9
  t28 := Try.underlying22
  a28 := Try.isAgg22
  z28 := Try.sizeOf22
  v28 := Try.zeroValue22
  t46 := Try.underlying70
  a46 := Try.isAgg70
  z46 := Try.sizeOf70
  v46 := Try.zeroValue70
  t51 := Try.underlying82
  a51 := Try.isAgg82
  z51 := Try.sizeOf82
  v51 := Try.zeroValue82
  t53 := Try.underlying84
  a53 := Try.isAgg84
  z53 := Try.sizeOf84
  v53 := Try.zeroValue84
  t131 := Try.underlying79
  a131 := Try.isAgg79
  z131 := Try.sizeOf79
  v131 := Try.zeroValue79
  t182 := Try.underlying73
  a182 := Try.isAgg73
  z182 := Try.sizeOf73
  v182 := Try.zeroValue73
  t183 := Try.underlying74
  a183 := Try.isAgg74
  z183 := Try.sizeOf74
  v183 := Try.zeroValue74
  t218 := Try.underlying86
  a218 := Try.isAgg86
  z218 := Try.sizeOf86
  v218 := Try.zeroValue86
  t222 := Try.underlying90
  a222 := Try.isAgg90
  z222 := Try.sizeOf90
  v222 := Try.zeroValue90
  t228 := Try.underlying92
  a228 := Try.isAgg92
  z228 := Try.sizeOf92
  v228 := Try.zeroValue92
  t229 := Try.underlying93
  a229 := Try.isAgg93
  z229 := Try.sizeOf93
  v229 := Try.zeroValue93 }
open Go.Sort Go.RowKit in
theorem Try.slices_Sort_int (blk off cap : Nat) (zs : List Int) (w : World) (hH : Holds (Value.int .i64) w blk off zs.toArray) (hblk : blk < w.heap.size) (hsz : zs.length < 4611686018427387904) :
    Calls Try.prog 38 #[.slice (some ⟨blk, off, none⟩) zs.length cap] w fun e w' =>
      e = .returned (.tuple #[]) ∧ ∃ n os, w' = grow (putRow (Value.int .i64) (Sort.ahead w n) blk off (zs.mergeSort fun x y => decide (x ≤ y)).toArray) os := Any.slices_Sort_int Try.lays189 blk off cap zs w hH hblk hsz
end Go.Proofs
namespace Go.Proofs.Ytcnmljpabmgieaa.R
open Go.RowKit
theorem sorted_len (l : List Int) : (sorted l).length = l.length := by unfold sorted; simp
theorem sort_ok (l : List Int) (g c B : Nat) (w : World) (hl : l.length ≤ 1000000) (h : w.ownsRow B 3 1 (.slice (some ⟨g, 0, none⟩) l.length c) l.length (l.map (Value.int .i64))) :
    Calls Try.prog 38 #[.slice (some ⟨g, 0, none⟩) l.length c] w fun e w' => e = .returned (.tuple #[]) ∧ w.grownBy w' (some g) ∧ w'.ownsRow B 3 1 (.slice (some ⟨g, 0, none⟩) l.length c) l.length ((sorted l).map (Value.int .i64)) := by
  rcases h.2 with ⟨hv, _⟩ | ⟨g', cap, cur, hv, hB, hg, hn, hm, hs, ht⟩
  · cases hv
  · simp only [Value.slice.injEq, Option.some.injEq, Addr.mk.injEq, and_true, true_and] at hv
    obtain ⟨rfl, rfl⟩ := hv
    refine (Try.slices_Sort_int g 0 c l w (holds_of_blockI hg (by simpa using ht)) (Array.getElem?_eq_some_iff.1 hg).1 (by omega)).mono ?_
    rintro e w' ⟨rfl, n, os, rfl⟩
    exact ⟨rfl, grownBy_sortedI _, ownsRow_sortedI (sorted_len l) hB hg hn hm hs⟩
end Go.Proofs.Ytcnmljpabmgieaa.R
