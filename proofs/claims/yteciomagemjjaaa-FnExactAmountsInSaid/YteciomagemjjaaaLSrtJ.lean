/- slices.Sort and slices.Compact at []int64, off the shelf. -/
import Derived.Shelf.SlicesG.CompactI
import Derived.Shelf.SortM.Plain
import Derived.Sort.OwnSortedInts
import Derived.Test.YteciomagemjjaaaProg
import Derived.Test.YteciomagemjjaaaLPrJ
namespace Go.Proofs.Yteciomagemjjaaa.J
open Go.Shelf
set_option linter.unusedVariables false
set_option linter.unusedSimpArgs false
def zrd : Go.Shelf.Ren := ⟨fun | 43 => 84 | n => n, fun | 22 => 65 | 23 => 2 | 3 => 3 | 4 => 4 | 0 => 0 | n => n, fun | n => n⟩
theorem laysSlN43_f84 : Go.Proofs.SlLaysN.n43 Try.prog zrd := {
  mixed := by kernel_rfl
  f43 := ⟨Try.f84.name, by decide, Try.func84.trans (congrArg some (by kernel_rfl))⟩
  t0 := Try.underlying0
  a0 := Try.isAgg0
  z0 := Try.sizeOf0
  v0 := Try.zeroValue0
  t3 := Try.underlying3
  a3 := Try.isAgg3
  z3 := Try.sizeOf3
  v3 := Try.zeroValue3
  t4 := Try.underlying4
  a4 := Try.isAgg4
  z4 := Try.sizeOf4
  v4 := Try.zeroValue4
  t22 := Try.underlying65
  a22 := Try.isAgg65
  z22 := Try.sizeOf65
  v22 := Try.zeroValue65
  t23 := Try.underlying2
  a23 := Try.isAgg2
  z23 := Try.sizeOf2
  v23 := Try.zeroValue2
  i23 := by kernel_rfl }
open Go.RowKit Go.Lib Go.Sort in
/-- slices.Compact at []int: "Compact replaces consecutive runs of equal elements with a single copy. This is like the uniq command found on Unix. Compact modifies the contents of the slice s and returns the modified slice, which may have a smaller length. Compact zeroes the elements between the new length and the original length. The result preserves the nilness of s.": IT RETURNS THE SLICE CUT TO 'Lib.compact zs'; ITS CELLS HOLD 'Lib.compact zs', THEN ZERO VALUES up to the old length; all else is as it was, but for the count of draws. IN THE WORDS OF slices.Sort's CONTRACT ('Holds', 'putRow'): so the everyday 'slices.Sort(xs); xs = slices.Compact(xs)' goes from the one contract to the other. It asks 'zs.length ≤ cap' (every slice's: the reslicing 's[:k]' looks at it). Length 0, nil: '.._empty'. (LAID AT THE INSTANCE 'slices.Compact[[]int64,int64]': no walk: one application.) -/
theorem zoc (blk off cap : Nat) (zs : List Int) (w : World) (hH : Holds (Value.int .i64) w blk off zs.toArray) (hsz : zs.length ≤ 9223372036854775807) (hcap : zs.length ≤ cap) :
    Calls Try.prog 84 #[.slice (some ⟨blk, off, none⟩) zs.length cap] w fun e w' => e = .returned (.slice (some ⟨blk, off, none⟩) (Lib.compact zs).length cap) ∧ ∃ q, w' = putRow (Value.int .i64) (Sort.ahead w q) blk off (Lib.compact zs ++ List.replicate (zs.length - (Lib.compact zs).length) 0).toArray := AnyG.slices_Compact_int laysSlN43_f84 blk off cap zs w hH hsz hcap
def zzd : Go.Shelf.Ren := ⟨fun | 5 => 83 | 8 => 106 | 7 => 105 | 19 => 120 | 20 => 121 | 10 => 111 | 11 => 112 | 12 => 113 | 13 => 114 | 14 => 115 | 15 => 116 | 16 => 117 | 17 => 118 | 18 => 119 | 30 => 122 | 31 => 123 | 32 => 124 | 33 => 125 | 34 => 126 | 35 => 127 | 40 => 128 | n => n, fun | 23 => 65 | 25 => 2 | 3 => 3 | 32 => 120 | 22 => 65 | 0 => 0 | 44 => 140 | 46 => 115 | 4 => 4 | 36 => 148 | 35 => 147 | 41 => 153 | 5 => 5 | 9 => 9 | 53 => 157 | 57 => 161 | 63 => 163 | 64 => 164 | n => n, fun | n => n⟩
theorem laysSlM5_f83 : Go.Proofs.SlLaysM.n5 Try.prog zzd := {
  mixed := by kernel_rfl
  f5 := ⟨Try.f83.name, by decide, Try.func83.trans (congrArg some (by kernel_rfl))⟩
  f7 := ⟨Try.f105.name, by decide, Try.func105.trans (congrArg some (by kernel_rfl))⟩
  f8 := Try.func106.trans (congrArg some (by kernel_rfl))
  f10 := ⟨Try.f111.name, by decide, Try.func111.trans (congrArg some (by kernel_rfl))⟩
  f11 := ⟨Try.f112.name, by decide, Try.func112.trans (congrArg some (by kernel_rfl))⟩
  f12 := ⟨Try.f113.name, by decide, Try.func113.trans (congrArg some (by kernel_rfl))⟩
  f13 := ⟨Try.f114.name, by decide, Try.func114.trans (congrArg some (by kernel_rfl))⟩
  f14 := ⟨Try.f115.name, by decide, Try.func115.trans (congrArg some (by kernel_rfl))⟩
  f15 := ⟨Try.f116.name, by decide, Try.func116.trans (congrArg some (by kernel_rfl))⟩
  f16 := ⟨Try.f117.name, by decide, Try.func117.trans (congrArg some (by kernel_rfl))⟩
  f17 := ⟨Try.f118.name, by decide, Try.func118.trans (congrArg some (by kernel_rfl))⟩
  f18 := ⟨Try.f119.name, by decide, Try.func119.trans (congrArg some (by kernel_rfl))⟩
  f19 := Try.func120.trans (congrArg some (by kernel_rfl))
  f20 := Try.func121.trans (congrArg some (by kernel_rfl))
  f30 := ⟨Try.f122.name, by decide, Try.func122.trans (congrArg some (by kernel_rfl))⟩
  f31 := Try.func123.trans (congrArg some (by kernel_rfl))
  f32 := Try.func124.trans (congrArg some (by kernel_rfl))
  f33 := ⟨Try.f125.name, by decide, Try.func125.trans (congrArg some (by kernel_rfl))⟩
  f34 := ⟨Try.f126.name, by decide, Try.func126.trans (congrArg some (by kernel_rfl))⟩
  f35 := ⟨Try.f127.name, by decide, Try.func127.trans (congrArg some (by kernel_rfl))⟩
  f40 := ⟨Try.f128.name, by decide, Try.func128.trans (congrArg some (by kernel_rfl))⟩
  t0 := Try.underlying0
  a0 := Try.isAgg0
  z0 := Try.sizeOf0
  v0 := Try.zeroValue0
  t3 := Try.underlying3
  a3 := Try.isAgg3
  z3 := Try.sizeOf3
  v3 := Try.zeroValue3
  t4 := Try.underlying4
  a4 := Try.isAgg4
  z4 := Try.sizeOf4
  v4 := Try.zeroValue4
  t5 := Try.underlying5
  a5 := Try.isAgg5
  z5 := Try.sizeOf5
  v5 := Try.zeroValue5
  t9 := Try.underlying9
  a9 := Try.isAgg9
  z9 := Try.sizeOf9
  v9 := Try.zeroValue9
  t22 := Try.underlying65
  a22 := Try.isAgg65
  z22 := Try.sizeOf65
  v22 := Try.zeroValue65
  t23 := Try.underlying65
  a23 := Try.isAgg65
  z23 := Try.sizeOf65
  v23 := Try.zeroValue65
  t25 := Try.underlying2
  a25 := Try.isAgg2
  z25 := Try.sizeOf2
  v25 := Try.zeroValue2
  t32 := Try.underlying120
  a32 := Try.isAgg120
  z32 := Try.sizeOf120
  v32 := Try.zeroValue120
  t35 := Try.underlying147
  a35 := Try.isAgg147
  z35 := Try.sizeOf147
  v35 := Try.zeroValue147
  t36 := Try.underlying148
  a36 := Try.isAgg148
  z36 := Try.sizeOf148
  v36 := Try.zeroValue148
  t41 := Try.underlying153
  a41 := Try.isAgg153
  z41 := Try.sizeOf153
  v41 := Try.zeroValue153
  t44 := Try.underlying140
  a44 := Try.isAgg140
  z44 := Try.sizeOf140
  v44 := Try.zeroValue140
  t46 := Try.underlying115
  a46 := Try.isAgg115
  z46 := Try.sizeOf115
  v46 := Try.zeroValue115
  t53 := Try.underlying157
  a53 := Try.isAgg157
  z53 := Try.sizeOf157
  v53 := Try.zeroValue157
  t57 := Try.underlying161
  a57 := Try.isAgg161
  z57 := Try.sizeOf161
  v57 := Try.zeroValue161
  t63 := Try.underlying163
  a63 := Try.isAgg163
  z63 := Try.sizeOf163
  v63 := Try.zeroValue163
  t64 := Try.underlying164
  a64 := Try.isAgg164
  z64 := Try.sizeOf164
  v64 := Try.zeroValue164 }
open Go.Sort Go.RowKit in
theorem zzc (blk off cap : Nat) (zs : List Int) (w : World) (hH : Holds (Value.int .i64) w blk off zs.toArray) (hblk : blk < w.heap.size) (hsz : zs.length < 4611686018427387904) :
    Calls Try.prog 83 #[.slice (some ⟨blk, off, none⟩) zs.length cap] w fun e w' =>
      e = .returned (.tuple #[]) ∧ ∃ n os, w' = grow (putRow (Value.int .i64) (Sort.ahead w n) blk off (zs.mergeSort fun x y => decide (x ≤ y)).toArray) os := AnyM.slices_Sort_int laysSlM5_f83 blk off cap zs w hH hblk hsz
open Go.Sort Go.RowKit Go.Proofs.YteciomagemjjaaaW.PrintWords Go.Proofs.YteciomagemjjaaaW.PrintLast Go.Proofs.YteciomagemjjaaaW.PrintMore
section
variable {w : World} {base g cap : Nat} {ok : Nat → Prop} {xs : List Int}
theorem i64_encs (xs : List Int) : encs (Value.int .i64) xs = xs.map (Value.int .i64) := rfl
theorem R_block (h : (Kd.int .i64).R 2 w base ok (.slice (some ⟨g, 0, none⟩) xs.length cap) xs) (hx : 0 < xs.length) : base ≤ g ∧ ∃ cur, w.heap[g]? = some (.cells cur 2 (0, 0)) ∧ xs.length ≤ cap ∧ cap ≤ maxLen ∧ cur.size = cap * 1 ∧ cur.toList.take xs.length = xs.map (Value.int .i64) := by
  have ho := Kd.own_of_R h
  rcases ho.2 with ⟨h0, _⟩ | ⟨g', cap', cur, hv, hg, h1, h2, h3, h4, h5⟩
  · cases h0
  · cases hv
    exact ⟨hg, cur, h1, h2, h3, h4, by simpa [encs] using h5⟩
end
/-- The library's sort of a slice of the call's own, in the words of the printed texts. -/
theorem sort_calls (w0 w : World) (hB : Below w0.heap.size w0 w) (ok : Nat → Prop) (g cap : Nat) (xs : List Int) (hx : 0 < xs.length) (hl : xs.length < 1000000) (h : (Kd.int .i64).R 2 w w0.heap.size ok (.slice (some ⟨g, 0, none⟩) xs.length cap) xs) :
    Calls Try.prog 83 #[.slice (some ⟨g, 0, none⟩) xs.length cap] w fun e w' => e = .returned (.tuple #[]) ∧ (Kd.int .i64).R 2 w' w0.heap.size ok (.slice (some ⟨g, 0, none⟩) xs.length cap) (xs.mergeSort fun x y => decide (x ≤ y)) ∧ Below w0.heap.size w0 w' := by
  obtain ⟨hbase, cur, hb, hc, hm, hs, ht⟩ := R_block h hx
  have hg := zfb hb
  have hsl : (xs.mergeSort fun x y => decide (x ≤ y)).length = xs.length := List.length_mergeSort ..
  refine (zzc g 0 cap xs w (holds_of_blockI hb ht) hg (by omega)).mono ?_
  rintro e w' ⟨rfl, n, os, rfl⟩
  refine ⟨rfl, ?_, ?_⟩
  · have ho := ownsRow_sortedI (n := n) (os := os) (base := w0.heap.size) hsl hbase hb hc hm hs
    refine Kd.R_of_own ?_ h.1
    rw [hsl]
    exact ho
  · exact zwc hB (some g) hB.size (grownBy_sortedI _) (fun k hk => by injection hk with hk; omega)
theorem upTo_len (d : Array Int) : ∀ m, (Lib.compactUpTo d m).length ≤ m
  | 0 => by simp [Lib.compactUpTo]
  | m + 1 => by
    have := upTo_len d m
    rw [Lib.compactUpTo_succ, List.length_append]
    split <;> simp <;> omega
theorem compact_len (xs : List Int) : (Lib.compact xs).length ≤ xs.length := upTo_len _ _
theorem grow_nil (w : World) : grow w #[] = w := by
  unfold grow
  rw [Array.append_empty]
/-- The library's Compact of a slice of the call's own. -/
theorem compact_calls (w0 w : World) (hB : Below w0.heap.size w0 w) (ok : Nat → Prop) (g cap n : Nat) (xs : List Int) (hn : xs.length = n) (hx : 0 < xs.length) (hl : xs.length < 1000000) (h : (Kd.int .i64).R 2 w w0.heap.size ok (.slice (some ⟨g, 0, none⟩) n cap) xs) :
    Calls Try.prog 84 #[.slice (some ⟨g, 0, none⟩) n cap] w fun e w' => ∃ v, e = .returned v ∧ (Kd.int .i64).R 2 w' w0.heap.size ok v (Lib.compact xs) ∧ Below w0.heap.size w0 w' := by
  subst hn
  obtain ⟨hbase, cur, hb, hc, hm, hs, ht⟩ := R_block h hx
  have hcl : (Lib.compact xs).length ≤ xs.length := compact_len xs
  have hsl : (Lib.compact xs ++ List.replicate (xs.length - (Lib.compact xs).length) 0).length = xs.length := by rw [List.length_append, List.length_replicate]; omega
  refine (zoc g 0 cap xs w (holds_of_blockI hb ht) (by omega) hc).mono ?_
  rintro e w' ⟨rfl, q, rfl⟩
  refine ⟨_, rfl, ?_, ?_⟩
  · have ho := ownsRow_sortedI (n := q) (os := #[]) (base := w0.heap.size) hsl hbase hb hc hm hs
    rw [grow_nil] at ho
    have ho2 := own_take ho hcl
    refine Kd.R_of_own ?_ (fun k hk => h.1 k (by simpa [Value.ownBlock] using hk))
    rw [Nat.mul_one, List.map_append, List.take_append_of_le_length (by simp), List.take_of_length_le (by simp)] at ho2
    exact ho2
  · have hg2 := grownBy_sortedI (w := w) (g := g) (n := q) (os := #[]) (Lib.compact xs ++ List.replicate (xs.length - (Lib.compact xs).length) 0).toArray
    rw [grow_nil] at hg2
    exact zwc hB (some g) hB.size hg2 (fun k hk => by injection hk with hk; omega)
end Go.Proofs.Yteciomagemjjaaa.J
