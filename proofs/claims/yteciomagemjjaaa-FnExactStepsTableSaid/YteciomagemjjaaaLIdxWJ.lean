/- The program's number of a water: a range over slices.Backward. -/
import Derived.RangeFuncNested
import Derived.RangeFuncBound
import Derived.RangeFuncCalls
import Derived.RangeFuncLeaves
import Derived.RangeFuncFrom
import Derived.Shelf.Abstract
import Derived.Shelf.RegionOpen
import Derived.WalkKit
import Derived.OwnWalkIn
import Derived.TacticsInMore
import Derived.LoopNIn
import Derived.LoopIn
import Derived.Test.YteciomagemjjaaaJx0
import Derived.Test.YteciomagemjjaaaLRegJ
namespace Go.Proofs.Yteciomagemjjaaa.J
open Go.RowKit Go.Shelf Go.Proofs.YteciomagemjjaaaW.PrintWords Go.Proofs.YteciomagemjjaaaW.PrintLast Go.Proofs.YteciomagemjjaaaW.PrintMore
attribute [local go_sem] Oper.semAt_some
set_option linter.unusedVariables false
set_option linter.unusedSimpArgs false
/-- A jug's place and what it holds. -/
abbrev BI := { x : Nat × Int // x.1 < 4 }
def bk (l : List Int) (h : l.length ≤ 4) (j : Nat) : BI := ⟨(l.length - 1 - j, rd l ((l.length - 1 - j : Nat) : Int)), by dsimp only; omega⟩
def bkUp (l : List Int) (h : l.length ≤ 4) (k : Nat) : List BI := (List.range k).map (bk l h)
theorem zce (l : List Int) (h : l.length ≤ 4) (k : Nat) : bkUp l h (k + 1) = bkUp l h k ++ [bk l h k] := by simp [bkUp, List.range_succ]
theorem bkUp_length (l : List Int) (h : l.length ≤ 4) (k : Nat) : (bkUp l h k).length = k := by simp [bkUp]
def bkEnc (x : BI) : Array Value := #[.int .i64 (x.1.1 : Int), .int .i16 x.1.2]
/-- What a round keeps: what lay below n₀, and the box of the slice. -/
def KB (n₀ Bs : Nat) (A B : World) : Prop := Below n₀ A B ∧ ∀ v, A.cell? ⟨Bs, 0, none⟩ = some v → B.cell? ⟨Bs, 0, none⟩ = some v
theorem KB_t {n₀ Bs : Nat} {A B C : World} (h : KB n₀ Bs A B) (k : KB n₀ Bs B C) : KB n₀ Bs A C := ⟨h.1.trans k.1, fun v e => k.2 v (h.2 v e)⟩
theorem KB_b {n₀ Bs : Nat} {w : World} (hn : n₀ ≤ w.heap.size) (W : World) (l : Nat) (o o' : Obj) (hl : w.heap.size ≤ l) (h : W.heap[l]? = some o) (h2 : o.isCells = false) (h3 : o.isWalk = false) : KB n₀ Bs W (W.putObj l o') :=
  ⟨belowK_b hn W l o o' hl h h2 h3, fun v e => Go.cell_kept e (grownBy_putObj' W l o') (fun r er => by cases er; exact ⟨_, h, h2⟩)⟩
set_option maxRecDepth 100000 in
set_option maxHeartbeats 4000000 in
/-- slices.Backward's closure. -/
theorem back1_in (F : Fence) (n : Nat) (h110 : F.fn 110) (hro : F.round = none) (hn : 1 ≤ n) (l Bs n₀ cap : Nat) (ad : Addr) (zs : List Int) (h4 : zs.length ≤ 4) (h1 : 1 ≤ zs.length) (hb : ad.block < n₀) (J Jx : List BI → World → Prop)
    (hY : ∀ pre x W, J pre W → pre.length < zs.length → YieldAt F (n - 1) Try.prog l (bkEnc x) W fun e W' =>
      (e = .returned (.bool true) ∧ J (pre ++ [x]) W' ∧ KB n₀ Bs W W') ∨ (e = .returned (.bool false) ∧ Jx (pre ++ [x]) W'))
    (W : World) (hBs : W.cell? ⟨Bs, 0, none⟩ = some (.slice (some ad) zs.length cap)) (hc : ∀ j : Nat, j < zs.length → W.cell? (ad.add j) = some (.int .i16 (rd zs (j : Int)))) (h0 : J [] W) :
    CallsIn F n Try.prog 110 #[.func (.yield l) #[] #[], .pointer (some ⟨Bs, 0, none⟩)] W fun e W' => (∃ v, e = .returned v) ∧
      ((∃ ys, ys = bkUp zs h4 zs.length ∧ J ys W') ∨ (∃ pre, (∃ k, k ≤ zs.length ∧ pre = bkUp zs h4 k) ∧ Jx pre W')) := by
  refine callsIn_of_wp Try.func110 rfl h110 ?_ hro
  simp only [Try.ntmps110, List.size_toArray, List.length_cons, List.length_nil, Nat.reduceAdd, Nat.reduceSub, Array.replicate_succ, Array.replicate_zero, List.push_toArray, List.append_toArray, List.nil_append, List.cons_append]
  gi_wp2
  gi_loopw [3] (fun i wr => ∃ k : Nat, k ≤ zs.length ∧ i = .int .i64 ((zs.length : Int) - 1 - k) ∧ J (bkUp zs h4 k) wr ∧ KB n₀ Bs W wr)
    (fun i _ => (intOf i + 1).toNat)
  case atStart => exact ⟨0, Nat.zero_le _, by simp [wrap64], h0, ⟨Below.refl _ _, fun _ e => e⟩⟩
  case round =>
    obtain ⟨k, hk, rfl, hJs, hnx⟩ := hrel
    have hBs' := hnx.2 _ hBs
    by_cases hlt : k < zs.length
    · have hcx : wr.cell? (ad.add (zs.length - 1 - k)) = some (.int .i16 (rd zs ((zs.length - 1 - k : Nat) : Int))) := (hnx.1.cell (p := ad.add (zs.length - 1 - k)) (by rw [zw]; exact hb)).trans (hc _ (by omega))
      obtain ⟨fn, tmps, assign, body, hy, hR⟩ := hY _ (bk zs h4 k) wr hJs (by rw [bkUp_length]; exact hlt)
      dsimp only [bkEnc, bk] at hy
      obtain ⟨m, hm⟩ : ∃ m : Nat, (zs.length : Int) - 1 - k = (m : Int) := ⟨zs.length - 1 - k, by omega⟩
      have em : zs.length - 1 - k = m := by omega
      rw [em] at hcx hy
      rw [hm]
      have p0 : 0 ≤ (m : Int) := by omega
      have q0 : (m : Int) < (zs.length : Int) := by omega
      gi_wp2
      refine hR.mono ?_
      rintro e W3 (⟨rfl, hJ3, hk3⟩ | ⟨rfl, hJx3⟩)
      · gi_wp2
        go_roundw
        case rel => exact ⟨k + 1, by omega, by first | (simp [wrap64]; done) | (simp [wrap64]; omega), by rw [zce]; exact hJ3, KB_t hnx hk3⟩
        case measure => first | (simp [intOf, wrap64]; done) | (simp [intOf, wrap64]; omega)
      · gi_wp2
        refine bodyPost_ret (results_none rfl _ _ _) rfl ?_
        exact ⟨⟨_, rfl⟩, .inr ⟨_, ⟨k + 1, by omega, (zce _ _ _).symm⟩, hJx3⟩⟩
    · obtain rfl : k = zs.length := by omega
      have n0 : ¬ (0 ≤ (zs.length : Int) - 1 - (zs.length : Int)) := by omega
      gi_wp2
      go_end0
      first | exact ⟨⟨_, rfl⟩, .inl hJs⟩ | exact ⟨⟨_, rfl⟩, .inl ⟨_, rfl, hJs⟩⟩ | exact hJs
/-- One round: the number so far, one jug more. -/
def zvc (W : List Int) (acc : Int) (x : BI) : Int := wrap64 (wrap64 (acc * wrap64 (wrap64 x.1.2 + 1)) + wrap64 (rd W (x.1.1 : Int)))
def idxV (l W : List Int) (h : l.length ≤ 4) : Int := (bkUp l h l.length).foldl (zvc W) 0
def impl_Puzzle_index.f (l0_0 : List Int) (_a0_1 : Int) (_a0_2 : Int) (_a0_3 : Int) (_a0_4 : Int) (_a0_5 : Bool) (a1_0 : Int) (a1_1 : Int) (a1_2 : Int) (a1_3 : Int) : Option Int := if h : 1 ≤ l0_0.length ∧ l0_0.length ≤ 4 then some (idxV l0_0 [a1_0, a1_1, a1_2, a1_3] h.2) else none
/-- slices.Backward's value. -/
theorem backward_in (F : Fence) (n : Nat) (h93 : F.fn 93) (hro : F.round = none) (a : Option Addr) (len cap : Nat) (w : World) :
    CallsIn F n Try.prog 93 #[.slice a len cap] w fun e w' => e = .returned (.func (.func 110) #[] #[.pointer (some ⟨w.heap.size, 0, none⟩)]) ∧ w' = w.alloc (.cells #[.slice a len cap] 24) := by
  refine callsIn_of_wp Try.func93 rfl h93 ?_ hro
  simp only [Try.ntmps93, List.size_toArray, List.length_cons, List.length_nil, Nat.reduceAdd, Nat.reduceSub, Array.replicate_succ, Array.replicate_zero, List.push_toArray, List.append_toArray, List.nil_append, List.cons_append]
  gi_wp2
  go_ret
  exact ⟨rfl, rfl⟩
theorem zqe (F : Fence) (n : Nat) (h110 : F.fn 110) (hro : F.round = none) (hn : 1 ≤ n) (Bs n₀ cap : Nat) (ad : Addr) (zs : List Int) (h4 : zs.length ≤ 4) (h1 : 1 ≤ zs.length) (w : World) (hBs : Bs < w.heap.size) (hn₀ : n₀ ≤ w.heap.size) (hb : ad.block < n₀)
    (hc : w.cell? ⟨Bs, 0, none⟩ = some (.slice (some ad) zs.length cap)) (hI : ∀ j : Nat, j < zs.length → w.cell? (ad.add j) = some (.int .i16 (rd zs (j : Int)))) :
    SeqStopsK F n Try.prog 110 #[.pointer (some ⟨Bs, 0, none⟩)] bkEnc (KB n₀ Bs) (fun ys => ys = bkUp zs h4 zs.length) (fun pre => ∃ k, k ≤ zs.length ∧ pre = bkUp zs h4 k) zs.length w := fun l J Jx W hW _ _ hY h0 => by
  have hc' := (hW.cell (p := ⟨Bs, 0, none⟩) hBs).trans hc
  exact back1_in F n h110 hro hn l Bs n₀ cap ad zs h4 h1 hb J Jx hY W hc' (fun j hj => (hW.cell (p := ad.add j) (by rw [zw]; exact Nat.lt_of_lt_of_le hb hn₀)).trans (hI j hj)) h0
/-- Behind the store of a round. -/
theorem zdd {W w : World} {a : Act} (L : List Int) (s : Nat) (hs : s = w.heap.size) (a1_0 a1_1 a1_2 a1_3 : Int) (pre : List BI) (x : BI) (acc : Int) (hacc : acc = pre.foldl (zvc L) 0) (u : Int) (hu : u = zvc L acc x)
    (hc : W.cell? ⟨s + 1 + 1, 0, none⟩ = some (.int .i64 acc)) (hf : W.frozen? ⟨s + 1 + 1, 0, none⟩ = false) (k0 : W.cell? ⟨s + 1, 0, none⟩ = some (.int .i16 a1_0)) (k1 : W.cell? ⟨s + 1, 1, none⟩ = some (.int .i16 a1_1)) (k2 : W.cell? ⟨s + 1, 2, none⟩ = some (.int .i16 a1_2)) (k3 : W.cell? ⟨s + 1, 3, none⟩ = some (.int .i16 a1_3)) (hB : Below w.heap.size w W) :
    ownPostK (KB w.heap.size (w.heap.size + 1 + 1 + 1)) (fun pre W => ((W.cell? ⟨w.heap.size + 1 + 1, 0, none⟩ = some (.int .i64 (pre.foldl (zvc L) 0)) ∧ W.frozen? ⟨w.heap.size + 1 + 1, 0, none⟩ = false) ∧ W.cell? ⟨w.heap.size + 1, 0, none⟩ = some (.int .i16 a1_0) ∧ W.cell? ⟨w.heap.size + 1, 1, none⟩ = some (.int .i16 a1_1) ∧ W.cell? ⟨w.heap.size + 1, 2, none⟩ = some (.int .i16 a1_2) ∧ W.cell? ⟨w.heap.size + 1, 3, none⟩ = some (.int .i16 a1_3)) ∧ Below w.heap.size w W)
      (fun _ _ _ => False) (pre ++ [x]) W .normal a (W.setCell ⟨w.heap.size + 1 + 1, 0, none⟩ (.int .i64 u)).drew := by
  subst hs
  have far : ∀ (b off : Nat), b ≠ w.heap.size + 1 + 1 → (W.setCell ⟨w.heap.size + 1 + 1, 0, none⟩ (.int .i64 u)).drew.cell? ⟨b, off, none⟩ = W.cell? ⟨b, off, none⟩ := fun b off h => zx (p := ⟨w.heap.size + 1 + 1, 0, none⟩) (a := ⟨b, off, none⟩) h _
  have hBW : ∀ {A : World}, Below w.heap.size A W → Below w.heap.size A (W.setCell ⟨w.heap.size + 1 + 1, 0, none⟩ (.int .i64 u)).drew := fun h => (h.setCell (p := ⟨w.heap.size + 1 + 1, 0, none⟩) (by dsimp only; omega) _).drew
  refine ⟨(KeepsOthers.setCell _ _ _).trans (KeepsOthers.drew _), ⟨hBW (Below.refl _ _), fun v e => (far _ _ (by omega)).trans e⟩, ⟨⟨?_, ?_⟩, (far _ _ (by omega)).trans k0, (far _ _ (by omega)).trans k1, (far _ _ (by omega)).trans k2, (far _ _ (by omega)).trans k3⟩, hBW hB⟩
  · rw [List.foldl_append, List.foldl_cons, List.foldl_nil, ← hacc, ← hu]
    exact World.cell?_setCell_same' W ⟨w.heap.size + 1 + 1, 0, none⟩ (.int .i64 u) (by rw [hc]; rfl)
  · rw [frozen_drew_own, World.frozen?_setCell]
    exact hf
set_option maxRecDepth 100000 in
set_option maxHeartbeats 4000000 in
theorem impl_Puzzle_index.calls (A0_0 : Option Addr) (c0_0 : Nat) (l0_0 : List Int) (a0_1 : Int) (a0_2 : Int) (a0_3 : Int) (a0_4 : Int) (a0_5 : Bool) (a1_0 : Int) (a1_1 : Int) (a1_2 : Int) (a1_3 : Int) (r : Int) (w : World) (hr0_0 : Kd.C (Kd.int .i16) w A0_0 l0_0.length l0_0) (hc0_0 : l0_0.length ≤ c0_0) (h : impl_Puzzle_index.f l0_0 a0_1 a0_2 a0_3 a0_4 a0_5 a1_0 a1_1 a1_2 a1_3 = some r) :
    Calls Try.prog 56 #[.agg #[.slice A0_0 l0_0.length c0_0, .int .i16 a0_1, .int .i16 a0_2, .int .i16 a0_3, .int .i16 a0_4, .bool a0_5], .agg #[.int .i16 a1_0, .int .i16 a1_1, .int .i16 a1_2, .int .i16 a1_3]] w fun e w' => e = .returned (.int .i64 r) ∧ Below w.heap.size w w' := by
  unfold impl_Puzzle_index.f at h
  by_cases hh : 1 ≤ l0_0.length ∧ l0_0.length ≤ 4
  case neg => rw [dif_neg hh] at h; cases h
  rw [dif_pos hh] at h
  obtain rfl := Option.some.inj h
  clear h
  obtain ⟨h1, h4⟩ := hh
  obtain ⟨ad, hA, hcell0⟩ := Kd.at_int hr0_0 0 (by omega) (by omega)
  subst hA
  have hblk : ad.block < w.heap.size := by
    have := World.block_lt_of_cell? w _ hcell0
    rw [zw] at this
    exact this
  have hcells : ∀ j : Nat, j < l0_0.length → w.cell? (ad.add j) = some (.int .i16 (rd l0_0 (j : Int))) := by
    intro j hj
    obtain ⟨ad2, e2, hc2⟩ := Kd.at_int hr0_0 (j : Int) (by omega) (by omega)
    cases e2
    rw [Int.toNat_natCast] at hc2
    exact hc2
  clear hcell0 hr0_0
  have hu29 := Try.underlying29
  have hu27 := Try.underlying27
  refine (callsIn_wide (n := 4)).1 ?_
  have hro : Fence.wide.round = none := rfl
  refine callsIn_of_wp_marks Try.func56 rfl trivial ?_ hro
  simp only [Try.ntmps56, List.size_toArray, List.length_cons, List.length_nil, Nat.reduceAdd, Nat.reduceSub, Array.replicate_succ, Array.replicate_zero, List.push_toArray, List.append_toArray, List.nil_append, List.cons_append]
  gi_wp2_with (refine ⟨trivial, ?_⟩; gi_at_call 93; refine (backward_in Fence.wide 3 trivial hro _ _ _ _).mono ?_; rintro e w' ⟨rfl, rfl⟩)
  obtain ⟨o1, ho1⟩ : ∃ o : Obj, o = .cells #[.slice (some ad) l0_0.length c0_0, .int .i16 a0_1, .int .i16 a0_2, .int .i16 a0_3, .int .i16 a0_4, .bool a0_5] 29 (0, 0) := ⟨_, rfl⟩
  rw [← ho1]
  obtain ⟨o2, ho2⟩ : ∃ o : Obj, o = .cells #[.int .i16 a1_0, .int .i16 a1_1, .int .i16 a1_2, .int .i16 a1_3] 27 (0, 0) := ⟨_, rfl⟩
  rw [← ho2]
  obtain ⟨o3, ho3⟩ : ∃ o : Obj, o = .cells #[.int .i64 0] 2 (0, 0) := ⟨_, rfl⟩
  rw [← ho3]
  obtain ⟨o4, ho4⟩ : ∃ o : Obj, o = .cells #[.slice (some ad) l0_0.length c0_0] 24 (0, 0) := ⟨_, rfl⟩
  rw [← ho4]
  have hB0 : Below w.heap.size w ((((w.alloc o1).alloc o2).alloc o3).alloc o4) := by repeat (first | exact Below.refl _ _ | apply zj)
  have hs : ((((w.alloc o1).alloc o2).alloc o3).alloc o4).heap.size = w.heap.size + 1 + 1 + 1 + 1 := by simp
  have b2 : ((((w.alloc o1).alloc o2).alloc o3).alloc o4).heap[w.heap.size + 1]? = some o2 := by
    have := heap_alloc_new (w.alloc o1) o2
    rw [World.size_alloc] at this
    exact zf (zf this _) _
  have b3 : ((((w.alloc o1).alloc o2).alloc o3).alloc o4).heap[w.heap.size + 1 + 1]? = some o3 := by
    have := heap_alloc_new ((w.alloc o1).alloc o2) o3
    rw [World.size_alloc, World.size_alloc] at this
    exact zf this _
  have b4 : ((((w.alloc o1).alloc o2).alloc o3).alloc o4).heap[w.heap.size + 1 + 1 + 1]? = some o4 := by
    have := heap_alloc_new (((w.alloc o1).alloc o2).alloc o3) o4
    rw [World.size_alloc, World.size_alloc, World.size_alloc] at this
    exact this
  generalize (((w.alloc o1).alloc o2).alloc o3).alloc o4 = w4 at hB0 hs b2 b3 b4 ⊢
  subst ho2 ho3 ho4
  refine wpIn_rangeFunc_ownF hro (by omega) (gf := 110) (lb := #[.pointer (some ⟨w.heap.size + 1 + 1 + 1, 0, none⟩)]) rfl trivial (enters_of Try.func110 (by kernel_rfl) rfl)
    (zqe Fence.wide 3 trivial hro (by omega) (w.heap.size + 1 + 1 + 1) w.heap.size c0_0 ad l0_0 h4 h1 w4 (by omega) (by omega) hblk ((za b4 0).trans rfl) (fun j hj => (hB0.cell (p := ad.add j) (by rw [zw]; exact hblk)).trans (hcells j hj))) KB_t (KB_b (by omega)) (Below.refl _ _) (fun _ => rfl)
    (fun pre W => ((W.cell? ⟨w.heap.size + 1 + 1, 0, none⟩ = some (.int .i64 (pre.foldl (zvc [a1_0, a1_1, a1_2, a1_3]) 0)) ∧ W.frozen? ⟨w.heap.size + 1 + 1, 0, none⟩ = false) ∧ W.cell? ⟨w.heap.size + 1, 0, none⟩ = some (.int .i16 a1_0) ∧ W.cell? ⟨w.heap.size + 1, 1, none⟩ = some (.int .i16 a1_1) ∧ W.cell? ⟨w.heap.size + 1, 2, none⟩ = some (.int .i16 a1_2) ∧ W.cell? ⟨w.heap.size + 1, 3, none⟩ = some (.int .i16 a1_3)) ∧ Below w.heap.size w W)
    (fun _ _ _ => False)
    (OwnFrom.and (Own.from (fun s A B row hs hg hr => ⟨⟨Go.cell_kept hs.1.1 hg hr, (frozen_kept hs.1.1 hg hr).trans hs.1.2⟩, Go.cell_kept hs.2.1 hg hr, Go.cell_kept hs.2.2.1 hg hr, Go.cell_kept hs.2.2.2.1 hg hr, Go.cell_kept hs.2.2.2.2 hg hr⟩) _) (ownFrom_below (Nat.le_refl _) (by omega)))
    (fun _ _ _ _ _ hs _ _ => hs)
    ⟨⟨⟨(za b3 0).trans rfl, zb b3 0⟩, (za b2 0).trans rfl, (za b2 1).trans rfl, (za b2 2).trans rfl, (za b2 3).trans rfl⟩, hB0⟩
    (fun x => { tmps := #[.agg #[.slice (some ad) l0_0.length c0_0, .int .i16 a0_1, .int .i16 a0_2, .int .i16 a0_3, .int .i16 a0_4, .bool a0_5], .agg #[.int .i16 a1_0, .int .i16 a1_1, .int .i16 a1_2, .int .i16 a1_3], .pointer (some ⟨w.heap.size, 0, none⟩), .pointer (some ⟨w.heap.size + 1, 0, none⟩), .int .i64 0, .pointer (some ⟨w.heap.size + 1 + 1, 0, none⟩), .int .i64 (x.1.1 : Int), .int .i16 x.1.2, .pointer (some ⟨w.heap.size, 0, none⟩), .slice (some ad) l0_0.length c0_0, .func (.func 110) #[] #[.pointer (some ⟨w.heap.size + 1 + 1 + 1, 0, none⟩)], .int .i64 (x.1.1 : Int), .int .i16 x.1.2, undef, undef, undef, undef, undef, undef, undef, undef, undef, undef, undef], defers := [] }) ?assign ?body ?done ?stop
  case assign =>
    intro l x W K hK
    dsimp only [bkEnc]
    gi_wp2
    exact hK
  case body =>
    rintro l pre ⟨⟨j, v⟩, hj⟩ W ⟨⟨⟨hc, hf⟩, k0, k1, k2, k3⟩, hB⟩ _
    dsimp only at hj ⊢
    have e4 : j = 0 ∨ j = 1 ∨ j = 2 ∨ j = 3 := by omega
    obtain ⟨acc, hacc⟩ : ∃ acc : Int, acc = pre.foldl (zvc [a1_0, a1_1, a1_2, a1_3]) 0 := ⟨_, rfl⟩
    rw [← hacc] at hc
    have HACC := ze.mk hacc
    clear hacc
    have hc' : W.drew.cell? ⟨w.heap.size + 1 + 1, 0, none⟩ = some (.int .i64 acc) := hc
    have hf' : W.drew.frozen? ⟨w.heap.size + 1 + 1, 0, none⟩ = false := hf
    have k0' : W.drew.cell? ⟨w.heap.size + 1, 0, none⟩ = some (.int .i16 a1_0) := k0
    have k1' : W.drew.cell? ⟨w.heap.size + 1, 1, none⟩ = some (.int .i16 a1_1) := k1
    have k2' : W.drew.cell? ⟨w.heap.size + 1, 2, none⟩ = some (.int .i16 a1_2) := k2
    have k3' : W.drew.cell? ⟨w.heap.size + 1, 3, none⟩ = some (.int .i16 a1_3) := k3
    rcases e4 with rfl | rfl | rfl | rfl
    ·gi_wp2
     refine wpIn_region_any (by kernel_rfl) ?_
     refine reg11 (W := W.drew) (fun t0 t1 t2 t3 t4 t5 t6 t7 t8 t9 => { tmps := #[.agg #[.slice (some ad) l0_0.length c0_0, .int .i16 a0_1, .int .i16 a0_2, .int .i16 a0_3, .int .i16 a0_4, .bool a0_5], .agg #[.int .i16 a1_0, .int .i16 a1_1, .int .i16 a1_2, .int .i16 a1_3], .pointer (some ⟨w.heap.size, 0, none⟩), .pointer (some ⟨w.heap.size + 1, 0, none⟩), .int .i64 0, .pointer (some ⟨w.heap.size + 1 + 1, 0, none⟩), .int .i64 0, .int .i16 v, .pointer (some ⟨w.heap.size, 0, none⟩), .slice (some ad) l0_0.length c0_0, .func (.func 110) #[] #[.pointer (some ⟨w.heap.size + 1 + 1 + 1, 0, none⟩)], .int .i64 0, .int .i16 v, t0, t1, t2, t3, t4, t5, t6, t7, t8, t9, undef], defers := [] })
       (.int .i64 acc) (.int .i16 v) (.int .i64 (wrap64 v)) (.int .i64 (wrap64 (wrap64 v + 1))) (.int .i64 (wrap64 (acc * wrap64 (wrap64 v + 1)))) (.int .i64 0) (.pointer (some ⟨w.heap.size + 1, 0, none⟩)) (.int .i16 a1_0) (.int .i64 (wrap64 a1_0)) (.int .i64 (wrap64 (wrap64 (acc * wrap64 (wrap64 v + 1)) + wrap64 a1_0)))
       (by kernel_rfl) ?s0 ?s1 ?s2 ?s3 ?s4 ?s5 ?s6 ?s7 ?s8 ?s9 ?s10 undef
     case s0 =>
      intro K t0 t1 t2 t3 t4 t5 t6 t7 t8 t9 hK
      refine wpOpIn_step rfl (fun K' hK' => ?_)
      go_simp
      (try simp only [zy])
      exact hK' _ _ hK
     case s1 =>
      intro K t0 t1 t2 t3 t4 t5 t6 t7 t8 t9 hK
      refine wpOpIn_step rfl (fun K' hK' => ?_)
      go_simp
      (try simp only [zy])
      exact hK' _ _ hK
     case s2 =>
      intro K t0 t1 t2 t3 t4 t5 t6 t7 t8 t9 e1 hK
      subst e1
      refine wpOpIn_step rfl (fun K' hK' => ?_)
      go_simp
      (try simp only [zy])
      exact hK' _ _ hK
     case s3 =>
      intro K t0 t1 t2 t3 t4 t5 t6 t7 t8 t9 e2 hK
      subst e2
      refine wpOpIn_step rfl (fun K' hK' => ?_)
      go_simp
      (try simp only [zy])
      exact hK' _ _ hK
     case s4 =>
      intro K t0 t1 t2 t3 t4 t5 t6 t7 t8 t9 e0 e3 hK
      subst e0 e3
      refine wpOpIn_step rfl (fun K' hK' => ?_)
      go_simp
      (try simp only [zy])
      exact hK' _ _ hK
     case s5 =>
      intro K t0 t1 t2 t3 t4 t5 t6 t7 t8 t9 hK
      refine wpOpIn_step rfl (fun K' hK' => ?_)
      go_simp
      (try simp only [zy])
      exact hK' _ _ hK
     case s6 =>
      intro K t0 t1 t2 t3 t4 t5 t6 t7 t8 t9 e5 hK
      subst e5
      refine wpOpIn_step rfl (fun K' hK' => ?_)
      go_simp
      (try simp only [zy])
      exact hK' _ _ hK
     case s7 =>
      intro K t0 t1 t2 t3 t4 t5 t6 t7 t8 t9 e6 hK
      subst e6
      refine wpOpIn_step rfl (fun K' hK' => ?_)
      go_simp
      (try simp only [zy])
      exact hK' _ _ hK
     case s8 =>
      intro K t0 t1 t2 t3 t4 t5 t6 t7 t8 t9 e7 hK
      subst e7
      refine wpOpIn_step rfl (fun K' hK' => ?_)
      go_simp
      (try simp only [zy])
      exact hK' _ _ hK
     case s9 =>
      intro K t0 t1 t2 t3 t4 t5 t6 t7 t8 t9 e4 e8 hK
      subst e4 e8
      refine wpOpIn_step rfl (fun K' hK' => ?_)
      go_simp
      (try simp only [zy])
      exact hK' _ _ hK
     case s10 =>
      intro K hK
      refine wpOpIn_step rfl (fun K' hK' => ?_)
      go_simp
      refine hK' _ _ (hK _ _ ?_)
      gi_wp2
      exact zdd [a1_0, a1_1, a1_2, a1_3] w.heap.size rfl a1_0 a1_1 a1_2 a1_3 pre _ acc HACC.out _ rfl hc hf k0 k1 k2 k3 hB
    ·gi_wp2
     refine wpIn_region_any (by kernel_rfl) ?_
     refine reg11 (W := W.drew) (fun t0 t1 t2 t3 t4 t5 t6 t7 t8 t9 => { tmps := #[.agg #[.slice (some ad) l0_0.length c0_0, .int .i16 a0_1, .int .i16 a0_2, .int .i16 a0_3, .int .i16 a0_4, .bool a0_5], .agg #[.int .i16 a1_0, .int .i16 a1_1, .int .i16 a1_2, .int .i16 a1_3], .pointer (some ⟨w.heap.size, 0, none⟩), .pointer (some ⟨w.heap.size + 1, 0, none⟩), .int .i64 0, .pointer (some ⟨w.heap.size + 1 + 1, 0, none⟩), .int .i64 1, .int .i16 v, .pointer (some ⟨w.heap.size, 0, none⟩), .slice (some ad) l0_0.length c0_0, .func (.func 110) #[] #[.pointer (some ⟨w.heap.size + 1 + 1 + 1, 0, none⟩)], .int .i64 1, .int .i16 v, t0, t1, t2, t3, t4, t5, t6, t7, t8, t9, undef], defers := [] })
       (.int .i64 acc) (.int .i16 v) (.int .i64 (wrap64 v)) (.int .i64 (wrap64 (wrap64 v + 1))) (.int .i64 (wrap64 (acc * wrap64 (wrap64 v + 1)))) (.int .i64 1) (.pointer (some ⟨w.heap.size + 1, 1, none⟩)) (.int .i16 a1_1) (.int .i64 (wrap64 a1_1)) (.int .i64 (wrap64 (wrap64 (acc * wrap64 (wrap64 v + 1)) + wrap64 a1_1)))
       (by kernel_rfl) ?s0 ?s1 ?s2 ?s3 ?s4 ?s5 ?s6 ?s7 ?s8 ?s9 ?s10 undef
     case s0 =>
      intro K t0 t1 t2 t3 t4 t5 t6 t7 t8 t9 hK
      refine wpOpIn_step rfl (fun K' hK' => ?_)
      go_simp
      (try simp only [zy])
      exact hK' _ _ hK
     case s1 =>
      intro K t0 t1 t2 t3 t4 t5 t6 t7 t8 t9 hK
      refine wpOpIn_step rfl (fun K' hK' => ?_)
      go_simp
      (try simp only [zy])
      exact hK' _ _ hK
     case s2 =>
      intro K t0 t1 t2 t3 t4 t5 t6 t7 t8 t9 e1 hK
      subst e1
      refine wpOpIn_step rfl (fun K' hK' => ?_)
      go_simp
      (try simp only [zy])
      exact hK' _ _ hK
     case s3 =>
      intro K t0 t1 t2 t3 t4 t5 t6 t7 t8 t9 e2 hK
      subst e2
      refine wpOpIn_step rfl (fun K' hK' => ?_)
      go_simp
      (try simp only [zy])
      exact hK' _ _ hK
     case s4 =>
      intro K t0 t1 t2 t3 t4 t5 t6 t7 t8 t9 e0 e3 hK
      subst e0 e3
      refine wpOpIn_step rfl (fun K' hK' => ?_)
      go_simp
      (try simp only [zy])
      exact hK' _ _ hK
     case s5 =>
      intro K t0 t1 t2 t3 t4 t5 t6 t7 t8 t9 hK
      refine wpOpIn_step rfl (fun K' hK' => ?_)
      go_simp
      (try simp only [zy])
      exact hK' _ _ hK
     case s6 =>
      intro K t0 t1 t2 t3 t4 t5 t6 t7 t8 t9 e5 hK
      subst e5
      refine wpOpIn_step rfl (fun K' hK' => ?_)
      go_simp
      (try simp only [zy])
      exact hK' _ _ hK
     case s7 =>
      intro K t0 t1 t2 t3 t4 t5 t6 t7 t8 t9 e6 hK
      subst e6
      refine wpOpIn_step rfl (fun K' hK' => ?_)
      go_simp
      (try simp only [zy])
      exact hK' _ _ hK
     case s8 =>
      intro K t0 t1 t2 t3 t4 t5 t6 t7 t8 t9 e7 hK
      subst e7
      refine wpOpIn_step rfl (fun K' hK' => ?_)
      go_simp
      (try simp only [zy])
      exact hK' _ _ hK
     case s9 =>
      intro K t0 t1 t2 t3 t4 t5 t6 t7 t8 t9 e4 e8 hK
      subst e4 e8
      refine wpOpIn_step rfl (fun K' hK' => ?_)
      go_simp
      (try simp only [zy])
      exact hK' _ _ hK
     case s10 =>
      intro K hK
      refine wpOpIn_step rfl (fun K' hK' => ?_)
      go_simp
      refine hK' _ _ (hK _ _ ?_)
      gi_wp2
      exact zdd [a1_0, a1_1, a1_2, a1_3] w.heap.size rfl a1_0 a1_1 a1_2 a1_3 pre _ acc HACC.out _ rfl hc hf k0 k1 k2 k3 hB
    ·gi_wp2
     refine wpIn_region_any (by kernel_rfl) ?_
     refine reg11 (W := W.drew) (fun t0 t1 t2 t3 t4 t5 t6 t7 t8 t9 => { tmps := #[.agg #[.slice (some ad) l0_0.length c0_0, .int .i16 a0_1, .int .i16 a0_2, .int .i16 a0_3, .int .i16 a0_4, .bool a0_5], .agg #[.int .i16 a1_0, .int .i16 a1_1, .int .i16 a1_2, .int .i16 a1_3], .pointer (some ⟨w.heap.size, 0, none⟩), .pointer (some ⟨w.heap.size + 1, 0, none⟩), .int .i64 0, .pointer (some ⟨w.heap.size + 1 + 1, 0, none⟩), .int .i64 2, .int .i16 v, .pointer (some ⟨w.heap.size, 0, none⟩), .slice (some ad) l0_0.length c0_0, .func (.func 110) #[] #[.pointer (some ⟨w.heap.size + 1 + 1 + 1, 0, none⟩)], .int .i64 2, .int .i16 v, t0, t1, t2, t3, t4, t5, t6, t7, t8, t9, undef], defers := [] })
       (.int .i64 acc) (.int .i16 v) (.int .i64 (wrap64 v)) (.int .i64 (wrap64 (wrap64 v + 1))) (.int .i64 (wrap64 (acc * wrap64 (wrap64 v + 1)))) (.int .i64 2) (.pointer (some ⟨w.heap.size + 1, 2, none⟩)) (.int .i16 a1_2) (.int .i64 (wrap64 a1_2)) (.int .i64 (wrap64 (wrap64 (acc * wrap64 (wrap64 v + 1)) + wrap64 a1_2)))
       (by kernel_rfl) ?s0 ?s1 ?s2 ?s3 ?s4 ?s5 ?s6 ?s7 ?s8 ?s9 ?s10 undef
     case s0 =>
      intro K t0 t1 t2 t3 t4 t5 t6 t7 t8 t9 hK
      refine wpOpIn_step rfl (fun K' hK' => ?_)
      go_simp
      (try simp only [zy])
      exact hK' _ _ hK
     case s1 =>
      intro K t0 t1 t2 t3 t4 t5 t6 t7 t8 t9 hK
      refine wpOpIn_step rfl (fun K' hK' => ?_)
      go_simp
      (try simp only [zy])
      exact hK' _ _ hK
     case s2 =>
      intro K t0 t1 t2 t3 t4 t5 t6 t7 t8 t9 e1 hK
      subst e1
      refine wpOpIn_step rfl (fun K' hK' => ?_)
      go_simp
      (try simp only [zy])
      exact hK' _ _ hK
     case s3 =>
      intro K t0 t1 t2 t3 t4 t5 t6 t7 t8 t9 e2 hK
      subst e2
      refine wpOpIn_step rfl (fun K' hK' => ?_)
      go_simp
      (try simp only [zy])
      exact hK' _ _ hK
     case s4 =>
      intro K t0 t1 t2 t3 t4 t5 t6 t7 t8 t9 e0 e3 hK
      subst e0 e3
      refine wpOpIn_step rfl (fun K' hK' => ?_)
      go_simp
      (try simp only [zy])
      exact hK' _ _ hK
     case s5 =>
      intro K t0 t1 t2 t3 t4 t5 t6 t7 t8 t9 hK
      refine wpOpIn_step rfl (fun K' hK' => ?_)
      go_simp
      (try simp only [zy])
      exact hK' _ _ hK
     case s6 =>
      intro K t0 t1 t2 t3 t4 t5 t6 t7 t8 t9 e5 hK
      subst e5
      refine wpOpIn_step rfl (fun K' hK' => ?_)
      go_simp
      (try simp only [zy])
      exact hK' _ _ hK
     case s7 =>
      intro K t0 t1 t2 t3 t4 t5 t6 t7 t8 t9 e6 hK
      subst e6
      refine wpOpIn_step rfl (fun K' hK' => ?_)
      go_simp
      (try simp only [zy])
      exact hK' _ _ hK
     case s8 =>
      intro K t0 t1 t2 t3 t4 t5 t6 t7 t8 t9 e7 hK
      subst e7
      refine wpOpIn_step rfl (fun K' hK' => ?_)
      go_simp
      (try simp only [zy])
      exact hK' _ _ hK
     case s9 =>
      intro K t0 t1 t2 t3 t4 t5 t6 t7 t8 t9 e4 e8 hK
      subst e4 e8
      refine wpOpIn_step rfl (fun K' hK' => ?_)
      go_simp
      (try simp only [zy])
      exact hK' _ _ hK
     case s10 =>
      intro K hK
      refine wpOpIn_step rfl (fun K' hK' => ?_)
      go_simp
      refine hK' _ _ (hK _ _ ?_)
      gi_wp2
      exact zdd [a1_0, a1_1, a1_2, a1_3] w.heap.size rfl a1_0 a1_1 a1_2 a1_3 pre _ acc HACC.out _ rfl hc hf k0 k1 k2 k3 hB
    ·gi_wp2
     refine wpIn_region_any (by kernel_rfl) ?_
     refine reg11 (W := W.drew) (fun t0 t1 t2 t3 t4 t5 t6 t7 t8 t9 => { tmps := #[.agg #[.slice (some ad) l0_0.length c0_0, .int .i16 a0_1, .int .i16 a0_2, .int .i16 a0_3, .int .i16 a0_4, .bool a0_5], .agg #[.int .i16 a1_0, .int .i16 a1_1, .int .i16 a1_2, .int .i16 a1_3], .pointer (some ⟨w.heap.size, 0, none⟩), .pointer (some ⟨w.heap.size + 1, 0, none⟩), .int .i64 0, .pointer (some ⟨w.heap.size + 1 + 1, 0, none⟩), .int .i64 3, .int .i16 v, .pointer (some ⟨w.heap.size, 0, none⟩), .slice (some ad) l0_0.length c0_0, .func (.func 110) #[] #[.pointer (some ⟨w.heap.size + 1 + 1 + 1, 0, none⟩)], .int .i64 3, .int .i16 v, t0, t1, t2, t3, t4, t5, t6, t7, t8, t9, undef], defers := [] })
       (.int .i64 acc) (.int .i16 v) (.int .i64 (wrap64 v)) (.int .i64 (wrap64 (wrap64 v + 1))) (.int .i64 (wrap64 (acc * wrap64 (wrap64 v + 1)))) (.int .i64 3) (.pointer (some ⟨w.heap.size + 1, 3, none⟩)) (.int .i16 a1_3) (.int .i64 (wrap64 a1_3)) (.int .i64 (wrap64 (wrap64 (acc * wrap64 (wrap64 v + 1)) + wrap64 a1_3)))
       (by kernel_rfl) ?s0 ?s1 ?s2 ?s3 ?s4 ?s5 ?s6 ?s7 ?s8 ?s9 ?s10 undef
     case s0 =>
      intro K t0 t1 t2 t3 t4 t5 t6 t7 t8 t9 hK
      refine wpOpIn_step rfl (fun K' hK' => ?_)
      go_simp
      (try simp only [zy])
      exact hK' _ _ hK
     case s1 =>
      intro K t0 t1 t2 t3 t4 t5 t6 t7 t8 t9 hK
      refine wpOpIn_step rfl (fun K' hK' => ?_)
      go_simp
      (try simp only [zy])
      exact hK' _ _ hK
     case s2 =>
      intro K t0 t1 t2 t3 t4 t5 t6 t7 t8 t9 e1 hK
      subst e1
      refine wpOpIn_step rfl (fun K' hK' => ?_)
      go_simp
      (try simp only [zy])
      exact hK' _ _ hK
     case s3 =>
      intro K t0 t1 t2 t3 t4 t5 t6 t7 t8 t9 e2 hK
      subst e2
      refine wpOpIn_step rfl (fun K' hK' => ?_)
      go_simp
      (try simp only [zy])
      exact hK' _ _ hK
     case s4 =>
      intro K t0 t1 t2 t3 t4 t5 t6 t7 t8 t9 e0 e3 hK
      subst e0 e3
      refine wpOpIn_step rfl (fun K' hK' => ?_)
      go_simp
      (try simp only [zy])
      exact hK' _ _ hK
     case s5 =>
      intro K t0 t1 t2 t3 t4 t5 t6 t7 t8 t9 hK
      refine wpOpIn_step rfl (fun K' hK' => ?_)
      go_simp
      (try simp only [zy])
      exact hK' _ _ hK
     case s6 =>
      intro K t0 t1 t2 t3 t4 t5 t6 t7 t8 t9 e5 hK
      subst e5
      refine wpOpIn_step rfl (fun K' hK' => ?_)
      go_simp
      (try simp only [zy])
      exact hK' _ _ hK
     case s7 =>
      intro K t0 t1 t2 t3 t4 t5 t6 t7 t8 t9 e6 hK
      subst e6
      refine wpOpIn_step rfl (fun K' hK' => ?_)
      go_simp
      (try simp only [zy])
      exact hK' _ _ hK
     case s8 =>
      intro K t0 t1 t2 t3 t4 t5 t6 t7 t8 t9 e7 hK
      subst e7
      refine wpOpIn_step rfl (fun K' hK' => ?_)
      go_simp
      (try simp only [zy])
      exact hK' _ _ hK
     case s9 =>
      intro K t0 t1 t2 t3 t4 t5 t6 t7 t8 t9 e4 e8 hK
      subst e4 e8
      refine wpOpIn_step rfl (fun K' hK' => ?_)
      go_simp
      (try simp only [zy])
      exact hK' _ _ hK
     case s10 =>
      intro K hK
      refine wpOpIn_step rfl (fun K' hK' => ?_)
      go_simp
      refine hK' _ _ (hK _ _ ?_)
      gi_wp2
      exact zdd [a1_0, a1_1, a1_2, a1_3] w.heap.size rfl a1_0 a1_1 a1_2 a1_3 pre _ acc HACC.out _ rfl hc hf k0 k1 k2 k3 hB
  case done =>
    rintro D ys W hD rfl ⟨⟨⟨hc, _⟩, _⟩, hB⟩ hK
    gi_wp2
    refine ⟨by simp, .inl ⟨_, _, rfl, run_takeDeferred hK, ?_⟩⟩
    exact ⟨_, results_tmp rfl _ _ _, rfl, hB.trans (belowK_b (w := w) (Nat.le_refl _) W D _ _ (by omega) hK rfl rfl)⟩
  case stop =>
    rintro D c pre W hD _ h _
    exact h.elim
end Go.Proofs.Yteciomagemjjaaa.J
