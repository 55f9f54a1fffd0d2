/- The program's moved: the water behind a move. -/
import Derived.Test.YteciomagemjjaaaJx0
import Derived.BigRegion
namespace Go.Proofs.Yteciomagemjjaaa.J
open Go.RowKit Go.Proofs.YteciomagemjjaaaW.PrintWords Go.Proofs.YteciomagemjjaaaW.PrintLast Go.Proofs.YteciomagemjjaaaW.PrintMore
attribute [local go_sem] zna zpa zua zva zia zja zqa zoa   -- for this text's walks alone
set_option linter.unusedVariables false
set_option linter.unusedSimpArgs false

theorem eqA27 (d : Nat) (w : World) (x0 y0 : Int) (x1 y1 : Int) (x2 y2 : Int) (x3 y3 : Int) :
  (Op.equalIn (d + 2) 27 (.agg #[.int .i16 x0, .int .i16 x1, .int .i16 x2, .int .i16 x3]) (.agg #[.int .i16 y0, .int .i16 y1, .int .i16 y2, .int .i16 y3])).run Try.prog w = .ok (x0 == y0 && (x1 == y1 && (x2 == y2 && (x3 == y3)))) w := by
 obtain ⟨i, hi⟩ : ∃ i, Try.prog.info? 25 = some i := Option.isSome_iff_exists.mp (by kernel_rfl)
 rw [run_equalIn_array w (d + 1) _ _ Try.underlying27 hi, show Try.prog.cellsOf 25 = 1 by kernel_rfl, show List.range 4 = [0, 1, 2, 3] from rfl]
 refine zce (by go_simp; rfl) (by go_simp; rfl) (by go_simp) ?_
 refine zce (by go_simp; rfl) (by go_simp; rfl) (by go_simp) ?_
 refine zce (by go_simp; rfl) (by go_simp; rfl) (by go_simp) ?_
 exact eqi_last (by go_simp; rfl) (by go_simp; rfl) (by go_simp)
attribute [local go_sem high] eqA27
theorem zpd (w : World) (o3 o4 o5 o6 o8 : Obj) : ((((((w.alloc o3).alloc o4).alloc o5).alloc o6).alloc o8).drew).heap[w.heap.size + 1 + 1 + 1]? = some o6 := by
  have e : ((((w.alloc o3).alloc o4).alloc o5).heap.size) = w.heap.size + 1 + 1 + 1 := by simp
  rw [← e]
  exact zf (zc (heap_alloc_new _ _) _)
theorem zsd {w : World} {a : Addr} {v : Value} (h : w.cell? a = some v) (o3 o4 o5 o6 o8 : Obj) : (((((w.alloc o3).alloc o4).alloc o5).alloc o6).alloc o8).cell? a = some v :=
  ((show Below w.heap.size w (((((w.alloc o3).alloc o4).alloc o5).alloc o6).alloc o8) by repeat (first | exact Below.refl _ _ | apply zw)).cell (World.block_lt_of_cell? w _ h)).trans h
theorem five_cell {w : World} {a : Addr} {v : Value} (h : w.cell? a = some v) (o3 o4 o5 o6 o8 : Obj) : (((((w.alloc o3).alloc o4).alloc o5).alloc o6).alloc o8).drew.cell? a = some v := zsd h o3 o4 o5 o6 o8
def eq4 (x : Int × Int × Int × Int) (a b c d : Int) : Bool := x.1 == a && (x.2.1 == b && (x.2.2.1 == c && x.2.2.2 == d))
def rd4 (a b c d i : Int) : Int := rd [a, b, c, d] i
def st4 (a b c d i v : Int) : Int × Int × Int × Int := (if i = 0 then v else a, if i = 1 then v else b, if i = 2 then v else c, if i = 3 then v else d)
/-- What is poured, and the water behind it. -/
def much (l : List Int) (a b c d fr tt : Int) : Int := min (rd4 a b c d fr) (IntKind.i16.wrap (rd l tt - rd4 a b c d tt))
def mvP (l : List Int) (a b c d fr tt : Int) : Int × Int × Int × Int :=
  let o := st4 a b c d fr (IntKind.i16.wrap (rd4 a b c d fr - much l a b c d fr tt))
  st4 o.1 o.2.1 o.2.2.1 o.2.2.2 tt (IntKind.i16.wrap (rd4 o.1 o.2.1 o.2.2.1 o.2.2.2 tt + much l a b c d fr tt))
set_option maxHeartbeats 8000000 in
set_option maxRecDepth 100000 in
theorem moved_empty (A : Option Addr) (c0 : Nat) (l : List Int) (s0 s1 s2 s3 : Int) (tap : Bool) (w0 w1 w2 w3 fr tt : Int) (w : World) (hr0 : Kd.C (Kd.int .i16) w A l.length l) (hc0 : l.length ≤ c0) (hf : 0 ≤ fr ∧ fr < 4) :
    Calls Try.prog 92 #[.agg #[.slice A l.length c0, .int .i16 s0, .int .i16 s1, .int .i16 s2, .int .i16 s3, .bool tap], .agg #[.int .i16 w0, .int .i16 w1, .int .i16 w2, .int .i16 w3], .agg #[.int .i8 2, .int .i8 fr, .int .i8 tt]] w
      fun e w' => e = .returned (.tuple #[.agg #[.int .i16 (st4 w0 w1 w2 w3 fr 0).1, .int .i16 (st4 w0 w1 w2 w3 fr 0).2.1, .int .i16 (st4 w0 w1 w2 w3 fr 0).2.2.1, .int .i16 (st4 w0 w1 w2 w3 fr 0).2.2.2], .bool (tap && !eq4 (st4 w0 w1 w2 w3 fr 0) w0 w1 w2 w3)]) ∧ Below w.heap.size w w' := by
  have hu29 := Try.underlying29
  have hu27 := Try.underlying27
  have hu80 := Try.underlying80
  rcases (show fr = 0 ∨ fr = 1 ∨ fr = 2 ∨ fr = 3 by omega) with rfl | rfl | rfl | rfl <;> cases tap
  all_goals
    go_enter Try.func92, Try.ntmps92
    go_wp2
    go_region
    go_wp2
    refine bodyPost_ret (zha rfl _ _ (w.heap.size + 1 + 1 + 1) 27 #[.int .i16 _, .int .i16 _, .int .i16 _, .int .i16 _] (0, 0) _ rfl (zpd _ _ _ _ _ _) Try.underlying27 rfl (by kernel_rfl)) rfl ?_
    exact ⟨by simp [st4, eq4, rd4, mvP] <;> rfl, by repeat (first | exact Below.refl _ _ | apply zv | apply zw)⟩
set_option maxHeartbeats 8000000 in
set_option maxRecDepth 100000 in
theorem moved_fill (A : Option Addr) (c0 : Nat) (l : List Int) (s0 s1 s2 s3 : Int) (tap : Bool) (w0 w1 w2 w3 fr tt : Int) (w : World) (hr0 : Kd.C (Kd.int .i16) w A l.length l) (hc0 : l.length ≤ c0) (hf : 0 ≤ fr ∧ fr < 4) (hl : fr < l.length) :
    Calls Try.prog 92 #[.agg #[.slice A l.length c0, .int .i16 s0, .int .i16 s1, .int .i16 s2, .int .i16 s3, .bool tap], .agg #[.int .i16 w0, .int .i16 w1, .int .i16 w2, .int .i16 w3], .agg #[.int .i8 1, .int .i8 fr, .int .i8 tt]] w
      fun e w' => e = .returned (.tuple #[.agg #[.int .i16 (st4 w0 w1 w2 w3 fr (rd l fr)).1, .int .i16 (st4 w0 w1 w2 w3 fr (rd l fr)).2.1, .int .i16 (st4 w0 w1 w2 w3 fr (rd l fr)).2.2.1, .int .i16 (st4 w0 w1 w2 w3 fr (rd l fr)).2.2.2], .bool (tap && !eq4 (st4 w0 w1 w2 w3 fr (rd l fr)) w0 w1 w2 w3)]) ∧ Below w.heap.size w w' := by
  have hu29 := Try.underlying29
  have hu27 := Try.underlying27
  have hu80 := Try.underlying80
  obtain ⟨ad, eA, hx⟩ := Kd.at_int hr0 fr hf.1 hl
  cases eA
  have hlt := World.block_lt_of_cell? w _ hx
  obtain ⟨jf, hjf⟩ : ∃ x, x = rd l fr := ⟨_, rfl⟩
  rw [← hjf] at hx ⊢
  clear hjf
  have hxA := fun o3 o4 o5 o6 o8 => five_cell hx o3 o4 o5 o6 o8
  have hxB := fun o3 o4 o5 o6 o8 => zsd hx o3 o4 o5 o6 o8
  have hln : fr.toNat < l.length := by omega
  clear hx hlt
  rcases (show fr = 0 ∨ fr = 1 ∨ fr = 2 ∨ fr = 3 by omega) with rfl | rfl | rfl | rfl <;> cases tap
  all_goals
    simp [Addr.add] at hxA hxB
    simp only [Int.reduceToNat] at hln
    go_enter Try.func92, Try.ntmps92
    go_wp2
    go_region
    go_wp2
    go_region
    go_wp2
    refine bodyPost_ret (zha rfl _ _ (w.heap.size + 1 + 1 + 1) 27 #[.int .i16 _, .int .i16 _, .int .i16 _, .int .i16 _] (0, 0) _ rfl (zpd _ _ _ _ _ _) Try.underlying27 rfl (by kernel_rfl)) rfl ?_
    exact ⟨by simp [st4, eq4, rd4, mvP] <;> rfl, by repeat (first | exact Below.refl _ _ | apply zv | apply zw)⟩
end Go.Proofs.Yteciomagemjjaaa.J
