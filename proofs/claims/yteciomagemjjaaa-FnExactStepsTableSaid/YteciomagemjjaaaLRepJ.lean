/- slices.Repeat of one number. -/
import Derived.Test.YteciomagemjjaaaJx0
import Derived.Laws.Bits64b
import Derived.Laws.IdiomCopy
namespace Go.Proofs.Yteciomagemjjaaa.J
open Go.RowKit Go.Proofs.YteciomagemjjaaaW.PrintWords Go.Proofs.YteciomagemjjaaaW.PrintLast Go.Proofs.YteciomagemjjaaaW.PrintMore
set_option linter.unusedVariables false
set_option linter.unusedSimpArgs false
/-! ### bits_Mul64: function 109 -/
def bits_Mul64.f (a0 : Int) (a1 : Int) : Option (Int × Int) := some (IntKind.u64.wrap ((IntKind.u64.wrap ((IntKind.u64.wrap ((a0 / 4294967296) * (a1 / 4294967296))) + ((IntKind.u64.wrap ((IntKind.u64.wrap ((a0 / 4294967296) * (Go.bits .and .u64 a1 4294967295))) + ((IntKind.u64.wrap ((Go.bits .and .u64 a0 4294967295) * (Go.bits .and .u64 a1 4294967295))) / 4294967296))) / 4294967296))) + ((IntKind.u64.wrap ((Go.bits .and .u64 (IntKind.u64.wrap ((IntKind.u64.wrap ((a0 / 4294967296) * (Go.bits .and .u64 a1 4294967295))) + ((IntKind.u64.wrap ((Go.bits .and .u64 a0 4294967295) * (Go.bits .and .u64 a1 4294967295))) / 4294967296))) 4294967295) + (IntKind.u64.wrap ((Go.bits .and .u64 a0 4294967295) * (a1 / 4294967296))))) / 4294967296)), IntKind.u64.wrap (a0 * a1))
set_option maxHeartbeats 8000000 in
set_option maxRecDepth 100000 in
theorem bits_Mul64.calls (a0 : Int) (a1 : Int) (r1 : Int) (r2 : Int) (w : World) (h : bits_Mul64.f a0 a1 = some (r1, r2)) :
  Calls Try.prog 109 #[.int .u64 a0, .int .u64 a1] w fun e w' => e = .returned (.tuple #[.int .u64 r1, .int .u64 r2]) ∧ zda w w' := by
 have H : (some (IntKind.u64.wrap ((IntKind.u64.wrap ((IntKind.u64.wrap ((a0 / 4294967296) * (a1 / 4294967296))) + ((IntKind.u64.wrap ((IntKind.u64.wrap ((a0 / 4294967296) * (Go.bits .and .u64 a1 4294967295))) + ((IntKind.u64.wrap ((Go.bits .and .u64 a0 4294967295) * (Go.bits .and .u64 a1 4294967295))) / 4294967296))) / 4294967296))) + ((IntKind.u64.wrap ((Go.bits .and .u64 (IntKind.u64.wrap ((IntKind.u64.wrap ((a0 / 4294967296) * (Go.bits .and .u64 a1 4294967295))) + ((IntKind.u64.wrap ((Go.bits .and .u64 a0 4294967295) * (Go.bits .and .u64 a1 4294967295))) / 4294967296))) 4294967295) + (IntKind.u64.wrap ((Go.bits .and .u64 a0 4294967295) * (a1 / 4294967296))))) / 4294967296)), IntKind.u64.wrap (a0 * a1))) = some (r1, r2) := h
 clear h
 simp only [Option.some.injEq, Prod.mk.injEq] at H
 obtain ⟨rfl, rfl⟩ := H
 go_enter Try.func109, Try.ntmps109
 go_wp2
 go_ret2
 exact ⟨by first | rfl | (simp; done) | (simp [*]; done), by repeat (first | exact zda.refl _ | apply zda.step)⟩

/-! ### bits_Mul: function 90 -/
def bits_Mul.f (a0 : Int) (a1 : Int) : Option (Int × Int) := (bits_Mul64.f a0 a1).bind fun bt116 => (some (bt116.1, bt116.2))
set_option maxHeartbeats 8000000 in
set_option maxRecDepth 100000 in
theorem bits_Mul.calls (a0 : Int) (a1 : Int) (r1 : Int) (r2 : Int) (w : World) (h : bits_Mul.f a0 a1 = some (r1, r2)) :
  Calls Try.prog 90 #[.int .u64 a0, .int .u64 a1] w fun e w' => e = .returned (.tuple #[.int .u64 r1, .int .u64 r2]) ∧ zda w w' := by
 have H : ((bits_Mul64.f a0 a1).bind fun bt116 => (some (bt116.1, bt116.2))) = some (r1, r2) := h
 clear h
 replace H := Option.bind_eq_some_iff.mp H
 obtain ⟨⟨t116, t117⟩, A30, H⟩ := H
 replace H : (some (t116, t117)) = some (r1, r2) := H
 have A3 := ze.mk A30
 clear A30
 simp only [Option.some.injEq, Prod.mk.injEq] at H
 obtain ⟨rfl, rfl⟩ := H
 go_enter Try.func90, Try.ntmps90
 go_wp2_with (first | ((with_reducible refine zv (f := 109) rfl ?_); refine zha (some 25) rfl rfl Try.func109 (by kernel_rfl) rfl #[.int .u64 a0, .int .u64 a1] rfl (by (try simp only [List.map_toArray, List.map_cons, List.map_nil]); first | done | rfl | (simp only [List.length_drop, List.length_take]; rfl)) ?_; (with_reducible refine (bits_Mul64.calls a0 a1 t116 t117 _ A3.out).mono ?_); rintro e w' ⟨rfl, ⟨nd, rfl⟩⟩; refine ⟨_, rfl, ?_⟩))
 go_ret2
 exact ⟨by first | rfl | (simp; done) | (simp [*]; done), by repeat (first | exact zda.refl _ | apply zda.step)⟩


theorem and_mask (a : Nat) (ha : a < 4294967296) : Go.bits .and .u64 (a : Int) 4294967295 = (a : Int) := by
  have h := bits_and_u64_nat a 4294967295 (by omega) (by omega)
  have e : a &&& 4294967295 = a % 4294967296 := Nat.and_two_pow_sub_one_eq_mod a 32
  rw [e] at h
  exact h.trans (by omega)
theorem mul_one_f (n : Nat) (hn : n < 4294967296) : bits_Mul.f 1 (n : Int) = some (0, (n : Int)) := by
  have a1 : Go.bits .and .u64 (1 : Int) 4294967295 = 1 := and_mask 1 (by omega)
  have a2 := and_mask n hn
  have d1 : (1 : Int) / 4294967296 = 0 := by decide
  have d2 : (n : Int) / 4294967296 = 0 := by omega
  have w0 : IntKind.u64.wrap 0 = 0 := by rw [IntKind.wrap_u64]; rfl
  have wn : IntKind.u64.wrap (n : Int) = (n : Int) := by rw [IntKind.wrap_u64]; omega
  have a0 : Go.bits .and .u64 (0 : Int) 4294967295 = 0 := and_mask 0 (by omega)
  unfold bits_Mul.f bits_Mul64.f
  simp only [a1, a2, d1, d2, Int.zero_mul, Int.mul_zero, Int.one_mul, w0, wn, Int.add_zero, Int.zero_add, Int.zero_ediv, a0, Option.bind_some]
/-- The whole of a slice's first cells is written, one by one. -/
def zid (xs : List Int) (o : Nat) (x : Int) : Nat → List Int
  | 0 => xs
  | n + 1 => zid (xs.set o x) (o + 1) x n
theorem fillFrom_rep (x : Int) : ∀ (n m q : Nat), n ≤ q → zid (List.replicate m x ++ List.replicate q 0) m x n = List.replicate (m + n) x ++ List.replicate (q - n) 0 := by
  intro n
  induction n with
  | zero => intro m q _; simp [zid]
  | succ n ih =>
    intro m q h
    obtain ⟨q, rfl⟩ : ∃ r, q = r + 1 := ⟨q - 1, by omega⟩
    have e : (List.replicate m x ++ List.replicate (q + 1) 0).set m x = List.replicate (m + 1) x ++ List.replicate q 0 := by
      rw [List.set_append_right _ _ (by simp), List.length_replicate, Nat.sub_self, List.replicate_succ (n := q), List.set_cons_zero, List.replicate_succ' (n := m)]
      simp
    rw [zid, e, ih (m + 1) q (by omega)]
    congr 2 <;> omega
section
variable {base g n cap : Nat} {ok : Nat → Prop}
theorem R_fill (x : Int) : ∀ (m o : Nat) (xs : List Int) (W : World), (Kd.int .i16).R 25 W base ok (.slice (some ⟨g, 0, none⟩) n cap) xs →
    (Kd.int .i16).R 25 (W.setCells g o (List.replicate m (Value.int .i16 x))) base ok (.slice (some ⟨g, 0, none⟩) n cap) (zid xs o x m) ∧ W.grownBy (W.setCells g o (List.replicate m (Value.int .i16 x))) (some g) := by
  intro m
  induction m with
  | zero => intro o xs W h; exact ⟨h, World.grownBy.refl _ _⟩
  | succ m ih =>
    intro o xs W h
    have h1 := Kd.R_putg h (o : Int) x
    simp only [Int.toNat_natCast] at h1
    have h2 := ih (o + 1) _ _ h1.1
    exact ⟨h2.1, World.grownBy.trans h1.2 h2.2⟩
theorem copy_rep (x : Int) (m : Nat) (W : World) (hm : 1 ≤ m) (hn : m < n) (h : (Kd.int .i16).R 25 W base ok (.slice (some ⟨g, 0, none⟩) n cap) (List.replicate m x ++ List.replicate (n - m) 0)) :
    ∃ w1, (Builtin.copy_ #[24, 24] 3 #[.slice (some ⟨g, m, none⟩) (n - m) (cap - m), .slice (some ⟨g, 0, none⟩) m cap]).run Try.prog W = .ok (goInt (min m (n - m) : Nat)) w1 ∧
      (Kd.int .i16).R 25 w1 base ok (.slice (some ⟨g, 0, none⟩) n cap) (List.replicate (m + min m (n - m)) x ++ List.replicate (n - (m + min m (n - m))) 0) ∧ W.grownBy w1 (some g) := by
  have hl : (List.replicate (min m (n - m)) (Value.int .i16 x)).length = Nat.min m (n - m) := List.length_replicate
  have hcell : ∀ j, j < n → ∃ u, W.cell? ⟨g, j, none⟩ = some (.int .i16 u) ∧ (j < m → u = x) ∧ W.frozen? ⟨g, j, none⟩ = false := by
    intro j hj
    have h1 := Kd.R_celln 0 h (j : Int) (by omega) (by omega)
    simp only [Int.toNat_natCast] at h1
    refine ⟨_, h1.1, fun hjm => ?_, h1.2⟩
    unfold rdOf
    simp [List.getD_eq_getElem?_getD, List.getElem?_append, hjm]
  have hr := run_copy_cells (P := Try.prog) W 24 24 3 25 g m (n - m) (cap - m) ⟨g, 0, none⟩ m cap (List.replicate (min m (n - m)) (Value.int .i16 x)) Try.underlying24 (by kernel_rfl) hl
    (fun j v hj => by
      rw [List.getElem?_replicate] at hj
      split at hj
      · injection hj with hj
        subst hj
        obtain ⟨u, h1, h2, _⟩ := hcell j (by omega)
        rw [← h2 (by omega)]
        have e : (⟨g, 0, none⟩ : Addr).add j = ⟨g, j, none⟩ := by unfold Addr.add; split <;> simp_all
        rw [e]
        exact h1
      · simp at hj)
    (fun j hj => by
      rw [List.length_replicate] at hj
      obtain ⟨u, h1, _⟩ := hcell (m + j) (by omega)
      rw [h1]; rfl)
    (fun j hj => by
      rw [List.length_replicate] at hj
      obtain ⟨u, _, _, h3⟩ := hcell (m + j) (by omega)
      exact h3)
    (fun v hv => by rw [List.eq_of_mem_replicate hv]; rfl)
  have hf := R_fill x (min m (n - m)) m _ W h
  rw [fillFrom_rep x _ _ _ (by omega)] at hf
  refine ⟨_, by rw [hr, List.length_replicate], ?_, hf.2⟩
  rw [show n - (m + min m (n - m)) = n - m - min m (n - m) by omega]
  exact hf.1
end
/-- A copy whose run is known, as one operation. -/
theorem copy_op {P : Program} (w w1 : World) {o : Oper} {a : Act} {K : Act → World → Prop} {Q : Exit → Act → World → Prop} (d s : Operand) (t u : TypeId) (ho : o.op = .call { callee := .builtin .copy, args := #[d, s], argTypes := #[t, u] })
    {v x y : Value} {N : Option Tmp} (hN : o.dst = N) (hd : a.eval d = x) (hs : a.eval s = y) (hr : (Builtin.copy_ #[t, u] o.type #[x, y]).run P w = .ok v w1) (h : K (a.put N v) w1) : o.wp P a w K Q := by
  subst hN
  unfold Oper.wp execOp
  simp only [ho, resolve, invoke, builtin, Sem.run_bind, Sem.run_pure, Result.andThen_ok, List.map_toArray, List.map_cons, List.map_nil, hd, hs, hr]
  exact h
/-- n times the one number of l. -/
def slices_Repeat.f (l : List Int) (n : Int) : Option (List Int) := if l.length = 1 ∧ 1 ≤ n ∧ n ≤ 1048576 then some (List.replicate n.toNat (rd l 0)) else none
set_option maxHeartbeats 8000000 in
set_option maxRecDepth 100000 in
theorem slices_Repeat.calls (A0 : Option Addr) (c0 : Nat) (l0 : List Int) (a1 : Int) (r : List Int) (w : World) (hr0 : Kd.C (Kd.int .i16) w A0 l0.length l0) (hc0 : l0.length ≤ c0) (h : slices_Repeat.f l0 a1 = some r) :
  Calls Try.prog 53 #[.slice A0 l0.length c0, .int .i64 a1] w fun e w' => ∃ v0_ : Value, e = .returned (v0_) ∧ Kd.R (Kd.int .i16) 25 w' w.heap.size (fun _ => True) v0_ r ∧ Below w.heap.size w w' := by
 unfold slices_Repeat.f at h
 split at h
 rotate_left
 · exact absurd h (by simp)
 rename_i hc
 obtain ⟨hl, h1, h2⟩ := hc
 obtain ⟨n, rfl⟩ := Int.eq_ofNat_of_zero_le (show 0 ≤ a1 by omega)
 obtain ⟨x, rfl⟩ : ∃ x, l0 = [x] := List.length_eq_one_iff.mp hl
 simp only [Option.some.injEq, Int.toNat_natCast] at h
 have hx : rd [x] 0 = x := rfl
 rw [hx] at h
 clear hl hx
 have HR0 := ze.mk hr0
 have HC0 := ze.mk hc0
 clear hr0 hc0
 have HB := ze.mk (Below.refl w.heap.size w)
 have hM := ze.mk (mul_one_f n (by omega))
 have hn0 : decide ((n : Int) < 0) = false := decide_eq_false (by omega)
 have hn1 : decide (9223372036854775807 < (n : Int)) = false := decide_eq_false (by omega)
 have hw1 : IntKind.u64.wrap (n : Int) = (n : Int) := by rw [IntKind.wrap_u64]; omega
 have hw2 : wrap64 (n : Int) = (n : Int) := by unfold wrap64; omega
 have R0 := ze.mk h
 have B1 := ze.mk h1
 have B2 := ze.mk h2
 clear h h1 h2
 go_enter Try.func53, Try.ntmps53
 go_wp2_with (first | ((with_reducible refine zv (f := 90) rfl ?_); refine zha (some 18) rfl rfl Try.func90 (by kernel_rfl) rfl #[.int .u64 1, .int .u64 (n : Int)] rfl (by (try simp only [List.map_toArray, List.map_cons, List.map_nil]); first | done | rfl) ?_; (with_reducible refine (bits_Mul.calls 1 (n : Int) 0 (n : Int) _ hM.out).mono ?_); rintro e w' ⟨rfl, ⟨nd, rfl⟩⟩; refine ⟨_, rfl, ?_⟩) | ((with_reducible refine zaa (N := 30) rfl ?_); refine Kd.R_make (Kd.int .i16) _ 25 rfl (N := 30) rfl 24 _ _ rfl (n : Int) (congrArg (Value.int .i64) hw2) (congrArg (Value.int .i64) hw2) Try.underlying24 (.int .i16 0) 2 zwe rfl (by decide) (by omega) 0 (ok := fun _ => True) (okp := fun _ => True) rfl (fun _ hk => hk) trivial (by omega) (by have := B2.out; omega) (Below.refl _ _) (Nat.le_refl _) ?_; intro v119 w3 ho4 hb hg_ hnew_; clear hg_ hnew_; obtain ⟨g, cap, rfl, hgb, hgl, hgc⟩ := Kd.R_form ho4 (by rw [List.length_replicate]; have := B1.out; omega); simp only [List.length_replicate, Int.toNat_natCast] at ho4 ⊢; have HO := ze.mk (Kd.R_lower ho4 (zn (by repeat (first | (with_reducible first | exact HB.out | apply zj | apply zc | apply zi) | exact HB.out)))); have n1_ := ze.mk (zm (by repeat (first | (with_reducible first | exact HB.out | apply zj | apply zc | apply zi) | exact HB.out)) hb); have GB := ze.mk (Nat.le_trans (zn HB.out) hgb); clear HB; have HB := n1_; clear n1_ hb ho4 hgb hgl hgc) | ((with_reducible refine zaa (N := 33) rfl ?_); refine Kd.R_copy (enc := Value.int .i16) 0 (w0 := w) w.heap.size rfl _ _ 24 24 25 rfl Try.underlying24 (by kernel_rfl) (.slice (some ⟨g, 0, none⟩) n cap) (List.replicate n 0) [x] A0 1 c0 (fun _ => True) rfl rfl HO.out (Kd.C_below HR0.out HB.out) HB.out (zn HB.out) ?_; intro w4 ho5 hb5 _; have e1_ : min 1 n = 1 := (by have := B1.out; omega); simp only [List.length_replicate, e1_] at ho5 ⊢; have HR : ze ((Kd.int .i16).R 25 w4 w.heap.size (fun _ => True) (.slice (some ⟨g, 0, none⟩) n cap) (List.replicate 1 x ++ List.replicate (n - 1) 0)) := ⟨by have h_ : (Kd.int .i16).R 25 w4 w.heap.size (fun _ => True) (.slice (some ⟨g, 0, none⟩) n cap) (List.take 1 [x] ++ List.drop 1 (List.replicate n 0)) := ho5; rw [List.drop_replicate] at h_; exact h_⟩; clear HB; have HB := ze.mk hb5; clear ho5 hb5 HO e1_))
 have HR1 := HR
 have hcap : n ≤ cap := (Kd.R_reads' HR1.out).2.1
 clear HR
 go_loopg [8] n (fun kq v8 w' => ∃ m : Nat, v8 = .int .i64 (m : Int) ∧ ze (1 ≤ m) ∧ ze (m ≤ n) ∧ ze (n < m + kq) ∧ ze (Kd.R (Kd.int .i16) 25 w' w.heap.size (fun _ => True) (.slice (some ⟨g, 0, none⟩) n cap) (List.replicate m x ++ List.replicate (n - m) 0)) ∧ ze (Below w.heap.size w w'))
 case atStart => exact ⟨1, rfl, ⟨by omega⟩, ⟨by have := B1.out; omega⟩, ⟨by omega⟩, HR1, HB⟩
 case round =>
  obtain ⟨m, rfl, hm1, hm2, hm3, HR, HB⟩ := hrel
  cases gk with
  | zero => have h1 := hm2.out; have h2 := hm3.out; exact absurd h1 (by omega)
  | succ k1 =>
  by_cases hmn : m < n
  · have c1 : decide ((m : Int) < (n : Int)) = true := decide_eq_true (by omega)
    try go_wp2
    replace HR := ze.mk (Kd.R_drew HR.out)
    replace HB := ze.mk (zi HB.out)
    refine zhc (n := 10) (S := fun _ => True) (ds := []) #[false, false, false, false, false, false, false, false, false, false] (by kernel_rfl) rfl rfl trivial (fun _ => ?_)
    generalize wr.drew = w9 at HR HB ⊢
    refine zia (i := 0) (N := some 38) (v := ?_) (a' := ?_) #[true, false, false, false, false, false, false, false, false, false] rfl rfl (by kernel_rfl) (fun _ _ _ h => h) (Or.inl ⟨by rfl, ?_⟩) ?_ ?_
    rotate_left
    · intro w'
      go_simp; with_reducible rfl
    rotate_left
    · simp only [Act.put, List.setIfInBounds_toArray, List.set_cons_zero, List.set_cons_succ, zy, zba]
      rfl
    refine zia (i := 1) (N := some 39) (v := ?_) (a' := ?_) #[true, true, false, false, false, false, false, false, false, false] rfl rfl (by kernel_rfl) (fun _ _ _ h => h) (Or.inl ⟨by rfl, ?_⟩) ?_ ?_
    rotate_left
    · intro w'
      go_simp; with_reducible rfl
    rotate_left
    · simp only [Act.put, List.setIfInBounds_toArray, List.set_cons_zero, List.set_cons_succ, zy, zba]
      rfl
    refine zia (i := 2) (N := some 40) (v := ?_) (a' := ?_) #[true, true, true, false, false, false, false, false, false, false] rfl rfl (by kernel_rfl) (fun _ _ _ h => h) (Or.inl ⟨by rfl, ?_⟩) ?_ ?_
    rotate_left
    · intro w'
      go_simp; with_reducible rfl
    rotate_left
    · simp only [Act.put, List.setIfInBounds_toArray, List.set_cons_zero, List.set_cons_succ, zy, zba]
      rfl
    refine zia (i := 3) (N := some 41) (v := ?_) (a' := ?_) #[true, true, true, true, false, false, false, false, false, false] rfl rfl (by kernel_rfl) (fun _ _ _ h => h) (Or.inl ⟨by rfl, ?_⟩) ?_ ?_
    rotate_left
    · intro w'
      go_simp
      rw [if_pos (by omega), if_neg (by omega)]
    rotate_left
    · simp only [Act.put, List.setIfInBounds_toArray, List.set_cons_zero, List.set_cons_succ, zy, zba]
      rfl
    refine zia (i := 4) (N := some 42) (v := ?_) (a' := ?_) #[true, true, true, true, true, false, false, false, false, false] rfl rfl (by kernel_rfl) (fun _ _ _ h => h) (Or.inl ⟨by rfl, ?_⟩) ?_ ?_
    rotate_left
    · intro w'
      go_simp; with_reducible rfl
    rotate_left
    · simp only [Act.put, List.setIfInBounds_toArray, List.set_cons_zero, List.set_cons_succ, zy, zba]
      rfl
    refine zia (i := 5) (N := some 43) (v := ?_) (a' := ?_) #[true, true, true, true, true, true, false, false, false, false] rfl rfl (by kernel_rfl) (fun _ _ _ h => h) (Or.inl ⟨by rfl, ?_⟩) ?_ ?_
    rotate_left
    · intro w'
      go_simp; with_reducible rfl
    rotate_left
    · simp only [Act.put, List.setIfInBounds_toArray, List.set_cons_zero, List.set_cons_succ, zy, zba]
      rfl
    refine zia (i := 6) (N := some 44) (v := ?_) (a' := ?_) #[true, true, true, true, true, true, true, false, false, false] rfl rfl (by kernel_rfl) (fun _ _ _ h => h) (Or.inl ⟨by rfl, ?_⟩) ?_ ?_
    rotate_left
    · intro w'
      go_simp
      rw [if_pos (by omega)]
    rotate_left
    · simp only [Act.put, List.setIfInBounds_toArray, List.set_cons_zero, List.set_cons_succ, zy, zba]
      rfl
    refine one_ (i := 7) (N := some 45) #[true, true, true, true, true, true, true, true, false, false] rfl rfl (by kernel_rfl) (by decide) (fun K hK => ?_)
    rw [if_pos (by rfl)]
    obtain ⟨w5, hrun, hR5, hg5⟩ := copy_rep x m _ hm1.out hmn HR.out
    refine copy_op _ w5 (.tmp 41) (.tmp 44) 24 24 rfl (N := some 45) rfl rfl rfl hrun ?_
    refine hK.out _ _ trivial (fun _ => ?_)
    refine zia (i := 8) (N := some 46) (v := ?_) (a' := ?_) #[true, true, true, true, true, true, true, true, true, false] rfl rfl (by kernel_rfl) (fun _ _ _ h => h) (Or.inl ⟨by rfl, ?_⟩) ?_ ?_
    rotate_left
    · intro w'
      go_simp; with_reducible rfl
    rotate_left
    · simp only [Act.put, List.setIfInBounds_toArray, List.set_cons_zero, List.set_cons_succ, zy, zba]
      rfl
    refine zia (i := 9) (N := some 8) (v := ?_) (a' := ?_) #[true, true, true, true, true, true, true, true, true, true] rfl rfl (by kernel_rfl) (fun _ _ _ h => h) (Or.inl ⟨by rfl, ?_⟩) ?_ ?_
    rotate_left
    · intro w'
      go_simp; with_reducible rfl
    rotate_left
    · simp only [Act.put, List.setIfInBounds_toArray, List.set_cons_zero, List.set_cons_succ, zy, zba]
      rfl
    refine zhd (by kernel_rfl) ?_
    have hsum : wrap64 ((m : Int) + ((min m (n - m) : Nat) : Int)) = ((m + min m (n - m) : Nat) : Int) := by unfold wrap64; have := B2.out; omega
    try go_wp2
    go_roundg k1
    case measure => have := hm3.out; omega
    case rel => exact ⟨m + min m (n - m), by first | rfl | exact congrArg (Value.int .i64) hsum, ⟨by have := hm1.out; omega⟩, ⟨by omega⟩, ⟨by have := hm3.out; have := hm1.out; omega⟩, ⟨hR5⟩, ⟨HB.out.grown hg5 (zn HB.out) (fun k hk => by cases hk; exact GB.out)⟩⟩
  · have c1 : decide ((m : Int) < (n : Int)) = false := decide_eq_false (by omega)
    have e_ : m = n := by have := hm2.out; omega
    subst e_
    go_wp2
    go_ret
    refine ⟨_, rfl, ?_, HB.out⟩
    have h1 := HR.out
    rw [Nat.sub_self, List.replicate_zero, List.append_nil, R0.out] at h1
    exact h1
end Go.Proofs.Yteciomagemjjaaa.J
