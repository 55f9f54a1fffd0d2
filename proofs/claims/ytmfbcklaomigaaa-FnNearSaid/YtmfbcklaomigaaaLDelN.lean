import Derived.Test.YtmfbcklaomigaaaNx0
import Derived.Lib.SliceRun
namespace Go.Proofs.Ytmfbcklaomigaaa.N
open Go.RowKit Go.Proofs.YtmfbcklaomigaaaW.PrintWords Go.Proofs.YtmfbcklaomigaaaW.PrintLast Go.Proofs.YtmfbcklaomigaaaW.PrintMore
set_option linter.unusedVariables false
set_option linter.unusedSimpArgs false
def zs38 : Nat → List Value
  | 0 => []
  | m + 1 => .int .i8 0 :: .bool false :: zs38 m
theorem zs38_snoc (m : Nat) : zs38 (m + 1) = zs38 m ++ [.int .i8 0, .bool false] := by
  induction m with
  | zero => rfl
  | succ m ih =>
    show Value.int .i8 0 :: .bool false :: zs38 (m + 1) = Value.int .i8 0 :: .bool false :: (zs38 m ++ [.int .i8 0, .bool false])
    rw [ih]
theorem zpd (m : Nat) : (zs38 m).length = 2 * m := by
  induction m with
  | zero => rfl
  | succ m ih => show (zs38 m).length + 1 + 1 = _; omega
theorem zs38_one (m : Nat) : ∀ v ∈ zs38 m, v.oneCell' = true := by
  induction m with
  | zero => intro v h; cases h
  | succ m ih =>
    intro v h
    have h : v ∈ Value.int .i8 0 :: .bool false :: zs38 m := h
    rcases List.mem_cons.mp h with rfl | h
    · rfl
    · rcases List.mem_cons.mp h with rfl | h
      · rfl
      · exact ih v h
theorem zs38_cells (m : Nat) : (Builtin.zeroCells #[.int .i8 0, .bool false] m).toList = zs38 m := by
  have e : ∀ n, (Builtin.zeroCells #[.int .i8 0, .bool false] n).toList = (List.range (n * 2)).map fun i => (#[Value.int .i8 0, .bool false] : Array Value)[i % 2]! := by
    intro n; simp [Builtin.zeroCells]
  rw [e]
  induction m with
  | zero => rfl
  | succ m ih =>
    rw [zs38_snoc, ← ih, show (m + 1) * 2 = m * 2 + 1 + 1 by omega, List.range_succ, List.range_succ, List.map_append, List.map_append, List.append_assoc]
    have a : (m * 2) % 2 = 0 := by omega
    have b : (m * 2 + 1) % 2 = 1 := by omega
    simp [a, b]
theorem zero38 (w : World) : (zeroValue 38).run Try.prog w = .ok (.agg #[.int .i8 0, .bool false]) w := by
  kernel_rfl
theorem clear38_run (w : World) (g i m c : Nat) (hm : 0 < m) (hc : ∀ j, j < 2 * m → (w.cell? ⟨g, i * 2 + j, none⟩).isSome = true) (hf : ∀ j, j < 2 * m → w.frozen? ⟨g, i * 2 + j, none⟩ = false) (ty : TypeId) :
    (Builtin.clear_ #[55] ty #[.slice (some ⟨g, i * 2, none⟩) m c]).run Try.prog w = .ok (.tuple #[]) (w.setCells g (i * 2) (zs38 m)) := by
  have hst := run_storeCells_cells (P := Try.prog) g (i * 2) (zs38 m) 0 w (by simpa [zpd] using hc) (by simpa [zpd] using hf) (zs38_one m)
  simp only [Nat.add_zero] at hst
  obtain ⟨n, rfl⟩ : ∃ n, m = n + 1 := ⟨m - 1, by omega⟩
  simp [Builtin.clear_, run_underlying Try.underlying55, zero38, Value.cells, zs38_cells, hst]
theorem zef {base cap n g i m : Nat} {w : World} {xs : List S38} (h : Kd.R k38 38 w base (fun _ => True) (.slice (some ⟨g, 0, none⟩) n cap) xs) (hn : i + m = n) (j : Nat) (hj : j < 2 * m) :
    (w.cell? ⟨g, i * 2 + j, none⟩).isSome = true ∧ w.frozen? ⟨g, i * 2 + j, none⟩ = false := by
  obtain ⟨c, hcl, hM, hcc, hfr⟩ := Kd.R_elem h z38 ((i + j / 2 : Nat) : Int) (by omega) (by omega)
  obtain rfl := znd hM
  have e : ((i + j / 2 : Nat) : Int).toNat * k38.sz + j % 2 = i * 2 + j := by
    show ((i + j / 2 : Nat) : Int).toNat * 2 + j % 2 = i * 2 + j
    rw [Int.toNat_natCast]; omega
  have f := hfr (j % 2)
  rw [e] at f
  refine ⟨?_, f⟩
  rcases (show j % 2 = 0 ∨ j % 2 = 1 by omega) with h0 | h0
  · have := hcc (j % 2) _ (by rw [h0]; rfl)
    rw [e] at this; rw [this]; rfl
  · have := hcc (j % 2) _ (by rw [h0]; rfl)
    rw [e] at this; rw [this]; rfl
theorem zte {base cap n : Nat} {g : Nat} : ∀ (m i : Nat) (w : World) (xs : List S38), i + m = n → Kd.R k38 38 w base (fun _ => True) (.slice (some ⟨g, 0, none⟩) n cap) xs →
    ∃ ys, Kd.R k38 38 (w.setCells g (i * 2) (zs38 m)) base (fun _ => True) (.slice (some ⟨g, 0, none⟩) n cap) ys ∧ ys.take i = xs.take i ∧ w.grownBy (w.setCells g (i * 2) (zs38 m)) (some g)
  | 0, i, w, xs, hn, h => ⟨xs, h, rfl, World.grownBy.refl _ _⟩
  | m + 1, i, w, xs, hn, h => by
    obtain ⟨c, hcl, hM, hcc, hfr⟩ := Kd.R_elem h z38 (i : Int) (by omega) (by omega)
    obtain rfl := znd hM
    obtain ⟨h1, g1⟩ := Kd.R_seg h (i : Int) (by omega) (by omega) (seg := [.int .i8 0, .bool false]) (j := 0) hcl hcc (show 0 + 2 ≤ 2 by omega) (x' := z38) (znb _ _ _ z38) (fun _ hk => hk)
    obtain ⟨ys, h2, h3, g2⟩ := zte m (i + 1) _ _ (by omega) h1
    have e : (w.setCells g ((i : Int).toNat * k38.sz + 0) [.int .i8 0, .bool false]).setCells g ((i + 1) * 2) (zs38 m) = w.setCells g (i * 2) (zs38 (m + 1)) := by
      rw [Int.toNat_natCast, show (i + 1) * 2 = i * 2 + 1 + 1 by omega]
      rfl
    rw [e] at h2 g2
    refine ⟨ys, h2, ?_, g1.trans g2⟩
    have := congrArg (List.take i) h3
    rw [List.take_take, List.take_take, Nat.min_eq_left (by omega), Int.toNat_natCast] at this
    rw [this, List.take_set_of_le (by omega)]
end Go.Proofs.Ytmfbcklaomigaaa.N
