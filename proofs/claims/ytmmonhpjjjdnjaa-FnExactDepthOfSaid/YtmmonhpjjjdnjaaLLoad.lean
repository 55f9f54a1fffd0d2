/- A struct's cells, read as one value. -/
import Derived.Test.YtmmonhpjjjdnjaaMx0
namespace Go.Proofs.Ytmmonhpjjjdnjaa.M
open Go.RowKit Go.Proofs.YtmmonhpjjjdnjaaW.PrintWords Go.Proofs.YtmmonhpjjjdnjaaW.PrintLast Go.Proofs.YtmmonhpjjjdnjaaW.PrintMore

theorem loadN_go {ev : Operand → Value} {o : Oper} {w : World} {p : Addr} {x : Operand} {T : TypeId} (cs : Array Value) (d : TypeDesc) (ho : o.op = .load T x) (hx : ev x = .pointer (some p))
    (hu : Try.prog.underlying T = some d) (hd : (match d with | .struct _ | .array _ _ => true | _ => false) = true) (hi : (Try.prog.info? T).map (·.size) = some cs.size)
    (h : ∀ j v, cs.toList[j]? = some v → w.cell? (p.add j) = some v) : (execOp ev o).run Try.prog w = .ok (Next.value (.agg cs)) w := by
  have hl : (loadCells p cs.toList.length).run Try.prog w = .ok cs.toList.toArray w := run_loadCells_list w p cs.toList h
  have hagg : (isAgg T).run Try.prog w = .ok true w := by
    unfold isAgg
    rw [Sem.run_bind, run_underlying hu w]
    cases d <;> simp_all
  cases hq : Try.prog.info? T with
  | none => simp [hq] at hi
  | some i =>
    have hs : i.size = cs.size := by simpa [hq] using hi
    simp only [Array.length_toList, Array.toArray_toList] at hl
    unfold execOp
    simp [ho, hx, Instr.loadAt, Instr.sureAddr, loadVar, Sem.run_bind, hagg, sizeOf, typeInfo, hq, hs, hl]
theorem load20_go {ev : Operand → Value} {o : Oper} {w : World} {p : Addr} {x : Operand} {T : TypeId} {d : TypeDesc} {c0 c1 c2 c3 c4 c5 c6 c7 c8 c9 c10 c11 c12 c13 c14 c15 c16 c17 c18 c19 : Value} (ho : o.op = .load T x) (hx : ev x = .pointer (some p))
    (hu : Try.prog.underlying T = some d) (hd : (match d with | .struct _ | .array _ _ => true | _ => false) = true) (hi : (Try.prog.info? T).map (·.size) = some 20)
    (h0 : w.cell? p = some c0) (h1 : w.cell? ⟨p.block, p.off + 1, none⟩ = some c1) (h2 : w.cell? ⟨p.block, p.off + 2, none⟩ = some c2) (h3 : w.cell? ⟨p.block, p.off + 3, none⟩ = some c3) (h4 : w.cell? ⟨p.block, p.off + 4, none⟩ = some c4) (h5 : w.cell? ⟨p.block, p.off + 5, none⟩ = some c5) (h6 : w.cell? ⟨p.block, p.off + 6, none⟩ = some c6) (h7 : w.cell? ⟨p.block, p.off + 7, none⟩ = some c7) (h8 : w.cell? ⟨p.block, p.off + 8, none⟩ = some c8) (h9 : w.cell? ⟨p.block, p.off + 9, none⟩ = some c9) (h10 : w.cell? ⟨p.block, p.off + 10, none⟩ = some c10) (h11 : w.cell? ⟨p.block, p.off + 11, none⟩ = some c11) (h12 : w.cell? ⟨p.block, p.off + 12, none⟩ = some c12) (h13 : w.cell? ⟨p.block, p.off + 13, none⟩ = some c13) (h14 : w.cell? ⟨p.block, p.off + 14, none⟩ = some c14) (h15 : w.cell? ⟨p.block, p.off + 15, none⟩ = some c15) (h16 : w.cell? ⟨p.block, p.off + 16, none⟩ = some c16) (h17 : w.cell? ⟨p.block, p.off + 17, none⟩ = some c17) (h18 : w.cell? ⟨p.block, p.off + 18, none⟩ = some c18) (h19 : w.cell? ⟨p.block, p.off + 19, none⟩ = some c19) :
    (execOp ev o).run Try.prog w = .ok (Next.value (.agg #[c0, c1, c2, c3, c4, c5, c6, c7, c8, c9, c10, c11, c12, c13, c14, c15, c16, c17, c18, c19])) w := by
  refine loadN_go #[c0, c1, c2, c3, c4, c5, c6, c7, c8, c9, c10, c11, c12, c13, c14, c15, c16, c17, c18, c19] d ho hx hu hd hi ?_
  intro j v hv
  match j, hv with
  | 0, hv => obtain rfl : c0 = v := (by simpa using hv); simpa [Addr.add] using h0
  | 1, hv => obtain rfl : c1 = v := (by simpa using hv); simpa [Addr.add] using h1
  | 2, hv => obtain rfl : c2 = v := (by simpa using hv); simpa [Addr.add] using h2
  | 3, hv => obtain rfl : c3 = v := (by simpa using hv); simpa [Addr.add] using h3
  | 4, hv => obtain rfl : c4 = v := (by simpa using hv); simpa [Addr.add] using h4
  | 5, hv => obtain rfl : c5 = v := (by simpa using hv); simpa [Addr.add] using h5
  | 6, hv => obtain rfl : c6 = v := (by simpa using hv); simpa [Addr.add] using h6
  | 7, hv => obtain rfl : c7 = v := (by simpa using hv); simpa [Addr.add] using h7
  | 8, hv => obtain rfl : c8 = v := (by simpa using hv); simpa [Addr.add] using h8
  | 9, hv => obtain rfl : c9 = v := (by simpa using hv); simpa [Addr.add] using h9
  | 10, hv => obtain rfl : c10 = v := (by simpa using hv); simpa [Addr.add] using h10
  | 11, hv => obtain rfl : c11 = v := (by simpa using hv); simpa [Addr.add] using h11
  | 12, hv => obtain rfl : c12 = v := (by simpa using hv); simpa [Addr.add] using h12
  | 13, hv => obtain rfl : c13 = v := (by simpa using hv); simpa [Addr.add] using h13
  | 14, hv => obtain rfl : c14 = v := (by simpa using hv); simpa [Addr.add] using h14
  | 15, hv => obtain rfl : c15 = v := (by simpa using hv); simpa [Addr.add] using h15
  | 16, hv => obtain rfl : c16 = v := (by simpa using hv); simpa [Addr.add] using h16
  | 17, hv => obtain rfl : c17 = v := (by simpa using hv); simpa [Addr.add] using h17
  | 18, hv => obtain rfl : c18 = v := (by simpa using hv); simpa [Addr.add] using h18
  | 19, hv => obtain rfl : c19 = v := (by simpa using hv); simpa [Addr.add] using h19
  | j + 20, hv => simp at hv
theorem load20_event {ops : Array Oper} {rest : List Oper} {o : Oper} {a : Act} {Q : Exit → Act → World → Prop} {W : World} (hgd : o.guard = none) {p : Addr} {x : Operand} {T : TypeId} {d : TypeDesc} {c0 c1 c2 c3 c4 c5 c6 c7 c8 c9 c10 c11 c12 c13 c14 c15 c16 c17 c18 c19 : Value} (ho : o.op = .load T x) (hx : a.eval x = .pointer (some p))
    (hu : Try.prog.underlying T = some d) (hd : (match d with | .struct _ | .array _ _ => true | _ => false) = true) (hi : (Try.prog.info? T).map (·.size) = some 20)
    (h0 : W.cell? p = some c0) (h1 : W.cell? ⟨p.block, p.off + 1, none⟩ = some c1) (h2 : W.cell? ⟨p.block, p.off + 2, none⟩ = some c2) (h3 : W.cell? ⟨p.block, p.off + 3, none⟩ = some c3) (h4 : W.cell? ⟨p.block, p.off + 4, none⟩ = some c4) (h5 : W.cell? ⟨p.block, p.off + 5, none⟩ = some c5) (h6 : W.cell? ⟨p.block, p.off + 6, none⟩ = some c6) (h7 : W.cell? ⟨p.block, p.off + 7, none⟩ = some c7) (h8 : W.cell? ⟨p.block, p.off + 8, none⟩ = some c8) (h9 : W.cell? ⟨p.block, p.off + 9, none⟩ = some c9) (h10 : W.cell? ⟨p.block, p.off + 10, none⟩ = some c10) (h11 : W.cell? ⟨p.block, p.off + 11, none⟩ = some c11) (h12 : W.cell? ⟨p.block, p.off + 12, none⟩ = some c12) (h13 : W.cell? ⟨p.block, p.off + 13, none⟩ = some c13) (h14 : W.cell? ⟨p.block, p.off + 14, none⟩ = some c14) (h15 : W.cell? ⟨p.block, p.off + 15, none⟩ = some c15) (h16 : W.cell? ⟨p.block, p.off + 16, none⟩ = some c16) (h17 : W.cell? ⟨p.block, p.off + 17, none⟩ = some c17) (h18 : W.cell? ⟨p.block, p.off + 18, none⟩ = some c18) (h19 : W.cell? ⟨p.block, p.off + 19, none⟩ = some c19) (h : wpList Try.prog ops Q rest (a.put o.dst (.agg #[c0, c1, c2, c3, c4, c5, c6, c7, c8, c9, c10, c11, c12, c13, c14, c15, c16, c17, c18, c19])) W) : wpList Try.prog ops Q (o :: rest) a W :=
  Kd.event_run hgd (load20_go ho hx hu hd hi h0 h1 h2 h3 h4 h5 h6 h7 h8 h9 h10 h11 h12 h13 h14 h15 h16 h17 h18 h19) h
theorem loadrow_event {ops : Array Oper} {rest : List Oper} {o : Oper} {a : Act} {Q : Exit → Act → World → Prop} {W : World} (hgd : o.guard = none) {x : Operand} {g : Nat} {t T : TypeId} {cs : Array Value} {fr : Nat × Nat} {d : TypeDesc} (ho : o.op = .load T x) (hx : a.eval x = .pointer (some ⟨g, 0, none⟩))
    (hg : W.heap[g]? = some (.cells cs t fr)) (hu : Try.prog.underlying T = some d) (hd : (match d with | .struct _ | .array _ _ => true | _ => false) = true) (hi : (Try.prog.info? T).map (·.size) = some cs.size)
    (h : wpList Try.prog ops Q rest (a.put o.dst (.agg cs)) W) : wpList Try.prog ops Q (o :: rest) a W :=
  Kd.event_run hgd (by unfold execOp; simp only [ho, hx, Instr.loadAt, Instr.sureAddr, Sem.run_bind, Sem.run_pure, Result.andThen_ok, run_loadVar_row W g t T cs fr d hg hu (by cases d <;> simp_all) hi]) h
theorem storeN_go {ev : Operand → Value} {o : Oper} {w : World} {x y : Operand} {g : Nat} {t T : TypeId} {cur vs : Array Value} (ho : o.op = .store T y x) (hp : ev y = .pointer (some ⟨g, 0, none⟩)) (hx : ev x = .agg vs)
    (hi : (Try.prog.info? T).map (·.size) = some vs.size) (hg : w.heap[g]? = some (.cells cur t (0, 0))) (hl : vs.size ≤ cur.size) (h1 : ∀ v ∈ vs.toList, v.oneCell' = true) :
    (execOp ev o).run Try.prog w = .ok .skip (w.setCells g 0 vs.toList) := by
  have hst := run_storeCells_cells (P := Try.prog) g 0 vs.toList 0 w (fun j hj => by rw [cell_of_row w g _ cur t (0, 0) hg]; simp at hj; simp; omega) (fun j hj => by simpa using zd hg _) h1
  cases hq : Try.prog.info? T with
  | none => simp [hq] at hi
  | some i =>
    have hs : i.size = vs.size := by simpa [hq] using hi
    unfold execOp
    simp at hst
    simp [ho, hp, hx, Instr.storeAt, Instr.sureAddr, storeVar, Sem.run_bind, sizeOf, typeInfo, hq, hs, hst, Value.cells]
theorem store20_event {ops : Array Oper} {rest : List Oper} {o : Oper} {a : Act} {Q : Exit → Act → World → Prop} {W : World} (hgd : o.guard = none) {x y : Operand} {g : Nat} {t T : TypeId} {cur : Array Value} {c0 c1 c2 c3 c4 c5 c6 c7 c8 c9 c10 c11 c12 c13 c14 c15 c16 c17 c18 c19 : Value} (ho : o.op = .store T y x) (hN : o.dst = none) (hp : a.eval y = .pointer (some ⟨g, 0, none⟩)) (hx : a.eval x = .agg #[c0, c1, c2, c3, c4, c5, c6, c7, c8, c9, c10, c11, c12, c13, c14, c15, c16, c17, c18, c19])
    (hi : (Try.prog.info? T).map (·.size) = some 20) (hg : W.heap[g]? = some (.cells cur t (0, 0))) (hl : cur.size = 20) (h1 : ([c0, c1, c2, c3, c4, c5, c6, c7, c8, c9, c10, c11, c12, c13, c14, c15, c16, c17, c18, c19].all fun v => v.oneCell') = true)
    (h : wpList Try.prog ops Q rest a ((((((((((((((((((((W.setCell ⟨g, 0, none⟩ c0).setCell ⟨g, 1, none⟩ c1).setCell ⟨g, 2, none⟩ c2).setCell ⟨g, 3, none⟩ c3).setCell ⟨g, 4, none⟩ c4).setCell ⟨g, 5, none⟩ c5).setCell ⟨g, 6, none⟩ c6).setCell ⟨g, 7, none⟩ c7).setCell ⟨g, 8, none⟩ c8).setCell ⟨g, 9, none⟩ c9).setCell ⟨g, 10, none⟩ c10).setCell ⟨g, 11, none⟩ c11).setCell ⟨g, 12, none⟩ c12).setCell ⟨g, 13, none⟩ c13).setCell ⟨g, 14, none⟩ c14).setCell ⟨g, 15, none⟩ c15).setCell ⟨g, 16, none⟩ c16).setCell ⟨g, 17, none⟩ c17).setCell ⟨g, 18, none⟩ c18).setCell ⟨g, 19, none⟩ c19)) : wpList Try.prog ops Q (o :: rest) a W := by
  refine wpList_plain hgd fun K hK => ?_
  unfold Oper.wp
  rw [storeN_go (vs := #[c0, c1, c2, c3, c4, c5, c6, c7, c8, c9, c10, c11, c12, c13, c14, c15, c16, c17, c18, c19]) ho hp hx hi hg (by rw [hl]; exact Nat.le_refl _) (fun v hv => List.all_eq_true.mp h1 v (by simpa using hv))]
  show K (a.put o.dst undef) _
  rw [hN]
  exact hK _ _ h
theorem store20_at {ev : Operand → Value} {o : Oper} {w : World} {x y : Operand} {g b : Nat} {T : TypeId} {c0 c1 c2 c3 c4 c5 c6 c7 c8 c9 c10 c11 c12 c13 c14 c15 c16 c17 c18 c19 d0 d1 d2 d3 d4 d5 d6 d7 d8 d9 d10 d11 d12 d13 d14 d15 d16 d17 d18 d19 : Value} (ho : o.op = .store T y x) (hp : ev y = .pointer (some ⟨g, b, none⟩)) (hx : ev x = .agg #[c0, c1, c2, c3, c4, c5, c6, c7, c8, c9, c10, c11, c12, c13, c14, c15, c16, c17, c18, c19])
    (hi : (Try.prog.info? T).map (·.size) = some 20) (h0_ : w.cell? ⟨g, b, none⟩ = some d0) (h1_ : w.cell? ⟨g, b + 1, none⟩ = some d1) (h2_ : w.cell? ⟨g, b + 2, none⟩ = some d2) (h3_ : w.cell? ⟨g, b + 3, none⟩ = some d3) (h4_ : w.cell? ⟨g, b + 4, none⟩ = some d4) (h5_ : w.cell? ⟨g, b + 5, none⟩ = some d5) (h6_ : w.cell? ⟨g, b + 6, none⟩ = some d6) (h7_ : w.cell? ⟨g, b + 7, none⟩ = some d7) (h8_ : w.cell? ⟨g, b + 8, none⟩ = some d8) (h9_ : w.cell? ⟨g, b + 9, none⟩ = some d9) (h10_ : w.cell? ⟨g, b + 10, none⟩ = some d10) (h11_ : w.cell? ⟨g, b + 11, none⟩ = some d11) (h12_ : w.cell? ⟨g, b + 12, none⟩ = some d12) (h13_ : w.cell? ⟨g, b + 13, none⟩ = some d13) (h14_ : w.cell? ⟨g, b + 14, none⟩ = some d14) (h15_ : w.cell? ⟨g, b + 15, none⟩ = some d15) (h16_ : w.cell? ⟨g, b + 16, none⟩ = some d16) (h17_ : w.cell? ⟨g, b + 17, none⟩ = some d17) (h18_ : w.cell? ⟨g, b + 18, none⟩ = some d18) (h19_ : w.cell? ⟨g, b + 19, none⟩ = some d19)
    (f0_ : w.frozen? ⟨g, b, none⟩ = false) (f1_ : w.frozen? ⟨g, b + 1, none⟩ = false) (f2_ : w.frozen? ⟨g, b + 2, none⟩ = false) (f3_ : w.frozen? ⟨g, b + 3, none⟩ = false) (f4_ : w.frozen? ⟨g, b + 4, none⟩ = false) (f5_ : w.frozen? ⟨g, b + 5, none⟩ = false) (f6_ : w.frozen? ⟨g, b + 6, none⟩ = false) (f7_ : w.frozen? ⟨g, b + 7, none⟩ = false) (f8_ : w.frozen? ⟨g, b + 8, none⟩ = false) (f9_ : w.frozen? ⟨g, b + 9, none⟩ = false) (f10_ : w.frozen? ⟨g, b + 10, none⟩ = false) (f11_ : w.frozen? ⟨g, b + 11, none⟩ = false) (f12_ : w.frozen? ⟨g, b + 12, none⟩ = false) (f13_ : w.frozen? ⟨g, b + 13, none⟩ = false) (f14_ : w.frozen? ⟨g, b + 14, none⟩ = false) (f15_ : w.frozen? ⟨g, b + 15, none⟩ = false) (f16_ : w.frozen? ⟨g, b + 16, none⟩ = false) (f17_ : w.frozen? ⟨g, b + 17, none⟩ = false) (f18_ : w.frozen? ⟨g, b + 18, none⟩ = false) (f19_ : w.frozen? ⟨g, b + 19, none⟩ = false) (h1 : ([c0, c1, c2, c3, c4, c5, c6, c7, c8, c9, c10, c11, c12, c13, c14, c15, c16, c17, c18, c19].all fun v => v.oneCell') = true) :
    (execOp ev o).run Try.prog w = .ok .skip ((((((((((((((((((((w.setCell ⟨g, b, none⟩ c0).setCell ⟨g, b + 1, none⟩ c1).setCell ⟨g, b + 2, none⟩ c2).setCell ⟨g, b + 3, none⟩ c3).setCell ⟨g, b + 4, none⟩ c4).setCell ⟨g, b + 5, none⟩ c5).setCell ⟨g, b + 6, none⟩ c6).setCell ⟨g, b + 7, none⟩ c7).setCell ⟨g, b + 8, none⟩ c8).setCell ⟨g, b + 9, none⟩ c9).setCell ⟨g, b + 10, none⟩ c10).setCell ⟨g, b + 11, none⟩ c11).setCell ⟨g, b + 12, none⟩ c12).setCell ⟨g, b + 13, none⟩ c13).setCell ⟨g, b + 14, none⟩ c14).setCell ⟨g, b + 15, none⟩ c15).setCell ⟨g, b + 16, none⟩ c16).setCell ⟨g, b + 17, none⟩ c17).setCell ⟨g, b + 18, none⟩ c18).setCell ⟨g, b + 19, none⟩ c19) := by
  have hst := run_storeCells_cells (P := Try.prog) g b [c0, c1, c2, c3, c4, c5, c6, c7, c8, c9, c10, c11, c12, c13, c14, c15, c16, c17, c18, c19] 0 w (fun j hj => by
    match j, hj with
    | 0, _ => simp [h0_]
    | 1, _ => simp [h1_]
    | 2, _ => simp [h2_]
    | 3, _ => simp [h3_]
    | 4, _ => simp [h4_]
    | 5, _ => simp [h5_]
    | 6, _ => simp [h6_]
    | 7, _ => simp [h7_]
    | 8, _ => simp [h8_]
    | 9, _ => simp [h9_]
    | 10, _ => simp [h10_]
    | 11, _ => simp [h11_]
    | 12, _ => simp [h12_]
    | 13, _ => simp [h13_]
    | 14, _ => simp [h14_]
    | 15, _ => simp [h15_]
    | 16, _ => simp [h16_]
    | 17, _ => simp [h17_]
    | 18, _ => simp [h18_]
    | 19, _ => simp [h19_]
    | j + 20, hj => simp at hj; omega) (fun j hj => by
    match j, hj with
    | 0, _ => simpa using f0_
    | 1, _ => simpa using f1_
    | 2, _ => simpa using f2_
    | 3, _ => simpa using f3_
    | 4, _ => simpa using f4_
    | 5, _ => simpa using f5_
    | 6, _ => simpa using f6_
    | 7, _ => simpa using f7_
    | 8, _ => simpa using f8_
    | 9, _ => simpa using f9_
    | 10, _ => simpa using f10_
    | 11, _ => simpa using f11_
    | 12, _ => simpa using f12_
    | 13, _ => simpa using f13_
    | 14, _ => simpa using f14_
    | 15, _ => simpa using f15_
    | 16, _ => simpa using f16_
    | 17, _ => simpa using f17_
    | 18, _ => simpa using f18_
    | 19, _ => simpa using f19_
    | j + 20, hj => simp at hj; omega) (fun v hv => List.all_eq_true.mp h1 v hv)
  cases hq : Try.prog.info? T with
  | none => simp [hq] at hi
  | some i =>
    have hs : i.size = 20 := by simpa [hq] using hi
    have he : (execOp ev o).run Try.prog w = .ok .skip (w.setCells g (b + 0) [c0, c1, c2, c3, c4, c5, c6, c7, c8, c9, c10, c11, c12, c13, c14, c15, c16, c17, c18, c19]) := by
      unfold execOp
      simp at hst
      simp [ho, hp, hx, Instr.storeAt, Instr.sureAddr, storeVar, Sem.run_bind, sizeOf, typeInfo, hq, hs, hst, Value.cells]
    exact he
theorem bc {w w1 : World} {a : Addr} {v : Value} (hb : Below w.heap.size w w1) (h : w.cell? a = some v) : w1.cell? a = some v := (hb.cell (World.block_lt_of_cell? w _ h)).trans h
theorem cz {w : World} {g : Nat} {t : TypeId} {cs : Array Value} {fr : Nat × Nat} (h : w.heap[g]? = some (.cells cs t fr)) (i : Nat) {v : Value} (e : cs[i]? = some v) : w.cell? ⟨g, i, none⟩ = some v := (cell_of_row w g i cs t fr h).trans e
theorem putsz {w : World} {g : Nat} {t : TypeId} {c0 c1 c2 c3 c4 c5 c6 c7 c8 c9 c10 c11 c12 c13 c14 c15 c16 c17 c18 c19 : Value} (h : w.heap[g]? = some (.cells #[.int .i8 0, .int .i8 0, .int .i8 0, .int .i8 0, .int .i8 0, .int .i8 0, .int .i8 0, .int .i8 0, .int .i8 0, .int .i8 0, .int .i8 0, .int .i8 0, .int .i8 0, .int .i8 0, .int .i16 0, .int .i16 0, .int .i16 0, .int .i8 0, .bool false, .bool false] t (0, 0))) : ((((((((((((((((((((w.setCell ⟨g, 0, none⟩ c0).setCell ⟨g, 1, none⟩ c1).setCell ⟨g, 2, none⟩ c2).setCell ⟨g, 3, none⟩ c3).setCell ⟨g, 4, none⟩ c4).setCell ⟨g, 5, none⟩ c5).setCell ⟨g, 6, none⟩ c6).setCell ⟨g, 7, none⟩ c7).setCell ⟨g, 8, none⟩ c8).setCell ⟨g, 9, none⟩ c9).setCell ⟨g, 10, none⟩ c10).setCell ⟨g, 11, none⟩ c11).setCell ⟨g, 12, none⟩ c12).setCell ⟨g, 13, none⟩ c13).setCell ⟨g, 14, none⟩ c14).setCell ⟨g, 15, none⟩ c15).setCell ⟨g, 16, none⟩ c16).setCell ⟨g, 17, none⟩ c17).setCell ⟨g, 18, none⟩ c18).setCell ⟨g, 19, none⟩ c19).heap[g]? = some (.cells #[c0, c1, c2, c3, c4, c5, c6, c7, c8, c9, c10, c11, c12, c13, c14, c15, c16, c17, c18, c19] t (0, 0)) := by
  refine zw (cs := #[c0, c1, c2, c3, c4, c5, c6, c7, c8, c9, c10, c11, c12, c13, c14, c15, c16, c17, c18, .bool false]) ?_ 19 _ rfl
  refine zw (cs := #[c0, c1, c2, c3, c4, c5, c6, c7, c8, c9, c10, c11, c12, c13, c14, c15, c16, c17, .bool false, .bool false]) ?_ 18 _ rfl
  refine zw (cs := #[c0, c1, c2, c3, c4, c5, c6, c7, c8, c9, c10, c11, c12, c13, c14, c15, c16, .int .i8 0, .bool false, .bool false]) ?_ 17 _ rfl
  refine zw (cs := #[c0, c1, c2, c3, c4, c5, c6, c7, c8, c9, c10, c11, c12, c13, c14, c15, .int .i16 0, .int .i8 0, .bool false, .bool false]) ?_ 16 _ rfl
  refine zw (cs := #[c0, c1, c2, c3, c4, c5, c6, c7, c8, c9, c10, c11, c12, c13, c14, .int .i16 0, .int .i16 0, .int .i8 0, .bool false, .bool false]) ?_ 15 _ rfl
  refine zw (cs := #[c0, c1, c2, c3, c4, c5, c6, c7, c8, c9, c10, c11, c12, c13, .int .i16 0, .int .i16 0, .int .i16 0, .int .i8 0, .bool false, .bool false]) ?_ 14 _ rfl
  refine zw (cs := #[c0, c1, c2, c3, c4, c5, c6, c7, c8, c9, c10, c11, c12, .int .i8 0, .int .i16 0, .int .i16 0, .int .i16 0, .int .i8 0, .bool false, .bool false]) ?_ 13 _ rfl
  refine zw (cs := #[c0, c1, c2, c3, c4, c5, c6, c7, c8, c9, c10, c11, .int .i8 0, .int .i8 0, .int .i16 0, .int .i16 0, .int .i16 0, .int .i8 0, .bool false, .bool false]) ?_ 12 _ rfl
  refine zw (cs := #[c0, c1, c2, c3, c4, c5, c6, c7, c8, c9, c10, .int .i8 0, .int .i8 0, .int .i8 0, .int .i16 0, .int .i16 0, .int .i16 0, .int .i8 0, .bool false, .bool false]) ?_ 11 _ rfl
  refine zw (cs := #[c0, c1, c2, c3, c4, c5, c6, c7, c8, c9, .int .i8 0, .int .i8 0, .int .i8 0, .int .i8 0, .int .i16 0, .int .i16 0, .int .i16 0, .int .i8 0, .bool false, .bool false]) ?_ 10 _ rfl
  refine zw (cs := #[c0, c1, c2, c3, c4, c5, c6, c7, c8, .int .i8 0, .int .i8 0, .int .i8 0, .int .i8 0, .int .i8 0, .int .i16 0, .int .i16 0, .int .i16 0, .int .i8 0, .bool false, .bool false]) ?_ 9 _ rfl
  refine zw (cs := #[c0, c1, c2, c3, c4, c5, c6, c7, .int .i8 0, .int .i8 0, .int .i8 0, .int .i8 0, .int .i8 0, .int .i8 0, .int .i16 0, .int .i16 0, .int .i16 0, .int .i8 0, .bool false, .bool false]) ?_ 8 _ rfl
  refine zw (cs := #[c0, c1, c2, c3, c4, c5, c6, .int .i8 0, .int .i8 0, .int .i8 0, .int .i8 0, .int .i8 0, .int .i8 0, .int .i8 0, .int .i16 0, .int .i16 0, .int .i16 0, .int .i8 0, .bool false, .bool false]) ?_ 7 _ rfl
  refine zw (cs := #[c0, c1, c2, c3, c4, c5, .int .i8 0, .int .i8 0, .int .i8 0, .int .i8 0, .int .i8 0, .int .i8 0, .int .i8 0, .int .i8 0, .int .i16 0, .int .i16 0, .int .i16 0, .int .i8 0, .bool false, .bool false]) ?_ 6 _ rfl
  refine zw (cs := #[c0, c1, c2, c3, c4, .int .i8 0, .int .i8 0, .int .i8 0, .int .i8 0, .int .i8 0, .int .i8 0, .int .i8 0, .int .i8 0, .int .i8 0, .int .i16 0, .int .i16 0, .int .i16 0, .int .i8 0, .bool false, .bool false]) ?_ 5 _ rfl
  refine zw (cs := #[c0, c1, c2, c3, .int .i8 0, .int .i8 0, .int .i8 0, .int .i8 0, .int .i8 0, .int .i8 0, .int .i8 0, .int .i8 0, .int .i8 0, .int .i8 0, .int .i16 0, .int .i16 0, .int .i16 0, .int .i8 0, .bool false, .bool false]) ?_ 4 _ rfl
  refine zw (cs := #[c0, c1, c2, .int .i8 0, .int .i8 0, .int .i8 0, .int .i8 0, .int .i8 0, .int .i8 0, .int .i8 0, .int .i8 0, .int .i8 0, .int .i8 0, .int .i8 0, .int .i16 0, .int .i16 0, .int .i16 0, .int .i8 0, .bool false, .bool false]) ?_ 3 _ rfl
  refine zw (cs := #[c0, c1, .int .i8 0, .int .i8 0, .int .i8 0, .int .i8 0, .int .i8 0, .int .i8 0, .int .i8 0, .int .i8 0, .int .i8 0, .int .i8 0, .int .i8 0, .int .i8 0, .int .i16 0, .int .i16 0, .int .i16 0, .int .i8 0, .bool false, .bool false]) ?_ 2 _ rfl
  refine zw (cs := #[c0, .int .i8 0, .int .i8 0, .int .i8 0, .int .i8 0, .int .i8 0, .int .i8 0, .int .i8 0, .int .i8 0, .int .i8 0, .int .i8 0, .int .i8 0, .int .i8 0, .int .i8 0, .int .i16 0, .int .i16 0, .int .i16 0, .int .i8 0, .bool false, .bool false]) ?_ 1 _ rfl
  refine zw (cs := #[.int .i8 0, .int .i8 0, .int .i8 0, .int .i8 0, .int .i8 0, .int .i8 0, .int .i8 0, .int .i8 0, .int .i8 0, .int .i8 0, .int .i8 0, .int .i8 0, .int .i8 0, .int .i8 0, .int .i16 0, .int .i16 0, .int .i16 0, .int .i8 0, .bool false, .bool false]) ?_ 0 _ rfl
  exact h
end Go.Proofs.Ytmmonhpjjjdnjaa.M
