/- Facts brought to the world that stands. -/
import Derived.Test.YtgcbhknpfpgffaaWWords
import Derived.Test.YtgcbhknpfpgffaaWLast
import Derived.Test.YtgcbhknpfpgffaaWMore
import Derived.Test.YtgcbhknpfpgffaaWKept
namespace Go.Proofs.Ytgcbhknpfpgffaa.C
open Go.RowKit Go.Proofs.YtgcbhknpfpgffaaW.PrintWords Go.Proofs.YtgcbhknpfpgffaaW.PrintLast Go.Proofs.YtgcbhknpfpgffaaW.PrintMore
set_option linter.unusedVariables false
section
variable {w W W' W2 : World} {g g' : Nat} {o : Obj} {α : Type} {d : Kd α} {e base n c : Nat} {ok : Nat → Prop} {v : Value} {xs : List α} {A : Option Addr}
theorem sB (h : Below w.heap.size w W := by repeat (first | (with_reducible first | exact zg.out (by assumption) | apply zq | apply zn | apply zo | refine zi ?_ (zg.out (by assumption))) | exact zg.out (by assumption))) : Below w.heap.size w W := h
theorem uK (h : zg (W.heap[g]? = some o)) (u : Below W.heap.size W W' := by ((with_reducible repeat (first | exact Below.refl _ _ | apply zq | apply zn | apply zo)); first | done | exact ⟨rfl, rfl, rfl, Nat.le_refl _, fun _ _ => rfl⟩)) : W'.heap[g]? = some o := zz h.out u
theorem uR (h : zg (Kd.R d e W base ok v xs)) (u : Below W.heap.size W W' := by ((with_reducible repeat (first | exact Below.refl _ _ | apply zq | apply zn | apply zo)); first | done | exact ⟨rfl, rfl, rfl, Nat.le_refl _, fun _ _ => rfl⟩)) : Kd.R d e W' base ok v xs := Kd.R_below h.out u
theorem uR' (h : Kd.R d e W base ok v xs) (u : Below W.heap.size W W' := by ((with_reducible repeat (first | exact Below.refl _ _ | apply zq | apply zn | apply zo)); first | done | exact ⟨rfl, rfl, rfl, Nat.le_refl _, fun _ _ => rfl⟩)) : Kd.R d e W' base ok v xs := Kd.R_below h u
theorem uC (h : zg (Kd.C d w A n xs)) (k : zg (Below w.heap.size w W)) (u : Below W.heap.size W W' := by ((with_reducible repeat (first | exact Below.refl _ _ | apply zq | apply zn | apply zo)); first | done | exact ⟨rfl, rfl, rfl, Nat.le_refl _, fun _ _ => rfl⟩)) : Kd.C d W' A n xs := Kd.C_below (Kd.C_below h.out k.out) u
theorem uQ {xs : List α} (h : zg (Kd.R d e W base ok (.slice A n c) xs)) (u : Below W.heap.size W W' := by ((with_reducible repeat (first | exact Below.refl _ _ | apply zq | apply zn | apply zo)); first | done | exact ⟨rfl, rfl, rfl, Nat.le_refl _, fun _ _ => rfl⟩)) : Kd.C d W' A xs.length xs := Kd.C_below (Kd.R_reads' h.out).2.2 u
theorem dK (h : zg (W.heap[g]? = some o)) (k : Below W'.heap.size W' W2) (u : Below W.heap.size W W' := by ((with_reducible repeat (first | exact Below.refl _ _ | apply zq | apply zn | apply zo)); first | done | exact ⟨rfl, rfl, rfl, Nat.le_refl _, fun _ _ => rfl⟩)) : zg (W2.heap[g]? = some o) := ⟨zz (zz h.out u) k⟩
theorem dR (h : zg (Kd.R d e W base ok v xs)) (k : Below W'.heap.size W' W2) (u : Below W.heap.size W W' := by ((with_reducible repeat (first | exact Below.refl _ _ | apply zq | apply zn | apply zo)); first | done | exact ⟨rfl, rfl, rfl, Nat.le_refl _, fun _ _ => rfl⟩)) : zg (Kd.R d e W2 base ok v xs) := ⟨Kd.R_below (Kd.R_below h.out u) k⟩
theorem zB (h : zg (Below w.heap.size w W)) (u : Below W.heap.size W W' := by ((with_reducible repeat (first | exact Below.refl _ _ | apply zq | apply zn | apply zo)); first | done | exact ⟨rfl, rfl, rfl, Nat.le_refl _, fun _ _ => rfl⟩)) : w.heap.size ≤ W'.heap.size := Nat.le_trans h.out.size u.size
theorem gB (hg : g = W'.heap.size) (h : Below w.heap.size w W' := by repeat (first | (with_reducible first | exact zg.out (by assumption) | apply zq | apply zn | apply zo | refine zi ?_ (zg.out (by assumption))) | exact zg.out (by assumption))) : zg (w.heap.size ≤ g) := ⟨hg ▸ h.size⟩
theorem nK (hg : g' = W'.heap.size) (h : zg (W.heap[g]? = some o)) (u : Below W.heap.size W W' := by ((with_reducible repeat (first | exact Below.refl _ _ | apply zq | apply zn | apply zo)); first | done | exact ⟨rfl, rfl, rfl, Nat.le_refl _, fun _ _ => rfl⟩)) : zg (g ≠ g') := ⟨fun q => by have := zba (zz h.out u); omega⟩
end
section
variable {W : World} {g : Nat} {t : TypeId} {a b c d e f i j k : Value}
theorem xc1 (h : zg (W.heap[g]? = some (.cells #[a] t (0, 0)))) : W.cell? ⟨g, 0, none⟩ = some a := (zh h.out 0).trans rfl
theorem xc2 (h : zg (W.heap[g]? = some (.cells #[a, b] t (0, 0)))) : W.cell? ⟨g, 0, none⟩ = some a ∧ W.cell? ⟨g, 1, none⟩ = some b := ⟨(zh h.out 0).trans rfl, (zh h.out 1).trans rfl⟩
theorem xc3 (h : zg (W.heap[g]? = some (.cells #[a, b, c] t (0, 0)))) : W.cell? ⟨g, 0, none⟩ = some a ∧ W.cell? ⟨g, 1, none⟩ = some b ∧ W.cell? ⟨g, 2, none⟩ = some c := ⟨(zh h.out 0).trans rfl, (zh h.out 1).trans rfl, (zh h.out 2).trans rfl⟩
theorem xc4 (h : zg (W.heap[g]? = some (.cells #[a, b, c, d] t (0, 0)))) : W.cell? ⟨g, 0, none⟩ = some a ∧ W.cell? ⟨g, 1, none⟩ = some b ∧ W.cell? ⟨g, 2, none⟩ = some c ∧ W.cell? ⟨g, 3, none⟩ = some d := ⟨(zh h.out 0).trans rfl, (zh h.out 1).trans rfl, (zh h.out 2).trans rfl, (zh h.out 3).trans rfl⟩
theorem xc6 (h : zg (W.heap[g]? = some (.cells #[a, b, c, d, e, f] t (0, 0)))) : W.cell? ⟨g, 0, none⟩ = some a ∧ W.cell? ⟨g, 1, none⟩ = some b ∧ W.cell? ⟨g, 2, none⟩ = some c ∧ W.cell? ⟨g, 3, none⟩ = some d ∧ W.cell? ⟨g, 4, none⟩ = some e ∧ W.cell? ⟨g, 5, none⟩ = some f := ⟨(zh h.out 0).trans rfl, (zh h.out 1).trans rfl, (zh h.out 2).trans rfl, (zh h.out 3).trans rfl, (zh h.out 4).trans rfl, (zh h.out 5).trans rfl⟩
theorem xc9 (h : zg (W.heap[g]? = some (.cells #[a, b, c, d, e, f, i, j, k] t (0, 0)))) : W.cell? ⟨g, 0, none⟩ = some a ∧ W.cell? ⟨g, 1, none⟩ = some b ∧ W.cell? ⟨g, 2, none⟩ = some c ∧ W.cell? ⟨g, 3, none⟩ = some d ∧ W.cell? ⟨g, 4, none⟩ = some e ∧ W.cell? ⟨g, 5, none⟩ = some f ∧ W.cell? ⟨g, 6, none⟩ = some i ∧ W.cell? ⟨g, 7, none⟩ = some j ∧ W.cell? ⟨g, 8, none⟩ = some k := ⟨(zh h.out 0).trans rfl, (zh h.out 1).trans rfl, (zh h.out 2).trans rfl, (zh h.out 3).trans rfl, (zh h.out 4).trans rfl, (zh h.out 5).trans rfl, (zh h.out 6).trans rfl, (zh h.out 7).trans rfl, (zh h.out 8).trans rfl⟩
end
section
variable {W : World} {g : Nat} {t : TypeId} {cs : Array Value}
theorem xf1 (h : zg (W.heap[g]? = some (.cells cs t (0, 0)))) : W.frozen? ⟨g, 0, none⟩ = false := zj h.out 0
theorem xf2 (h : zg (W.heap[g]? = some (.cells cs t (0, 0)))) : W.frozen? ⟨g, 0, none⟩ = false ∧ W.frozen? ⟨g, 1, none⟩ = false := ⟨zj h.out 0, zj h.out 1⟩
theorem xf3 (h : zg (W.heap[g]? = some (.cells cs t (0, 0)))) : W.frozen? ⟨g, 0, none⟩ = false ∧ W.frozen? ⟨g, 1, none⟩ = false ∧ W.frozen? ⟨g, 2, none⟩ = false := ⟨zj h.out 0, zj h.out 1, zj h.out 2⟩
theorem xf4 (h : zg (W.heap[g]? = some (.cells cs t (0, 0)))) : W.frozen? ⟨g, 0, none⟩ = false ∧ W.frozen? ⟨g, 1, none⟩ = false ∧ W.frozen? ⟨g, 2, none⟩ = false ∧ W.frozen? ⟨g, 3, none⟩ = false := ⟨zj h.out 0, zj h.out 1, zj h.out 2, zj h.out 3⟩
theorem xf6 (h : zg (W.heap[g]? = some (.cells cs t (0, 0)))) : W.frozen? ⟨g, 0, none⟩ = false ∧ W.frozen? ⟨g, 1, none⟩ = false ∧ W.frozen? ⟨g, 2, none⟩ = false ∧ W.frozen? ⟨g, 3, none⟩ = false ∧ W.frozen? ⟨g, 4, none⟩ = false ∧ W.frozen? ⟨g, 5, none⟩ = false := ⟨zj h.out 0, zj h.out 1, zj h.out 2, zj h.out 3, zj h.out 4, zj h.out 5⟩
theorem xf9 (h : zg (W.heap[g]? = some (.cells cs t (0, 0)))) : W.frozen? ⟨g, 0, none⟩ = false ∧ W.frozen? ⟨g, 1, none⟩ = false ∧ W.frozen? ⟨g, 2, none⟩ = false ∧ W.frozen? ⟨g, 3, none⟩ = false ∧ W.frozen? ⟨g, 4, none⟩ = false ∧ W.frozen? ⟨g, 5, none⟩ = false ∧ W.frozen? ⟨g, 6, none⟩ = false ∧ W.frozen? ⟨g, 7, none⟩ = false ∧ W.frozen? ⟨g, 8, none⟩ = false := ⟨zj h.out 0, zj h.out 1, zj h.out 2, zj h.out 3, zj h.out 4, zj h.out 5, zj h.out 6, zj h.out 7, zj h.out 8⟩
end
section
variable {P : Program} {ops : Array Oper} {rest : List Oper} {o : Oper} {a : Act} {Q : Exit → Act → World → Prop} {W : World}
theorem gz (N : Option Tmp) {f : FuncId} {fn : Func} (hf : P.funcs[f]? = some fn) {as : Array Operand} {ts : Array TypeId} (args : Array Value) (hd : o.dst = N) (hop : o.op = .call { callee := .value (.func f), args := as, argTypes := ts }) (h : Calls P f args W fun e w' => ∃ v, e = .returned v ∧ wpList P ops Q rest (a.put N v) w')
    (hg : o.guard = none := by rfl) (hname : (fn.name == "runtime.NumGoroutine") = false := by kernel_rfl) (hb : fn.body.isSome = true := by rfl) (hargs : as.map a.eval = args := by ((try simp only [List.map_toArray, List.map_cons, List.map_nil]); first | done | rfl | (simp only [List.length_drop, List.length_take]; rfl))) : wpList P ops Q (o :: rest) a W := zxb N hd hg hf hname hb args hop hargs h
theorem bx {N : Tmp} (cs : Array Value) (t : TypeId) (hd : o.dst = some N) (h : ∀ g, g = W.heap.size → ∀ w1, w1.heap[g]? = some (.cells cs t (0, 0)) → Below W.heap.size W w1 → wpList P ops Q rest (a.put o.dst (.pointer (some ⟨g, 0, none⟩))) w1)
    (hgd : o.guard = none := by rfl) (hrun : (execOp a.eval o).run P W = .ok (.value (.pointer (some ⟨W.heap.size, 0, none⟩))) (W.alloc (.cells cs t (0, 0))) := by first | (go_simp; done) | (go_simp; rfl)) : wpList P ops Q (o :: rest) a W := zia hgd hd hrun h
end
end Go.Proofs.Ytgcbhknpfpgffaa.C
