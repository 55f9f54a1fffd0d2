-- Written by wip/find/mk.py, a program of this session.
import Derived.Test.YtgcbhknpfpgffaaCx0
import Derived.Test.YtgcbhknpfpgffaaLPrC
namespace Go.Proofs.Ytgcbhknpfpgffaa.C
open Go.RowKit Go.Proofs.YtgcbhknpfpgffaaW.PrintWords Go.Proofs.YtgcbhknpfpgffaaW.PrintLast Go.Proofs.YtgcbhknpfpgffaaW.PrintMore
attribute [local go_sem] zdb zcb zkb zjb zva zwa zbb zab   -- for this text's walks alone
set_option linter.unusedVariables false
set_option linter.unusedSimpArgs false

abbrev CT := List Int → Int → Int → Int → Int → Int → Int → Option (Bool × List Int)
def memo (xs : List Int) : Array Value := (xs.map (Value.int .i8)).toArray
def IsF (p : Nat) (w0 W : World) (g : Nat) (xs : List Int) (lies : Int) : Prop :=
  w0.heap.size ≤ g ∧ w0.heap.size ≤ p ∧ p ≠ g ∧ W.heap[p]? = some (.cells #[.int .i64 lies, .slice (some ⟨g, 0, none⟩) 137781 137781] 41 (0, 0)) ∧ xs.length = 137781 ∧ ∃ t, W.heap[g]? = some (.cells (memo xs) t (0, 0))
theorem nelt {p n b : Nat} (h : p < n) (k : n ≤ b) : p ≠ b := by omega
theorem zcc {w : World} {g : Nat} {o : Obj} (h : w.heap[g]? = some o) {p : Addr} (hp : g ≠ p.block) (u : Value) : (w.setCell p u).heap[g]? = some o := (Below.heap_setCell w p u g hp).trans h
namespace IsF
theorem below {p g : Nat} {w0 W W1 : World} {xs : List Int} {lies : Int} (h : IsF p w0 W g xs lies) (hw : Below W.heap.size W W1) : IsF p w0 W1 g xs lies :=
  ⟨h.1, h.2.1, h.2.2.1, zz h.2.2.2.1 hw, h.2.2.2.2.1, by obtain ⟨t, ht⟩ := h.2.2.2.2.2; exact ⟨t, zz ht hw⟩⟩
theorem alloc {p g : Nat} {w0 W : World} {xs : List Int} {lies : Int} (h : IsF p w0 W g xs lies) (o : Obj) : IsF p w0 (W.alloc o) g xs lies := h.below (zq (Below.refl _ _) o)
theorem drewN {p g : Nat} {w0 W : World} {xs : List Int} {lies : Int} (h : IsF p w0 W g xs lies) (m : Nat) : IsF p w0 (W.drewN m) g xs lies := h
theorem drew {p g : Nat} {w0 W : World} {xs : List Int} {lies : Int} (h : IsF p w0 W g xs lies) : IsF p w0 W.drew g xs lies := h
theorem at_ {p g : Nat} {w0 W w' : World} {xs : List Int} {lies : Int} {m : Nat} (hq : W.drewN m = w') (h : IsF p w0 W g xs lies) : IsF p w0 w' g xs lies := by subst hq; exact IsF.drewN h m
theorem far {p g : Nat} {w0 W : World} {xs : List Int} {lies : Int} {a : Addr} (h : IsF p w0 W g xs lies) (hg : g ≠ a.block) (hp : p ≠ a.block) (u : Value) : IsF p w0 (W.setCell a u) g xs lies :=
  ⟨h.1, h.2.1, h.2.2.1, zcc h.2.2.2.1 hp u, h.2.2.2.2.1, by obtain ⟨t, ht⟩ := h.2.2.2.2.2; exact ⟨t, zcc ht hg u⟩⟩
theorem ge {p g : Nat} {w0 W : World} {xs : List Int} {lies : Int} (h : IsF p w0 W g xs lies) : w0.heap.size ≤ g := h.1
theorem gep {p g : Nat} {w0 W : World} {xs : List Int} {lies : Int} (h : IsF p w0 W g xs lies) : w0.heap.size ≤ p := h.2.1
theorem lt {p g : Nat} {w0 W : World} {xs : List Int} {lies : Int} (h : IsF p w0 W g xs lies) : g < W.heap.size := by obtain ⟨t, ht⟩ := h.2.2.2.2.2; exact zba ht
theorem ltp {p g : Nat} {w0 W : World} {xs : List Int} {lies : Int} (h : IsF p w0 W g xs lies) : p < W.heap.size := zba h.2.2.2.1
theorem fresh {p g : Nat} {w0 W : World} {xs : List Int} {lies : Int} (h : IsF p w0 W g xs lies) : ∀ k, W.heap.size ≤ k → k ≠ g := fun k hk e => by have := h.lt; omega
theorem c0 {p g : Nat} {w0 W : World} {xs : List Int} {lies : Int} (h : IsF p w0 W g xs lies) : W.cell? ⟨p, 0, none⟩ = some (.int .i64 lies) := (zh h.2.2.2.1 0).trans rfl
theorem c1 {p g : Nat} {w0 W : World} {xs : List Int} {lies : Int} (h : IsF p w0 W g xs lies) : W.cell? ⟨p, 1, none⟩ = some (.slice (some ⟨g, 0, none⟩) 137781 137781) := (zh h.2.2.2.1 1).trans rfl
end IsF
abbrev CanOK (C : CT) (q : Int) : Prop := ∀ (p g : Nat) (st : List Int) (lies x0 x1 x2 x3 : Int) (r1 : Bool) (r2 : List Int) (w0 w : World), IsF p w0 w g st lies → Below w0.heap.size w0 w → C st lies x0 x1 x2 x3 q = some (r1, r2) →
  Calls Try.prog 8 #[.pointer (some ⟨p, 0, none⟩), .agg #[.int .i64 x0, .int .i64 x1, .int .i64 x2, .int .i64 x3], .int .i64 q] w fun e w' => e = .returned (.bool r1) ∧ IsF p w0 w' g r2 lies ∧ Below w0.heap.size w0 w' ∧ zm w w' g none
def wr (xs : List Int) (i v : Int) : List Int := xs.set i.toNat v
namespace IsF
theorem f0 {p g : Nat} {w0 W : World} {xs : List Int} {lies : Int} (h : IsF p w0 W g xs lies) : W.frozen? ⟨p, 0, none⟩ = false := zj h.2.2.2.1 0
theorem f1 {p g : Nat} {w0 W : World} {xs : List Int} {lies : Int} (h : IsF p w0 W g xs lies) : W.frozen? ⟨p, 1, none⟩ = false := zj h.2.2.2.1 1
theorem fm {p g : Nat} {w0 W : World} {xs : List Int} {lies : Int} (h : IsF p w0 W g xs lies) (n : Nat) : W.frozen? ⟨g, n, none⟩ = false := by obtain ⟨t, ht⟩ := h.2.2.2.2.2; exact zj ht n
theorem at_cell {p g : Nat} {w0 W : World} {xs : List Int} {lies i : Int} (h : IsF p w0 W g xs lies) (h0 : 0 ≤ i) (h1 : i < 137781) : W.cell? ⟨g, i.toNat, none⟩ = some (.int .i8 (rd xs i)) := by
  obtain ⟨t, ht⟩ := h.2.2.2.2.2
  have hl : i.toNat < xs.length := by rw [h.2.2.2.2.1]; omega
  rw [zh ht i.toNat]
  unfold memo rd
  rw [List.getElem?_toArray, List.getElem?_map, List.getD_eq_getElem?_getD, List.getElem?_eq_getElem hl]; rfl
theorem put {p g : Nat} {w0 W : World} {xs : List Int} {lies i : Int} (h : IsF p w0 W g xs lies) (h0 : 0 ≤ i) (v : Int) : IsF p w0 (W.setCell ⟨g, i.toNat, none⟩ (.int .i8 v)) g (wr xs i v) lies :=
  ⟨h.1, h.2.1, h.2.2.1, zcc h.2.2.2.1 h.2.2.1 _, by unfold wr; rw [List.length_set]; exact h.2.2.2.2.1, by
    obtain ⟨t, ht⟩ := h.2.2.2.2.2
    refine ⟨t, zy ht i.toNat _ ?_⟩
    unfold memo wr
    rw [List.map_set, List.setIfInBounds_toArray]⟩
end IsF

end Go.Proofs.Ytgcbhknpfpgffaa.C
