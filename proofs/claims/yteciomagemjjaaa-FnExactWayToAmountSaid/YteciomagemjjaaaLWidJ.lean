/- The first water that is accepted. -/
import Derived.Test.YteciomagemjjaaaLSearchJ
namespace Go.Proofs.Yteciomagemjjaaa.J
open Go.RowKit Go.Proofs.YteciomagemjjaaaW.PrintWords Go.Proofs.YteciomagemjjaaaW.PrintLast Go.Proofs.YteciomagemjjaaaW.PrintMore
attribute [local go_sem] zna zka zra zsa zga zha zla zma   -- for this text's walks alone
set_option linter.unusedVariables false
set_option linter.unusedSimpArgs false
/-! ### the first water that is accepted: slices.IndexFunc, function 98, over the literal 99 -/
def v82 (x : S82) : Value := .agg #[.int .i16 x.f0.f0, .int .i16 x.f0.f1, .int .i16 x.f0.f2, .int .i16 x.f0.f3, .int .i64 x.f1, .int .i8 x.f2.f0, .int .i8 x.f2.f1, .int .i8 x.f2.f2, .int .i64 x.f3]
/-- The place of the first element whose water p accepts, from n on. -/
def fIdx (p : S27 → Bool) : List S82 → Nat → Int
  | [], _ => -1
  | e :: t, n => if p e.f0 = true then (n : Int) else fIdx p t (n + 1)
theorem fIdx_cons (p : S27 → Bool) (e : S82) (t : List S82) (n : Nat) : fIdx p (e :: t) n = if p e.f0 = true then (n : Int) else fIdx p t (n + 1) := rfl
theorem drop82 (q : List S82) (i : Nat) (h : i < q.length) : q.drop i = zq q (i : Int) :: q.drop (i + 1) := by
  unfold zq
  rw [Int.toNat_natCast, List.getD_eq_getElem?_getD, List.getElem?_eq_getElem h, Option.getD_some]
  exact List.drop_eq_getElem_cons h
/-- The literal 99 tells of every element what p says. -/
def Tells (p : S27 → Bool) (g3 : Nat) (w : World) : Prop := ∀ (x : S82) (W : World), Below w.heap.size w W → Calls Try.prog 99 #[v82 x, .pointer (some ⟨g3, 0, none⟩)] W fun e w' => e = .returned (.bool (p x.f0)) ∧ Below W.heap.size W w'
set_option maxHeartbeats 8000000 in
set_option maxRecDepth 100000 in
theorem idxF_calls (p : S27 → Bool) (g3 : Nat) (A : Option Addr) (c : Nat) (q : List S82) (w : World) (hr : Kd.C k82 w A q.length q) (hc : q.length ≤ c) (hl : q.length < 1000000) (ht : Tells p g3 w) :
    Calls Try.prog 98 #[.slice A q.length c, .func (.func 99) #[] #[.pointer (some ⟨g3, 0, none⟩)]] w fun e w' => e = .returned (.int .i64 (fIdx p q 0)) ∧ Below w.heap.size w w' := by
  have HR := za.mk hr
  have HT := za.mk ht
  have HL := za.mk hl
  have HB := za.mk (Below.refl w.heap.size w)
  clear hr ht
  go_enter Try.func98, Try.ntmps98
  go_wp2
  go_loopg [5, 8] q.length (fun kq v5 v8 w' => ∃ n : Nat, v8 = .int .i64 (n : Int) ∧ za (n + kq = q.length) ∧ za (fIdx p (q.drop n) n = fIdx p q 0) ∧ za (Below w.heap.size w w'))
  case atStart => exact ⟨0, rfl, ⟨by omega⟩, ⟨rfl⟩, HB⟩
  case round =>
    clear HB
    obtain ⟨n, rfl, HN, HF, HB⟩ := hrel
    obtain ⟨x, hx⟩ : ∃ x : Int, x = (n : Int) := ⟨_, rfl⟩
    rw [← hx]
    have HX := za.mk hx
    clear hx
    cases gk with
    | zero =>
      have hn : decide (x < (q.length : Int)) = false := decide_eq_false (by have := HN.out; have := HX.out; omega)
      have hF := HF.out
      rw [List.drop_eq_nil_of_le (by have := HN.out; omega)] at hF
      have HE := za.mk hF
      clear hF HF HN hc hl
      go_wp2
      go_ret
      exact ⟨by rw [← HE.out]; rfl, HB.out⟩
    | succ k1 =>
      have hn : n < q.length := by have := HN.out; omega
      have hn1 : x < (q.length : Int) := by have := HX.out; omega
      have hn0 : 0 ≤ x := by have := HX.out; omega
      have hw : wrap64 (x + 1) = x + 1 := by have := HX.out; unfold wrap64; omega
      have HW := za.mk hw
      obtain ⟨ad, eA, hx0, hx1, hx2, hx3, hx4, hx5, hx6, hx7, hx8⟩ := zwd (Kd.C_below HR.out HB.out) x hn0 hn1
      cases eA
      have HF2 := HF.out
      rw [drop82 q n hn, ← HX.out] at HF2
      rw [fIdx_cons] at HF2
      have HN2 := HN
      have c3b0 : decide (x < (q.length : Int)) = true := decide_eq_true hn1
      have c4b0 : decide (0 ≤ x) = true := decide_eq_true hn0
      replace hn1 := eq_true hn1
      replace hn0 := eq_true hn0
      clear hw hc hl
      by_cases hp : p (zq q x).f0 = true
      · rw [if_pos hp] at HF2
        have HE := za.mk HF2
        have HP := za.mk hp
        clear HF2 hp HF HN hn
        go_wp2_with (first
          | (go_at_call 99
             refine (HT.out (zq q x) _ (by repeat (first | exact HB.out | apply zy | apply zm | apply zv))).mono ?_
             rintro e w1 ⟨rfl, hb⟩
             rw [HP.out]))
        go_ret
        exact ⟨by rw [← HE.out, ← HX.out]; rfl, zi (by repeat (first | exact HB.out | apply zy | apply zm | apply zv)) hb⟩
      · rw [if_neg hp] at HF2
        have HE := za.mk HF2
        have HP := za.mk (Bool.eq_false_iff.mpr hp)
        clear HF2 hp HF HN hn
        go_wp2_with (first
          | (go_at_call 99
             refine (HT.out (zq q x) _ (by repeat (first | exact HB.out | apply zy | apply zm | apply zv))).mono ?_
             rintro e w1 ⟨rfl, hb⟩
             rw [HP.out]))
        go_roundg k1
        case measure => omega
        case rel => exact ⟨n + 1, by rw [HW.out, HX.out]; rfl, ⟨by have := HN2.out; omega⟩, HE, ⟨zi (by repeat (first | exact HB.out | apply zy | apply zm | apply zv)) hb⟩⟩
end Go.Proofs.Yteciomagemjjaaa.J
