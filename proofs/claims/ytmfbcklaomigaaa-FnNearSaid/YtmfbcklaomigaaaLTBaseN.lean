/- Fixed plans: small words. -/
import Derived.Test.YtmfbcklaomigaaaNx11
import Derived.Test.YtmfbcklaomigaaaNx16
import Derived.Test.YtmfbcklaomigaaaNx9
namespace Go.Proofs.Ytmfbcklaomigaaa.N
open Go.RowKit Go.Proofs.YtmfbcklaomigaaaW.PrintWords Go.Proofs.YtmfbcklaomigaaaW.PrintLast Go.Proofs.YtmfbcklaomigaaaW.PrintMore
set_option linter.unusedVariables false
set_option linter.unusedSimpArgs false

theorem zpc {j n : Nat} (h : j < n) (hn : n ≤ 140737488355328) : wrap64 ((j : Int) + 1) = ((j + 1 : Nat) : Int) := by
  unfold wrap64; omega
theorem rd_at (xs : List Int) (j : Nat) : rd xs (j : Int) = xs.getD j 0 := by unfold rd; rw [Int.toNat_natCast]
theorem getD_at (xs : List Int) (j : Nat) (h : j < xs.length) : xs[j]? = some (xs.getD j 0) := by
  rw [List.getD_eq_getElem?_getD, List.getElem?_eq_getElem h]; rfl
theorem drop_at (xs : List Int) (j : Nat) (h : j < xs.length) : xs.drop j = xs.getD j 0 :: xs.drop (j + 1) := by
  rw [List.getD_eq_getElem?_getD, List.getElem?_eq_getElem h, Option.getD_some]
  exact List.drop_eq_getElem_cons h

theorem i8_wf {a : Int} (h : (Lit.int .i8 a).wf = true) : -128 ≤ a ∧ a ≤ 127 := by simpa [Lit.wf, IntKind.min, IntKind.max, IntKind.signed, IntKind.bits] using h
theorem i16_wf {a : Int} (h : (Lit.int .i16 a).wf = true) : -32768 ≤ a ∧ a ≤ 32767 := by simpa [Lit.wf, IntKind.min, IntKind.max, IntKind.signed, IntKind.bits] using h
theorem wn_0 : wrap64 (0 + 1) = 1 := by decide +kernel
theorem wn_1 : wrap64 (1 + 1) = 2 := by decide +kernel
theorem wn_2 : wrap64 (2 + 1) = 3 := by decide +kernel
theorem wn_3 : wrap64 (3 + 1) = 4 := by decide +kernel
theorem wn_4 : wrap64 (4 + 1) = 5 := by decide +kernel
theorem wn_5 : wrap64 (5 + 1) = 6 := by decide +kernel
theorem wn_6 : wrap64 (6 + 1) = 7 := by decide +kernel
theorem wn_7 : wrap64 (7 + 1) = 8 := by decide +kernel
theorem wn_8 : wrap64 (8 + 1) = 9 := by decide +kernel
theorem wn_9 : wrap64 (9 + 1) = 10 := by decide +kernel
theorem wn_10 : wrap64 (10 + 1) = 11 := by decide +kernel
theorem wn_11 : wrap64 (11 + 1) = 12 := by decide +kernel
theorem wn_12 : wrap64 (12 + 1) = 13 := by decide +kernel
theorem wn_13 : wrap64 (13 + 1) = 14 := by decide +kernel
theorem wn_14 : wrap64 (14 + 1) = 15 := by decide +kernel
theorem zrc (xs : List S38) (j : Nat) : zf xs (j : Int) = xs.getD j z38 := by unfold zf; rw [Int.toNat_natCast]
theorem zob (xs : List S38) (j : Nat) (h : j < xs.length) : xs.getD j z38 ∈ xs := by
  rw [List.getD_eq_getElem?_getD, List.getElem?_eq_getElem h, Option.getD_some]; exact List.getElem_mem h
theorem rd43_at (xs : List S43) (j : Nat) : zx xs (j : Int) = xs.getD j z43 := by unfold zx; rw [Int.toNat_natCast]
theorem getD43_mem (xs : List S43) (j : Nat) (h : j < xs.length) : xs.getD j z43 ∈ xs := by
  rw [List.getD_eq_getElem?_getD, List.getElem?_eq_getElem h, Option.getD_some]; exact List.getElem_mem h

end Go.Proofs.Ytmfbcklaomigaaa.N
