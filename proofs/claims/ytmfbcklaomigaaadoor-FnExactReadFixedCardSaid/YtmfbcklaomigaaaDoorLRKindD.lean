/- Texts of fixed plans: the kind's word, and the whole. -/
import Derived.Laws.Strings
import Derived.Test.YtmfbcklaomigaaaDoorDx11
import Derived.Test.YtmfbcklaomigaaaDoorDx5
import Derived.Test.YtmfbcklaomigaaaDoorDx6
import Derived.Test.YtmfbcklaomigaaaDoorDx7
import Derived.Test.YtmfbcklaomigaaaDoorLRBaseD
import Derived.Test.YtmfbcklaomigaaaDoorLROkD
import Derived.Test.YtmfbcklaomigaaaDoorLRReadD
import Derived.Test.YtmfbcklaomigaaaDoorLRSplitD
namespace Go.Proofs.YtmfbcklaomigaaaDoor.D
open Go.RowKit Go.Proofs.YtmfbcklaomigaaaDoorW.PrintWords Go.Proofs.YtmfbcklaomigaaaDoorW.PrintLast Go.Proofs.YtmfbcklaomigaaaDoorW.PrintMore
set_option linter.unusedVariables false
set_option linter.unusedSimpArgs false

def wH : ByteArray := ⟨#[104, 101, 97, 118, 121]⟩
def wL : ByteArray := ⟨#[108, 105, 103, 104, 116]⟩
def wE : ByteArray := ⟨#[101, 105, 116, 104, 101, 114]⟩
def kindOf (w : ByteArray) : Int := if w.toList = wH.toList then 0 else if w.toList = wL.toList then 1 else if w.toList = wE.toList then 2 else -1
theorem kindOf_in (w : ByteArray) : -1 ≤ kindOf w ∧ kindOf w ≤ 2 := by
  unfold kindOf
  split
  · decide
  · split
    · decide
    · split <;> decide
theorem HL : wH.toList ≠ wL.toList := by rw [ByteArray.toList_eq, ByteArray.toList_eq]; decide
theorem HE : wH.toList ≠ wE.toList := by rw [ByteArray.toList_eq, ByteArray.toList_eq]; decide
theorem LE_ : wL.toList ≠ wE.toList := by rw [ByteArray.toList_eq, ByteArray.toList_eq]; decide
theorem ikind_f (w : ByteArray) (k : Nat) (hk : 5 < k) : ∃ t, slices_Index_string_string.f k [wH, wL, wE] w = some t ∧ IntKind.i8.wrap t = kindOf w := by
  obtain ⟨k, rfl⟩ : ∃ m, k = m + 1 + 1 + 1 + 1 := ⟨k - 4, by omega⟩
  unfold slices_Index_string_string.f kindOf
  have l3 : (([wH, wL, wE] : List ByteArray).length : Int) = 3 := rfl
  have r0 : rdOf ByteArray.empty [wH, wL, wE] (0 : Int) = wH := rfl
  have r1 : rdOf ByteArray.empty [wH, wL, wE] (1 : Int) = wL := rfl
  have r2 : rdOf ByteArray.empty [wH, wL, wE] (2 : Int) = wE := rfl
  rw [l3, slices_Index_string_string.l0.eq_2, if_pos (by decide), if_pos (by decide), l3, if_pos (by decide), r0, wn_0]
  by_cases h1 : w.toList = wH.toList
  · rw [if_pos h1, if_pos h1]; exact ⟨0, rfl, by decide +kernel⟩
  rw [if_neg h1, if_neg h1, slices_Index_string_string.l0.eq_2, if_pos (by decide), if_pos (by decide), l3, if_pos (by decide), r1, wn_1]
  by_cases h2 : w.toList = wL.toList
  · rw [if_pos h2, if_pos h2]; exact ⟨1, rfl, by decide +kernel⟩
  rw [if_neg h2, if_neg h2, slices_Index_string_string.l0.eq_2, if_pos (by decide), if_pos (by decide), l3, if_pos (by decide), r2, wn_2]
  by_cases h3 : w.toList = wE.toList
  · rw [if_pos h3, if_pos h3]; exact ⟨2, rfl, by decide +kernel⟩
  rw [if_neg h3, if_neg h3, slices_Index_string_string.l0.eq_2, if_neg (by decide)]
  exact ⟨-1, rfl, by decide +kernel⟩
theorem skind_l0 (x : List ByteArray) (hx : 0 < x.length) (k : Nat) : spec_ReadFixed.l0 (k + 1 + 1 + 1 + 1) x 0 0 (-1) = spec_ReadFixed.l1 k x 1 0 (kindOf (rdOf ByteArray.empty x 0)) [] := by
  have e : spec_l04Kinds.f = some [wH, wL, wE] := rfl
  have l3 : (([wH, wL, wE] : List ByteArray).length : Int) = 3 := rfl
  have r0 : rdOf ByteArray.empty [wH, wL, wE] (0 : Int) = wH := rfl
  have r1 : rdOf ByteArray.empty [wH, wL, wE] (1 : Int) = wL := rfl
  have r2 : rdOf ByteArray.empty [wH, wL, wE] (2 : Int) = wE := rfl
  have w0 : IntKind.i8.wrap (0 + 1) = 1 := by decide +kernel
  have w1 : IntKind.i8.wrap (1 + 1) = 2 := by decide +kernel
  have w2 : IntKind.i8.wrap (2 + 1) = 3 := by decide +kernel
  have hp : (0 : Int) < (x.length : Int) := by omega
  have s0 : ∀ q k, spec_ReadFixed.l0 (k + 1) x 0 0 q = if (rdOf ByteArray.empty x 0).toList = wH.toList then spec_ReadFixed.l0 k x 1 0 0 else spec_ReadFixed.l0 k x 1 0 q := fun q k => by
    rw [spec_ReadFixed.l0.eq_2, if_pos (by decide), if_pos hp, e]
    simp only [Option.bind_some]
    rw [if_pos (by decide), l3, if_pos (by decide), r0, w0]
  have s1 : ∀ q k, spec_ReadFixed.l0 (k + 1) x 1 0 q = if (rdOf ByteArray.empty x 0).toList = wL.toList then spec_ReadFixed.l0 k x 2 0 1 else spec_ReadFixed.l0 k x 2 0 q := fun q k => by
    rw [spec_ReadFixed.l0.eq_2, if_pos (by decide), if_pos hp, e]
    simp only [Option.bind_some]
    rw [if_pos (by decide), l3, if_pos (by decide), r1, w1]
  have s2 : ∀ q k, spec_ReadFixed.l0 (k + 1) x 2 0 q = if (rdOf ByteArray.empty x 0).toList = wE.toList then spec_ReadFixed.l0 k x 3 0 2 else spec_ReadFixed.l0 k x 3 0 q := fun q k => by
    rw [spec_ReadFixed.l0.eq_2, if_pos (by decide), if_pos hp, e]
    simp only [Option.bind_some]
    rw [if_pos (by decide), l3, if_pos (by decide), r2, w2]
  have s3 : ∀ q k, spec_ReadFixed.l0 (k + 1) x 3 0 q = spec_ReadFixed.l1 k x 1 0 q [] := fun q k => by
    rw [spec_ReadFixed.l0.eq_2, if_neg (by decide)]
  unfold kindOf
  rw [s0, s1, s1]
  simp only [s2, s3]
  by_cases h1 : (rdOf ByteArray.empty x 0).toList = wH.toList
  · have h2 : ¬ (rdOf ByteArray.empty x 0).toList = wL.toList := fun h => HL (h1.symm.trans h)
    have h3 : ¬ (rdOf ByteArray.empty x 0).toList = wE.toList := fun h => HE (h1.symm.trans h)
    simp only [if_pos h1, if_neg h2, if_neg h3]
  · by_cases h2 : (rdOf ByteArray.empty x 0).toList = wL.toList
    · have h3 : ¬ (rdOf ByteArray.empty x 0).toList = wE.toList := fun h => LE_ (h2.symm.trans h)
      simp only [if_neg h1, if_pos h2, if_neg h3]
    · by_cases h3 : (rdOf ByteArray.empty x 0).toList = wE.toList
      · simp only [if_neg h1, if_neg h2, if_pos h3]
      · simp only [if_neg h1, if_neg h2, if_neg h3]
/-- What both sides read. -/
def readR (s : ByteArray) : RR := bodyR (kindOf (rdOf ByteArray.empty (pcs s) 0)) ((pcs s).drop 1)
theorem iread_f (s : ByteArray) (hs : s.size ≤ 1048576) (k : Nat) (hk : 5000000 < k) : impl_ReadFixed.f k s = some (readR s) := by
  have hne := pcs_ne s
  have hp : 0 < (pcs s).length := List.length_pos_iff.mpr hne
  have hl := pcs_len s
  obtain ⟨t, ht, hw⟩ := ikind_f (rdOf ByteArray.empty (pcs s) 0) k (by omega)
  have e : impl_kindWords.f = some [wH, wL, wE] := rfl
  unfold impl_ReadFixed.f
  rw [isplit_f s hs, e]
  simp only [Option.bind_some, rest1]
  rw [if_pos (by omega), ht]
  simp only [Option.bind_some]
  rw [hw]
  exact impl_body _ (by rw [List.length_drop]; omega) (fun w h => Nat.le_trans (pcs_le s w (List.mem_of_mem_drop h)) hs) _ (kindOf_in _) k (by omega)
theorem sread_f (s : ByteArray) (hs : s.size ≤ 1048576) (k : Nat) (hk : 5000000 < k) : spec_ReadFixed.f k s = some (readR s) := by
  have hne := pcs_ne s
  have hl := pcs_len s
  unfold spec_ReadFixed.f
  rw [ssplit_f s hs k (by omega)]
  simp only [Option.bind_some]
  obtain ⟨k, rfl⟩ : ∃ m, k = m + 1 + 1 + 1 + 1 := ⟨k - 4, by omega⟩
  unfold readR
  have hb : ∀ w ∈ pcs s, w.size ≤ 1048576 := fun w h => Nat.le_trans (pcs_le s w h) hs
  rw [skind_l0 _ (List.length_pos_iff.mpr hne)]
  cases h : pcs s with
  | nil => exact absurd h hne
  | cons w u =>
    rw [h] at hl hb
    exact spec_body w w u (by omega) hb _ (kindOf_in _) k (by omega)
theorem bodyR_len (kd : Int) (u : List ByteArray) (hu : u.length ≤ 1048576) : (bodyR kd u).2.2.1.length ≤ 1048576 := by
  have key : ∀ (n : Nat) (l : List ByteArray) (acc : List S35), l.length + acc.length ≤ 1048576 → (tailR n kd l acc).2.2.1.length ≤ 1048576 := by
    intro n l
    induction l with
    | nil =>
      intro acc h
      unfold tailR fin
      split
      · simpa using h
      · simp [errR]
    | cons w r ih =>
      intro acc h
      unfold tailR
      split
      · exact ih _ (by simp at h ⊢; omega)
      · simp [errR]
  cases u with
  | nil => simp only [bodyR, fin]; by_cases h : okF 0 kd [] = true <;> simp [h, errR]
  | cons w r =>
    simp only [bodyR]
    by_cases h : rdOk w = true
    · rw [if_pos h]; exact key _ r [padB w] (by simp at hu ⊢; omega)
    · rw [if_neg h]; simp [errR]

end Go.Proofs.YtmfbcklaomigaaaDoor.D
