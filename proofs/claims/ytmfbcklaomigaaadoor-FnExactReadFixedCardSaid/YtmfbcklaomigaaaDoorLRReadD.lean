/- Texts of fixed plans: both sides read alike. -/
import Derived.Test.YtmfbcklaomigaaaDoorDx11
import Derived.Test.YtmfbcklaomigaaaDoorDx5
import Derived.Test.YtmfbcklaomigaaaDoorDx6
import Derived.Test.YtmfbcklaomigaaaDoorDx7
import Derived.Test.YtmfbcklaomigaaaDoorDx8
import Derived.Test.YtmfbcklaomigaaaDoorLRBaseD
import Derived.Test.YtmfbcklaomigaaaDoorLROkD
import Derived.Test.YtmfbcklaomigaaaDoorLRSplitD
namespace Go.Proofs.YtmfbcklaomigaaaDoor.D
open Go.RowKit Go.Proofs.YtmfbcklaomigaaaDoorW.PrintWords Go.Proofs.YtmfbcklaomigaaaDoorW.PrintLast Go.Proofs.YtmfbcklaomigaaaDoorW.PrintMore
set_option linter.unusedVariables false
set_option linter.unusedSimpArgs false

def isS (c : UInt8) : Bool := c == 45 || (c == 48 || c == 43)
def sg (c : UInt8) : Int := if c = 45 then -1 else if c = 48 then 0 else 1
def okB (l : List UInt8) : Bool := l.all isS
def okW (w : ByteArray) : Bool := okB w.data.toList
def sgL (w : ByteArray) : List Int := w.data.toList.map sg
theorem sgL_len (w : ByteArray) : (sgL w).length = w.size := by unfold sgL; rw [List.length_map, size_at]
theorem index3 (c : UInt8) : strings_IndexByte.f (⟨#[45, 48, 43]⟩ : ByteArray) (c.toNat : Int) = some (if c = 45 then 0 else if c = 48 then 1 else if c = 43 then 2 else -1) := by
  unfold strings_IndexByte.f
  have e : ((c.toNat : Int)).toNat.toUInt8 = c := by simp
  rw [e]
  show some (Lib.indexByte [45, 48, 43] c) = _
  by_cases h1 : c = 45
  · subst h1; rfl
  · by_cases h2 : c = 48
    · subst h2; rfl
    · by_cases h3 : c = 43
      · subst h3; rfl
      · rw [if_neg h1, if_neg h2, if_neg h3]
        have n1 : ((45 : UInt8) == c) = false := beq_eq_false_iff_ne.mpr (fun e => h1 e.symm)
        have n2 : ((48 : UInt8) == c) = false := beq_eq_false_iff_ne.mpr (fun e => h2 e.symm)
        have n3 : ((43 : UInt8) == c) = false := beq_eq_false_iff_ne.mpr (fun e => h3 e.symm)
        simp [Lib.indexByte, n1, n2, n3]
theorem isS_false {c : UInt8} (h : isS c = false) : c ≠ 45 ∧ c ≠ 48 ∧ c ≠ 43 := by
  unfold isS at h
  simp at h
  exact ⟨h.1, h.2.1, h.2.2⟩
theorem isS_true {c : UInt8} (h : isS c = true) : c = 45 ∨ c = 48 ∨ c = 43 := by
  unfold isS at h
  simp at h
  exact h
theorem signs_l0 (w : ByteArray) (hw : w.size ≤ 1048576) : ∀ (d i : Nat) (acc : List Int), i + d = w.size → acc.length ≤ i → ∀ k, d < k →
    impl_fromSigns.l0 k w acc w.size i = some (if okB (w.data.toList.drop i) = true then (acc ++ (w.data.toList.drop i).map sg, true) else ([], false)) := by
  intro d
  induction d with
  | zero =>
    intro i acc hi hl k hk
    obtain ⟨k, rfl⟩ : ∃ m, k = m + 1 := ⟨k - 1, by omega⟩
    rw [impl_fromSigns.l0.eq_2, if_neg (by omega), List.drop_of_length_le (by rw [size_at]; omega)]
    simp [okB]
  | succ d ih =>
    intro i acc hi hl k hk
    obtain ⟨k, rfl⟩ : ∃ m, k = m + 1 := ⟨k - 1, by omega⟩
    rw [impl_fromSigns.l0.eq_2, if_pos (by omega), if_pos (by omega), if_pos (by omega), bt_at w i (by omega), index3, dropb w i (by omega)]
    simp only [Option.bind_some]
    cases h : isS (by_ w i) with
    | false =>
      obtain ⟨n1, n2, n3⟩ := isS_false h
      rw [if_neg n1, if_neg n2, if_neg n3, if_pos (by decide), if_neg (by simp [okB, h])]
    | true =>
      have hv : ¬ (if by_ w i = 45 then (0 : Int) else if by_ w i = 48 then 1 else if by_ w i = 43 then 2 else -1) < 0 ∧ IntKind.i8.wrap (wrap64 ((if by_ w i = 45 then (0 : Int) else if by_ w i = 48 then 1 else if by_ w i = 43 then 2 else -1) - 1)) = sg (by_ w i) := by
        rcases isS_true h with e | e | e <;> rw [e] <;> decide +kernel
      rw [if_neg hv.1, hv.2, if_pos (by omega), next_i (n := w.size) (by omega) (by omega), ih (i + 1) _ (by omega) (by simp; omega) k (by omega)]
      simp [okB, h]
theorem fromSigns_f (w : ByteArray) (hw : w.size ≤ 1048576) (k : Nat) (hk : w.size < k) : impl_fromSigns.f k w = some (if okW w = true then (sgL w, true) else ([], false)) := by
  have := signs_l0 w hw w.size 0 [] (by omega) (by simp) k hk
  refine Eq.trans this ?_
  simp only [List.drop_zero, List.nil_append]
  rfl
def st (w : ByteArray) (j i : Nat) : Int := if j < i then sg (by_ w j) else 0
theorem st_next (w : ByteArray) (j i : Nat) (v : Int) (hv : sg (by_ w i) = v) : pickA (i : Int) (j : Int) v (st w j i) = st w j (i + 1) := by
  unfold pickA st
  by_cases h : i = j
  · subst h; rw [if_pos rfl, if_pos (by omega), hv]
  · rw [if_neg (by omega)]
    by_cases h2 : j < i
    · rw [if_pos h2, if_pos (by omega)]
    · rw [if_neg h2, if_neg (by omega)]
theorem st_same (w : ByteArray) (j i : Nat) (hv : sg (by_ w i) = 0) : st w j i = st w j (i + 1) := by
  unfold st
  by_cases h : i = j
  · subst h; rw [if_neg (by omega), if_pos (by omega), hv]
  · by_cases h2 : j < i
    · rw [if_pos h2, if_pos (by omega)]
    · rw [if_neg h2, if_neg (by omega)]
theorem read_l0 (w : ByteArray) (hw : w.size ≤ 4) : ∀ (d i : Nat), i + d = w.size → ∀ k, d < k →
    spec_l04Read.l0 k w i (st w 0 i) (st w 1 i) (st w 2 i) (st w 3 i) = some (if okB (w.data.toList.drop i) = true then (st w 0 w.size, st w 1 w.size, st w 2 w.size, st w 3 w.size, true) else (0, 0, 0, 0, false)) := by
  intro d
  induction d with
  | zero =>
    intro i hi k hk
    obtain ⟨k, rfl⟩ : ∃ m, k = m + 1 := ⟨k - 1, by omega⟩
    rw [spec_l04Read.l0.eq_2, if_neg (by omega), List.drop_of_length_le (by rw [size_at]; omega), show i = w.size by omega]
    simp [okB]
  | succ d ih =>
    intro i hi k hk
    obtain ⟨k, rfl⟩ : ∃ m, k = m + 1 := ⟨k - 1, by omega⟩
    have c45 : ((by_ w i).toNat : Int) = 45 ↔ by_ w i = 45 := toNat_32 (by_ w i) 45 (by decide)
    have c43 : ((by_ w i).toNat : Int) = 43 ↔ by_ w i = 43 := toNat_32 (by_ w i) 43 (by decide)
    have c48 : ((by_ w i).toNat : Int) = 48 ↔ by_ w i = 48 := toNat_32 (by_ w i) 48 (by decide)
    rw [spec_l04Read.l0.eq_2, if_pos (by omega), if_pos (by omega), bt_at w i (by omega), dropb w i (by omega), next_i (n := w.size) (by omega) (by omega)]
    by_cases h1 : by_ w i = 45
    · have hv : sg (by_ w i) = -1 := by rw [h1]; decide
      have hs : isS (by_ w i) = true := by rw [h1]; decide
      rw [if_pos (c45.mpr h1), if_pos (by omega)]
      have e0 := st_next w 0 i (-1) hv
      have e1 := st_next w 1 i (-1) hv
      have e2 := st_next w 2 i (-1) hv
      have e3 := st_next w 3 i (-1) hv
      rw [show pickA (i : Int) 0 (-1) (st w 0 i) = st w 0 (i + 1) from e0, show pickA (i : Int) 1 (-1) (st w 1 i) = st w 1 (i + 1) from e1, show pickA (i : Int) 2 (-1) (st w 2 i) = st w 2 (i + 1) from e2, show pickA (i : Int) 3 (-1) (st w 3 i) = st w 3 (i + 1) from e3, ih (i + 1) (by omega) k (by omega)]
      simp [okB, hs]
    · rw [if_neg (fun e => h1 (c45.mp e))]
      by_cases h2 : by_ w i = 43
      · have hv : sg (by_ w i) = 1 := by rw [h2]; decide
        have hs : isS (by_ w i) = true := by rw [h2]; decide
        rw [if_pos (c43.mpr h2), if_pos (by omega)]
        have e0 := st_next w 0 i 1 hv
        have e1 := st_next w 1 i 1 hv
        have e2 := st_next w 2 i 1 hv
        have e3 := st_next w 3 i 1 hv
        rw [show pickA (i : Int) 0 1 (st w 0 i) = st w 0 (i + 1) from e0, show pickA (i : Int) 1 1 (st w 1 i) = st w 1 (i + 1) from e1, show pickA (i : Int) 2 1 (st w 2 i) = st w 2 (i + 1) from e2, show pickA (i : Int) 3 1 (st w 3 i) = st w 3 (i + 1) from e3, ih (i + 1) (by omega) k (by omega)]
        simp [okB, hs]
      · rw [if_neg (fun e => h2 (c43.mp e))]
        by_cases h3 : by_ w i = 48
        · have hv : sg (by_ w i) = 0 := by rw [h3]; decide
          have hs : isS (by_ w i) = true := by rw [h3]; decide
          rw [if_pos (c48.mpr h3), st_same w 0 i hv, st_same w 1 i hv, st_same w 2 i hv, st_same w 3 i hv, ih (i + 1) (by omega) k (by omega)]
          simp [okB, hs]
        · have hs : isS (by_ w i) = false := by
            cases hc : isS (by_ w i) with
            | false => rfl
            | true => rcases isS_true hc with e | e | e <;> simp_all
          rw [if_neg (fun e => h3 (c48.mp e)), if_neg (by simp [okB, hs])]
theorem st_pad (w : ByteArray) (j : Nat) : st w j w.size = pad (sgL w) j := by
  unfold st pad sgL by_
  by_cases h : j < w.size
  · rw [if_pos h, List.getD_eq_getElem?_getD, List.getD_eq_getElem?_getD, List.getElem?_map, List.getElem?_eq_getElem (by rw [size_at]; exact h)]; rfl
  · rw [if_neg h, List.getD_eq_getElem?_getD, List.getElem?_eq_none (by rw [List.length_map, size_at]; omega)]; rfl
def padB (w : ByteArray) : S35 := padW (sgL w)
def rdOk (w : ByteArray) : Bool := decide (1 ≤ w.size ∧ w.size ≤ 4) && okW w
theorem read_f (w : ByteArray) (k : Nat) (hk : 5 < k) : spec_l04Read.f k w = some (if rdOk w = true then ((padB w).f0, (padB w).f1, (padB w).f2, (padB w).f3, true) else (0, 0, 0, 0, false)) := by
  unfold spec_l04Read.f rdOk
  rw [(letters_f _).1]
  simp only [Option.bind_some, okL]
  by_cases h : 1 ≤ w.size ∧ w.size ≤ 4
  · have hi : (1 : Int) ≤ (w.size : Int) ∧ (w.size : Int) ≤ 4 := ⟨by omega, by omega⟩
    rw [if_pos (decide_eq_true hi), decide_eq_true h]
    have := read_l0 w h.2 w.size 0 (by omega) k (by omega)
    rw [st_pad, st_pad, st_pad, st_pad] at this
    simpa [okW, padB, padW, st] using this
  · have hi : ¬ ((1 : Int) ≤ (w.size : Int) ∧ (w.size : Int) ≤ 4) := fun e => h ⟨by omega, by omega⟩
    rw [if_neg (by simpa using hi), decide_eq_false h]
    simp
abbrev RR := Int × Int × List S35 × Int
def errR : RR := (0, 0, [], 5)
def fin (n kd : Int) (acc : List S35) : RR := if okF n kd acc = true then (n, kd, acc, 0) else errR
def tailR (n : Nat) (kd : Int) : List ByteArray → List S35 → RR
  | [], acc => fin n kd acc
  | w :: r, acc => if okW w = true ∧ w.size = n then tailR n kd r (acc ++ [padB w]) else errR
theorem tail_zero (kd : Int) : ∀ (l : List ByteArray) (acc : List S35), tailR 0 kd l acc = errR
  | [], acc => by unfold tailR fin okF okL; simp
  | w :: r, acc => by
    unfold tailR
    split
    · exact tail_zero kd r _
    · rfl
theorem dropw (l : List ByteArray) (j : Nat) (h : j < l.length) : l.drop j = rdOf ByteArray.empty l (j : Int) :: l.drop (j + 1) := by
  unfold rdOf
  rw [Int.toNat_natCast, List.getD_eq_getElem?_getD, List.getElem?_eq_getElem h, Option.getD_some]
  exact List.drop_eq_getElem_cons h
theorem rdw_mem (l : List ByteArray) (j : Nat) (h : j < l.length) : rdOf ByteArray.empty l (j : Int) ∈ l := by
  unfold rdOf
  rw [Int.toNat_natCast, List.getD_eq_getElem?_getD, List.getElem?_eq_getElem h, Option.getD_some]
  exact List.getElem_mem h
theorem w8 {n : Nat} (h : n ≤ 4) : IntKind.i8.wrap (n : Int) = n ∧ wrap64 (n : Int) = n := by
  have : n = 0 ∨ n = 1 ∨ n = 2 ∨ n = 3 ∨ n = 4 := by omega
  rcases this with rfl | rfl | rfl | rfl | rfl <;> decide +kernel
theorem end_i (n : Nat) (hn : n ≤ 4) (kd : Int) (hk : -1 ≤ kd ∧ kd ≤ 2) (acc : List S35) (k : Nat) (h : 200 < k) :
    ((impl_ValidFixed.f k n kd acc).bind fun t => if t = true then some ((n : Int), kd, acc, (0 : Int)) else some (0, 0, [], 5)) = some (fin n kd acc) := by
  rw [(fixed_f (by omega) (by omega) acc k h).2]
  simp only [Option.bind_some, fin, errR]
  split <;> rfl
theorem end_s (n : Nat) (hn : n ≤ 4) (kd : Int) (hk : -1 ≤ kd ∧ kd ≤ 2) (acc : List S35) (k : Nat) (h : 200 < k) :
    ((spec_l04Ok.f k n kd acc).bind fun t => if t = true then some ((n : Int), kd, acc, (0 : Int)) else some (0, 0, [], 5)) = some (fin n kd acc) := by
  rw [(fixed_f (by omega) (by omega) acc k h).1]
  simp only [Option.bind_some, fin, errR]
  split <;> rfl
theorem impl_rest (u : List ByteArray) (hu : u.length ≤ 1048577) (hs : ∀ w ∈ u, w.size ≤ 1048576) (n : Nat) (hn : n ≤ 4) (kd : Int) (hk : -1 ≤ kd ∧ kd ≤ 2) : ∀ (d i : Nat) (acc : List S35), 1 ≤ i → i + d = u.length → acc.length ≤ i → ∀ k, 2 * d + 1048900 < k →
    impl_ReadFixed.l0 k u u.length i n kd acc = some (tailR n kd (u.drop i) acc) := by
  intro d
  induction d with
  | zero =>
    intro i acc h1 hi hl k hk2
    obtain ⟨k, rfl⟩ : ∃ m, k = m + 1 := ⟨k - 1, by omega⟩
    rw [impl_ReadFixed.l0.eq_2, if_neg (by omega), end_i n hn kd hk acc k (by omega), List.drop_of_length_le (by omega)]
    rfl
  | succ d ih =>
    intro i acc h1 hi hl k hk2
    obtain ⟨k, rfl⟩ : ∃ m, k = m + 1 + 1 := ⟨k - 2, by omega⟩
    have hw := hs _ (rdw_mem u i (by omega))
    rw [impl_ReadFixed.l0.eq_2, if_pos (by omega), if_pos (by omega), if_pos (by omega), fromSigns_f _ hw (k + 1) (by omega), dropw u i (by omega)]
    simp only [Option.bind_some]
    rw [if_neg (by omega), impl_ReadFixed.j1.eq_2, if_neg (by decide)]
    unfold tailR
    cases ho : okW (rdOf ByteArray.empty u (i : Int)) with
    | false => simp [errR]
    | true =>
      simp only [if_true]
      rw [sgL_len, (w8 hn).2]
      by_cases he : (rdOf ByteArray.empty u (i : Int)).size = n
      · rw [if_pos (by omega), if_pos (by omega), next_i (n := u.length) (by omega) (by omega), ih (i + 1) _ (by omega) (by omega) (by simp; omega) k (by omega), if_pos ⟨trivial, he⟩]
        rfl
      · rw [if_neg (by omega), if_neg (fun e => he e.2)]; rfl
theorem spec_rest (x : List ByteArray) (hx : x.length ≤ 1048577) (hs : ∀ w ∈ x, w.size ≤ 1048576) (n : Nat) (h1n : 1 ≤ n) (hn : n ≤ 4) (he1 : (rdOf ByteArray.empty x 1).size = n) (kd : Int) (hk : -1 ≤ kd ∧ kd ≤ 2) : ∀ (d i : Nat) (acc : List S35), 2 ≤ i → i + d = x.length → acc.length ≤ i → ∀ k, d + 300 < k →
    spec_ReadFixed.l1 k x i n kd acc = some (tailR n kd (x.drop i) acc) := by
  intro d
  induction d with
  | zero =>
    intro i acc h1 hi hl k hk2
    obtain ⟨k, rfl⟩ : ∃ m, k = m + 1 := ⟨k - 1, by omega⟩
    rw [spec_ReadFixed.l1.eq_2, if_neg (by omega), end_s n hn kd hk acc k (by omega), List.drop_of_length_le (by omega)]
    rfl
  | succ d ih =>
    intro i acc h1 hi hl k hk2
    obtain ⟨k, rfl⟩ : ∃ m, k = m + 1 := ⟨k - 1, by omega⟩
    rw [spec_ReadFixed.l1.eq_2, if_pos (by omega), if_pos (by omega), read_f _ k (by omega), dropw x i (by omega)]
    simp only [Option.bind_some]
    unfold tailR
    cases ho : rdOk (rdOf ByteArray.empty x (i : Int)) with
    | false =>
      have hne : ¬ (okW (rdOf ByteArray.empty x (i : Int)) = true ∧ (rdOf ByteArray.empty x (i : Int)).size = n) := fun e => by
        unfold rdOk at ho
        rw [e.1, e.2, decide_eq_true (show 1 ≤ n ∧ n ≤ 4 from ⟨h1n, hn⟩)] at ho
        exact absurd ho (by decide)
      rw [if_neg hne]
      simp [errR]
    | true =>
      have hok : okW (rdOf ByteArray.empty x (i : Int)) = true := by
        unfold rdOk at ho
        simp only [Bool.and_eq_true] at ho
        exact ho.2
      simp only [if_true]
      rw [if_pos (by omega), if_pos (by omega), he1]
      by_cases he : (rdOf ByteArray.empty x (i : Int)).size = n
      · rw [if_pos (by omega), if_pos (by omega), next_i (n := x.length) (by omega) (by omega), he, (w8 hn).1, if_pos ⟨hok, rfl⟩]
        exact ih (i + 1) _ (by omega) (by omega) (by simp; omega) k (by omega)
      · rw [if_neg (by omega), if_neg (fun e => he e.2)]; rfl
/-- What is read behind the kind's word. -/
def bodyR (kd : Int) : List ByteArray → RR
  | [] => fin 0 kd []
  | w :: r => if rdOk w = true then tailR w.size kd r [padB w] else errR
theorem impl_body (u : List ByteArray) (hu : u.length ≤ 1048577) (hs : ∀ w ∈ u, w.size ≤ 1048576) (kd : Int) (hk : -1 ≤ kd ∧ kd ≤ 2) (k : Nat) (h : 4000000 < k) : impl_ReadFixed.l0 k u u.length 0 0 kd [] = some (bodyR kd u) := by
  obtain ⟨k, rfl⟩ : ∃ m, k = m + 1 + 1 := ⟨k - 2, by omega⟩
  cases u with
  | nil =>
    rw [impl_ReadFixed.l0.eq_2, if_neg (by simp)]
    exact end_i 0 (by omega) kd hk [] (k + 1) (by omega)
  | cons w r =>
    have hw := hs w (List.mem_cons_self ..)
    have e0 : rdOf ByteArray.empty (w :: r) (0 : Int) = w := rfl
    rw [impl_ReadFixed.l0.eq_2, if_pos (by simp), if_pos (by decide), if_pos (by simp), e0, fromSigns_f _ hw (k + 1) (by omega)]
    simp only [Option.bind_some, if_true]
    rw [impl_ReadFixed.j1.eq_2]
    unfold bodyR rdOk
    cases ho : okW w with
    | false => simp [errR, ho]
    | true =>
      simp only [if_true, Bool.and_true]
      rw [sgL_len]
      by_cases h4 : w.size ≤ 4
      · rw [if_pos (decide_eq_true (by omega)), (w8 h4).1, (w8 h4).2, if_pos rfl, if_pos (by simp), wn_0]
        have e := impl_rest (w :: r) hu hs w.size h4 kd hk r.length 1 [padB w] (by omega) (by simp; omega) (by simp) k (by simp at hu; omega)
        simp only [List.drop_succ_cons, List.drop_zero] at e
        rw [show (([] : List S35) ++ [padW (sgL w)]) = [padB w] from rfl]
        refine Eq.trans e ?_
        by_cases h1 : 1 ≤ w.size
        · rw [ho, decide_eq_true (show 1 ≤ w.size ∧ w.size ≤ 4 from ⟨h1, h4⟩)]; rfl
        · rw [ho, decide_eq_false (show ¬ (1 ≤ w.size ∧ w.size ≤ 4) by omega), show w.size = 0 by omega, tail_zero]; rfl
      · have z : wrap64 0 = 0 := by decide +kernel
        rw [if_neg (by simp; omega), z, if_neg (by omega), ho, decide_eq_false (show ¬ (1 ≤ w.size ∧ w.size ≤ 4) by omega)]; rfl
theorem spec_body (x w0 : ByteArray) (u : List ByteArray) (hu : (w0 :: u).length ≤ 1048577) (hs : ∀ w ∈ w0 :: u, w.size ≤ 1048576) (kd : Int) (hk : -1 ≤ kd ∧ kd ≤ 2) (k : Nat) (h : 4000000 < k) : spec_ReadFixed.l1 k (w0 :: u) 1 0 kd [] = some (bodyR kd u) := by
  obtain ⟨k, rfl⟩ : ∃ m, k = m + 1 := ⟨k - 1, by omega⟩
  cases u with
  | nil =>
    rw [spec_ReadFixed.l1.eq_2, if_neg (by simp)]
    exact end_s 0 (by omega) kd hk [] k (by omega)
  | cons w r =>
    have hw := hs w (by simp)
    have e0 : rdOf ByteArray.empty (w0 :: w :: r) (1 : Int) = w := rfl
    rw [spec_ReadFixed.l1.eq_2, if_pos (by simp; omega), if_pos (by decide), e0, read_f _ k (by omega)]
    simp only [Option.bind_some]
    unfold bodyR
    cases ho : rdOk w with
    | false => simp [errR, ho]
    | true =>
      have ho' := ho
      unfold rdOk at ho'
      simp only [Bool.and_eq_true, decide_eq_true_eq] at ho'
      obtain ⟨⟨h1, h4⟩, hok⟩ := ho'
      simp only [if_true]
      rw [if_neg (by decide), if_pos (by simp), (w8 h4).1, wn_1]
      have e := spec_rest (w0 :: w :: r) hu hs w.size h1 h4 rfl kd hk r.length 2 [padB w] (by omega) (by simp; omega) (by simp) k (by simp at hu; omega)
      simp only [List.drop_succ_cons, List.drop_zero] at e
      rw [ho]
      exact e

end Go.Proofs.YtmfbcklaomigaaaDoor.D
