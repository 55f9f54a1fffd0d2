/- Words between blanks: both sides cut alike. -/
import Derived.Lib.SplitLaws
import Derived.Test.YtmfbcklaomigaaaDoorLRdD
import Derived.Test.YtmfbcklaomigaaaDoorDx7
import Derived.Test.YtmfbcklaomigaaaDoorLRBaseD
namespace Go.Proofs.YtmfbcklaomigaaaDoor.D
open Go.RowKit Go.Proofs.YtmfbcklaomigaaaDoorW.PrintWords Go.Proofs.YtmfbcklaomigaaaDoorW.PrintLast Go.Proofs.YtmfbcklaomigaaaDoorW.PrintMore
set_option linter.unusedVariables false
set_option linter.unusedSimpArgs false

open Go.Lib
def glue {α : Type} : List α → List (List α) → List (List α)
  | a, [] => [a]
  | a, p :: ps => (a ++ p) :: ps
theorem glue_ne {α : Type} (a : List α) (c : List (List α)) : glue a c ≠ [] := by cases c <;> simp [glue]
theorem glue_nil {α : Type} {c : List (List α)} (h : c ≠ []) : glue [] c = c := by cases c <;> simp_all [glue]
theorem glue_glue {α : Type} (a b : List α) (c : List (List α)) : glue a (glue b c) = glue (a ++ b) c := by cases c <;> simp [glue]
def cut : List UInt8 → List (List UInt8)
  | [] => [[]]
  | b :: l => if b = 32 then [] :: cut l else glue [b] (cut l)
theorem cut_ne (l : List UInt8) : cut l ≠ [] := by
  cases l with
  | nil => simp [cut]
  | cons b l => unfold cut; split
                · simp
                · exact glue_ne _ _
theorem cut_len (l : List UInt8) : (cut l).length ≤ l.length + 1 := by
  induction l with
  | nil => simp [cut]
  | cons b l ih =>
    unfold cut
    split
    · simp; omega
    · cases h : cut l with
      | nil => exact absurd h (cut_ne l)
      | cons p ps => rw [h] at ih; simp [glue] at ih ⊢; omega
theorem cut_le (l : List UInt8) : ∀ p ∈ cut l, p.length ≤ l.length := by
  induction l with
  | nil => simp [cut]
  | cons b l ih =>
    unfold cut
    split
    · intro p hp
      rcases List.mem_cons.mp hp with rfl | hp
      · simp
      · have := ih p hp; simp; omega
    · cases h : cut l with
      | nil => exact absurd h (cut_ne l)
      | cons q qs =>
        rw [h] at ih
        intro p hp
        rcases List.mem_cons.mp hp with rfl | hp
        · have := ih q (List.mem_cons_self ..); simp; omega
        · have := ih p (List.mem_cons_of_mem _ hp); simp; omega
theorem index_eq (l : List UInt8) : index (32 :: l) [32] = 0 := by unfold index; simp
theorem index_ne (b : UInt8) (l : List UInt8) (h : b ≠ 32) : index (b :: l) [32] = if index l [32] == -1 then -1 else index l [32] + 1 := by
  have h' : ¬ (32 : UInt8) = b := fun e => h e.symm
  conv => lhs; unfold index
  simp [List.isPrefixOf, h']
theorem index_low (l : List UInt8) : -1 ≤ index l [32] := by
  induction l with
  | nil => simp [index]
  | cons b l ih =>
    by_cases h : b = 32
    · subst h; rw [index_eq]; decide
    · rw [index_ne b l h]; split <;> omega
theorem splitK_cut (l : List UInt8) : splitK [32] 0 (count l [32]) l = cut l := by
  induction l with
  | nil => rfl
  | cons b l ih =>
    by_cases h : b = 32
    · subst h
      rw [count_cons_eq, Nat.add_comm, splitK, index_eq, if_neg (by decide)]
      unfold cut
      rw [if_pos rfl, ← ih]
      simp
    · rw [count_cons_ne b 32 l h]
      unfold cut
      rw [if_neg h, ← ih]
      cases count l [32] with
      | zero => simp [splitK, glue]
      | succ m =>
        rw [splitK, splitK, index_ne b l h]
        by_cases c : index l [32] = -1
        · rw [if_pos (beq_iff_eq.mpr c), if_pos (by decide), if_pos (beq_iff_eq.mpr c)]; simp [glue]
        · have hn : ¬ (index l [32] == -1) = true := fun e => c (beq_iff_eq.mp e)
          have := index_low l
          rw [if_neg hn, if_neg (fun e => by have := beq_iff_eq.mp e; omega), if_neg hn]
          obtain ⟨i, hi⟩ : ∃ i : Nat, index l [32] = i := ⟨(index l [32]).toNat, by omega⟩
          have e1 : ((i : Int) + 1).toNat = i + 1 := by omega
          rw [hi, e1]
          simp only [Int.toNat_natCast, Nat.add_zero, List.length_cons, List.length_nil, Nat.zero_add, glue]
          rw [show i + 1 + 1 = (i + 1) + 1 from rfl, List.drop_succ_cons, List.take_succ_cons]
          rfl
theorem byte_inj {a b : List ByteArray} (h : a.map (·.data.toList) = b.map (·.data.toList)) : a = b := by
  induction a generalizing b with
  | nil => cases b with
    | nil => rfl
    | cons y b => simp at h
  | cons x a ih =>
    cases b with
    | nil => simp at h
    | cons y b =>
      simp only [List.map_cons, List.cons.injEq] at h
      have e : x = y := ByteArray.ext (Array.toList_inj.mp h.1)
      rw [e, ih h.2]
def by_ (s : ByteArray) (i : Nat) : UInt8 := s.data.toList.getD i 0
theorem size_at (s : ByteArray) : s.data.toList.length = s.size := Array.length_toList
theorem bt_at (s : ByteArray) (i : Nat) (h : i < s.size) : bt s (i : Int) = ((by_ s i).toNat : Int) := by
  unfold bt by_
  rw [dif_pos (show ((i : Int)).toNat < s.size by omega), List.getD_eq_getElem?_getD, List.getElem?_eq_getElem (by rw [size_at]; exact h)]
  simp only [Int.toNat_natCast, Option.getD_some]
  rfl
theorem dropb (s : ByteArray) (i : Nat) (h : i < s.size) : s.data.toList.drop i = by_ s i :: s.data.toList.drop (i + 1) := by
  unfold by_
  rw [List.getD_eq_getElem?_getD, List.getElem?_eq_getElem (by rw [size_at]; exact h), Option.getD_some]
  exact List.drop_eq_getElem_cons (by rw [size_at]; exact h)
theorem toNat_32 (c : UInt8) (n : Nat) (hn : n < 256) : ((c.toNat : Int) = (n : Int)) ↔ c = UInt8.ofNat n := by
  constructor
  · intro h
    have h' : c.toNat = n := by omega
    rw [← h']; simp
  · rintro rfl
    simp; omega
theorem split_l0 (s : ByteArray) (hs : s.size ≤ 1048576) : ∀ (d b a : Nat) (acc : List ByteArray), b + d = s.size → a ≤ b → acc.length ≤ b →
    ∃ r, (∀ k, d < k → spec_l01Split.l0 k s 32 acc a b = some r) ∧ r.map (·.data.toList) = acc.map (·.data.toList) ++ glue ((s.data.toList.drop a).take (b - a)) (cut (s.data.toList.drop b)) := by
  intro d
  induction d with
  | zero =>
    intro b a acc hb ha hl
    refine ⟨acc ++ [s.extract a s.size], fun k hk => ?_, ?_⟩
    · obtain ⟨k, rfl⟩ : ∃ m, k = m + 1 := ⟨k - 1, by omega⟩
      rw [spec_l01Split.l0.eq_2, if_neg (by omega), if_pos (by omega), if_pos (by omega), if_pos (by omega), Int.toNat_natCast]
    · have e : s.data.toList.drop b = [] := List.drop_of_length_le (by rw [size_at]; omega)
      rw [List.map_append, e]
      simp only [cut, glue, List.append_nil, List.map_cons, List.map_nil, extract_data]
      rw [show b = s.size by omega]
  | succ d ih =>
    intro b a acc hb ha hl
    have hc : ((by_ s b).toNat : Int) = 32 ↔ by_ s b = 32 := toNat_32 (by_ s b) 32 (by decide)
    rw [dropb s b (by omega)]
    by_cases h : by_ s b = 32
    · obtain ⟨r, h1, h2⟩ := ih (b + 1) (b + 1) (acc ++ [s.extract a b]) (by omega) (by omega) (by simp; omega)
      refine ⟨r, fun k hk => ?_, ?_⟩
      · obtain ⟨k, rfl⟩ : ∃ m, k = m + 1 := ⟨k - 1, by omega⟩
        rw [spec_l01Split.l0.eq_2, if_pos (by omega), if_pos (by omega), bt_at s b (by omega), if_pos (hc.mpr h), if_pos (by omega), if_pos (by omega), if_pos (by omega), if_pos (by omega), Int.toNat_natCast, Int.toNat_natCast, next_i (n := s.size) (by omega) (by omega)]
        exact h1 k (by omega)
      · rw [h2, List.map_append, Nat.sub_self, List.take_zero, glue_nil (cut_ne _)]
        unfold cut
        rw [if_pos h]
        simp [glue, extract_data]
        cases hx : s.data.toList.drop (b + 1) <;> rfl
    · obtain ⟨r, h1, h2⟩ := ih (b + 1) a acc (by omega) (by omega) (by omega)
      refine ⟨r, fun k hk => ?_, ?_⟩
      · obtain ⟨k, rfl⟩ : ∃ m, k = m + 1 := ⟨k - 1, by omega⟩
        rw [spec_l01Split.l0.eq_2, if_pos (by omega), if_pos (by omega), bt_at s b (by omega), if_neg (fun e => h (hc.mp e)), next_i (n := s.size) (by omega) (by omega)]
        exact h1 k (by omega)
      · rw [h2]
        congr 1
        have e1 : cut (by_ s b :: s.data.toList.drop (b + 1)) = glue [by_ s b] (cut (s.data.toList.drop (b + 1))) := by
          conv => lhs; unfold cut
          rw [if_neg h]
        have e2 : (s.data.toList.drop a).take (b + 1 - a) = (s.data.toList.drop a).take (b - a) ++ [by_ s b] := by
          rw [show b + 1 - a = (b - a) + 1 by omega, List.take_add_one, List.getElem?_drop, show a + (b - a) = b by omega]
          unfold by_
          rw [List.getD_eq_getElem?_getD, List.getElem?_eq_getElem (by rw [size_at]; omega)]
          rfl
        rw [e1, glue_glue, e2]
/-- The pieces of a text. -/
def pcs (s : ByteArray) : List ByteArray := Lib.splitB (⟨#[32]⟩ : ByteArray) 0 (Lib.countB s (⟨#[32]⟩ : ByteArray)) s
theorem pcs_data (s : ByteArray) : (pcs s).map (·.data.toList) = cut s.data.toList := by
  unfold pcs
  rw [splitB_data]
  exact splitK_cut _
theorem isplit_f (s : ByteArray) (hs : s.size ≤ 1048576) : strings_Split.f s (⟨#[32]⟩ : ByteArray) = some (pcs s) := by
  unfold strings_Split.f
  rw [if_pos (by omega), if_pos (by decide)]
  rfl
theorem ssplit_f (s : ByteArray) (hs : s.size ≤ 1048576) (k : Nat) (hk : 1048580 < k) : spec_l01Split.f k s 32 = some (pcs s) := by
  obtain ⟨r, h1, h2⟩ := split_l0 s hs s.size 0 0 [] (by omega) (by omega) (by simp)
  have e : r = pcs s := byte_inj (by rw [h2, pcs_data]; simp only [List.map_nil, List.nil_append, Nat.sub_self, List.take_zero, List.drop_zero]; exact glue_nil (cut_ne _))
  rw [← e]
  exact h1 k (by omega)
theorem pcs_ne (s : ByteArray) : pcs s ≠ [] := fun e => cut_ne s.data.toList (by rw [← pcs_data, e]; rfl)
theorem pcs_len (s : ByteArray) : (pcs s).length ≤ s.size + 1 := by
  have := cut_len s.data.toList
  rw [← pcs_data, List.length_map, size_at] at this
  exact this
theorem pcs_le (s : ByteArray) : ∀ p ∈ pcs s, p.size ≤ s.size := by
  intro p hp
  have := cut_le s.data.toList p.data.toList (by rw [← pcs_data]; exact List.mem_map_of_mem hp)
  rw [size_at, size_at] at this
  exact this

end Go.Proofs.YtmfbcklaomigaaaDoor.D
