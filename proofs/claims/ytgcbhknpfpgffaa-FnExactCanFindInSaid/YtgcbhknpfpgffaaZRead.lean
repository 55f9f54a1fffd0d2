/- Words of this session for the rows of laws whose arguments are structs, arrays or slices of them: how an argument that reads as data is told as the walk's contracts ask it. Plain theorems over any program. -/
import Derived.ChangeArms
import Derived.OpenShut
import Derived.ChangeSlices
import Derived.DataReads
import Derived.Deep.Slices
import Derived.Test.YtgcbhknpfpgffaaWWords
namespace Go.Proofs.YtgcbhknpfpgffaaZ
open Go.ChangeShapes Go.WideShapes Go.Proofs.YtgcbhknpfpgffaaW.PrintWords
set_option linter.unusedVariables false
set_option linter.unusedSimpArgs false
section
variable {H : Type} {enc : TypeId × Value → H} {P : Program} {w : World} {fuel : Nat} {t : TypeId} {cs : List Value} {x : DataW H × List MemPlace}
theorem zde {k : IntKind} (ht : P.underlying t = some (.int k)) (h : DataW.trod enc P w 0 (fun _ => true) true fuel t cs = some x) : ∃ a : Int, (Kd.int k).K w a cs ∧ (Lit.int k a).wf = true := by
  cases fuel with
  | zero => simp [DataW.trod] at h
  | succ n =>
    unfold DataW.trod at h
    rw [ht] at h
    split at h <;> simp_all
    exact ⟨_, rfl, h.1.2⟩
theorem rd_bool (ht : P.underlying t = some .bool) (h : DataW.trod enc P w 0 (fun _ => true) true fuel t cs = some x) : ∃ a : Bool, Kd.bool.K w a cs ∧ True := by
  cases fuel with
  | zero => simp [DataW.trod] at h
  | succ n =>
    unfold DataW.trod at h
    rw [ht] at h
    split at h <;> first | exact ⟨_, rfl, trivial⟩ | simp_all
theorem zye {α : Type} (Q : Nat → α → Prop) : ∀ n : Nat, (∀ i, i < n → ∃ a, Q i a) → ∃ l : List α, l.length = n ∧ ∀ i a, l[i]? = some a → Q i a
  | 0, _ => ⟨[], rfl, by simp⟩
  | n + 1, h => by
    obtain ⟨l, hl, hq⟩ := zye Q n (fun i hi => h i (by omega))
    obtain ⟨a, ha⟩ := h n (by omega)
    refine ⟨l ++ [a], by simp [hl], fun i b hb => ?_⟩
    rcases Nat.lt_or_ge i l.length with hi | hi
    · rw [List.getElem?_append_left hi] at hb
      exact hq i b hb
    · rw [List.getElem?_append_right hi] at hb
      have hi2 : i - l.length = 0 := by
        rcases Nat.eq_zero_or_pos (i - l.length) with h0 | h0
        · exact h0
        · rw [List.getElem?_eq_none (by simp; omega)] at hb; cases hb
      rw [hi2] at hb
      simp at hb
      subst hb
      have : i = n := by omega
      subst this
      exact ha
theorem rd_slice {α : Type} {d : Kd α} {wf : α → Prop} {e : TypeId} (ht : P.underlying t = some (.slice e)) (hs : P.cellsOf e = d.sz)
    (hd : ∀ {fuel : Nat} {cs : List Value} {x : DataW H × List MemPlace}, DataW.trod enc P w 0 (fun _ => true) true fuel e cs = some x → ∃ a, d.K w a cs ∧ wf a)
    (h : DataW.trod enc P w 0 (fun _ => true) true fuel t cs = some x) : ∃ l : List α, (Kd.slice e d).K w l cs ∧ l.length ≤ maxLen ∧ ∀ a ∈ l, wf a := by
  rcases DataW.trod_slice ht h with ⟨rfl, rfl⟩ | ⟨a, len, cap, elems, rest, n, _, rfl, rfl, hb, hl, hm, hlen, hel, hsp, hns⟩
  · exact ⟨[], ⟨none, 0, rfl, Nat.le_refl _, Kd.C_nil _ _⟩, by simp, by simp⟩
  · obtain ⟨l, hll, hq⟩ := zye (fun i (b : α) => (∃ c : List Value, c.length = d.sz ∧ d.K w b c ∧ ∀ j u, c[j]? = some u → w.cell? (a.add (i * d.sz + j)) = some u) ∧ wf b) len (fun i hi => by
      have h1 := hel i hi
      have h2 : elems[i]? = some (elems[i]'(by omega)) := List.getElem?_eq_getElem (by omega)
      rw [h2] at h1
      obtain ⟨c, hc, hy⟩ := Option.bind_eq_some_iff.1 h1
      obtain ⟨_, hcl, hat⟩ := World.cells?_some hc
      obtain ⟨b, hK, hw⟩ := hd hy
      refine ⟨b, ⟨c, hcl.trans hs, hK, fun j u hu => ?_⟩, hw⟩
      have hj : j < c.length := (List.getElem?_eq_some_iff.1 hu).1
      have h3 := hat j (by omega)
      rw [Go.Deep.add_add, hs] at h3
      exact h3.trans hu)
    refine ⟨l, ⟨some a, cap, by rw [hll], by omega, rfl, by simp only [maxLen] at hm; omega, fun hp => ⟨a, rfl, fun j p hj => ?_⟩⟩, by omega, fun b hb' => ?_⟩
    · exact (hq j p hj).1
    · obtain ⟨i, hi⟩ := List.mem_iff_getElem?.1 hb'
      exact (hq i b hi).2
theorem agg_of {fs : Array Field} {r : Reach} {b0 : Nat} {v : Value} (ht : P.underlying t = some (.struct fs)) (h : Value.okWide P w r b0 t v) : ∃ cs : List Value, v = .agg cs.toArray := by
  obtain ⟨cs, h1, h2⟩ := okWide_struct ht h
  exact ⟨cs.toList, by simpa using h1⟩
theorem arr_of {n : Nat} {e : TypeId} {r : Reach} {b0 : Nat} {v : Value} (ht : P.underlying t = some (.array n e)) (h : Value.okWide P w r b0 t v) : ∃ cs : List Value, v = .agg cs.toArray := by
  simp only [Value.okWide, ht] at h
  obtain ⟨cs, h1, h2, _⟩ := h
  exact ⟨cs.toList, by simpa using h1⟩
/-- The cells of one field. -/
theorem field_at {fs : Array Field} (ht : P.underlying t = some (.struct fs)) (h : DataW.trod enc P w 0 (fun _ => true) true fuel t cs = some x) (i : Nat) (f : Field) (hf : fs[i]? = some f) (o s : Nat) (ho : f.offset = o) (hs : P.cellsOf f.type = s) :
    ∃ m y, DataW.trod enc P w 0 (fun _ => true) true m f.type ((cs.drop o).take s) = some y := by
  obtain ⟨xs, n, _, _, _, hxs, hg⟩ := DataW.trod_struct ht h
  have h1 := hg i f hf
  have hi : i < xs.length := by rw [hxs]; exact (Array.getElem?_eq_some_iff.1 hf).1
  rw [List.getElem?_eq_getElem hi, ho, hs] at h1
  exact ⟨_, _, h1⟩
theorem zid {n : Nat} {e : TypeId} (ht : P.underlying t = some (.array n e)) (h : DataW.trod enc P w 0 (fun _ => true) true fuel t cs = some x) (i : Nat) (hi : i < n) (s : Nat) (hs : P.cellsOf e = s) :
    ∃ m y, DataW.trod enc P w 0 (fun _ => true) true m e ((cs.drop (i * s)).take s) = some y := by
  obtain ⟨xs, m, _, _, _, hxs, hg⟩ := DataW.trod_array ht h
  have h1 := hg i hi
  rw [List.getElem?_eq_getElem (by omega), hs] at h1
  exact ⟨_, _, h1⟩
theorem len_struct {fs : Array Field} (ht : P.underlying t = some (.struct fs)) (h : DataW.trod enc P w 0 (fun _ => true) true fuel t cs = some x) (s : Nat) (hs : P.cellsOf t = s) : cs.length = s := by
  obtain ⟨xs, n, _, _, hl, _, _⟩ := DataW.trod_struct ht h
  exact hl.trans hs
theorem zgf {n : Nat} {e : TypeId} (ht : P.underlying t = some (.array n e)) (h : DataW.trod enc P w 0 (fun _ => true) true fuel t cs = some x) (s : Nat) (hs : P.cellsOf t = s) : cs.length = s := by
  obtain ⟨xs, m, _, _, hl, _, _⟩ := DataW.trod_array ht h
  exact hl.trans hs
theorem zhd {α : Type} {l : List α} {n : Nat} (h : l.length = n + 1) : ∃ a r, l = a :: r ∧ r.length = n := by
  cases l with
  | nil => simp at h
  | cons a r => exact ⟨a, r, rfl, by simpa using h⟩
theorem nil_of {α : Type} {l : List α} (h : l.length = 0) : l = [] := List.eq_nil_of_length_eq_zero h
end
end Go.Proofs.YtgcbhknpfpgffaaZ
