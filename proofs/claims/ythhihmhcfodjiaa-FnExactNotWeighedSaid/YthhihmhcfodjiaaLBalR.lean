/- The program's balances: what its maps read as. -/
import Derived.Test.YthhihmhcfodjiaaLMapR
import Derived.Test.YthhihmhcfodjiaaLSidesR
import Derived.Test.YthhihmhcfodjiaaLWaysR
namespace Go.Proofs.Ythhihmhcfodjiaa.R
open Go.RowKit Go.Maps Go.Proofs.YthhihmhcfodjiaaW.PrintWords Go.Proofs.YthhihmhcfodjiaaW.PrintLast Go.Proofs.YthhihmhcfodjiaaW.PrintMore
set_option linter.unusedVariables false
set_option linter.unusedSimpArgs false

theorem IsM.ne {w : World} {b n g : Nat} {f : Int → Nat} {cs : Array Value} {t : TypeId} (h : IsM w b n f) (hg : w.heap[g]? = some (.cells cs t (0, 0))) : b ≠ g := by
  obtain ⟨D, ⟨es, clock, hb, _⟩, _⟩ := h
  rintro rfl
  rw [hb] at hg
  cases hg
theorem IsM.move {w w' : World} {b n : Nat} {f : Int → Nat} (h : IsM w b n f) (e : w'.heap[b]? = w.heap[b]?) : IsM w' b n f := by
  obtain ⟨D, ⟨es, clock, hb, hr⟩, hR⟩ := h
  exact ⟨D, ⟨es, clock, e.trans hb, hr⟩, hR⟩
theorem IsM.below {w w' : World} {b n : Nat} {f : Int → Nat} (h : IsM w b n f) (hb : Below w.heap.size w w') : IsM w' b n f := h.move (hb.block b h.lt)
theorem Rng.move {w w' : World} {b r n cnt : Nat} {f : Int → Nat} {left : Int → Bool} (h : Rng w b r n f left cnt) (e1 : w'.heap[b]? = w.heap[b]?) (e2 : w'.heap[r]? = w.heap[r]?) : Rng w' b r n f left cnt := by
  obtain ⟨D, L, ⟨es, clock, since, seen, c0, h1, h2, h3, h4, h5, h6⟩, hR, hl⟩ := h
  exact ⟨D, L, ⟨es, clock, since, seen, c0, e1.trans h1, h2, h3, h4, e2.trans h5, h6⟩, hR, hl⟩
theorem Rng.lt {w : World} {b r n cnt : Nat} {f : Int → Nat} {left : Int → Bool} (h : Rng w b r n f left cnt) : r < w.heap.size := by
  obtain ⟨D, L, ⟨es, clock, since, seen, c0, h1, h2, h3, h4, h5, h6⟩, hR, hl⟩ := h
  exact blk_lt h5
theorem Rng.below {w w' : World} {b r n cnt : Nat} {f : Int → Nat} {left : Int → Bool} (h : Rng w b r n f left cnt) (hb : Below w.heap.size w w') : Rng w' b r n f left cnt := h.move (hb.block b h.owns.lt) (hb.block r h.lt)
theorem IsM.far {w : World} {b n : Nat} {f : Int → Nat} (h : IsM w b n f) (p : Addr) (hp : b ≠ p.block) (u : Value) : IsM (w.setCell p u) b n f := h.move (Below.heap_setCell w p u b hp)
theorem Rng.far {w : World} {b r n cnt : Nat} {f : Int → Nat} {left : Int → Bool} (h : Rng w b r n f left cnt) (p : Addr) (hp : b ≠ p.block) (hr : r ≠ p.block) (u : Value) : Rng (w.setCell p u) b r n f left cnt := h.move (Below.heap_setCell w p u b hp) (Below.heap_setCell w p u r hr)
theorem acc_le {both : Bool} {wi : Int} {p : Int → Nat} {M : Nat} (h : ∀ y, p y ≤ M) (m : Int) : acc both wi p m ≤ 3 * M := by
  have h1 := h m
  have h2 := h (m - wi)
  have h3 := h (m + wi)
  unfold acc
  split <;> omega
theorem cont_le {n : Nat} {x wi m : Int} : ∀ S : List Int, cont n x wi S m ≤ S.length * n := by
  intro S
  induction S with
  | nil => simp [cont]
  | cons s S ih =>
    unfold cont
    rw [List.length_cons, Nat.succ_mul]
    split <;> omega
theorem take_rd (S : List Int) (q : Nat) (h : q < S.length) : S.take (q + 1) = S.take q ++ [rd S (q : Int)] := by
  rw [List.take_succ_eq_append_getElem h]
  congr 2
  unfold rd
  simp [List.getD, List.getElem?_eq_getElem h]
theorem sides_in (both : Bool) (q : Nat) (h : q < (sidesL both).length) : rd (sidesL both) (q : Int) = -1 ∨ rd (sidesL both) (q : Int) = 0 ∨ rd (sidesL both) (q : Int) = 1 := by
  cases both
  · have : q < 2 := h
    rcases (show q = 0 ∨ q = 1 by omega) with rfl | rfl <;> decide
  · have : q < 3 := h
    rcases (show q = 0 ∨ q = 1 ∨ q = 2 by omega) with rfl | rfl | rfl <;> decide
theorem wf64 {n : Int} (h : -9223372036854775808 ≤ n) (h2 : n ≤ 9223372036854775807) : (Lit.int .i64 n).wf = true := WalkArith.wf_i64 ⟨h, h2⟩
theorem wrap_small {n : Int} (h : -9223372036854775808 ≤ n) (h2 : n ≤ 9223372036854775807) : wrap64 n = n := by unfold wrap64; omega
theorem T_eq {x s wi : Int} (hs : s = -1 ∨ s = 0 ∨ s = 1) (hx : -2000 ≤ x ∧ x ≤ 2000) (hw : 1 ≤ wi ∧ wi ≤ 2000) : wrap64 (x + wrap64 (wrap64 s * wrap64 wi)) = x + s * wi ∧ -5000 ≤ x + s * wi ∧ x + s * wi ≤ 5000 := by
  obtain ⟨h1, h2⟩ := hx
  obtain ⟨h3, h4⟩ := hw
  have e1 : wrap64 s = s := wrap_small (by omega) (by omega)
  have e2 : wrap64 wi = wi := wrap_small (by omega) (by omega)
  rw [e1, e2]
  rcases hs with rfl | rfl | rfl
  · have e3 : wrap64 (-1 * wi) = -1 * wi := wrap_small (by omega) (by omega)
    rw [e3]
    exact ⟨wrap_small (by omega) (by omega), by omega, by omega⟩
  · have e3 : wrap64 (0 * wi) = 0 * wi := wrap_small (by omega) (by omega)
    rw [e3]
    exact ⟨wrap_small (by omega) (by omega), by omega, by omega⟩
  · have e3 : wrap64 (1 * wi) = 1 * wi := wrap_small (by omega) (by omega)
    rw [e3]
    exact ⟨wrap_small (by omega) (by omega), by omega, by omega⟩
theorem Q_eq {a b q : Nat} (ha : a ≤ 258280326) (hb : b ≤ 43046721) (hq : q = a + b) : wrap64 ((a : Int) + (b : Int)) = (q : Int) := by
  rw [wrap_small (by omega) (by omega)]
  omega
theorem sides_calls (both : Bool) (w : World) : Calls Try.prog 65 #[.bool both] w fun e w' => ∃ g c css, e = .returned (.slice (some ⟨g, 0, none⟩) (sidesL both).length c) ∧ w'.heap[g]? = some (.cells css 51 (0, 0)) ∧ (∀ q : Nat, q < (sidesL both).length → css[q]? = some (.int .i8 (rd (sidesL both) (q : Int)))) ∧ w.heap.size ≤ g ∧ Below w.heap.size w w' := by
  refine (impl_sides.calls both (sidesL both) w (by cases both <;> rfl)).mono ?_
  rintro e w' ⟨v, rfl, hR, hb⟩
  obtain ⟨inner, ho⟩ := Kd.R_own hR
  have hlen : 0 < (sidesL both).length := by cases both <;> decide
  rcases ho.2 with ⟨rfl, h0⟩ | ⟨g, cap, cur, rfl, hg, hh, _, _, _, _⟩
  · omega
  · refine ⟨g, cap, cur, rfl, hh, fun q hq => ?_, hg, hb⟩
    obtain ⟨ad, e, hx⟩ := Kd.at_int (Kd.R_reads' hR).2.2 (q : Int) (by omega) (by omega)
    cases e
    rw [← blk_cell hh q]
    have : (⟨g, 0, none⟩ : Addr).add ((q : Int)).toNat = ⟨g, q, none⟩ := by simp [Addr.add] <;> omega
    rw [this] at hx
    exact hx
set_option maxHeartbeats 8000000 in
set_option maxRecDepth 100000 in
theorem balances_calls (both : Bool) (A : Option Addr) (c0 : Nat) (l : List Int) (w : World) (hr0 : Kd.C (Kd.int .i16) w A l.length l) (hc0 : l.length ≤ c0) (hv : Okay l) :
    Calls Try.prog 48 #[.slice A l.length c0, .bool both] w fun e w' => ∃ g b n cells, e = .returned (.slice (some ⟨g, 0, none⟩) (l.length + 1) (l.length + 1)) ∧ w'.heap[g]? = some (.cells cells 62 (0, 0)) ∧ cells.size = l.length + 1 ∧ cells[0]? = some (.map (some b)) ∧ IsM w' b n (ways both l) ∧ Below w.heap.size w w' := by
  have HR := Aside0.mk hr0
  have HC := Aside0.mk hc0
  have HV := Aside0.mk hv
  have hmm := @run_makeMap Try.prog
  have hlen : l.length ≤ 16 := hv.2.1
  clear hr0 hc0 hv
  go_enter Try.func48, Try.ntmps48
  go_wp2_with (first
    | ((with_reducible refine gate_dst (N := 18) rfl ?_); refine make63 rfl _ rfl (l.length + 1) rfl (by first | omega | (unfold wrap64; omega)) (by omega) ?_; intro w1 cs hcs hsz hg1; obtain ⟨g, hg⟩ : ∃ g, w.heap.size = g := ⟨_, rfl⟩; rw [hg] at hcs ⊢)
    | (refine insert_ rfl (.tmp 22) _ (.tmp 23) rfl (b := w1.heap.size) (n := 0) (f := fun _ => 0) rfl (isM_made w1) (by unfold maxLen; omega) (k := 0) (c := 0) (q := 1) rfl (by decide) rfl (by decide) ?_
       intro w3 hm3 hg3
       have hc3 := blk_grown (blk_alloc hcs _) hg3 (by have := blk_lt hcs; intro h; injection h with h; omega)
       obtain ⟨v0, hv0⟩ : ∃ v, cs[l.length]? = some v := ⟨_, Array.getElem?_eq_getElem (by omega)⟩
       have hx3 := (blk_cell hc3 l.length).trans hv0
       have hf3 := blk_frozen hc3 l.length)
    | go_in)
  go_loopg [6] l.length (fun kq v6 w' => ∃ (d : Nat) (j : Int) (cs : Array Value) (b n : Nat), v6 = .int .i64 j ∧ j = (d : Int) - 1 ∧ d ≤ l.length ∧ d ≤ kq ∧ Aside0 (w'.heap[g]? = some (.cells cs 62 (0, 0)) ∧ cs.size = l.length + 1 ∧ cs[d]? = some (.map (some b)) ∧ IsM w' b n (ways both (l.drop d)) ∧ n ≤ 3 ^ (l.length - d) ∧ Below w.heap.size w w'))
  case atStart =>
    have hb1 : Below w.heap.size w w1 := (Below.refl _ _).grown hg1 (Nat.le_refl _) (fun j hj => by cases hj)
    have hb2 := hb1.alloc hb1.size (.map #[] 0)
    have hb3 := hb2.grown hg3 hb2.size (fun j hj => by cases hj; exact hb1.size)
    have hlt := blk_lt hcs
    refine ⟨l.length, _, cs.setIfInBounds l.length (.map (some w1.heap.size)), w1.heap.size, 1, rfl, rfl, Nat.le_refl _, Nat.le_refl _, ⟨blk_set hc3 _ _, by simp [hsz], ?_, ?_, by simp, below_set hb3 (Nat.le_of_eq hg)⟩⟩
    · rw [Array.getElem?_setIfInBounds_self_of_lt (by omega)]
    · rw [List.drop_length]
      exact (hm3.setCell (by show w1.heap.size ≠ g; omega) _).eqv (fun x => rfl)
  case round =>
    clear hcs hsz hg1 hm3 hg3 hc3 hv0 hx3 hf3
    obtain ⟨d, j, csr, b, n, rfl, hj, hd, hdk, HW⟩ := hrel
    by_cases hz : d = 0
    · subst hz
      obtain rfl : j = -1 := by omega
      obtain ⟨hgr, hcz, hcd, hM, hn, hB⟩ := HW.out
      clear hmm hj hdk hd HW HR HC HV
      go_wp2
      go_ret
      exact ⟨g, b, n, csr, rfl, hgr, hcz, hcd, hM, hB⟩
    · obtain ⟨e, rfl⟩ : ∃ e, d = e + 1 := ⟨d - 1, by omega⟩
      obtain rfl : j = (e : Int) := by omega
      clear hz hj
      obtain ⟨hgr, hcz, hcd, hM, hn, hB⟩ := HW.out
      clear HW
      obtain ⟨B, hBB⟩ : ∃ B, wr.heap.size = B := ⟨_, rfl⟩
      obtain ⟨f, hf⟩ : ∃ f, f = ways both (l.drop (e + 1)) := ⟨_, rfl⟩
      rw [← hf] at hM
      have HF := Aside0.mk hf
      clear hf
      obtain ⟨ad, eA, hxw⟩ := Kd.at_int HR.out (e : Int) (by omega) (by omega)
      cases eA
      obtain ⟨wi, hwi⟩ : ∃ wi, wi = rd l (e : Int) := ⟨_, rfl⟩
      rw [← hwi, Int.toNat_natCast] at hxw
      have HWI := Aside0.mk hwi
      clear hwi
      have HXW := Aside0.mk hxw
      clear hxw
      obtain ⟨ve, hve⟩ : ∃ v, csr[e]? = some v := ⟨_, Array.getElem?_eq_getElem (by omega)⟩
      have hxa := (blk_cell (blk_alloc hgr (.map #[] 0)) e).trans hve
      have hfa := blk_frozen (blk_alloc hgr (.map #[] 0)) e
      have hlt := blk_lt hgr
      have he1 : (e : Int) < (l.length : Int) + 1 := by omega
      have he2 : (e : Int) + 1 < (l.length : Int) + 1 := by omega
      have hmB : (Instr.makeMap 62 none).run Try.prog wr = .ok (.map (some B)) (wr.alloc (.map #[] 0)) := by rw [← hBB]; exact hmm 62 wr
      clear hmm
      go_wp2_with (first
        | ((with_reducible refine gate_store (t := 62) (p := 36) rfl ?_)
           refine store_event (t := 62) (p := 36) (v := ?v5) (w1 := ((wr.alloc (.map #[] 0)).setCell ⟨g, e, none⟩ (.map (some B)))) ?hg ?ho ?hn ?hr ?_
           (case ho => rfl)
           (case hg => rfl)
           (case hn => rfl)
           (case hr => first | (go_simp; done) | (go_simp; rfl))
           intro w5 hw5
           have hg5 : w5.heap[g]? = some (.cells (csr.setIfInBounds e (.map (some B))) 62 (0, 0)) := by rw [hw5]; exact blk_set (blk_alloc hgr _) e _
           have hM5 : IsM w5 b n f := by rw [hw5]; exact (hM.alloc _).setCell (by show b ≠ g; exact hM.ne hgr) _
           have hN5 : IsM w5 B 0 (fun _ => 0) := by rw [hw5, ← hBB]; exact (isM_made wr).setCell (by show wr.heap.size ≠ g; omega) _
           have hB5 : Below w.heap.size w w5 := by rw [hw5]; exact below_set (hB.alloc hB.size _) (Nat.le_of_eq hg)
           have hx7 : w5.cell? ⟨g, e + 1, none⟩ = some (.map (some b)) := (blk_cell hg5 _).trans (by rw [Array.getElem?_setIfInBounds_ne (by omega)]; exact hcd)
           clear hw5)
        | ((with_reducible refine gate_dst (N := 42) rfl ?_)
           refine range_ rfl (.tmp 41) rfl (b := b) rfl hM5 ?_
           intro w6 cnt hcnt hrg6 hg6 hs6)
        | go_in)
      go_frame
      obtain ⟨r6, hr6⟩ : ∃ r, w5.heap.size = r := ⟨_, rfl⟩
      obtain ⟨cs6, hc6⟩ : ∃ c, csr.setIfInBounds e (.map (some B)) = c := ⟨_, rfl⟩
      rw [hc6] at hg5
      rw [hr6] at hrg6 ⊢
      have hcs6 : cs6.size = l.length + 1 ∧ cs6[e]? = some (.map (some B)) := by
        rw [← hc6]
        exact ⟨by simp [hcz], by rw [Array.getElem?_setIfInBounds_self_of_lt (by omega)]⟩
      have hBr : B ≠ r6 := by have := hN5.lt; omega
      have hBb : B ≠ b := by have := hM.lt; omega
      have hBw : w.heap.size ≤ B := by have := hB.size; omega
      have hrw : w.heap.size ≤ r6 := by have := hB5.size; omega
      have hgr6 : g ≠ r6 := by have := blk_lt hg5; omega
      have hgB : g ≠ B := by omega
      go_loopg [] cnt (fun kq w' => ∃ (c2 n2 : Nat) (left : Int → Bool), c2 ≤ kq ∧ n2 + 3 * c2 ≤ 3 * n ∧ Aside0 (Rng w' b r6 n f left c2 ∧ IsM w' B n2 (acc both wi (part f left)) ∧ w'.heap[g]? = some (.cells cs6 62 (0, 0)) ∧ Below w.heap.size w w'))
      case atStart => exact ⟨cnt, 0, _, Nat.le_refl _, by omega, ⟨hrg6, (hN5.kept hg6 (by simp)).eqv (acc_start both wi f), blk_grown hg5 hg6 (by simp), hB5.grown hg6 hB5.size (fun j hj => by cases hj)⟩⟩
      case round =>
        clear hc6 hcd hM hB hxa hfa hg5 hM5 hN5 hB5 hx7 hrg6 hg6 hs6 hmB hBB hr6 hlt hgr hve
        obtain ⟨c2, n2, left, hc2, hn2, HW2⟩ := hrel
        obtain ⟨hRg, hIs, hg2, hB2⟩ := HW2.out
        clear HW2
        go_wp2_with (first
          | ((with_reducible refine gate_dst (N := 43) rfl ?_)
             refine next_ rfl (.tmp 42) rfl (b := b) (r := r6) rfl hRg ?_ ?_)
          | go_in)
        · intro h0 hl0
          go_wp2
          go_roundg e
          case measure => omega
          case rel =>
            refine ⟨e, (e : Int) - 1, cs6, B, n2, rfl, rfl, by omega, Nat.le_refl _, ⟨hg2, hcs6.1, hcs6.2, ?_, ?_, hB2⟩⟩
            · rw [drop_rd l e (by omega), ← HWI.out]
              exact hIs.eqv (fun x => by rw [HF.out]; exact acc_end both wi _ left hl0 x)
            · have e1 : 3 ^ (l.length - e) = 3 ^ (l.length - (e + 1)) * 3 := by rw [← Nat.pow_succ]; congr 1; omega
              rw [e1]
              omega
        · intro x c w7 c3 hwx hlx hfx hRg7 hlt hg7 hs7 hen
          have hIs7 := hIs.kept hg7 (by intro h; injection h with h; exact hBr h)
          have hgc7 := blk_grown hg2 hg7 (by intro h; injection h with h; exact hgr6 h)
          have hB7 := hB2.grown hg7 hB2.size (fun j hj => by cases hj; exact hrw)
          have HS7 := Aside0.mk hs7
          clear hRg hIs hg2 hB2 hg7 hs7
          go_wp2_with (first
            | ((with_reducible refine gate_dst (N := 8) rfl ?_)
               refine box_event ?hg (N := 8) ?hd (cs := #[.int .i64 0, .int .i64 0]) (t := 61) ?hr ?_
               (case hd => rfl)
               (case hg => rfl)
               (case hr => first | (go_simp; done) | (go_simp; rfl))
               intro gb hgb w8 hbox hb8
               have HGB := Aside0.mk hgb
               clear hgb
               have hx80 : w8.cell? ⟨gb, 0, none⟩ = some (.int .i64 0) := (blk_cell hbox 0).trans rfl
               have hx81 : w8.cell? ⟨gb, 1, none⟩ = some (.int .i64 0) := (blk_cell hbox 1).trans rfl
               have hf80 := blk_frozen hbox 0
               have hf81 := blk_frozen hbox 1)
            | ((with_reducible refine gate_store (t := 61) (p := 8) rfl ?_)
               refine store_event (t := 61) (p := 8) (v := ?v9) (w1 := ((w8.setCell ⟨gb, 0, none⟩ (.int .i64 (f x))).setCell ⟨gb, 1, none⟩ (.int .i64 c))) ?hg ?ho ?hn ?hr ?_
               (case ho => rfl)
               (case hg => rfl)
               (case hn => rfl)
               (case hr => first | (go_simp; done) | (go_simp; rfl))
               intro w9 hw9
               have HGB' : gb = w7.heap.size := HGB.out
               have hbb : b < w7.heap.size := hRg7.owns.lt
               have hbr : r6 < w7.heap.size := hRg7.lt
               have hbB : B < w7.heap.size := hIs7.lt
               have hbg : g < w7.heap.size := blk_lt hgc7
               have hbox9 : w9.heap[gb]? = some (.cells #[.int .i64 (f x), .int .i64 c] 61 (0, 0)) := by rw [hw9]; exact blk_put (blk_put hbox 0 _ rfl) 1 _ rfl
               have hRg9 : Rng w9 b r6 n f (fun z => left z && !z == x) c3 := by rw [hw9]; exact ((hRg7.below hb8).far _ (by show b ≠ gb; omega) (by show r6 ≠ gb; omega) _).far _ (by show b ≠ gb; omega) (by show r6 ≠ gb; omega) _
               have hIs9 : IsM w9 B n2 (acc both wi (part f left)) := by rw [hw9]; exact ((hIs7.below hb8).far _ (by show B ≠ gb; omega) _).far _ (by show B ≠ gb; omega) _
               have hgc9 : w9.heap[g]? = some (.cells cs6 62 (0, 0)) := by rw [hw9]; exact blk_far (blk_far (blk_below hgc7 hb8) (by show g ≠ gb; omega) _) (by show g ≠ gb; omega) _
               have hgw : w.heap.size ≤ gb := by have := hB7.size; omega
               have hB9 : Below w.heap.size w w9 := by rw [hw9]; exact below_set (below_set (below_step hB7 hb8) hgw) hgw
               have hgs9 : gb < w9.heap.size := blk_lt hbox9
               have HN := Aside0.mk (And.intro (Nat.ne_of_lt (show b < gb by omega)) (And.intro (Nat.ne_of_lt (show r6 < gb by omega)) (And.intro (Nat.ne_of_lt (show B < gb by omega)) (Nat.ne_of_lt (show g < gb by omega)))))
               have HNL := Aside0.mk (show b < gb ∧ r6 < gb ∧ B < gb ∧ g < gb by omega)
               clear hx80 hx81 hf80 hf81 hw9 hbox hb8 hRg7 hIs7 hgc7 hB7 HGB' HGB hbb hbr hbB hbg HS7 hen)
            | (go_at_call 65
               refine (sides_calls both _).mono ?_
               rintro _ w10 ⟨gs, cS, css, rfl, hss, hsq, hge, hb10⟩)
            | go_in)
          have hbox10 := blk_below hbox9 hb10
          have hRg10 := hRg9.below hb10
          have hIs10 := hIs9.below hb10
          have hgc10 := blk_below hgc9 hb10
          have hB10 := below_step hB9 hb10
          have hgsw : gb < gs := by omega
          clear hbox9 hRg9 hIs9 hgc9 hB9 hb10 hge hgs9
          have hlS : (sidesL both).length ≤ 3 := by cases both <;> decide
          go_loopg [51] (sidesL both).length (fun kq v51 w' => ∃ (q n3 : Nat), v51 = .int .i64 (q : Int) ∧ q ≤ (sidesL both).length ∧ (sidesL both).length ≤ q + kq ∧ n3 + 3 * c3 + 3 ≤ 3 * n + q ∧ Aside0 (Rng w' b r6 n f (fun z => left z && !z == x) c3 ∧ IsM w' B n3 (fun m => acc both wi (part f left) m + cont (f x) x wi ((sidesL both).take q) m) ∧ w'.heap[g]? = some (.cells cs6 62 (0, 0)) ∧ w'.heap[gb]? = some (.cells #[.int .i64 (f x), .int .i64 c] 61 (0, 0)) ∧ w'.heap[gs]? = some (.cells css 51 (0, 0)) ∧ Below w.heap.size w w'))
          case atStart => exact ⟨0, n2, rfl, Nat.zero_le _, by omega, by omega, ⟨hRg10, hIs10.eqv (fun m => by simp [cont]), hgc10, hbox10, hss, hB10⟩⟩
          case round =>
            clear hss hbox10 hRg10 hIs10 hgc10 hB10
            obtain ⟨q, n3, rfl, hq, hqk, hn3, HW3⟩ := hrel
            obtain ⟨hRg, hIs, hgc, hgbc, hgsc, hB3⟩ := HW3.out
            clear HW3
            by_cases hz : q = (sidesL both).length
            · subst hz
              go_wp2
              go_roundg c3
              case measure => omega
              case rel =>
                refine ⟨c3, n3, _, Nat.le_refl _, by omega, ⟨hRg, ?_, hgc, hB3⟩⟩
                exact hIs.eqv (fun m => by rw [List.take_length]; exact acc_step both wi f left x hlx m)
            · have hq1 : (q : Int) < ((sidesL both).length : Int) := by omega
              have hq2 : q < (sidesL both).length := by omega
              clear hz
              obtain ⟨s, hs⟩ : ∃ s, s = rd (sidesL both) (q : Int) := ⟨_, rfl⟩
              have hxs : wr.cell? ⟨gs, q, none⟩ = some (.int .i8 s) := by rw [hs]; exact (blk_cell hgsc q).trans (hsq q hq2)
              have HS := Aside0.mk hs
              have hxw2 := (hB3.cell (World.block_lt_of_cell? w _ HXW.out)).trans HXW.out
              have hxo := (blk_cell hgc e).trans hcs6.2
              have hx80 : wr.cell? ⟨gb, 0, none⟩ = some (.int .i64 (f x)) := (blk_cell hgbc 0).trans rfl
              have hx81 : wr.cell? ⟨gb, 1, none⟩ = some (.int .i64 c) := (blk_cell hgbc 1).trans rfl
              have hel : (e : Int) < (l.length : Int) := by omega
              clear hs
              obtain ⟨F, hF⟩ : ∃ F : Int → Nat, F = fun m => acc both wi (part f left) m + cont (f x) x wi ((sidesL both).take q) m := ⟨_, rfl⟩
              rw [← hF] at hIs
              have HFF := Aside0.mk hF
              clear hF
              obtain ⟨T, hTt⟩ : ∃ T, T = wrap64 (x + wrap64 (wrap64 s * wrap64 wi)) := ⟨_, rfl⟩
              have HTT := Aside0.mk hTt
              clear hTt
              obtain ⟨U, hU⟩ : ∃ U, U = wrap64 (c + wrap64 (wrap64 s * wrap64 s)) := ⟨_, rfl⟩
              have HUU := Aside0.mk hU
              clear hU
              obtain ⟨Qn, hQn⟩ : ∃ Qn : Nat, Qn = F T + f x := ⟨_, rfl⟩
              have hx2 : -2000 ≤ x ∧ x ≤ 2000 := by
                have h1 := ways_far both (l.drop (e + 1)) x (fun y hy => HV.out.2.2.1 y (List.mem_of_mem_drop hy)) (by rw [← HF.out]; exact hfx)
                have h2 := sum_drop l (e + 1) HV.out.2.2.1
                have h3 := HV.out.2.2.2
                omega
              have hwi2 : 1 ≤ wi ∧ wi ≤ 2000 := by rw [HWI.out]; exact okay_rd HV.out e (by omega)
              have hTe : T = x + s * wi ∧ -5000 ≤ T ∧ T ≤ 5000 := by
                have h1 := sides_in both q hq2
                rw [← HS.out] at h1
                have h2 := T_eq h1 hx2 hwi2
                rw [← HTT.out] at h2
                exact ⟨h2.1, by rw [h2.1]; exact h2.2.1, by rw [h2.1]; exact h2.2.2⟩
              have hp16 : 3 ^ (l.length - (e + 1)) ≤ 43046721 := Nat.le_trans (Nat.pow_le_pow_right (by decide) (show l.length - (e + 1) ≤ 16 by omega)) (by decide)
              have hfl : ∀ y, f y ≤ 43046721 := fun y => by
                rw [HF.out]
                refine Nat.le_trans (ways_le both (l.drop (e + 1)) y) ?_
                rw [List.length_drop]
                exact hp16
              have hFT : F T ≤ 258280326 := by
                rw [HFF.out]
                have h1 : acc both wi (part f left) T ≤ 3 * 43046721 := acc_le (fun y => by unfold part; split; exact Nat.zero_le _; exact hfl y) T
                have h2 : cont (f x) x wi ((sidesL both).take q) T ≤ ((sidesL both).take q).length * f x := cont_le _
                have h3 : ((sidesL both).take q).length * f x ≤ 3 * 43046721 := Nat.mul_le_mul (by rw [List.length_take]; omega) (hfl x)
                show acc both wi (part f left) T + cont (f x) x wi ((sidesL both).take q) T ≤ _
                omega
              have hQ0 : Qn ≠ 0 := by omega
              have hn4 : n3 < maxLen := by unfold maxLen; omega
              have HQQ := Aside0.mk (Q_eq hFT (hfl x) hQn).symm
              have HK := Aside0.mk (And.intro hTe (And.intro hQn (And.intro hn4 hQ0)))
              clear hTe hQn hn4 hQ0 hFT hfl hp16 hwi2 hx2
              go_upto_region 14 with (fail)
              rw [← HTT.out]
              go_upto_region 15 with (fail)
              rw [← HUU.out]
              go_upto_region 16 with (first
                | ((with_reducible refine gate_dst (N := 79) rfl ?_)
                   refine look_ok rfl (.tmp 77) (.tmp 78) rfl (b := B) rfl hIs (k := T) rfl ?hwf ?_
                   case hwf => exact wf64 (by have := HK.out.1; omega) (by have := HK.out.1; omega)
                   intro c5)
                | ((with_reducible refine gate_dst (N := 13) rfl ?_)
                   refine box_event ?hg (N := 13) ?hd (cs := #[.int .i64 0, .int .i64 0]) (t := 61) ?hr ?_
                   (case hd => rfl)
                   (case hg => rfl)
                   (case hr => first | (go_simp; done) | (go_simp; rfl))
                   intro go hgo w11 hbox hb11
                   have hy0 : w11.cell? ⟨go, 0, none⟩ = some (.int .i64 0) := (blk_cell hbox 0).trans rfl
                   have hy1 : w11.cell? ⟨go, 1, none⟩ = some (.int .i64 0) := (blk_cell hbox 1).trans rfl
                   have hf0 := blk_frozen hbox 0
                   have hf1 := blk_frozen hbox 1
                   have HGO := Aside0.mk hgo
                   clear hgo)
                | go_in)
              obtain ⟨w12, hw12⟩ : ∃ w12, w12 = (w11.setCell ⟨go, 0, none⟩ (.int .i64 (F T))).setCell ⟨go, 1, none⟩ (.int .i64 c5) := ⟨_, rfl⟩
              rw [← hw12]
              have hgo := HGO.out
              have k1 : b < wr.heap.size := hRg.owns.lt
              have k2 : r6 < wr.heap.size := hRg.lt
              have k3 : B < wr.heap.size := hIs.lt
              have k4 : g < wr.heap.size := blk_lt hgc
              have k5 : gb < wr.heap.size := blk_lt hgbc
              have k6 : gs < wr.heap.size := blk_lt hgsc
              have k7 : w.heap.size ≤ go := by have := hB3.size; omega
              have hbo : w12.heap[go]? = some (.cells #[.int .i64 (F T), .int .i64 c5] 61 (0, 0)) := by rw [hw12]; exact blk_put (blk_put hbox 0 _ rfl) 1 _ rfl
              have hRg12 : Rng w12 b r6 n f (fun z => left z && !z == x) c3 := by rw [hw12]; exact ((hRg.below hb11).far _ (by show b ≠ go; omega) (by show r6 ≠ go; omega) _).far _ (by show b ≠ go; omega) (by show r6 ≠ go; omega) _
              have hIs12 : IsM w12 B n3 F := by rw [hw12]; exact ((hIs.below hb11).far _ (by show B ≠ go; omega) _).far _ (by show B ≠ go; omega) _
              have hgc12 : w12.heap[g]? = some (.cells cs6 62 (0, 0)) := by rw [hw12]; exact blk_far (blk_far (blk_below hgc hb11) (by show g ≠ go; omega) _) (by show g ≠ go; omega) _
              have hgb12 : w12.heap[gb]? = some (.cells #[.int .i64 (f x), .int .i64 c] 61 (0, 0)) := by rw [hw12]; exact blk_far (blk_far (blk_below hgbc hb11) (by show gb ≠ go; omega) _) (by show gb ≠ go; omega) _
              have hgs12 : w12.heap[gs]? = some (.cells css 51 (0, 0)) := by rw [hw12]; exact blk_far (blk_far (blk_below hgsc hb11) (by show gs ≠ go; omega) _) (by show gs ≠ go; omega) _
              have hB12 : Below w.heap.size w w12 := by rw [hw12]; exact below_set (below_set (below_step hB3 hb11) k7) k7
              have HN := Aside0.mk (show b < go ∧ r6 < go ∧ B < go ∧ g < go ∧ gb < go ∧ gs < go ∧ w.heap.size ≤ go by omega)
              clear hy0 hy1 hf0 hf1 hw12 hbox hb11 hRg hIs hgc hgbc hgsc hB3 HGO hgo k1 k2 k3 k4 k5 k6 k7 hxs hxw2 hxo hx80 hx81
              have hz0 : w12.cell? ⟨go, 0, none⟩ = some (.int .i64 (F T)) := (blk_cell hbo 0).trans rfl
              have hz1 : w12.cell? ⟨go, 1, none⟩ = some (.int .i64 c5) := (blk_cell hbo 1).trans rfl
              have hz2 : w12.cell? ⟨gb, 0, none⟩ = some (.int .i64 (f x)) := (blk_cell hgb12 0).trans rfl
              have hzf0 := blk_frozen hbo 0
              have hzf1 := blk_frozen hbo 1
              have hne1 : gb ≠ go := by have := HN.out; omega
              have hne2 : go ≠ gb := by have := HN.out; omega
              by_cases hFT : F T = 0
              · have hFT' : ¬ (F T ≠ 0) := by omega
                go_upto_region 19 with (fail)
                rw [show wrap64 ((f x : Int)) = (Qn : Int) from by have h := HQQ.out; rw [hFT] at h; simpa using h.symm]
                clear hFT'
                obtain ⟨w13, hw13⟩ : ∃ w13, w13 = ((w12.setCell ⟨go, 1, none⟩ (.int .i64 U)).setCell ⟨go, 0, none⟩ (.int .i64 Qn)) := ⟨_, rfl⟩
                rw [← hw13]
                have hN := HN.out
                have hbo13 : w13.heap[go]? = some (.cells #[.int .i64 Qn, .int .i64 U] 61 (0, 0)) := by rw [hw13]; exact blk_put (blk_put hbo 1 _ rfl) 0 _ rfl
                have hRg13 : Rng w13 b r6 n f (fun z => left z && !z == x) c3 := by rw [hw13]; exact ((hRg12.far _ (by show b ≠ go; omega) (by show r6 ≠ go; omega) _).far _ (by show b ≠ go; omega) (by show r6 ≠ go; omega) _)
                have hIs13 : IsM w13 B n3 F := by rw [hw13]; exact ((hIs12.far _ (by show B ≠ go; omega) _).far _ (by show B ≠ go; omega) _)
                have hgc13 : w13.heap[g]? = some (.cells cs6 62 (0, 0)) := by rw [hw13]; exact blk_far (blk_far hgc12 (by show g ≠ go; omega) _) (by show g ≠ go; omega) _
                have hgb13 : w13.heap[gb]? = some (.cells #[.int .i64 (f x), .int .i64 c] 61 (0, 0)) := by rw [hw13]; exact blk_far (blk_far hgb12 (by show gb ≠ go; omega) _) (by show gb ≠ go; omega) _
                have hgs13 : w13.heap[gs]? = some (.cells css 51 (0, 0)) := by rw [hw13]; exact blk_far (blk_far hgs12 (by show gs ≠ go; omega) _) (by show gs ≠ go; omega) _
                have hB13 : Below w.heap.size w w13 := by rw [hw13]; exact below_set (below_set hB12 hN.2.2.2.2.2.2) hN.2.2.2.2.2.2
                clear hw13 hbo hRg12 hIs12 hgc12 hgb12 hgs12 hB12 hz0 hz1 hz2 hzf0 hzf1
                have s0 : w13.cell? ⟨g, e, none⟩ = some (.map (some B)) := (blk_cell hgc13 e).trans hcs6.2
                have s1 : w13.cell? ⟨go, 0, none⟩ = some (.int .i64 Qn) := (blk_cell hbo13 0).trans rfl
                have s2 : w13.cell? ⟨go, 1, none⟩ = some (.int .i64 U) := (blk_cell hbo13 1).trans rfl
                have HW13 := Aside0.mk (show Rng w13.drew b r6 n f (fun z => left z && !z == x) c3 ∧ IsM w13.drew B n3 F ∧ w13.drew.heap[g]? = some (.cells cs6 62 (0, 0)) ∧ w13.drew.heap[gb]? = some (.cells #[.int .i64 (f x), .int .i64 c] 61 (0, 0)) ∧ w13.drew.heap[gs]? = some (.cells css 51 (0, 0)) ∧ Below w.heap.size w w13.drew from ⟨hRg13.move rfl rfl, hIs13, hgc13, hgb13, hgs13, below_drew1 hB13⟩)
                clear hRg13 hIs13 hgc13 hgb13 hgs13 hB13 hbo13 hN
                refine start_ (n := 7) (S := fun w' => w'.cell? ⟨g, e, none⟩ = some (.map (some B)) ∧ w'.cell? ⟨go, 0, none⟩ = some (.int .i64 Qn) ∧ w'.cell? ⟨go, 1, none⟩ = some (.int .i64 U)) (ds := [6]) #[false, false, false, false, false, false, false] (by kernel_rfl) rfl rfl ⟨s0, s1, s2⟩ (fun hHeld => ?_)
                clear s0 s1 s2
                generalize w13.drew = w14 at HW13 hHeld ⊢
                refine pure_ (i := 0) (N := some 98) (v := ?_) (a' := ?_) #[true, false, false, false, false, false, false] rfl rfl (by kernel_rfl) (fun _ _ _ h => h) (Or.inl ⟨by rfl, ?_⟩) ?_ ?_
                rotate_left
                · intro w'
                  go_simp
                  with_reducible rfl
                rotate_left
                · simp only [Act.put, List.setIfInBounds_toArray, List.set_cons_zero, List.set_cons_succ, i64_w, i32_w]
                  rfl
                refine pure_ (i := 1) (N := some 99) (v := ?_) (a' := ?_) #[true, true, false, false, false, false, false] rfl rfl (by kernel_rfl) (fun _ _ _ h => h) (Or.inl ⟨by rfl, ?_⟩) ?_ ?_
                rotate_left
                · intro w'
                  go_simp
                  with_reducible rfl
                rotate_left
                · simp only [Act.put, List.setIfInBounds_toArray, List.set_cons_zero, List.set_cons_succ, i64_w, i32_w]
                  rfl
                refine pure_ (i := 2) (N := some 100) (v := ?_) (a' := ?_) #[true, true, true, false, false, false, false] rfl rfl (by kernel_rfl) (fun _ _ _ h => h) (Or.inl ⟨by rfl, ?_⟩) ?_ ?_
                rotate_left
                · intro w'
                  go_simp
                  with_reducible rfl
                rotate_left
                · simp only [Act.put, List.setIfInBounds_toArray, List.set_cons_zero, List.set_cons_succ, i64_w, i32_w]
                  rfl
                refine pure_ (i := 4) (N := some 102) (v := ?_) (a' := ?_) #[true, true, true, false, true, false, false] rfl rfl (by kernel_rfl) (fun _ _ _ h => h) (Or.inl ⟨by rfl, ?_⟩) ?_ ?_
                rotate_left
                · intro w'
                  go_simp
                  with_reducible rfl
                rotate_left
                · simp only [Act.put, List.setIfInBounds_toArray, List.set_cons_zero, List.set_cons_succ, i64_w, i32_w]
                  rfl
                refine take_ (i := 3) (N := some 101) (v := ?_) (a' := ?_) #[true, true, true, true, true, false, false] rfl rfl (by kernel_rfl) (fun _ _ _ h => h) (Or.inl ⟨by rfl, ?_⟩) hHeld ?_ ?_
                rotate_left
                · rintro w' ⟨s0, s1, s2⟩
                  go_simp
                  with_reducible rfl
                rotate_left
                · simp only [Act.put, List.setIfInBounds_toArray, List.set_cons_zero, List.set_cons_succ, i64_w, i32_w]
                  rfl
                refine take_ (i := 5) (N := some 103) (v := ?_) (a' := ?_) #[true, true, true, true, true, true, false] rfl rfl (by kernel_rfl) (fun _ _ _ h => h) (Or.inl ⟨by rfl, ?_⟩) hHeld ?_ ?_
                rotate_left
                · rintro w' ⟨s0, s1, s2⟩
                  go_simp
                  with_reducible rfl
                rotate_left
                · simp only [Act.put, List.setIfInBounds_toArray, List.set_cons_zero, List.set_cons_succ, i64_w, i32_w]
                  rfl
                refine last_ (i := 6) (N := none) #[true, true, true, true, true, true, true] rfl rfl (by kernel_rfl) (by decide) (fun K hK => ?_)
                obtain ⟨hRg14, hIs14, hgc14, hgb14, hgs14, hB14⟩ := HW13.out
                refine step_put rfl (.tmp 101) (.tmp 102) (.tmp 103) rfl (b := B) rfl hIs14 HK.out.2.2.1 (k := T) (c := U) (q := Qn) rfl (wf64 (by have := HK.out.1; omega) (by have := HK.out.1; omega)) rfl HK.out.2.2.2 (fun w15 hIs15 hg15 => ?_)
                refine hK.out _ _ ?_
                clear hK K
                refine done_ (by kernel_rfl) ?_
                have hRg15 : Rng w15 b r6 n f (fun z => left z && !z == x) c3 := hRg14.kept hg15 (by intro h; injection h with h; exact hBb h.symm) (by intro h; injection h with h; exact hBr h.symm)
                have hgc15 := blk_grown hgc14 hg15 (by intro h; injection h with h; exact hgB h)
                have hgb15 := blk_grown hgb14 hg15 (by intro h; injection h with h; have := hIs14.ne hgb14; exact this h.symm)
                have hgs15 := blk_grown hgs14 hg15 (by intro h; injection h with h; have := hIs14.ne hgs14; exact this h.symm)
                have hB15 := hB14.grown hg15 hB14.size (fun j hj => by cases hj; exact hBw)
                clear hRg14 hIs14 hgc14 hgb14 hgs14 hB14 hg15 HW13
                try go_wp2
                go_roundg (gk - 1)
                case measure => omega
                case rel =>
                  refine ⟨q + 1, n3 + 1, by push_cast; rfl, by omega, by omega, by omega, ⟨hRg15, hIs15.eqv (fun m => ?_), hgc15, hgb15, hgs15, hB15⟩⟩
                  have h1 := HK.out.1.1
                  have h2 := HK.out.2.1
                  rw [take_rd _ q hq2, cont_snoc, ← HS.out]
                  show (if m = T then Qn else F m) = _
                  rw [h2, ← h1, HFF.out]
                  by_cases em : m = T
                  · subst em; simp only [if_true]; omega
                  · simp only [if_neg em]; omega
              · by_cases hus : U < c5
                · skip
                  go_upto_region 19 with (fail)
                  rw [← HQQ.out]
                  obtain ⟨w13, hw13⟩ : ∃ w13, w13 = ((w12.setCell ⟨go, 1, none⟩ (.int .i64 U)).setCell ⟨go, 0, none⟩ (.int .i64 Qn)) := ⟨_, rfl⟩
                  rw [← hw13]
                  have hN := HN.out
                  have hbo13 : w13.heap[go]? = some (.cells #[.int .i64 Qn, .int .i64 U] 61 (0, 0)) := by rw [hw13]; exact blk_put (blk_put hbo 1 _ rfl) 0 _ rfl
                  have hRg13 : Rng w13 b r6 n f (fun z => left z && !z == x) c3 := by rw [hw13]; exact ((hRg12.far _ (by show b ≠ go; omega) (by show r6 ≠ go; omega) _).far _ (by show b ≠ go; omega) (by show r6 ≠ go; omega) _)
                  have hIs13 : IsM w13 B n3 F := by rw [hw13]; exact ((hIs12.far _ (by show B ≠ go; omega) _).far _ (by show B ≠ go; omega) _)
                  have hgc13 : w13.heap[g]? = some (.cells cs6 62 (0, 0)) := by rw [hw13]; exact blk_far (blk_far hgc12 (by show g ≠ go; omega) _) (by show g ≠ go; omega) _
                  have hgb13 : w13.heap[gb]? = some (.cells #[.int .i64 (f x), .int .i64 c] 61 (0, 0)) := by rw [hw13]; exact blk_far (blk_far hgb12 (by show gb ≠ go; omega) _) (by show gb ≠ go; omega) _
                  have hgs13 : w13.heap[gs]? = some (.cells css 51 (0, 0)) := by rw [hw13]; exact blk_far (blk_far hgs12 (by show gs ≠ go; omega) _) (by show gs ≠ go; omega) _
                  have hB13 : Below w.heap.size w w13 := by rw [hw13]; exact below_set (below_set hB12 hN.2.2.2.2.2.2) hN.2.2.2.2.2.2
                  clear hw13 hbo hRg12 hIs12 hgc12 hgb12 hgs12 hB12 hz0 hz1 hz2 hzf0 hzf1
                  have s0 : w13.cell? ⟨g, e, none⟩ = some (.map (some B)) := (blk_cell hgc13 e).trans hcs6.2
                  have s1 : w13.cell? ⟨go, 0, none⟩ = some (.int .i64 Qn) := (blk_cell hbo13 0).trans rfl
                  have s2 : w13.cell? ⟨go, 1, none⟩ = some (.int .i64 U) := (blk_cell hbo13 1).trans rfl
                  have HW13 := Aside0.mk (show Rng w13.drew b r6 n f (fun z => left z && !z == x) c3 ∧ IsM w13.drew B n3 F ∧ w13.drew.heap[g]? = some (.cells cs6 62 (0, 0)) ∧ w13.drew.heap[gb]? = some (.cells #[.int .i64 (f x), .int .i64 c] 61 (0, 0)) ∧ w13.drew.heap[gs]? = some (.cells css 51 (0, 0)) ∧ Below w.heap.size w w13.drew from ⟨hRg13.move rfl rfl, hIs13, hgc13, hgb13, hgs13, below_drew1 hB13⟩)
                  clear hRg13 hIs13 hgc13 hgb13 hgs13 hB13 hbo13 hN
                  refine start_ (n := 7) (S := fun w' => w'.cell? ⟨g, e, none⟩ = some (.map (some B)) ∧ w'.cell? ⟨go, 0, none⟩ = some (.int .i64 Qn) ∧ w'.cell? ⟨go, 1, none⟩ = some (.int .i64 U)) (ds := [6]) #[false, false, false, false, false, false, false] (by kernel_rfl) rfl rfl ⟨s0, s1, s2⟩ (fun hHeld => ?_)
                  clear s0 s1 s2
                  generalize w13.drew = w14 at HW13 hHeld ⊢
                  refine pure_ (i := 0) (N := some 98) (v := ?_) (a' := ?_) #[true, false, false, false, false, false, false] rfl rfl (by kernel_rfl) (fun _ _ _ h => h) (Or.inl ⟨by rfl, ?_⟩) ?_ ?_
                  rotate_left
                  · intro w'
                    go_simp
                    with_reducible rfl
                  rotate_left
                  · simp only [Act.put, List.setIfInBounds_toArray, List.set_cons_zero, List.set_cons_succ, i64_w, i32_w]
                    rfl
                  refine pure_ (i := 1) (N := some 99) (v := ?_) (a' := ?_) #[true, true, false, false, false, false, false] rfl rfl (by kernel_rfl) (fun _ _ _ h => h) (Or.inl ⟨by rfl, ?_⟩) ?_ ?_
                  rotate_left
                  · intro w'
                    go_simp
                    with_reducible rfl
                  rotate_left
                  · simp only [Act.put, List.setIfInBounds_toArray, List.set_cons_zero, List.set_cons_succ, i64_w, i32_w]
                    rfl
                  refine pure_ (i := 2) (N := some 100) (v := ?_) (a' := ?_) #[true, true, true, false, false, false, false] rfl rfl (by kernel_rfl) (fun _ _ _ h => h) (Or.inl ⟨by rfl, ?_⟩) ?_ ?_
                  rotate_left
                  · intro w'
                    go_simp
                    with_reducible rfl
                  rotate_left
                  · simp only [Act.put, List.setIfInBounds_toArray, List.set_cons_zero, List.set_cons_succ, i64_w, i32_w]
                    rfl
                  refine pure_ (i := 4) (N := some 102) (v := ?_) (a' := ?_) #[true, true, true, false, true, false, false] rfl rfl (by kernel_rfl) (fun _ _ _ h => h) (Or.inl ⟨by rfl, ?_⟩) ?_ ?_
                  rotate_left
                  · intro w'
                    go_simp
                    with_reducible rfl
                  rotate_left
                  · simp only [Act.put, List.setIfInBounds_toArray, List.set_cons_zero, List.set_cons_succ, i64_w, i32_w]
                    rfl
                  refine take_ (i := 3) (N := some 101) (v := ?_) (a' := ?_) #[true, true, true, true, true, false, false] rfl rfl (by kernel_rfl) (fun _ _ _ h => h) (Or.inl ⟨by rfl, ?_⟩) hHeld ?_ ?_
                  rotate_left
                  · rintro w' ⟨s0, s1, s2⟩
                    go_simp
                    with_reducible rfl
                  rotate_left
                  · simp only [Act.put, List.setIfInBounds_toArray, List.set_cons_zero, List.set_cons_succ, i64_w, i32_w]
                    rfl
                  refine take_ (i := 5) (N := some 103) (v := ?_) (a' := ?_) #[true, true, true, true, true, true, false] rfl rfl (by kernel_rfl) (fun _ _ _ h => h) (Or.inl ⟨by rfl, ?_⟩) hHeld ?_ ?_
                  rotate_left
                  · rintro w' ⟨s0, s1, s2⟩
                    go_simp
                    with_reducible rfl
                  rotate_left
                  · simp only [Act.put, List.setIfInBounds_toArray, List.set_cons_zero, List.set_cons_succ, i64_w, i32_w]
                    rfl
                  refine last_ (i := 6) (N := none) #[true, true, true, true, true, true, true] rfl rfl (by kernel_rfl) (by decide) (fun K hK => ?_)
                  obtain ⟨hRg14, hIs14, hgc14, hgb14, hgs14, hB14⟩ := HW13.out
                  refine step_put rfl (.tmp 101) (.tmp 102) (.tmp 103) rfl (b := B) rfl hIs14 HK.out.2.2.1 (k := T) (c := U) (q := Qn) rfl (wf64 (by have := HK.out.1; omega) (by have := HK.out.1; omega)) rfl HK.out.2.2.2 (fun w15 hIs15 hg15 => ?_)
                  refine hK.out _ _ ?_
                  clear hK K
                  refine done_ (by kernel_rfl) ?_
                  have hRg15 : Rng w15 b r6 n f (fun z => left z && !z == x) c3 := hRg14.kept hg15 (by intro h; injection h with h; exact hBb h.symm) (by intro h; injection h with h; exact hBr h.symm)
                  have hgc15 := blk_grown hgc14 hg15 (by intro h; injection h with h; exact hgB h)
                  have hgb15 := blk_grown hgb14 hg15 (by intro h; injection h with h; have := hIs14.ne hgb14; exact this h.symm)
                  have hgs15 := blk_grown hgs14 hg15 (by intro h; injection h with h; have := hIs14.ne hgs14; exact this h.symm)
                  have hB15 := hB14.grown hg15 hB14.size (fun j hj => by cases hj; exact hBw)
                  clear hRg14 hIs14 hgc14 hgb14 hgs14 hB14 hg15 HW13
                  try go_wp2
                  go_roundg (gk - 1)
                  case measure => omega
                  case rel =>
                    refine ⟨q + 1, n3 + 1, by push_cast; rfl, by omega, by omega, by omega, ⟨hRg15, hIs15.eqv (fun m => ?_), hgc15, hgb15, hgs15, hB15⟩⟩
                    have h1 := HK.out.1.1
                    have h2 := HK.out.2.1
                    rw [take_rd _ q hq2, cont_snoc, ← HS.out]
                    show (if m = T then Qn else F m) = _
                    rw [h2, ← h1, HFF.out]
                    by_cases em : m = T
                    · subst em; simp only [if_true]; omega
                    · simp only [if_neg em]; omega
                · skip
                  go_upto_region 19 with (fail)
                  rw [← HQQ.out]
                  obtain ⟨w13, hw13⟩ : ∃ w13, w13 = (w12.setCell ⟨go, 0, none⟩ (.int .i64 Qn)) := ⟨_, rfl⟩
                  rw [← hw13]
                  have hN := HN.out
                  have hbo13 : w13.heap[go]? = some (.cells #[.int .i64 Qn, .int .i64 c5] 61 (0, 0)) := by rw [hw13]; exact blk_put hbo 0 _ rfl
                  have hRg13 : Rng w13 b r6 n f (fun z => left z && !z == x) c3 := by rw [hw13]; exact (hRg12.far _ (by show b ≠ go; omega) (by show r6 ≠ go; omega) _)
                  have hIs13 : IsM w13 B n3 F := by rw [hw13]; exact (hIs12.far _ (by show B ≠ go; omega) _)
                  have hgc13 : w13.heap[g]? = some (.cells cs6 62 (0, 0)) := by rw [hw13]; exact blk_far hgc12 (by show g ≠ go; omega) _
                  have hgb13 : w13.heap[gb]? = some (.cells #[.int .i64 (f x), .int .i64 c] 61 (0, 0)) := by rw [hw13]; exact blk_far hgb12 (by show gb ≠ go; omega) _
                  have hgs13 : w13.heap[gs]? = some (.cells css 51 (0, 0)) := by rw [hw13]; exact blk_far hgs12 (by show gs ≠ go; omega) _
                  have hB13 : Below w.heap.size w w13 := by rw [hw13]; exact below_set hB12 hN.2.2.2.2.2.2
                  clear hw13 hbo hRg12 hIs12 hgc12 hgb12 hgs12 hB12 hz0 hz1 hz2 hzf0 hzf1
                  have s0 : w13.cell? ⟨g, e, none⟩ = some (.map (some B)) := (blk_cell hgc13 e).trans hcs6.2
                  have s1 : w13.cell? ⟨go, 0, none⟩ = some (.int .i64 Qn) := (blk_cell hbo13 0).trans rfl
                  have s2 : w13.cell? ⟨go, 1, none⟩ = some (.int .i64 c5) := (blk_cell hbo13 1).trans rfl
                  have HW13 := Aside0.mk (show Rng w13.drew b r6 n f (fun z => left z && !z == x) c3 ∧ IsM w13.drew B n3 F ∧ w13.drew.heap[g]? = some (.cells cs6 62 (0, 0)) ∧ w13.drew.heap[gb]? = some (.cells #[.int .i64 (f x), .int .i64 c] 61 (0, 0)) ∧ w13.drew.heap[gs]? = some (.cells css 51 (0, 0)) ∧ Below w.heap.size w w13.drew from ⟨hRg13.move rfl rfl, hIs13, hgc13, hgb13, hgs13, below_drew1 hB13⟩)
                  clear hRg13 hIs13 hgc13 hgb13 hgs13 hB13 hbo13 hN
                  refine start_ (n := 7) (S := fun w' => w'.cell? ⟨g, e, none⟩ = some (.map (some B)) ∧ w'.cell? ⟨go, 0, none⟩ = some (.int .i64 Qn) ∧ w'.cell? ⟨go, 1, none⟩ = some (.int .i64 c5)) (ds := [6]) #[false, false, false, false, false, false, false] (by kernel_rfl) rfl rfl ⟨s0, s1, s2⟩ (fun hHeld => ?_)
                  clear s0 s1 s2
                  generalize w13.drew = w14 at HW13 hHeld ⊢
                  refine pure_ (i := 0) (N := some 98) (v := ?_) (a' := ?_) #[true, false, false, false, false, false, false] rfl rfl (by kernel_rfl) (fun _ _ _ h => h) (Or.inl ⟨by rfl, ?_⟩) ?_ ?_
                  rotate_left
                  · intro w'
                    go_simp
                    with_reducible rfl
                  rotate_left
                  · simp only [Act.put, List.setIfInBounds_toArray, List.set_cons_zero, List.set_cons_succ, i64_w, i32_w]
                    rfl
                  refine pure_ (i := 1) (N := some 99) (v := ?_) (a' := ?_) #[true, true, false, false, false, false, false] rfl rfl (by kernel_rfl) (fun _ _ _ h => h) (Or.inl ⟨by rfl, ?_⟩) ?_ ?_
                  rotate_left
                  · intro w'
                    go_simp
                    with_reducible rfl
                  rotate_left
                  · simp only [Act.put, List.setIfInBounds_toArray, List.set_cons_zero, List.set_cons_succ, i64_w, i32_w]
                    rfl
                  refine pure_ (i := 2) (N := some 100) (v := ?_) (a' := ?_) #[true, true, true, false, false, false, false] rfl rfl (by kernel_rfl) (fun _ _ _ h => h) (Or.inl ⟨by rfl, ?_⟩) ?_ ?_
                  rotate_left
                  · intro w'
                    go_simp
                    with_reducible rfl
                  rotate_left
                  · simp only [Act.put, List.setIfInBounds_toArray, List.set_cons_zero, List.set_cons_succ, i64_w, i32_w]
                    rfl
                  refine pure_ (i := 4) (N := some 102) (v := ?_) (a' := ?_) #[true, true, true, false, true, false, false] rfl rfl (by kernel_rfl) (fun _ _ _ h => h) (Or.inl ⟨by rfl, ?_⟩) ?_ ?_
                  rotate_left
                  · intro w'
                    go_simp
                    with_reducible rfl
                  rotate_left
                  · simp only [Act.put, List.setIfInBounds_toArray, List.set_cons_zero, List.set_cons_succ, i64_w, i32_w]
                    rfl
                  refine take_ (i := 3) (N := some 101) (v := ?_) (a' := ?_) #[true, true, true, true, true, false, false] rfl rfl (by kernel_rfl) (fun _ _ _ h => h) (Or.inl ⟨by rfl, ?_⟩) hHeld ?_ ?_
                  rotate_left
                  · rintro w' ⟨s0, s1, s2⟩
                    go_simp
                    with_reducible rfl
                  rotate_left
                  · simp only [Act.put, List.setIfInBounds_toArray, List.set_cons_zero, List.set_cons_succ, i64_w, i32_w]
                    rfl
                  refine take_ (i := 5) (N := some 103) (v := ?_) (a' := ?_) #[true, true, true, true, true, true, false] rfl rfl (by kernel_rfl) (fun _ _ _ h => h) (Or.inl ⟨by rfl, ?_⟩) hHeld ?_ ?_
                  rotate_left
                  · rintro w' ⟨s0, s1, s2⟩
                    go_simp
                    with_reducible rfl
                  rotate_left
                  · simp only [Act.put, List.setIfInBounds_toArray, List.set_cons_zero, List.set_cons_succ, i64_w, i32_w]
                    rfl
                  refine last_ (i := 6) (N := none) #[true, true, true, true, true, true, true] rfl rfl (by kernel_rfl) (by decide) (fun K hK => ?_)
                  obtain ⟨hRg14, hIs14, hgc14, hgb14, hgs14, hB14⟩ := HW13.out
                  refine step_put rfl (.tmp 101) (.tmp 102) (.tmp 103) rfl (b := B) rfl hIs14 HK.out.2.2.1 (k := T) (c := c5) (q := Qn) rfl (wf64 (by have := HK.out.1; omega) (by have := HK.out.1; omega)) rfl HK.out.2.2.2 (fun w15 hIs15 hg15 => ?_)
                  refine hK.out _ _ ?_
                  clear hK K
                  refine done_ (by kernel_rfl) ?_
                  have hRg15 : Rng w15 b r6 n f (fun z => left z && !z == x) c3 := hRg14.kept hg15 (by intro h; injection h with h; exact hBb h.symm) (by intro h; injection h with h; exact hBr h.symm)
                  have hgc15 := blk_grown hgc14 hg15 (by intro h; injection h with h; exact hgB h)
                  have hgb15 := blk_grown hgb14 hg15 (by intro h; injection h with h; have := hIs14.ne hgb14; exact this h.symm)
                  have hgs15 := blk_grown hgs14 hg15 (by intro h; injection h with h; have := hIs14.ne hgs14; exact this h.symm)
                  have hB15 := hB14.grown hg15 hB14.size (fun j hj => by cases hj; exact hBw)
                  clear hRg14 hIs14 hgc14 hgb14 hgs14 hB14 hg15 HW13
                  try go_wp2
                  go_roundg (gk - 1)
                  case measure => omega
                  case rel =>
                    refine ⟨q + 1, n3 + 1, by push_cast; rfl, by omega, by omega, by omega, ⟨hRg15, hIs15.eqv (fun m => ?_), hgc15, hgb15, hgs15, hB15⟩⟩
                    have h1 := HK.out.1.1
                    have h2 := HK.out.2.1
                    rw [take_rd _ q hq2, cont_snoc, ← HS.out]
                    show (if m = T then Qn else F m) = _
                    rw [h2, ← h1, HFF.out]
                    by_cases em : m = T
                    · subst em; simp only [if_true]; omega
                    · simp only [if_neg em]; omega
end Go.Proofs.Ythhihmhcfodjiaa.R
