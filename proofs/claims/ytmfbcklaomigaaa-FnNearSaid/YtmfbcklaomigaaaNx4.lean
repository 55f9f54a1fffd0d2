-- Written by wip/tools/myprint.py, a program of this session, by way of the kit's print.
import Derived.Test.YtmfbcklaomigaaaNx0
import Derived.Test.YtmfbcklaomigaaaNx3
import Derived.Test.YtmfbcklaomigaaaLPrN
namespace Go.Proofs.Ytmfbcklaomigaaa.N
open Go.RowKit Go.Proofs.YtmfbcklaomigaaaW.PrintWords Go.Proofs.YtmfbcklaomigaaaW.PrintLast Go.Proofs.YtmfbcklaomigaaaW.PrintMore
attribute [local go_sem] zqa zpa zwa zxa zla zka zra zta   -- for this text's walks alone
set_option linter.unusedVariables false
set_option linter.unusedSimpArgs false

/-! ### spec_l04Turns: function 54 -/
def spec_l04Turns.l0 : Nat → Int → Int → Int → Int → Int → Int → Option (Bool)
 | 0, _, _, _, _, _, _ => none
 | k + 1, x0, x5, x123000, x123001, x123002, x123003 => if x5 < x0 then (if 0 ≤ x5 then (if x5 < 4 then (if 0 ≤ (wrap64 (x5 - 1)) then (if (wrap64 (x5 - 1)) < 4 then (if (rd [x123000, x123001, x123002, x123003] x5) = (rd [x123000, x123001, x123002, x123003] (wrap64 (x5 - 1))) then (spec_l04Turns.l0 k x0 (wrap64 (x5 + 1)) x123000 x123001 x123002 x123003) else ((spec_l04Next.f (rd [x123000, x123001, x123002, x123003] (wrap64 (x5 - 1)))).bind fun t131 => (some ((rd [x123000, x123001, x123002, x123003] x5) == t131)))) else (none)) else (none)) else (none)) else (none)) else (some false)
def spec_l04Turns.f (k : Nat) (a0 : Int) (a1_0 : Int) (a1_1 : Int) (a1_2 : Int) (a1_3 : Int) : Option (Bool) := spec_l04Turns.l0 k a0 1 a1_0 a1_1 a1_2 a1_3
set_option maxHeartbeats 8000000 in
set_option maxRecDepth 100000 in
theorem spec_l04Turns.calls (k : Nat) (a0 : Int) (a1_0 : Int) (a1_1 : Int) (a1_2 : Int) (a1_3 : Int) (r : Bool) (w : World) (h : spec_l04Turns.f k a0 a1_0 a1_1 a1_2 a1_3 = some r) :
  Calls Try.prog 54 #[.int .i64 a0, .agg #[.int .i8 a1_0, .int .i8 a1_1, .int .i8 a1_2, .int .i8 a1_3]] w fun e w' => e = .returned (.bool r) ∧ Below w.heap.size w w' := by
 have hu43 := Try.underlying43
 have HB := za.mk (Below.refl w.heap.size w)
 have H : (spec_l04Turns.l0 k a0 1 a1_0 a1_1 a1_2 a1_3) = some r := h
 clear h
 have H' := za.mk H
 clear H
 go_enter Try.func54, Try.ntmps54
 go_wp2_with (first | ((with_reducible refine zn (N := 3) rfl ?_); refine bx (N := 3) #[.int .i8 a1_0, .int .i8 a1_1, .int .i8 a1_2, .int .i8 a1_3] 43 rfl ?_; intro gb122 hg w3 hbox hb; have BK122 := za.mk hbox; have GW122 := gB hg; have GE122 := GW122; replace HB := za.mk (ze sB hb); clear hb hbox hg))
 repeat (go_quiet (first | ((with_reducible refine zn (N := 3) rfl ?_); refine bx (N := 3) #[.int .i8 a1_0, .int .i8 a1_1, .int .i8 a1_2, .int .i8 a1_3] 43 rfl ?_; intro gb122 hg w3 hbox hb; have BK122 := za.mk hbox; have GW122 := gB hg; have GE122 := GW122; replace HB := za.mk (ze sB hb); clear hb hbox hg)); try go_wp2_with (first | ((with_reducible refine zn (N := 3) rfl ?_); refine bx (N := 3) #[.int .i8 a1_0, .int .i8 a1_1, .int .i8 a1_2, .int .i8 a1_3] 43 rfl ?_; intro gb122 hg w3 hbox hb; have BK122 := za.mk hbox; have GW122 := gB hg; have GE122 := GW122; replace HB := za.mk (ze sB hb); clear hb hbox hg)))
 go_loopg [5] k (fun kq v5 w' => ∃ (x5_1 : Int), v5 = .int .i64 x5_1 ∧ za (spec_l04Turns.l0 kq a0 x5_1 a1_0 a1_1 a1_2 a1_3 = some r) ∧ za (kq ≤ k) ∧ za (w'.heap[gb122]? = some (.cells #[.int .i8 a1_0, .int .i8 a1_1, .int .i8 a1_2, .int .i8 a1_3] 43 (0, 0))) ∧ za (Below w.heap.size w w'))
 case atStart => exact ⟨(1), (by first | rfl | (simp; done) | (simp [*]; done)), H', ⟨Nat.le_refl _⟩, ⟨uK BK122⟩, ⟨sB⟩⟩
 case round =>
  clear H'
  try clear p2
  obtain ⟨x5_1, rfl, HA, HK1, BK122, HB⟩ := hrel
  cases gk with
  | zero => exact absurd HA.out (by simp [spec_l04Turns.l0])
  | succ k1 =>
   have H := HA.out
   clear HA
   simp only [spec_l04Turns.l0] at H
   by_cases c4 : x5_1 < a0
   ·rw [if_pos c4] at H
    have c4b0 : decide (x5_1 < a0) = true := decide_eq_true c4
    clear c4
    by_cases c5 : 0 ≤ x5_1
    ·rw [if_pos c5] at H
     have c5b0 : decide (0 ≤ x5_1) = true := decide_eq_true c5
     clear c5
     by_cases c6 : x5_1 < 4
     ·rw [if_pos c6] at H
      have c6b0 : decide (x5_1 < 4) = true := decide_eq_true c6
      clear c6
      obtain ⟨ji7, hji7⟩ : ∃ j_ : Int, (wrap64 (x5_1 - 1)) = j_ := ⟨_, rfl⟩
      replace H : (if 0 ≤ (ji7) then (if (ji7) < 4 then (if (rd [a1_0, a1_1, a1_2, a1_3] x5_1) = (rd [a1_0, a1_1, a1_2, a1_3] (ji7)) then (spec_l04Turns.l0 k1 a0 (wrap64 (x5_1 + 1)) a1_0 a1_1 a1_2 a1_3) else ((spec_l04Next.f (rd [a1_0, a1_1, a1_2, a1_3] (ji7))).bind fun t131 => (some ((rd [a1_0, a1_1, a1_2, a1_3] x5_1) == t131)))) else (none)) else (none)) = some r := by first | (rw [hji7] at H; exact H) | (simp only [hji7] at H ⊢; exact H)
      have hji7w : (IntKind.i64.wrap (x5_1 - 1)) = ji7 := (zda _).trans hji7
      by_cases c8 : 0 ≤ (ji7)
      ·rw [if_pos c8] at H
       have c8b0 : decide (0 ≤ (ji7)) = true := decide_eq_true c8
       clear c8
       by_cases c9 : (ji7) < 4
       ·rw [if_pos c9] at H
        have c9b0 : decide ((ji7) < 4) = true := decide_eq_true c9
        clear c9
        by_cases c10 : (rd [a1_0, a1_1, a1_2, a1_3] x5_1) = (rd [a1_0, a1_1, a1_2, a1_3] (ji7))
        ·rw [if_pos c10] at H
         have c10b0 : ((rd [a1_0, a1_1, a1_2, a1_3] x5_1) == (rd [a1_0, a1_1, a1_2, a1_3] (ji7))) = true := beq_iff_eq.mpr c10
         have c10b1 : ((rd [a1_0, a1_1, a1_2, a1_3] x5_1) != (rd [a1_0, a1_1, a1_2, a1_3] (ji7))) = false := bne_eq_false_iff_eq.mpr c10
         clear c10
         have H' := za.mk H
         clear H
         have p11 : 0 ≤ (x5_1 : Int) := of_decide_eq_true (by first | (with_reducible assumption) | assumption)
         have q11 : x5_1 < (4 : Int) := of_decide_eq_true (by first | (with_reducible assumption) | assumption)
         replace p11 := eq_true p11
         replace q11 := eq_true q11
         obtain ⟨hcz12_0, hcz12_1, hcz12_2, hcz12_3⟩ := xc4 BK122
         obtain ⟨hfz12_0, hfz12_1, hfz12_2, hfz12_3⟩ := xf4 BK122
         have hx13_0 : wr.cell? ⟨gb122, (x5_1).toNat, none⟩ = some (.int .i8 (rd [a1_0, a1_1, a1_2, a1_3] x5_1)) := (zh BK122.out _).trans (by rcases (show (x5_1 : Int) = 0 ∨ (x5_1 : Int) = 1 ∨ (x5_1 : Int) = 2 ∨ (x5_1 : Int) = 3 by have hp_ : 0 ≤ (x5_1 : Int) := of_decide_eq_true (by first | (with_reducible assumption) | assumption); have hq_ : x5_1 < (4 : Int) := of_decide_eq_true (by first | (with_reducible assumption) | assumption); omega) with h_ | h_ | h_ | h_ <;> rw [h_] <;> rfl)
         have p14 : 0 ≤ ((ji7) : Int) := of_decide_eq_true (by first | (with_reducible assumption) | assumption)
         have q14 : (ji7) < (4 : Int) := of_decide_eq_true (by first | (with_reducible assumption) | assumption)
         replace p14 := eq_true p14
         replace q14 := eq_true q14
         have hx15_0 : wr.cell? ⟨gb122, ((ji7)).toNat, none⟩ = some (.int .i8 (rd [a1_0, a1_1, a1_2, a1_3] (ji7))) := (zh BK122.out _).trans (by rcases (show ((ji7) : Int) = 0 ∨ ((ji7) : Int) = 1 ∨ ((ji7) : Int) = 2 ∨ ((ji7) : Int) = 3 by have hp_ : 0 ≤ ((ji7) : Int) := of_decide_eq_true (by first | (with_reducible assumption) | assumption); have hq_ : (ji7) < (4 : Int) := of_decide_eq_true (by first | (with_reducible assumption) | assumption); omega) with h_ | h_ | h_ | h_ <;> rw [h_] <;> rfl)
         go_wp2
         repeat (go_quiet (fail); try go_wp2)
         go_roundg k1
         case measure => have := HK1.out; omega
         case rel => exact ⟨(wrap64 (x5_1 + 1)), (by first | rfl | (simp; done) | (simp [*]; done)), H', ⟨by have := HK1.out; omega⟩, ⟨uK BK122⟩, ⟨sB⟩⟩
        rw [if_neg c10] at H
        have c10b0 : ((rd [a1_0, a1_1, a1_2, a1_3] x5_1) == (rd [a1_0, a1_1, a1_2, a1_3] (ji7))) = false := beq_eq_false_iff_ne.mpr c10
        have c10b1 : ((rd [a1_0, a1_1, a1_2, a1_3] x5_1) != (rd [a1_0, a1_1, a1_2, a1_3] (ji7))) = true := bne_iff_ne.mpr c10
        replace H := Option.bind_eq_some_iff.mp H
        obtain ⟨t131, A160, H⟩ := H
        replace H : (some ((rd [a1_0, a1_1, a1_2, a1_3] x5_1) == t131)) = some r := H
        have A16 := za.mk A160
        clear A160
        obtain rfl := Option.some.inj H
        have p17 : 0 ≤ (x5_1 : Int) := of_decide_eq_true (by first | (with_reducible assumption) | assumption)
        have q17 : x5_1 < (4 : Int) := of_decide_eq_true (by first | (with_reducible assumption) | assumption)
        replace p17 := eq_true p17
        replace q17 := eq_true q17
        obtain ⟨hcz18_0, hcz18_1, hcz18_2, hcz18_3⟩ := xc4 BK122
        obtain ⟨hfz18_0, hfz18_1, hfz18_2, hfz18_3⟩ := xf4 BK122
        have hx19_0 : wr.cell? ⟨gb122, (x5_1).toNat, none⟩ = some (.int .i8 (rd [a1_0, a1_1, a1_2, a1_3] x5_1)) := (zh BK122.out _).trans (by rcases (show (x5_1 : Int) = 0 ∨ (x5_1 : Int) = 1 ∨ (x5_1 : Int) = 2 ∨ (x5_1 : Int) = 3 by have hp_ : 0 ≤ (x5_1 : Int) := of_decide_eq_true (by first | (with_reducible assumption) | assumption); have hq_ : x5_1 < (4 : Int) := of_decide_eq_true (by first | (with_reducible assumption) | assumption); omega) with h_ | h_ | h_ | h_ <;> rw [h_] <;> rfl)
        have p20 : 0 ≤ ((ji7) : Int) := of_decide_eq_true (by first | (with_reducible assumption) | assumption)
        have q20 : (ji7) < (4 : Int) := of_decide_eq_true (by first | (with_reducible assumption) | assumption)
        replace p20 := eq_true p20
        replace q20 := eq_true q20
        have hx21_0 : wr.cell? ⟨gb122, ((ji7)).toNat, none⟩ = some (.int .i8 (rd [a1_0, a1_1, a1_2, a1_3] (ji7))) := (zh BK122.out _).trans (by rcases (show ((ji7) : Int) = 0 ∨ ((ji7) : Int) = 1 ∨ ((ji7) : Int) = 2 ∨ ((ji7) : Int) = 3 by have hp_ : 0 ≤ ((ji7) : Int) := of_decide_eq_true (by first | (with_reducible assumption) | assumption); have hq_ : (ji7) < (4 : Int) := of_decide_eq_true (by first | (with_reducible assumption) | assumption); omega) with h_ | h_ | h_ | h_ <;> rw [h_] <;> rfl)
        have p22 : 0 ≤ (x5_1 : Int) := of_decide_eq_true (by first | (with_reducible assumption) | assumption)
        have q22 : x5_1 < (4 : Int) := of_decide_eq_true (by first | (with_reducible assumption) | assumption)
        replace p22 := eq_true p22
        replace q22 := eq_true q22
        have hx23_0 : wr.cell? ⟨gb122, (x5_1).toNat, none⟩ = some (.int .i8 (rd [a1_0, a1_1, a1_2, a1_3] x5_1)) := (zh BK122.out _).trans (by rcases (show (x5_1 : Int) = 0 ∨ (x5_1 : Int) = 1 ∨ (x5_1 : Int) = 2 ∨ (x5_1 : Int) = 3 by have hp_ : 0 ≤ (x5_1 : Int) := of_decide_eq_true (by first | (with_reducible assumption) | assumption); have hq_ : x5_1 < (4 : Int) := of_decide_eq_true (by first | (with_reducible assumption) | assumption); omega) with h_ | h_ | h_ | h_ <;> rw [h_] <;> rfl)
        have p24 : 0 ≤ ((ji7) : Int) := of_decide_eq_true (by first | (with_reducible assumption) | assumption)
        have q24 : (ji7) < (4 : Int) := of_decide_eq_true (by first | (with_reducible assumption) | assumption)
        replace p24 := eq_true p24
        replace q24 := eq_true q24
        have hx25_0 : wr.cell? ⟨gb122, ((ji7)).toNat, none⟩ = some (.int .i8 (rd [a1_0, a1_1, a1_2, a1_3] (ji7))) := (zh BK122.out _).trans (by rcases (show ((ji7) : Int) = 0 ∨ ((ji7) : Int) = 1 ∨ ((ji7) : Int) = 2 ∨ ((ji7) : Int) = 3 by have hp_ : 0 ≤ ((ji7) : Int) := of_decide_eq_true (by first | (with_reducible assumption) | assumption); have hq_ : (ji7) < (4 : Int) := of_decide_eq_true (by first | (with_reducible assumption) | assumption); omega) with h_ | h_ | h_ | h_ <;> rw [h_] <;> rfl)
        go_wp2_with (first | (go_at_call 93; (with_reducible refine (spec_l04Next.calls (rd [a1_0, a1_1, a1_2, a1_3] (ji7)) t131 _ A16.out).mono ?_); rintro e w' ⟨rfl, ⟨nd, rfl⟩⟩; (try first | exact ⟨rfl, _, World.drewN_drewN _ _ _⟩ | exact ⟨rfl, _, Eq.trans (World.drewN_drewN _ _ _) (congrArg (World.drewN _) (Nat.add_assoc _ _ _))⟩)))
        repeat (go_quiet (first | (go_at_call 93; (with_reducible refine (spec_l04Next.calls (rd [a1_0, a1_1, a1_2, a1_3] (ji7)) t131 _ A16.out).mono ?_); rintro e w' ⟨rfl, ⟨nd, rfl⟩⟩; (try first | exact ⟨rfl, _, World.drewN_drewN _ _ _⟩ | exact ⟨rfl, _, Eq.trans (World.drewN_drewN _ _ _) (congrArg (World.drewN _) (Nat.add_assoc _ _ _))⟩))); try go_wp2_with (first | (go_at_call 93; (with_reducible refine (spec_l04Next.calls (rd [a1_0, a1_1, a1_2, a1_3] (ji7)) t131 _ A16.out).mono ?_); rintro e w' ⟨rfl, ⟨nd, rfl⟩⟩; (try first | exact ⟨rfl, _, World.drewN_drewN _ _ _⟩ | exact ⟨rfl, _, Eq.trans (World.drewN_drewN _ _ _) (congrArg (World.drewN _) (Nat.add_assoc _ _ _))⟩))))
        go_ret
        exact ⟨by first | rfl | (simp [zk, zj] <;> rfl) | (simp only [← hji7]; first | rfl | (simp [zk, zj] <;> rfl)) | (simp [*, zk, zj] <;> rfl), sB⟩
       rw [if_neg c9] at H
       exact absurd H (by simp)
      rw [if_neg c8] at H
      exact absurd H (by simp)
     rw [if_neg c6] at H
     exact absurd H (by simp)
    rw [if_neg c5] at H
    exact absurd H (by simp)
   rw [if_neg c4] at H
   have c4b0 : decide (x5_1 < a0) = false := decide_eq_false c4
   clear c4
   obtain rfl := Option.some.inj H
   go_wp2
   repeat (go_quiet (fail); try go_wp2)
   go_ret
   exact ⟨by first | rfl | (simp [zk, zj] <;> rfl) | (simp [*, zk, zj] <;> rfl), sB⟩

/-! ### spec_l04NextWord: function 55 -/
def spec_l04NextWord.l0 : Nat → Int → Int → Int → Int → Int → Int → Option (Int × Int × Int × Int)
 | 0, _, _, _, _, _, _ => none
 | k + 1, x0, x5, x133000, x133001, x133002, x133003 => if x5 < x0 then (if 0 ≤ x5 then (if x5 < 4 then ((spec_l04Next.f (rd [x133000, x133001, x133002, x133003] x5)).bind fun t136 => (spec_l04NextWord.l0 k x0 (wrap64 (x5 + 1)) (zu x5 0 t136 x133000) (zu x5 1 t136 x133001) (zu x5 2 t136 x133002) (zu x5 3 t136 x133003))) else (none)) else (none)) else (some (x133000, x133001, x133002, x133003))
def spec_l04NextWord.f (k : Nat) (a0 : Int) (a1_0 : Int) (a1_1 : Int) (a1_2 : Int) (a1_3 : Int) : Option (Int × Int × Int × Int) := spec_l04NextWord.l0 k a0 0 a1_0 a1_1 a1_2 a1_3
set_option maxHeartbeats 8000000 in
set_option maxRecDepth 100000 in
theorem spec_l04NextWord.calls (k : Nat) (a0 : Int) (a1_0 : Int) (a1_1 : Int) (a1_2 : Int) (a1_3 : Int) (r1 : Int) (r2 : Int) (r3 : Int) (r4 : Int) (w : World) (h : spec_l04NextWord.f k a0 a1_0 a1_1 a1_2 a1_3 = some (r1, r2, r3, r4)) :
  Calls Try.prog 55 #[.int .i64 a0, .agg #[.int .i8 a1_0, .int .i8 a1_1, .int .i8 a1_2, .int .i8 a1_3]] w fun e w' => e = .returned (.agg #[.int .i8 r1, .int .i8 r2, .int .i8 r3, .int .i8 r4]) ∧ Below w.heap.size w w' := by
 have hu43 := Try.underlying43
 have HB := za.mk (Below.refl w.heap.size w)
 have H : (spec_l04NextWord.l0 k a0 0 a1_0 a1_1 a1_2 a1_3) = some (r1, r2, r3, r4) := h
 clear h
 have H' := za.mk H
 clear H
 go_enter Try.func55, Try.ntmps55
 go_wp2_with (first | ((with_reducible refine zn (N := 3) rfl ?_); refine bx (N := 3) #[.int .i8 a1_0, .int .i8 a1_1, .int .i8 a1_2, .int .i8 a1_3] 43 rfl ?_; intro gb132 hg w3 hbox hb; have BK132 := za.mk hbox; have GW132 := gB hg; have GE132 := GW132; replace HB := za.mk (ze sB hb); clear hb hbox hg) | ((with_reducible refine zn (N := 4) rfl ?_); refine bx (N := 4) #[.int .i8 0, .int .i8 0, .int .i8 0, .int .i8 0] 43 rfl ?_; intro gb133 hg w4 hbox hb; have BK133 := za.mk hbox; have GW133 := gB hg; have GE133 := GW133; have NB132_133 := nK hg BK132; have NB133_132 := za.mk NB132_133.out.symm; replace BK132 := dK BK132 hb; replace HB := za.mk (ze sB hb); clear hb hbox hg))
 go_loopg [5] k (fun kq v5 w' => ∃ (x5_1 : Int) (x133000_1 : Int) (x133001_1 : Int) (x133002_1 : Int) (x133003_1 : Int), v5 = .int .i64 x5_1 ∧ za (spec_l04NextWord.l0 kq a0 x5_1 x133000_1 x133001_1 x133002_1 x133003_1 = some (r1, r2, r3, r4)) ∧ za (kq ≤ k) ∧ za (w'.heap[gb132]? = some (.cells #[.int .i8 x133000_1, .int .i8 x133001_1, .int .i8 x133002_1, .int .i8 x133003_1] 43 (0, 0))) ∧ za (w'.heap[gb133]? = some (.cells #[.int .i8 0, .int .i8 0, .int .i8 0, .int .i8 0] 43 (0, 0))) ∧ za (Below w.heap.size w w'))
 case atStart => exact ⟨(0), (a1_0), (a1_1), (a1_2), (a1_3), (by first | rfl | (simp; done) | (simp [*]; done)), H', ⟨Nat.le_refl _⟩, ⟨uK BK132⟩, ⟨uK BK133⟩, ⟨sB⟩⟩
 case round =>
  clear H'
  try clear p2
  obtain ⟨x5_1, x133000_1, x133001_1, x133002_1, x133003_1, rfl, HA, HK1, BK132, BK133, HB⟩ := hrel
  cases gk with
  | zero => exact absurd HA.out (by simp [spec_l04NextWord.l0])
  | succ k1 =>
   have H := HA.out
   clear HA
   simp only [spec_l04NextWord.l0] at H
   by_cases c5 : x5_1 < a0
   ·rw [if_pos c5] at H
    have c5b0 : decide (x5_1 < a0) = true := decide_eq_true c5
    clear c5
    by_cases c6 : 0 ≤ x5_1
    ·rw [if_pos c6] at H
     have c6b0 : decide (0 ≤ x5_1) = true := decide_eq_true c6
     clear c6
     by_cases c7 : x5_1 < 4
     ·rw [if_pos c7] at H
      have c7b0 : decide (x5_1 < 4) = true := decide_eq_true c7
      clear c7
      replace H := Option.bind_eq_some_iff.mp H
      obtain ⟨t136, A80, H⟩ := H
      replace H : (spec_l04NextWord.l0 k1 a0 (wrap64 (x5_1 + 1)) (zu x5_1 0 t136 x133000_1) (zu x5_1 1 t136 x133001_1) (zu x5_1 2 t136 x133002_1) (zu x5_1 3 t136 x133003_1)) = some (r1, r2, r3, r4) := H
      have A8 := za.mk A80
      clear A80
      have H' := za.mk H
      clear H
      have p9 : 0 ≤ (x5_1 : Int) := of_decide_eq_true (by first | (with_reducible assumption) | assumption)
      have q9 : x5_1 < (4 : Int) := of_decide_eq_true (by first | (with_reducible assumption) | assumption)
      replace p9 := eq_true p9
      replace q9 := eq_true q9
      have hnb10 := NB132_133.out
      have hnc10 := NB133_132.out
      obtain ⟨hcz11_0, hcz11_1, hcz11_2, hcz11_3⟩ := xc4 BK132
      obtain ⟨hfz11_0, hfz11_1, hfz11_2, hfz11_3⟩ := xf4 BK132
      have hx12_0 : wr.cell? ⟨gb132, (x5_1).toNat, none⟩ = some (.int .i8 (rd [x133000_1, x133001_1, x133002_1, x133003_1] x5_1)) := (zh BK132.out _).trans (by rcases (show (x5_1 : Int) = 0 ∨ (x5_1 : Int) = 1 ∨ (x5_1 : Int) = 2 ∨ (x5_1 : Int) = 3 by have hp_ : 0 ≤ (x5_1 : Int) := of_decide_eq_true (by first | (with_reducible assumption) | assumption); have hq_ : x5_1 < (4 : Int) := of_decide_eq_true (by first | (with_reducible assumption) | assumption); omega) with h_ | h_ | h_ | h_ <;> rw [h_] <;> rfl)
      go_wp2_with (first | ((with_reducible refine zo (f := 93) rfl ?_); refine gz (some 15) Try.func93 #[.int .i8 (rd [x133000_1, x133001_1, x133002_1, x133003_1] x5_1)] rfl rfl ?_; (with_reducible refine (spec_l04Next.calls (rd [x133000_1, x133001_1, x133002_1, x133003_1] x5_1) t136 _ A8.out).mono ?_); rintro e w' ⟨rfl, ⟨nd, rfl⟩⟩; refine ⟨_, rfl, ?_⟩; have p13 : 0 ≤ (x5_1 : Int) := of_decide_eq_true (by first | (with_reducible assumption) | assumption); have q13 : x5_1 < (4 : Int) := of_decide_eq_true (by first | (with_reducible assumption) | assumption); replace p13 := eq_true p13; replace q13 := eq_true q13) | ((with_reducible refine zbb (t := 25) (p := 16) rfl ?_); have hx14_0 : wr.cell? ⟨gb132, (x5_1).toNat, none⟩ = some (.int .i8 (rd [x133000_1, x133001_1, x133002_1, x133003_1] x5_1)) := (zh BK132.out _).trans (by rcases (show (x5_1 : Int) = 0 ∨ (x5_1 : Int) = 1 ∨ (x5_1 : Int) = 2 ∨ (x5_1 : Int) = 3 by have hp_ : 0 ≤ (x5_1 : Int) := of_decide_eq_true (by first | (with_reducible assumption) | assumption); have hq_ : x5_1 < (4 : Int) := of_decide_eq_true (by first | (with_reducible assumption) | assumption); omega) with h_ | h_ | h_ | h_ <;> rw [h_] <;> rfl); have hfz14_0 := zaa BK132.out ((x5_1).toNat); refine zza (t := 25) (p := 16) (v := ?vo_w15) (w1 := ((wr.drewN nd).setCell ⟨gb132, (x5_1).toNat, none⟩ (.int .i8 t136))) ?hg ?ho ?hn ?hr ?_; (case ho => rfl); (case hg => rfl); (case hn => rfl); (case hr => first | (go_simp; done) | (go_simp; rfl)); intro w15 hw; have n0_ : za (w15.heap[gb132]? = some (.cells #[.int .i8 (zu x5_1 0 t136 x133000_1), .int .i8 (zu x5_1 1 t136 x133001_1), .int .i8 (zu x5_1 2 t136 x133002_1), .int .i8 (zu x5_1 3 t136 x133003_1)] 43 (0, 0))) := ⟨(by rw [hw]; exact (by (with_reducible repeat (first | refine zc ?_ _ | refine zd ?_ | refine zb ?_ _)); refine zl (cs := #[.int .i8 x133000_1, .int .i8 x133001_1, .int .i8 x133002_1, .int .i8 x133003_1]) ?_ ((x5_1).toNat) _ (by rcases (show (x5_1 : Int) = 0 ∨ (x5_1 : Int) = 1 ∨ (x5_1 : Int) = 2 ∨ (x5_1 : Int) = 3 by have hp_ : 0 ≤ (x5_1 : Int) := of_decide_eq_true (by first | (with_reducible assumption) | assumption); have hq_ : x5_1 < (4 : Int) := of_decide_eq_true (by first | (with_reducible assumption) | assumption); omega) with h_ | h_ | h_ | h_ <;> rw [h_] <;> rfl); (with_reducible repeat (first | refine zc ?_ _ | refine zd ?_ | refine zb ?_ _)); exact BK132.out))⟩; have n1_ : za (w15.heap[gb133]? = some (.cells #[.int .i8 0, .int .i8 0, .int .i8 0, .int .i8 0] 43 (0, 0))) := ⟨(by rw [hw]; exact (by (with_reducible repeat (first | refine zc ?_ _ | refine zd ?_ | refine zb ?_ _)); refine zm ?_ NB133_132.out _; (with_reducible repeat (first | refine zc ?_ _ | refine zd ?_ | refine zb ?_ _)); exact BK133.out))⟩; have n2_ : za (Below w.heap.size w w15) := ⟨(by rw [hw]; exact sB)⟩; clear hw; clear BK132; clear BK133; clear HB; have BK132 := n0_; have BK133 := n1_; have HB := n2_; clear n0_ n1_ n2_))
      go_roundg k1
      case measure => have := HK1.out; omega
      case rel => exact ⟨(wrap64 (x5_1 + 1)), ((zu x5_1 0 t136 x133000_1)), ((zu x5_1 1 t136 x133001_1)), ((zu x5_1 2 t136 x133002_1)), ((zu x5_1 3 t136 x133003_1)), (by first | rfl | (simp; done) | (simp [*]; done)), H', ⟨by have := HK1.out; omega⟩, ⟨uK BK132⟩, ⟨uK BK133⟩, ⟨sB⟩⟩
     rw [if_neg c7] at H
     exact absurd H (by simp)
    rw [if_neg c6] at H
    exact absurd H (by simp)
   rw [if_neg c5] at H
   have c5b0 : decide (x5_1 < a0) = false := decide_eq_false c5
   clear c5
   simp only [Option.some.injEq, Prod.mk.injEq] at H
   obtain ⟨rfl, rfl, rfl, rfl⟩ := H
   have hnb16 := NB132_133.out
   have hnc16 := NB133_132.out
   obtain ⟨hcz17_0, hcz17_1, hcz17_2, hcz17_3⟩ := xc4 BK132
   obtain ⟨hfz17_0, hfz17_1, hfz17_2, hfz17_3⟩ := xf4 BK132
   obtain ⟨hcz18_0, hcz18_1, hcz18_2, hcz18_3⟩ := xc4 BK133
   obtain ⟨hfz18_0, hfz18_1, hfz18_2, hfz18_3⟩ := xf4 BK133
   go_wp2
   refine bodyPost_ret (results_cell_row rfl _ _ gb133 43 #[.int .i8 x133000_1, .int .i8 x133001_1, .int .i8 x133002_1, .int .i8 x133003_1] (0, 0) _ rfl (by (with_reducible repeat (first | refine zc ?_ _ | refine zd ?_ | refine zb ?_ _)); refine zl (cs := #[.int .i8 x133000_1, .int .i8 x133001_1, .int .i8 x133002_1, .int .i8 0]) ?_ 3 _ rfl; (with_reducible repeat (first | refine zc ?_ _ | refine zd ?_ | refine zb ?_ _)); refine zl (cs := #[.int .i8 x133000_1, .int .i8 x133001_1, .int .i8 0, .int .i8 0]) ?_ 2 _ rfl; (with_reducible repeat (first | refine zc ?_ _ | refine zd ?_ | refine zb ?_ _)); refine zl (cs := #[.int .i8 x133000_1, .int .i8 0, .int .i8 0, .int .i8 0]) ?_ 1 _ rfl; (with_reducible repeat (first | refine zc ?_ _ | refine zd ?_ | refine zb ?_ _)); refine zl (cs := #[.int .i8 0, .int .i8 0, .int .i8 0, .int .i8 0]) ?_ 0 _ rfl; (with_reducible repeat (first | refine zc ?_ _ | refine zd ?_ | refine zb ?_ _)); exact BK133.out) Try.underlying43 rfl (by kernel_rfl)) rfl ?_
   exact ⟨by first | rfl | (simp [zk, zj] <;> rfl) | (simp [*, zk, zj] <;> rfl), sB⟩

end Go.Proofs.Ytmfbcklaomigaaa.N
