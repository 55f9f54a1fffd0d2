-- Written by wip/tools/myprint.py, a program of this session, by way of the kit's print.
import Derived.Test.YtmfbcklaomigaaaNx0
import Derived.Test.YtmfbcklaomigaaaNx2
import Derived.Test.YtmfbcklaomigaaaNx7
import Derived.Test.YtmfbcklaomigaaaLPrN
namespace Go.Proofs.Ytmfbcklaomigaaa.N
open Go.RowKit Go.Proofs.YtmfbcklaomigaaaW.PrintWords Go.Proofs.YtmfbcklaomigaaaW.PrintLast Go.Proofs.YtmfbcklaomigaaaW.PrintMore
attribute [local go_sem] zqa zpa zwa zxa zla zka zra zta   -- for this text's walks alone
set_option linter.unusedVariables false
set_option linter.unusedSimpArgs false

/-! ### spec_P6Fixed: function 14 -/
def spec_P6Fixed.f (k : Nat) (l0 : List Int) : Option (Int × Int × (List (S43))) := (spec_l00From.f l0).bind fun bt203 => ((spec_l04Drawn.f k bt203.1 bt203.2.1 bt203.2.2).bind fun bt207 => (some (bt207.1, bt207.2.1, bt207.2.2.1)))
set_option maxHeartbeats 8000000 in
set_option maxRecDepth 100000 in
theorem spec_P6Fixed.calls (k : Nat) (A0 : Option Addr) (c0 : Nat) (l0 : List Int) (r1 : Int) (r2 : Int) (r3 : List (S43)) (w : World) (hr0 : Kd.C (Kd.int .u8) w A0 l0.length l0) (hc0 : l0.length ≤ c0) (h : spec_P6Fixed.f k l0 = some (r1, r2, r3)) :
  Calls Try.prog 14 #[.slice A0 l0.length c0] w fun e w' => ∃ v2_ : Value, e = .returned (.agg #[.int .i8 r1, .int .i8 r2, v2_]) ∧ Kd.R k43 43 w' w.heap.size (fun _ => True) v2_ r3 ∧ Below w.heap.size w w' := by
 have hu28 := Try.underlying28
 have HR0 := za.mk hr0
 have HC0 := za.mk hc0
 clear hr0 hc0
 have HB := za.mk (Below.refl w.heap.size w)
 have H : ((spec_l00From.f l0).bind fun bt203 => ((spec_l04Drawn.f k bt203.1 bt203.2.1 bt203.2.2).bind fun bt207 => (some (bt207.1, bt207.2.1, bt207.2.2.1)))) = some (r1, r2, r3) := h
 clear h
 replace H := Option.bind_eq_some_iff.mp H
 obtain ⟨⟨t203, t204, t205⟩, A20, H⟩ := H
 replace H : ((spec_l04Drawn.f k t203 t204 t205).bind fun bt207 => (some (bt207.1, bt207.2.1, bt207.2.2.1))) = some (r1, r2, r3) := H
 have A2 := za.mk A20
 clear A20
 replace H := Option.bind_eq_some_iff.mp H
 obtain ⟨⟨t207, t208, t209, t212, t213⟩, A30, H⟩ := H
 replace H : (some (t207, t208, t209)) = some (r1, r2, r3) := H
 have A3 := za.mk A30
 clear A30
 simp only [Option.some.injEq, Prod.mk.injEq] at H
 obtain ⟨rfl, rfl, rfl⟩ := H
 go_enter Try.func14, Try.ntmps14
 go_wp2_with (first | ((with_reducible refine zn (N := 2) rfl ?_); refine bx (N := 2) #[.int .i8 0, .int .i8 0, .slice none 0 0] 28 rfl ?_; intro gb202 hg w4 hbox hb; have BK202 := za.mk hbox; have GW202 := gB hg; have GE202 := GW202; replace HB := za.mk (ze sB hb); clear hb hbox hg) | ((with_reducible refine zo (f := 39) rfl ?_); refine gz (some 4) Try.func39 #[.slice A0 l0.length c0] rfl rfl ?_; (with_reducible refine (spec_l00From.calls _ _ l0 t203 t204 t205 w _ ?side1 ?side2 ?side3 A2.out).mono ?_); (case side1 => repeat (first | (with_reducible first | exact HB.out | apply zw | apply zp | apply zt | refine zz ?_ GE202.out) | exact HB.out)); (case side2 => exact HR0.out); (case side3 => exact HC0.out); rintro e w5 ⟨g206, rfl, hi, hb, hb2⟩; refine ⟨_, rfl, ?_⟩; have HI206 := za.mk hi; have NB206_202 := za.mk (zg.ne_blk hi (zr (uK BK202) hb2) (by decide)); have NB202_206 := za.mk (Ne.symm (zg.ne_blk hi (zr (uK BK202) hb2) (by decide))); replace BK202 := za.mk (zr (uK BK202) hb2); replace HB := za.mk hb; try clear hb) | ((with_reducible refine zo (f := 58) rfl ?_); refine gz (some 5) Try.func58 #[.pointer (some ⟨g206, 0, none⟩)] rfl rfl ?_; (with_reducible refine (spec_l04Drawn.calls k g206 t203 t204 t205 t207 t208 t209 t212 t213 w _ ?side1 ?side2 A3.out).mono ?_); (case side1 => repeat (first | (with_reducible first | exact HI206.out | apply zg.alloc | apply zg.drewN | apply zg.drew | apply zg.set_1 | apply zg.set_2 | refine zg.far ?_ NB206_202.out _) | exact HI206.out)); (case side2 => repeat (first | (with_reducible first | exact HB.out | apply zw | apply zp | apply zt | refine zz ?_ (zg.ge HI206.out) | refine zz ?_ GE202.out) | exact HB.out)); rintro e w6 ⟨v210, rfl, ho0, hi, hb, hk⟩; refine ⟨_, rfl, ?_⟩; have HO211 := za.mk (Kd.R_lower ho0 (zv (by repeat (first | (with_reducible first | exact HB.out | apply zw | apply zp | apply zt | refine zz ?_ (zg.ge HI206.out) | refine zz ?_ GE202.out) | exact HB.out)))); replace BK202 := za.mk (zy.blk hk (g' := gb202) (o := .cells #[.int .i8 0, .int .i8 0, .slice none 0 0] 28 (0, 0)) (uK BK202) NB202_206.out (by simp)); replace HB := za.mk hb; replace HI206 := za.mk hi; try clear hb; have hnb7 := NB202_206.out; have hnc7 := NB206_202.out; obtain ⟨hcz8_0, hcz8_1, hcz8_2⟩ := xc3 BK202; obtain ⟨hfz8_0, hfz8_1, hfz8_2⟩ := xf3 BK202; obtain ⟨Ao9, co9, eo9⟩ := Kd.R_slice HO211.out; subst eo9))
 refine bodyPost_ret (results_cell_row rfl _ _ gb202 28 #[.int .i8 t207, .int .i8 t208, .slice Ao9 t209.length co9] (0, 0) _ rfl (by (with_reducible repeat (first | refine zc ?_ _ | refine zd ?_ | refine zb ?_ _)); refine zl (cs := #[.int .i8 t207, .int .i8 t208, .slice none 0 0]) ?_ 2 _ rfl; (with_reducible repeat (first | refine zc ?_ _ | refine zd ?_ | refine zb ?_ _)); refine zl (cs := #[.int .i8 t207, .int .i8 0, .slice none 0 0]) ?_ 1 _ rfl; (with_reducible repeat (first | refine zc ?_ _ | refine zd ?_ | refine zb ?_ _)); refine zl (cs := #[.int .i8 0, .int .i8 0, .slice none 0 0]) ?_ 0 _ rfl; (with_reducible repeat (first | refine zc ?_ _ | refine zd ?_ | refine zb ?_ _)); exact BK202.out) Try.underlying28 rfl (by kernel_rfl)) rfl ?_
 exact ⟨_, by first | rfl | (simp [zk, zj] <;> rfl) | (simp [*, zk, zj] <;> rfl), by (with_reducible repeat (first | apply Kd.R_alloc | apply Kd.R_drewN | apply Kd.R_drew)); exact Kd.R_mono (Kd.R_far (p := ⟨gb202, 2, none⟩) (Kd.R_far (p := ⟨gb202, 1, none⟩) (Kd.R_far (p := ⟨gb202, 0, none⟩) (Kd.R_types HO211.out BK202.out (by decide)) (fun _ hk => hk.2) (.int .i8 t207)) (fun _ hk => hk.2) (.int .i8 t208)) (fun _ hk => hk.2) (.slice Ao9 t209.length co9)) (fun _ hk => trivial), by repeat (first | (with_reducible first | exact HB.out | apply zw | apply zp | apply zt | refine zz ?_ (zg.ge HI206.out) | refine zz ?_ GE202.out) | exact HB.out)⟩

/-! ### impl_within: function 43 -/
def impl_within.f (a0 : Int) (a1 : Int) (a2 : Int) : Option (Bool) := if a1 ≤ a0 then (some (decide (a0 ≤ a2))) else (some false)
set_option maxHeartbeats 8000000 in
set_option maxRecDepth 100000 in
theorem impl_within.calls (a0 : Int) (a1 : Int) (a2 : Int) (r : Bool) (w : World) (h : impl_within.f a0 a1 a2 = some r) :
  Calls Try.prog 43 #[.int .i64 a0, .int .i64 a1, .int .i64 a2] w fun e w' => e = .returned (.bool r) ∧ zna w w' := by
 have H : (if a1 ≤ a0 then (some (decide (a0 ≤ a2))) else (some false)) = some r := h
 clear h
 by_cases c4 : a1 ≤ a0
 ·rw [if_pos c4] at H
  have c4b0 : decide (a1 ≤ a0) = true := decide_eq_true c4
  clear c4
  obtain rfl := Option.some.inj H
  go_enter Try.func43, Try.ntmps43
  go_wp2
  go_ret
  exact ⟨by first | rfl | (simp; done) | (simp [*]; done), by repeat (first | exact zna.refl _ | apply zna.step)⟩
 rw [if_neg c4] at H
 have c4b0 : decide (a1 ≤ a0) = false := decide_eq_false c4
 clear c4
 obtain rfl := Option.some.inj H
 go_enter Try.func43, Try.ntmps43
 go_wp2
 go_ret
 exact ⟨by first | rfl | (simp; done) | (simp [*]; done), by repeat (first | exact zna.refl _ | apply zna.step)⟩

/-! ### impl_areLetters: function 41 -/
def impl_areLetters.f (a0 : Int) : Option (Bool) := (impl_within.f a0 1 4).bind fun t214 => (some t214)
set_option maxHeartbeats 8000000 in
set_option maxRecDepth 100000 in
theorem impl_areLetters.calls (a0 : Int) (r : Bool) (w : World) (h : impl_areLetters.f a0 = some r) :
  Calls Try.prog 41 #[.int .i64 a0] w fun e w' => e = .returned (.bool r) ∧ zna w w' := by
 have H : ((impl_within.f a0 1 4).bind fun t214 => (some t214)) = some r := h
 clear h
 replace H := Option.bind_eq_some_iff.mp H
 obtain ⟨t214, A20, H⟩ := H
 replace H : (some t214) = some r := H
 have A2 := za.mk A20
 clear A20
 obtain rfl := Option.some.inj H
 go_enter Try.func41, Try.ntmps41
 go_wp2_with (first | ((with_reducible refine zo (f := 43) rfl ?_); refine gz (some 4) Try.func43 #[.int .i64 a0, .int .i64 1, .int .i64 4] rfl rfl ?_; (with_reducible refine (impl_within.calls a0 1 4 t214 _ A2.out).mono ?_); rintro e w' ⟨rfl, ⟨nd, rfl⟩⟩; refine ⟨_, rfl, ?_⟩))
 go_ret
 exact ⟨by first | rfl | (simp; done) | (simp [*]; done), by repeat (first | exact zna.refl _ | apply zna.step)⟩

/-! ### impl_isKind: function 42 -/
def impl_isKind.f (a0 : Int) : Option (Bool) := (impl_within.f a0 0 2).bind fun t215 => (some t215)
set_option maxHeartbeats 8000000 in
set_option maxRecDepth 100000 in
theorem impl_isKind.calls (a0 : Int) (r : Bool) (w : World) (h : impl_isKind.f a0 = some r) :
  Calls Try.prog 42 #[.int .i64 a0] w fun e w' => e = .returned (.bool r) ∧ zna w w' := by
 have H : ((impl_within.f a0 0 2).bind fun t215 => (some t215)) = some r := h
 clear h
 replace H := Option.bind_eq_some_iff.mp H
 obtain ⟨t215, A20, H⟩ := H
 replace H : (some t215) = some r := H
 have A2 := za.mk A20
 clear A20
 obtain rfl := Option.some.inj H
 go_enter Try.func42, Try.ntmps42
 go_wp2_with (first | ((with_reducible refine zo (f := 43) rfl ?_); refine gz (some 4) Try.func43 #[.int .i64 a0, .int .i64 0, .int .i64 2] rfl rfl ?_; (with_reducible refine (impl_within.calls a0 0 2 t215 _ A2.out).mono ?_); rintro e w' ⟨rfl, ⟨nd, rfl⟩⟩; refine ⟨_, rfl, ?_⟩))
 go_ret
 exact ⟨by first | rfl | (simp; done) | (simp [*]; done), by repeat (first | exact zna.refl _ | apply zna.step)⟩

/-! ### impl_Word_46: function 46 -/
def impl_Word_46.f (l0 : List (S43)) : Option (Int) := some (l0.length : Int)
set_option maxHeartbeats 8000000 in
set_option maxRecDepth 100000 in
theorem impl_Word_46.calls (A0 : Option Addr) (c0 : Nat) (l0 : List (S43)) (r : Int) (w : World) (hr0 : Kd.C k43 w A0 l0.length l0) (hc0 : l0.length ≤ c0) (h : impl_Word_46.f l0 = some r) :
  Calls Try.prog 46 #[.slice A0 l0.length c0] w fun e w' => e = .returned (.int .i64 r) ∧ zna w w' := by
 have HR0 := za.mk hr0
 have HC0 := za.mk hc0
 clear hr0 hc0
 have H : (some (l0.length : Int)) = some r := h
 clear h
 obtain rfl := Option.some.inj H
 go_enter Try.func46, Try.ntmps46
 go_wp2
 go_ret
 exact ⟨by first | rfl | (simp; done) | (simp [*]; done), by repeat (first | exact zna.refl _ | apply zna.step)⟩

-- NOT PRINTED: function 111 (impl_Word_111)

-- NOT PRINTED: function 94 (impl_Word_94)

/-! ### impl_ValidWord: function 78 -/
def impl_ValidWord.l0 : Nat → Int → Int → Int → Int → Int → Int → Option (Bool)
 | 0, _, _, _, _, _, _ => none
 | k + 1, x0, x11, x90011000, x90011001, x90011002, x90011003 => if x11 < 4 then (if 0 ≤ x11 then (if (rd [x90011000, x90011001, x90011002, x90011003] x11) < (-1) then (some false) else (if (rd [x90011000, x90011001, x90011002, x90011003] x11) > 1 then (some false) else (if x11 ≥ x0 then (if (rd [x90011000, x90011001, x90011002, x90011003] x11) = 0 then (impl_ValidWord.l0 k x0 (wrap64 (x11 + 1)) x90011000 x90011001 x90011002 x90011003) else (some false)) else (impl_ValidWord.l0 k x0 (wrap64 (x11 + 1)) x90011000 x90011001 x90011002 x90011003)))) else (none)) else (some true)
def impl_ValidWord.f (k : Nat) (a0 : Int) (a1_0 : Int) (a1_1 : Int) (a1_2 : Int) (a1_3 : Int) : Option (Bool) := (impl_areLetters.f a0).bind fun t217 => (if t217 = true then (impl_ValidWord.l0 k a0 0 a1_0 a1_1 a1_2 a1_3) else (some false))
set_option maxHeartbeats 8000000 in
set_option maxRecDepth 100000 in
theorem impl_ValidWord.calls (k : Nat) (a0 : Int) (a1_0 : Int) (a1_1 : Int) (a1_2 : Int) (a1_3 : Int) (r : Bool) (w : World) (h : impl_ValidWord.f k a0 a1_0 a1_1 a1_2 a1_3 = some r) :
  Calls Try.prog 78 #[.int .i64 a0, .agg #[.int .i8 a1_0, .int .i8 a1_1, .int .i8 a1_2, .int .i8 a1_3]] w fun e w' => e = .returned (.bool r) ∧ Below w.heap.size w w' := by
 have hu43 := Try.underlying43
 have HB := za.mk (Below.refl w.heap.size w)
 have H : ((impl_areLetters.f a0).bind fun t217 => (if t217 = true then (impl_ValidWord.l0 k a0 0 a1_0 a1_1 a1_2 a1_3) else (some false))) = some r := h
 clear h
 replace H := Option.bind_eq_some_iff.mp H
 obtain ⟨t217, A30, H⟩ := H
 replace H : (if t217 = true then (impl_ValidWord.l0 k a0 0 a1_0 a1_1 a1_2 a1_3) else (some false)) = some r := H
 have A3 := za.mk A30
 clear A30
 by_cases c4 : t217 = true
 ·subst c4
  have H1 : (impl_ValidWord.l0 k a0 0 a1_0 a1_1 a1_2 a1_3) = some r := by rw [if_pos rfl] at H; exact H
  clear H
  have H := H1
  clear H1
  have H' := za.mk H
  clear H
  go_enter Try.func78, Try.ntmps78
  go_wp2_with (first | ((with_reducible refine zn (N := 3) rfl ?_); refine bx (N := 3) #[.int .i8 a1_0, .int .i8 a1_1, .int .i8 a1_2, .int .i8 a1_3] 43 rfl ?_; intro gb216 hg w5 hbox hb; have BK216 := za.mk hbox; have GW216 := gB hg; have GE216 := GW216; replace HB := za.mk (ze sB hb); clear hb hbox hg) | ((with_reducible refine zo (f := 41) rfl ?_); refine gz (some 8) Try.func41 #[.int .i64 a0] rfl rfl ?_; (with_reducible refine (impl_areLetters.calls a0 true _ A3.out).mono ?_); rintro e w' ⟨rfl, ⟨nd, rfl⟩⟩; refine ⟨_, rfl, ?_⟩; obtain ⟨hcz6_0, hcz6_1, hcz6_2, hcz6_3⟩ := xc4 BK216; obtain ⟨hfz6_0, hfz6_1, hfz6_2, hfz6_3⟩ := xf4 BK216))
  go_loopg [11] k (fun kq v11 w' => ∃ (x11_1 : Int), v11 = .int .i64 x11_1 ∧ za (impl_ValidWord.l0 kq a0 x11_1 a1_0 a1_1 a1_2 a1_3 = some r) ∧ za (kq ≤ k) ∧ za (w'.heap[gb216]? = some (.cells #[.int .i8 a1_0, .int .i8 a1_1, .int .i8 a1_2, .int .i8 a1_3] 43 (0, 0))) ∧ za (Below w.heap.size w w'))
  case atStart => exact ⟨(0), (by first | rfl | (simp; done) | (simp [*]; done)), H', ⟨Nat.le_refl _⟩, ⟨uK BK216⟩, ⟨sB⟩⟩
  case round =>
   clear H'
   try clear p2
   try clear c4
   try clear hcz6_0 hcz6_1 hcz6_2 hcz6_3
   try clear hfz6_0 hfz6_1 hfz6_2 hfz6_3
   obtain ⟨x11_1, rfl, HA, HK1, BK216, HB⟩ := hrel
   cases gk with
   | zero => exact absurd HA.out (by simp [impl_ValidWord.l0])
   | succ k1 =>
    have H := HA.out
    clear HA
    simp only [impl_ValidWord.l0] at H
    by_cases c7 : x11_1 < 4
    ·rw [if_pos c7] at H
     have c7b0 : decide (x11_1 < 4) = true := decide_eq_true c7
     clear c7
     by_cases c8 : 0 ≤ x11_1
     ·rw [if_pos c8] at H
      have c8b0 : decide (0 ≤ x11_1) = true := decide_eq_true c8
      clear c8
      by_cases c9 : (rd [a1_0, a1_1, a1_2, a1_3] x11_1) < (-1)
      ·rw [if_pos c9] at H
       have c9b0 : decide ((rd [a1_0, a1_1, a1_2, a1_3] x11_1) < (-1)) = true := decide_eq_true c9
       clear c9
       obtain rfl := Option.some.inj H
       have hx10_0 : ∀ W_ : World, (Instr.index 43 (.agg #[.int .i8 a1_0, .int .i8 a1_1, .int .i8 a1_2, .int .i8 a1_3]) (.int .i64 x11_1)).run Try.prog W_ = .ok (.int .i8 (rd [a1_0, a1_1, a1_2, a1_3] x11_1)) W_ := by intro W_; rcases (show (x11_1 : Int) = 0 ∨ (x11_1 : Int) = 1 ∨ (x11_1 : Int) = 2 ∨ (x11_1 : Int) = 3 by have hp_ : 0 ≤ (x11_1 : Int) := of_decide_eq_true (by first | (with_reducible assumption) | assumption); have hq_ : x11_1 < (4 : Int) := of_decide_eq_true (by first | (with_reducible assumption) | assumption); omega) with h_ | h_ | h_ | h_ <;> rw [h_] <;> kernel_rfl
       go_wp2
       go_ret
       exact ⟨by first | rfl | (simp [zk, zj] <;> rfl) | (simp [*, zk, zj] <;> rfl), sB⟩
      rw [if_neg c9] at H
      have c9b0 : decide ((rd [a1_0, a1_1, a1_2, a1_3] x11_1) < (-1)) = false := decide_eq_false c9
      clear c9
      by_cases c11 : (rd [a1_0, a1_1, a1_2, a1_3] x11_1) > 1
      ·rw [if_pos c11] at H
       have c11b0 : decide (1 < (rd [a1_0, a1_1, a1_2, a1_3] x11_1)) = true := decide_eq_true c11
       clear c11
       obtain rfl := Option.some.inj H
       have hx12_0 : ∀ W_ : World, (Instr.index 43 (.agg #[.int .i8 a1_0, .int .i8 a1_1, .int .i8 a1_2, .int .i8 a1_3]) (.int .i64 x11_1)).run Try.prog W_ = .ok (.int .i8 (rd [a1_0, a1_1, a1_2, a1_3] x11_1)) W_ := by intro W_; rcases (show (x11_1 : Int) = 0 ∨ (x11_1 : Int) = 1 ∨ (x11_1 : Int) = 2 ∨ (x11_1 : Int) = 3 by have hp_ : 0 ≤ (x11_1 : Int) := of_decide_eq_true (by first | (with_reducible assumption) | assumption); have hq_ : x11_1 < (4 : Int) := of_decide_eq_true (by first | (with_reducible assumption) | assumption); omega) with h_ | h_ | h_ | h_ <;> rw [h_] <;> kernel_rfl
       go_wp2
       go_ret
       exact ⟨by first | rfl | (simp [zk, zj] <;> rfl) | (simp [*, zk, zj] <;> rfl), sB⟩
      rw [if_neg c11] at H
      have c11b0 : decide (1 < (rd [a1_0, a1_1, a1_2, a1_3] x11_1)) = false := decide_eq_false c11
      clear c11
      by_cases c13 : x11_1 ≥ a0
      ·rw [if_pos c13] at H
       have c13b0 : decide (a0 ≤ x11_1) = true := decide_eq_true c13
       clear c13
       by_cases c14 : (rd [a1_0, a1_1, a1_2, a1_3] x11_1) = 0
       ·rw [if_pos c14] at H
        have c14b0 : ((rd [a1_0, a1_1, a1_2, a1_3] x11_1) == 0) = true := beq_iff_eq.mpr c14
        have c14b1 : ((rd [a1_0, a1_1, a1_2, a1_3] x11_1) != 0) = false := bne_eq_false_iff_eq.mpr c14
        clear c14
        have H' := za.mk H
        clear H
        have hx15_0 : ∀ W_ : World, (Instr.index 43 (.agg #[.int .i8 a1_0, .int .i8 a1_1, .int .i8 a1_2, .int .i8 a1_3]) (.int .i64 x11_1)).run Try.prog W_ = .ok (.int .i8 (rd [a1_0, a1_1, a1_2, a1_3] x11_1)) W_ := by intro W_; rcases (show (x11_1 : Int) = 0 ∨ (x11_1 : Int) = 1 ∨ (x11_1 : Int) = 2 ∨ (x11_1 : Int) = 3 by have hp_ : 0 ≤ (x11_1 : Int) := of_decide_eq_true (by first | (with_reducible assumption) | assumption); have hq_ : x11_1 < (4 : Int) := of_decide_eq_true (by first | (with_reducible assumption) | assumption); omega) with h_ | h_ | h_ | h_ <;> rw [h_] <;> kernel_rfl
        go_wp2
        go_roundg k1
        case measure => have := HK1.out; omega
        case rel => exact ⟨(wrap64 (x11_1 + 1)), (by first | rfl | (simp; done) | (simp [*]; done)), H', ⟨by have := HK1.out; omega⟩, ⟨uK BK216⟩, ⟨sB⟩⟩
       rw [if_neg c14] at H
       have c14b0 : ((rd [a1_0, a1_1, a1_2, a1_3] x11_1) == 0) = false := beq_eq_false_iff_ne.mpr c14
       have c14b1 : ((rd [a1_0, a1_1, a1_2, a1_3] x11_1) != 0) = true := bne_iff_ne.mpr c14
       obtain rfl := Option.some.inj H
       have hx16_0 : ∀ W_ : World, (Instr.index 43 (.agg #[.int .i8 a1_0, .int .i8 a1_1, .int .i8 a1_2, .int .i8 a1_3]) (.int .i64 x11_1)).run Try.prog W_ = .ok (.int .i8 (rd [a1_0, a1_1, a1_2, a1_3] x11_1)) W_ := by intro W_; rcases (show (x11_1 : Int) = 0 ∨ (x11_1 : Int) = 1 ∨ (x11_1 : Int) = 2 ∨ (x11_1 : Int) = 3 by have hp_ : 0 ≤ (x11_1 : Int) := of_decide_eq_true (by first | (with_reducible assumption) | assumption); have hq_ : x11_1 < (4 : Int) := of_decide_eq_true (by first | (with_reducible assumption) | assumption); omega) with h_ | h_ | h_ | h_ <;> rw [h_] <;> kernel_rfl
       go_wp2
       go_ret
       exact ⟨by first | rfl | (simp [zk, zj] <;> rfl) | (simp [*, zk, zj] <;> rfl), sB⟩
      rw [if_neg c13] at H
      have c13b0 : decide (a0 ≤ x11_1) = false := decide_eq_false c13
      clear c13
      have H' := za.mk H
      clear H
      have hx17_0 : ∀ W_ : World, (Instr.index 43 (.agg #[.int .i8 a1_0, .int .i8 a1_1, .int .i8 a1_2, .int .i8 a1_3]) (.int .i64 x11_1)).run Try.prog W_ = .ok (.int .i8 (rd [a1_0, a1_1, a1_2, a1_3] x11_1)) W_ := by intro W_; rcases (show (x11_1 : Int) = 0 ∨ (x11_1 : Int) = 1 ∨ (x11_1 : Int) = 2 ∨ (x11_1 : Int) = 3 by have hp_ : 0 ≤ (x11_1 : Int) := of_decide_eq_true (by first | (with_reducible assumption) | assumption); have hq_ : x11_1 < (4 : Int) := of_decide_eq_true (by first | (with_reducible assumption) | assumption); omega) with h_ | h_ | h_ | h_ <;> rw [h_] <;> kernel_rfl
      go_wp2
      go_roundg k1
      case measure => have := HK1.out; omega
      case rel => exact ⟨(wrap64 (x11_1 + 1)), (by first | rfl | (simp; done) | (simp [*]; done)), H', ⟨by have := HK1.out; omega⟩, ⟨uK BK216⟩, ⟨sB⟩⟩
     rw [if_neg c8] at H
     exact absurd H (by simp)
    rw [if_neg c7] at H
    have c7b0 : decide (x11_1 < 4) = false := decide_eq_false c7
    clear c7
    obtain rfl := Option.some.inj H
    go_wp2
    go_ret
    exact ⟨by first | rfl | (simp [zk, zj] <;> rfl) | (simp [*, zk, zj] <;> rfl), sB⟩
 replace c4 := Bool.eq_false_iff.mpr c4
 subst c4
 have H1 : (some false) = some r := by rw [if_neg (show ¬ (false = true) by decide)] at H; exact H
 clear H
 have H := H1
 clear H1
 obtain rfl := Option.some.inj H
 go_enter Try.func78, Try.ntmps78
 go_wp2_with (first | ((with_reducible refine zn (N := 3) rfl ?_); refine bx (N := 3) #[.int .i8 a1_0, .int .i8 a1_1, .int .i8 a1_2, .int .i8 a1_3] 43 rfl ?_; intro gb216 hg w18 hbox hb; have BK216 := za.mk hbox; have GW216 := gB hg; have GE216 := GW216; replace HB := za.mk (ze sB hb); clear hb hbox hg) | ((with_reducible refine zo (f := 41) rfl ?_); refine gz (some 8) Try.func41 #[.int .i64 a0] rfl rfl ?_; (with_reducible refine (impl_areLetters.calls a0 false _ A3.out).mono ?_); rintro e w' ⟨rfl, ⟨nd, rfl⟩⟩; refine ⟨_, rfl, ?_⟩))
 go_ret
 exact ⟨by first | rfl | (simp [zk, zj] <;> rfl) | (simp [*, zk, zj] <;> rfl), sB⟩

/-! ### impl_ValidFixed_1: function 95 -/
def impl_ValidFixed_1.f (k : Nat) (a0_0 : Int) (a0_1 : Int) (a0_2 : Int) (a0_3 : Int) (a1_0 : Int) : Option (Bool) := (impl_ValidWord.f k a1_0 a0_0 a0_1 a0_2 a0_3).bind fun t220 => (some (!t220))
set_option maxHeartbeats 8000000 in
set_option maxRecDepth 100000 in
theorem impl_ValidFixed_1.calls (k : Nat) (a0_0 : Int) (a0_1 : Int) (a0_2 : Int) (a0_3 : Int) (g1 : Nat) (a1_0 : Int) (r : Bool) (w : World) (hb1 : w.heap[g1]? = some (.cells #[.int .i64 a1_0] 2 (0, 0))) (h : impl_ValidFixed_1.f k a0_0 a0_1 a0_2 a0_3 a1_0 = some r) :
  Calls Try.prog 95 #[.agg #[.int .i8 a0_0, .int .i8 a0_1, .int .i8 a0_2, .int .i8 a0_3], .pointer (some ⟨g1, 0, none⟩)] w fun e w' => e = .returned (.bool r) ∧ Below w.heap.size w w' := by
 have hu43 := Try.underlying43
 have BK1 := za.mk hb1
 clear hb1
 have HB := za.mk (Below.refl w.heap.size w)
 have H : ((impl_ValidWord.f k a1_0 a0_0 a0_1 a0_2 a0_3).bind fun t220 => (some (!t220))) = some r := h
 clear h
 replace H := Option.bind_eq_some_iff.mp H
 obtain ⟨t220, A30, H⟩ := H
 replace H : (some (!t220)) = some r := H
 have A3 := za.mk A30
 clear A30
 obtain rfl := Option.some.inj H
 go_enter Try.func95, Try.ntmps95
 go_wp2_with (first | ((with_reducible refine zn (N := 2) rfl ?_); refine bx (N := 2) #[.int .i8 a0_0, .int .i8 a0_1, .int .i8 a0_2, .int .i8 a0_3] 43 rfl ?_; intro gb219 hg w4 hbox hb; have BK219 := za.mk hbox; have GW219 := gB hg; have GE219 := GW219; have NB1_219 := nK hg BK1; have NB219_1 := za.mk (nK hg BK1).out.symm; replace BK1 := dK BK1 hb; replace HB := za.mk (ze sB hb); clear hb hbox hg; have hnb5 := NB1_219.out; have hnc5 := NB219_1.out; have hcz6_0 := xc1 BK1; have hfz6_0 := xf1 BK1; obtain ⟨hcz7_0, hcz7_1, hcz7_2, hcz7_3⟩ := xc4 BK219; obtain ⟨hfz7_0, hfz7_1, hfz7_2, hfz7_3⟩ := xf4 BK219) | ((with_reducible refine zo (f := 78) rfl ?_); refine gz (some 6) Try.func78 #[.int .i64 a1_0, .agg #[.int .i8 a0_0, .int .i8 a0_1, .int .i8 a0_2, .int .i8 a0_3]] rfl rfl ?_; (with_reducible refine (impl_ValidWord.calls k a1_0 a0_0 a0_1 a0_2 a0_3 t220 _ A3.out).mono ?_); rintro e w8 ⟨rfl, hb⟩; refine ⟨_, rfl, ?_⟩; replace BK1 := dK BK1 hb; replace BK219 := dK BK219 hb; replace HB := za.mk (ze sB hb); try clear hb))
 go_ret
 exact ⟨by first | rfl | (simp [zk, zj] <;> rfl) | (simp [*, zk, zj] <;> rfl), sB⟩

end Go.Proofs.Ytmfbcklaomigaaa.N
