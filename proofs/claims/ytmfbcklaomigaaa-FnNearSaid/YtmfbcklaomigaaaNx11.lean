-- Written by wip/tools/myprint.py, a program of this session, by way of the kit's print.
import Derived.Test.YtmfbcklaomigaaaNx0
import Derived.Test.YtmfbcklaomigaaaNx8
import Derived.Test.YtmfbcklaomigaaaNx10
import Derived.Test.YtmfbcklaomigaaaLPrN
namespace Go.Proofs.Ytmfbcklaomigaaa.N
open Go.RowKit Go.Proofs.YtmfbcklaomigaaaW.PrintWords Go.Proofs.YtmfbcklaomigaaaW.PrintLast Go.Proofs.YtmfbcklaomigaaaW.PrintMore
attribute [local go_sem] zqa zpa zwa zxa zla zka zra zta   -- for this text's walks alone
set_option linter.unusedVariables false
set_option linter.unusedSimpArgs false

/-! ### impl_Fixed_cases: function 61 -/
def impl_Fixed_cases.f (k : Nat) (a0_0 : Int) (a0_1 : Int) (l0_2 : List (S43)) : Option ((List (S38))) := (impl_Word_46.f l0_2).bind fun t247 => ((impl_casesOf.f k t247 a0_1 true).bind fun t248 => (some t248))
set_option maxHeartbeats 8000000 in
set_option maxRecDepth 100000 in
theorem impl_Fixed_cases.calls (k : Nat) (a0_0 : Int) (a0_1 : Int) (A0_2 : Option Addr) (c0_2 : Nat) (l0_2 : List (S43)) (r : List (S38)) (w : World) (hr0_2 : Kd.C k43 w A0_2 l0_2.length l0_2) (hc0_2 : l0_2.length ≤ c0_2) (h : impl_Fixed_cases.f k a0_0 a0_1 l0_2 = some r) :
  Calls Try.prog 61 #[.agg #[.int .i8 a0_0, .int .i8 a0_1, .slice A0_2 l0_2.length c0_2]] w fun e w' => ∃ v0_ : Value, e = .returned (v0_) ∧ Kd.R k38 38 w' w.heap.size (fun _ => True) v0_ r ∧ Below w.heap.size w w' := by
 have hu28 := Try.underlying28
 have HR0_2 := za.mk hr0_2
 have HC0_2 := za.mk hc0_2
 clear hr0_2 hc0_2
 have HB := za.mk (Below.refl w.heap.size w)
 have H : ((impl_Word_46.f l0_2).bind fun t247 => ((impl_casesOf.f k t247 a0_1 true).bind fun t248 => (some t248))) = some r := h
 clear h
 replace H := Option.bind_eq_some_iff.mp H
 obtain ⟨t247, A20, H⟩ := H
 replace H : ((impl_casesOf.f k t247 a0_1 true).bind fun t248 => (some t248)) = some r := H
 have A2 := za.mk A20
 clear A20
 replace H := Option.bind_eq_some_iff.mp H
 obtain ⟨t248, A30, H⟩ := H
 replace H : (some t248) = some r := H
 have A3 := za.mk A30
 clear A30
 obtain rfl := Option.some.inj H
 go_enter Try.func61, Try.ntmps61
 try go_wp2_with (first | ((with_reducible refine zn (N := 1) rfl ?_); refine bx (N := 1) #[.int .i8 a0_0, .int .i8 a0_1, .slice A0_2 l0_2.length c0_2] 28 rfl ?_; intro gb246 hg w4 hbox hb; have BK246 := za.mk hbox; have GW246 := gB hg; have GE246 := GW246; replace HB := za.mk (ze sB hb); clear hb hbox hg))
 have n0_ := za.mk (zd BK246.out)
 have n1_ := za.mk (zt HB.out)
 clear BK246
 clear HB
 have BK246 := n0_
 have HB := n1_
 clear n0_ n1_
 refine zbc (n := 7) (S := fun w' => w'.cell? ⟨gb246, 0, none⟩ = some (.int .i8 a0_0) ∧ w'.cell? ⟨gb246, 1, none⟩ = some (.int .i8 a0_1) ∧ w'.cell? ⟨gb246, 2, none⟩ = some (.slice A0_2 l0_2.length c0_2)) (ds := []) #[false, false, false, false, false, false, false] (by kernel_rfl) rfl rfl ⟨(zh BK246.out 0).trans rfl, (zh BK246.out 1).trans rfl, (zh BK246.out 2).trans rfl⟩ (fun hHeld => ?_)
 generalize w4.drew = w5 at BK246 HB hHeld ⊢
 refine zva (i := 0) (N := some 3) (v := ?_) (a' := ?_) #[true, false, false, false, false, false, false] rfl rfl (by kernel_rfl) (fun _ _ _ h => h) (Or.inl ⟨by rfl, ?_⟩) ?_ ?_
 rotate_left
 ·intro w'
  go_simp
  with_reducible rfl
 rotate_left
 ·simp only [Act.put, List.setIfInBounds_toArray, List.set_cons_zero, List.set_cons_succ, zda, zfa]
  rfl
 refine zva (i := 3) (N := some 6) (v := ?_) (a' := ?_) #[true, false, false, true, false, false, false] rfl rfl (by kernel_rfl) (fun _ _ _ h => h) (Or.inl ⟨by rfl, ?_⟩) ?_ ?_
 rotate_left
 ·intro w'
  go_simp
  with_reducible rfl
 rotate_left
 ·simp only [Act.put, List.setIfInBounds_toArray, List.set_cons_zero, List.set_cons_succ, zda, zfa]
  rfl
 refine take_ (i := 1) (N := some 4) (v := ?_) (a' := ?_) #[true, true, false, true, false, false, false] rfl rfl (by kernel_rfl) (fun _ _ _ h => h) (Or.inl ⟨by rfl, ?_⟩) hHeld ?_ ?_
 rotate_left
 ·rintro w' ⟨s0, s1, s2⟩
  go_simp
  with_reducible rfl
 rotate_left
 ·simp only [Act.put, List.setIfInBounds_toArray, List.set_cons_zero, List.set_cons_succ, zda, zfa]
  rfl
 refine take_ (i := 4) (N := some 7) (v := ?_) (a' := ?_) #[true, true, false, true, true, false, false] rfl rfl (by kernel_rfl) (fun _ _ _ h => h) (Or.inl ⟨by rfl, ?_⟩) hHeld ?_ ?_
 rotate_left
 ·rintro w' ⟨s0, s1, s2⟩
  go_simp
  with_reducible rfl
 rotate_left
 ·simp only [Act.put, List.setIfInBounds_toArray, List.set_cons_zero, List.set_cons_succ, zda, zfa]
  rfl
 refine one_ (i := 2) (N := some 5) #[true, true, true, true, true, false, false] rfl rfl (by kernel_rfl) (by decide) (fun K hK => ?_)
 refine zxb Try.func46 (by kernel_rfl) rfl #[.slice A0_2 l0_2.length c0_2] (by rfl) rfl rfl (by (try simp only [List.map_toArray, List.map_cons, List.map_nil]); first | done | rfl | (simp only [List.length_drop, List.length_take]; rfl)) ?_
 with_reducible refine (impl_Word_46.calls _ _ l0_2 t247 _ ?side1 ?side2 A2.out).mono ?_
 (case side1 => exact uC HR0_2 HB)
 (case side2 => exact HC0_2.out)
 rintro e w' ⟨rfl, ⟨nd, rfl⟩⟩
 refine ⟨_, rfl, ?_⟩
 refine hK.out _ _ ⟨(zh BK246.out 0).trans rfl, (zh BK246.out 1).trans rfl, (zh BK246.out 2).trans rfl⟩ (fun hHeld => ?_)
 clear hK K
 refine zub (a' := ?_) ?_ ?_
 rotate_left
 ·show Act.put _ (some 5) _ = _
  simp only [Act.put, List.setIfInBounds_toArray, List.set_cons_zero, List.set_cons_succ, zda, zfa]
  rfl
 refine one_ (i := 5) (N := some 8) #[true, true, true, true, true, true, false] rfl rfl (by kernel_rfl) (by decide) (fun K hK => ?_)
 refine zxb Try.func98 (by kernel_rfl) rfl #[.int .i64 t247, .int .i8 a0_1, .bool true] (by rfl) rfl rfl (by (try simp only [List.map_toArray, List.map_cons, List.map_nil]); first | done | rfl | (simp only [List.length_drop, List.length_take]; rfl)) ?_
 with_reducible refine (impl_casesOf.calls k t247 a0_1 true t248 _ A3.out).mono ?_
 rintro e w6 ⟨v249, rfl, ho0, hb⟩
 refine ⟨_, rfl, ?_⟩
 have n0_ := za.mk (Kd.R_lower ho0 (zv sB))
 have n1_ := dK BK246 hb
 have n2_ := za.mk (ze sB hb)
 clear BK246
 clear HB
 have HO250 := n0_
 have BK246 := n1_
 have HB := n2_
 clear n0_ n1_ n2_
 (try clear hb)
 (try clear hb2)
 (try clear hk)
 (try clear hi)
 (try clear ho0)
 refine hK.out _ _ ⟨(zh BK246.out 0).trans rfl, (zh BK246.out 1).trans rfl, (zh BK246.out 2).trans rfl⟩ (fun hHeld => ?_)
 clear hK K
 refine zub (a' := ?_) ?_ ?_
 rotate_left
 ·show Act.put _ (some 8) _ = _
  simp only [Act.put, List.setIfInBounds_toArray, List.set_cons_zero, List.set_cons_succ, zda, zfa]
  rfl
 refine zva (i := 6) (N := some 2) (v := ?_) (a' := ?_) #[true, true, true, true, true, true, true] rfl rfl (by kernel_rfl) (fun _ _ _ h => h) (Or.inl ⟨by rfl, ?_⟩) ?_ ?_
 rotate_left
 ·intro w'
  go_simp
  with_reducible rfl
 rotate_left
 ·simp only [Act.put, List.setIfInBounds_toArray, List.set_cons_zero, List.set_cons_succ, zda, zfa]
  rfl
 refine zjd (by kernel_rfl) ?_
 try go_wp2
 go_ret
 exact ⟨_, by first | rfl | (simp [zk, zj] <;> rfl) | (simp [*, zk, zj] <;> rfl), by (with_reducible repeat (first | apply Kd.R_alloc | apply Kd.R_drewN | apply Kd.R_drew)); exact HO250.out, sB⟩

/-! ### impl_OppositeWord: function 99 -/
def impl_OppositeWord.l0 : Nat → Int → Int → Int → Int → Int → Option (Int × Int × Int × Int)
 | 0, _, _, _, _, _ => none
 | k + 1, x4, x252000, x252001, x252002, x252003 => if x4 < 4 then (if 0 ≤ x4 then (impl_OppositeWord.l0 k (wrap64 (x4 + 1)) (zu x4 0 (IntKind.i8.wrap (-(rd [x252000, x252001, x252002, x252003] x4))) x252000) (zu x4 1 (IntKind.i8.wrap (-(rd [x252000, x252001, x252002, x252003] x4))) x252001) (zu x4 2 (IntKind.i8.wrap (-(rd [x252000, x252001, x252002, x252003] x4))) x252002) (zu x4 3 (IntKind.i8.wrap (-(rd [x252000, x252001, x252002, x252003] x4))) x252003)) else (none)) else (some (x252000, x252001, x252002, x252003))
def impl_OppositeWord.f (k : Nat) (a0_0 : Int) (a0_1 : Int) (a0_2 : Int) (a0_3 : Int) : Option (Int × Int × Int × Int) := impl_OppositeWord.l0 k 0 a0_0 a0_1 a0_2 a0_3
set_option maxHeartbeats 8000000 in
set_option maxRecDepth 100000 in
theorem impl_OppositeWord.calls (k : Nat) (a0_0 : Int) (a0_1 : Int) (a0_2 : Int) (a0_3 : Int) (r1 : Int) (r2 : Int) (r3 : Int) (r4 : Int) (w : World) (h : impl_OppositeWord.f k a0_0 a0_1 a0_2 a0_3 = some (r1, r2, r3, r4)) :
  Calls Try.prog 99 #[.agg #[.int .i8 a0_0, .int .i8 a0_1, .int .i8 a0_2, .int .i8 a0_3]] w fun e w' => e = .returned (.agg #[.int .i8 r1, .int .i8 r2, .int .i8 r3, .int .i8 r4]) ∧ Below w.heap.size w w' := by
 have hu43 := Try.underlying43
 have HB := za.mk (Below.refl w.heap.size w)
 have H : (impl_OppositeWord.l0 k 0 a0_0 a0_1 a0_2 a0_3) = some (r1, r2, r3, r4) := h
 clear h
 have H' := za.mk H
 clear H
 go_enter Try.func99, Try.ntmps99
 go_wp2_with (first | ((with_reducible refine zn (N := 1) rfl ?_); refine bx (N := 1) #[.int .i8 a0_0, .int .i8 a0_1, .int .i8 a0_2, .int .i8 a0_3] 43 rfl ?_; intro gb251 hg w2 hbox hb; have BK251 := za.mk hbox; have GW251 := gB hg; have GE251 := GW251; replace HB := za.mk (ze sB hb); clear hb hbox hg) | ((with_reducible refine zn (N := 2) rfl ?_); refine bx (N := 2) #[.int .i8 0, .int .i8 0, .int .i8 0, .int .i8 0] 43 rfl ?_; intro gb252 hg w3 hbox hb; have BK252 := za.mk hbox; have GW252 := gB hg; have GE252 := GW252; have NB251_252 := nK hg BK251; have NB252_251 := za.mk NB251_252.out.symm; replace BK251 := dK BK251 hb; replace HB := za.mk (ze sB hb); clear hb hbox hg))
 go_loopg [4] k (fun kq v4 w' => ∃ (x4_1 : Int) (x252000_1 : Int) (x252001_1 : Int) (x252002_1 : Int) (x252003_1 : Int), v4 = .int .i64 x4_1 ∧ za (impl_OppositeWord.l0 kq x4_1 x252000_1 x252001_1 x252002_1 x252003_1 = some (r1, r2, r3, r4)) ∧ za (kq ≤ k) ∧ za (w'.heap[gb251]? = some (.cells #[.int .i8 x252000_1, .int .i8 x252001_1, .int .i8 x252002_1, .int .i8 x252003_1] 43 (0, 0))) ∧ za (w'.heap[gb252]? = some (.cells #[.int .i8 0, .int .i8 0, .int .i8 0, .int .i8 0] 43 (0, 0))) ∧ za (Below w.heap.size w w'))
 case atStart => exact ⟨(0), (a0_0), (a0_1), (a0_2), (a0_3), (by first | rfl | (simp; done) | (simp [*]; done)), H', ⟨Nat.le_refl _⟩, ⟨uK BK251⟩, ⟨uK BK252⟩, ⟨sB⟩⟩
 case round =>
  clear H'
  try clear p2
  obtain ⟨x4_1, x252000_1, x252001_1, x252002_1, x252003_1, rfl, HA, HK1, BK251, BK252, HB⟩ := hrel
  cases gk with
  | zero => exact absurd HA.out (by simp [impl_OppositeWord.l0])
  | succ k1 =>
   have H := HA.out
   clear HA
   simp only [impl_OppositeWord.l0] at H
   by_cases c4 : x4_1 < 4
   ·rw [if_pos c4] at H
    have c4b0 : decide (x4_1 < 4) = true := decide_eq_true c4
    clear c4
    by_cases c5 : 0 ≤ x4_1
    ·rw [if_pos c5] at H
     have c5b0 : decide (0 ≤ x4_1) = true := decide_eq_true c5
     clear c5
     have H' := za.mk H
     clear H
     have p6 : 0 ≤ (x4_1 : Int) := of_decide_eq_true (by first | (with_reducible assumption) | assumption)
     have q6 : x4_1 < (4 : Int) := of_decide_eq_true (by first | (with_reducible assumption) | assumption)
     replace p6 := eq_true p6
     replace q6 := eq_true q6
     have hnb7 := NB251_252.out
     have hnc7 := NB252_251.out
     obtain ⟨hcz8_0, hcz8_1, hcz8_2, hcz8_3⟩ := xc4 BK251
     obtain ⟨hfz8_0, hfz8_1, hfz8_2, hfz8_3⟩ := xf4 BK251
     have hx9_0 : wr.cell? ⟨gb251, (x4_1).toNat, none⟩ = some (.int .i8 (rd [x252000_1, x252001_1, x252002_1, x252003_1] x4_1)) := (zh BK251.out _).trans (by rcases (show (x4_1 : Int) = 0 ∨ (x4_1 : Int) = 1 ∨ (x4_1 : Int) = 2 ∨ (x4_1 : Int) = 3 by have hp_ : 0 ≤ (x4_1 : Int) := of_decide_eq_true (by first | (with_reducible assumption) | assumption); have hq_ : x4_1 < (4 : Int) := of_decide_eq_true (by first | (with_reducible assumption) | assumption); omega) with h_ | h_ | h_ | h_ <;> rw [h_] <;> rfl)
     have p10 : 0 ≤ (x4_1 : Int) := of_decide_eq_true (by first | (with_reducible assumption) | assumption)
     have q10 : x4_1 < (4 : Int) := of_decide_eq_true (by first | (with_reducible assumption) | assumption)
     replace p10 := eq_true p10
     replace q10 := eq_true q10
     go_wp2_with (first | ((with_reducible refine zbb (t := 25) (p := 12) rfl ?_); have hx11_0 : wr.cell? ⟨gb251, (x4_1).toNat, none⟩ = some (.int .i8 (rd [x252000_1, x252001_1, x252002_1, x252003_1] x4_1)) := (zh BK251.out _).trans (by rcases (show (x4_1 : Int) = 0 ∨ (x4_1 : Int) = 1 ∨ (x4_1 : Int) = 2 ∨ (x4_1 : Int) = 3 by have hp_ : 0 ≤ (x4_1 : Int) := of_decide_eq_true (by first | (with_reducible assumption) | assumption); have hq_ : x4_1 < (4 : Int) := of_decide_eq_true (by first | (with_reducible assumption) | assumption); omega) with h_ | h_ | h_ | h_ <;> rw [h_] <;> rfl); have hfz11_0 := zaa BK251.out ((x4_1).toNat); refine zza (t := 25) (p := 12) (v := ?vo_w12) (w1 := (wr.setCell ⟨gb251, (x4_1).toNat, none⟩ (.int .i8 (IntKind.i8.wrap (-(rd [x252000_1, x252001_1, x252002_1, x252003_1] x4_1)))))) ?hg ?ho ?hn ?hr ?_; (case ho => rfl); (case hg => rfl); (case hn => rfl); (case hr => first | (go_simp; done) | (go_simp; rfl)); intro w12 hw; have n0_ : za (w12.heap[gb251]? = some (.cells #[.int .i8 (zu x4_1 0 (IntKind.i8.wrap (-(rd [x252000_1, x252001_1, x252002_1, x252003_1] x4_1))) x252000_1), .int .i8 (zu x4_1 1 (IntKind.i8.wrap (-(rd [x252000_1, x252001_1, x252002_1, x252003_1] x4_1))) x252001_1), .int .i8 (zu x4_1 2 (IntKind.i8.wrap (-(rd [x252000_1, x252001_1, x252002_1, x252003_1] x4_1))) x252002_1), .int .i8 (zu x4_1 3 (IntKind.i8.wrap (-(rd [x252000_1, x252001_1, x252002_1, x252003_1] x4_1))) x252003_1)] 43 (0, 0))) := ⟨(by rw [hw]; exact (by (with_reducible repeat (first | refine zc ?_ _ | refine zd ?_ | refine zb ?_ _)); refine zl (cs := #[.int .i8 x252000_1, .int .i8 x252001_1, .int .i8 x252002_1, .int .i8 x252003_1]) ?_ ((x4_1).toNat) _ (by rcases (show (x4_1 : Int) = 0 ∨ (x4_1 : Int) = 1 ∨ (x4_1 : Int) = 2 ∨ (x4_1 : Int) = 3 by have hp_ : 0 ≤ (x4_1 : Int) := of_decide_eq_true (by first | (with_reducible assumption) | assumption); have hq_ : x4_1 < (4 : Int) := of_decide_eq_true (by first | (with_reducible assumption) | assumption); omega) with h_ | h_ | h_ | h_ <;> rw [h_] <;> rfl); (with_reducible repeat (first | refine zc ?_ _ | refine zd ?_ | refine zb ?_ _)); exact BK251.out))⟩; have n1_ : za (w12.heap[gb252]? = some (.cells #[.int .i8 0, .int .i8 0, .int .i8 0, .int .i8 0] 43 (0, 0))) := ⟨(by rw [hw]; exact (by (with_reducible repeat (first | refine zc ?_ _ | refine zd ?_ | refine zb ?_ _)); refine zm ?_ NB252_251.out _; (with_reducible repeat (first | refine zc ?_ _ | refine zd ?_ | refine zb ?_ _)); exact BK252.out))⟩; have n2_ : za (Below w.heap.size w w12) := ⟨(by rw [hw]; exact sB)⟩; clear hw; clear BK251; clear BK252; clear HB; have BK251 := n0_; have BK252 := n1_; have HB := n2_; clear n0_ n1_ n2_))
     go_roundg k1
     case measure => have := HK1.out; omega
     case rel => exact ⟨(wrap64 (x4_1 + 1)), ((zu x4_1 0 (IntKind.i8.wrap (-(rd [x252000_1, x252001_1, x252002_1, x252003_1] x4_1))) x252000_1)), ((zu x4_1 1 (IntKind.i8.wrap (-(rd [x252000_1, x252001_1, x252002_1, x252003_1] x4_1))) x252001_1)), ((zu x4_1 2 (IntKind.i8.wrap (-(rd [x252000_1, x252001_1, x252002_1, x252003_1] x4_1))) x252002_1)), ((zu x4_1 3 (IntKind.i8.wrap (-(rd [x252000_1, x252001_1, x252002_1, x252003_1] x4_1))) x252003_1)), (by first | rfl | (simp; done) | (simp [*]; done)), H', ⟨by have := HK1.out; omega⟩, ⟨uK BK251⟩, ⟨uK BK252⟩, ⟨sB⟩⟩
    rw [if_neg c5] at H
    exact absurd H (by simp)
   rw [if_neg c4] at H
   have c4b0 : decide (x4_1 < 4) = false := decide_eq_false c4
   clear c4
   simp only [Option.some.injEq, Prod.mk.injEq] at H
   obtain ⟨rfl, rfl, rfl, rfl⟩ := H
   have hnb13 := NB251_252.out
   have hnc13 := NB252_251.out
   obtain ⟨hcz14_0, hcz14_1, hcz14_2, hcz14_3⟩ := xc4 BK251
   obtain ⟨hfz14_0, hfz14_1, hfz14_2, hfz14_3⟩ := xf4 BK251
   obtain ⟨hcz15_0, hcz15_1, hcz15_2, hcz15_3⟩ := xc4 BK252
   obtain ⟨hfz15_0, hfz15_1, hfz15_2, hfz15_3⟩ := xf4 BK252
   go_wp2
   refine bodyPost_ret (results_cell_row rfl _ _ gb252 43 #[.int .i8 x252000_1, .int .i8 x252001_1, .int .i8 x252002_1, .int .i8 x252003_1] (0, 0) _ rfl (by (with_reducible repeat (first | refine zc ?_ _ | refine zd ?_ | refine zb ?_ _)); refine zl (cs := #[.int .i8 x252000_1, .int .i8 x252001_1, .int .i8 x252002_1, .int .i8 0]) ?_ 3 _ rfl; (with_reducible repeat (first | refine zc ?_ _ | refine zd ?_ | refine zb ?_ _)); refine zl (cs := #[.int .i8 x252000_1, .int .i8 x252001_1, .int .i8 0, .int .i8 0]) ?_ 2 _ rfl; (with_reducible repeat (first | refine zc ?_ _ | refine zd ?_ | refine zb ?_ _)); refine zl (cs := #[.int .i8 x252000_1, .int .i8 0, .int .i8 0, .int .i8 0]) ?_ 1 _ rfl; (with_reducible repeat (first | refine zc ?_ _ | refine zd ?_ | refine zb ?_ _)); refine zl (cs := #[.int .i8 0, .int .i8 0, .int .i8 0, .int .i8 0]) ?_ 0 _ rfl; (with_reducible repeat (first | refine zc ?_ _ | refine zd ?_ | refine zb ?_ _)); exact BK252.out) Try.underlying43 rfl (by kernel_rfl)) rfl ?_
   exact ⟨by first | rfl | (simp [zk, zj] <;> rfl) | (simp [*, zk, zj] <;> rfl), sB⟩

/-! ### impl_Fixed_seen: function 62 -/
def impl_Fixed_seen.f (k : Nat) (a0_0 : Int) (a0_1 : Int) (l0_2 : List (S43)) (a1_0 : Int) (a1_1 : Bool) : Option (Int × Int × Int × Int) := if a1_0 < 0 then (some (0, 0, 0, 0)) else (if a1_1 = true then (if 0 ≤ a1_0 then (if a1_0 < (l0_2.length : Int) then (some ((zx l0_2 a1_0).f0, (zx l0_2 a1_0).f1, (zx l0_2 a1_0).f2, (zx l0_2 a1_0).f3)) else (none)) else (none)) else (if 0 ≤ a1_0 then (if a1_0 < (l0_2.length : Int) then ((impl_OppositeWord.f k ((zx l0_2 a1_0).f0) ((zx l0_2 a1_0).f1) ((zx l0_2 a1_0).f2) ((zx l0_2 a1_0).f3)).bind fun bt262 => (some (bt262.1, bt262.2.1, bt262.2.2.1, bt262.2.2.2))) else (none)) else (none)))
set_option maxHeartbeats 8000000 in
set_option maxRecDepth 100000 in
theorem impl_Fixed_seen.calls (k : Nat) (a0_0 : Int) (a0_1 : Int) (A0_2 : Option Addr) (c0_2 : Nat) (l0_2 : List (S43)) (a1_0 : Int) (a1_1 : Bool) (r1 : Int) (r2 : Int) (r3 : Int) (r4 : Int) (w : World) (hr0_2 : Kd.C k43 w A0_2 l0_2.length l0_2) (hc0_2 : l0_2.length ≤ c0_2) (h : impl_Fixed_seen.f k a0_0 a0_1 l0_2 a1_0 a1_1 = some (r1, r2, r3, r4)) :
  Calls Try.prog 62 #[.agg #[.int .i8 a0_0, .int .i8 a0_1, .slice A0_2 l0_2.length c0_2], .agg #[.int .i8 a1_0, .bool a1_1]] w fun e w' => e = .returned (.agg #[.int .i8 r1, .int .i8 r2, .int .i8 r3, .int .i8 r4]) ∧ Below w.heap.size w w' := by
 have hu28 := Try.underlying28
 have hu38 := Try.underlying38
 have hu43 := Try.underlying43
 have HR0_2 := za.mk hr0_2
 have HC0_2 := za.mk hc0_2
 clear hr0_2 hc0_2
 have HB := za.mk (Below.refl w.heap.size w)
 have H : (if a1_0 < 0 then (some (0, 0, 0, 0)) else (if a1_1 = true then (if 0 ≤ a1_0 then (if a1_0 < (l0_2.length : Int) then (some ((zx l0_2 a1_0).f0, (zx l0_2 a1_0).f1, (zx l0_2 a1_0).f2, (zx l0_2 a1_0).f3)) else (none)) else (none)) else (if 0 ≤ a1_0 then (if a1_0 < (l0_2.length : Int) then ((impl_OppositeWord.f k ((zx l0_2 a1_0).f0) ((zx l0_2 a1_0).f1) ((zx l0_2 a1_0).f2) ((zx l0_2 a1_0).f3)).bind fun bt262 => (some (bt262.1, bt262.2.1, bt262.2.2.1, bt262.2.2.2))) else (none)) else (none)))) = some (r1, r2, r3, r4) := h
 clear h
 by_cases c3 : a1_0 < 0
 ·rw [if_pos c3] at H
  have c3b0 : decide (a1_0 < 0) = true := decide_eq_true c3
  clear c3
  simp only [Option.some.injEq, Prod.mk.injEq] at H
  obtain ⟨rfl, rfl, rfl, rfl⟩ := H
  go_enter Try.func62, Try.ntmps62
  go_wp2_with (first | ((with_reducible refine zn (N := 2) rfl ?_); refine bx (N := 2) #[.int .i8 a0_0, .int .i8 a0_1, .slice A0_2 l0_2.length c0_2] 28 rfl ?_; intro gb257 hg w4 hbox hb; have BK257 := za.mk hbox; have GW257 := gB hg; have GE257 := GW257; replace HB := za.mk (ze sB hb); clear hb hbox hg) | ((with_reducible refine zn (N := 3) rfl ?_); refine bx (N := 3) #[.int .i8 a1_0, .bool a1_1] 38 rfl ?_; intro gb258 hg w5 hbox hb; have BK258 := za.mk hbox; have GW258 := gB hg; have GE258 := GW258; have NB257_258 := nK hg BK257; have NB258_257 := za.mk NB257_258.out.symm; replace BK257 := dK BK257 hb; replace HB := za.mk (ze sB hb); clear hb hbox hg) | ((with_reducible refine zn (N := 4) rfl ?_); refine bx (N := 4) #[.int .i8 0, .int .i8 0, .int .i8 0, .int .i8 0] 43 rfl ?_; intro gb259 hg w6 hbox hb; have BK259 := za.mk hbox; have GW259 := gB hg; have GE259 := GW259; have NB257_259 := nK hg BK257; have NB259_257 := za.mk NB257_259.out.symm; have NB258_259 := nK hg BK258; have NB259_258 := za.mk NB258_259.out.symm; replace BK257 := dK BK257 hb; replace BK258 := dK BK258 hb; replace HB := za.mk (ze sB hb); clear hb hbox hg; have hnb7 := NB258_257.out; have hnc7 := NB257_258.out; have hnb8 := NB258_259.out; have hnc8 := NB259_258.out; obtain ⟨hcz9_0, hcz9_1⟩ := xc2 BK258; obtain ⟨hfz9_0, hfz9_1⟩ := xf2 BK258; have hnb10 := NB259_257.out; have hnc10 := NB257_259.out; obtain ⟨hcz11_0, hcz11_1, hcz11_2, hcz11_3⟩ := xc4 BK259; obtain ⟨hfz11_0, hfz11_1, hfz11_2, hfz11_3⟩ := xf4 BK259))
  refine bodyPost_ret (results_cell_row rfl _ _ gb259 43 #[.int .i8 0, .int .i8 0, .int .i8 0, .int .i8 0] (0, 0) _ rfl (by (with_reducible repeat (first | refine zc ?_ _ | refine zd ?_ | refine zb ?_ _)); refine zl (cs := #[.int .i8 0, .int .i8 0, .int .i8 0, .int .i8 0]) ?_ 3 _ rfl; (with_reducible repeat (first | refine zc ?_ _ | refine zd ?_ | refine zb ?_ _)); refine zl (cs := #[.int .i8 0, .int .i8 0, .int .i8 0, .int .i8 0]) ?_ 2 _ rfl; (with_reducible repeat (first | refine zc ?_ _ | refine zd ?_ | refine zb ?_ _)); refine zl (cs := #[.int .i8 0, .int .i8 0, .int .i8 0, .int .i8 0]) ?_ 1 _ rfl; (with_reducible repeat (first | refine zc ?_ _ | refine zd ?_ | refine zb ?_ _)); refine zl (cs := #[.int .i8 0, .int .i8 0, .int .i8 0, .int .i8 0]) ?_ 0 _ rfl; (with_reducible repeat (first | refine zc ?_ _ | refine zd ?_ | refine zb ?_ _)); exact BK259.out) Try.underlying43 rfl (by kernel_rfl)) rfl ?_
  exact ⟨by first | rfl | (simp [zk, zj] <;> rfl) | (simp [*, zk, zj] <;> rfl), sB⟩
 rw [if_neg c3] at H
 have c3b0 : decide (a1_0 < 0) = false := decide_eq_false c3
 clear c3
 by_cases c12 : a1_1 = true
 ·subst c12
  have H1 : (if 0 ≤ a1_0 then (if a1_0 < (l0_2.length : Int) then (some ((zx l0_2 a1_0).f0, (zx l0_2 a1_0).f1, (zx l0_2 a1_0).f2, (zx l0_2 a1_0).f3)) else (none)) else (none)) = some (r1, r2, r3, r4) := by rw [if_pos rfl] at H; exact H
  clear H
  have H := H1
  clear H1
  by_cases c13 : 0 ≤ a1_0
  ·rw [if_pos c13] at H
   have c13b0 : decide (0 ≤ a1_0) = true := decide_eq_true c13
   clear c13
   by_cases c14 : a1_0 < (l0_2.length : Int)
   ·rw [if_pos c14] at H
    have c14b0 : decide (a1_0 < (l0_2.length : Int)) = true := decide_eq_true c14
    clear c14
    simp only [Option.some.injEq, Prod.mk.injEq] at H
    obtain ⟨rfl, rfl, rfl, rfl⟩ := H
    go_enter Try.func62, Try.ntmps62
    go_wp2_with (first | ((with_reducible refine zn (N := 2) rfl ?_); refine bx (N := 2) #[.int .i8 a0_0, .int .i8 a0_1, .slice A0_2 l0_2.length c0_2] 28 rfl ?_; intro gb257 hg w15 hbox hb; have BK257 := za.mk hbox; have GW257 := gB hg; have GE257 := GW257; replace HB := za.mk (ze sB hb); clear hb hbox hg) | ((with_reducible refine zn (N := 3) rfl ?_); refine bx (N := 3) #[.int .i8 a1_0, .bool true] 38 rfl ?_; intro gb258 hg w16 hbox hb; have BK258 := za.mk hbox; have GW258 := gB hg; have GE258 := GW258; have NB257_258 := nK hg BK257; have NB258_257 := za.mk NB257_258.out.symm; replace BK257 := dK BK257 hb; replace HB := za.mk (ze sB hb); clear hb hbox hg) | ((with_reducible refine zn (N := 4) rfl ?_); refine bx (N := 4) #[.int .i8 0, .int .i8 0, .int .i8 0, .int .i8 0] 43 rfl ?_; intro gb259 hg w17 hbox hb; have BK259 := za.mk hbox; have GW259 := gB hg; have GE259 := GW259; have NB257_259 := nK hg BK257; have NB259_257 := za.mk NB257_259.out.symm; have NB258_259 := nK hg BK258; have NB259_258 := za.mk NB258_259.out.symm; replace BK257 := dK BK257 hb; replace BK258 := dK BK258 hb; replace HB := za.mk (ze sB hb); clear hb hbox hg; have hnb18 := NB258_257.out; have hnc18 := NB257_258.out; have hnb19 := NB258_259.out; have hnc19 := NB259_258.out; obtain ⟨hcz20_0, hcz20_1⟩ := xc2 BK258; obtain ⟨hfz20_0, hfz20_1⟩ := xf2 BK258; have hnb21 := NB257_259.out; have hnc21 := NB259_257.out; obtain ⟨hcz22_0, hcz22_1, hcz22_2⟩ := xc3 BK257; obtain ⟨hfz22_0, hfz22_1, hfz22_2⟩ := xf3 BK257; have p260 : 0 ≤ (a1_0 : Int) := of_decide_eq_true (by first | (with_reducible assumption) | assumption); have q260 : a1_0 < (l0_2.length : Int) := of_decide_eq_true (by first | (with_reducible assumption) | assumption); obtain ⟨ad260, e260, hx260_0, hx260_1, hx260_2, hx260_3⟩ := zhd HR0_2.out a1_0 p260 q260; cases e260; replace hx260_0 := (HB.out.cell (World.block_lt_of_cell? w _ hx260_0)).trans hx260_0; replace hx260_1 := (HB.out.cell (World.block_lt_of_cell? w _ hx260_1)).trans hx260_1; replace hx260_2 := (HB.out.cell (World.block_lt_of_cell? w _ hx260_2)).trans hx260_2; replace hx260_3 := (HB.out.cell (World.block_lt_of_cell? w _ hx260_3)).trans hx260_3; replace p260 := eq_true p260; replace q260 := eq_true q260; obtain ⟨hcz23_0, hcz23_1, hcz23_2, hcz23_3⟩ := xc4 BK259; obtain ⟨hfz23_0, hfz23_1, hfz23_2, hfz23_3⟩ := xf4 BK259))
    refine bodyPost_ret (results_cell_row rfl _ _ gb259 43 #[.int .i8 ((zx l0_2 a1_0).f0), .int .i8 ((zx l0_2 a1_0).f1), .int .i8 ((zx l0_2 a1_0).f2), .int .i8 ((zx l0_2 a1_0).f3)] (0, 0) _ rfl (by (with_reducible repeat (first | refine zc ?_ _ | refine zd ?_ | refine zb ?_ _)); refine zl (cs := #[.int .i8 ((zx l0_2 a1_0).f0), .int .i8 ((zx l0_2 a1_0).f1), .int .i8 ((zx l0_2 a1_0).f2), .int .i8 0]) ?_ 3 _ rfl; (with_reducible repeat (first | refine zc ?_ _ | refine zd ?_ | refine zb ?_ _)); refine zl (cs := #[.int .i8 ((zx l0_2 a1_0).f0), .int .i8 ((zx l0_2 a1_0).f1), .int .i8 0, .int .i8 0]) ?_ 2 _ rfl; (with_reducible repeat (first | refine zc ?_ _ | refine zd ?_ | refine zb ?_ _)); refine zl (cs := #[.int .i8 ((zx l0_2 a1_0).f0), .int .i8 0, .int .i8 0, .int .i8 0]) ?_ 1 _ rfl; (with_reducible repeat (first | refine zc ?_ _ | refine zd ?_ | refine zb ?_ _)); refine zl (cs := #[.int .i8 0, .int .i8 0, .int .i8 0, .int .i8 0]) ?_ 0 _ rfl; (with_reducible repeat (first | refine zc ?_ _ | refine zd ?_ | refine zb ?_ _)); exact BK259.out) Try.underlying43 rfl (by kernel_rfl)) rfl ?_
    exact ⟨by first | rfl | (simp [zk, zj] <;> rfl) | (simp [*, zk, zj] <;> rfl), sB⟩
   rw [if_neg c14] at H
   exact absurd H (by simp)
  rw [if_neg c13] at H
  exact absurd H (by simp)
 replace c12 := Bool.eq_false_iff.mpr c12
 subst c12
 have H1 : (if 0 ≤ a1_0 then (if a1_0 < (l0_2.length : Int) then ((impl_OppositeWord.f k ((zx l0_2 a1_0).f0) ((zx l0_2 a1_0).f1) ((zx l0_2 a1_0).f2) ((zx l0_2 a1_0).f3)).bind fun bt262 => (some (bt262.1, bt262.2.1, bt262.2.2.1, bt262.2.2.2))) else (none)) else (none)) = some (r1, r2, r3, r4) := by rw [if_neg (show ¬ (false = true) by decide)] at H; exact H
 clear H
 have H := H1
 clear H1
 by_cases c24 : 0 ≤ a1_0
 ·rw [if_pos c24] at H
  have c24b0 : decide (0 ≤ a1_0) = true := decide_eq_true c24
  clear c24
  by_cases c25 : a1_0 < (l0_2.length : Int)
  ·rw [if_pos c25] at H
   have c25b0 : decide (a1_0 < (l0_2.length : Int)) = true := decide_eq_true c25
   clear c25
   replace H := Option.bind_eq_some_iff.mp H
   obtain ⟨⟨t262, t263, t264, t265⟩, A260, H⟩ := H
   replace H : (some (t262, t263, t264, t265)) = some (r1, r2, r3, r4) := H
   have A26 := za.mk A260
   clear A260
   simp only [Option.some.injEq, Prod.mk.injEq] at H
   obtain ⟨rfl, rfl, rfl, rfl⟩ := H
   go_enter Try.func62, Try.ntmps62
   go_wp2_with (first | ((with_reducible refine zn (N := 2) rfl ?_); refine bx (N := 2) #[.int .i8 a0_0, .int .i8 a0_1, .slice A0_2 l0_2.length c0_2] 28 rfl ?_; intro gb257 hg w27 hbox hb; have BK257 := za.mk hbox; have GW257 := gB hg; have GE257 := GW257; replace HB := za.mk (ze sB hb); clear hb hbox hg) | ((with_reducible refine zn (N := 3) rfl ?_); refine bx (N := 3) #[.int .i8 a1_0, .bool false] 38 rfl ?_; intro gb258 hg w28 hbox hb; have BK258 := za.mk hbox; have GW258 := gB hg; have GE258 := GW258; have NB257_258 := nK hg BK257; have NB258_257 := za.mk NB257_258.out.symm; replace BK257 := dK BK257 hb; replace HB := za.mk (ze sB hb); clear hb hbox hg) | ((with_reducible refine zn (N := 4) rfl ?_); refine bx (N := 4) #[.int .i8 0, .int .i8 0, .int .i8 0, .int .i8 0] 43 rfl ?_; intro gb259 hg w29 hbox hb; have BK259 := za.mk hbox; have GW259 := gB hg; have GE259 := GW259; have NB257_259 := nK hg BK257; have NB259_257 := za.mk NB257_259.out.symm; have NB258_259 := nK hg BK258; have NB259_258 := za.mk NB258_259.out.symm; replace BK257 := dK BK257 hb; replace BK258 := dK BK258 hb; replace HB := za.mk (ze sB hb); clear hb hbox hg; have hnb30 := NB258_257.out; have hnc30 := NB257_258.out; have hnb31 := NB258_259.out; have hnc31 := NB259_258.out; obtain ⟨hcz32_0, hcz32_1⟩ := xc2 BK258; obtain ⟨hfz32_0, hfz32_1⟩ := xf2 BK258; have hnb33 := NB257_259.out; have hnc33 := NB259_257.out; obtain ⟨hcz34_0, hcz34_1, hcz34_2⟩ := xc3 BK257; obtain ⟨hfz34_0, hfz34_1, hfz34_2⟩ := xf3 BK257; have p261 : 0 ≤ (a1_0 : Int) := of_decide_eq_true (by first | (with_reducible assumption) | assumption); have q261 : a1_0 < (l0_2.length : Int) := of_decide_eq_true (by first | (with_reducible assumption) | assumption); obtain ⟨ad261, e261, hx261_0, hx261_1, hx261_2, hx261_3⟩ := zhd HR0_2.out a1_0 p261 q261; cases e261; replace hx261_0 := (HB.out.cell (World.block_lt_of_cell? w _ hx261_0)).trans hx261_0; replace hx261_1 := (HB.out.cell (World.block_lt_of_cell? w _ hx261_1)).trans hx261_1; replace hx261_2 := (HB.out.cell (World.block_lt_of_cell? w _ hx261_2)).trans hx261_2; replace hx261_3 := (HB.out.cell (World.block_lt_of_cell? w _ hx261_3)).trans hx261_3; replace p261 := eq_true p261; replace q261 := eq_true q261) | ((with_reducible refine zo (f := 99) rfl ?_); refine gz (some 25) Try.func99 #[.agg #[.int .i8 ((zx l0_2 a1_0).f0), .int .i8 ((zx l0_2 a1_0).f1), .int .i8 ((zx l0_2 a1_0).f2), .int .i8 ((zx l0_2 a1_0).f3)]] rfl rfl ?_; (with_reducible refine (impl_OppositeWord.calls k ((zx l0_2 a1_0).f0) ((zx l0_2 a1_0).f1) ((zx l0_2 a1_0).f2) ((zx l0_2 a1_0).f3) t262 t263 t264 t265 _ A26.out).mono ?_); rintro e w35 ⟨rfl, hb⟩; refine ⟨_, rfl, ?_⟩; replace BK257 := dK BK257 hb; replace BK258 := dK BK258 hb; replace BK259 := dK BK259 hb; replace HB := za.mk (ze sB hb); try clear hb; obtain ⟨hcz36_0, hcz36_1, hcz36_2, hcz36_3⟩ := xc4 BK259; obtain ⟨hfz36_0, hfz36_1, hfz36_2, hfz36_3⟩ := xf4 BK259))
   refine bodyPost_ret (results_cell_row rfl _ _ gb259 43 #[.int .i8 t262, .int .i8 t263, .int .i8 t264, .int .i8 t265] (0, 0) _ rfl (by (with_reducible repeat (first | refine zc ?_ _ | refine zd ?_ | refine zb ?_ _)); refine zl (cs := #[.int .i8 t262, .int .i8 t263, .int .i8 t264, .int .i8 0]) ?_ 3 _ rfl; (with_reducible repeat (first | refine zc ?_ _ | refine zd ?_ | refine zb ?_ _)); refine zl (cs := #[.int .i8 t262, .int .i8 t263, .int .i8 0, .int .i8 0]) ?_ 2 _ rfl; (with_reducible repeat (first | refine zc ?_ _ | refine zd ?_ | refine zb ?_ _)); refine zl (cs := #[.int .i8 t262, .int .i8 0, .int .i8 0, .int .i8 0]) ?_ 1 _ rfl; (with_reducible repeat (first | refine zc ?_ _ | refine zd ?_ | refine zb ?_ _)); refine zl (cs := #[.int .i8 0, .int .i8 0, .int .i8 0, .int .i8 0]) ?_ 0 _ rfl; (with_reducible repeat (first | refine zc ?_ _ | refine zd ?_ | refine zb ?_ _)); exact BK259.out) Try.underlying43 rfl (by kernel_rfl)) rfl ?_
   exact ⟨by first | rfl | (simp [zk, zj] <;> rfl) | (simp [*, zk, zj] <;> rfl), sB⟩
  rw [if_neg c25] at H
  exact absurd H (by simp)
 rw [if_neg c24] at H
 exact absurd H (by simp)

end Go.Proofs.Ytmfbcklaomigaaa.N
