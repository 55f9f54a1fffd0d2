-- Written by wip/tools/myprint.py, a program of this session, by way of the kit's print.
import Derived.Test.YtmfbcklaomigaaaNx0
import Derived.Test.YtmfbcklaomigaaaLPrN
namespace Go.Proofs.Ytmfbcklaomigaaa.N
open Go.RowKit Go.Proofs.YtmfbcklaomigaaaW.PrintWords Go.Proofs.YtmfbcklaomigaaaW.PrintLast Go.Proofs.YtmfbcklaomigaaaW.PrintMore
attribute [local go_sem] zqa zpa zwa zxa zla zka zra zta   -- for this text's walks alone
set_option linter.unusedVariables false
set_option linter.unusedSimpArgs false

/-! ### laws_f6big: function 6 -/
def laws_f6big.f (l0 : List Int) : Option (Bool) := some (decide ((l0.length : Int) > 4096))
set_option maxHeartbeats 8000000 in
set_option maxRecDepth 100000 in
theorem laws_f6big.calls (A0 : Option Addr) (c0 : Nat) (l0 : List Int) (r : Bool) (w : World) (hr0 : Kd.C (Kd.int .u8) w A0 l0.length l0) (hc0 : l0.length ≤ c0) (h : laws_f6big.f l0 = some r) :
  Calls Try.prog 6 #[.slice A0 l0.length c0] w fun e w' => e = .returned (.bool r) ∧ zna w w' := by
 have HR0 := za.mk hr0
 have HC0 := za.mk hc0
 clear hr0 hc0
 have H : (some (decide ((l0.length : Int) > 4096))) = some r := h
 clear h
 obtain rfl := Option.some.inj H
 go_enter Try.func6, Try.ntmps6
 go_wp2
 go_ret
 exact ⟨by first | rfl | (simp; done) | (simp [*]; done), by repeat (first | exact zna.refl _ | apply zna.step)⟩

/-- A state of type 124 at block g of W; what its slices lead to came in by w0. -/
def zg (w0 W : World) (g : Nat) (f0 : List Int) (f1 : Int) (f2 : Int) : Prop := ∃ A0 c0, W.heap[g]? = some (.cells #[.slice A0 f0.length c0, .int .i64 f1, .int .u64 f2] 124 (0, 0)) ∧ w0.heap.size ≤ g ∧ Kd.C (Kd.int .u8) w0 A0 f0.length f0
theorem zg.grown {w0 W : World} {g : Nat} {f0 : List Int} {f1 : Int} {f2 : Int} {W1 : World} {row : Option Nat} (h : zg w0 W g f0 f1 f2) (hw : W.grownBy W1 row) (hne : some g ≠ row) : zg w0 W1 g f0 f1 f2 := by
 obtain ⟨A0, c0, hb, hg, hr0⟩ := h
 exact ⟨A0, c0, zq hb hw hne, hg, hr0⟩
theorem zg.own_neN {w0 W : World} {g : Nat} {f0 : List Int} {f1 : Int} {f2 : Int} {α : Type} {d : Kd α} {e : Nat} {base : Nat} {ok : Nat → Prop} {v : Value} {xs : List α} (h : zg w0 W g f0 f1 f2) (ho : Kd.N d e W base ok v xs) (ht : e ≠ 124) : some g ≠ v.ownBlock := by
 obtain ⟨A0, c0, hb, hg, hr0⟩ := h
 exact Kd.N_ne ho hb ht
theorem zg.fresh {w0 W : World} {g : Nat} {f0 : List Int} {f1 : Int} {f2 : Int} (h : zg w0 W g f0 f1 f2) : ∀ k, W.heap.size ≤ k → k ≠ g := by
 obtain ⟨A0, c0, hb, hg, hr0⟩ := h
 exact Kd.freshB hb
theorem zg.kept {w0 W : World} {g : Nat} {f0 : List Int} {f1 : Int} {f2 : Int} {W1 : World} {S : Nat → Prop} (h : zg w0 W g f0 f1 f2) (hk : Kept W W1 S) (hne : ¬ S g) : zg w0 W1 g f0 f1 f2 := by
 obtain ⟨A0, c0, hb, hg, hr0⟩ := h
 exact ⟨A0, c0, blk_kept hb hk hne, hg, hr0⟩
theorem zg.below {w0 W : World} {g : Nat} {f0 : List Int} {f1 : Int} {f2 : Int} {W1 : World} (h : zg w0 W g f0 f1 f2) (hw : Below W.heap.size W W1) : zg w0 W1 g f0 f1 f2 := h.grown (zqc hw none) (by simp)
theorem zg.alloc {w0 W : World} {g : Nat} {f0 : List Int} {f1 : Int} {f2 : Int} (h : zg w0 W g f0 f1 f2) (o : Obj) : zg w0 (W.alloc o) g f0 f1 f2 := h.below (zw (Below.refl _ _) o)
theorem zg.drewN {w0 W : World} {g : Nat} {f0 : List Int} {f1 : Int} {f2 : Int} (h : zg w0 W g f0 f1 f2) (m : Nat) : zg w0 (W.drewN m) g f0 f1 f2 := h
theorem zg.drew {w0 W : World} {g : Nat} {f0 : List Int} {f1 : Int} {f2 : Int} (h : zg w0 W g f0 f1 f2) : zg w0 W.drew g f0 f1 f2 := h
theorem zg.at_ {w0 W : World} {g : Nat} {f0 : List Int} {f1 : Int} {f2 : Int} {w' : World} {m : Nat} (hq : W.drewN m = w') (h : zg w0 W g f0 f1 f2) : zg w0 w' g f0 f1 f2 := by subst hq; exact zg.drewN h m
theorem zg.apart {w0 W : World} {g : Nat} {f0 : List Int} {f1 : Int} {f2 : Int} {α : Type} {d : Kd α} {e : Nat} {base : Nat} {ok : Nat → Prop} {v : Value} {xs : List α} (h : zg w0 W g f0 f1 f2) (ho : d.R e W base ok v xs) (ht : ∀ q, q ∈ e :: d.E → q ≠ 124) : d.R e W base (fun k => ok k ∧ k ≠ g) v xs := by
 obtain ⟨A0, c0, hb, hg, hr0⟩ := h
 exact Kd.R_types ho hb ht
theorem zg.own_ne {w0 W : World} {g : Nat} {f0 : List Int} {f1 : Int} {f2 : Int} {α : Type} {d : Kd α} {e : Nat} {base : Nat} {ok : Nat → Prop} {v : Value} {xs : List α} (h : zg w0 W g f0 f1 f2) (ho : d.R e W base ok v xs) (ht : e ≠ 124) : some g ≠ v.ownBlock := by
 obtain ⟨A0, c0, hb, hg, hr0⟩ := h
 exact Kd.R_ne ho hb ht
theorem zg.apartQ {w0 W : World} {g : Nat} {f0 : List Int} {f1 : Int} {f2 : Int} {α : Type} {d : Kd α} {e : Nat} {base : Nat} {ok : Nat → Prop} {v : Value} {xs : List α} (h : zg w0 W g f0 f1 f2) (ho : d.Q e W base ok v xs) (ht : ∀ q, q ∈ e :: d.E → q ≠ 124) : d.Q e W base (fun k => ok k ∧ k ≠ g) v xs := by
 obtain ⟨A0, c0, hb, hg, hr0⟩ := h
 exact Kd.Q_types ho hb ht
theorem zg.own_neQ {w0 W : World} {g : Nat} {f0 : List Int} {f1 : Int} {f2 : Int} {α : Type} {d : Kd α} {e : Nat} {base : Nat} {ok : Nat → Prop} {v : Value} {xs : List α} (h : zg w0 W g f0 f1 f2) (ho : d.Q e W base ok v xs) (ht : e ≠ 124) : some g ≠ v.ownBlock := by
 obtain ⟨A0, c0, hb, hg, hr0⟩ := h
 exact Kd.Q_ne ho hb ht
theorem zg.apartS {w0 W : World} {g : Nat} {f0 : List Int} {f1 : Int} {f2 : Int} {α : Type} {d : Kd α} {e : Nat} {base : Nat} {ok : Nat → Prop} {v : Value} {xs : List α} (h : zg w0 W g f0 f1 f2) (ho : d.S e W base ok v xs) (ht : ∀ q, q ∈ e :: d.E → q ≠ 124) : d.S e W base (fun k => ok k ∧ k ≠ g) v xs := by
 obtain ⟨A0, c0, hb, hg, hr0⟩ := h
 exact Kd.S_types ho hb ht
theorem zg.own_neS {w0 W : World} {g : Nat} {f0 : List Int} {f1 : Int} {f2 : Int} {α : Type} {d : Kd α} {e : Nat} {base : Nat} {ok : Nat → Prop} {v : Value} {xs : List α} (h : zg w0 W g f0 f1 f2) (ho : d.S e W base ok v xs) (ht : e ≠ 124) : some g ≠ v.ownBlock := by
 obtain ⟨A0, c0, hb, hg, hr0⟩ := h
 exact Kd.S_ne ho hb ht
theorem zg.lt {w0 W : World} {g : Nat} {f0 : List Int} {f1 : Int} {f2 : Int} (h : zg w0 W g f0 f1 f2) : g < W.heap.size := by
 obtain ⟨A0, c0, hb, hg, hr0⟩ := h
 exact zdb hb
theorem zg.ge {w0 W : World} {g : Nat} {f0 : List Int} {f1 : Int} {f2 : Int} (h : zg w0 W g f0 f1 f2) : w0.heap.size ≤ g := by
 obtain ⟨A0, c0, hb, hg, hr0⟩ := h
 exact hg
theorem zg.ne_blk {w0 W : World} {g : Nat} {f0 : List Int} {f1 : Int} {f2 : Int} {a : Nat} {cs : Array Value} {t : TypeId} {fr : Nat × Nat} (h : zg w0 W g f0 f1 f2) (hb2 : W.heap[a]? = some (.cells cs t fr)) (ht : t ≠ 124) : g ≠ a := by
 obtain ⟨A0, c0, hb, hg, hr0⟩ := h
 rintro rfl
 rw [hb] at hb2
 injection hb2 with hb2
 injection hb2 with _ ht2
 exact ht ht2.symm
theorem zg.far {w0 W : World} {g : Nat} {f0 : List Int} {f1 : Int} {f2 : Int} {p : Addr} (h : zg w0 W g f0 f1 f2) (hne : g ≠ p.block) (u : Value) : zg w0 (W.setCell p u) g f0 f1 f2 := by
 obtain ⟨A0, c0, hb, hg, hr0⟩ := h
 exact ⟨A0, c0, zm hb hne u, hg, hr0⟩
theorem zlc {W : World} {g : Nat} {A0 : Option Addr} {c0 : Nat} {f0 : List Int} {f1 : Int} {f2 : Int} (h : W.heap[g]? = some (.cells #[.slice A0 f0.length c0, .int .i64 f1, .int .u64 f2] 124 (0, 0))) : W.cell? ⟨g, 0, none⟩ = some (.slice A0 f0.length c0) := (zh h 0).trans rfl
theorem znc {W : World} {g : Nat} {A0 : Option Addr} {c0 : Nat} {f0 : List Int} {f1 : Int} {f2 : Int} (h : W.heap[g]? = some (.cells #[.slice A0 f0.length c0, .int .i64 f1, .int .u64 f2] 124 (0, 0))) : W.cell? ⟨g, 1, none⟩ = some (.int .i64 f1) := (zh h 1).trans rfl
theorem zg.set_1 {w0 W : World} {g : Nat} {f0 : List Int} {f1 : Int} {f2 : Int} (h : zg w0 W g f0 f1 f2) (x : Int) : zg w0 (W.setCell ⟨g, 1, none⟩ (.int .i64 x)) g f0 x f2 := by
 obtain ⟨A0, c0, hb, hg, hr0⟩ := h
 exact ⟨A0, c0, by simpa using zje hb 1 (.int .i64 x), hg, hr0⟩
theorem zoc {W : World} {g : Nat} {A0 : Option Addr} {c0 : Nat} {f0 : List Int} {f1 : Int} {f2 : Int} (h : W.heap[g]? = some (.cells #[.slice A0 f0.length c0, .int .i64 f1, .int .u64 f2] 124 (0, 0))) : W.cell? ⟨g, 2, none⟩ = some (.int .u64 f2) := (zh h 2).trans rfl
theorem zg.set_2 {w0 W : World} {g : Nat} {f0 : List Int} {f1 : Int} {f2 : Int} (h : zg w0 W g f0 f1 f2) (x : Int) : zg w0 (W.setCell ⟨g, 2, none⟩ (.int .u64 x)) g f0 f1 x := by
 obtain ⟨A0, c0, hb, hg, hr0⟩ := h
 exact ⟨A0, c0, by simpa using zje hb 2 (.int .u64 x), hg, hr0⟩
theorem zg.new (w0 W : World) (A0 : Option Addr) (c0 : Nat) (f0 : List Int) (f1 : Int) (f2 : Int) (hB : Below w0.heap.size w0 W) (hr0 : Kd.C (Kd.int .u8) w0 A0 f0.length f0) : zg w0 (W.alloc (.cells #[.slice A0 f0.length c0, .int .i64 f1, .int .u64 f2] 124)) W.heap.size f0 f1 f2 := ⟨A0, c0, by simpa using heap_alloc_new W _, hB.size, hr0⟩

/-! ### spec_l00From: function 39 -/
def spec_l00From.f (l0 : List Int) : Option (List Int × Int × Int) := some (l0, 0, 0)
set_option maxHeartbeats 8000000 in
set_option maxRecDepth 100000 in
theorem spec_l00From.calls (A0 : Option Addr) (c0 : Nat) (l0 : List Int) (r1 : List Int) (r2 : Int) (r3 : Int) (w0 w : World) (hB : Below w0.heap.size w0 w) (hr0 : Kd.C (Kd.int .u8) w0 A0 l0.length l0) (hc0 : l0.length ≤ c0) (h : spec_l00From.f l0 = some (r1, r2, r3)) :
  Calls Try.prog 39 #[.slice A0 l0.length c0] w fun e w' => ∃ g_ : Nat, e = .returned (.pointer (some ⟨g_, 0, none⟩)) ∧ zg w0 w' g_ r1 r2 r3 ∧ Below w0.heap.size w0 w' ∧ Below w.heap.size w w' := by
 have hu124 := Try.underlying124
 have HR0 := za.mk hr0
 have HC0 := za.mk hc0
 clear hr0 hc0
 have HBW := za.mk (Below.refl w.heap.size w)
 have HW0 := za.mk hB.size
 have HB := za.mk hB
 clear hB
 have H : (some (l0, 0, 0)) = some (r1, r2, r3) := h
 clear h
 simp only [Option.some.injEq, Prod.mk.injEq] at H
 obtain ⟨rfl, rfl, rfl⟩ := H
 go_enter Try.func39, Try.ntmps39
 go_wp2_with (first | ((with_reducible refine zn (N := 5) rfl ?_); refine bx (N := 5) #[.slice A0 l0.length c0, .int .i64 0, .int .u64 0] 124 rfl ?_; intro gb101 hg w2 hbox hb; have BK101 := za.mk hbox; have GW101 := za.mk ((by rw [hg]; exact (zv (by repeat (first | (with_reducible first | exact HBW.out | apply zw | apply zp | apply zt) | exact HBW.out))) : w.heap.size ≤ gb101)); have GE101 := za.mk ((Nat.le_trans HW0.out (by rw [hg]; exact (zv (by repeat (first | (with_reducible first | exact HBW.out | apply zw | apply zp | apply zt) | exact HBW.out))) : w.heap.size ≤ gb101) : w0.heap.size ≤ gb101)); replace HBW := za.mk (ze HBW.out hb); replace HB := za.mk (ze sB hb); clear hb hbox hg))
 go_ret
 exact ⟨_, rfl, (show zg w0 _ gb101 l0 0 0 from ⟨_, _, by (with_reducible repeat (first | refine zc ?_ _ | refine zd ?_ | refine zb ?_ _)); exact BK101.out, GE101.out, HR0.out⟩), by repeat (first | (with_reducible first | exact HB.out | apply zw | apply zp | apply zt | refine zz ?_ GE101.out) | exact HB.out), by repeat (first | (with_reducible first | exact HBW.out | apply zw | apply zp | apply zt | refine zz ?_ GW101.out) | exact HBW.out)⟩

/-! ### spec_l00Src_next: function 92 -/
def spec_l00Src_next.f (s0_0 : List Int) (s0_1 : Int) (s0_2 : Int) : Option (Int × Int × Int) := if s0_1 < (s0_0.length : Int) then (if 0 ≤ s0_1 then (if (wrap64 (s0_1 + 1)) ≤ (s0_0.length : Int) then (some (wrap64 (rd s0_0 s0_1), wrap64 (s0_1 + 1), IntKind.u64.wrap ((IntKind.u64.wrap ((IntKind.u64.wrap (s0_2 * 6364136223846793005)) + (IntKind.u64.wrap (wrap64 (rd s0_0 s0_1))))) + 1442695040888963407))) else (some (wrap64 (Go.bits .and .u64 ((IntKind.u64.wrap ((IntKind.u64.wrap ((IntKind.u64.wrap (s0_2 * 6364136223846793005)) + (IntKind.u64.wrap (wrap64 (rd s0_0 s0_1))))) + 1442695040888963407)) / 1099511627776) 255), wrap64 (s0_1 + 1), IntKind.u64.wrap ((IntKind.u64.wrap ((IntKind.u64.wrap (s0_2 * 6364136223846793005)) + (IntKind.u64.wrap (wrap64 (rd s0_0 s0_1))))) + 1442695040888963407)))) else (none)) else (if (wrap64 (s0_1 + 1)) ≤ (s0_0.length : Int) then (some (0, wrap64 (s0_1 + 1), IntKind.u64.wrap ((IntKind.u64.wrap ((IntKind.u64.wrap (s0_2 * 6364136223846793005)) + 0)) + 1442695040888963407))) else (some (wrap64 (Go.bits .and .u64 ((IntKind.u64.wrap ((IntKind.u64.wrap ((IntKind.u64.wrap (s0_2 * 6364136223846793005)) + 0)) + 1442695040888963407)) / 1099511627776) 255), wrap64 (s0_1 + 1), IntKind.u64.wrap ((IntKind.u64.wrap ((IntKind.u64.wrap (s0_2 * 6364136223846793005)) + 0)) + 1442695040888963407))))
set_option maxHeartbeats 8000000 in
set_option maxRecDepth 100000 in
theorem spec_l00Src_next.calls (g : Nat) (s0_0 : List Int) (s0_1 : Int) (s0_2 : Int) (r1 : Int) (r2 : Int) (r3 : Int) (w0 w : World) (hI : zg w0 w g s0_0 s0_1 s0_2) (hB : Below w0.heap.size w0 w) (h : spec_l00Src_next.f s0_0 s0_1 s0_2 = some (r1, r2, r3)) :
  Calls Try.prog 92 #[.pointer (some ⟨g, 0, none⟩)] w fun e w' => e = .returned (.int .i64 r1) ∧ zg w0 w' g s0_0 r2 r3 ∧ Below w0.heap.size w0 w' ∧ zy w w' g none := by
 have HI0 := za.mk hI
 have HK := za.mk (zy.refl w g none)
 have HL := za.mk hB.size
 clear hI
 have HW0 := za.mk hB.size
 have HB := za.mk hB
 clear hB
 have H : (if s0_1 < (s0_0.length : Int) then (if 0 ≤ s0_1 then (if (wrap64 (s0_1 + 1)) ≤ (s0_0.length : Int) then (some (wrap64 (rd s0_0 s0_1), wrap64 (s0_1 + 1), IntKind.u64.wrap ((IntKind.u64.wrap ((IntKind.u64.wrap (s0_2 * 6364136223846793005)) + (IntKind.u64.wrap (wrap64 (rd s0_0 s0_1))))) + 1442695040888963407))) else (some (wrap64 (Go.bits .and .u64 ((IntKind.u64.wrap ((IntKind.u64.wrap ((IntKind.u64.wrap (s0_2 * 6364136223846793005)) + (IntKind.u64.wrap (wrap64 (rd s0_0 s0_1))))) + 1442695040888963407)) / 1099511627776) 255), wrap64 (s0_1 + 1), IntKind.u64.wrap ((IntKind.u64.wrap ((IntKind.u64.wrap (s0_2 * 6364136223846793005)) + (IntKind.u64.wrap (wrap64 (rd s0_0 s0_1))))) + 1442695040888963407)))) else (none)) else (if (wrap64 (s0_1 + 1)) ≤ (s0_0.length : Int) then (some (0, wrap64 (s0_1 + 1), IntKind.u64.wrap ((IntKind.u64.wrap ((IntKind.u64.wrap (s0_2 * 6364136223846793005)) + 0)) + 1442695040888963407))) else (some (wrap64 (Go.bits .and .u64 ((IntKind.u64.wrap ((IntKind.u64.wrap ((IntKind.u64.wrap (s0_2 * 6364136223846793005)) + 0)) + 1442695040888963407)) / 1099511627776) 255), wrap64 (s0_1 + 1), IntKind.u64.wrap ((IntKind.u64.wrap ((IntKind.u64.wrap (s0_2 * 6364136223846793005)) + 0)) + 1442695040888963407))))) = some (r1, r2, r3) := h
 clear h
 by_cases c2 : s0_1 < (s0_0.length : Int)
 ·rw [if_pos c2] at H
  have c2b0 : decide (s0_1 < (s0_0.length : Int)) = true := decide_eq_true c2
  clear c2
  by_cases c3 : 0 ≤ s0_1
  ·rw [if_pos c3] at H
   have c3b0 : decide (0 ≤ s0_1) = true := decide_eq_true c3
   clear c3
   by_cases c4 : (wrap64 (s0_1 + 1)) ≤ (s0_0.length : Int)
   ·rw [if_pos c4] at H
    have c4b0 : decide ((wrap64 (s0_1 + 1)) ≤ (s0_0.length : Int)) = true := decide_eq_true c4
    (try (have c4b1 : decide ((IntKind.i64.wrap (s0_1 + 1)) ≤ (s0_0.length : Int)) = true := by have h_ : decide ((wrap64 (s0_1 + 1)) ≤ (s0_0.length : Int)) = true := decide_eq_true c4; simpa only [zda, zfa] using h_))
    clear c4
    simp only [Option.some.injEq, Prod.mk.injEq] at H
    obtain ⟨rfl, rfl, rfl⟩ := H
    obtain ⟨ASz5_0, cSz5_0, HGz5, hgz5, HSz5_0⟩ := HI0.out
    have hcz5_0 := zlc HGz5
    have hcz5_1 := znc HGz5
    have hcz5_2 := zoc HGz5
    have hfz5_1 := zaa HGz5 1
    have hfz5_2 := zaa HGz5 2
    clear HGz5 hgz5
    have p102 : 0 ≤ (s0_1 : Int) := of_decide_eq_true (by first | (with_reducible assumption) | assumption)
    have q102 : s0_1 < (s0_0.length : Int) := of_decide_eq_true (by first | (with_reducible assumption) | assumption)
    obtain ⟨ad102, e102, hx102_0⟩ := Kd.at_int HSz5_0 s0_1 p102 q102
    cases e102
    replace hx102_0 := zlb HB.out hx102_0
    replace p102 := eq_true p102
    replace q102 := eq_true q102
    go_enter Try.func92, Try.ntmps92
    go_wp2
    repeat (go_quiet (fail); try go_wp2)
    go_ret
    exact ⟨by first | rfl | (simp [zk, zj] <;> rfl) | (simp [*, zk, zj] <;> rfl), by repeat (first | (with_reducible first | exact HI0.out | apply zg.alloc | apply zg.drewN | apply zg.drew | apply zg.set_1 | apply zg.set_2) | exact HI0.out), by repeat (first | (with_reducible first | exact HB.out | apply zw | apply zp | apply zt | refine zz ?_ (zg.ge HI0.out)) | exact HB.out), by repeat (first | (with_reducible first | exact HK.out | apply zy.set_ | apply zea | apply zha | apply zca) | exact HK.out)⟩
   rw [if_neg c4] at H
   have c4b0 : decide ((wrap64 (s0_1 + 1)) ≤ (s0_0.length : Int)) = false := decide_eq_false c4
   (try (have c4b1 : decide ((IntKind.i64.wrap (s0_1 + 1)) ≤ (s0_0.length : Int)) = false := by have h_ : decide ((wrap64 (s0_1 + 1)) ≤ (s0_0.length : Int)) = false := decide_eq_false c4; simpa only [zda, zfa] using h_))
   clear c4
   simp only [Option.some.injEq, Prod.mk.injEq] at H
   obtain ⟨rfl, rfl, rfl⟩ := H
   obtain ⟨ASz6_0, cSz6_0, HGz6, hgz6, HSz6_0⟩ := HI0.out
   have hcz6_0 := zlc HGz6
   have hcz6_1 := znc HGz6
   have hcz6_2 := zoc HGz6
   have hfz6_1 := zaa HGz6 1
   have hfz6_2 := zaa HGz6 2
   clear HGz6 hgz6
   have p102 : 0 ≤ (s0_1 : Int) := of_decide_eq_true (by first | (with_reducible assumption) | assumption)
   have q102 : s0_1 < (s0_0.length : Int) := of_decide_eq_true (by first | (with_reducible assumption) | assumption)
   obtain ⟨ad102, e102, hx102_0⟩ := Kd.at_int HSz6_0 s0_1 p102 q102
   cases e102
   replace hx102_0 := zlb HB.out hx102_0
   replace p102 := eq_true p102
   replace q102 := eq_true q102
   go_enter Try.func92, Try.ntmps92
   go_wp2
   repeat (go_quiet (fail); try go_wp2)
   go_ret
   exact ⟨by first | rfl | (simp [zk, zj] <;> rfl) | (simp [*, zk, zj] <;> rfl), by repeat (first | (with_reducible first | exact HI0.out | apply zg.alloc | apply zg.drewN | apply zg.drew | apply zg.set_1 | apply zg.set_2) | exact HI0.out), by repeat (first | (with_reducible first | exact HB.out | apply zw | apply zp | apply zt | refine zz ?_ (zg.ge HI0.out)) | exact HB.out), by repeat (first | (with_reducible first | exact HK.out | apply zy.set_ | apply zea | apply zha | apply zca) | exact HK.out)⟩
  rw [if_neg c3] at H
  exact absurd H (by simp)
 rw [if_neg c2] at H
 have c2b0 : decide (s0_1 < (s0_0.length : Int)) = false := decide_eq_false c2
 clear c2
 by_cases c7 : (wrap64 (s0_1 + 1)) ≤ (s0_0.length : Int)
 ·rw [if_pos c7] at H
  have c7b0 : decide ((wrap64 (s0_1 + 1)) ≤ (s0_0.length : Int)) = true := decide_eq_true c7
  (try (have c7b1 : decide ((IntKind.i64.wrap (s0_1 + 1)) ≤ (s0_0.length : Int)) = true := by have h_ : decide ((wrap64 (s0_1 + 1)) ≤ (s0_0.length : Int)) = true := decide_eq_true c7; simpa only [zda, zfa] using h_))
  clear c7
  simp only [Option.some.injEq, Prod.mk.injEq] at H
  obtain ⟨rfl, rfl, rfl⟩ := H
  simp only [Int.add_zero]
  obtain ⟨ASz8_0, cSz8_0, HGz8, hgz8, HSz8_0⟩ := HI0.out
  have hcz8_0 := zlc HGz8
  have hcz8_1 := znc HGz8
  have hcz8_2 := zoc HGz8
  have hfz8_1 := zaa HGz8 1
  have hfz8_2 := zaa HGz8 2
  clear HGz8 hgz8
  go_enter Try.func92, Try.ntmps92
  go_wp2
  repeat (go_quiet (fail); try go_wp2)
  go_ret
  exact ⟨by first | rfl | (simp [zk, zj] <;> rfl) | (simp [*, zk, zj] <;> rfl), by repeat (first | (with_reducible first | exact HI0.out | apply zg.alloc | apply zg.drewN | apply zg.drew | apply zg.set_1 | apply zg.set_2) | exact HI0.out), by repeat (first | (with_reducible first | exact HB.out | apply zw | apply zp | apply zt | refine zz ?_ (zg.ge HI0.out)) | exact HB.out), by repeat (first | (with_reducible first | exact HK.out | apply zy.set_ | apply zea | apply zha | apply zca) | exact HK.out)⟩
 rw [if_neg c7] at H
 have c7b0 : decide ((wrap64 (s0_1 + 1)) ≤ (s0_0.length : Int)) = false := decide_eq_false c7
 (try (have c7b1 : decide ((IntKind.i64.wrap (s0_1 + 1)) ≤ (s0_0.length : Int)) = false := by have h_ : decide ((wrap64 (s0_1 + 1)) ≤ (s0_0.length : Int)) = false := decide_eq_false c7; simpa only [zda, zfa] using h_))
 clear c7
 simp only [Option.some.injEq, Prod.mk.injEq] at H
 obtain ⟨rfl, rfl, rfl⟩ := H
 simp only [Int.add_zero]
 obtain ⟨ASz9_0, cSz9_0, HGz9, hgz9, HSz9_0⟩ := HI0.out
 have hcz9_0 := zlc HGz9
 have hcz9_1 := znc HGz9
 have hcz9_2 := zoc HGz9
 have hfz9_1 := zaa HGz9 1
 have hfz9_2 := zaa HGz9 2
 clear HGz9 hgz9
 go_enter Try.func92, Try.ntmps92
 go_wp2
 repeat (go_quiet (fail); try go_wp2)
 go_ret
 exact ⟨by first | rfl | (simp [zk, zj] <;> rfl) | (simp [*, zk, zj] <;> rfl), by repeat (first | (with_reducible first | exact HI0.out | apply zg.alloc | apply zg.drewN | apply zg.drew | apply zg.set_1 | apply zg.set_2) | exact HI0.out), by repeat (first | (with_reducible first | exact HB.out | apply zw | apply zp | apply zt | refine zz ?_ (zg.ge HI0.out)) | exact HB.out), by repeat (first | (with_reducible first | exact HK.out | apply zy.set_ | apply zea | apply zha | apply zca) | exact HK.out)⟩

/-! ### spec_l00Src_pick: function 40 -/
def spec_l00Src_pick.f (s0_0 : List Int) (s0_1 : Int) (s0_2 : Int) (a1 : Int) : Option (Int × Int × Int) := if a1 ≤ 1 then (some (0, s0_1, s0_2)) else ((spec_l00Src_next.f s0_0 s0_1 s0_2).bind fun bt103 => (if a1 > 200 then ((spec_l00Src_next.f s0_0 bt103.2.1 bt103.2.2).bind fun bt106 => (if a1 = 0 then (none) else (some (Int.tmod (wrap64 ((wrap64 (bt103.1 * 256)) + bt106.1)) a1, bt106.2.1, bt106.2.2)))) else (if a1 = 0 then (none) else (some (Int.tmod bt103.1 a1, bt103.2.1, bt103.2.2)))))
set_option maxHeartbeats 8000000 in
set_option maxRecDepth 100000 in
theorem spec_l00Src_pick.calls (g : Nat) (s0_0 : List Int) (s0_1 : Int) (s0_2 : Int) (a1 : Int) (r1 : Int) (r2 : Int) (r3 : Int) (w0 w : World) (hI : zg w0 w g s0_0 s0_1 s0_2) (hB : Below w0.heap.size w0 w) (h : spec_l00Src_pick.f s0_0 s0_1 s0_2 a1 = some (r1, r2, r3)) :
  Calls Try.prog 40 #[.pointer (some ⟨g, 0, none⟩), .int .i64 a1] w fun e w' => e = .returned (.int .i64 r1) ∧ zg w0 w' g s0_0 r2 r3 ∧ Below w0.heap.size w0 w' ∧ zy w w' g none := by
 have HI0 := za.mk hI
 have HK := za.mk (zy.refl w g none)
 have HL := za.mk hB.size
 clear hI
 have HW0 := za.mk hB.size
 have HB := za.mk hB
 clear hB
 have H : (if a1 ≤ 1 then (some (0, s0_1, s0_2)) else ((spec_l00Src_next.f s0_0 s0_1 s0_2).bind fun bt103 => (if a1 > 200 then ((spec_l00Src_next.f s0_0 bt103.2.1 bt103.2.2).bind fun bt106 => (if a1 = 0 then (none) else (some (Int.tmod (wrap64 ((wrap64 (bt103.1 * 256)) + bt106.1)) a1, bt106.2.1, bt106.2.2)))) else (if a1 = 0 then (none) else (some (Int.tmod bt103.1 a1, bt103.2.1, bt103.2.2)))))) = some (r1, r2, r3) := h
 clear h
 by_cases c3 : a1 ≤ 1
 ·rw [if_pos c3] at H
  have c3b0 : decide (a1 ≤ 1) = true := decide_eq_true c3
  clear c3
  simp only [Option.some.injEq, Prod.mk.injEq] at H
  obtain ⟨rfl, rfl, rfl⟩ := H
  go_enter Try.func40, Try.ntmps40
  go_wp2
  go_ret
  exact ⟨by first | rfl | (simp [zk, zj] <;> rfl) | (simp [*, zk, zj] <;> rfl), by repeat (first | (with_reducible first | exact HI0.out | apply zg.alloc | apply zg.drewN | apply zg.drew | apply zg.set_1 | apply zg.set_2) | exact HI0.out), by repeat (first | (with_reducible first | exact HB.out | apply zw | apply zp | apply zt | refine zz ?_ (zg.ge HI0.out)) | exact HB.out), by repeat (first | (with_reducible first | exact HK.out | apply zy.set_ | apply zea | apply zha | apply zca) | exact HK.out)⟩
 rw [if_neg c3] at H
 have c3b0 : decide (a1 ≤ 1) = false := decide_eq_false c3
 clear c3
 replace H := Option.bind_eq_some_iff.mp H
 obtain ⟨⟨t103, t104, t105⟩, A40, H⟩ := H
 replace H : (if a1 > 200 then ((spec_l00Src_next.f s0_0 t104 t105).bind fun bt106 => (if a1 = 0 then (none) else (some (Int.tmod (wrap64 ((wrap64 (t103 * 256)) + bt106.1)) a1, bt106.2.1, bt106.2.2)))) else (if a1 = 0 then (none) else (some (Int.tmod t103 a1, t104, t105)))) = some (r1, r2, r3) := H
 have A4 := za.mk A40
 clear A40
 by_cases c5 : a1 > 200
 ·rw [if_pos c5] at H
  have c5b0 : decide (200 < a1) = true := decide_eq_true c5
  clear c5
  replace H := Option.bind_eq_some_iff.mp H
  obtain ⟨⟨t106, t107, t108⟩, A60, H⟩ := H
  replace H : (if a1 = 0 then (none) else (some (Int.tmod (wrap64 ((wrap64 (t103 * 256)) + t106)) a1, t107, t108))) = some (r1, r2, r3) := H
  have A6 := za.mk A60
  clear A60
  by_cases c7 : a1 = 0
  ·rw [if_pos c7] at H
   exact absurd H (by simp)
  rw [if_neg c7] at H
  have c7b0 : (a1 == 0) = false := beq_eq_false_iff_ne.mpr c7
  have c7b1 : (a1 != 0) = true := bne_iff_ne.mpr c7
  simp only [Option.some.injEq, Prod.mk.injEq] at H
  obtain ⟨rfl, rfl, rfl⟩ := H
  go_enter Try.func40, Try.ntmps40
  go_wp2_with (first | ((with_reducible refine zo (f := 92) rfl ?_); refine gz (some 9) Try.func92 #[.pointer (some ⟨g, 0, none⟩)] rfl rfl ?_; (with_reducible refine (spec_l00Src_next.calls g s0_0 s0_1 s0_2 t103 t104 t105 w0 _ ?side1 ?side2 A4.out).mono ?_); (case side1 => repeat (first | (with_reducible first | exact HI0.out | apply zg.alloc | apply zg.drewN | apply zg.drew | apply zg.set_1 | apply zg.set_2) | exact HI0.out)); (case side2 => repeat (first | (with_reducible first | exact HB.out | apply zw | apply zp | apply zt | refine zz ?_ (zg.ge HI0.out)) | exact HB.out)); rintro e w8 ⟨rfl, hi, hb, hk⟩; refine ⟨_, rfl, ?_⟩; replace HK := za.mk (zy.trans (by repeat (first | (with_reducible first | exact HK.out | apply zy.set_ | apply zea | apply zha | apply zca) | exact HK.out)) hk (.inl rfl)); replace HB := za.mk hb; replace HI0 := za.mk hi; try clear hb) | ((with_reducible refine zo (f := 92) rfl ?_); refine gz (some 15) Try.func92 #[.pointer (some ⟨g, 0, none⟩)] rfl rfl ?_; (with_reducible refine (spec_l00Src_next.calls g s0_0 t104 t105 t106 t107 t108 w0 _ ?side1 ?side2 A6.out).mono ?_); (case side1 => repeat (first | (with_reducible first | exact HI0.out | apply zg.alloc | apply zg.drewN | apply zg.drew | apply zg.set_1 | apply zg.set_2) | exact HI0.out)); (case side2 => repeat (first | (with_reducible first | exact HB.out | apply zw | apply zp | apply zt | refine zz ?_ (zg.ge HI0.out)) | exact HB.out)); rintro e w9 ⟨rfl, hi, hb, hk⟩; refine ⟨_, rfl, ?_⟩; replace HK := za.mk (zy.trans (by repeat (first | (with_reducible first | exact HK.out | apply zy.set_ | apply zea | apply zha | apply zca) | exact HK.out)) hk (.inl rfl)); replace HB := za.mk hb; replace HI0 := za.mk hi; try clear hb))
  go_ret
  exact ⟨by first | rfl | (simp [zk, zj] <;> rfl) | (simp [*, zk, zj] <;> rfl), by repeat (first | (with_reducible first | exact HI0.out | apply zg.alloc | apply zg.drewN | apply zg.drew | apply zg.set_1 | apply zg.set_2) | exact HI0.out), by repeat (first | (with_reducible first | exact HB.out | apply zw | apply zp | apply zt | refine zz ?_ (zg.ge HI0.out)) | exact HB.out), by repeat (first | (with_reducible first | exact HK.out | apply zy.set_ | apply zea | apply zha | apply zca) | exact HK.out)⟩
 rw [if_neg c5] at H
 have c5b0 : decide (200 < a1) = false := decide_eq_false c5
 clear c5
 by_cases c10 : a1 = 0
 ·rw [if_pos c10] at H
  exact absurd H (by simp)
 rw [if_neg c10] at H
 have c10b0 : (a1 == 0) = false := beq_eq_false_iff_ne.mpr c10
 have c10b1 : (a1 != 0) = true := bne_iff_ne.mpr c10
 simp only [Option.some.injEq, Prod.mk.injEq] at H
 obtain ⟨rfl, rfl, rfl⟩ := H
 go_enter Try.func40, Try.ntmps40
 go_wp2_with (first | ((with_reducible refine zo (f := 92) rfl ?_); refine gz (some 9) Try.func92 #[.pointer (some ⟨g, 0, none⟩)] rfl rfl ?_; (with_reducible refine (spec_l00Src_next.calls g s0_0 s0_1 s0_2 t103 t104 t105 w0 _ ?side1 ?side2 A4.out).mono ?_); (case side1 => repeat (first | (with_reducible first | exact HI0.out | apply zg.alloc | apply zg.drewN | apply zg.drew | apply zg.set_1 | apply zg.set_2) | exact HI0.out)); (case side2 => repeat (first | (with_reducible first | exact HB.out | apply zw | apply zp | apply zt | refine zz ?_ (zg.ge HI0.out)) | exact HB.out)); rintro e w11 ⟨rfl, hi, hb, hk⟩; refine ⟨_, rfl, ?_⟩; replace HK := za.mk (zy.trans (by repeat (first | (with_reducible first | exact HK.out | apply zy.set_ | apply zea | apply zha | apply zca) | exact HK.out)) hk (.inl rfl)); replace HB := za.mk hb; replace HI0 := za.mk hi; try clear hb))
 go_ret
 exact ⟨by first | rfl | (simp [zk, zj] <;> rfl) | (simp [*, zk, zj] <;> rfl), by repeat (first | (with_reducible first | exact HI0.out | apply zg.alloc | apply zg.drewN | apply zg.drew | apply zg.set_1 | apply zg.set_2) | exact HI0.out), by repeat (first | (with_reducible first | exact HB.out | apply zw | apply zp | apply zt | refine zz ?_ (zg.ge HI0.out)) | exact HB.out), by repeat (first | (with_reducible first | exact HK.out | apply zy.set_ | apply zea | apply zha | apply zca) | exact HK.out)⟩

/-! ### spec_P6Pick: function 7 -/
def spec_P6Pick.f (l0 : List Int) (a1 : Int) : Option (Int) := (spec_l00From.f l0).bind fun bt109 => ((spec_l00Src_pick.f bt109.1 bt109.2.1 bt109.2.2 a1).bind fun bt113 => (some bt113.1))
set_option maxHeartbeats 8000000 in
set_option maxRecDepth 100000 in
theorem spec_P6Pick.calls (A0 : Option Addr) (c0 : Nat) (l0 : List Int) (a1 : Int) (r : Int) (w : World) (hr0 : Kd.C (Kd.int .u8) w A0 l0.length l0) (hc0 : l0.length ≤ c0) (h : spec_P6Pick.f l0 a1 = some r) :
  Calls Try.prog 7 #[.slice A0 l0.length c0, .int .i64 a1] w fun e w' => e = .returned (.int .i64 r) ∧ Below w.heap.size w w' := by
 have HR0 := za.mk hr0
 have HC0 := za.mk hc0
 clear hr0 hc0
 have HB := za.mk (Below.refl w.heap.size w)
 have H : ((spec_l00From.f l0).bind fun bt109 => ((spec_l00Src_pick.f bt109.1 bt109.2.1 bt109.2.2 a1).bind fun bt113 => (some bt113.1))) = some r := h
 clear h
 replace H := Option.bind_eq_some_iff.mp H
 obtain ⟨⟨t109, t110, t111⟩, A30, H⟩ := H
 replace H : ((spec_l00Src_pick.f t109 t110 t111 a1).bind fun bt113 => (some bt113.1)) = some r := H
 have A3 := za.mk A30
 clear A30
 replace H := Option.bind_eq_some_iff.mp H
 obtain ⟨⟨t113, t114, t115⟩, A40, H⟩ := H
 replace H : (some t113) = some r := H
 have A4 := za.mk A40
 clear A40
 obtain rfl := Option.some.inj H
 go_enter Try.func7, Try.ntmps7
 go_wp2_with (first | ((with_reducible refine zo (f := 39) rfl ?_); refine gz (some 6) Try.func39 #[.slice A0 l0.length c0] rfl rfl ?_; (with_reducible refine (spec_l00From.calls _ _ l0 t109 t110 t111 w _ ?side1 ?side2 ?side3 A3.out).mono ?_); (case side1 => repeat (first | (with_reducible first | exact HB.out | apply zw | apply zp | apply zt) | exact HB.out)); (case side2 => exact HR0.out); (case side3 => exact HC0.out); rintro e w5 ⟨g112, rfl, hi, hb, hb2⟩; refine ⟨_, rfl, ?_⟩; have HI112 := za.mk hi; replace HB := za.mk hb; try clear hb) | ((with_reducible refine zo (f := 40) rfl ?_); refine gz (some 8) Try.func40 #[.pointer (some ⟨g112, 0, none⟩), .int .i64 a1] rfl rfl ?_; (with_reducible refine (spec_l00Src_pick.calls g112 t109 t110 t111 a1 t113 t114 t115 w _ ?side1 ?side2 A4.out).mono ?_); (case side1 => repeat (first | (with_reducible first | exact HI112.out | apply zg.alloc | apply zg.drewN | apply zg.drew | apply zg.set_1 | apply zg.set_2) | exact HI112.out)); (case side2 => repeat (first | (with_reducible first | exact HB.out | apply zw | apply zp | apply zt | refine zz ?_ (zg.ge HI112.out)) | exact HB.out)); rintro e w6 ⟨rfl, hi, hb, hk⟩; refine ⟨_, rfl, ?_⟩; replace HB := za.mk hb; replace HI112 := za.mk hi; try clear hb))
 go_ret
 exact ⟨by first | rfl | (simp [zk, zj] <;> rfl) | (simp [*, zk, zj] <;> rfl), by repeat (first | (with_reducible first | exact HB.out | apply zw | apply zp | apply zt | refine zz ?_ (zg.ge HI112.out)) | exact HB.out)⟩

/-! ### spec_l00In: function 51 -/
def spec_l00In.f (a0 : Int) (a1 : Int) (a2 : Int) : Option (Bool) := if a0 ≥ a1 then (some (decide (a0 ≤ a2))) else (some false)
set_option maxHeartbeats 8000000 in
set_option maxRecDepth 100000 in
theorem spec_l00In.calls (a0 : Int) (a1 : Int) (a2 : Int) (r : Bool) (w : World) (h : spec_l00In.f a0 a1 a2 = some r) :
  Calls Try.prog 51 #[.int .i64 a0, .int .i64 a1, .int .i64 a2] w fun e w' => e = .returned (.bool r) ∧ zna w w' := by
 have H : (if a0 ≥ a1 then (some (decide (a0 ≤ a2))) else (some false)) = some r := h
 clear h
 by_cases c4 : a0 ≥ a1
 ·rw [if_pos c4] at H
  have c4b0 : decide (a1 ≤ a0) = true := decide_eq_true c4
  clear c4
  obtain rfl := Option.some.inj H
  go_enter Try.func51, Try.ntmps51
  go_wp2
  go_ret
  exact ⟨by first | rfl | (simp; done) | (simp [*]; done), by repeat (first | exact zna.refl _ | apply zna.step)⟩
 rw [if_neg c4] at H
 have c4b0 : decide (a1 ≤ a0) = false := decide_eq_false c4
 clear c4
 obtain rfl := Option.some.inj H
 go_enter Try.func51, Try.ntmps51
 go_wp2
 go_ret
 exact ⟨by first | rfl | (simp; done) | (simp [*]; done), by repeat (first | exact zna.refl _ | apply zna.step)⟩

end Go.Proofs.Ytmfbcklaomigaaa.N
