/- The distance of words. -/
import Derived.Test.YtmfbcklaomigaaaLTBaseN
import Derived.Test.YtmfbcklaomigaaaNx12
import Derived.Test.YtmfbcklaomigaaaNx21
namespace Go.Proofs.Ytmfbcklaomigaaa.N
open Go.RowKit Go.Proofs.YtmfbcklaomigaaaW.PrintWords Go.Proofs.YtmfbcklaomigaaaW.PrintLast Go.Proofs.YtmfbcklaomigaaaW.PrintMore
set_option linter.unusedVariables false
set_option linter.unusedSimpArgs false

abbrev T4 := Int × Int × Int × Int
def df (a b : Int) : Int := if a = b then 0 else 1
def dist (x y : T4) : Int := df x.1 y.1 + df x.2.1 y.2.1 + df x.2.2.1 y.2.2.1 + df x.2.2.2 y.2.2.2
theorem df_01 (a b : Int) : 0 ≤ df a b ∧ df a b ≤ 1 := by unfold df; split <;> omega
theorem zmd (a : Int) : df a a = 0 := by unfold df; rw [if_pos rfl]
theorem zfc (a b : Int) : df a b = df b a := by
  unfold df
  by_cases h : a = b
  · rw [if_pos h, if_pos h.symm]
  · rw [if_neg h, if_neg (fun e => h e.symm)]
theorem df_tri (a b c : Int) : df a c ≤ df a b + df b c := by
  unfold df
  by_cases h : a = b
  · subst h; split <;> simp
  · rw [if_neg h]
    by_cases h2 : b = c
    · subst h2; split <;> split <;> simp_all
    · rw [if_neg h2]; split <;> omega
theorem dist_nn (x y : T4) : 0 ≤ dist x y ∧ dist x y ≤ 4 := by
  have h1 := df_01 x.1 y.1; have h2 := df_01 x.2.1 y.2.1; have h3 := df_01 x.2.2.1 y.2.2.1; have h4 := df_01 x.2.2.2 y.2.2.2
  unfold dist; omega
theorem zze (x : T4) : dist x x = 0 := by unfold dist; simp only [zmd]; rfl
theorem zye (x y : T4) : dist x y = dist y x := by
  unfold dist
  rw [zfc x.1 y.1, zfc x.2.1 y.2.1, zfc x.2.2.1 y.2.2.1, zfc x.2.2.2 y.2.2.2]
theorem dist_tri (x y z : T4) : dist x z ≤ dist x y + dist y z := by
  have h1 := df_tri x.1 y.1 z.1; have h2 := df_tri x.2.1 y.2.1 z.2.1; have h3 := df_tri x.2.2.1 y.2.2.1 z.2.2.1; have h4 := df_tri x.2.2.2 y.2.2.2 z.2.2.2
  unfold dist; omega
theorem zyc {p q r s p' q' r' s' u v n i i' : Int} {k : Nat} (h4 : i < 4) (h0 : 0 ≤ i) (hu : rd [p, q, r, s] i = u) (hv : rd [p', q', r', s'] i = v) (hi : wrap64 (i + 1) = i') (hn : wrap64 (n + 1) = n + 1) :
    impl_distance.l0 (k + 1) n i p q r s p' q' r' s' = impl_distance.l0 k (n + df u v) i' p q r s p' q' r' s' ∧ spec_l04Distance.l0 (k + 1) n i p q r s p' q' r' s' = spec_l04Distance.l0 k (n + df u v) i' p q r s p' q' r' s' := by
  rw [impl_distance.l0, spec_l04Distance.l0, if_pos h4, if_pos h0, if_pos h4, if_pos h0, hu, hv, hi, hn]
  unfold df
  by_cases h : u = v
  · rw [if_pos h, if_pos h, if_pos h, Int.add_zero]; exact ⟨rfl, rfl⟩
  · rw [if_neg h, if_neg h, if_neg h]; exact ⟨rfl, rfl⟩
theorem distance_f (x y : T4) (k : Nat) (hk : 5 < k) : impl_distance.f k x.1 x.2.1 x.2.2.1 x.2.2.2 y.1 y.2.1 y.2.2.1 y.2.2.2 = some (dist x y) ∧ spec_l04Distance.f k x.1 x.2.1 x.2.2.1 x.2.2.2 y.1 y.2.1 y.2.2.1 y.2.2.2 = some (dist x y) := by
  obtain ⟨k, rfl⟩ : ∃ m, k = m + 1 + 1 + 1 + 1 + 1 := ⟨k - 5, by omega⟩
  unfold impl_distance.f spec_l04Distance.f
  obtain ⟨p, q, r, s⟩ := x
  obtain ⟨p', q', r', s'⟩ := y
  show impl_distance.l0 _ 0 0 p q r s p' q' r' s' = some (dist (p, q, r, s) (p', q', r', s')) ∧ spec_l04Distance.l0 _ 0 0 p q r s p' q' r' s' = some (dist (p, q, r, s) (p', q', r', s'))
  have e1 := df_01 p p'; have e2 := df_01 q q'; have e3 := df_01 r r'
  have g : ∀ n : Int, 0 ≤ n → n ≤ 4 → wrap64 (n + 1) = n + 1 := fun n h1 h2 => by unfold wrap64; omega
  have s0 := fun k => zyc (p := p) (q := q) (r := r) (s := s) (p' := p') (q' := q') (r' := r') (s' := s') (n := 0) (i := 0) (k := k) (by decide) (by decide) rfl rfl wn_0 (g 0 (by decide) (by decide))
  have s1 := fun k => zyc (p := p) (q := q) (r := r) (s := s) (p' := p') (q' := q') (r' := r') (s' := s') (n := 0 + df p p') (i := 1) (k := k) (by decide) (by decide) rfl rfl wn_1 (g _ (by omega) (by omega))
  have s2 := fun k => zyc (p := p) (q := q) (r := r) (s := s) (p' := p') (q' := q') (r' := r') (s' := s') (n := 0 + df p p' + df q q') (i := 2) (k := k) (by decide) (by decide) rfl rfl wn_2 (g _ (by omega) (by omega))
  have s3 := fun k => zyc (p := p) (q := q) (r := r) (s := s) (p' := p') (q' := q') (r' := r') (s' := s') (n := 0 + df p p' + df q q' + df r r') (i := 3) (k := k) (by decide) (by decide) rfl rfl wn_3 (g _ (by omega) (by omega))
  refine ⟨?_, ?_⟩
  · refine (s0 _).1.trans ((s1 _).1.trans ((s2 _).1.trans ((s3 _).1.trans ?_)))
    rw [impl_distance.l0, if_neg (by decide)]
    unfold dist; rw [Int.zero_add]; rfl
  · refine (s0 _).2.trans ((s1 _).2.trans ((s2 _).2.trans ((s3 _).2.trans ?_)))
    rw [spec_l04Distance.l0, if_neg (by decide)]
    unfold dist; rw [Int.zero_add]; rfl

end Go.Proofs.Ytmfbcklaomigaaa.N
