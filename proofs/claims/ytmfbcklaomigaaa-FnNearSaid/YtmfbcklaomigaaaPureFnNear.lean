/- Proved: of each drawn fixed plan and case, what is decoded near is told and alone where the distance allows it. No conditions. -/
import Derived.Test.YtmfbcklaomigaaaLNDecN
import Derived.Test.YtmfbcklaomigaaaLNDistN
import Derived.Test.YtmfbcklaomigaaaLNDrawN
import Derived.Test.YtmfbcklaomigaaaLNLeastN
import Derived.Test.YtmfbcklaomigaaaLNSeenN
import Derived.Test.YtmfbcklaomigaaaLTBaseN
import Derived.Test.YtmfbcklaomigaaaLTCasesN
import Derived.Test.YtmfbcklaomigaaaLTOkN
import Derived.Test.YtmfbcklaomigaaaNx14
import Derived.Test.YtmfbcklaomigaaaNx15
import Derived.Test.YtmfbcklaomigaaaNx2
import Derived.Test.YtmfbcklaomigaaaNx20
import Derived.Test.YtmfbcklaomigaaaNx27
import Derived.Test.YtmfbcklaomigaaaWSized
namespace Go.Proofs.Ytmfbcklaomigaaa.Pure
open Go.RowKit Go.Proofs.Ytmfbcklaomigaaa.N Go.Proofs.YtmfbcklaomigaaaW.PrintWords Go.Proofs.YtmfbcklaomigaaaW.PrintLast Go.Proofs.YtmfbcklaomigaaaW.PrintMore
set_option linter.unusedVariables false
set_option linter.unusedSimpArgs false

theorem u8_wf {a : Int} (h : (Lit.int .u8 a).wf = true) : 0 ≤ a ∧ a ≤ 255 := by simpa [Lit.wf, IntKind.min, IntKind.max, IntKind.signed, IntKind.bits] using h
theorem casesOf_f {a kd : Int} {l : List S43} (hok : okF a kd l = true) (h13 : l.length ≤ 13) (L : List S38) (k : Nat) (h : spec_l04Cases.f k a kd l = some L) : spec_CasesOf.f k (IntKind.i8.wrap (l.length : Int)) kd true false = some (L, 0) := by
  obtain ⟨⟨ha1, ha4⟩, ⟨hk0, hk2⟩, ⟨hl1, hl2⟩, hall⟩ := zuc hok
  have h' : spec_l03Cases.f k (IntKind.i8.wrap (l.length : Int)) kd true false = some L := by
    unfold spec_l04Cases.f at h
    cases e : spec_l03Cases.f k (IntKind.i8.wrap (l.length : Int)) kd true false with
    | none => rw [e] at h; exact absurd h (by simp)
    | some z => rw [e] at h; exact h
  have w8 : IntKind.i8.wrap (l.length : Int) = l.length := zmb (by omega)
  unfold spec_CasesOf.f
  rw [h', w8]
  unfold spec_l03Ok.f spec_l00In.f
  rw [show wrap64 (l.length : Int) = l.length by unfold wrap64; omega, show wrap64 kd = kd by unfold wrap64; omega, if_pos (show (l.length : Int) ≥ 1 by omega), decide_eq_true (show (l.length : Int) ≤ 13 by omega)]
  simp only [Option.bind_some, if_true]
  rw [if_pos (show kd ≥ 0 from hk0), decide_eq_true hk2]
  rfl
def Same (i : Int) (s t : T4) : Prop := (i ≤ 0 → t.1 = s.1) ∧ (i ≤ 1 → t.2.1 = s.2.1) ∧ (i ≤ 2 → t.2.2.1 = s.2.2.1) ∧ (i ≤ 3 → t.2.2.2 = s.2.2.2)
theorem Same_set {i v : Int} {s t : T4} (h : Same i s t) (h0 : 0 ≤ i) (h4 : i < 4) : Same (i + 1) s (zu i 0 v t.1, zu i 1 v t.2.1, zu i 2 v t.2.2.1, zu i 3 v t.2.2.2) ∧
    dist s (zu i 0 v t.1, zu i 1 v t.2.1, zu i 2 v t.2.2.1, zu i 3 v t.2.2.2) = dist s t + (if rd [zu i 0 v t.1, zu i 1 v t.2.1, zu i 2 v t.2.2.1, zu i 3 v t.2.2.2] i = rd [s.1, s.2.1, s.2.2.1, s.2.2.2] i then 0 else 1) := by
  obtain ⟨e0, e1, e2, e3⟩ := h
  have go : i = 0 ∨ i = 1 ∨ i = 2 ∨ i = 3 := by omega
  rcases go with rfl | rfl | rfl | rfl
  · have q := e0 (by decide)
    refine ⟨⟨fun h => absurd h (by decide), fun _ => e1 (by decide), fun _ => e2 (by decide), fun _ => e3 (by decide)⟩, ?_⟩
    show df s.1 v + df s.2.1 t.2.1 + df s.2.2.1 t.2.2.1 + df s.2.2.2 t.2.2.2 = df s.1 t.1 + df s.2.1 t.2.1 + df s.2.2.1 t.2.2.1 + df s.2.2.2 t.2.2.2 + (if v = s.1 then 0 else 1)
    rw [q, zmd, zfc s.1 v]; unfold df; omega
  · have q := e1 (by decide)
    refine ⟨⟨fun h => absurd h (by decide), fun h => absurd h (by decide), fun _ => e2 (by decide), fun _ => e3 (by decide)⟩, ?_⟩
    show df s.1 t.1 + df s.2.1 v + df s.2.2.1 t.2.2.1 + df s.2.2.2 t.2.2.2 = df s.1 t.1 + df s.2.1 t.2.1 + df s.2.2.1 t.2.2.1 + df s.2.2.2 t.2.2.2 + (if v = s.2.1 then 0 else 1)
    rw [q, zmd, zfc s.2.1 v]; unfold df; omega
  · have q := e2 (by decide)
    refine ⟨⟨fun h => absurd h (by decide), fun h => absurd h (by decide), fun h => absurd h (by decide), fun _ => e3 (by decide)⟩, ?_⟩
    show df s.1 t.1 + df s.2.1 t.2.1 + df s.2.2.1 v + df s.2.2.2 t.2.2.2 = df s.1 t.1 + df s.2.1 t.2.1 + df s.2.2.1 t.2.2.1 + df s.2.2.2 t.2.2.2 + (if v = s.2.2.1 then 0 else 1)
    rw [q, zmd, zfc s.2.2.1 v]; unfold df; omega
  · have q := e3 (by decide)
    refine ⟨⟨fun h => absurd h (by decide), fun h => absurd h (by decide), fun h => absurd h (by decide), fun h => absurd h (by decide)⟩, ?_⟩
    show df s.1 t.1 + df s.2.1 t.2.1 + df s.2.2.1 t.2.2.1 + df s.2.2.2 v = df s.1 t.1 + df s.2.1 t.2.1 + df s.2.2.1 t.2.2.1 + df s.2.2.2 t.2.2.2 + (if v = s.2.2.2 then 0 else 1)
    rw [q, zmd, zfc s.2.2.2 v]; unfold df; omega
theorem Same_next {i : Int} {s t : T4} (h : Same i s t) (h0 : 0 ≤ i) (h4 : i < 4) : Same (i + 1) s t ∧ rd [t.1, t.2.1, t.2.2.1, t.2.2.2] i = rd [s.1, s.2.1, s.2.2.1, s.2.2.2] i := by
  obtain ⟨e0, e1, e2, e3⟩ := h
  refine ⟨⟨fun q => e0 (by omega), fun q => e1 (by omega), fun q => e2 (by omega), fun q => e3 (by omega)⟩, ?_⟩
  have go : i = 0 ∨ i = 1 ∨ i = 2 ∨ i = 3 := by omega
  rcases go with rfl | rfl | rfl | rfl
  · exact e0 (by decide)
  · exact e1 (by decide)
  · exact e2 (by decide)
  · exact e3 (by decide)
theorem zhe {s : List Int} (hs : zvd s) (x : Int) : zvd ([x % 256] ++ s) := fun y hy => by
  rcases List.mem_append.mp hy with h | h
  · simp at h; subst h; omega
  · exact hs y h
theorem word_l0 {s1 : List Int} (hs : zvd s1) (hn : s1.length ≤ 4096) (v z a kd : Int) (l : List S43) (c0 : Int) (c1 : Bool) (s : T4) (ha : a ≤ 4) (d : Nat) : ∀ (i : Nat) (t : T4), (i : Int) + d = a → wB a t → Same i s t →
    ∃ t' : T4, wB a t' ∧ ∀ k, laws_FnNear.l0 (k + d) s1 v z (dist s t) i a kd l c0 c1 s.1 s.2.1 s.2.2.1 s.2.2.2 t.1 t.2.1 t.2.2.1 t.2.2.2 = laws_FnNear.l0 k s1 v z (dist s t') a a kd l c0 c1 s.1 s.2.1 s.2.2.1 s.2.2.2 t'.1 t'.2.1 t'.2.2.1 t'.2.2.2 := by
  induction d with
  | zero =>
    intro i t hi ht hsame
    refine ⟨t, ht, fun k => ?_⟩
    rw [show (i : Int) = a by omega]; rfl
  | succ d ih =>
    intro i t hi ht hsame
    have wa : wrap64 a = a := by unfold wrap64; omega
    obtain ⟨p, ep, p0, p1⟩ := zne (zhe hs (i : Int)) 4 (by decide) (by decide)
    obtain ⟨q, eq, q0, q1⟩ := zne (zhe hs (wrap64 ((i : Int) + 7))) 3 (by decide) (by decide)
    have wq : IntKind.i8.wrap (wrap64 (q - 1)) = q - 1 := by rw [show wrap64 (q - 1) = q - 1 by unfold wrap64; omega]; exact zmb (by omega)
    have wi : wrap64 ((i : Int) + 1) = ((i + 1 : Nat) : Int) := by unfold wrap64; omega
    have hd := dist_nn s t
    have wd : wrap64 (dist s t + 1) = dist s t + 1 := by unfold wrap64; omega
    by_cases c : p = 0
    · obtain ⟨sm, sd⟩ := Same_set (v := q - 1) hsame (by omega) (by omega)
      obtain ⟨t', ht', e⟩ := ih (i + 1) _ (by omega) (setW ht (by omega) (by omega) ⟨by omega, by omega⟩) sm
      refine ⟨t', ht', fun k => ?_⟩
      rw [show k + (d + 1) = (k + d) + 1 by omega, laws_FnNear.l0, wa, if_pos (by omega)]
      simp only [Option.bind_some]
      rw [if_pos (by simp only [List.length_cons, List.length_nil]; omega), ep]
      simp only [Option.bind_some]
      rw [if_pos c, if_pos (by simp only [List.length_cons, List.length_nil]; omega), eq]
      simp only [Option.bind_some]
      rw [if_pos (show 0 ≤ (i : Int) by omega), if_pos (show (i : Int) < 4 by omega), wq, wi, wd, ← e k, sd]
      by_cases c2 : rd [zu (i : Int) 0 (q - 1) t.1, zu (i : Int) 1 (q - 1) t.2.1, zu (i : Int) 2 (q - 1) t.2.2.1, zu (i : Int) 3 (q - 1) t.2.2.2] i = rd [s.1, s.2.1, s.2.2.1, s.2.2.2] i
      · rw [if_pos c2, if_pos c2, Int.add_zero]
      · rw [if_neg c2, if_neg c2]
    · obtain ⟨sm, sd⟩ := Same_next hsame (by omega) (by omega)
      obtain ⟨t', ht', e⟩ := ih (i + 1) t (by omega) ht sm
      refine ⟨t', ht', fun k => ?_⟩
      rw [show k + (d + 1) = (k + d) + 1 by omega, laws_FnNear.l0, wa, if_pos (by omega)]
      simp only [Option.bind_some]
      rw [if_pos (by simp only [List.length_cons, List.length_nil]; omega), ep]
      simp only [Option.bind_some]
      rw [if_neg c, if_pos (show 0 ≤ (i : Int) by omega), if_pos (show (i : Int) < 4 by omega), if_pos sd, wi]
      exact e k
theorem FnNear : laws_FnNear.Pure := by
  intro l0 l1 hm0 _ hw0 hm1 _ hw1
  have b0 : zvd l0 := fun x hx => u8_wf (hw0 x hx)
  have b1 : zvd l1 := fun x hx => u8_wf (hw1 x hx)
  unfold laws_FnNear.f laws_f6big.f
  simp only [Option.bind_some]
  by_cases g0 : (l0.length : Int) > 4096
  · exact ⟨1, by rw [decide_eq_true g0, if_pos rfl]; rfl⟩
  rw [decide_eq_false g0]
  simp only [Bool.false_eq_true, if_false]
  by_cases g1 : (l1.length : Int) > 4096
  · exact ⟨1, by rw [decide_eq_true g1]; rfl⟩
  rw [decide_eq_false g1]
  obtain ⟨a, kd, l, ok, hf⟩ := fixed_drawn b0
  obtain ⟨k, hK⟩ : ∃ k : Nat, 5000 ≤ k := ⟨5000, Nat.le_refl _⟩
  by_cases h13 : (l.length : Int) > 13
  · refine ⟨k + 1, ?_⟩
    rw [laws_FnNear.j0, if_neg (by decide), hf k (by omega)]
    simp only [Option.bind_some]
    rw [if_pos h13]
  obtain ⟨⟨ha1, ha4⟩, ⟨hk0, hk2⟩, ⟨hl1, hl2⟩, hall⟩ := zuc ok
  obtain ⟨L, hL, n1, n2, good⟩ := cases_f a kd l ⟨hl1, by omega⟩
  have hx : ∀ x ∈ L, x.f0 < l.length := fun x hx => by rcases good x hx with ⟨e, _⟩ | ⟨_, e, _⟩ <;> omega
  obtain ⟨v, hv, v0, v4, hd⟩ := least_f ok L hL hx n1 n2
  have hp := apart_of L hd
  obtain ⟨t, et, t0, t1⟩ := zne b1 (L.length : Int) (by omega) (by omega)
  obtain ⟨j, rfl⟩ : ∃ j : Nat, t = j := ⟨t.toNat, by omega⟩
  obtain ⟨c, hc⟩ : ∃ c, c = L.getD j z38 := ⟨_, rfl⟩
  have cm : c ∈ L := by rw [hc]; exact zob L j (by omega)
  obtain ⟨d, hda⟩ : ∃ d : Nat, ((0 : Nat) : Int) + d = a := ⟨a.toNat, by omega⟩
  obtain ⟨w, hw, ew⟩ := word_l0 b1 (by omega) v 0 a kd l c.f0 c.f1 (sn l c) ha4 d 0 (sn l c) hda (sn_ok hall c (hx c cm)) ⟨fun _ => rfl, fun _ => rfl, fun _ => rfl, fun _ => rfl⟩
  have dn := dist_nn (sn l c) w
  obtain ⟨g, hg⟩ : ∃ g, g = dist (sn l c) w := ⟨_, rfl⟩
  rw [← hg] at ew dn
  have wa : wrap64 a = a := by unfold wrap64; omega
  have w2 : wrap64 (2 * g) = 2 * g := by unfold wrap64; omega
  have self0 : (if (sn l c).1 = (sn l c).1 then (0 : Int) else 1) = 0 := if_pos rfl
  refine ⟨(k + 1 + 1 + d) + 1 + 1, ?_⟩
  rw [laws_FnNear.j0, if_neg (by decide), hf _ (by omega)]
  simp only [Option.bind_some]
  rw [if_neg h13, casesOf_f ok (by omega) L _ (hL _ (by omega)).1]
  simp only [Option.bind_some]
  rw [(hv _ (by omega)).1, (hv _ (by omega)).2]
  simp only [Option.bind_some, if_true, bne_self_eq_false]
  rw [laws_FnNear.j1, if_neg (by decide), et]
  simp only [Option.bind_some]
  rw [if_pos t0, if_pos t1, zrc, ← hc, seenOf_f ok (by omega) c (good c cm) _ (by omega)]
  simp only [Option.bind_some]
  have ew' := ew (k + 1 + 1)
  rw [zze] at ew'
  refine ew'.trans ?_
  rw [laws_FnNear.l0, wa, if_neg (by omega), (zqe ok L hL hx n2 w hw g dn _ (by omega)).1, (zqe ok L hL hx n2 w hw g dn _ (by omega)).2]
  simp only [Option.bind_some]
  have cz : c ∈ L.filter (near l w g) := List.mem_filter.mpr ⟨cm, by unfold near; exact decide_eq_true (by omega)⟩
  have pz : (L.filter (near l w g)).Pairwise fun x y => v ≤ dist (sn l x) (sn l y) := hp.filter _
  have nz : ∀ x ∈ L.filter (near l w g), dist (sn l x) w ≤ g := fun x hx => of_decide_eq_true (List.mem_filter.mp hx).2
  have last : laws_FnNear.j3 (k + 1) v 0 false a kd l c.f0 c.f1 (sn l c).1 (sn l c).2.1 (sn l c).2.2.1 (sn l c).2.2.2 c.f0 c.f1 = some true := by
    rw [laws_FnNear.j3, if_neg (by decide), if_pos rfl, if_neg (by simp), (zqe ok L hL hx n2 (sn l c) (sn_ok hall c (hx c cm)) 0 ⟨by decide, by decide⟩ k (by omega)).1]
    simp only [Option.bind_some]
    have cz0 : c ∈ L.filter (near l (sn l c) 0) := List.mem_filter.mpr ⟨cm, by unfold near; rw [zze]; rfl⟩
    have pz0 : (L.filter (near l (sn l c) 0)).Pairwise fun x y => v ≤ dist (sn l x) (sn l y) := hp.filter _
    have nz0 : ∀ x ∈ L.filter (near l (sn l c) 0), dist (sn l x) (sn l c) ≤ 0 := fun x hx => of_decide_eq_true (List.mem_filter.mp hx).2
    match L.filter (near l (sn l c) 0), cz0, pz0, nz0 with
    | [], h, _, _ => exact absurd h (by simp)
    | [m], h, _, _ =>
      have e : c = m := by simpa using h
      rw [← e]
      show (if (0 : Int) = 0 then (if (c.f0 == c.f0 && (c.f1 == c.f1)) = true then some true else _) else _) = some true
      rw [if_pos rfl, if_pos (by simp)]
    | x :: y :: r, _, p, n =>
      have hv0 : v ≤ dist (sn l x) (sn l y) := (List.pairwise_cons.mp p).1 y (by simp)
      have h1 := n x (by simp); have h2 := n y (by simp)
      have h3 := dist_tri (sn l x) (sn l c) (sn l y); rw [zye (sn l c) (sn l y)] at h3
      have e : v = 0 := by omega
      show (if (8 : Int) = 0 then _ else (if (8 : Int) = 8 then some (v == 0) else _)) = some true
      rw [if_neg (by decide), if_pos rfl, e]; rfl
  rw [w2]
  match L.filter (near l w g), cz, pz, nz with
  | [], h, _, _ => exact absurd h (by simp)
  | [m], h, _, _ =>
    have e : c = m := by simpa using h
    rw [← e]
    simp only [fin, beq_self_eq_true, Bool.not_true, Bool.or_self, Bool.false_eq_true, if_false, if_true, show ((0 : Int) = 6) = False by simp, show ((8 : Int) = 6) = False by simp, show ((8 : Int) = 0) = False by simp, last, ite_self]
  | x :: y :: r, _, p, n =>
    have hv0 : v ≤ dist (sn l x) (sn l y) := (List.pairwise_cons.mp p).1 y (by simp)
    have h1 := n x (by simp); have h2 := n y (by simp)
    have h3 := dist_tri (sn l x) w (sn l y); rw [zye w (sn l y)] at h3
    simp only [fin, beq_self_eq_true, Bool.not_true, Bool.or_self, Bool.false_eq_true, if_false, if_true, show ((0 : Int) = 6) = False by simp, show ((8 : Int) = 6) = False by simp, show ((8 : Int) = 0) = False by simp]
    rw [if_neg (by omega), laws_FnNear.j3, if_neg (by decide), if_neg (by decide)]
    rfl

end Go.Proofs.Ytmfbcklaomigaaa.Pure
namespace Go.Proofs.Ytmfbcklaomigaaa.PrintWords
/-- The printed row names this theorem by the name that it bears outside of OWN=1. -/
abbrev sized_ints := @Go.Proofs.YtmfbcklaomigaaaW.PrintWords.sized_ints
end Go.Proofs.Ytmfbcklaomigaaa.PrintWords
