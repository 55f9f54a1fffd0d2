/- strings.Split and strings.IndexByte in the print's words; a copy into a box of four cells. -/
import Derived.Test.YtmfbcklaomigaaaDoorDx0
import Derived.Test.YtmfbcklaomigaaaDoorLShfD
namespace Go.Proofs.YtmfbcklaomigaaaDoor.D
open Go.RowKit Go.Proofs.YtmfbcklaomigaaaDoorW.PrintWords Go.Proofs.YtmfbcklaomigaaaDoorW.PrintLast Go.Proofs.YtmfbcklaomigaaaDoorW.PrintMore
set_option linter.unusedVariables false
set_option linter.unusedSimpArgs false
/-- internal/bytealg.MaxLen holds a whole number. -/
abbrev MaxL (w : World) : Prop := ∃ m : Int, w.cell? ⟨0, 0, none⟩ = some (.int .i64 m)
theorem MaxL.below {w w' : World} (h : MaxL w) (hb : Below w.heap.size w w') : MaxL w' := by
 obtain ⟨m, h⟩ := h
 exact ⟨m, (hb.cell (World.block_lt_of_cell? _ _ h)).trans h⟩
theorem MaxL.drew {w : World} (h : MaxL w) : MaxL w.drew := h.below (below_drew (Below.refl _ _))
def strings_Split.f (a0 : ByteArray) (a1 : ByteArray) : Option (List ByteArray) := if a0.size < 4294967281 then (if 1 ≤ a1.size then some (Lib.splitB a1 0 (Lib.countB a0 a1) a0) else none) else none
theorem strings_Split.calls (a0 : ByteArray) (a1 : ByteArray) (r : List ByteArray) (w : World) (hm : MaxL w) (h : strings_Split.f a0 a1 = some r) :
  Calls Tryd.prog 26 #[.string a0, .string a1] w fun e w' => ∃ v0_ : Value, e = .returned (v0_) ∧ Kd.R Kd.string 9 w' w.heap.size (fun _ => True) v0_ r ∧ Below w.heap.size w w' := by
 unfold strings_Split.f at h
 by_cases h1 : a0.size < 4294967281
 · rw [if_pos h1] at h
   by_cases h2 : 1 ≤ a1.size
   · rw [if_pos h2] at h
     obtain rfl := Option.some.inj h
     obtain ⟨m, hm⟩ := hm
     refine (lib_strings_Split a0 a1 m w h1 hm h2).mono fun e w' ⟨he, hw⟩ => ⟨_, he, ?_, ?_⟩
     · rw [hw]
       have hl := Lib.splitB_all a1 h2 0 _ a0 rfl
       have hle := Lib.countB_le a1 h2 a0.size a0 (Nat.le_refl _)
       refine Kd.R_of_own ?_ (fun _ _ => trivial)
       have ho := World.ownsRow_lit (base := w.heap.size) (e := 9) (size := 1) w ((Lib.splitB a1 0 (Lib.countB a0 a1) a0).map Value.string).toArray (Lib.countB a0 a1 + 1) (Nat.le_refl _) (by simp only [maxLen]; omega) (by simp [hl])
       rw [hl]
       simpa [encs] using ho
     · rw [hw]
       exact below_alloc (Below.refl _ _) _
   · rw [if_neg h2] at h
     exact absurd h (by simp)
 · rw [if_neg h1] at h
   exact absurd h (by simp)
def strings_IndexByte.f (a0 : ByteArray) (a1 : Int) : Option (Int) := some (Lib.indexByte a0.data.toList a1.toNat.toUInt8)
theorem strings_IndexByte.calls (a0 : ByteArray) (a1 : Int) (r : Int) (w : World) (h : strings_IndexByte.f a0 a1 = some r) :
  Calls Tryd.prog 61 #[.string a0, .int .u8 a1] w fun e w' => e = .returned (.int .i64 r) ∧ Drawn0 w w' := by
 obtain rfl := Option.some.inj h
 refine (lib_strings_IndexByte a0 a1 w).mono fun e w' ⟨he, hw⟩ => ⟨he, ?_⟩
 rw [hw]
 exact Drawn0.refl _
/-- All but the first. -/
def rest1 (l : List ByteArray) : Option (List ByteArray) := some (l.drop 1)
def pad (l : List Int) (j : Nat) : Int := l.getD j 0
def padW (l : List Int) : S35 := ⟨pad l 0, pad l 1, pad l 2, pad l 3⟩
theorem pad4 (a b c d : Value) (l : List Value) (cur : Array Value) (hc : cur.toList = l.take 4 ++ [a, b, c, d].drop (l.take 4).length) : cur = #[l.getD 0 a, l.getD 1 b, l.getD 2 c, l.getD 3 d] := by
 apply Array.toList_inj.mp
 rw [hc]
 rcases l with _ | ⟨x0, _ | ⟨x1, _ | ⟨x2, _ | ⟨x3, t⟩⟩⟩⟩ <;> simp
theorem copy_box {P : Program} {ops : Array Oper} {rest : List Oper} {o : Oper} {a : Act} {Q : Exit → Act → World → Prop} {w0 W : World} (base : Nat) (hgd : o.guard = none) (s x : Operand) (t t' e : TypeId)
  (ho : o.op = .call { callee := .builtin .copy, args := #[s, x], argTypes := #[t, t'] }) (ht : P.underlying t = some (.slice e)) (hinfo : (P.info? e).map (·.size) = some 1)
  (g T : Nat) (ys : List Int) (A : Option Addr) (m c : Nat) (hs : a.eval s = .slice (some ⟨g, 0, none⟩) 4 4) (hx : a.eval x = .slice A m c)
  (HR : (Kd.int .i8).C W A m ys) (hb : W.heap[g]? = some (.cells #[.int .i8 0, .int .i8 0, .int .i8 0, .int .i8 0] T (0, 0))) (HB : Below base w0 W) (hg : base ≤ g)
  (h : ∀ w1, w1.heap[g]? = some (.cells #[.int .i8 (pad ys 0), .int .i8 (pad ys 1), .int .i8 (pad ys 2), .int .i8 (pad ys 3)] T (0, 0)) → Below base w0 w1 → W.grownBy w1 (some g) → wpList P ops Q rest (a.put o.dst (.int .i64 ((min m 4 : Nat) : Int))) w1) :
  wpList P ops Q (o :: rest) a W := by
 have hR := Kd.reads_of_C (enc := Value.int .i8) (d := 0) HR
 have hm : ys.length = m := hR.1
 have fin : ∀ w1, (Builtin.copy_ #[t, t'] o.type #[.slice (some ⟨g, 0, none⟩) 4 4, .slice A m c]).run P W = .ok (goInt ((min m 4 : Nat) : Int)) w1 → w1.heap[g]? = some (.cells #[.int .i8 (pad ys 0), .int .i8 (pad ys 1), .int .i8 (pad ys 2), .int .i8 (pad ys 3)] T (0, 0)) → W.grownBy w1 (some g) → wpList P ops Q (o :: rest) a W := by
  intro w1 hr hrow hgr
  refine wpList_plain hgd fun K hK => ?_
  unfold Oper.wp execOp
  simp only [ho, resolve, invoke, builtin, Sem.run_bind, Sem.run_pure, Result.andThen_ok, List.map_toArray, List.map_cons, List.map_nil, hs, hx, hr]
  exact hK _ _ (h w1 hrow (HB.grown hgr (by have := blk_lt hb; omega) (fun k hk => by injection hk with hk; omega)) hgr)
 rcases Nat.eq_zero_or_pos (min m 4) with h0 | hp
 · have hy : ys = [] := List.eq_nil_of_length_eq_zero (by omega)
   refine fin W ?_ (by rw [hb, hy]; rfl) (World.grownBy.refl W _)
   rw [h0]
   exact run_copy_none W t t' o.type e (some ⟨g, 0, none⟩) A 4 4 m c ht hinfo h0
 · obtain ⟨ad, hA, hc⟩ := hR.2.2 (by omega)
   have hsrc : ∀ j u, (encs (Value.int .i8) (ys.take 4))[j]? = some u → W.cell? (ad.add j) = some u := by
    intro j u hu
    have hj : j < (ys.take 4).length := by
     rcases Nat.lt_or_ge j (ys.take 4).length with h | h
     · exact h
     · rw [List.getElem?_eq_none (by rw [encs_length]; exact h)] at hu
       cases hu
    have hjm : j < m ∧ j < 4 := by rw [List.length_take] at hj; omega
    rw [encs_get (d := 0) _ j hj] at hu
    rw [hc j hjm.1, ← hu]
    simp [List.getD_eq_getElem?_getD, hjm.2]
   have hkl : (encs (Value.int .i8) (ys.take 4)).length = min m 4 := by rw [encs_length, List.length_take]; omega
   have hr := run_copy_cells (P := P) W t t' o.type e g 0 4 4 ad m c (encs (Value.int .i8) (ys.take 4)) ht hinfo (by rw [hkl]) hsrc
    (fun j hj => by rw [cell_of_row W g _ _ T (0, 0) hb]; simp; omega) (fun j _ => blk_frozen hb _) (by intro u hu; simp only [encs, List.mem_map] at hu; obtain ⟨q, _, rfl⟩ := hu; rfl)
   obtain ⟨cur', h3, h4, h5⟩ := setCells_row (encs (Value.int .i8) (ys.take 4)) 0 W _ hb (by rw [hkl]; simp; omega)
   obtain ⟨s1, s2, s3, s4⟩ := setCells_same g (encs (Value.int .i8) (ys.take 4)) 0 W
   refine fin _ (by rw [hA, hr, hkl]) ?_ ⟨s1, s2, s3, by rw [s4]; exact Nat.le_refl _, fun k _ hk => setCells_far _ _ k (fun he => hk (by rw [he]))⟩
   rw [h3]
   have e5 := pad4 (.int .i8 0) (.int .i8 0) (.int .i8 0) (.int .i8 0) (encs (Value.int .i8) ys) cur' (by rw [h5]; simp [encs, List.map_take])
   rw [e5]
   simp [encs, pad, List.getD_eq_getElem?_getD, Option.getD_map]
end Go.Proofs.YtmfbcklaomigaaaDoor.D
