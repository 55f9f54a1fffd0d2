-- Written by wip/tools/myprint.py, a program of this session, by way of the kit's print.
import Derived.Test.YtikdnhhegknplaaRows
import Derived.Test.YtikdnhhegknplaaXx14
import Derived.Test.YtikdnhhegknplaaSFnExactCrossWith
import Derived.Test.YtikdnhhegknplaaPureFnExactCrossWith
import Derived.Test.YtikdnhhegknplaaZRead
import Derived.WalkKit
import Derived.ProofKit
import Derived.OpenShut
import Derived.ShutString
import Derived.ChangeOld
import Derived.Below
import Derived.SizedLaws
import Derived.Carry
namespace Go.Proofs.Ytikdnhhegknplaa.fnExactCrossWith
open Go.ChangeShapes Go.WideShapes Go.ChangeAt Go.RowKit Go.Proofs.Ytikdnhhegknplaa.X Go.Proofs.YtikdnhhegknplaaZ Go.Proofs.YtikdnhhegknplaaW.PrintWords Go.Proofs.YtikdnhhegknplaaW.PrintLast Go.Proofs.YtikdnhhegknplaaW.PrintMore
open Go.ChangeMaps (open_string shut_string)
set_option linter.unusedVariables false
set_option linter.unusedSimpArgs false
theorem own : ownKnob Try.prog.godebug = none := by kernel_rfl
theorem laidOut : laidOutB Try.prog = true := by kernel_rfl
set_option maxHeartbeats 1000000 in
set_option maxRecDepth 100000 in
theorem lifted (os : Os) (started : os.Started) (H : Type) (enc : TypeId × Value → H) :
    ReturnsInHanded {} Try.checked os 11 .any (Rows.fnExactCrossWithSpec.pre6 enc Try.prog Try.f11 Rows.fnExactCrossWithRow.domain false) (Rows.fnExactCrossWithSpec.post enc Try.prog Try.f11 false true false false) := by
  refine returnsInHanded_of_change_sized (C := Try.checked) own started (by kernel_rfl) Try.func11
    (ChangeSpec.witness6 (enc := enc) (C := Try.checked) false ⟨#[], #[.agg #[.int .i8 0, .int .i8 0, .slice none 0 0], .agg #[.int .u16 0, .bool false], .int .u16 0], []⟩ 8 (by kernel_rfl) (by kernel_rfl) (by kernel_rfl) (by kernel_rfl)) ?_
  intro W base args ds gs before hval0 hW hcnd hsz0 _
  have hsz : (DataW.weightsEach Try.prog (Try.f11.params.toList ++ Rows.fnExactCrossWithSpec.plain.varTypes Try.prog) (ds ++ gs)).all (· ≤ reachBytes) = true := hsz0
  have hval : ∀ (j : Nat) t v, Try.f11.params[j]? = some t → args[j]? = some v → Value.okWide Try.prog W .any base t v := hval0
  have hW' := hW
  obtain ⟨p, q, hA0, hV, rfl, hfz, hnd⟩ := hW
  have hA : DataW.TrodAll enc Try.prog W 0 (fun _ => true) true Try.f11.params.toList args.toList ds p := hA0
  rw [Try.params11] at hA hval hsz
  obtain ⟨v0, vs0, d0, ds0, p0, q0, hargs, rfl, rfl, h0, r0⟩ := trodAll_cons hA
  obtain ⟨v1, vs1, d1, ds1, p1, q1, rfl, rfl, rfl, h1, r1⟩ := trodAll_cons r0
  obtain ⟨v2, vs2, d2, ds2, p2, q2, rfl, rfl, rfl, h2, r2⟩ := trodAll_cons r1
  obtain ⟨rfl, rfl, rfl⟩ := trodAll_nil r2
  obtain rfl : args = #[v0, v1, v2] := by cases args; simp_all
  obtain ⟨rfl, rfl⟩ := trodVars_none hV
  obtain ⟨cs0, rfl⟩ := agg_of Try.underlying25 (hval 0 25 v0 rfl rfl)
  have k0 := h0
  have lt0 : ∀ x ∈ p0, x.block < W.heap.size := by obtain ⟨m, hm⟩ := k0; exact DataW.trod_lt m _ _ _ hm
  obtain ⟨fuel0, hf0⟩ := h0
  replace hf0 : DataW.trod enc Try.prog W 0 (fun _ => true) true fuel0 25 cs0 = some (d0, p0) := hf0
  have hl_1 := len_struct Try.underlying25 hf0 3 (by kernel_rfl)
  obtain ⟨c0x0, crc0x_0, rfl, hl_2⟩ := cons_of hl_1
  obtain ⟨c0x1, crc0x_1, rfl, hl_3⟩ := cons_of hl_2
  obtain ⟨c0x2, crc0x_2, rfl, hl_4⟩ := cons_of hl_3
  obtain rfl := nil_of hl_4
  obtain ⟨m_5, y_6, h_7⟩ := field_at Try.underlying25 hf0 0 _ rfl 0 1 rfl (by kernel_rfl)
  replace h_7 : DataW.trod enc Try.prog W 0 (fun _ => true) true m_5 22 [c0x0] = some y_6 := h_7
  obtain ⟨a0_0, e_8, w0_0⟩ := (rd_int Try.underlying22) h_7
  obtain rfl : c0x0 = Value.int .i8 a0_0 := (List.cons.inj (show [c0x0] = [Value.int .i8 a0_0] from e_8)).1
  obtain ⟨m_9, y_10, h_11⟩ := field_at Try.underlying25 hf0 1 _ rfl 1 1 rfl (by kernel_rfl)
  replace h_11 : DataW.trod enc Try.prog W 0 (fun _ => true) true m_9 22 [c0x1] = some y_10 := h_11
  obtain ⟨a0_1, e_12, w0_1⟩ := (rd_int Try.underlying22) h_11
  obtain rfl : c0x1 = Value.int .i8 a0_1 := (List.cons.inj (show [c0x1] = [Value.int .i8 a0_1] from e_12)).1
  obtain ⟨m_13, y_14, h_15⟩ := field_at Try.underlying25 hf0 2 _ rfl 2 1 rfl (by kernel_rfl)
  replace h_15 : DataW.trod enc Try.prog W 0 (fun _ => true) true m_13 23 [c0x2] = some y_14 := h_15
  obtain ⟨l0_2, e_16, hm0_2, hw0_2⟩ := (rd_slice Try.underlying23 (by kernel_rfl) (fun h_ => (rd_int Try.underlying35) h_)) h_15
  obtain ⟨A0_2, c0_2, e_16, hc0_2, hr0_2⟩ := e_16
  obtain rfl : c0x2 = Value.slice A0_2 l0_2.length c0_2 := (List.cons.inj (show [c0x2] = [Value.slice A0_2 l0_2.length c0_2] from e_16)).1
  obtain ⟨cs1, rfl⟩ := agg_of Try.underlying39 (hval 1 39 v1 rfl rfl)
  have k1 := h1
  have lt1 : ∀ x ∈ p1, x.block < W.heap.size := by obtain ⟨m, hm⟩ := k1; exact DataW.trod_lt m _ _ _ hm
  obtain ⟨fuel1, hf1⟩ := h1
  replace hf1 : DataW.trod enc Try.prog W 0 (fun _ => true) true fuel1 39 cs1 = some (d1, p1) := hf1
  have hl_17 := len_struct Try.underlying39 hf1 2 (by kernel_rfl)
  obtain ⟨c1x0, crc1x_0, rfl, hl_18⟩ := cons_of hl_17
  obtain ⟨c1x1, crc1x_1, rfl, hl_19⟩ := cons_of hl_18
  obtain rfl := nil_of hl_19
  obtain ⟨m_20, y_21, h_22⟩ := field_at Try.underlying39 hf1 0 _ rfl 0 1 rfl (by kernel_rfl)
  replace h_22 : DataW.trod enc Try.prog W 0 (fun _ => true) true m_20 35 [c1x0] = some y_21 := h_22
  obtain ⟨a1_0, e_23, w1_0⟩ := (rd_int Try.underlying35) h_22
  obtain rfl : c1x0 = Value.int .u16 a1_0 := (List.cons.inj (show [c1x0] = [Value.int .u16 a1_0] from e_23)).1
  obtain ⟨m_24, y_25, h_26⟩ := field_at Try.underlying39 hf1 1 _ rfl 1 1 rfl (by kernel_rfl)
  replace h_26 : DataW.trod enc Try.prog W 0 (fun _ => true) true m_24 4 [c1x1] = some y_25 := h_26
  obtain ⟨a1_1, e_27, w1_1⟩ := (rd_bool Try.underlying4) h_26
  obtain rfl : c1x1 = Value.bool a1_1 := (List.cons.inj (show [c1x1] = [Value.bool a1_1] from e_27)).1
  obtain ⟨a2, rfl, rfl, rfl, w2⟩ := open_int Try.underlying35 (hval 2 35 v2 rfl rfl) h2
  obtain ⟨k, hk⟩ := Pure.FnExactCrossWith a0_0 a0_1 l0_2 a1_0 a1_1 a2 w0_0 w0_1 hm0_2 hw0_2 w1_0 w2
  clear hA0 hval0 hsz0 hsz
  refine (laws_FnExactCrossWith.calls k a0_0 a0_1 _ _ l0_2 a1_0 a1_1 a2 true W hr0_2 hc0_2 hk).mono fun e W' ⟨he, bel0⟩ => ?_
  have bel : Below W.heap.size W W' := bel0
  subst he
  exact ⟨_, rfl, _, _, _, [], _, [], hW', trodAll_mk1 (shut_bool Try.underlying4 _), (trodAll_cons_mk (Below.trod laidOut (by kernel_rfl) (of_decide_eq_true (by kernel_rfl)) k0 bel lt0) (trodAll_cons_mk (Below.trod laidOut (by kernel_rfl) (of_decide_eq_true (by kernel_rfl)) k1 bel lt1) (trodAll_cons_mk (shut_int Try.underlying35 w2) trodAll_mk0))), rfl, bel.frame _, fun h => by cases h⟩
theorem over : Rows.fnExactCrossWithRow.holds Try.pinned (OpenSpec.ofChange Rows.fnExactCrossWithSpec) :=
  OpenClaim.holds_of_wide 11 Try.f11 rfl rfl rfl rfl rfl rfl rfl ⟨rfl, rfl, rfl, rfl, rfl⟩ rfl rfl rfl rfl rfl (by kernel_rfl) Try.func11 (by kernel_rfl)
    (of_decide_eq_true (by kernel_rfl)) (by unfold Func.isWrapper; first | (rw [if_pos (by decide +kernel)]; kernel_rfl) | (rw [if_neg (by decide +kernel)]; exact ⟨rfl, rfl⟩))
    (fun os started H enc _ => lifted os started H enc)
theorem proved : Rows.FnExactCrossWithSaid := over
#print axioms proved
end Go.Proofs.Ytikdnhhegknplaa.fnExactCrossWith
namespace Go.Proofs.Ytikdnhhegknplaa
/-- The row, under a short name, for the claim. -/
theorem fnExactCrossWith_holds : Rows.FnExactCrossWithSaid := fnExactCrossWith.proved
end Go.Proofs.Ytikdnhhegknplaa
