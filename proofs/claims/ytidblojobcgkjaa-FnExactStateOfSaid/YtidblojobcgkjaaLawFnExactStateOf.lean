-- Written by wip/tools/myprint.py, a program of this session, by way of the kit's print.
import Derived.Test.YtidblojobcgkjaaRows
import Derived.Test.YtidblojobcgkjaaMx12
import Derived.Test.YtidblojobcgkjaaSFnExactStateOf
import Derived.Test.YtidblojobcgkjaaPureFnExactStateOf
import Derived.Test.YtidblojobcgkjaaZRead
import Derived.WalkKit
import Derived.ProofKit
import Derived.OpenShut
import Derived.ShutString
import Derived.ChangeOld
import Derived.Below
import Derived.SizedLaws
import Derived.Carry
namespace Go.Proofs.Ytidblojobcgkjaa.fnExactStateOf
open Go.ChangeShapes Go.WideShapes Go.ChangeAt Go.RowKit Go.Proofs.Ytidblojobcgkjaa.M Go.Proofs.YtidblojobcgkjaaZ Go.Proofs.YtidblojobcgkjaaW.PrintWords Go.Proofs.YtidblojobcgkjaaW.PrintLast Go.Proofs.YtidblojobcgkjaaW.PrintMore
open Go.ChangeMaps (open_string shut_string)
set_option linter.unusedVariables false
set_option linter.unusedSimpArgs false
theorem own : ownKnob Try.prog.godebug = none := by kernel_rfl
theorem laidOut : laidOutB Try.prog = true := by kernel_rfl
theorem rdT64 {H : Type} {enc : TypeId × Value → H} {w : World} {fuel : Nat} {cs : List Value} {x : DataW H × List MemPlace} (h : DataW.trod enc Try.prog w 0 (fun _ => true) true fuel 64 cs = some x) : ∃ a : S64, k64.K w a cs ∧ wf64 a := by
 have hl_1 := len_struct Try.underlying64 h 2 (by kernel_rfl)
 obtain ⟨c0, crc_0, rfl, hl_2⟩ := cons_of hl_1
 obtain ⟨c1, crc_1, rfl, hl_3⟩ := cons_of hl_2
 obtain rfl := nil_of hl_3
 obtain ⟨m_4, y_5, h_6⟩ := field_at Try.underlying64 h 0 _ rfl 0 1 rfl (by kernel_rfl)
 replace h_6 : DataW.trod enc Try.prog w 0 (fun _ => true) true m_4 58 [c0] = some y_5 := h_6
 obtain ⟨a0_0, e_7, w0_0⟩ := (rd_int Try.underlying58) h_6
 obtain rfl : c0 = Value.int .u64 a0_0 := (List.cons.inj (show [c0] = [Value.int .u64 a0_0] from e_7)).1
 obtain ⟨m_8, y_9, h_10⟩ := field_at Try.underlying64 h 1 _ rfl 1 1 rfl (by kernel_rfl)
 replace h_10 : DataW.trod enc Try.prog w 0 (fun _ => true) true m_8 4 [c1] = some y_9 := h_10
 obtain ⟨a0_1, e_11, w0_1⟩ := (rd_bool Try.underlying4) h_10
 obtain rfl : c1 = Value.bool a0_1 := (List.cons.inj (show [c1] = [Value.bool a0_1] from e_11)).1
 exact ⟨(⟨a0_0, a0_1⟩ : S64), k64_mk w (⟨a0_0, a0_1⟩ : S64), ⟨w0_0, trivial⟩⟩
set_option maxHeartbeats 1000000 in
set_option maxRecDepth 100000 in
theorem lifted (os : Os) (started : os.Started) (H : Type) (enc : TypeId × Value → H) :
  ReturnsInHanded {} Try.checked os 4 .any (Rows.fnExactStateOfSpec.pre6 enc Try.prog Try.f4 Rows.fnExactStateOfRow.domain false) (Rows.fnExactStateOfSpec.post enc Try.prog Try.f4 false true false false) := by
 refine returnsInHanded_of_change_sized (C := Try.checked) own started (by kernel_rfl) Try.func4
  (ChangeSpec.witness6 (enc := enc) (C := Try.checked) false ⟨#[], #[.agg #[.int .i8 0, .int .i8 0, .slice none 0 0]], []⟩ 8 (by kernel_rfl) (by kernel_rfl) (by kernel_rfl) (by kernel_rfl)) ?_
 intro W base args ds gs before hval0 hW hcnd hsz0 _
 have hsz : (DataW.weightsEach Try.prog (Try.f4.params.toList ++ Rows.fnExactStateOfSpec.plain.varTypes Try.prog) (ds ++ gs)).all (· ≤ reachBytes) = true := hsz0
 have hval : ∀ (j : Nat) t v, Try.f4.params[j]? = some t → args[j]? = some v → Value.okWide Try.prog W .any base t v := hval0
 have hW' := hW
 obtain ⟨p, q, hA0, hV, rfl, hfz, hnd⟩ := hW
 have hA : DataW.TrodAll enc Try.prog W 0 (fun _ => true) true Try.f4.params.toList args.toList ds p := hA0
 rw [Try.params4] at hA hval hsz
 obtain ⟨v0, vs0, d0, ds0, p0, q0, hargs, rfl, rfl, h0, r0⟩ := trodAll_cons hA
 obtain ⟨rfl, rfl, rfl⟩ := trodAll_nil r0
 obtain rfl : args = #[v0] := by cases args; simp_all
 obtain ⟨rfl, rfl⟩ := trodVars_none hV
 obtain ⟨cs0, rfl⟩ := agg_of Try.underlying32 (hval 0 32 v0 rfl rfl)
 have k0 := h0
 have lt0 : ∀ x ∈ p0, x.block < W.heap.size := by obtain ⟨m, hm⟩ := k0; exact DataW.trod_lt m _ _ _ hm
 obtain ⟨fuel0, hf0⟩ := h0
 replace hf0 : DataW.trod enc Try.prog W 0 (fun _ => true) true fuel0 32 cs0 = some (d0, p0) := hf0
 have hl_12 := len_struct Try.underlying32 hf0 3 (by kernel_rfl)
 obtain ⟨c0x0, crc0x_0, rfl, hl_13⟩ := cons_of hl_12
 obtain ⟨c0x1, crc0x_1, rfl, hl_14⟩ := cons_of hl_13
 obtain ⟨c0x2, crc0x_2, rfl, hl_15⟩ := cons_of hl_14
 obtain rfl := nil_of hl_15
 obtain ⟨m_16, y_17, h_18⟩ := field_at Try.underlying32 hf0 0 _ rfl 0 1 rfl (by kernel_rfl)
 replace h_18 : DataW.trod enc Try.prog W 0 (fun _ => true) true m_16 29 [c0x0] = some y_17 := h_18
 obtain ⟨a0_0, e_19, w0_0⟩ := (rd_int Try.underlying29) h_18
 obtain rfl : c0x0 = Value.int .i8 a0_0 := (List.cons.inj (show [c0x0] = [Value.int .i8 a0_0] from e_19)).1
 obtain ⟨m_20, y_21, h_22⟩ := field_at Try.underlying32 hf0 1 _ rfl 1 1 rfl (by kernel_rfl)
 replace h_22 : DataW.trod enc Try.prog W 0 (fun _ => true) true m_20 29 [c0x1] = some y_21 := h_22
 obtain ⟨a0_1, e_23, w0_1⟩ := (rd_int Try.underlying29) h_22
 obtain rfl : c0x1 = Value.int .i8 a0_1 := (List.cons.inj (show [c0x1] = [Value.int .i8 a0_1] from e_23)).1
 obtain ⟨m_24, y_25, h_26⟩ := field_at Try.underlying32 hf0 2 _ rfl 2 1 rfl (by kernel_rfl)
 replace h_26 : DataW.trod enc Try.prog W 0 (fun _ => true) true m_24 30 [c0x2] = some y_25 := h_26
 obtain ⟨l0_2, e_27, hm0_2, hw0_2⟩ := (rd_slice Try.underlying30 (by kernel_rfl) (fun h_ => rdT64 h_)) h_26
 obtain ⟨A0_2, c0_2, e_27, hc0_2, hr0_2⟩ := e_27
 obtain rfl : c0x2 = Value.slice A0_2 l0_2.length c0_2 := (List.cons.inj (show [c0x2] = [Value.slice A0_2 l0_2.length c0_2] from e_27)).1
 obtain ⟨k, hk⟩ := Pure.FnExactStateOf a0_0 a0_1 l0_2 w0_0 w0_1 hm0_2 hw0_2
 clear hA0 hval0 hsz0 hsz
 refine (laws_FnExactStateOf.calls k a0_0 a0_1 _ _ l0_2 true W hr0_2 hc0_2 hk).mono fun e W' ⟨he, bel0⟩ => ?_
 have bel : Below W.heap.size W W' := bel0
 subst he
 exact ⟨_, rfl, _, _, _, [], _, [], hW', trodAll_mk1 (shut_bool Try.underlying4 _), (trodAll_cons_mk (Below.trod laidOut (by kernel_rfl) (of_decide_eq_true (by kernel_rfl)) k0 bel lt0) trodAll_mk0), rfl, bel.frame _, fun h => by cases h⟩
theorem over : Rows.fnExactStateOfRow.holds Try.pinned (OpenSpec.ofChange Rows.fnExactStateOfSpec) :=
 OpenClaim.holds_of_wide 4 Try.f4 rfl rfl rfl rfl rfl rfl rfl ⟨rfl, rfl, rfl, rfl, rfl⟩ rfl rfl rfl rfl rfl (by kernel_rfl) Try.func4 (by kernel_rfl)
  (of_decide_eq_true (by kernel_rfl)) (by unfold Func.isWrapper; first | (rw [if_pos (by decide +kernel)]; kernel_rfl) | (rw [if_neg (by decide +kernel)]; exact ⟨rfl, rfl⟩))
  (fun os started H enc _ => lifted os started H enc)
theorem proved : Rows.FnExactStateOfSaid := over
#print axioms proved
end Go.Proofs.Ytidblojobcgkjaa.fnExactStateOf
namespace Go.Proofs.Ytidblojobcgkjaa
/-- The row, under a short name, for the claim. -/
theorem fnExactStateOf_holds : Rows.FnExactStateOfSaid := fnExactStateOf.proved
end Go.Proofs.Ytidblojobcgkjaa
