-- Written by wip/tools/myprint.py.
import Derived.Test.YtmfbcklaomigaaaRows
import Derived.Test.YtmfbcklaomigaaaMx31
import Derived.Test.YtmfbcklaomigaaaSFnExactTreeOf
import Derived.Test.YtmfbcklaomigaaaPureFnExactTreeOf
import Derived.Test.YtmfbcklaomigaaaZRead
import Derived.WalkKit
import Derived.ProofKit
import Derived.OpenShut
import Derived.ShutString
import Derived.ChangeOld
import Derived.Below
import Derived.SizedLaws
import Derived.Carry
namespace Go.Proofs.Ytmfbcklaomigaaa.fnExactTreeOf
open Go.ChangeShapes Go.WideShapes Go.ChangeAt Go.RowKit Go.Proofs.Ytmfbcklaomigaaa.M Go.Proofs.YtmfbcklaomigaaaZ Go.Proofs.YtmfbcklaomigaaaW.PrintWords Go.Proofs.YtmfbcklaomigaaaW.PrintLast Go.Proofs.YtmfbcklaomigaaaW.PrintMore
open Go.ChangeMaps (open_string shut_string)
set_option linter.unusedVariables false
set_option linter.unusedSimpArgs false
theorem own : ownKnob Try.prog.godebug = none := by kernel_rfl
theorem laidOut : laidOutB Try.prog = true := by kernel_rfl
theorem rdT42 {H : Type} {enc : TypeId × Value → H} {w : World} {fuel : Nat} {cs : List Value} {x : DataW H × List MemPlace} (h : DataW.trod enc Try.prog w 0 (fun _ => true) true fuel 42 cs = some x) : ∃ a : S42, k42.K w a cs ∧ wf42 a := by
 have hl_1 := len_array Try.underlying42 h 4 (by kernel_rfl)
 obtain ⟨c0, crc_0, rfl, hl_2⟩ := zjc hl_1
 obtain ⟨c1, crc_1, rfl, hl_3⟩ := zjc hl_2
 obtain ⟨c2, crc_2, rfl, hl_4⟩ := zjc hl_3
 obtain ⟨c3, crc_3, rfl, hl_5⟩ := zjc hl_4
 obtain rfl := nil_of hl_5
 obtain ⟨m_6, y_7, h_8⟩ := zke Try.underlying42 h 0 (by decide) 1 (by kernel_rfl)
 replace h_8 : DataW.trod enc Try.prog w 0 (fun _ => true) true m_6 25 [c0] = some y_7 := h_8
 obtain ⟨a0_0, e_9, w0_0⟩ := (ztd Try.underlying25) h_8
 obtain rfl : c0 = Value.int .i8 a0_0 := (List.cons.inj (show [c0] = [Value.int .i8 a0_0] from e_9)).1
 obtain ⟨m_10, y_11, h_12⟩ := zke Try.underlying42 h 1 (by decide) 1 (by kernel_rfl)
 replace h_12 : DataW.trod enc Try.prog w 0 (fun _ => true) true m_10 25 [c1] = some y_11 := h_12
 obtain ⟨a0_1, e_13, w0_1⟩ := (ztd Try.underlying25) h_12
 obtain rfl : c1 = Value.int .i8 a0_1 := (List.cons.inj (show [c1] = [Value.int .i8 a0_1] from e_13)).1
 obtain ⟨m_14, y_15, h_16⟩ := zke Try.underlying42 h 2 (by decide) 1 (by kernel_rfl)
 replace h_16 : DataW.trod enc Try.prog w 0 (fun _ => true) true m_14 25 [c2] = some y_15 := h_16
 obtain ⟨a0_2, e_17, w0_2⟩ := (ztd Try.underlying25) h_16
 obtain rfl : c2 = Value.int .i8 a0_2 := (List.cons.inj (show [c2] = [Value.int .i8 a0_2] from e_17)).1
 obtain ⟨m_18, y_19, h_20⟩ := zke Try.underlying42 h 3 (by decide) 1 (by kernel_rfl)
 replace h_20 : DataW.trod enc Try.prog w 0 (fun _ => true) true m_18 25 [c3] = some y_19 := h_20
 obtain ⟨a0_3, e_21, w0_3⟩ := (ztd Try.underlying25) h_20
 obtain rfl : c3 = Value.int .i8 a0_3 := (List.cons.inj (show [c3] = [Value.int .i8 a0_3] from e_21)).1
 exact ⟨(⟨a0_0, a0_1, a0_2, a0_3⟩ : S42), k42_mk w (⟨a0_0, a0_1, a0_2, a0_3⟩ : S42), ⟨w0_0, w0_1, w0_2, w0_3⟩⟩
set_option maxHeartbeats 1000000 in
set_option maxRecDepth 100000 in
theorem lifted (os : Os) (started : os.Started) (H : Type) (enc : TypeId × Value → H) :
  ReturnsInHanded {} Try.checked os 5 .any (Rows.fnExactTreeOfSpec.pre6 enc Try.prog Try.f5 Rows.fnExactTreeOfRow.domain false) (Rows.fnExactTreeOfSpec.post enc Try.prog Try.f5 false true false false) := by
 refine returnsInHanded_of_change_sized (C := Try.checked) own started (by kernel_rfl) Try.func5
  (ChangeSpec.witness6 (enc := enc) (C := Try.checked) false ⟨#[], #[.agg #[.int .i8 0, .int .i8 0, .slice none 0 0]], []⟩ 8 (by kernel_rfl) (by kernel_rfl) (by kernel_rfl) (by kernel_rfl)) ?_
 intro W base args ds gs before hval0 hW hcnd hsz0 _
 have hsz : (DataW.weightsEach Try.prog (Try.f5.params.toList ++ Rows.fnExactTreeOfSpec.plain.varTypes Try.prog) (ds ++ gs)).all (· ≤ reachBytes) = true := hsz0
 have hval : ∀ (j : Nat) t v, Try.f5.params[j]? = some t → args[j]? = some v → Value.okWide Try.prog W .any base t v := hval0
 have hW' := hW
 obtain ⟨p, q, hA0, hV, rfl, hfz, hnd⟩ := hW
 have hA : DataW.TrodAll enc Try.prog W 0 (fun _ => true) true Try.f5.params.toList args.toList ds p := hA0
 rw [Try.params5] at hA hval hsz
 obtain ⟨v0, vs0, d0, ds0, p0, q0, hargs, rfl, rfl, h0, r0⟩ := trodAll_cons hA
 obtain ⟨rfl, rfl, rfl⟩ := trodAll_nil r0
 obtain rfl : args = #[v0] := by cases args; simp_all
 obtain ⟨rfl, rfl⟩ := trodVars_none hV
 obtain ⟨cs0, rfl⟩ := agg_of Try.underlying67 (hval 0 67 v0 rfl rfl)
 have k0 := h0
 have lt0 : ∀ x ∈ p0, x.block < W.heap.size := by obtain ⟨m, hm⟩ := k0; exact DataW.trod_lt m _ _ _ hm
 obtain ⟨fuel0, hf0⟩ := h0
 replace hf0 : DataW.trod enc Try.prog W 0 (fun _ => true) true fuel0 67 cs0 = some (d0, p0) := hf0
 have hl_22 := len_struct Try.underlying67 hf0 3 (by kernel_rfl)
 obtain ⟨c0x0, crc0x_0, rfl, hl_23⟩ := zjc hl_22
 obtain ⟨c0x1, crc0x_1, rfl, hl_24⟩ := zjc hl_23
 obtain ⟨c0x2, crc0x_2, rfl, hl_25⟩ := zjc hl_24
 obtain rfl := nil_of hl_25
 obtain ⟨m_26, y_27, h_28⟩ := zbe Try.underlying67 hf0 0 _ rfl 0 1 rfl (by kernel_rfl)
 replace h_28 : DataW.trod enc Try.prog W 0 (fun _ => true) true m_26 25 [c0x0] = some y_27 := h_28
 obtain ⟨a0_0, e_29, w0_0⟩ := (ztd Try.underlying25) h_28
 obtain rfl : c0x0 = Value.int .i8 a0_0 := (List.cons.inj (show [c0x0] = [Value.int .i8 a0_0] from e_29)).1
 obtain ⟨m_30, y_31, h_32⟩ := zbe Try.underlying67 hf0 1 _ rfl 1 1 rfl (by kernel_rfl)
 replace h_32 : DataW.trod enc Try.prog W 0 (fun _ => true) true m_30 25 [c0x1] = some y_31 := h_32
 obtain ⟨a0_1, e_33, w0_1⟩ := (ztd Try.underlying25) h_32
 obtain rfl : c0x1 = Value.int .i8 a0_1 := (List.cons.inj (show [c0x1] = [Value.int .i8 a0_1] from e_33)).1
 obtain ⟨m_34, y_35, h_36⟩ := zbe Try.underlying67 hf0 2 _ rfl 2 1 rfl (by kernel_rfl)
 replace h_36 : DataW.trod enc Try.prog W 0 (fun _ => true) true m_34 65 [c0x2] = some y_35 := h_36
 obtain ⟨l0_2, e_37, hm0_2, hw0_2⟩ := (rd_slice Try.underlying65 (by kernel_rfl) (fun h_ => rdT42 h_)) h_36
 obtain ⟨A0_2, c0_2, e_37, hc0_2, hr0_2⟩ := e_37
 obtain rfl : c0x2 = Value.slice A0_2 l0_2.length c0_2 := (List.cons.inj (show [c0x2] = [Value.slice A0_2 l0_2.length c0_2] from e_37)).1
 obtain ⟨k, hk⟩ := Pure.FnExactTreeOf a0_0 a0_1 l0_2 w0_0 w0_1 hm0_2 hw0_2
 clear hA0 hval0 hsz0 hsz
 refine (laws_FnExactTreeOf.calls k a0_0 a0_1 _ _ l0_2 true W hr0_2 hc0_2 hk).mono fun e W' ⟨he, bel0⟩ => ?_
 have bel : Below W.heap.size W W' := bel0
 subst he
 exact ⟨_, rfl, _, _, _, [], _, [], hW', trodAll_mk1 (shut_bool Try.underlying4 _), (trodAll_cons_mk (Below.trod laidOut (by kernel_rfl) (of_decide_eq_true (by kernel_rfl)) k0 bel lt0) trodAll_mk0), rfl, bel.frame _, fun h => by cases h⟩
theorem over : Rows.fnExactTreeOfRow.holds Try.pinned (OpenSpec.ofChange Rows.fnExactTreeOfSpec) :=
 OpenClaim.holds_of_wide 5 Try.f5 rfl rfl rfl rfl rfl rfl rfl ⟨rfl, rfl, rfl, rfl, rfl⟩ rfl rfl rfl rfl rfl (by kernel_rfl) Try.func5 (by kernel_rfl)
  (of_decide_eq_true (by kernel_rfl)) (by unfold Func.isWrapper; first | (rw [if_pos (by decide +kernel)]; kernel_rfl) | (rw [if_neg (by decide +kernel)]; exact ⟨rfl, rfl⟩))
  (fun os started H enc _ => lifted os started H enc)
theorem proved : Rows.FnExactTreeOfSaid := over
#print axioms proved
end Go.Proofs.Ytmfbcklaomigaaa.fnExactTreeOf
namespace Go.Proofs.Ytmfbcklaomigaaa
/-- The row, under a short name, for the claim. -/
theorem fnExactTreeOf_holds : Rows.FnExactTreeOfSaid := fnExactTreeOf.proved
end Go.Proofs.Ytmfbcklaomigaaa
