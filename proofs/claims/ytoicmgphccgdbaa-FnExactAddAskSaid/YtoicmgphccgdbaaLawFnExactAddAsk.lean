-- Written by wip/tools/myprint.py, a program of this session, by way of the kit's print.
import Derived.Test.YtoicmgphccgdbaaRows
import Derived.Test.YtoicmgphccgdbaaXx12
import Derived.Test.YtoicmgphccgdbaaSFnExactAddAsk
import Derived.Test.YtoicmgphccgdbaaPureFnExactAddAsk
import Derived.Test.YtoicmgphccgdbaaZRead
import Derived.WalkKit
import Derived.ProofKit
import Derived.OpenShut
import Derived.ShutString
import Derived.ChangeOld
import Derived.Below
import Derived.SizedLaws
import Derived.Carry
namespace Go.Proofs.Ytoicmgphccgdbaa.fnExactAddAsk
open Go.ChangeShapes Go.WideShapes Go.ChangeAt Go.RowKit Go.Proofs.Ytoicmgphccgdbaa.X Go.Proofs.YtoicmgphccgdbaaZ Go.Proofs.YtoicmgphccgdbaaW.PrintWords Go.Proofs.YtoicmgphccgdbaaW.PrintLast Go.Proofs.YtoicmgphccgdbaaW.PrintMore
open Go.ChangeMaps (open_string shut_string)
set_option linter.unusedVariables false
set_option linter.unusedSimpArgs false
theorem own : ownKnob Try.prog.godebug = none := by kernel_rfl
theorem laidOut : laidOutB Try.prog = true := by kernel_rfl
theorem rdT97 {H : Type} {enc : TypeId × Value → H} {w : World} {fuel : Nat} {cs : List Value} {x : DataW H × List MemPlace} (h : DataW.trod enc Try.prog w 0 (fun _ => true) true fuel 97 cs = some x) : ∃ a : S97, k97.K w a cs ∧ wf97 a := by
  have hl_1 := len_struct Try.underlying97 h 2 (by kernel_rfl)
  obtain ⟨c0, crc_0, rfl, hl_2⟩ := cons_of hl_1
  obtain ⟨c1, crc_1, rfl, hl_3⟩ := cons_of hl_2
  obtain rfl := nil_of hl_3
  obtain ⟨m_4, y_5, h_6⟩ := field_at Try.underlying97 h 0 _ rfl 0 1 rfl (by kernel_rfl)
  replace h_6 : DataW.trod enc Try.prog w 0 (fun _ => true) true m_4 57 [c0] = some y_5 := h_6
  obtain ⟨a0_0, e_7, w0_0⟩ := (rd_int Try.underlying57) h_6
  obtain rfl : c0 = Value.int .u64 a0_0 := (List.cons.inj (show [c0] = [Value.int .u64 a0_0] from e_7)).1
  obtain ⟨m_8, y_9, h_10⟩ := field_at Try.underlying97 h 1 _ rfl 1 1 rfl (by kernel_rfl)
  replace h_10 : DataW.trod enc Try.prog w 0 (fun _ => true) true m_8 4 [c1] = some y_9 := h_10
  obtain ⟨a0_1, e_11, w0_1⟩ := (rd_bool Try.underlying4) h_10
  obtain rfl : c1 = Value.bool a0_1 := (List.cons.inj (show [c1] = [Value.bool a0_1] from e_11)).1
  exact ⟨(⟨a0_0, a0_1⟩ : S97), k97_mk w (⟨a0_0, a0_1⟩ : S97), ⟨w0_0, trivial⟩⟩
set_option maxHeartbeats 1000000 in
set_option maxRecDepth 100000 in
theorem lifted (os : Os) (started : os.Started) (H : Type) (enc : TypeId × Value → H) :
    ReturnsInHanded {} Try.checked os 13 .any (Rows.fnExactAddAskSpec.pre6 enc Try.prog Try.f13 Rows.fnExactAddAskRow.domain false) (Rows.fnExactAddAskSpec.post enc Try.prog Try.f13 false true false false) := by
  refine returnsInHanded_of_change_sized (C := Try.checked) own started (by kernel_rfl) Try.func13
    (ChangeSpec.witness6 (enc := enc) (C := Try.checked) false ⟨#[], #[.agg #[.int .i8 0, .int .i8 0, .slice none 0 0], .int .u64 0, .bool false], []⟩ 8 (by kernel_rfl) (by kernel_rfl) (by kernel_rfl) (by kernel_rfl)) ?_
  intro W base args ds gs before hval0 hW hcnd hsz0 _
  have hsz : (DataW.weightsEach Try.prog (Try.f13.params.toList ++ Rows.fnExactAddAskSpec.plain.varTypes Try.prog) (ds ++ gs)).all (· ≤ reachBytes) = true := hsz0
  have hval : ∀ (j : Nat) t v, Try.f13.params[j]? = some t → args[j]? = some v → Value.okWide Try.prog W .any base t v := hval0
  have hW' := hW
  obtain ⟨p, q, hA0, hV, rfl, hfz, hnd⟩ := hW
  have hA : DataW.TrodAll enc Try.prog W 0 (fun _ => true) true Try.f13.params.toList args.toList ds p := hA0
  rw [Try.params13] at hA hval hsz
  obtain ⟨v0, vs0, d0, ds0, p0, q0, hargs, rfl, rfl, h0, r0⟩ := trodAll_cons hA
  obtain ⟨v1, vs1, d1, ds1, p1, q1, rfl, rfl, rfl, h1, r1⟩ := trodAll_cons r0
  obtain ⟨v2, vs2, d2, ds2, p2, q2, rfl, rfl, rfl, h2, r2⟩ := trodAll_cons r1
  obtain ⟨rfl, rfl, rfl⟩ := trodAll_nil r2
  obtain rfl : args = #[v0, v1, v2] := by cases args; simp_all
  obtain ⟨rfl, rfl⟩ := trodVars_none hV
  obtain ⟨cs0, rfl⟩ := agg_of Try.underlying45 (hval 0 45 v0 rfl rfl)
  have k0 := h0
  have lt0 : ∀ x ∈ p0, x.block < W.heap.size := by obtain ⟨m, hm⟩ := k0; exact DataW.trod_lt m _ _ _ hm
  obtain ⟨fuel0, hf0⟩ := h0
  replace hf0 : DataW.trod enc Try.prog W 0 (fun _ => true) true fuel0 45 cs0 = some (d0, p0) := hf0
  have hl_12 := len_struct Try.underlying45 hf0 3 (by kernel_rfl)
  obtain ⟨c0x0, crc0x_0, rfl, hl_13⟩ := cons_of hl_12
  obtain ⟨c0x1, crc0x_1, rfl, hl_14⟩ := cons_of hl_13
  obtain ⟨c0x2, crc0x_2, rfl, hl_15⟩ := cons_of hl_14
  obtain rfl := nil_of hl_15
  obtain ⟨m_16, y_17, h_18⟩ := field_at Try.underlying45 hf0 0 _ rfl 0 1 rfl (by kernel_rfl)
  replace h_18 : DataW.trod enc Try.prog W 0 (fun _ => true) true m_16 34 [c0x0] = some y_17 := h_18
  obtain ⟨a0_0, e_19, w0_0⟩ := (rd_int Try.underlying34) h_18
  obtain rfl : c0x0 = Value.int .i8 a0_0 := (List.cons.inj (show [c0x0] = [Value.int .i8 a0_0] from e_19)).1
  obtain ⟨m_20, y_21, h_22⟩ := field_at Try.underlying45 hf0 1 _ rfl 1 1 rfl (by kernel_rfl)
  replace h_22 : DataW.trod enc Try.prog W 0 (fun _ => true) true m_20 34 [c0x1] = some y_21 := h_22
  obtain ⟨a0_1, e_23, w0_1⟩ := (rd_int Try.underlying34) h_22
  obtain rfl : c0x1 = Value.int .i8 a0_1 := (List.cons.inj (show [c0x1] = [Value.int .i8 a0_1] from e_23)).1
  obtain ⟨m_24, y_25, h_26⟩ := field_at Try.underlying45 hf0 2 _ rfl 2 1 rfl (by kernel_rfl)
  replace h_26 : DataW.trod enc Try.prog W 0 (fun _ => true) true m_24 43 [c0x2] = some y_25 := h_26
  obtain ⟨l0_2, e_27, hm0_2, hw0_2⟩ := (rd_slice Try.underlying43 (by kernel_rfl) (fun h_ => rdT97 h_)) h_26
  obtain ⟨A0_2, c0_2, e_27, hc0_2, hr0_2⟩ := e_27
  obtain rfl : c0x2 = Value.slice A0_2 l0_2.length c0_2 := (List.cons.inj (show [c0x2] = [Value.slice A0_2 l0_2.length c0_2] from e_27)).1
  obtain ⟨a1, rfl, rfl, rfl, w1⟩ := open_int Try.underlying57 (hval 1 57 v1 rfl rfl) h1
  obtain ⟨a2, rfl, rfl, rfl⟩ := open_bool Try.underlying4 (hval 2 4 v2 rfl rfl) h2
  obtain ⟨k, hk⟩ := Pure.FnExactAddAsk a0_0 a0_1 l0_2 a1 a2 w0_0 w0_1 hm0_2 hw0_2 w1
  clear hA0 hval0 hsz0 hsz
  refine (laws_FnExactAddAsk.calls k a0_0 a0_1 _ _ l0_2 a1 a2 true W hr0_2 hc0_2 hk).mono fun e W' ⟨he, bel0⟩ => ?_
  have bel : Below W.heap.size W W' := bel0
  subst he
  exact ⟨_, rfl, _, _, _, [], _, [], hW', trodAll_mk1 (shut_bool Try.underlying4 _), (trodAll_cons_mk (Below.trod laidOut (by kernel_rfl) (of_decide_eq_true (by kernel_rfl)) k0 bel lt0) (trodAll_cons_mk (shut_int Try.underlying57 w1) (trodAll_cons_mk (shut_bool Try.underlying4 _) trodAll_mk0))), rfl, bel.frame _, fun h => by cases h⟩
theorem over : Rows.fnExactAddAskRow.holds Try.pinned (OpenSpec.ofChange Rows.fnExactAddAskSpec) :=
  OpenClaim.holds_of_wide 13 Try.f13 rfl rfl rfl rfl rfl rfl rfl ⟨rfl, rfl, rfl, rfl, rfl⟩ rfl rfl rfl rfl rfl (by kernel_rfl) Try.func13 (by kernel_rfl)
    (of_decide_eq_true (by kernel_rfl)) (by unfold Func.isWrapper; first | (rw [if_pos (by decide +kernel)]; kernel_rfl) | (rw [if_neg (by decide +kernel)]; exact ⟨rfl, rfl⟩))
    (fun os started H enc _ => lifted os started H enc)
theorem proved : Rows.FnExactAddAskSaid := over
#print axioms proved
end Go.Proofs.Ytoicmgphccgdbaa.fnExactAddAsk
namespace Go.Proofs.Ytoicmgphccgdbaa
/-- The row, under a short name, for the claim. -/
theorem fnExactAddAsk_holds : Rows.FnExactAddAskSaid := fnExactAddAsk.proved
end Go.Proofs.Ytoicmgphccgdbaa
