-- Written by wip/tools/myprint.py, a program of this session, by way of the kit's print.
import Derived.Test.YtmmonhpjjjdnjaaRows
import Derived.Test.YtmmonhpjjjdnjaaUx25
import Derived.Test.YtmmonhpjjjdnjaaSFnExactFirstUntold
import Derived.Test.YtmmonhpjjjdnjaaPureFnExactFirstUntold
import Derived.Test.YtmmonhpjjjdnjaaZRead
import Derived.WalkKit
import Derived.ProofKit
import Derived.OpenShut
import Derived.ShutString
import Derived.ChangeOld
import Derived.Below
import Derived.SizedLaws
import Derived.Carry
namespace Go.Proofs.Ytmmonhpjjjdnjaa.fnExactFirstUntold
open Go.ChangeShapes Go.WideShapes Go.ChangeAt Go.RowKit Go.Proofs.Ytmmonhpjjjdnjaa.U Go.Proofs.YtmmonhpjjjdnjaaZ Go.Proofs.YtmmonhpjjjdnjaaW.PrintWords Go.Proofs.YtmmonhpjjjdnjaaW.PrintLast Go.Proofs.YtmmonhpjjjdnjaaW.PrintMore
open Go.ChangeMaps (open_string shut_string)
set_option linter.unusedVariables false
set_option linter.unusedSimpArgs false
theorem own : ownKnob Try.prog.godebug = none := by kernel_rfl
theorem laidOut : laidOutB Try.prog = true := by kernel_rfl
theorem rdT58 {H : Type} {enc : TypeId × Value → H} {w : World} {fuel : Nat} {cs : List Value} {x : DataW H × List MemPlace} (h : DataW.trod enc Try.prog w 0 (fun _ => true) true fuel 58 cs = some x) : ∃ a : S58, k58.K w a cs ∧ wf58 a := by
 have hl_1 := len_struct Try.underlying58 h 20 (by kernel_rfl)
 obtain ⟨c0, crc_0, rfl, hl_2⟩ := cons_of hl_1
 obtain ⟨c1, crc_1, rfl, hl_3⟩ := cons_of hl_2
 obtain ⟨c2, crc_2, rfl, hl_4⟩ := cons_of hl_3
 obtain ⟨c3, crc_3, rfl, hl_5⟩ := cons_of hl_4
 obtain ⟨c4, crc_4, rfl, hl_6⟩ := cons_of hl_5
 obtain ⟨c5, crc_5, rfl, hl_7⟩ := cons_of hl_6
 obtain ⟨c6, crc_6, rfl, hl_8⟩ := cons_of hl_7
 obtain ⟨c7, crc_7, rfl, hl_9⟩ := cons_of hl_8
 obtain ⟨c8, crc_8, rfl, hl_10⟩ := cons_of hl_9
 obtain ⟨c9, crc_9, rfl, hl_11⟩ := cons_of hl_10
 obtain ⟨c10, crc_10, rfl, hl_12⟩ := cons_of hl_11
 obtain ⟨c11, crc_11, rfl, hl_13⟩ := cons_of hl_12
 obtain ⟨c12, crc_12, rfl, hl_14⟩ := cons_of hl_13
 obtain ⟨c13, crc_13, rfl, hl_15⟩ := cons_of hl_14
 obtain ⟨c14, crc_14, rfl, hl_16⟩ := cons_of hl_15
 obtain ⟨c15, crc_15, rfl, hl_17⟩ := cons_of hl_16
 obtain ⟨c16, crc_16, rfl, hl_18⟩ := cons_of hl_17
 obtain ⟨c17, crc_17, rfl, hl_19⟩ := cons_of hl_18
 obtain ⟨c18, crc_18, rfl, hl_20⟩ := cons_of hl_19
 obtain ⟨c19, crc_19, rfl, hl_21⟩ := cons_of hl_20
 obtain rfl := nil_of hl_21
 obtain ⟨m_22, y_23, h_24⟩ := field_at Try.underlying58 h 0 _ rfl 0 14 rfl (by kernel_rfl)
 replace h_24 : DataW.trod enc Try.prog w 0 (fun _ => true) true m_22 49 [c0, c1, c2, c3, c4, c5, c6, c7, c8, c9, c10, c11, c12, c13] = some y_23 := h_24
 obtain ⟨m_25, y_26, h_27⟩ := item_at Try.underlying49 h_24 0 (by decide) 1 (by kernel_rfl)
 replace h_27 : DataW.trod enc Try.prog w 0 (fun _ => true) true m_25 22 [c0] = some y_26 := h_27
 obtain ⟨a0_0, e_28, w0_0⟩ := (rd_int Try.underlying22) h_27
 obtain rfl : c0 = Value.int .i8 a0_0 := (List.cons.inj (show [c0] = [Value.int .i8 a0_0] from e_28)).1
 obtain ⟨m_29, y_30, h_31⟩ := item_at Try.underlying49 h_24 1 (by decide) 1 (by kernel_rfl)
 replace h_31 : DataW.trod enc Try.prog w 0 (fun _ => true) true m_29 22 [c1] = some y_30 := h_31
 obtain ⟨a0_1, e_32, w0_1⟩ := (rd_int Try.underlying22) h_31
 obtain rfl : c1 = Value.int .i8 a0_1 := (List.cons.inj (show [c1] = [Value.int .i8 a0_1] from e_32)).1
 obtain ⟨m_33, y_34, h_35⟩ := item_at Try.underlying49 h_24 2 (by decide) 1 (by kernel_rfl)
 replace h_35 : DataW.trod enc Try.prog w 0 (fun _ => true) true m_33 22 [c2] = some y_34 := h_35
 obtain ⟨a0_2, e_36, w0_2⟩ := (rd_int Try.underlying22) h_35
 obtain rfl : c2 = Value.int .i8 a0_2 := (List.cons.inj (show [c2] = [Value.int .i8 a0_2] from e_36)).1
 obtain ⟨m_37, y_38, h_39⟩ := item_at Try.underlying49 h_24 3 (by decide) 1 (by kernel_rfl)
 replace h_39 : DataW.trod enc Try.prog w 0 (fun _ => true) true m_37 22 [c3] = some y_38 := h_39
 obtain ⟨a0_3, e_40, w0_3⟩ := (rd_int Try.underlying22) h_39
 obtain rfl : c3 = Value.int .i8 a0_3 := (List.cons.inj (show [c3] = [Value.int .i8 a0_3] from e_40)).1
 obtain ⟨m_41, y_42, h_43⟩ := item_at Try.underlying49 h_24 4 (by decide) 1 (by kernel_rfl)
 replace h_43 : DataW.trod enc Try.prog w 0 (fun _ => true) true m_41 22 [c4] = some y_42 := h_43
 obtain ⟨a0_4, e_44, w0_4⟩ := (rd_int Try.underlying22) h_43
 obtain rfl : c4 = Value.int .i8 a0_4 := (List.cons.inj (show [c4] = [Value.int .i8 a0_4] from e_44)).1
 obtain ⟨m_45, y_46, h_47⟩ := item_at Try.underlying49 h_24 5 (by decide) 1 (by kernel_rfl)
 replace h_47 : DataW.trod enc Try.prog w 0 (fun _ => true) true m_45 22 [c5] = some y_46 := h_47
 obtain ⟨a0_5, e_48, w0_5⟩ := (rd_int Try.underlying22) h_47
 obtain rfl : c5 = Value.int .i8 a0_5 := (List.cons.inj (show [c5] = [Value.int .i8 a0_5] from e_48)).1
 obtain ⟨m_49, y_50, h_51⟩ := item_at Try.underlying49 h_24 6 (by decide) 1 (by kernel_rfl)
 replace h_51 : DataW.trod enc Try.prog w 0 (fun _ => true) true m_49 22 [c6] = some y_50 := h_51
 obtain ⟨a0_6, e_52, w0_6⟩ := (rd_int Try.underlying22) h_51
 obtain rfl : c6 = Value.int .i8 a0_6 := (List.cons.inj (show [c6] = [Value.int .i8 a0_6] from e_52)).1
 obtain ⟨m_53, y_54, h_55⟩ := item_at Try.underlying49 h_24 7 (by decide) 1 (by kernel_rfl)
 replace h_55 : DataW.trod enc Try.prog w 0 (fun _ => true) true m_53 22 [c7] = some y_54 := h_55
 obtain ⟨a0_7, e_56, w0_7⟩ := (rd_int Try.underlying22) h_55
 obtain rfl : c7 = Value.int .i8 a0_7 := (List.cons.inj (show [c7] = [Value.int .i8 a0_7] from e_56)).1
 obtain ⟨m_57, y_58, h_59⟩ := item_at Try.underlying49 h_24 8 (by decide) 1 (by kernel_rfl)
 replace h_59 : DataW.trod enc Try.prog w 0 (fun _ => true) true m_57 22 [c8] = some y_58 := h_59
 obtain ⟨a0_8, e_60, w0_8⟩ := (rd_int Try.underlying22) h_59
 obtain rfl : c8 = Value.int .i8 a0_8 := (List.cons.inj (show [c8] = [Value.int .i8 a0_8] from e_60)).1
 obtain ⟨m_61, y_62, h_63⟩ := item_at Try.underlying49 h_24 9 (by decide) 1 (by kernel_rfl)
 replace h_63 : DataW.trod enc Try.prog w 0 (fun _ => true) true m_61 22 [c9] = some y_62 := h_63
 obtain ⟨a0_9, e_64, w0_9⟩ := (rd_int Try.underlying22) h_63
 obtain rfl : c9 = Value.int .i8 a0_9 := (List.cons.inj (show [c9] = [Value.int .i8 a0_9] from e_64)).1
 obtain ⟨m_65, y_66, h_67⟩ := item_at Try.underlying49 h_24 10 (by decide) 1 (by kernel_rfl)
 replace h_67 : DataW.trod enc Try.prog w 0 (fun _ => true) true m_65 22 [c10] = some y_66 := h_67
 obtain ⟨a0_10, e_68, w0_10⟩ := (rd_int Try.underlying22) h_67
 obtain rfl : c10 = Value.int .i8 a0_10 := (List.cons.inj (show [c10] = [Value.int .i8 a0_10] from e_68)).1
 obtain ⟨m_69, y_70, h_71⟩ := item_at Try.underlying49 h_24 11 (by decide) 1 (by kernel_rfl)
 replace h_71 : DataW.trod enc Try.prog w 0 (fun _ => true) true m_69 22 [c11] = some y_70 := h_71
 obtain ⟨a0_11, e_72, w0_11⟩ := (rd_int Try.underlying22) h_71
 obtain rfl : c11 = Value.int .i8 a0_11 := (List.cons.inj (show [c11] = [Value.int .i8 a0_11] from e_72)).1
 obtain ⟨m_73, y_74, h_75⟩ := item_at Try.underlying49 h_24 12 (by decide) 1 (by kernel_rfl)
 replace h_75 : DataW.trod enc Try.prog w 0 (fun _ => true) true m_73 22 [c12] = some y_74 := h_75
 obtain ⟨a0_12, e_76, w0_12⟩ := (rd_int Try.underlying22) h_75
 obtain rfl : c12 = Value.int .i8 a0_12 := (List.cons.inj (show [c12] = [Value.int .i8 a0_12] from e_76)).1
 obtain ⟨m_77, y_78, h_79⟩ := item_at Try.underlying49 h_24 13 (by decide) 1 (by kernel_rfl)
 replace h_79 : DataW.trod enc Try.prog w 0 (fun _ => true) true m_77 22 [c13] = some y_78 := h_79
 obtain ⟨a0_13, e_80, w0_13⟩ := (rd_int Try.underlying22) h_79
 obtain rfl : c13 = Value.int .i8 a0_13 := (List.cons.inj (show [c13] = [Value.int .i8 a0_13] from e_80)).1
 obtain ⟨m_81, y_82, h_83⟩ := field_at Try.underlying58 h 1 _ rfl 14 3 rfl (by kernel_rfl)
 replace h_83 : DataW.trod enc Try.prog w 0 (fun _ => true) true m_81 52 [c14, c15, c16] = some y_82 := h_83
 obtain ⟨m_84, y_85, h_86⟩ := item_at Try.underlying52 h_83 0 (by decide) 1 (by kernel_rfl)
 replace h_86 : DataW.trod enc Try.prog w 0 (fun _ => true) true m_84 51 [c14] = some y_85 := h_86
 obtain ⟨a0_14, e_87, w0_14⟩ := (rd_int Try.underlying51) h_86
 obtain rfl : c14 = Value.int .i16 a0_14 := (List.cons.inj (show [c14] = [Value.int .i16 a0_14] from e_87)).1
 obtain ⟨m_88, y_89, h_90⟩ := item_at Try.underlying52 h_83 1 (by decide) 1 (by kernel_rfl)
 replace h_90 : DataW.trod enc Try.prog w 0 (fun _ => true) true m_88 51 [c15] = some y_89 := h_90
 obtain ⟨a0_15, e_91, w0_15⟩ := (rd_int Try.underlying51) h_90
 obtain rfl : c15 = Value.int .i16 a0_15 := (List.cons.inj (show [c15] = [Value.int .i16 a0_15] from e_91)).1
 obtain ⟨m_92, y_93, h_94⟩ := item_at Try.underlying52 h_83 2 (by decide) 1 (by kernel_rfl)
 replace h_94 : DataW.trod enc Try.prog w 0 (fun _ => true) true m_92 51 [c16] = some y_93 := h_94
 obtain ⟨a0_16, e_95, w0_16⟩ := (rd_int Try.underlying51) h_94
 obtain rfl : c16 = Value.int .i16 a0_16 := (List.cons.inj (show [c16] = [Value.int .i16 a0_16] from e_95)).1
 obtain ⟨m_96, y_97, h_98⟩ := field_at Try.underlying58 h 2 _ rfl 17 2 rfl (by kernel_rfl)
 replace h_98 : DataW.trod enc Try.prog w 0 (fun _ => true) true m_96 56 [c17, c18] = some y_97 := h_98
 obtain ⟨m_99, y_100, h_101⟩ := field_at Try.underlying56 h_98 0 _ rfl 0 1 rfl (by kernel_rfl)
 replace h_101 : DataW.trod enc Try.prog w 0 (fun _ => true) true m_99 22 [c17] = some y_100 := h_101
 obtain ⟨a0_17, e_102, w0_17⟩ := (rd_int Try.underlying22) h_101
 obtain rfl : c17 = Value.int .i8 a0_17 := (List.cons.inj (show [c17] = [Value.int .i8 a0_17] from e_102)).1
 obtain ⟨m_103, y_104, h_105⟩ := field_at Try.underlying56 h_98 1 _ rfl 1 1 rfl (by kernel_rfl)
 replace h_105 : DataW.trod enc Try.prog w 0 (fun _ => true) true m_103 4 [c18] = some y_104 := h_105
 obtain ⟨a0_18, e_106, w0_18⟩ := (rd_bool Try.underlying4) h_105
 obtain rfl : c18 = Value.bool a0_18 := (List.cons.inj (show [c18] = [Value.bool a0_18] from e_106)).1
 obtain ⟨m_107, y_108, h_109⟩ := field_at Try.underlying58 h 3 _ rfl 19 1 rfl (by kernel_rfl)
 replace h_109 : DataW.trod enc Try.prog w 0 (fun _ => true) true m_107 4 [c19] = some y_108 := h_109
 obtain ⟨a0_19, e_110, w0_19⟩ := (rd_bool Try.underlying4) h_109
 obtain rfl : c19 = Value.bool a0_19 := (List.cons.inj (show [c19] = [Value.bool a0_19] from e_110)).1
 exact ⟨(⟨(⟨a0_0, a0_1, a0_2, a0_3, a0_4, a0_5, a0_6, a0_7, a0_8, a0_9, a0_10, a0_11, a0_12, a0_13⟩ : S49), (⟨a0_14, a0_15, a0_16⟩ : S52), (⟨a0_17, a0_18⟩ : S56), a0_19⟩ : S58), k58_mk w (⟨(⟨a0_0, a0_1, a0_2, a0_3, a0_4, a0_5, a0_6, a0_7, a0_8, a0_9, a0_10, a0_11, a0_12, a0_13⟩ : S49), (⟨a0_14, a0_15, a0_16⟩ : S52), (⟨a0_17, a0_18⟩ : S56), a0_19⟩ : S58), ⟨w0_0, w0_1, w0_2, w0_3, w0_4, w0_5, w0_6, w0_7, w0_8, w0_9, w0_10, w0_11, w0_12, w0_13, w0_14, w0_15, w0_16, w0_17, trivial, trivial⟩⟩
set_option maxHeartbeats 1000000 in
set_option maxRecDepth 100000 in
theorem lifted (os : Os) (started : os.Started) (H : Type) (enc : TypeId × Value → H) :
  ReturnsInHanded {} Try.checked os 5 .any (Rows.fnExactFirstUntoldSpec.pre6 enc Try.prog Try.f5 Rows.fnExactFirstUntoldRow.domain false) (Rows.fnExactFirstUntoldSpec.post enc Try.prog Try.f5 false true false false) := by
 refine returnsInHanded_of_change_sized (C := Try.checked) own started (by kernel_rfl) Try.func5
  (ChangeSpec.witness6 (enc := enc) (C := Try.checked) false ⟨#[], #[.agg #[.int .i8 0, .int .i8 0, .bool false, .bool false], .slice none 0 0], []⟩ 8 (by kernel_rfl) (by kernel_rfl) (by kernel_rfl) (by kernel_rfl)) ?_
 intro W base args ds gs before hval0 hW hcnd hsz0 _
 have hsz : (DataW.weightsEach Try.prog (Try.f5.params.toList ++ Rows.fnExactFirstUntoldSpec.plain.varTypes Try.prog) (ds ++ gs)).all (· ≤ reachBytes) = true := hsz0
 have hval : ∀ (j : Nat) t v, Try.f5.params[j]? = some t → args[j]? = some v → Value.okWide Try.prog W .any base t v := hval0
 have hW' := hW
 obtain ⟨p, q, hA0, hV, rfl, hfz, hnd⟩ := hW
 have hA : DataW.TrodAll enc Try.prog W 0 (fun _ => true) true Try.f5.params.toList args.toList ds p := hA0
 rw [Try.params5] at hA hval hsz
 obtain ⟨v0, vs0, d0, ds0, p0, q0, hargs, rfl, rfl, h0, r0⟩ := trodAll_cons hA
 obtain ⟨v1, vs1, d1, ds1, p1, q1, rfl, rfl, rfl, h1, r1⟩ := trodAll_cons r0
 obtain ⟨rfl, rfl, rfl⟩ := trodAll_nil r1
 obtain rfl : args = #[v0, v1] := by cases args; simp_all
 obtain ⟨rfl, rfl⟩ := trodVars_none hV
 obtain ⟨cs0, rfl⟩ := agg_of Try.underlying24 (hval 0 24 v0 rfl rfl)
 have k0 := h0
 have lt0 : ∀ x ∈ p0, x.block < W.heap.size := by obtain ⟨m, hm⟩ := k0; exact DataW.trod_lt m _ _ _ hm
 obtain ⟨fuel0, hf0⟩ := h0
 replace hf0 : DataW.trod enc Try.prog W 0 (fun _ => true) true fuel0 24 cs0 = some (d0, p0) := hf0
 have hl_111 := len_struct Try.underlying24 hf0 4 (by kernel_rfl)
 obtain ⟨c0x0, crc0x_0, rfl, hl_112⟩ := cons_of hl_111
 obtain ⟨c0x1, crc0x_1, rfl, hl_113⟩ := cons_of hl_112
 obtain ⟨c0x2, crc0x_2, rfl, hl_114⟩ := cons_of hl_113
 obtain ⟨c0x3, crc0x_3, rfl, hl_115⟩ := cons_of hl_114
 obtain rfl := nil_of hl_115
 obtain ⟨m_116, y_117, h_118⟩ := field_at Try.underlying24 hf0 0 _ rfl 0 1 rfl (by kernel_rfl)
 replace h_118 : DataW.trod enc Try.prog W 0 (fun _ => true) true m_116 22 [c0x0] = some y_117 := h_118
 obtain ⟨a0_0, e_119, w0_0⟩ := (rd_int Try.underlying22) h_118
 obtain rfl : c0x0 = Value.int .i8 a0_0 := (List.cons.inj (show [c0x0] = [Value.int .i8 a0_0] from e_119)).1
 obtain ⟨m_120, y_121, h_122⟩ := field_at Try.underlying24 hf0 1 _ rfl 1 1 rfl (by kernel_rfl)
 replace h_122 : DataW.trod enc Try.prog W 0 (fun _ => true) true m_120 22 [c0x1] = some y_121 := h_122
 obtain ⟨a0_1, e_123, w0_1⟩ := (rd_int Try.underlying22) h_122
 obtain rfl : c0x1 = Value.int .i8 a0_1 := (List.cons.inj (show [c0x1] = [Value.int .i8 a0_1] from e_123)).1
 obtain ⟨m_124, y_125, h_126⟩ := field_at Try.underlying24 hf0 2 _ rfl 2 1 rfl (by kernel_rfl)
 replace h_126 : DataW.trod enc Try.prog W 0 (fun _ => true) true m_124 4 [c0x2] = some y_125 := h_126
 obtain ⟨a0_2, e_127, w0_2⟩ := (rd_bool Try.underlying4) h_126
 obtain rfl : c0x2 = Value.bool a0_2 := (List.cons.inj (show [c0x2] = [Value.bool a0_2] from e_127)).1
 obtain ⟨m_128, y_129, h_130⟩ := field_at Try.underlying24 hf0 3 _ rfl 3 1 rfl (by kernel_rfl)
 replace h_130 : DataW.trod enc Try.prog W 0 (fun _ => true) true m_128 4 [c0x3] = some y_129 := h_130
 obtain ⟨a0_3, e_131, w0_3⟩ := (rd_bool Try.underlying4) h_130
 obtain rfl : c0x3 = Value.bool a0_3 := (List.cons.inj (show [c0x3] = [Value.bool a0_3] from e_131)).1
 obtain ⟨A1, n1, c1, rfl⟩ := okWide_slice Try.underlying25 (hval 1 25 v1 rfl rfl)
 have k1 := h1
 have lt1 : ∀ x ∈ p1, x.block < W.heap.size := by obtain ⟨m, hm⟩ := k1; exact DataW.trod_lt m _ _ _ hm
 obtain ⟨fuel1, hf1⟩ := h1
 obtain ⟨l1, e1, hm1, hw1⟩ := (rd_slice Try.underlying25 (by kernel_rfl) (fun h_ => rdT58 h_)) hf1
 obtain ⟨A1', c1', e1, hc1, hr1⟩ := e1
 obtain ⟨rfl, rfl, rfl⟩ : A1 = A1' ∧ n1 = l1.length ∧ c1 = c1' := by
  have h_ := (List.cons.inj (show [Value.slice A1 n1 c1] = [Value.slice A1' l1.length c1'] from e1)).1
  injection h_ with h1 h2 h3
  exact ⟨h1, h2, h3⟩
 obtain ⟨k, hk⟩ := Pure.FnExactFirstUntold a0_0 a0_1 a0_2 a0_3 l1 w0_0 w0_1 hm1 hw1
 clear hA0 hval0 hsz0 hsz
 refine (laws_FnExactFirstUntold.calls k a0_0 a0_1 a0_2 a0_3 _ _ l1 true W hr1 hc1 hk).mono fun e W' ⟨he, bel0⟩ => ?_
 have bel : Below W.heap.size W W' := bel0
 subst he
 exact ⟨_, rfl, _, _, _, [], _, [], hW', trodAll_mk1 (shut_bool Try.underlying4 _), (trodAll_cons_mk (Below.trod laidOut (by kernel_rfl) (of_decide_eq_true (by kernel_rfl)) k0 bel lt0) (trodAll_cons_mk (Below.trod laidOut (by kernel_rfl) (of_decide_eq_true (by kernel_rfl)) k1 bel lt1) trodAll_mk0)), rfl, bel.frame _, fun h => by cases h⟩
theorem over : Rows.fnExactFirstUntoldRow.holds Try.pinned (OpenSpec.ofChange Rows.fnExactFirstUntoldSpec) :=
 OpenClaim.holds_of_wide 5 Try.f5 rfl rfl rfl rfl rfl rfl rfl ⟨rfl, rfl, rfl, rfl, rfl⟩ rfl rfl rfl rfl rfl (by kernel_rfl) Try.func5 (by kernel_rfl)
  (of_decide_eq_true (by kernel_rfl)) (by unfold Func.isWrapper; first | (rw [if_pos (by decide +kernel)]; kernel_rfl) | (rw [if_neg (by decide +kernel)]; exact ⟨rfl, rfl⟩))
  (fun os started H enc _ => lifted os started H enc)
theorem proved : Rows.FnExactFirstUntoldSaid := over
#print axioms proved
end Go.Proofs.Ytmmonhpjjjdnjaa.fnExactFirstUntold
namespace Go.Proofs.Ytmmonhpjjjdnjaa
/-- The row, under a short name, for the claim. -/
theorem fnExactFirstUntold_holds : Rows.FnExactFirstUntoldSaid := fnExactFirstUntold.proved
end Go.Proofs.Ytmmonhpjjjdnjaa
