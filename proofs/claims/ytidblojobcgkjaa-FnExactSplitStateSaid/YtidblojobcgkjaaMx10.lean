-- Written by wip/tools/myprint.py, a program of this session, by way of the kit's print.
import Derived.Test.YtidblojobcgkjaaMx0
import Derived.Test.YtidblojobcgkjaaMx4
import Derived.Test.YtidblojobcgkjaaMx5
import Derived.Test.YtidblojobcgkjaaMx8
import Derived.Test.YtidblojobcgkjaaMx9
import Derived.Test.YtidblojobcgkjaaLRegA
import Derived.Test.YtidblojobcgkjaaLRegB
namespace Go.Proofs.Ytidblojobcgkjaa.M
open Go.RowKit Go.Proofs.YtidblojobcgkjaaW.PrintWords Go.Proofs.YtidblojobcgkjaaW.PrintLast Go.Proofs.YtidblojobcgkjaaW.PrintMore
attribute [local go_sem] max2_int min2_int max_two min_two zpa zoa max_four min_four   -- for this text's walks alone
set_option linter.unusedVariables false
set_option linter.unusedSimpArgs false

set_option maxHeartbeats 8000000 in
set_option maxRecDepth 100000 in
theorem laws_FnExactSplitState.calls (k : Nat) (a0 : Int) (a1_0 : Int) (a1_1 : Int) (a1_2 : Int) (a1_3 : Int) (a2_0 : Int) (a2_1 : Int) (a2_2 : Int) (a2_3 : Int) (w : World) (h : laws_FnExactSplitState.f k a0 a1_0 a1_1 a1_2 a1_3 a2_0 a2_1 a2_2 a2_3 = some true) :
    Calls Try.prog 3 #[.int .i64 a0, .agg #[.int .i64 a1_0, .int .i64 a1_1, .int .i64 a1_2, .int .i64 a1_3], .agg #[.int .i64 a2_0, .int .i64 a2_1, .int .i64 a2_2, .int .i64 a2_3]] w fun e w' => e = .returned (.bool true) ∧ Below w.heap.size w w' := by
  have hu22 := Try.underlying22
  have hu23 := Try.underlying23
  have HB := zh.mk (Below.refl w.heap.size w)
  have H : ((laws_toState.f k a1_0 a1_1 a1_2 a1_3).bind fun bt188 => ((laws_toState.f k a2_0 a2_1 a2_2 a2_3).bind fun bt192 => ((spec_SplitState.f k a0 bt188.1 bt188.2.1 bt188.2.2.1 bt188.2.2.2 bt192.1 bt192.2.1 bt192.2.2.1 bt192.2.2.2).bind fun bt196 => ((laws_toState.f k a1_0 a1_1 a1_2 a1_3).bind fun bt207 => ((laws_toState.f k a2_0 a2_1 a2_2 a2_3).bind fun bt211 => ((impl_SplitState.f k a0 bt207.1 bt207.2.1 bt207.2.2.1 bt207.2.2.2 bt211.1 bt211.2.1 bt211.2.2.1 bt211.2.2.2).bind fun bt215 => ((laws_eqState.f k bt215.1 bt215.2.1 bt215.2.2.1 bt215.2.2.2.1 bt196.1 bt196.2.1 bt196.2.2.1 bt196.2.2.2.1).bind fun t226 => (if t226 = true then ((laws_eqState.f k bt215.2.2.2.2.1 bt215.2.2.2.2.2.1 bt215.2.2.2.2.2.2.1 bt215.2.2.2.2.2.2.2.1 bt196.2.2.2.2.1 bt196.2.2.2.2.2.1 bt196.2.2.2.2.2.2.1 bt196.2.2.2.2.2.2.2.1).bind fun t227 => (if t227 = true then (if bt215.2.2.2.2.2.2.2.2 = bt196.2.2.2.2.2.2.2.2 then (some true) else (some false)) else (some false))) else (some false))))))))) = some true := h
  clear h
  replace H := Option.bind_eq_some_iff.mp H
  obtain ⟨⟨t188, t189, t190, t191⟩, A40, H⟩ := H
  replace H : ((laws_toState.f k a2_0 a2_1 a2_2 a2_3).bind fun bt192 => ((spec_SplitState.f k a0 t188 t189 t190 t191 bt192.1 bt192.2.1 bt192.2.2.1 bt192.2.2.2).bind fun bt196 => ((laws_toState.f k a1_0 a1_1 a1_2 a1_3).bind fun bt207 => ((laws_toState.f k a2_0 a2_1 a2_2 a2_3).bind fun bt211 => ((impl_SplitState.f k a0 bt207.1 bt207.2.1 bt207.2.2.1 bt207.2.2.2 bt211.1 bt211.2.1 bt211.2.2.1 bt211.2.2.2).bind fun bt215 => ((laws_eqState.f k bt215.1 bt215.2.1 bt215.2.2.1 bt215.2.2.2.1 bt196.1 bt196.2.1 bt196.2.2.1 bt196.2.2.2.1).bind fun t226 => (if t226 = true then ((laws_eqState.f k bt215.2.2.2.2.1 bt215.2.2.2.2.2.1 bt215.2.2.2.2.2.2.1 bt215.2.2.2.2.2.2.2.1 bt196.2.2.2.2.1 bt196.2.2.2.2.2.1 bt196.2.2.2.2.2.2.1 bt196.2.2.2.2.2.2.2.1).bind fun t227 => (if t227 = true then (if bt215.2.2.2.2.2.2.2.2 = bt196.2.2.2.2.2.2.2.2 then (some true) else (some false)) else (some false))) else (some false)))))))) = some true := H
  have A4 := zh.mk A40
  clear A40
  replace H := Option.bind_eq_some_iff.mp H
  obtain ⟨⟨t192, t193, t194, t195⟩, A50, H⟩ := H
  replace H : ((spec_SplitState.f k a0 t188 t189 t190 t191 t192 t193 t194 t195).bind fun bt196 => ((laws_toState.f k a1_0 a1_1 a1_2 a1_3).bind fun bt207 => ((laws_toState.f k a2_0 a2_1 a2_2 a2_3).bind fun bt211 => ((impl_SplitState.f k a0 bt207.1 bt207.2.1 bt207.2.2.1 bt207.2.2.2 bt211.1 bt211.2.1 bt211.2.2.1 bt211.2.2.2).bind fun bt215 => ((laws_eqState.f k bt215.1 bt215.2.1 bt215.2.2.1 bt215.2.2.2.1 bt196.1 bt196.2.1 bt196.2.2.1 bt196.2.2.2.1).bind fun t226 => (if t226 = true then ((laws_eqState.f k bt215.2.2.2.2.1 bt215.2.2.2.2.2.1 bt215.2.2.2.2.2.2.1 bt215.2.2.2.2.2.2.2.1 bt196.2.2.2.2.1 bt196.2.2.2.2.2.1 bt196.2.2.2.2.2.2.1 bt196.2.2.2.2.2.2.2.1).bind fun t227 => (if t227 = true then (if bt215.2.2.2.2.2.2.2.2 = bt196.2.2.2.2.2.2.2.2 then (some true) else (some false)) else (some false))) else (some false))))))) = some true := H
  have A5 := zh.mk A50
  clear A50
  replace H := Option.bind_eq_some_iff.mp H
  obtain ⟨⟨t196, t197, t198, t199, t200, t201, t202, t203, t204⟩, A60, H⟩ := H
  replace H : ((laws_toState.f k a1_0 a1_1 a1_2 a1_3).bind fun bt207 => ((laws_toState.f k a2_0 a2_1 a2_2 a2_3).bind fun bt211 => ((impl_SplitState.f k a0 bt207.1 bt207.2.1 bt207.2.2.1 bt207.2.2.2 bt211.1 bt211.2.1 bt211.2.2.1 bt211.2.2.2).bind fun bt215 => ((laws_eqState.f k bt215.1 bt215.2.1 bt215.2.2.1 bt215.2.2.2.1 t196 t197 t198 t199).bind fun t226 => (if t226 = true then ((laws_eqState.f k bt215.2.2.2.2.1 bt215.2.2.2.2.2.1 bt215.2.2.2.2.2.2.1 bt215.2.2.2.2.2.2.2.1 t200 t201 t202 t203).bind fun t227 => (if t227 = true then (if bt215.2.2.2.2.2.2.2.2 = t204 then (some true) else (some false)) else (some false))) else (some false)))))) = some true := H
  have A6 := zh.mk A60
  clear A60
  replace H := Option.bind_eq_some_iff.mp H
  obtain ⟨⟨t207, t208, t209, t210⟩, A70, H⟩ := H
  replace H : ((laws_toState.f k a2_0 a2_1 a2_2 a2_3).bind fun bt211 => ((impl_SplitState.f k a0 t207 t208 t209 t210 bt211.1 bt211.2.1 bt211.2.2.1 bt211.2.2.2).bind fun bt215 => ((laws_eqState.f k bt215.1 bt215.2.1 bt215.2.2.1 bt215.2.2.2.1 t196 t197 t198 t199).bind fun t226 => (if t226 = true then ((laws_eqState.f k bt215.2.2.2.2.1 bt215.2.2.2.2.2.1 bt215.2.2.2.2.2.2.1 bt215.2.2.2.2.2.2.2.1 t200 t201 t202 t203).bind fun t227 => (if t227 = true then (if bt215.2.2.2.2.2.2.2.2 = t204 then (some true) else (some false)) else (some false))) else (some false))))) = some true := H
  have A7 := zh.mk A70
  clear A70
  replace H := Option.bind_eq_some_iff.mp H
  obtain ⟨⟨t211, t212, t213, t214⟩, A80, H⟩ := H
  replace H : ((impl_SplitState.f k a0 t207 t208 t209 t210 t211 t212 t213 t214).bind fun bt215 => ((laws_eqState.f k bt215.1 bt215.2.1 bt215.2.2.1 bt215.2.2.2.1 t196 t197 t198 t199).bind fun t226 => (if t226 = true then ((laws_eqState.f k bt215.2.2.2.2.1 bt215.2.2.2.2.2.1 bt215.2.2.2.2.2.2.1 bt215.2.2.2.2.2.2.2.1 t200 t201 t202 t203).bind fun t227 => (if t227 = true then (if bt215.2.2.2.2.2.2.2.2 = t204 then (some true) else (some false)) else (some false))) else (some false)))) = some true := H
  have A8 := zh.mk A80
  clear A80
  replace H := Option.bind_eq_some_iff.mp H
  obtain ⟨⟨t215, t216, t217, t218, t219, t220, t221, t222, t223⟩, A90, H⟩ := H
  replace H : ((laws_eqState.f k t215 t216 t217 t218 t196 t197 t198 t199).bind fun t226 => (if t226 = true then ((laws_eqState.f k t219 t220 t221 t222 t200 t201 t202 t203).bind fun t227 => (if t227 = true then (if t223 = t204 then (some true) else (some false)) else (some false))) else (some false))) = some true := H
  have A9 := zh.mk A90
  clear A90
  replace H := Option.bind_eq_some_iff.mp H
  obtain ⟨t226, A100, H⟩ := H
  replace H : (if t226 = true then ((laws_eqState.f k t219 t220 t221 t222 t200 t201 t202 t203).bind fun t227 => (if t227 = true then (if t223 = t204 then (some true) else (some false)) else (some false))) else (some false)) = some true := H
  have A10 := zh.mk A100
  clear A100
  by_cases c11 : t226 = true
  · subst c11
    have H1 : ((laws_eqState.f k t219 t220 t221 t222 t200 t201 t202 t203).bind fun t227 => (if t227 = true then (if t223 = t204 then (some true) else (some false)) else (some false))) = some true := by rw [if_pos rfl] at H; exact H
    clear H
    have H := H1
    clear H1
    replace H := Option.bind_eq_some_iff.mp H
    obtain ⟨t227, A120, H⟩ := H
    replace H : (if t227 = true then (if t223 = t204 then (some true) else (some false)) else (some false)) = some true := H
    have A12 := zh.mk A120
    clear A120
    by_cases c13 : t227 = true
    · subst c13
      have H1 : (if t223 = t204 then (some true) else (some false)) = some true := by rw [if_pos rfl] at H; exact H
      clear H
      have H := H1
      clear H1
      by_cases c14 : t223 = t204
      · rw [if_pos c14] at H
        have c14b0 : (t223 == t204) = true := beq_iff_eq.mpr c14
        have c14b1 : (t223 != t204) = false := bne_eq_false_iff_eq.mpr c14
        clear c14
        go_enter Try.func3, Try.ntmps3
        try go_wp2_with (first | ((with_reducible refine zba (N := 4) rfl ?_); refine zaa ?hg (N := 4) ?hd (cs := #[.int .i64 a1_0, .int .i64 a1_1, .int .i64 a1_2, .int .i64 a1_3]) (t := 22) ?hr ?_; (case hd => rfl); (case hg => rfl); (case hr => first | (go_simp; done) | (go_simp; rfl)); intro gb186 hg w15 hbox hb; have n0_ := zh.mk (zs (by repeat (first | (with_reducible first | exact HB.out | apply zl | apply zj | apply zk) | exact HB.out)) hb); have n1_ := zh.mk (hbox); have n2_ := zh.mk ((by rw [hg]; exact (zq (by repeat (first | (with_reducible first | exact HB.out | apply zl | apply zj | apply zk) | exact HB.out))) : w.heap.size ≤ gb186)); have n3_ := zh.mk ((by rw [hg]; exact (zq (by repeat (first | (with_reducible first | exact HB.out | apply zl | apply zj | apply zk) | exact HB.out))) : w.heap.size ≤ gb186)); clear HB; have HB := n0_; have BK186 := n1_; have GW186 := n2_; have GE186 := n3_; clear n0_ n1_ n2_ n3_; clear hb hbox hg) | ((with_reducible refine zba (N := 5) rfl ?_); refine zaa ?hg (N := 5) ?hd (cs := #[.int .i64 a2_0, .int .i64 a2_1, .int .i64 a2_2, .int .i64 a2_3]) (t := 22) ?hr ?_; (case hd => rfl); (case hg => rfl); (case hr => first | (go_simp; done) | (go_simp; rfl)); intro gb187 hg w16 hbox hb; have n0_ := zh.mk (zo (g := gb186) (o := .cells #[.int .i64 a1_0, .int .i64 a1_1, .int .i64 a1_2, .int .i64 a1_3] 22 (0, 0)) (by (with_reducible repeat (first | refine ze ?_ _ | refine zf ?_ | refine za ?_ _)); exact BK186.out) hb); have n1_ := zh.mk (zs (by repeat (first | (with_reducible first | exact HB.out | apply zl | apply zj | apply zk | refine zg ?_ GE186.out) | exact HB.out)) hb); have n2_ := zh.mk (hbox); have n3_ := zh.mk ((by rw [hg]; exact (zq (by repeat (first | (with_reducible first | exact HB.out | apply zl | apply zj | apply zk | refine zg ?_ GE186.out) | exact HB.out))) : w.heap.size ≤ gb187)); have n4_ := zh.mk ((by rw [hg]; exact (zq (by repeat (first | (with_reducible first | exact HB.out | apply zl | apply zj | apply zk | refine zg ?_ GE186.out) | exact HB.out))) : w.heap.size ≤ gb187)); have n5_ := zh.mk ((by rw [hg]; exact Nat.ne_of_lt (zr (g := gb186) (o := .cells #[.int .i64 a1_0, .int .i64 a1_1, .int .i64 a1_2, .int .i64 a1_3] 22 (0, 0)) (by (with_reducible repeat (first | refine ze ?_ _ | refine zf ?_ | refine za ?_ _)); exact BK186.out)) : gb186 ≠ gb187)); have n6_ := zh.mk ((by rw [hg]; exact Nat.ne_of_gt (zr (g := gb186) (o := .cells #[.int .i64 a1_0, .int .i64 a1_1, .int .i64 a1_2, .int .i64 a1_3] 22 (0, 0)) (by (with_reducible repeat (first | refine ze ?_ _ | refine zf ?_ | refine za ?_ _)); exact BK186.out)) : gb187 ≠ gb186)); clear BK186; clear HB; have BK186 := n0_; have HB := n1_; have BK187 := n2_; have GW187 := n3_; have GE187 := n4_; have NB186_187 := n5_; have NB187_186 := n6_; clear n0_ n1_ n2_ n3_ n4_ n5_ n6_; clear hb hbox hg))
        have n0_ := zh.mk (zf BK186.out)
        have n1_ := zh.mk (zf BK187.out)
        have n2_ := zh.mk (zk HB.out)
        clear BK186
        clear BK187
        clear HB
        have BK186 := n0_
        have BK187 := n1_
        have HB := n2_
        clear n0_ n1_ n2_
        refine laws_FnExactSplitState.reg1 k a0 a1_0 a1_1 a1_2 a1_3 a2_0 a2_1 a2_2 a2_3 t188 t189 t190 t191 t192 t193 t194 t195 t196 t197 t198 t199 t200 t201 t202 t203 t204 w w16 gb186 gb187 A4 A5 A6 BK186 BK187 GW186 GE186 GW187 GE187 NB186_187 NB187_186 HB ?_
        intro gb205 gb206 w32 BK186' BK187' BK205 BK206 GW205 GE205 GW206 GE206 NB186_205 NB186_206 NB187_205 NB187_206 NB205_186 NB205_187 NB205_206 NB206_186 NB206_187 NB206_205 HB'
        clear BK186
        have BK186 := BK186'
        clear BK186'
        clear BK187
        have BK187 := BK187'
        clear BK187'
        clear HB
        have HB := HB'
        clear HB'
        try go_wp2
        have n0_ := zh.mk (zf BK186.out)
        have n1_ := zh.mk (zf BK187.out)
        have n2_ := zh.mk (zf BK205.out)
        have n3_ := zh.mk (zf BK206.out)
        have n4_ := zh.mk (zk HB.out)
        clear BK186
        clear BK187
        clear BK205
        clear BK206
        clear HB
        have BK186 := n0_
        have BK187 := n1_
        have BK205 := n2_
        have BK206 := n3_
        have HB := n4_
        clear n0_ n1_ n2_ n3_ n4_
        refine laws_FnExactSplitState.reg2 k a0 a1_0 a1_1 a1_2 a1_3 a2_0 a2_1 a2_2 a2_3 t188 t189 t190 t191 t192 t193 t194 t195 t196 t197 t198 t199 t200 t201 t202 t203 t204 t207 t208 t209 t210 t211 t212 t213 t214 t215 t216 t217 t218 t219 t220 t221 t222 t223 w w32 gb186 gb187 gb205 gb206 A7 A8 A9 BK186 BK187 BK205 BK206 GW186 GE186 GW187 GE187 GW205 GE205 GW206 GE206 NB186_187 NB186_205 NB186_206 NB187_186 NB187_205 NB187_206 NB205_186 NB205_187 NB205_206 NB206_186 NB206_187 NB206_205 HB ?_
        intro gb224 gb225 w47 BK186' BK187' BK205' BK206' BK224 BK225 GW224 GE224 GW225 GE225 NB186_224 NB186_225 NB187_224 NB187_225 NB205_224 NB205_225 NB206_224 NB206_225 NB224_186 NB224_187 NB224_205 NB224_206 NB224_225 NB225_186 NB225_187 NB225_205 NB225_206 NB225_224 HB'
        clear BK186
        have BK186 := BK186'
        clear BK186'
        clear BK187
        have BK187 := BK187'
        clear BK187'
        clear BK205
        have BK205 := BK205'
        clear BK205'
        clear BK206
        have BK206 := BK206'
        clear BK206'
        clear HB
        have HB := HB'
        clear HB'
        have hcy205_0 : w47.cell? ⟨gb205, 0, none⟩ = some (.int .i64 t196) := (zi BK205.out 0).trans rfl
        have hcy205_1 : w47.cell? ⟨gb205, 1, none⟩ = some (.int .i64 t197) := (zi BK205.out 1).trans rfl
        have hcy205_2 : w47.cell? ⟨gb205, 2, none⟩ = some (.int .i64 t198) := (zi BK205.out 2).trans rfl
        have hcy205_3 : w47.cell? ⟨gb205, 3, none⟩ = some (.int .i64 t199) := (zi BK205.out 3).trans rfl
        have hcy206_0 : w47.cell? ⟨gb206, 0, none⟩ = some (.int .i64 t200) := (zi BK206.out 0).trans rfl
        have hcy206_1 : w47.cell? ⟨gb206, 1, none⟩ = some (.int .i64 t201) := (zi BK206.out 1).trans rfl
        have hcy206_2 : w47.cell? ⟨gb206, 2, none⟩ = some (.int .i64 t202) := (zi BK206.out 2).trans rfl
        have hcy206_3 : w47.cell? ⟨gb206, 3, none⟩ = some (.int .i64 t203) := (zi BK206.out 3).trans rfl
        have hcy224_0 : w47.cell? ⟨gb224, 0, none⟩ = some (.int .i64 t215) := (zi BK224.out 0).trans rfl
        have hcy224_1 : w47.cell? ⟨gb224, 1, none⟩ = some (.int .i64 t216) := (zi BK224.out 1).trans rfl
        have hcy224_2 : w47.cell? ⟨gb224, 2, none⟩ = some (.int .i64 t217) := (zi BK224.out 2).trans rfl
        have hcy224_3 : w47.cell? ⟨gb224, 3, none⟩ = some (.int .i64 t218) := (zi BK224.out 3).trans rfl
        have hcy225_0 : w47.cell? ⟨gb225, 0, none⟩ = some (.int .i64 t219) := (zi BK225.out 0).trans rfl
        have hcy225_1 : w47.cell? ⟨gb225, 1, none⟩ = some (.int .i64 t220) := (zi BK225.out 1).trans rfl
        have hcy225_2 : w47.cell? ⟨gb225, 2, none⟩ = some (.int .i64 t221) := (zi BK225.out 2).trans rfl
        have hcy225_3 : w47.cell? ⟨gb225, 3, none⟩ = some (.int .i64 t222) := (zi BK225.out 3).trans rfl
        try go_wp2_with (first | ((with_reducible refine zea (f := 8) rfl ?_); refine zna (some 35) rfl rfl Try.func8 (by kernel_rfl) rfl #[.agg #[.int .i64 t215, .int .i64 t216, .int .i64 t217, .int .i64 t218], .agg #[.int .i64 t196, .int .i64 t197, .int .i64 t198, .int .i64 t199]] rfl (by (try simp only [List.map_toArray, List.map_cons, List.map_nil]); first | done | rfl | (simp only [List.length_drop, List.length_take]; rfl)) ?_; (with_reducible refine (laws_eqState.calls k t215 t216 t217 t218 t196 t197 t198 t199 true _ A10.out).mono ?_); rintro e w59 ⟨rfl, hb⟩; refine ⟨_, rfl, ?_⟩; have n0_ := zh.mk (zo (g := gb186) (o := .cells #[.int .i64 a1_0, .int .i64 a1_1, .int .i64 a1_2, .int .i64 a1_3] 22 (0, 0)) (by (with_reducible repeat (first | refine ze ?_ _ | refine zf ?_ | refine za ?_ _)); exact BK186.out) hb); have n1_ := zh.mk (zo (g := gb187) (o := .cells #[.int .i64 a2_0, .int .i64 a2_1, .int .i64 a2_2, .int .i64 a2_3] 22 (0, 0)) (by (with_reducible repeat (first | refine ze ?_ _ | refine zf ?_ | refine za ?_ _)); exact BK187.out) hb); have n2_ := zh.mk (zo (g := gb205) (o := .cells #[.int .i64 t196, .int .i64 t197, .int .i64 t198, .int .i64 t199] 23 (0, 0)) (by (with_reducible repeat (first | refine ze ?_ _ | refine zf ?_ | refine za ?_ _)); exact BK205.out) hb); have n3_ := zh.mk (zo (g := gb206) (o := .cells #[.int .i64 t200, .int .i64 t201, .int .i64 t202, .int .i64 t203] 23 (0, 0)) (by (with_reducible repeat (first | refine ze ?_ _ | refine zf ?_ | refine za ?_ _)); exact BK206.out) hb); have n4_ := zh.mk (zo (g := gb224) (o := .cells #[.int .i64 t215, .int .i64 t216, .int .i64 t217, .int .i64 t218] 23 (0, 0)) (by (with_reducible repeat (first | refine ze ?_ _ | refine zf ?_ | refine za ?_ _)); exact BK224.out) hb); have n5_ := zh.mk (zo (g := gb225) (o := .cells #[.int .i64 t219, .int .i64 t220, .int .i64 t221, .int .i64 t222] 23 (0, 0)) (by (with_reducible repeat (first | refine ze ?_ _ | refine zf ?_ | refine za ?_ _)); exact BK225.out) hb); have n6_ := zh.mk (zs (by repeat (first | (with_reducible first | exact HB.out | apply zl | apply zj | apply zk | refine zg ?_ GE186.out | refine zg ?_ GE187.out | refine zg ?_ GE205.out | refine zg ?_ GE206.out | refine zg ?_ GE224.out | refine zg ?_ GE225.out) | exact HB.out)) hb); clear BK186; clear BK187; clear BK205; clear BK206; clear BK224; clear BK225; clear HB; have BK186 := n0_; have BK187 := n1_; have BK205 := n2_; have BK206 := n3_; have BK224 := n4_; have BK225 := n5_; have HB := n6_; clear n0_ n1_ n2_ n3_ n4_ n5_ n6_; (try clear hb); (try clear hb2); (try clear hk); (try clear hi); have hnb60 := NB225_186.out; have hnc60 := NB186_225.out; have hnb61 := NB225_187.out; have hnc61 := NB187_225.out; have hnb62 := NB225_206.out; have hnc62 := NB206_225.out; have hcz63_0 : w59.cell? ⟨gb225, 0, none⟩ = some (.int .i64 t219) := (zi BK225.out 0).trans rfl; have hcz63_1 : w59.cell? ⟨gb225, 1, none⟩ = some (.int .i64 t220) := (zi BK225.out 1).trans rfl; have hcz63_2 : w59.cell? ⟨gb225, 2, none⟩ = some (.int .i64 t221) := (zi BK225.out 2).trans rfl; have hcz63_3 : w59.cell? ⟨gb225, 3, none⟩ = some (.int .i64 t222) := (zi BK225.out 3).trans rfl; have hfz63_0 := zm BK225.out 0; have hfz63_1 := zm BK225.out 1; have hfz63_2 := zm BK225.out 2; have hfz63_3 := zm BK225.out 3; have hnb64 := NB206_186.out; have hnc64 := NB186_206.out; have hnb65 := NB206_187.out; have hnc65 := NB187_206.out; have hcz66_0 : w59.cell? ⟨gb206, 0, none⟩ = some (.int .i64 t200) := (zi BK206.out 0).trans rfl; have hcz66_1 : w59.cell? ⟨gb206, 1, none⟩ = some (.int .i64 t201) := (zi BK206.out 1).trans rfl; have hcz66_2 : w59.cell? ⟨gb206, 2, none⟩ = some (.int .i64 t202) := (zi BK206.out 2).trans rfl; have hcz66_3 : w59.cell? ⟨gb206, 3, none⟩ = some (.int .i64 t203) := (zi BK206.out 3).trans rfl; have hfz66_0 := zm BK206.out 0; have hfz66_1 := zm BK206.out 1; have hfz66_2 := zm BK206.out 2; have hfz66_3 := zm BK206.out 3) | (go_at_call 8; (with_reducible refine (laws_eqState.calls k t219 t220 t221 t222 t200 t201 t202 t203 true _ A12.out).mono ?_); rintro e w67 ⟨rfl, hb⟩; have n0_ := zh.mk (zo (g := gb186) (o := .cells #[.int .i64 a1_0, .int .i64 a1_1, .int .i64 a1_2, .int .i64 a1_3] 22 (0, 0)) (by (with_reducible repeat (first | refine ze ?_ _ | refine zf ?_ | refine za ?_ _)); exact BK186.out) hb); have n1_ := zh.mk (zo (g := gb187) (o := .cells #[.int .i64 a2_0, .int .i64 a2_1, .int .i64 a2_2, .int .i64 a2_3] 22 (0, 0)) (by (with_reducible repeat (first | refine ze ?_ _ | refine zf ?_ | refine za ?_ _)); exact BK187.out) hb); have n2_ := zh.mk (zo (g := gb205) (o := .cells #[.int .i64 t196, .int .i64 t197, .int .i64 t198, .int .i64 t199] 23 (0, 0)) (by (with_reducible repeat (first | refine ze ?_ _ | refine zf ?_ | refine za ?_ _)); exact BK205.out) hb); have n3_ := zh.mk (zo (g := gb206) (o := .cells #[.int .i64 t200, .int .i64 t201, .int .i64 t202, .int .i64 t203] 23 (0, 0)) (by (with_reducible repeat (first | refine ze ?_ _ | refine zf ?_ | refine za ?_ _)); exact BK206.out) hb); have n4_ := zh.mk (zo (g := gb224) (o := .cells #[.int .i64 t215, .int .i64 t216, .int .i64 t217, .int .i64 t218] 23 (0, 0)) (by (with_reducible repeat (first | refine ze ?_ _ | refine zf ?_ | refine za ?_ _)); exact BK224.out) hb); have n5_ := zh.mk (zo (g := gb225) (o := .cells #[.int .i64 t219, .int .i64 t220, .int .i64 t221, .int .i64 t222] 23 (0, 0)) (by (with_reducible repeat (first | refine ze ?_ _ | refine zf ?_ | refine za ?_ _)); exact BK225.out) hb); have n6_ := zh.mk (zs (by repeat (first | (with_reducible first | exact HB.out | apply zl | apply zj | apply zk | refine zg ?_ GE186.out | refine zg ?_ GE187.out | refine zg ?_ GE205.out | refine zg ?_ GE206.out | refine zg ?_ GE224.out | refine zg ?_ GE225.out) | exact HB.out)) hb); clear BK186; clear BK187; clear BK205; clear BK206; clear BK224; clear BK225; clear HB; have BK186 := n0_; have BK187 := n1_; have BK205 := n2_; have BK206 := n3_; have BK224 := n4_; have BK225 := n5_; have HB := n6_; clear n0_ n1_ n2_ n3_ n4_ n5_ n6_; (try clear hb); (try clear hb2); (try clear hk); (try clear hi)))
        go_ret
        exact ⟨by first | rfl | (simp [errW_none, errW_some] <;> rfl) | (simp [*, errW_none, errW_some] <;> rfl), by repeat (first | (with_reducible first | exact HB.out | apply zl | apply zj | apply zk | refine zg ?_ GE186.out | refine zg ?_ GE187.out | refine zg ?_ GE205.out | refine zg ?_ GE206.out | refine zg ?_ GE224.out | refine zg ?_ GE225.out) | exact HB.out)⟩
      · rw [if_neg c14] at H
        exact absurd H (by simp)
    · rw [if_neg c13] at H
      exact absurd H (by simp)
  · rw [if_neg c11] at H
    exact absurd H (by simp)

end Go.Proofs.Ytidblojobcgkjaa.M

