/-
  Proved: the program's ReadFixed answers as the reference's for every text; what it gives back is its own. No conditions.
-/
import Derived.Test.YtmfbcklaomigaaaDoorRows
import Derived.Test.YtmfbcklaomigaaaDoorTie
import Derived.Test.YtmfbcklaomigaaaDoorCards
import Derived.Test.YtmfbcklaomigaaaDoorDx16
import Derived.Test.YtmfbcklaomigaaaDoorPureFnExactReadFixed
import Derived.WalkKit
import Derived.ProofKit
import Derived.OpenShut
import Derived.ShutString
import Derived.ChangeOld
import Derived.Below
import Derived.SizedLaws
import Derived.LaidMore
import Derived.Lay
import Derived.SevenTiedAt
import Derived.Stop.Joined
import Derived.HandedShaped
import Derived.Shelf.Vars
namespace Go.Proofs.YtmfbcklaomigaaaDoor.fnExactReadFixed
open Go.ChangeShapes Go.WideShapes Go.ChangeAt Go.RowKit
open Go.ChangeMaps (open_string shut_string)
set_option linter.unusedVariables false
theorem own : ownKnob Tryd.prog.godebug = none := by kernel_rfl
/-- What the world's shape tells of the library's own variable. -/
theorem maxl {W : World} (h : W.ShapedOpen Tryd.prog) : D.MaxL W :=
 cell_of_shapedOpen_int (P := Tryd.prog) (g := 0) (t := 3) (zero := #[.int .i64 0]) h (of_decide_eq_true (by kernel_rfl)) (by kernel_rfl) rfl (by kernel_rfl) (by kernel_rfl) Tryd.underlying3
set_option maxRecDepth 100000 in
theorem lifted (os : Os) (started : os.Started) (H : Type) (enc : TypeId × Value → H) :
  ReturnsInHanded {} Tryd.checked os 4 .any (fun w args => (Rows.fnExactReadFixedSpec.pre enc Tryd.prog Tryd.f4 Rows.fnExactReadFixedRow.domain false w args ∧ laidMetH Tryd.prog Rows.fnExactReadFixedRow.laid w) ∧ sizedMet enc Tryd.prog Tryd.f4 (OpenSpec.ofChange Rows.fnExactReadFixedSpec) false w args)
   (Rows.fnExactReadFixedSpec.post enc Tryd.prog Tryd.f4 false true false false) := by
 refine returnsInHanded_of_calls (C := Tryd.checked) own started (by kernel_rfl)
  (ChangeSpec.witness_shaped (enc := enc) (C := Tryd.checked) (fn := Tryd.f4) (os := os) (X := fun w _ => laidMetH Tryd.prog Rows.fnExactReadFixedRow.laid w) false (World.laidAll Tryd.prog os Rows.fnExactReadFixedRow.laid) #[.string ByteArray.empty] 8 (World.laidAll_os _ _ _)
   (World.shaped_of_ZipB (by kernel_rfl) (by kernel_rfl)) (by kernel_rfl) (by kernel_rfl) (by kernel_rfl)
   (by rw [MakeChecks.laidMetH_plain _ _ _ (by kernel_rfl)]; exact laidMet_laidAll _ (by kernel_rfl) (by kernel_rfl))) ?_
 intro w tape i _ hsh _ hok hpre _
 obtain ⟨_, _, _, fn', hfn', _, _, _, _, hval0⟩ := hok
 obtain rfl : fn' = Tryd.f4 := Option.some.inj (hfn'.symm.trans Tryd.func4)
 obtain ⟨⟨⟨ds, gs, before, hw, hc⟩, hx⟩, hz⟩ := hpre
 have hW := DataW.Whole.of_heap (w' := w.forCall tape i) (by rfl) hw
 have hsz0 := hz.weights hw
 have key : Calls Tryd.prog 4 i.args (w.forCall tape i) fun e W' => ∃ v, e = .returned v ∧ Rows.fnExactReadFixedSpec.post enc Tryd.prog Tryd.f4 false true false false (w.forCall tape i) i.args v W' := by
  generalize w.forCall tape i = W at hsh hval0 hW
  generalize i.args = args at hval0 hW ⊢
  generalize w.heap.size = base at hval0
  have hsz : (DataW.weightsEach Tryd.prog (Tryd.f4.params.toList ++ Rows.fnExactReadFixedSpec.plain.varTypes Tryd.prog) (ds ++ gs)).all (· ≤ reachBytes) = true := hsz0
  have hval : ∀ (j : Nat) t v, Tryd.f4.params[j]? = some t → args[j]? = some v → Value.okWide Tryd.prog W .any base t v := hval0
  have hW' := hW
  obtain ⟨p, q, hA0, hV, rfl, hfz, hnd⟩ := hW
  have hA : DataW.TrodAll enc Tryd.prog W 0 (fun _ => true) true Tryd.f4.params.toList args.toList ds p := hA0
  rw [Tryd.params4] at hA hval hsz
  obtain ⟨v0, vs0, d0, ds0, p0, q0, hargs, rfl, rfl, h0, r0⟩ := trodAll_cons hA
  obtain ⟨rfl, rfl, rfl⟩ := trodAll_nil r0
  obtain rfl : args = #[v0] := by cases args; simp_all
  obtain ⟨rfl, rfl⟩ := trodVars_none hV
  obtain ⟨a0, rfl, rfl, rfl, y0⟩ := open_string Tryd.underlying9 (hval 0 9 v0 rfl rfl) h0
  have w0 : a0.size ≤ 140737488351232 := by
   have z := sized_string hsz (j := 0) (t := 9) rfl rfl
   rw [Array.length_toList] at z
   exact z
  clear hA0 hval0 hsz0 hsz
  refine (D.laws_FnExactReadFixed.walk Pure.FnExactReadFixed a0 W (maxl hsh) w0).mono fun e W' ⟨he, bel⟩ => ?_
  subst he
  exact ⟨_, rfl, _, _, _, [], _, [], hW', trodAll_mk1 (shut_bool Tryd.underlying4 _), (trodAll_cons_mk (shut_string Tryd.underlying9 y0) trodAll_mk0), rfl, bel.frame _, fun h => by cases h⟩
 refine key.mono fun e W' ⟨v, he, hp⟩ => ?_
 subst he
 exact ChangeSpec.post_blind hp
theorem over : Rows.fnExactReadFixedRow.holds Tryd.pinned (OpenSpec.ofChange Rows.fnExactReadFixedSpec) :=
 OpenClaim.holds_of_wide 4 Tryd.f4 rfl rfl rfl rfl rfl rfl rfl ⟨rfl, rfl, rfl, rfl, rfl⟩ rfl rfl rfl rfl rfl (by kernel_rfl) Tryd.func4 (by kernel_rfl)
  (of_decide_eq_true (by kernel_rfl)) (by unfold Func.isWrapper; first | (rw [if_pos (by decide +kernel)]; kernel_rfl) | (rw [if_neg (by decide +kernel)]; exact ⟨rfl, rfl⟩))
  (fun os started H enc _ => lifted os started H enc)
theorem card : Rows.FnExactReadFixedCardSaid :=
 Claim7.holds_tied_plain_at .later [] [.data, .pinned] true (true, "d3d67d0495af9103c8af50469ab31e154ee88e6817d59e2e8d721b1a8d4f6bc9") false over (fun _ h => by cases h) (by kernel_rfl) (fun _ h => by cases h) fnExactReadFixed_row_tie rfl ⟨rfl, rfl⟩ (by kernel_rfl) rfl
  (fun f fn hf hfn => by
   obtain rfl : f = 4 := Option.some.inj ((show Tryd.prog.funcNamed "loop.example/g01281/laws.FnExactReadFixed" = some 4 by kernel_rfl).symm.trans hf) |>.symm
   obtain rfl : fn = Tryd.f4 := (Option.some.inj (Tryd.func4.symm.trans hfn)).symm
   exact ⟨by kernel_rfl, fun j t ht => by
    rw [Tryd.params4] at ht
    have hm : t ∈ [9] := by simpa using Array.mem_of_getElem? ht
    have hall : ([9].all fun u => !Tryd.prog.wantsStandIn u) = true := by kernel_rfl
    exact (show Tryd.prog.wantsStandIn t = false by simpa using List.all_eq_true.1 hall t hm)⟩)
  (by kernel_rfl)
end Go.Proofs.YtmfbcklaomigaaaDoor.fnExactReadFixed
namespace Go.Proofs.YtmfbcklaomigaaaDoor
/-- The tied card, under a short name, for the claim. -/
theorem fnExactReadFixed_holds : Rows.FnExactReadFixedCardSaid := fnExactReadFixed.card
#print axioms fnExactReadFixed_holds
end Go.Proofs.YtmfbcklaomigaaaDoor
