/- The reference's AmountsIn. -/
import Derived.Test.YteciomagemjjaaaJx9
import Derived.Test.YteciomagemjjaaaLFindJ
import Derived.Test.YteciomagemjjaaaLPrJ
import Derived.Test.YteciomagemjjaaaLBfJ
import Derived.Laws.IdiomCopy
namespace Go.Proofs.Yteciomagemjjaaa.J
open Go.RowKit Go.Proofs.YteciomagemjjaaaW.PrintWords Go.Proofs.YteciomagemjjaaaW.PrintLast Go.Proofs.YteciomagemjjaaaW.PrintMore
set_option linter.unusedVariables false
set_option linter.unusedSimpArgs false
/-! ### spec.AmountsIn: function 45, by hand -/
section
variable {w W : World} {g : Nat} {t : TypeId}
theorem zud : ∀ (vs old pre post : List Value) (w : World), old.length = vs.length → w.heap[g]? = some (.cells (pre ++ old ++ post).toArray t (0, 0)) → (w.setCells g pre.length vs).heap[g]? = some (.cells (pre ++ vs ++ post).toArray t (0, 0))
  | [], old, pre, post, w, hl, h => by
    obtain rfl : old = [] := List.length_eq_zero_iff.mp hl
    exact h
  | v :: vs, [], pre, post, w, hl, h => by simp at hl
  | v :: vs, o :: old, pre, post, w, hl, h => by
    have e : ((pre ++ (o :: old) ++ post).toArray).setIfInBounds pre.length v = ((pre ++ [v]) ++ old ++ post).toArray := by simp
    have h1 := zx h pre.length v e
    have h2 := zud vs old (pre ++ [v]) post _ (by simpa using hl) h1
    rw [List.length_append, List.length_singleton] at h2
    rw [show pre ++ v :: vs ++ post = pre ++ [v] ++ vs ++ post by simp]
    exact h2
theorem zvc {w0 : World} : ∀ (vs : List Value) (o : Nat) (W : World), Below w0.heap.size w0 W → w0.heap.size ≤ g → Below w0.heap.size w0 (W.setCells g o vs)
  | [], _, _, h, _ => h
  | _ :: vs, o, _, h, hg => zvc vs (o + 1) _ (zt h hg) hg
theorem store_go {ev : Operand → Value} {o : Oper} {x y : Operand} {T : TypeId} {cur vs : Array Value} (ho : o.op = .store T y x) (hp : ev y = .pointer (some ⟨g, 0, none⟩)) (hx : ev x = .agg vs)
    (hi : (Try.prog.info? T).map (·.size) = some vs.size) (hg : w.heap[g]? = some (.cells cur t (0, 0))) (hl : vs.size ≤ cur.size) (h1 : ∀ v ∈ vs.toList, v.oneCell' = true) :
    (execOp ev o).run Try.prog w = .ok .skip (w.setCells g 0 vs.toList) := by
  have hst := run_storeCells_cells (P := Try.prog) g 0 vs.toList 0 w (fun j hj => by rw [cell_of_row w g _ cur t (0, 0) hg]; simp at hj; simp; omega) (fun j hj => by simpa using zg hg _) h1
  cases hq : Try.prog.info? T with
  | none => simp [hq] at hi
  | some i =>
    have hs : i.size = vs.size := by simpa [hq] using hi
    unfold execOp
    simp at hst
    simp [ho, hp, hx, Instr.storeAt, Instr.sureAddr, storeVar, Sem.run_bind, sizeOf, typeInfo, hq, hs, hst, Value.cells]
theorem zhe {ops : Array Oper} {rest : List Oper} {o : Oper} {a : Act} {Q : Exit → Act → World → Prop} (hgd : o.guard = none) {x : Operand} {p : Tmp} {T : TypeId} {cur vs : Array Value} (ho : o.op = .store T (.tmp p) x) (hN : o.dst = none) (hp : a.eval (.tmp p) = .pointer (some ⟨g, 0, none⟩)) (hx : a.eval x = .agg vs)
    (hi : (Try.prog.info? T).map (·.size) = some vs.size) (hg : W.heap[g]? = some (.cells cur t (0, 0))) (hl : vs.size = cur.size) (h1 : ∀ v ∈ vs.toList, v.oneCell' = true)
    (h : ∀ W', W'.heap[g]? = some (.cells vs t (0, 0)) → (∀ w0 : World, Below w0.heap.size w0 W → w0.heap.size ≤ g → Below w0.heap.size w0 W') → wpList Try.prog ops Q rest a W') : wpList Try.prog ops Q (o :: rest) a W := by
  refine zya (t := T) (p := p) hgd ho hN (store_go ho hp hx hi hg (by omega) h1) ?_
  rintro w' rfl
  refine h _ ?_ (fun w0 hb hg => zvc _ _ _ hb hg)
  have := zud vs.toList cur.toList [] [] W (by simpa using hl.symm) (by simpa using hg)
  simpa using this
end
/-- The cells of a row of Bools. -/
def mkB (bs : List Bool) : Array Value := (bs.map Value.bool).toArray
theorem mkB_get {w : World} {g : Nat} {t : TypeId} {bs : List Bool} (h : w.heap[g]? = some (.cells (mkB bs) t (0, 0))) (n : Nat) (hn : n < bs.length) : w.cell? ⟨g, n, none⟩ = some (.bool (bs.getD n false)) := by
  rw [zb h]
  simp [mkB, List.getD_eq_getElem?_getD, List.getElem?_eq_getElem hn]
theorem mkB_set {w : World} {g : Nat} {t : TypeId} {bs : List Bool} (h : w.heap[g]? = some (.cells (mkB bs) t (0, 0))) (n : Nat) (b : Bool) : (w.setCell ⟨g, n, none⟩ (.bool b)).heap[g]? = some (.cells (mkB (bs.set n b)) t (0, 0)) :=
  zx h n _ (by simp [mkB])
/-- The amounts of one water are marked. -/
def mkW : List Int → List Bool → List Bool
  | [], bs => bs
  | v :: vs, bs => mkW vs (bs.set v.toNat true)
/-- The amounts of the waters with these numbers are marked; none if one is greater than 60. -/
def amB (k : Nat) (l : List Int) (a b c d : Int) (tap : Bool) : List Int → List Bool → Option (List Bool)
  | [], bs => some bs
  | o :: os, bs => (spec_l02At.f k l a b c d tap o).bind fun w => if ∀ v ∈ [w.1, w.2.1, w.2.2.1, w.2.2.2], 0 ≤ v ∧ v ≤ 60 then amB k l a b c d tap os (mkW ([w.1, w.2.1, w.2.2.1, w.2.2.2].take l.length) bs) else none
/-- The numbers from x on that are marked. -/
def zrb (bs : List Bool) : Nat → Nat → List Int
  | _, 0 => []
  | x, d + 1 => if bs.getD x false = true then (x : Int) :: zrb bs (x + 1) d else zrb bs (x + 1) d
theorem ztc (bs : List Bool) (x : Nat) : zrb bs x 0 = [] := rfl
theorem zqc (bs : List Bool) (x d : Nat) : zrb bs x (d + 1) = if bs.getD x false = true then (x : Int) :: zrb bs (x + 1) d else zrb bs (x + 1) d := rfl
def spec_AmountsIn.f (k : Nat) (l0_0 : List Int) (a0_1 : Int) (a0_2 : Int) (a0_3 : Int) (a0_4 : Int) (a0_5 : Bool) : Option (List Int × Int) := (spec_l02Ok.f k l0_0 a0_1 a0_2 a0_3 a0_4 a0_5).bind fun t => if t = true then (spec_l02Find.f k l0_0 a0_1 a0_2 a0_3 a0_4 a0_5).bind fun s => if l0_0.length ≤ 4 ∧ s.2.2.2.length < 1000000 then (amB k l0_0 a0_1 a0_2 a0_3 a0_4 a0_5 s.2.2.2 (List.replicate 61 false)).bind fun bs => some (zrb bs 0 61, 0) else none else some ([], 1)
theorem mkW_len : ∀ (vs : List Int) (bs : List Bool), (mkW vs bs).length = bs.length
  | [], _ => rfl
  | v :: vs, bs => by rw [mkW, mkW_len vs, List.length_set]
theorem drop_rd (l : List Int) (j : Nat) (h : j < l.length) : l.drop j = rd l (j : Int) :: l.drop (j + 1) := by
  rw [List.drop_eq_getElem_cons h]
  unfold rd
  rw [Int.toNat_natCast, List.getD_eq_getElem?_getD, List.getElem?_eq_getElem h, Option.getD_some]
theorem take4_rd (a b c d : Int) (n j : Nat) (hj : j < n) (hn : n ≤ 4) : ([a, b, c, d].take n).drop j = rd [a, b, c, d] (j : Int) :: ([a, b, c, d].take n).drop (j + 1) := by
  have hl : ([a, b, c, d].take n).length = n := by rw [List.length_take]; exact Nat.min_eq_left hn
  rw [drop_rd _ j (by omega)]
  congr 1
  unfold rd
  rw [Int.toNat_natCast, List.getD_eq_getElem?_getD, List.getD_eq_getElem?_getD, List.getElem?_take_of_lt hj]
theorem rd4_in {a b c d : Int} (h : ∀ v ∈ [a, b, c, d], 0 ≤ v ∧ v ≤ 60) (j : Nat) (hj : j < 4) : 0 ≤ rd [a, b, c, d] (j : Int) ∧ rd [a, b, c, d] (j : Int) ≤ 60 := by
  rcases (show j = 0 ∨ j = 1 ∨ j = 2 ∨ j = 3 by omega) with rfl | rfl | rfl | rfl
  · exact h a (by simp)
  · exact h b (by simp)
  · exact h c (by simp)
  · exact h d (by simp)
theorem cell4_rd {w : World} {g : Nat} {t : TypeId} {a b c d : Int} (h : w.heap[g]? = some (.cells #[.int .i16 a, .int .i16 b, .int .i16 c, .int .i16 d] t (0, 0))) (j : Nat) (hj : j < 4) : w.cell? ⟨g, j, none⟩ = some (.int .i16 (rd [a, b, c, d] (j : Int))) := by
  rw [zb h]
  rcases (show j = 0 ∨ j = 1 ∨ j = 2 ∨ j = 3 by omega) with rfl | rfl | rfl | rfl <;> rfl
theorem zD {w wF W W' : World} (h : za (Below w.heap.size w wF)) (k : za (BF wF W)) (u : Below W.heap.size W W' := by with_reducible repeat (first | exact Below.refl _ _ | apply zw | apply zo | apply zv)) : w.heap.size ≤ W'.heap.size := Nat.le_trans h.out.size (Nat.le_trans k.out.size u.size)
set_option maxHeartbeats 8000000 in
set_option maxRecDepth 100000 in
theorem spec_AmountsIn.calls (k : Nat) (A0_0 : Option Addr) (c0_0 : Nat) (l0_0 : List Int) (a0_1 : Int) (a0_2 : Int) (a0_3 : Int) (a0_4 : Int) (a0_5 : Bool) (r1 : List Int) (r2 : Int) (w : World) (hr0_0 : Kd.C (Kd.int .i16) w A0_0 l0_0.length l0_0) (hc0_0 : l0_0.length ≤ c0_0) (h : spec_AmountsIn.f k l0_0 a0_1 a0_2 a0_3 a0_4 a0_5 = some (r1, r2)) :
  Calls Try.prog 45 #[.agg #[.slice A0_0 l0_0.length c0_0, .int .i16 a0_1, .int .i16 a0_2, .int .i16 a0_3, .int .i16 a0_4, .bool a0_5]] w fun e w' => ∃ v0_ : Value, e = .returned (.tuple #[v0_, .int .i64 r2]) ∧ Kd.R (Kd.int .i64) 2 w' w.heap.size (fun _ => True) v0_ r1 ∧ Below w.heap.size w w' := by
 have hu29 := Try.underlying29
 have hu27 := Try.underlying27
 have HR0_0 := za.mk hr0_0
 have HC0_0 := za.mk hc0_0
 clear hr0_0 hc0_0
 have HB := za.mk (Below.refl w.heap.size w)
 obtain ⟨t1, A10, H⟩ := Option.bind_eq_some_iff.mp h
 clear h
 have A1 := za.mk A10
 clear A10
 by_cases c1 : t1 = true
 · subst c1
   rw [if_pos rfl] at H
   obtain ⟨s, A20, H⟩ := Option.bind_eq_some_iff.mp H
   have A2 := za.mk A20
   clear A20
   by_cases c2 : l0_0.length ≤ 4 ∧ s.2.2.2.length < 1000000
   · rw [if_pos c2] at H
     obtain ⟨bsF, A30, H⟩ := Option.bind_eq_some_iff.mp H
     have A3 := za.mk A30
     clear A30
     have HL := za.mk c2
     clear c2
     simp only [Option.some.injEq, Prod.mk.injEq] at H
     obtain ⟨rfl, rfl⟩ := H
     obtain ⟨ord, hord⟩ : ∃ ord : List Int, ord = s.2.2.2 := ⟨_, rfl⟩
     rw [← hord] at A3 HL
     have HO := za.mk hord
     clear hord
     go_enter Try.func45, Try.ntmps45
     go_wp2_with (first
       | ((with_reducible refine zu (N := 1) rfl ?_); refine bx (N := 1) #[.slice A0_0 l0_0.length c0_0, .int .i16 a0_1, .int .i16 a0_2, .int .i16 a0_3, .int .i16 a0_4, .bool a0_5] 29 rfl ?_; intro g1 hg w5 hbox hb; have BK1 := za.mk hbox; have GE1 := gB hg; replace HB := za.mk (zh sB hb); clear hb hbox hg)
       | ((with_reducible refine zn (f := 57) rfl ?_); refine gz (some 11) Try.func57 #[.pointer (some ⟨g1, 0, none⟩)] rfl rfl ?_; (with_reducible refine (spec_l02Ok.calls k g1 A0_0 c0_0 l0_0 a0_1 a0_2 a0_3 a0_4 a0_5 true _ ?side1 ?side2 ?side3 A1.out).mono ?_); (case side1 => exact uK BK1); (case side2 => exact uC HR0_0 HB); (case side3 => exact HC0_0.out); rintro e w7 ⟨rfl, hb⟩; refine ⟨_, rfl, ?_⟩; replace BK1 := dK BK1 hb; replace HB := za.mk (zh sB hb); clear hb)
       | ((with_reducible refine zn (f := 58) rfl ?_); refine gz (some 14) Try.func58 #[.pointer (some ⟨g1, 0, none⟩)] rfl rfl ?_; (with_reducible refine (spec_l02Find.calls k g1 A0_0 c0_0 l0_0 a0_1 a0_2 a0_3 a0_4 a0_5 s _ ?side1 ?side2 ?side3 A2.out).mono ?_); (case side1 => exact uK BK1); (case side2 => exact uC HR0_0 HB); (case side3 => exact HC0_0.out); rintro e wF ⟨gs, rfl, hge, vS_, vF_, vB_, vO_, hbk, hr0_, hr1_, hr2_, ho0, hb⟩; refine ⟨_, rfl, ?_⟩; rw [← HO.out] at ho0; obtain ⟨Ao_, co_, eo_⟩ := Kd.R_slice ho0; subst eo_; have FS := za.mk hbk; have FO := za.mk (Kd.R_reads' ho0); replace BK1 := dK BK1 hb; replace HB := za.mk (zh sB hb); have HBF := za.mk (BF.refl_ wF); clear hb hbk hge hr0_ hr1_ hr2_ ho0)
       | ((with_reducible refine zu (N := 5) rfl ?_); refine bx (N := 5) (mkB (List.replicate 61 false)) 111 rfl ?_; intro g5 hg w9 hbox hb; have BK5 := za.mk hbox; have GF5 : za (wF.heap.size ≤ g5) := ⟨by have := (uF HBF (W' := _) (u := Below.refl _ _)).size; omega⟩; replace HBF := dF HBF hb; clear hb hbox hg)
       | ((with_reducible refine zza (t := 111) (p := 5) rfl ?_); refine zhe (p := 5) (T := 111) (vs := mkB (List.replicate 61 false)) rfl rfl rfl rfl ?hx (by kernel_rfl) BK5.out rfl ?h1 ?_; (case hx => first | rfl | (go_simp; rfl)); (case h1 => intro v hv; simp [mkB] at hv; obtain ⟨_, rfl⟩ := hv; rfl); intro w10 hbox hb; replace BK5 := za.mk hbox; replace HBF := za.mk (show BF wF w10 from hb wF HBF.out GF5.out); clear hbox hb))
     go_loopg [6] ord.length (fun kq v6 w' => ∃ (n : Nat) (bs : List Bool), v6 = .int .i64 (n : Int) ∧ za (n + kq = ord.length) ∧ za (amB k l0_0 a0_1 a0_2 a0_3 a0_4 a0_5 (ord.drop n) bs = some bsF) ∧ za (bs.length = 61) ∧ za (w'.heap[g5]? = some (.cells (mkB bs) 111 (0, 0))) ∧ za (BF wF w'))
     case atStart => exact ⟨0, _, rfl, ⟨by omega⟩, A3, ⟨List.length_replicate ..⟩, ⟨uK BK5⟩, ⟨uF HBF⟩⟩
     case round =>
      clear BK5 HBF A3
      obtain ⟨n, bs, rfl, HN, HA, HL5, BK5, HBF⟩ := hrel
      obtain ⟨x, hx⟩ : ∃ x : Int, x = (n : Int) := ⟨_, rfl⟩
      rw [← hx]
      have HX := za.mk hx
      clear hx
      have hs3 := zkc (zca FS.out HBF.out)
      cases gk with
      | zero =>
       have hn : decide (x < (ord.length : Int)) = false := decide_eq_false (by have := HN.out; have := HX.out; omega)
       have hA := HA.out
       rw [List.drop_eq_nil_of_le (by have := HN.out; omega)] at hA
       obtain rfl := Option.some.inj hA
       clear hA HA HN
       go_wp2_with (first
        | ((with_reducible refine zu (N := 44) rfl ?_); refine Kd.R_lit (Kd.int .i64) _ 2 ?hg (N := 44) ?hd (xs := ([] : List Int)) (inner := []) (ok := fun _ => True) (okp := fun _ => True) ?hr ?hp (fun _ hk => hk) trivial (Below.refl _ _) (Nat.le_refl _) (by simp) ?_; (case hd => rfl); (case hg => rfl); (case hr => first | (go_simp; done) | (go_simp; rfl)); (case hp => exact (Reps.none _ _)); intro v44 w30 ho hb hg_ hnew_; clear hg_ hnew_; have HW : za (Below w.heap.size w w30) := ⟨zh (zh HB.out (uF HBF)) hb⟩; have HO4 := za.mk (Kd.R_lower ho (zD HB HBF)); replace BK5 := dK BK5 hb; clear hb ho))
       go_loopg [9, 10] 61 (fun kq v9 v10 w' => ∃ (m : Nat) (acc : List Int), v10 = .int .i64 (m : Int) ∧ za (m + kq = 61) ∧ za (acc ++ zrb bs m kq = zrb bs 0 61) ∧ za (acc.length ≤ m) ∧ za (Kd.R (Kd.int .i64) 2 w' w.heap.size (fun _ => True) v9 acc) ∧ za (w'.heap[g5]? = some (.cells (mkB bs) 111 (0, 0))) ∧ za (Below w.heap.size w w'))
       case atStart => exact ⟨0, [], rfl, ⟨by omega⟩, ⟨rfl⟩, ⟨by simp⟩, ⟨uR HO4⟩, ⟨uK BK5⟩, ⟨by repeat (first | exact HW.out | apply zw | apply zo | apply zv)⟩⟩
       case round =>
        clear BK5 HO4 HW HB HBF
        obtain ⟨m, acc, rfl, HM, HE, HC, HO4, BK5, HB⟩ := hrel
        obtain ⟨y, hy⟩ : ∃ y : Int, y = (m : Int) := ⟨_, rfl⟩
        rw [← hy]
        have HY := za.mk hy
        clear hy
        cases gk with
        | zero =>
         have hm : decide (y < (61 : Int)) = false := decide_eq_false (by have := HM.out; have := HY.out; omega)
         have hE := HE.out
         rw [ztc bs m, List.append_nil] at hE
         have HE2 := za.mk hE
         clear hE HE
         obtain ⟨Ar, cr, er⟩ := Kd.R_slice HO4.out
         subst er
         go_wp2
         go_ret2
         exact ⟨_, rfl, by rw [← HE2.out]; exact uR HO4, sB⟩
        | succ k2 =>
         have hm : decide (y < (61 : Int)) = true := decide_eq_true (by have := HM.out; have := HY.out; omega)
         have hm0 : decide (0 ≤ y) = true := decide_eq_true (by have := HM.out; have := HY.out; omega)
         have e1 := eq_true (of_decide_eq_true hm0)
         have e2 := eq_true (of_decide_eq_true hm)
         have hyn : y.toNat = m := by have := HY.out; omega
         have hw : wrap64 (y + 1) = ((m + 1 : Nat) : Int) := by have := HM.out; have := HY.out; unfold wrap64; omega
         have HW := za.mk hw
         have hc : wr.cell? ⟨g5, y.toNat, none⟩ = some (.bool (bs.getD m false)) := by rw [hyn]; exact mkB_get BK5.out m (by have := HL5.out; have := HM.out; omega)
         have hE := HE.out
         rw [zqc bs m k2] at hE
         clear hw hyn HE
         by_cases hb5 : bs.getD m false = true
         · rw [if_pos hb5] at hE
           rw [hb5] at hc
           have HE := za.mk hE
           clear hE hb5
           obtain ⟨nw, hnw⟩ : ∃ nw : List Int, nw = acc ++ [y] := ⟨_, rfl⟩
           have Nw := za.mk hnw
           clear hnw
           go_wp2_with (first | ((with_reducible refine zbb (b := .append) (xs := #[.tmp 52, .tmp 54]) rfl ?_); at_builtin; refine Kd.R_append (Kd.int .i64) (w0 := w) w.heap.size rfl (.tmp 52) (.tmp 54) 65 2 (.int .i64 0) 8 rfl Try.underlying65 info2 rfl (by decide) (by omega) u9 acc y [.int .i64 y] (fun _ => True) (fun _ => False) rfl rfl ?aP (fun _ hk => hk.elim) ?aF ?aO ?aB ?aS ?aL ?_; (case aP => exact rfl); (case aB => exact sB); (case aF => exact (fun _ _ => trivial)); (case aO => exact (uR HO4)); (case aS => exact (zaa sB)); (case aL => have := HC.out; have := HM.out; omega); intro v374 w24 ho hb hg hat; rw [← Nw.out] at ho; replace BK5 := za.mk (zga (uK BK5) hg (Kd.R_ne HO4.out BK5.out (by decide))); replace HO4 := za.mk ho; replace HB := za.mk hb; clear ho hb hg hat))
           go_roundg k2
           case measure => omega
           case rel => exact ⟨m + 1, nw, by first | rw [HW.out] | (congr 1; have := HY.out; omega), ⟨by have := HM.out; omega⟩, ⟨by rw [Nw.out, HY.out, List.append_assoc]; exact HE.out⟩, ⟨by rw [Nw.out]; have := HC.out; simp; omega⟩, ⟨uR HO4⟩, ⟨uK BK5⟩, ⟨sB⟩⟩
         · rw [if_neg hb5] at hE
           rw [Bool.eq_false_iff.mpr hb5] at hc
           have HE := za.mk hE
           clear hE hb5
           go_wp2
           go_roundg k2
           case measure => omega
           case rel => exact ⟨m + 1, acc, by first | rw [HW.out] | (congr 1; have := HY.out; omega), ⟨by have := HM.out; omega⟩, HE, ⟨by have := HC.out; omega⟩, ⟨uR HO4⟩, ⟨uK BK5⟩, ⟨sB⟩⟩
      | succ k1 =>
       have hlt : n < ord.length := by have := HN.out; omega
       have hA := HA.out
       rw [drop_rd ord n hlt, ← HX.out] at hA
       obtain ⟨⟨t1, t2, t3, t4⟩, A50, hA⟩ := Option.bind_eq_some_iff.mp hA
       have A5 := za.mk A50
       clear A50
       dsimp only at hA
       by_cases hin : ∀ v ∈ [t1, t2, t3, t4], 0 ≤ v ∧ v ≤ 60
       · rw [if_pos hin] at hA
         replace HA := za.mk hA
         have HI := za.mk hin
         have hq : x < (ord.length : Int) := by have := HX.out; omega
         have hp : 0 ≤ x := by have := HX.out; omega
         have hwx : wrap64 (x + 1) = ((n + 1 : Nat) : Int) := by have := HX.out; have := HL.out.2; unfold wrap64; omega
         have HWX := za.mk hwx
         obtain ⟨ad, eA, hx0⟩ := Kd.at_int (Kd.C_below FO.out.2.2 (uF HBF)) x hp hq
         cases eA
         have d1 : decide (x < (ord.length : Int)) = true := decide_eq_true hq
         have d2 : decide (0 ≤ x) = true := decide_eq_true hp
         replace hp := eq_true hp
         replace hq := eq_true hq
         clear hA hin hlt hwx
         go_wp2_with (first
          | ((with_reducible refine zn (f := 74) rfl ?_); refine gz (some 32) Try.func74 #[.pointer (some ⟨g1, 0, none⟩), .int .i64 (rd ord x)] rfl rfl ?_; (with_reducible refine (spec_l02At.calls k g1 A0_0 c0_0 l0_0 a0_1 a0_2 a0_3 a0_4 a0_5 (rd ord x) t1 t2 t3 t4 _ ?side1 ?side2 ?side3 A5.out).mono ?_); (case side1 => exact zca BK1.out (uF HBF)); (case side2 => exact Kd.C_below (Kd.C_below HR0_0.out HB.out) (uF HBF)); (case side3 => exact HC0_0.out); rintro e w20 ⟨rfl, hb⟩; refine ⟨_, rfl, ?_⟩; replace BK5 := dK BK5 hb; replace HBF := dF HBF hb; clear hb)
          | ((with_reducible refine zu (N := 7) rfl ?_); refine bx (N := 7) #[.int .i16 0, .int .i16 0, .int .i16 0, .int .i16 0] 27 rfl ?_; intro g7 hg w21 hbox hb; have BK7 := za.mk hbox; have N57 := nK hg BK5; have GF7 : za (wF.heap.size ≤ g7) := ⟨by have := (uF HBF (W' := _) (u := Below.refl _ _)).size; omega⟩; have HG7 := za.mk (Nat.le_of_eq hg.symm); have HB7 := za.mk hb; replace HBF := dF HBF hb; clear hb hbox hg)
          | ((with_reducible refine zza (t := 27) (p := 7) rfl ?_); refine zhe (p := 7) (T := 27) (vs := #[.int .i16 t1, .int .i16 t2, .int .i16 t3, .int .i16 t4]) rfl rfl rfl rfl ?hx (by kernel_rfl) BK7.out rfl ?h1 ?_; (case hx => first | rfl | (go_simp; rfl)); (case h1 => intro v hv; simp at hv; rcases hv with rfl | rfl | rfl | rfl <;> rfl); intro w22 hbox hb; replace BK7 := za.mk hbox; replace BK5 := dK BK5 (hb _ HB7.out HG7.out); replace HBF := za.mk (show BF wF w22 from hb wF HBF.out GF7.out); clear hbox hb HB7 HG7))
         go_loopg [8] l0_0.length (fun kq v8 w' => ∃ (i : Nat) (b2 : List Bool), v8 = .int .i64 (i : Int) ∧ za (i + kq = l0_0.length) ∧ za (mkW (([t1, t2, t3, t4].take l0_0.length).drop i) b2 = mkW ([t1, t2, t3, t4].take l0_0.length) bs) ∧ za (b2.length = 61) ∧ za (w'.heap[g5]? = some (.cells (mkB b2) 111 (0, 0))) ∧ za (w'.heap[g7]? = some (.cells #[.int .i16 t1, .int .i16 t2, .int .i16 t3, .int .i16 t4] 27 (0, 0))) ∧ za (BF wF w'))
         case atStart => exact ⟨0, bs, rfl, ⟨by omega⟩, ⟨rfl⟩, HL5, ⟨uK BK5⟩, ⟨uK BK7⟩, ⟨uF HBF⟩⟩
         case round =>
          clear BK5 BK7 HBF hx0 hs3 A5
          obtain ⟨i, b2, rfl, HNI, HM, HL2, BK5, BK7, HBF⟩ := hrel
          obtain ⟨y, hy⟩ : ∃ y : Int, y = (i : Int) := ⟨_, rfl⟩
          rw [← hy]
          have HY := za.mk hy
          clear hy
          have hj0 : wr.cell? ⟨g1, 0, none⟩ = some (.slice A0_0 l0_0.length c0_0) := (zb (zca BK1.out (uF HBF)) 0).trans rfl
          cases gk with
          | zero =>
           have hn : decide (y < (l0_0.length : Int)) = false := decide_eq_false (by have := HNI.out; have := HY.out; omega)
           have hM := HM.out
           rw [List.drop_eq_nil_of_le (by rw [List.length_take]; have := HNI.out; omega)] at hM
           have HM2 : za (b2 = mkW ([t1, t2, t3, t4].take l0_0.length) bs) := ⟨hM⟩
           clear hM HM
           go_wp2
           go_roundg k1
           case measure => omega
           case rel => exact ⟨n + 1, b2, by first | rw [HWX.out] | (congr 1; have := HX.out; omega), ⟨by have := HN.out; omega⟩, ⟨by rw [HM2.out]; exact HA.out⟩, HL2, ⟨uK BK5⟩, ⟨uF HBF⟩⟩
          | succ k2 =>
           have h4 : i < l0_0.length := by have := HNI.out; omega
           have hl4 := HL.out.1
           have hM := HM.out
           rw [take4_rd t1 t2 t3 t4 _ i h4 hl4] at hM
           have HM2 := za.mk hM
           have hin := rd4_in HI.out i (by omega)
           rw [← HY.out] at hin
           obtain ⟨v, hv⟩ : ∃ v : Int, v = rd [t1, t2, t3, t4] y := ⟨_, rfl⟩
           have hc7 : wr.cell? ⟨g7, y.toNat, none⟩ = some (.int .i16 v) := by rw [hv, show y.toNat = i by have := HY.out; omega, HY.out]; exact cell4_rd BK7.out i (by omega)
           rw [← hv] at hin
           have hc5 : wr.cell? ⟨g5, v.toNat, none⟩ = some (.bool (b2.getD v.toNat false)) := mkB_get BK5.out v.toNat (by have := HL2.out; omega)
           have hf5 := zg BK5.out v.toNat
           have d0 : decide (y < (l0_0.length : Int)) = true := decide_eq_true (by have := HY.out; omega)
           have d1 : decide (0 ≤ y) = true := decide_eq_true (by have := HY.out; omega)
           have d2 : decide (y < (4 : Int)) = true := decide_eq_true (by have := HY.out; omega)
           have d3 : decide (0 ≤ v) = true := decide_eq_true hin.1
           have d4 : decide (v < (61 : Int)) = true := decide_eq_true (by omega)
           have e1 := eq_true (of_decide_eq_true d1)
           have e2 := eq_true (of_decide_eq_true d2)
           have e3 := eq_true (of_decide_eq_true d3)
           have e4 := eq_true (of_decide_eq_true d4)
           have hwy : wrap64 (y + 1) = ((i + 1 : Nat) : Int) := by have := HY.out; unfold wrap64; omega
           have HWY := za.mk hwy
           have HV := za.mk hv
           clear hin hv hwy hM HM h4 hl4
           go_wp2
           go_roundg k2
           case measure => omega
           case rel => exact ⟨i + 1, b2.set v.toNat true, by first | rw [HWY.out] | (congr 1; have := HY.out; omega), ⟨by have := HNI.out; omega⟩, ⟨by rw [HV.out, HY.out]; exact HM2.out⟩, ⟨by rw [List.length_set]; exact HL2.out⟩, ⟨mkB_set BK5.out _ _⟩, ⟨zm BK7.out (fun e_ => N57.out e_.symm) _⟩, ⟨zt HBF.out GF5.out⟩⟩
       · rw [if_neg hin] at hA
         cases hA
   · rw [if_neg c2] at H
     cases H
 · obtain rfl : t1 = false := Bool.eq_false_iff.mpr c1
   rw [if_neg c1] at H
   simp only [Option.some.injEq, Prod.mk.injEq] at H
   obtain ⟨rfl, rfl⟩ := H
   go_enter Try.func45, Try.ntmps45
   go_wp2_with (first
       | ((with_reducible refine zu (N := 1) rfl ?_); refine bx (N := 1) #[.slice A0_0 l0_0.length c0_0, .int .i16 a0_1, .int .i16 a0_2, .int .i16 a0_3, .int .i16 a0_4, .bool a0_5] 29 rfl ?_; intro g1 hg w5 hbox hb; have BK1 := za.mk hbox; have GE1 := gB hg; replace HB := za.mk (zh sB hb); clear hb hbox hg)
       | ((with_reducible refine zn (f := 57) rfl ?_); refine gz (some 11) Try.func57 #[.pointer (some ⟨g1, 0, none⟩)] rfl rfl ?_; (with_reducible refine (spec_l02Ok.calls k g1 A0_0 c0_0 l0_0 a0_1 a0_2 a0_3 a0_4 a0_5 false _ ?side1 ?side2 ?side3 A1.out).mono ?_); (case side1 => exact uK BK1); (case side2 => exact uC HR0_0 HB); (case side3 => exact HC0_0.out); rintro e w7 ⟨rfl, hb⟩; refine ⟨_, rfl, ?_⟩; replace BK1 := dK BK1 hb; replace HB := za.mk (zh sB hb); clear hb)
       | ((with_reducible refine zu (N := 13) rfl ?_); refine Kd.R_lit (Kd.int .i64) _ 2 ?hg (N := 13) ?hd (xs := ([] : List Int)) (inner := []) (ok := fun _ => True) (okp := fun _ => True) ?hr ?hp (fun _ hk => hk) trivial (Below.refl _ _) (Nat.le_refl _) (by simp) ?_; (case hd => rfl); (case hg => rfl); (case hr => first | (go_simp; done) | (go_simp; rfl)); (case hp => exact (Reps.none _ _)); intro v13 w30 ho hb hg_ hnew_; clear hg_ hnew_; have HO4 := za.mk (Kd.R_lower ho (zB HB)); replace HB := za.mk (zh sB hb); clear hb ho))
   go_ret2
   exact ⟨_, rfl, uR HO4, sB⟩
end Go.Proofs.Yteciomagemjjaaa.J
