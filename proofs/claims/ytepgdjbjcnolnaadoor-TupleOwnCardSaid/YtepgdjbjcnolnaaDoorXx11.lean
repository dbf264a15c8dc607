-- WRITTEN BY A PROGRAM OF THIS SESSION (xprint.py): functions in Lean, and proofs that the code comes to them. Lean checks it.
import Derived.Test.YtepgdjbjcnolnaaDoorXx0
import Derived.Test.YtepgdjbjcnolnaaDoorXx1
import Derived.Test.YtepgdjbjcnolnaaDoorXx8
import Derived.Test.YtepgdjbjcnolnaaDoorXtP
namespace Go.Proofs.YtepgdjbjcnolnaaDoor.X
open Go.RowKit Go.Proofs.YtepgdjbjcnolnaaDoorW.PrintWords Go.Proofs.YtepgdjbjcnolnaaDoorW.PrintLast Go.Proofs.YtepgdjbjcnolnaaDoorW.PrintMore
attribute [local go_sem] max2_int min2_int max_two min_two max_three min_three max_four min_four   -- for this text's walks alone
set_option linter.unusedVariables false
set_option linter.unusedSimpArgs false

attribute [local go_sem high] eqA38
/-! ### antecedentlaw03_TupleOwn: function 8 -/
mutual
def antecedentlaw03_TupleOwn.j0 : Nat → List (S38) → List Int → Bool → Int → Int → ByteArray → Option (Bool)
  | 0, _, _, _, _, _, _ => none
  | k + 1, x0, x1, x23, x270000, x270001, x270002 => if x23 = true then ((antecedentlaw03_awake.f k).bind fun t271 => (some t271)) else ((some (([] : List (S38)) : List (S38))).bind fun y272 => (if y272.length + x0.length < 4398046511104 then ((some (y272 ++ x0 : List (S38))).bind fun y275 => ((tuple_Pick.f y275 x1).bind fun t278 => (antecedentlaw03_TupleOwn.l0 k x0 x1 y275 t278 (y275.length : Int) 0 x270000 x270001 x270002))) else (none)))
def antecedentlaw03_TupleOwn.l0 : Nat → List (S38) → List Int → List (S38) → List (S38) → Int → Int → Int → Int → ByteArray → Option (Bool)
  | 0, _, _, _, _, _, _, _, _, _ => none
  | k + 1, x0, x1, x7, x8, x32, x33, x270000, x270001, x270002 => if x33 < x32 then (if 0 ≤ x33 then (if x33 < (x7.length : Int) then (antecedentlaw03_TupleOwn.l0 k x0 x1 (x7.set (x33 : Int).toNat (⟨x270000, x270001, x270002⟩ : S38)) x8 x32 (wrap64 (x33 + 1)) x270000 x270001 x270002) else (none)) else (none)) else (antecedentlaw03_TupleOwn.l1 k x0 x1 x8 0 (x1.length : Int) 0)
def antecedentlaw03_TupleOwn.l1 : Nat → List (S38) → List Int → List (S38) → Int → Int → Int → Option (Bool)
  | 0, _, _, _, _, _, _ => none
  | k + 1, x0, x1, x8, x10, x42, x43 => if x43 < x42 then (if 0 ≤ x43 then (if x43 < (x1.length : Int) then (if (rd x1 x43) ≥ 0 then (antecedentlaw03_TupleOwn.j3 k x0 x1 x8 x10 x43 x42 x43 (decide ((rd x1 x43) < (x0.length : Int)))) else (antecedentlaw03_TupleOwn.j3 k x0 x1 x8 x10 x43 x42 x43 false)) else (none)) else (none)) else (some (x10 == (x8.length : Int)))
def antecedentlaw03_TupleOwn.j3 : Nat → List (S38) → List Int → List (S38) → Int → Int → Int → Int → Bool → Option (Bool)
  | 0, _, _, _, _, _, _, _, _ => none
  | k + 1, x0, x1, x8, x10, x11, x42, x43, x59 => if x59 = true then (if x10 ≥ (x8.length : Int) then (some false) else (if 0 ≤ x10 then (if x10 < (x8.length : Int) then (if 0 ≤ x11 then (if x11 < (x1.length : Int) then (if 0 ≤ (rd x1 x11) then (if (rd x1 x11) < (x0.length : Int) then (if (!(((rd_T38 x8 x10).f0) == ((rd_T38 x0 (rd x1 x11)).f0)) || (!(((rd_T38 x8 x10).f1) == ((rd_T38 x0 (rd x1 x11)).f1)) || (!((((rd_T38 x8 x10).f2).toList) == (((rd_T38 x0 (rd x1 x11)).f2).toList))))) = true then (some false) else (antecedentlaw03_TupleOwn.l1 k x0 x1 x8 (wrap64 (x10 + 1)) x42 (wrap64 (x43 + 1)))) else (none)) else (none)) else (none)) else (none)) else (none)) else (none))) else (antecedentlaw03_TupleOwn.l1 k x0 x1 x8 x10 x42 (wrap64 (x43 + 1)))
end
def antecedentlaw03_TupleOwn.f (k : Nat) (l0 : List (S38)) (l1 : List Int) (a2_0 : Int) (a2_1 : Int) (a2_2 : ByteArray) : Option (Bool) := (antecedentlaw03_awake.f k).bind fun t270 => (if t270 = true then (if (l0.length : Int) > 40 then (antecedentlaw03_TupleOwn.j0 k l0 l1 true a2_0 a2_1 a2_2) else (antecedentlaw03_TupleOwn.j0 k l0 l1 (decide ((l1.length : Int) > 40)) a2_0 a2_1 a2_2)) else (antecedentlaw03_TupleOwn.j0 k l0 l1 true a2_0 a2_1 a2_2))
theorem antecedentlaw03_TupleOwn.mono_l : ∀ k, (∀ y0 y1 y2 y3 y4 y5, LeO (antecedentlaw03_TupleOwn.j0 k y0 y1 y2 y3 y4 y5) (antecedentlaw03_TupleOwn.j0 (k + 1) y0 y1 y2 y3 y4 y5)) ∧ (∀ y0 y1 y2 y3 y4 y5 y6 y7 y8, LeO (antecedentlaw03_TupleOwn.l0 k y0 y1 y2 y3 y4 y5 y6 y7 y8) (antecedentlaw03_TupleOwn.l0 (k + 1) y0 y1 y2 y3 y4 y5 y6 y7 y8)) ∧ (∀ y0 y1 y2 y3 y4 y5, LeO (antecedentlaw03_TupleOwn.l1 k y0 y1 y2 y3 y4 y5) (antecedentlaw03_TupleOwn.l1 (k + 1) y0 y1 y2 y3 y4 y5)) ∧ (∀ y0 y1 y2 y3 y4 y5 y6 y7, LeO (antecedentlaw03_TupleOwn.j3 k y0 y1 y2 y3 y4 y5 y6 y7) (antecedentlaw03_TupleOwn.j3 (k + 1) y0 y1 y2 y3 y4 y5 y6 y7))
  | 0 => ⟨fun _ _ _ _ _ _ r h => by simp [antecedentlaw03_TupleOwn.j0] at h, fun _ _ _ _ _ _ _ _ _ r h => by simp [antecedentlaw03_TupleOwn.l0] at h, fun _ _ _ _ _ _ r h => by simp [antecedentlaw03_TupleOwn.l1] at h, fun _ _ _ _ _ _ _ _ r h => by simp [antecedentlaw03_TupleOwn.j3] at h⟩
  | k + 1 => by
    obtain ⟨ih0, ih1, ih2, ih3⟩ := antecedentlaw03_TupleOwn.mono_l k
    refine ⟨?_, ?_, ?_, ?_⟩
    · intro y0 y1 y2 y3 y4 y5
      unfold antecedentlaw03_TupleOwn.j0
      repeat' first
      | (with_reducible exact ih0 _ _ _ _ _ _)
      | (with_reducible exact ih1 _ _ _ _ _ _ _ _ _)
      | (with_reducible exact ih2 _ _ _ _ _ _)
      | (with_reducible exact ih3 _ _ _ _ _ _ _ _)
      | (with_reducible exact antecedentlaw03_awake.mono _)
      | (with_reducible exact LeO.refl _)
      | (with_reducible exact LeO.none _)
      | (with_reducible refine LeO.ite ?_ ?_)
      | (with_reducible refine LeO.bind ?_ (fun _ => ?_))
      | exact ih0 _ _ _ _ _ _
      | exact ih1 _ _ _ _ _ _ _ _ _
      | exact ih2 _ _ _ _ _ _
      | exact ih3 _ _ _ _ _ _ _ _
      | exact antecedentlaw03_awake.mono _
      | exact LeO.none _
      | refine LeO.ite ?_ ?_
      | refine LeO.bind ?_ (fun _ => ?_)
    · intro y0 y1 y2 y3 y4 y5 y6 y7 y8
      unfold antecedentlaw03_TupleOwn.l0
      repeat' first
      | (with_reducible exact ih0 _ _ _ _ _ _)
      | (with_reducible exact ih1 _ _ _ _ _ _ _ _ _)
      | (with_reducible exact ih2 _ _ _ _ _ _)
      | (with_reducible exact ih3 _ _ _ _ _ _ _ _)
      | (with_reducible exact antecedentlaw03_awake.mono _)
      | (with_reducible exact LeO.refl _)
      | (with_reducible exact LeO.none _)
      | (with_reducible refine LeO.ite ?_ ?_)
      | (with_reducible refine LeO.bind ?_ (fun _ => ?_))
      | exact ih0 _ _ _ _ _ _
      | exact ih1 _ _ _ _ _ _ _ _ _
      | exact ih2 _ _ _ _ _ _
      | exact ih3 _ _ _ _ _ _ _ _
      | exact antecedentlaw03_awake.mono _
      | exact LeO.none _
      | refine LeO.ite ?_ ?_
      | refine LeO.bind ?_ (fun _ => ?_)
    · intro y0 y1 y2 y3 y4 y5
      unfold antecedentlaw03_TupleOwn.l1
      repeat' first
      | (with_reducible exact ih0 _ _ _ _ _ _)
      | (with_reducible exact ih1 _ _ _ _ _ _ _ _ _)
      | (with_reducible exact ih2 _ _ _ _ _ _)
      | (with_reducible exact ih3 _ _ _ _ _ _ _ _)
      | (with_reducible exact antecedentlaw03_awake.mono _)
      | (with_reducible exact LeO.refl _)
      | (with_reducible exact LeO.none _)
      | (with_reducible refine LeO.ite ?_ ?_)
      | (with_reducible refine LeO.bind ?_ (fun _ => ?_))
      | exact ih0 _ _ _ _ _ _
      | exact ih1 _ _ _ _ _ _ _ _ _
      | exact ih2 _ _ _ _ _ _
      | exact ih3 _ _ _ _ _ _ _ _
      | exact antecedentlaw03_awake.mono _
      | exact LeO.none _
      | refine LeO.ite ?_ ?_
      | refine LeO.bind ?_ (fun _ => ?_)
    · intro y0 y1 y2 y3 y4 y5 y6 y7
      unfold antecedentlaw03_TupleOwn.j3
      repeat' first
      | (with_reducible exact ih0 _ _ _ _ _ _)
      | (with_reducible exact ih1 _ _ _ _ _ _ _ _ _)
      | (with_reducible exact ih2 _ _ _ _ _ _)
      | (with_reducible exact ih3 _ _ _ _ _ _ _ _)
      | (with_reducible exact antecedentlaw03_awake.mono _)
      | (with_reducible exact LeO.refl _)
      | (with_reducible exact LeO.none _)
      | (with_reducible refine LeO.ite ?_ ?_)
      | (with_reducible refine LeO.bind ?_ (fun _ => ?_))
      | exact ih0 _ _ _ _ _ _
      | exact ih1 _ _ _ _ _ _ _ _ _
      | exact ih2 _ _ _ _ _ _
      | exact ih3 _ _ _ _ _ _ _ _
      | exact antecedentlaw03_awake.mono _
      | exact LeO.none _
      | refine LeO.ite ?_ ?_
      | refine LeO.bind ?_ (fun _ => ?_)
theorem antecedentlaw03_TupleOwn.mono : ∀ a0 a1 a2 a3 a4 k, LeO (antecedentlaw03_TupleOwn.f k a0 a1 a2 a3 a4) (antecedentlaw03_TupleOwn.f (k + 1) a0 a1 a2 a3 a4) := by
  intro a0 a1 a2 a3 a4 k
  obtain ⟨ih0, ih1, ih2, ih3⟩ := antecedentlaw03_TupleOwn.mono_l k
  unfold antecedentlaw03_TupleOwn.f
  repeat' first
      | (with_reducible exact ih0 _ _ _ _ _ _)
      | (with_reducible exact ih1 _ _ _ _ _ _ _ _ _)
      | (with_reducible exact ih2 _ _ _ _ _ _)
      | (with_reducible exact ih3 _ _ _ _ _ _ _ _)
      | (with_reducible exact antecedentlaw03_awake.mono _)
      | (with_reducible exact LeO.refl _)
      | (with_reducible exact LeO.none _)
      | (with_reducible refine LeO.ite ?_ ?_)
      | (with_reducible refine LeO.bind ?_ (fun _ => ?_))
      | exact ih0 _ _ _ _ _ _
      | exact ih1 _ _ _ _ _ _ _ _ _
      | exact ih2 _ _ _ _ _ _
      | exact ih3 _ _ _ _ _ _ _ _
      | exact antecedentlaw03_awake.mono _
      | exact LeO.none _
      | refine LeO.ite ?_ ?_
      | refine LeO.bind ?_ (fun _ => ?_)
set_option maxHeartbeats 8000000 in
set_option maxRecDepth 100000 in
theorem antecedentlaw03_TupleOwn.calls (k : Nat) (A0 : Option Addr) (c0 : Nat) (l0 : List (S38)) (A1 : Option Addr) (c1 : Nat) (l1 : List Int) (a2_0 : Int) (a2_1 : Int) (a2_2 : ByteArray) (r : Bool) (w : World) (hLW : LaidW w) (hr0 : Kd.C k38 w A0 l0.length l0) (hc0 : l0.length ≤ c0) (hr1 : Kd.C (Kd.int .i64) w A1 l1.length l1) (hc1 : l1.length ≤ c1) (h : antecedentlaw03_TupleOwn.f k l0 l1 a2_0 a2_1 a2_2 = some r) :
    Calls Tryd.prog 8 #[.slice A0 l0.length c0, .slice A1 l1.length c1, .agg #[.int .i64 a2_0, .int .i64 a2_1, .string a2_2]] w fun e w' => e = .returned (.bool r) ∧ Below w.heap.size w w' := by
  have hu38 := Tryd.underlying38
  have HR0 := Aside0.mk hr0
  have HC0 := Aside0.mk hc0
  clear hr0 hc0
  have HR1 := Aside0.mk hr1
  have HC1 := Aside0.mk hc1
  clear hr1 hc1
  have HLW := Aside0.mk hLW
  clear hLW
  have HB := Aside0.mk (Below.refl w.heap.size w)
  have H : ((antecedentlaw03_awake.f k).bind fun t270 => (if t270 = true then (if (l0.length : Int) > 40 then (antecedentlaw03_TupleOwn.j0 k l0 l1 true a2_0 a2_1 a2_2) else (antecedentlaw03_TupleOwn.j0 k l0 l1 (decide ((l1.length : Int) > 40)) a2_0 a2_1 a2_2)) else (antecedentlaw03_TupleOwn.j0 k l0 l1 true a2_0 a2_1 a2_2))) = some r := h
  clear h
  have HC4 := Aside0.mk H
  clear H
  go_enter Tryd.func8, Tryd.ntmps8
  go_upto_region 1 with (first | ((with_reducible refine gate_dst (N := 5) rfl ?_); (try (refine gate_guard (by rfl) ?_; dsimp only)); refine box_event ?hg (N := 5) ?hd (cs := #[.int .i64 a2_0, .int .i64 a2_1, .string a2_2]) (t := 38) ?hr ?_; (case hd => rfl); (case hg => rfl); (case hr => first | (go_simp; done) | (go_simp; rfl)); intro gb269 hg w5 hbox hb; have n0_ := Aside0.mk (below_step (by repeat (first | (with_reducible first | exact HB.out | apply below_alloc | apply pw_below_drewN | apply below_drew1) | exact HB.out)) hb); have n1_ := Aside0.mk (hbox); have n2_ := Aside0.mk ((by rw [hg]; exact (below_size (by repeat (first | (with_reducible first | exact HB.out | apply below_alloc | apply pw_below_drewN | apply below_drew1) | exact HB.out))) : w.heap.size ≤ gb269)); have n3_ := Aside0.mk ((by rw [hg]; exact (below_size (by repeat (first | (with_reducible first | exact HB.out | apply below_alloc | apply pw_below_drewN | apply below_drew1) | exact HB.out))) : w.heap.size ≤ gb269)); clear HB; have HB := n0_; have BK269 := n1_; have GW269 := n2_; have GE269 := n3_; clear n0_ n1_ n2_ n3_; clear hb hbox hg))
  repeat (go_quiet (first | ((with_reducible refine gate_dst (N := 5) rfl ?_); (try (refine gate_guard (by rfl) ?_; dsimp only)); refine box_event ?hg (N := 5) ?hd (cs := #[.int .i64 a2_0, .int .i64 a2_1, .string a2_2]) (t := 38) ?hr ?_; (case hd => rfl); (case hg => rfl); (case hr => first | (go_simp; done) | (go_simp; rfl)); intro gb269 hg w5 hbox hb; have n0_ := Aside0.mk (below_step (by repeat (first | (with_reducible first | exact HB.out | apply below_alloc | apply pw_below_drewN | apply below_drew1) | exact HB.out)) hb); have n1_ := Aside0.mk (hbox); have n2_ := Aside0.mk ((by rw [hg]; exact (below_size (by repeat (first | (with_reducible first | exact HB.out | apply below_alloc | apply pw_below_drewN | apply below_drew1) | exact HB.out))) : w.heap.size ≤ gb269)); have n3_ := Aside0.mk ((by rw [hg]; exact (below_size (by repeat (first | (with_reducible first | exact HB.out | apply below_alloc | apply pw_below_drewN | apply below_drew1) | exact HB.out))) : w.heap.size ≤ gb269)); clear HB; have HB := n0_; have BK269 := n1_; have GW269 := n2_; have GE269 := n3_; clear n0_ n1_ n2_ n3_; clear hb hbox hg)); go_upto_region 1 with (first | ((with_reducible refine gate_dst (N := 5) rfl ?_); (try (refine gate_guard (by rfl) ?_; dsimp only)); refine box_event ?hg (N := 5) ?hd (cs := #[.int .i64 a2_0, .int .i64 a2_1, .string a2_2]) (t := 38) ?hr ?_; (case hd => rfl); (case hg => rfl); (case hr => first | (go_simp; done) | (go_simp; rfl)); intro gb269 hg w5 hbox hb; have n0_ := Aside0.mk (below_step (by repeat (first | (with_reducible first | exact HB.out | apply below_alloc | apply pw_below_drewN | apply below_drew1) | exact HB.out)) hb); have n1_ := Aside0.mk (hbox); have n2_ := Aside0.mk ((by rw [hg]; exact (below_size (by repeat (first | (with_reducible first | exact HB.out | apply below_alloc | apply pw_below_drewN | apply below_drew1) | exact HB.out))) : w.heap.size ≤ gb269)); have n3_ := Aside0.mk ((by rw [hg]; exact (below_size (by repeat (first | (with_reducible first | exact HB.out | apply below_alloc | apply pw_below_drewN | apply below_drew1) | exact HB.out))) : w.heap.size ≤ gb269)); clear HB; have HB := n0_; have BK269 := n1_; have GW269 := n2_; have GE269 := n3_; clear n0_ n1_ n2_ n3_; clear hb hbox hg)))
  (try simp only [Act.put, List.setIfInBounds_toArray, List.set_cons_zero, List.set_cons_succ])
  go_cut [23] (fun v23 wc => ∃ (kq : Nat) (x23_3 : Bool), v23 = .bool x23_3 ∧ Aside0 (antecedentlaw03_TupleOwn.j0 kq l0 l1 x23_3 a2_0 a2_1 a2_2 = some r) ∧ Aside0 (kq ≤ k) ∧ Aside0 (wc.heap[gb269]? = some (.cells #[.int .i64 a2_0, .int .i64 a2_1, .string a2_2] 38 (0, 0))) ∧ Aside0 (Below w.heap.size w wc))
  case first =>
    have H := HC4.out
    clear HC4
    replace H := Option.bind_eq_some_iff.mp H
    obtain ⟨t270, A60, H⟩ := H
    replace H : (if t270 = true then (if (l0.length : Int) > 40 then (antecedentlaw03_TupleOwn.j0 k l0 l1 true a2_0 a2_1 a2_2) else (antecedentlaw03_TupleOwn.j0 k l0 l1 (decide ((l1.length : Int) > 40)) a2_0 a2_1 a2_2)) else (antecedentlaw03_TupleOwn.j0 k l0 l1 true a2_0 a2_1 a2_2)) = some r := H
    have A6 := Aside0.mk A60
    clear A60
    by_cases c7 : t270 = true
    · subst c7
      have H1 : (if (l0.length : Int) > 40 then (antecedentlaw03_TupleOwn.j0 k l0 l1 true a2_0 a2_1 a2_2) else (antecedentlaw03_TupleOwn.j0 k l0 l1 (decide ((l1.length : Int) > 40)) a2_0 a2_1 a2_2)) = some r := by rw [if_pos rfl] at H; exact H
      clear H
      have H := H1
      clear H1
      by_cases c8 : (l0.length : Int) > 40
      · rw [if_pos c8] at H
        have c8b0 : decide (40 < (l0.length : Int)) = true := decide_eq_true c8
        have c8b1 : decide (40 < l0.length) = true := decide_eq_true (by omega)
        clear c8
        (first | rw [c8b0] | (simp only [i64_w, i32_w]; rw [c8b0]) | skip)
        have H' := Aside0.mk H
        clear H
        go_wp2_with (first | (go_at_call 10; (with_reducible refine (antecedentlaw03_awake.calls k  true _ ?side1 A6.out).mono ?_); (case side1 => (first | (refine LaidW.below HLW.out ?_; (repeat (first | (with_reducible first | exact HB.out | apply below_alloc | apply pw_below_drewN | apply below_drew1 | refine below_set ?_ GE269.out) | exact HB.out)); done) | (repeat (first | exact HLW.out | apply LaidW.drewN | apply LaidW.drew | apply LaidW.alloc)))); rintro e w9 ⟨rfl, hb⟩; have n0_ := Aside0.mk (blk_below (g := gb269) (o := .cells #[.int .i64 a2_0, .int .i64 a2_1, .string a2_2] 38 (0, 0)) (by (with_reducible repeat (first | refine blk_drewN ?_ _ | refine blk_drew ?_ | refine blk_alloc ?_ _)); exact BK269.out) hb); have n1_ := Aside0.mk (below_step (by repeat (first | (with_reducible first | exact HB.out | apply below_alloc | apply pw_below_drewN | apply below_drew1 | refine below_set ?_ GE269.out) | exact HB.out)) hb); clear BK269; clear HB; have BK269 := n0_; have HB := n1_; clear n0_ n1_; (try clear hb); (try clear hb2); (try clear hk); (try clear hi)))
        repeat (go_quiet (first | (go_at_call 10; (with_reducible refine (antecedentlaw03_awake.calls k  true _ ?side1 A6.out).mono ?_); (case side1 => (first | (refine LaidW.below HLW.out ?_; (repeat (first | (with_reducible first | exact HB.out | apply below_alloc | apply pw_below_drewN | apply below_drew1 | refine below_set ?_ GE269.out) | exact HB.out)); done) | (repeat (first | exact HLW.out | apply LaidW.drewN | apply LaidW.drew | apply LaidW.alloc)))); rintro e w9 ⟨rfl, hb⟩; have n0_ := Aside0.mk (blk_below (g := gb269) (o := .cells #[.int .i64 a2_0, .int .i64 a2_1, .string a2_2] 38 (0, 0)) (by (with_reducible repeat (first | refine blk_drewN ?_ _ | refine blk_drew ?_ | refine blk_alloc ?_ _)); exact BK269.out) hb); have n1_ := Aside0.mk (below_step (by repeat (first | (with_reducible first | exact HB.out | apply below_alloc | apply pw_below_drewN | apply below_drew1 | refine below_set ?_ GE269.out) | exact HB.out)) hb); clear BK269; clear HB; have BK269 := n0_; have HB := n1_; clear n0_ n1_; (try clear hb); (try clear hb2); (try clear hk); (try clear hi))); try go_wp2_with (first | (go_at_call 10; (with_reducible refine (antecedentlaw03_awake.calls k  true _ ?side1 A6.out).mono ?_); (case side1 => (first | (refine LaidW.below HLW.out ?_; (repeat (first | (with_reducible first | exact HB.out | apply below_alloc | apply pw_below_drewN | apply below_drew1 | refine below_set ?_ GE269.out) | exact HB.out)); done) | (repeat (first | exact HLW.out | apply LaidW.drewN | apply LaidW.drew | apply LaidW.alloc)))); rintro e w9 ⟨rfl, hb⟩; have n0_ := Aside0.mk (blk_below (g := gb269) (o := .cells #[.int .i64 a2_0, .int .i64 a2_1, .string a2_2] 38 (0, 0)) (by (with_reducible repeat (first | refine blk_drewN ?_ _ | refine blk_drew ?_ | refine blk_alloc ?_ _)); exact BK269.out) hb); have n1_ := Aside0.mk (below_step (by repeat (first | (with_reducible first | exact HB.out | apply below_alloc | apply pw_below_drewN | apply below_drew1 | refine below_set ?_ GE269.out) | exact HB.out)) hb); clear BK269; clear HB; have BK269 := n0_; have HB := n1_; clear n0_ n1_; (try clear hb); (try clear hb2); (try clear hk); (try clear hi))))
        go_meet
        case rel => exact ⟨_, (true), (by first | rfl | (simp; done) | (simp [*]; done)), H', ⟨by first | omega | exact Nat.le_refl _⟩, ⟨by (with_reducible repeat (first | refine blk_drewN ?_ _ | refine blk_drew ?_ | refine blk_alloc ?_ _)); exact BK269.out⟩, ⟨by repeat (first | (with_reducible first | exact HB.out | apply below_alloc | apply pw_below_drewN | apply below_drew1 | refine below_set ?_ GE269.out) | exact HB.out)⟩⟩
      · rw [if_neg c8] at H
        have c8b0 : decide (40 < (l0.length : Int)) = false := decide_eq_false c8
        (try rw [hl7_2] at c8b0)
        have c8b1 : decide (40 < l0.length) = false := decide_eq_false (by omega)
        (try rw [hl7_2] at c8b1)
        clear c8
        (first | rw [c8b0] | (simp only [i64_w, i32_w]; rw [c8b0]) | skip)
        have H' := Aside0.mk H
        clear H
        go_wp2_with (first | (go_at_call 10; (with_reducible refine (antecedentlaw03_awake.calls k  true _ ?side1 A6.out).mono ?_); (case side1 => (first | (refine LaidW.below HLW.out ?_; (repeat (first | (with_reducible first | exact HB.out | apply below_alloc | apply pw_below_drewN | apply below_drew1 | refine below_set ?_ GE269.out) | exact HB.out)); done) | (repeat (first | exact HLW.out | apply LaidW.drewN | apply LaidW.drew | apply LaidW.alloc)))); rintro e w10 ⟨rfl, hb⟩; have n0_ := Aside0.mk (blk_below (g := gb269) (o := .cells #[.int .i64 a2_0, .int .i64 a2_1, .string a2_2] 38 (0, 0)) (by (with_reducible repeat (first | refine blk_drewN ?_ _ | refine blk_drew ?_ | refine blk_alloc ?_ _)); exact BK269.out) hb); have n1_ := Aside0.mk (below_step (by repeat (first | (with_reducible first | exact HB.out | apply below_alloc | apply pw_below_drewN | apply below_drew1 | refine below_set ?_ GE269.out) | exact HB.out)) hb); clear BK269; clear HB; have BK269 := n0_; have HB := n1_; clear n0_ n1_; (try clear hb); (try clear hb2); (try clear hk); (try clear hi)))
        repeat (go_quiet (first | (go_at_call 10; (with_reducible refine (antecedentlaw03_awake.calls k  true _ ?side1 A6.out).mono ?_); (case side1 => (first | (refine LaidW.below HLW.out ?_; (repeat (first | (with_reducible first | exact HB.out | apply below_alloc | apply pw_below_drewN | apply below_drew1 | refine below_set ?_ GE269.out) | exact HB.out)); done) | (repeat (first | exact HLW.out | apply LaidW.drewN | apply LaidW.drew | apply LaidW.alloc)))); rintro e w10 ⟨rfl, hb⟩; have n0_ := Aside0.mk (blk_below (g := gb269) (o := .cells #[.int .i64 a2_0, .int .i64 a2_1, .string a2_2] 38 (0, 0)) (by (with_reducible repeat (first | refine blk_drewN ?_ _ | refine blk_drew ?_ | refine blk_alloc ?_ _)); exact BK269.out) hb); have n1_ := Aside0.mk (below_step (by repeat (first | (with_reducible first | exact HB.out | apply below_alloc | apply pw_below_drewN | apply below_drew1 | refine below_set ?_ GE269.out) | exact HB.out)) hb); clear BK269; clear HB; have BK269 := n0_; have HB := n1_; clear n0_ n1_; (try clear hb); (try clear hb2); (try clear hk); (try clear hi))); try go_wp2_with (first | (go_at_call 10; (with_reducible refine (antecedentlaw03_awake.calls k  true _ ?side1 A6.out).mono ?_); (case side1 => (first | (refine LaidW.below HLW.out ?_; (repeat (first | (with_reducible first | exact HB.out | apply below_alloc | apply pw_below_drewN | apply below_drew1 | refine below_set ?_ GE269.out) | exact HB.out)); done) | (repeat (first | exact HLW.out | apply LaidW.drewN | apply LaidW.drew | apply LaidW.alloc)))); rintro e w10 ⟨rfl, hb⟩; have n0_ := Aside0.mk (blk_below (g := gb269) (o := .cells #[.int .i64 a2_0, .int .i64 a2_1, .string a2_2] 38 (0, 0)) (by (with_reducible repeat (first | refine blk_drewN ?_ _ | refine blk_drew ?_ | refine blk_alloc ?_ _)); exact BK269.out) hb); have n1_ := Aside0.mk (below_step (by repeat (first | (with_reducible first | exact HB.out | apply below_alloc | apply pw_below_drewN | apply below_drew1 | refine below_set ?_ GE269.out) | exact HB.out)) hb); clear BK269; clear HB; have BK269 := n0_; have HB := n1_; clear n0_ n1_; (try clear hb); (try clear hb2); (try clear hk); (try clear hi))))
        go_meet
        case rel => exact ⟨_, (decide ((l1.length : Int) > 40)), (by first | rfl | (simp; done) | (simp [*]; done)), H', ⟨by first | omega | exact Nat.le_refl _⟩, ⟨by (with_reducible repeat (first | refine blk_drewN ?_ _ | refine blk_drew ?_ | refine blk_alloc ?_ _)); exact BK269.out⟩, ⟨by repeat (first | (with_reducible first | exact HB.out | apply below_alloc | apply pw_below_drewN | apply below_drew1 | refine below_set ?_ GE269.out) | exact HB.out)⟩⟩
    · replace c7 := Bool.eq_false_iff.mpr c7
      subst c7
      have H1 : (antecedentlaw03_TupleOwn.j0 k l0 l1 true a2_0 a2_1 a2_2) = some r := by rw [if_neg (show ¬ (false = true) by decide)] at H; exact H
      clear H
      have H := H1
      clear H1
      have H' := Aside0.mk H
      clear H
      go_wp2_with (first | (go_at_call 10; (with_reducible refine (antecedentlaw03_awake.calls k  false _ ?side1 A6.out).mono ?_); (case side1 => (first | (refine LaidW.below HLW.out ?_; (repeat (first | (with_reducible first | exact HB.out | apply below_alloc | apply pw_below_drewN | apply below_drew1 | refine below_set ?_ GE269.out) | exact HB.out)); done) | (repeat (first | exact HLW.out | apply LaidW.drewN | apply LaidW.drew | apply LaidW.alloc)))); rintro e w11 ⟨rfl, hb⟩; have n0_ := Aside0.mk (blk_below (g := gb269) (o := .cells #[.int .i64 a2_0, .int .i64 a2_1, .string a2_2] 38 (0, 0)) (by (with_reducible repeat (first | refine blk_drewN ?_ _ | refine blk_drew ?_ | refine blk_alloc ?_ _)); exact BK269.out) hb); have n1_ := Aside0.mk (below_step (by repeat (first | (with_reducible first | exact HB.out | apply below_alloc | apply pw_below_drewN | apply below_drew1 | refine below_set ?_ GE269.out) | exact HB.out)) hb); clear BK269; clear HB; have BK269 := n0_; have HB := n1_; clear n0_ n1_; (try clear hb); (try clear hb2); (try clear hk); (try clear hi)))
      repeat (go_quiet (first | (go_at_call 10; (with_reducible refine (antecedentlaw03_awake.calls k  false _ ?side1 A6.out).mono ?_); (case side1 => (first | (refine LaidW.below HLW.out ?_; (repeat (first | (with_reducible first | exact HB.out | apply below_alloc | apply pw_below_drewN | apply below_drew1 | refine below_set ?_ GE269.out) | exact HB.out)); done) | (repeat (first | exact HLW.out | apply LaidW.drewN | apply LaidW.drew | apply LaidW.alloc)))); rintro e w11 ⟨rfl, hb⟩; have n0_ := Aside0.mk (blk_below (g := gb269) (o := .cells #[.int .i64 a2_0, .int .i64 a2_1, .string a2_2] 38 (0, 0)) (by (with_reducible repeat (first | refine blk_drewN ?_ _ | refine blk_drew ?_ | refine blk_alloc ?_ _)); exact BK269.out) hb); have n1_ := Aside0.mk (below_step (by repeat (first | (with_reducible first | exact HB.out | apply below_alloc | apply pw_below_drewN | apply below_drew1 | refine below_set ?_ GE269.out) | exact HB.out)) hb); clear BK269; clear HB; have BK269 := n0_; have HB := n1_; clear n0_ n1_; (try clear hb); (try clear hb2); (try clear hk); (try clear hi))); try go_wp2_with (first | (go_at_call 10; (with_reducible refine (antecedentlaw03_awake.calls k  false _ ?side1 A6.out).mono ?_); (case side1 => (first | (refine LaidW.below HLW.out ?_; (repeat (first | (with_reducible first | exact HB.out | apply below_alloc | apply pw_below_drewN | apply below_drew1 | refine below_set ?_ GE269.out) | exact HB.out)); done) | (repeat (first | exact HLW.out | apply LaidW.drewN | apply LaidW.drew | apply LaidW.alloc)))); rintro e w11 ⟨rfl, hb⟩; have n0_ := Aside0.mk (blk_below (g := gb269) (o := .cells #[.int .i64 a2_0, .int .i64 a2_1, .string a2_2] 38 (0, 0)) (by (with_reducible repeat (first | refine blk_drewN ?_ _ | refine blk_drew ?_ | refine blk_alloc ?_ _)); exact BK269.out) hb); have n1_ := Aside0.mk (below_step (by repeat (first | (with_reducible first | exact HB.out | apply below_alloc | apply pw_below_drewN | apply below_drew1 | refine below_set ?_ GE269.out) | exact HB.out)) hb); clear BK269; clear HB; have BK269 := n0_; have HB := n1_; clear n0_ n1_; (try clear hb); (try clear hb2); (try clear hk); (try clear hi))))
      go_meet
      case rel => exact ⟨_, (true), (by first | rfl | (simp; done) | (simp [*]; done)), H', ⟨by first | omega | exact Nat.le_refl _⟩, ⟨by (with_reducible repeat (first | refine blk_drewN ?_ _ | refine blk_drew ?_ | refine blk_alloc ?_ _)); exact BK269.out⟩, ⟨by repeat (first | (with_reducible first | exact HB.out | apply below_alloc | apply pw_below_drewN | apply below_drew1 | refine below_set ?_ GE269.out) | exact HB.out)⟩⟩
  case rest =>
    clear HC4
    try clear c1
    try clear p2
    try clear c7
    try clear c8
    try clear c8b0
    try clear c8b1
    obtain ⟨kq, x23_3, rfl, HA, HJ3, BK269, HB⟩ := hcut
    cases kq with
    | zero => exact absurd HA.out (by simp [antecedentlaw03_TupleOwn.j0])
    | succ kj3 =>
      have H := HA.out
      clear HA
      simp only [antecedentlaw03_TupleOwn.j0] at H
      by_cases c12 : x23_3 = true
      · subst c12
        have H1 : ((antecedentlaw03_awake.f kj3).bind fun t271 => (some t271)) = some r := by rw [if_pos rfl] at H; exact H
        clear H
        have H := H1
        clear H1
        replace H := Option.bind_eq_some_iff.mp H
        obtain ⟨t271, A130, H⟩ := H
        replace H : (some t271) = some r := H
        have A13 := Aside0.mk A130
        clear A130
        obtain rfl := Option.some.inj H
        go_wp2_with (first | (go_at_call 10; (with_reducible refine (antecedentlaw03_awake.calls kj3  t271 _ ?side1 A13.out).mono ?_); (case side1 => (first | (refine LaidW.below HLW.out ?_; (repeat (first | (with_reducible first | exact HB.out | apply below_alloc | apply pw_below_drewN | apply below_drew1 | refine below_set ?_ GE269.out) | exact HB.out)); done) | (repeat (first | exact HLW.out | apply LaidW.drewN | apply LaidW.drew | apply LaidW.alloc)))); rintro e w14 ⟨rfl, hb⟩; have n0_ := Aside0.mk (blk_below (g := gb269) (o := .cells #[.int .i64 a2_0, .int .i64 a2_1, .string a2_2] 38 (0, 0)) (by (with_reducible repeat (first | refine blk_drewN ?_ _ | refine blk_drew ?_ | refine blk_alloc ?_ _)); exact BK269.out) hb); have n1_ := Aside0.mk (below_step (by repeat (first | (with_reducible first | exact HB.out | apply below_alloc | apply pw_below_drewN | apply below_drew1 | refine below_set ?_ GE269.out) | exact HB.out)) hb); clear BK269; clear HB; have BK269 := n0_; have HB := n1_; clear n0_ n1_; (try clear hb); (try clear hb2); (try clear hk); (try clear hi)))
        repeat (go_quiet (first | (go_at_call 10; (with_reducible refine (antecedentlaw03_awake.calls kj3  t271 _ ?side1 A13.out).mono ?_); (case side1 => (first | (refine LaidW.below HLW.out ?_; (repeat (first | (with_reducible first | exact HB.out | apply below_alloc | apply pw_below_drewN | apply below_drew1 | refine below_set ?_ GE269.out) | exact HB.out)); done) | (repeat (first | exact HLW.out | apply LaidW.drewN | apply LaidW.drew | apply LaidW.alloc)))); rintro e w14 ⟨rfl, hb⟩; have n0_ := Aside0.mk (blk_below (g := gb269) (o := .cells #[.int .i64 a2_0, .int .i64 a2_1, .string a2_2] 38 (0, 0)) (by (with_reducible repeat (first | refine blk_drewN ?_ _ | refine blk_drew ?_ | refine blk_alloc ?_ _)); exact BK269.out) hb); have n1_ := Aside0.mk (below_step (by repeat (first | (with_reducible first | exact HB.out | apply below_alloc | apply pw_below_drewN | apply below_drew1 | refine below_set ?_ GE269.out) | exact HB.out)) hb); clear BK269; clear HB; have BK269 := n0_; have HB := n1_; clear n0_ n1_; (try clear hb); (try clear hb2); (try clear hk); (try clear hi))); try go_wp2_with (first | (go_at_call 10; (with_reducible refine (antecedentlaw03_awake.calls kj3  t271 _ ?side1 A13.out).mono ?_); (case side1 => (first | (refine LaidW.below HLW.out ?_; (repeat (first | (with_reducible first | exact HB.out | apply below_alloc | apply pw_below_drewN | apply below_drew1 | refine below_set ?_ GE269.out) | exact HB.out)); done) | (repeat (first | exact HLW.out | apply LaidW.drewN | apply LaidW.drew | apply LaidW.alloc)))); rintro e w14 ⟨rfl, hb⟩; have n0_ := Aside0.mk (blk_below (g := gb269) (o := .cells #[.int .i64 a2_0, .int .i64 a2_1, .string a2_2] 38 (0, 0)) (by (with_reducible repeat (first | refine blk_drewN ?_ _ | refine blk_drew ?_ | refine blk_alloc ?_ _)); exact BK269.out) hb); have n1_ := Aside0.mk (below_step (by repeat (first | (with_reducible first | exact HB.out | apply below_alloc | apply pw_below_drewN | apply below_drew1 | refine below_set ?_ GE269.out) | exact HB.out)) hb); clear BK269; clear HB; have BK269 := n0_; have HB := n1_; clear n0_ n1_; (try clear hb); (try clear hb2); (try clear hk); (try clear hi))))
        go_ret
        exact ⟨by first | rfl | (simp [errW_none, errW_some] <;> rfl) | (simp [*, errW_none, errW_some] <;> rfl), by repeat (first | (with_reducible first | exact HB.out | apply below_alloc | apply pw_below_drewN | apply below_drew1 | refine below_set ?_ GE269.out) | exact HB.out)⟩
      · replace c12 := Bool.eq_false_iff.mpr c12
        subst c12
        have H1 : ((some (([] : List (S38)) : List (S38))).bind fun y272 => (if y272.length + l0.length < 4398046511104 then ((some (y272 ++ l0 : List (S38))).bind fun y275 => ((tuple_Pick.f y275 l1).bind fun t278 => (antecedentlaw03_TupleOwn.l0 kj3 l0 l1 y275 t278 (y275.length : Int) 0 a2_0 a2_1 a2_2))) else (none))) = some r := by rw [if_neg (show ¬ (false = true) by decide)] at H; exact H
        clear H
        have H := H1
        clear H1
        obtain ⟨y272, hy272⟩ : ∃ y_ : List (S38), y_ = (([] : List (S38))) := ⟨_, rfl⟩
        replace H : (if y272.length + l0.length < 4398046511104 then ((some (y272 ++ l0 : List (S38))).bind fun y275 => ((tuple_Pick.f y275 l1).bind fun t278 => (antecedentlaw03_TupleOwn.l0 kj3 l0 l1 y275 t278 (y275.length : Int) 0 a2_0 a2_1 a2_2))) else (none)) = some r := by first | (rw [hy272]; with_reducible exact H) | (have H2_ := (Option.bind_some _ _).symm.trans H; rw [hy272]; with_reducible exact H2_) | (have H2_ := (Option.bind_some _ _).symm.trans H; with_reducible exact H2_) | with_reducible exact H | (rw [hy272]; exact H) | exact H
        have Ny272 := Aside0.mk hy272
        clear hy272
        by_cases c15 : y272.length + l0.length < 4398046511104
        · rw [if_pos c15] at H
          have LMc15 := Aside0.mk c15
          clear c15
          obtain ⟨y275, hy275⟩ : ∃ y_ : List (S38), y_ = (y272 ++ l0) := ⟨_, rfl⟩
          replace H : ((tuple_Pick.f y275 l1).bind fun t278 => (antecedentlaw03_TupleOwn.l0 kj3 l0 l1 y275 t278 (y275.length : Int) 0 a2_0 a2_1 a2_2)) = some r := by first | (rw [hy275]; with_reducible exact H) | (have H2_ := (Option.bind_some _ _).symm.trans H; rw [hy275]; with_reducible exact H2_) | (have H2_ := (Option.bind_some _ _).symm.trans H; with_reducible exact H2_) | with_reducible exact H | (rw [hy275]; exact H) | exact H
          have Ny275 := Aside0.mk hy275
          clear hy275
          replace H := Option.bind_eq_some_iff.mp H
          obtain ⟨t278, A160, H⟩ := H
          replace H : (antecedentlaw03_TupleOwn.l0 kj3 l0 l1 y275 t278 (y275.length : Int) 0 a2_0 a2_1 a2_2) = some r := H
          have A16 := Aside0.mk A160
          clear A160
          have H' := Aside0.mk H
          clear H
          go_wp2_with (first | ((with_reducible refine gate_dst (N := 25) rfl ?_); (try (refine gate_guard (by rfl) ?_; dsimp only)); refine Kd.R_lit k38 _ 38 ?hg (N := 25) ?hd (xs := ([] : List (S38))) (inner := []) (ok := fun _ => True) (okp := fun _ => True) ?hr ?hp (fun _ hk => hk) trivial (Below.refl _ _) (Nat.le_refl _) (by simp) ?_; (case hd => rfl); (case hg => rfl); (case hr => first | (go_simp; done) | (go_simp; rfl)); (case hp => exact (Reps.none _ _)); intro v273 w17 ho18 hb hg_ hnew_; clear hg_ hnew_; (first | rw [← Ny272.out] at ho18 | (simp only [Int.reduceToNat] at ho18; rw [← Ny272.out] at ho18)); have n0_ := Aside0.mk (Kd.R_lower (Kd.R_newB ho18 (g := gb269) (o := .cells #[.int .i64 a2_0, .int .i64 a2_1, .string a2_2] 38 (0, 0)) (by (with_reducible repeat (first | refine blk_drewN ?_ _ | refine blk_drew ?_ | refine blk_alloc ?_ _)); exact BK269.out)) (below_size (by repeat (first | (with_reducible first | exact HB.out | apply below_alloc | apply pw_below_drewN | apply below_drew1 | refine below_set ?_ GE269.out) | exact HB.out)))); have n1_ := Aside0.mk (blk_below (g := gb269) (o := .cells #[.int .i64 a2_0, .int .i64 a2_1, .string a2_2] 38 (0, 0)) (by (with_reducible repeat (first | refine blk_drewN ?_ _ | refine blk_drew ?_ | refine blk_alloc ?_ _)); exact BK269.out) hb); have n2_ := Aside0.mk (below_step (by repeat (first | (with_reducible first | exact HB.out | apply below_alloc | apply pw_below_drewN | apply below_drew1 | refine below_set ?_ GE269.out) | exact HB.out)) hb); clear BK269; clear HB; have HO274 := n0_; have BK269 := n1_; have HB := n2_; clear n0_ n1_ n2_; clear hb ho18) | ((with_reducible refine gate_builtin (b := .append) (xs := #[.tmp 25, .tmp 26]) rfl ?_); (try (refine gate_guard (by rfl) ?_; dsimp only)); at_builtin; refine Kd.R_append_rows k38 (w0 := w) w.heap.size rfl (.tmp 25) (.tmp 26) 22 38 (.agg #[(.int .i64 0), (.int .i64 0), (.string ⟨#[]⟩)]) 32 rfl Tryd.underlying22 info38 rfl (by decide) (by omega) v273 y272 l0 _ _ _ (fun k_ => k_ ≠ gb269) (fun _ => False) rfl rfl ?aO ?aR (fun _ _ h => h) (fun _ h => h.elim) ?aF ?aB ?aS ?aL ?_; (case aR => repeat (first | exact (Kd.C_below HR0.out HB.out) | (with_reducible refine Kd.C_alloc ?_ _) | (with_reducible refine Kd.C_drewN ?_ _) | (with_reducible refine Kd.C_drew ?_))); (case aB => exact (by repeat (first | (with_reducible first | exact HB.out | apply below_alloc | apply pw_below_drewN | apply below_drew1 | refine below_set ?_ GE269.out) | exact HB.out))); (case aF => exact (fun k_ hk => Kd.freshB (g := gb269) (o := .cells #[.int .i64 a2_0, .int .i64 a2_1, .string a2_2] 38 (0, 0)) (by (with_reducible repeat (first | refine blk_drewN ?_ _ | refine blk_drew ?_ | refine blk_alloc ?_ _)); exact BK269.out) k_ hk)); (case aO => exact (by (with_reducible repeat (first | apply Kd.R_alloc | apply Kd.R_drewN | apply Kd.R_drew)); exact Kd.R_mono HO274.out (fun _ hk => hk.2))); (case aS => exact (below_size (by repeat (first | (with_reducible first | exact HB.out | apply below_alloc | apply pw_below_drewN | apply below_drew1 | refine below_set ?_ GE269.out) | exact HB.out)))); (case aL => have := LMc15.out; omega); intro v276 w19 ho hb hg hat; rw [← Ny275.out] at ho; have n0_ := Aside0.mk (blk_grown (g := gb269) (o := .cells #[.int .i64 a2_0, .int .i64 a2_1, .string a2_2] 38 (0, 0)) (by (with_reducible repeat (first | refine blk_drewN ?_ _ | refine blk_drew ?_ | refine blk_alloc ?_ _)); exact BK269.out) hg (Kd.R_away HO274.out (fun _ hk => hk.2))); have n1_ := Aside0.mk (hb); have n2_ := Aside0.mk (ho); clear BK269; clear HB; clear HO274; have BK269 := n0_; have HB := n1_; have HO277 := n2_; clear n0_ n1_ n2_; clear ho hb hg hat; obtain ⟨Ao20, co20, eo20⟩ := Kd.R_slice HO277.out; subst eo20) | (go_at_call 17; (with_reducible refine (tuple_Pick.calls _ _ y275 _ _ l1 t278 _ ?side1 ?side2 ?side3 ?side4 A16.out).mono ?_); (case side1 => repeat (first | exact (Kd.R_reads' HO277.out).2.2 | (with_reducible refine Kd.C_alloc ?_ _) | (with_reducible refine Kd.C_drewN ?_ _) | (with_reducible refine Kd.C_drew ?_))); (case side2 => exact (Kd.R_reads' HO277.out).2.1); (case side3 => repeat (first | exact (Kd.C_below HR1.out HB.out) | (with_reducible refine Kd.C_alloc ?_ _) | (with_reducible refine Kd.C_drewN ?_ _) | (with_reducible refine Kd.C_drew ?_))); (case side4 => exact HC1.out); rintro e w21 ⟨v279, rfl, ho0, hb⟩; have n0_ := Aside0.mk (Kd.R_elder' (by (with_reducible repeat (first | apply Kd.R_alloc | apply Kd.R_drewN | apply Kd.R_drew)); exact HO277.out) (Kd.R_base ho0) hb); have n1_ := Aside0.mk (Kd.R_lower (Kd.R_newB (Kd.R_new' ho0 (Kd.R_lt (by (with_reducible repeat (first | apply Kd.R_alloc | apply Kd.R_drewN | apply Kd.R_drew)); exact HO277.out))) (g := gb269) (o := .cells #[.int .i64 a2_0, .int .i64 a2_1, .string a2_2] 38 (0, 0)) (by (with_reducible repeat (first | refine blk_drewN ?_ _ | refine blk_drew ?_ | refine blk_alloc ?_ _)); exact BK269.out)) (below_size (by repeat (first | (with_reducible first | exact HB.out | apply below_alloc | apply pw_below_drewN | apply below_drew1 | refine below_set ?_ GE269.out) | exact HB.out)))); have n2_ := Aside0.mk (blk_below (g := gb269) (o := .cells #[.int .i64 a2_0, .int .i64 a2_1, .string a2_2] 38 (0, 0)) (by (with_reducible repeat (first | refine blk_drewN ?_ _ | refine blk_drew ?_ | refine blk_alloc ?_ _)); exact BK269.out) hb); have n3_ := Aside0.mk (below_step (by repeat (first | (with_reducible first | exact HB.out | apply below_alloc | apply pw_below_drewN | apply below_drew1 | refine below_set ?_ GE269.out) | exact HB.out)) hb); clear HO277; clear BK269; clear HB; have HO277 := n0_; have HO280 := n1_; have BK269 := n2_; have HB := n3_; clear n0_ n1_ n2_ n3_; (try clear hb); (try clear hb2); (try clear hk); (try clear hi); (try clear ho0)))
          repeat (go_quiet (first | ((with_reducible refine gate_dst (N := 25) rfl ?_); (try (refine gate_guard (by rfl) ?_; dsimp only)); refine Kd.R_lit k38 _ 38 ?hg (N := 25) ?hd (xs := ([] : List (S38))) (inner := []) (ok := fun _ => True) (okp := fun _ => True) ?hr ?hp (fun _ hk => hk) trivial (Below.refl _ _) (Nat.le_refl _) (by simp) ?_; (case hd => rfl); (case hg => rfl); (case hr => first | (go_simp; done) | (go_simp; rfl)); (case hp => exact (Reps.none _ _)); intro v273 w17 ho18 hb hg_ hnew_; clear hg_ hnew_; (first | rw [← Ny272.out] at ho18 | (simp only [Int.reduceToNat] at ho18; rw [← Ny272.out] at ho18)); have n0_ := Aside0.mk (Kd.R_lower (Kd.R_newB ho18 (g := gb269) (o := .cells #[.int .i64 a2_0, .int .i64 a2_1, .string a2_2] 38 (0, 0)) (by (with_reducible repeat (first | refine blk_drewN ?_ _ | refine blk_drew ?_ | refine blk_alloc ?_ _)); exact BK269.out)) (below_size (by repeat (first | (with_reducible first | exact HB.out | apply below_alloc | apply pw_below_drewN | apply below_drew1 | refine below_set ?_ GE269.out) | exact HB.out)))); have n1_ := Aside0.mk (blk_below (g := gb269) (o := .cells #[.int .i64 a2_0, .int .i64 a2_1, .string a2_2] 38 (0, 0)) (by (with_reducible repeat (first | refine blk_drewN ?_ _ | refine blk_drew ?_ | refine blk_alloc ?_ _)); exact BK269.out) hb); have n2_ := Aside0.mk (below_step (by repeat (first | (with_reducible first | exact HB.out | apply below_alloc | apply pw_below_drewN | apply below_drew1 | refine below_set ?_ GE269.out) | exact HB.out)) hb); clear BK269; clear HB; have HO274 := n0_; have BK269 := n1_; have HB := n2_; clear n0_ n1_ n2_; clear hb ho18) | ((with_reducible refine gate_builtin (b := .append) (xs := #[.tmp 25, .tmp 26]) rfl ?_); (try (refine gate_guard (by rfl) ?_; dsimp only)); at_builtin; refine Kd.R_append_rows k38 (w0 := w) w.heap.size rfl (.tmp 25) (.tmp 26) 22 38 (.agg #[(.int .i64 0), (.int .i64 0), (.string ⟨#[]⟩)]) 32 rfl Tryd.underlying22 info38 rfl (by decide) (by omega) v273 y272 l0 _ _ _ (fun k_ => k_ ≠ gb269) (fun _ => False) rfl rfl ?aO ?aR (fun _ _ h => h) (fun _ h => h.elim) ?aF ?aB ?aS ?aL ?_; (case aR => repeat (first | exact (Kd.C_below HR0.out HB.out) | (with_reducible refine Kd.C_alloc ?_ _) | (with_reducible refine Kd.C_drewN ?_ _) | (with_reducible refine Kd.C_drew ?_))); (case aB => exact (by repeat (first | (with_reducible first | exact HB.out | apply below_alloc | apply pw_below_drewN | apply below_drew1 | refine below_set ?_ GE269.out) | exact HB.out))); (case aF => exact (fun k_ hk => Kd.freshB (g := gb269) (o := .cells #[.int .i64 a2_0, .int .i64 a2_1, .string a2_2] 38 (0, 0)) (by (with_reducible repeat (first | refine blk_drewN ?_ _ | refine blk_drew ?_ | refine blk_alloc ?_ _)); exact BK269.out) k_ hk)); (case aO => exact (by (with_reducible repeat (first | apply Kd.R_alloc | apply Kd.R_drewN | apply Kd.R_drew)); exact Kd.R_mono HO274.out (fun _ hk => hk.2))); (case aS => exact (below_size (by repeat (first | (with_reducible first | exact HB.out | apply below_alloc | apply pw_below_drewN | apply below_drew1 | refine below_set ?_ GE269.out) | exact HB.out)))); (case aL => have := LMc15.out; omega); intro v276 w19 ho hb hg hat; rw [← Ny275.out] at ho; have n0_ := Aside0.mk (blk_grown (g := gb269) (o := .cells #[.int .i64 a2_0, .int .i64 a2_1, .string a2_2] 38 (0, 0)) (by (with_reducible repeat (first | refine blk_drewN ?_ _ | refine blk_drew ?_ | refine blk_alloc ?_ _)); exact BK269.out) hg (Kd.R_away HO274.out (fun _ hk => hk.2))); have n1_ := Aside0.mk (hb); have n2_ := Aside0.mk (ho); clear BK269; clear HB; clear HO274; have BK269 := n0_; have HB := n1_; have HO277 := n2_; clear n0_ n1_ n2_; clear ho hb hg hat; obtain ⟨Ao20, co20, eo20⟩ := Kd.R_slice HO277.out; subst eo20) | (go_at_call 17; (with_reducible refine (tuple_Pick.calls _ _ y275 _ _ l1 t278 _ ?side1 ?side2 ?side3 ?side4 A16.out).mono ?_); (case side1 => repeat (first | exact (Kd.R_reads' HO277.out).2.2 | (with_reducible refine Kd.C_alloc ?_ _) | (with_reducible refine Kd.C_drewN ?_ _) | (with_reducible refine Kd.C_drew ?_))); (case side2 => exact (Kd.R_reads' HO277.out).2.1); (case side3 => repeat (first | exact (Kd.C_below HR1.out HB.out) | (with_reducible refine Kd.C_alloc ?_ _) | (with_reducible refine Kd.C_drewN ?_ _) | (with_reducible refine Kd.C_drew ?_))); (case side4 => exact HC1.out); rintro e w21 ⟨v279, rfl, ho0, hb⟩; have n0_ := Aside0.mk (Kd.R_elder' (by (with_reducible repeat (first | apply Kd.R_alloc | apply Kd.R_drewN | apply Kd.R_drew)); exact HO277.out) (Kd.R_base ho0) hb); have n1_ := Aside0.mk (Kd.R_lower (Kd.R_newB (Kd.R_new' ho0 (Kd.R_lt (by (with_reducible repeat (first | apply Kd.R_alloc | apply Kd.R_drewN | apply Kd.R_drew)); exact HO277.out))) (g := gb269) (o := .cells #[.int .i64 a2_0, .int .i64 a2_1, .string a2_2] 38 (0, 0)) (by (with_reducible repeat (first | refine blk_drewN ?_ _ | refine blk_drew ?_ | refine blk_alloc ?_ _)); exact BK269.out)) (below_size (by repeat (first | (with_reducible first | exact HB.out | apply below_alloc | apply pw_below_drewN | apply below_drew1 | refine below_set ?_ GE269.out) | exact HB.out)))); have n2_ := Aside0.mk (blk_below (g := gb269) (o := .cells #[.int .i64 a2_0, .int .i64 a2_1, .string a2_2] 38 (0, 0)) (by (with_reducible repeat (first | refine blk_drewN ?_ _ | refine blk_drew ?_ | refine blk_alloc ?_ _)); exact BK269.out) hb); have n3_ := Aside0.mk (below_step (by repeat (first | (with_reducible first | exact HB.out | apply below_alloc | apply pw_below_drewN | apply below_drew1 | refine below_set ?_ GE269.out) | exact HB.out)) hb); clear HO277; clear BK269; clear HB; have HO277 := n0_; have HO280 := n1_; have BK269 := n2_; have HB := n3_; clear n0_ n1_ n2_ n3_; (try clear hb); (try clear hb2); (try clear hk); (try clear hi); (try clear ho0))); try go_wp2_with (first | ((with_reducible refine gate_dst (N := 25) rfl ?_); (try (refine gate_guard (by rfl) ?_; dsimp only)); refine Kd.R_lit k38 _ 38 ?hg (N := 25) ?hd (xs := ([] : List (S38))) (inner := []) (ok := fun _ => True) (okp := fun _ => True) ?hr ?hp (fun _ hk => hk) trivial (Below.refl _ _) (Nat.le_refl _) (by simp) ?_; (case hd => rfl); (case hg => rfl); (case hr => first | (go_simp; done) | (go_simp; rfl)); (case hp => exact (Reps.none _ _)); intro v273 w17 ho18 hb hg_ hnew_; clear hg_ hnew_; (first | rw [← Ny272.out] at ho18 | (simp only [Int.reduceToNat] at ho18; rw [← Ny272.out] at ho18)); have n0_ := Aside0.mk (Kd.R_lower (Kd.R_newB ho18 (g := gb269) (o := .cells #[.int .i64 a2_0, .int .i64 a2_1, .string a2_2] 38 (0, 0)) (by (with_reducible repeat (first | refine blk_drewN ?_ _ | refine blk_drew ?_ | refine blk_alloc ?_ _)); exact BK269.out)) (below_size (by repeat (first | (with_reducible first | exact HB.out | apply below_alloc | apply pw_below_drewN | apply below_drew1 | refine below_set ?_ GE269.out) | exact HB.out)))); have n1_ := Aside0.mk (blk_below (g := gb269) (o := .cells #[.int .i64 a2_0, .int .i64 a2_1, .string a2_2] 38 (0, 0)) (by (with_reducible repeat (first | refine blk_drewN ?_ _ | refine blk_drew ?_ | refine blk_alloc ?_ _)); exact BK269.out) hb); have n2_ := Aside0.mk (below_step (by repeat (first | (with_reducible first | exact HB.out | apply below_alloc | apply pw_below_drewN | apply below_drew1 | refine below_set ?_ GE269.out) | exact HB.out)) hb); clear BK269; clear HB; have HO274 := n0_; have BK269 := n1_; have HB := n2_; clear n0_ n1_ n2_; clear hb ho18) | ((with_reducible refine gate_builtin (b := .append) (xs := #[.tmp 25, .tmp 26]) rfl ?_); (try (refine gate_guard (by rfl) ?_; dsimp only)); at_builtin; refine Kd.R_append_rows k38 (w0 := w) w.heap.size rfl (.tmp 25) (.tmp 26) 22 38 (.agg #[(.int .i64 0), (.int .i64 0), (.string ⟨#[]⟩)]) 32 rfl Tryd.underlying22 info38 rfl (by decide) (by omega) v273 y272 l0 _ _ _ (fun k_ => k_ ≠ gb269) (fun _ => False) rfl rfl ?aO ?aR (fun _ _ h => h) (fun _ h => h.elim) ?aF ?aB ?aS ?aL ?_; (case aR => repeat (first | exact (Kd.C_below HR0.out HB.out) | (with_reducible refine Kd.C_alloc ?_ _) | (with_reducible refine Kd.C_drewN ?_ _) | (with_reducible refine Kd.C_drew ?_))); (case aB => exact (by repeat (first | (with_reducible first | exact HB.out | apply below_alloc | apply pw_below_drewN | apply below_drew1 | refine below_set ?_ GE269.out) | exact HB.out))); (case aF => exact (fun k_ hk => Kd.freshB (g := gb269) (o := .cells #[.int .i64 a2_0, .int .i64 a2_1, .string a2_2] 38 (0, 0)) (by (with_reducible repeat (first | refine blk_drewN ?_ _ | refine blk_drew ?_ | refine blk_alloc ?_ _)); exact BK269.out) k_ hk)); (case aO => exact (by (with_reducible repeat (first | apply Kd.R_alloc | apply Kd.R_drewN | apply Kd.R_drew)); exact Kd.R_mono HO274.out (fun _ hk => hk.2))); (case aS => exact (below_size (by repeat (first | (with_reducible first | exact HB.out | apply below_alloc | apply pw_below_drewN | apply below_drew1 | refine below_set ?_ GE269.out) | exact HB.out)))); (case aL => have := LMc15.out; omega); intro v276 w19 ho hb hg hat; rw [← Ny275.out] at ho; have n0_ := Aside0.mk (blk_grown (g := gb269) (o := .cells #[.int .i64 a2_0, .int .i64 a2_1, .string a2_2] 38 (0, 0)) (by (with_reducible repeat (first | refine blk_drewN ?_ _ | refine blk_drew ?_ | refine blk_alloc ?_ _)); exact BK269.out) hg (Kd.R_away HO274.out (fun _ hk => hk.2))); have n1_ := Aside0.mk (hb); have n2_ := Aside0.mk (ho); clear BK269; clear HB; clear HO274; have BK269 := n0_; have HB := n1_; have HO277 := n2_; clear n0_ n1_ n2_; clear ho hb hg hat; obtain ⟨Ao20, co20, eo20⟩ := Kd.R_slice HO277.out; subst eo20) | (go_at_call 17; (with_reducible refine (tuple_Pick.calls _ _ y275 _ _ l1 t278 _ ?side1 ?side2 ?side3 ?side4 A16.out).mono ?_); (case side1 => repeat (first | exact (Kd.R_reads' HO277.out).2.2 | (with_reducible refine Kd.C_alloc ?_ _) | (with_reducible refine Kd.C_drewN ?_ _) | (with_reducible refine Kd.C_drew ?_))); (case side2 => exact (Kd.R_reads' HO277.out).2.1); (case side3 => repeat (first | exact (Kd.C_below HR1.out HB.out) | (with_reducible refine Kd.C_alloc ?_ _) | (with_reducible refine Kd.C_drewN ?_ _) | (with_reducible refine Kd.C_drew ?_))); (case side4 => exact HC1.out); rintro e w21 ⟨v279, rfl, ho0, hb⟩; have n0_ := Aside0.mk (Kd.R_elder' (by (with_reducible repeat (first | apply Kd.R_alloc | apply Kd.R_drewN | apply Kd.R_drew)); exact HO277.out) (Kd.R_base ho0) hb); have n1_ := Aside0.mk (Kd.R_lower (Kd.R_newB (Kd.R_new' ho0 (Kd.R_lt (by (with_reducible repeat (first | apply Kd.R_alloc | apply Kd.R_drewN | apply Kd.R_drew)); exact HO277.out))) (g := gb269) (o := .cells #[.int .i64 a2_0, .int .i64 a2_1, .string a2_2] 38 (0, 0)) (by (with_reducible repeat (first | refine blk_drewN ?_ _ | refine blk_drew ?_ | refine blk_alloc ?_ _)); exact BK269.out)) (below_size (by repeat (first | (with_reducible first | exact HB.out | apply below_alloc | apply pw_below_drewN | apply below_drew1 | refine below_set ?_ GE269.out) | exact HB.out)))); have n2_ := Aside0.mk (blk_below (g := gb269) (o := .cells #[.int .i64 a2_0, .int .i64 a2_1, .string a2_2] 38 (0, 0)) (by (with_reducible repeat (first | refine blk_drewN ?_ _ | refine blk_drew ?_ | refine blk_alloc ?_ _)); exact BK269.out) hb); have n3_ := Aside0.mk (below_step (by repeat (first | (with_reducible first | exact HB.out | apply below_alloc | apply pw_below_drewN | apply below_drew1 | refine below_set ?_ GE269.out) | exact HB.out)) hb); clear HO277; clear BK269; clear HB; have HO277 := n0_; have HO280 := n1_; have BK269 := n2_; have HB := n3_; clear n0_ n1_ n2_ n3_; (try clear hb); (try clear hb2); (try clear hk); (try clear hi); (try clear ho0))))
          go_loopg [33] kj3 (fun kq v33 w' => ∃ (x7_2 : List (S38)) (x33_2 : Int) (x270000_2 : Int) (x270001_2 : Int) (x270002_2 : ByteArray), v33 = .int .i64 x33_2 ∧ Aside0 (antecedentlaw03_TupleOwn.l0 kq l0 l1 x7_2 t278 (y275.length : Int) x33_2 x270000_2 x270001_2 x270002_2 = some r) ∧ Aside0 (kq ≤ kj3) ∧ Aside0 (Kd.R k38 38 w' w.heap.size (fun k_ => some k_ ≠ (v279 : Value).ownBlock ∧ k_ ≠ gb269) (.slice Ao20 y275.length co20) x7_2) ∧ Aside0 (Kd.R k38 38 w' w.heap.size (fun k_ => some k_ ≠ ((.slice Ao20 y275.length co20) : Value).ownBlock ∧ k_ ≠ gb269) v279 t278) ∧ Aside0 (w'.heap[gb269]? = some (.cells #[.int .i64 x270000_2, .int .i64 x270001_2, .string x270002_2] 38 (0, 0))) ∧ Aside0 (Below w.heap.size w w'))
          case atStart => exact ⟨(y275), (0), (a2_0), (a2_1), (a2_2), (by first | rfl | (simp; done) | (simp [*]; done)), H', ⟨Nat.le_refl _⟩, ⟨by (with_reducible repeat (first | apply Kd.R_alloc | apply Kd.R_drewN | apply Kd.R_drew)); exact Kd.R_mono HO277.out (fun _ hk => ⟨hk.2, hk.1⟩)⟩, ⟨by (with_reducible repeat (first | apply Kd.R_alloc | apply Kd.R_drewN | apply Kd.R_drew)); exact Kd.R_mono HO280.out (fun _ hk => ⟨hk.1.2, hk.2⟩)⟩, ⟨by (with_reducible repeat (first | refine blk_drewN ?_ _ | refine blk_drew ?_ | refine blk_alloc ?_ _)); exact BK269.out⟩, ⟨by repeat (first | (with_reducible first | exact HB.out | apply below_alloc | apply pw_below_drewN | apply below_drew1 | refine below_set ?_ GE269.out) | exact HB.out)⟩⟩
          case round =>
            clear H'
            try clear c1
            try clear p2
            try clear c7
            try clear c8
            try clear c8b0
            try clear c8b1
            try clear c12
            try clear c15
            try clear p2
            obtain ⟨x7_2, x33_2, x270000_2, x270001_2, x270002_2, rfl, HA, HK2, HO_7, HO_8, BK269, HB⟩ := hrel
            have hl7_2 := (Kd.R_reads' HO_7.out).1
            rw [hl7_2] at HO_7
            (try simp only [hl7_2])
            (try simp only [hl7_2] at BK269)
            (try simp only [hl7_2] at HO_8)
            cases gk with
            | zero => exact absurd HA.out (by simp [antecedentlaw03_TupleOwn.l0])
            | succ k2 =>
              have H := HA.out
              clear HA
              simp only [antecedentlaw03_TupleOwn.l0] at H
              by_cases c22 : x33_2 < (y275.length : Int)
              · rw [if_pos c22] at H
                have c22b0 : decide (x33_2 < (y275.length : Int)) = true := decide_eq_true c22
                clear c22
                by_cases c23 : 0 ≤ x33_2
                · rw [if_pos c23] at H
                  have c23b0 : decide (0 ≤ x33_2) = true := decide_eq_true c23
                  clear c23
                  by_cases c24 : x33_2 < (x7_2.length : Int)
                  · rw [if_pos c24] at H
                    have c24b0 : decide (x33_2 < (x7_2.length : Int)) = true := decide_eq_true c24
                    clear c24
                    obtain ⟨y281, hy281⟩ : ∃ y_ : List (S38), y_ = (x7_2.set (x33_2 : Int).toNat (⟨x270000_2, x270001_2, x270002_2⟩ : S38)) := ⟨_, rfl⟩
                    replace H : (antecedentlaw03_TupleOwn.l0 k2 l0 l1 y281 t278 (y275.length : Int) (wrap64 (x33_2 + 1)) x270000_2 x270001_2 x270002_2) = some r := by first | (rw [hy281]; with_reducible exact H) | (have H2_ := (Option.bind_some _ _).symm.trans H; rw [hy281]; with_reducible exact H2_) | (have H2_ := (Option.bind_some _ _).symm.trans H; with_reducible exact H2_) | with_reducible exact H | (rw [hy281]; exact H) | exact H
                    have Ny281 := Aside0.mk hy281
                    clear hy281
                    have H' := Aside0.mk H
                    clear H
                    have hcz26_0 : wr.cell? ⟨gb269, 0, none⟩ = some (.int .i64 x270000_2) := (blk_cell BK269.out 0).trans rfl
                    have hcz26_1 : wr.cell? ⟨gb269, 1, none⟩ = some (.int .i64 x270001_2) := (blk_cell BK269.out 1).trans rfl
                    have hcz26_2 : wr.cell? ⟨gb269, 2, none⟩ = some (.string x270002_2) := (blk_cell BK269.out 2).trans rfl
                    have hfz26_0 := blk_frozen BK269.out 0
                    have hfz26_1 := blk_frozen BK269.out 1
                    have hfz26_2 := blk_frozen BK269.out 2
                    have p25 : 0 ≤ (x33_2 : Int) := of_decide_eq_true (by first | (with_reducible assumption) | assumption)
                    have q25 : (x33_2 : Int) < ((x7_2.length : Int) : Int) := of_decide_eq_true (by first | (with_reducible assumption) | assumption)
                    obtain ⟨go25, co25, eo25, gb25, gl25, cl25, HG25⟩ := Kd.R_form HO_7.out (by omega)
                    (first | cases eo25 | (injection eo25 with ea_ en_ ec_; (first | subst ea_ | (injection ea_ with ea_; subst ea_)); subst ec_; clear en_))
                    have GB25 := Aside0.mk gb25
                    have GG25 := Aside0.mk HG25
                    clear gb25 gl25 HG25
                    obtain ⟨ce25, hcl25, hM25, hcc25, hfr25⟩ := Kd.R_elem HO_7.out z38 (x33_2 : Int) p25 q25
                    obtain rfl := k38_openM hM25
                    have hx25_0 : wr.cell? ⟨go25, (x33_2 : Int).toNat * 3, none⟩ = some (.int .i64 ((rd_T38 x7_2 x33_2).f0)) := hcc25 0 _ rfl
                    have hx25_1 : wr.cell? ⟨go25, (x33_2 : Int).toNat * 3 + 1, none⟩ = some (.int .i64 ((rd_T38 x7_2 x33_2).f1)) := hcc25 1 _ rfl
                    have hx25_2 : wr.cell? ⟨go25, (x33_2 : Int).toNat * 3 + 2, none⟩ = some (.string ((rd_T38 x7_2 x33_2).f2)) := hcc25 2 _ rfl
                    have hf25_0 : wr.frozen? ⟨go25, (x33_2 : Int).toNat * 3, none⟩ = false := hfr25 0
                    have hf25_1 : wr.frozen? ⟨go25, (x33_2 : Int).toNat * 3 + 1, none⟩ = false := hfr25 1
                    have hf25_2 : wr.frozen? ⟨go25, (x33_2 : Int).toNat * 3 + 2, none⟩ = false := hfr25 2
                    clear hcl25 hcc25 hfr25 hM25
                    replace p25 := eq_true p25
                    replace q25 := eq_true q25
                    have HX27 := Aside0.mk (show Kd.R k38 38 wr w.heap.size (fun k_ => some k_ ≠ (v279 : Value).ownBlock ∧ k_ ≠ gb269) (.slice (some ⟨go25, 0, none⟩) x7_2.length co20) x7_2 from (by (with_reducible repeat (first | apply Kd.R_alloc | apply Kd.R_drewN | apply Kd.R_drew)); exact HO_7.out))
                    obtain ⟨ce27, hcl27, hM27, hcc27, hfr27⟩ := Kd.R_elem HX27.out z38 (x33_2 : Int) (of_decide_eq_true (by first | (with_reducible assumption) | assumption)) (by have h_ : (x33_2 : Int) < ((x7_2.length : Int) : Int) := of_decide_eq_true (by first | (with_reducible assumption) | assumption); first | exact h_ | (have e_ := (Kd.R_reads' HO_7.out).1; omega) | simpa using h_)
                    obtain rfl := k38_openM hM27
                    have HP27 := Kd.R_seg HX27.out (x33_2 : Int) (of_decide_eq_true (by first | (with_reducible assumption) | assumption)) (by have h_ : (x33_2 : Int) < ((x7_2.length : Int) : Int) := of_decide_eq_true (by first | (with_reducible assumption) | assumption); first | exact h_ | (have e_ := (Kd.R_reads' HO_7.out).1; omega) | simpa using h_) (seg := [.int .i64 x270000_2, .int .i64 x270001_2, .string x270002_2]) (j := 0) hcl27 hcc27 (show 3 ≤ 3 from by decide) (x' := (⟨x270000_2, x270001_2, x270002_2⟩ : S38)) (k38_mkM _ _ _ (⟨x270000_2, x270001_2, x270002_2⟩ : S38) ) (fun _ hk => hk)
                    have hx27_0 := hcc27 0 _ rfl
                    (try simp only [show (k38).sz = 3 from rfl, Nat.mul_one, Nat.add_zero] at hx27_0)
                    have hf27_0 := hfr27 0
                    (try simp only [show (k38).sz = 3 from rfl, Nat.mul_one, Nat.add_zero] at hf27_0)
                    have hx27_1 := hcc27 1 _ rfl
                    (try simp only [show (k38).sz = 3 from rfl, Nat.mul_one, Nat.add_zero] at hx27_1)
                    have hf27_1 := hfr27 1
                    (try simp only [show (k38).sz = 3 from rfl, Nat.mul_one, Nat.add_zero] at hf27_1)
                    have hx27_2 := hcc27 2 _ rfl
                    (try simp only [show (k38).sz = 3 from rfl, Nat.mul_one, Nat.add_zero] at hx27_2)
                    have hf27_2 := hfr27 2
                    (try simp only [show (k38).sz = 3 from rfl, Nat.mul_one, Nat.add_zero] at hf27_2)
                    clear hcl27 hcc27 hfr27 hM27
                    go_wp2_with (first | ((with_reducible refine gate_store (t := 38) (p := 39) rfl ?_); (try (rw [drewN_self wr]; generalize hq_ : World.drewN wr _ = wr; have n0_ := Aside0.mk (Kd.R_at hq_ HO_7.out); have n1_ := Aside0.mk (Kd.R_at hq_ HO_8.out); have n2_ := Aside0.mk (blk_at hq_ BK269.out); have n3_ := Aside0.mk (below_at hq_ HB.out); clear hq_ HO_7 HO_8 BK269 HB; have HO_7 := n0_; have HO_8 := n1_; have BK269 := n2_; have HB := n3_; clear n0_ n1_ n2_ n3_; (try (have HX27 := Aside0.mk (show Kd.R k38 38 wr w.heap.size (fun k_ => some k_ ≠ (v279 : Value).ownBlock ∧ k_ ≠ gb269) (.slice (some ⟨go25, 0, none⟩) x7_2.length co20) x7_2 from (by (with_reducible repeat (first | apply Kd.R_alloc | apply Kd.R_drewN | apply Kd.R_drew)); exact HO_7.out)))); (try (obtain ⟨ce27, hcl27, hM27, hcc27, hfr27⟩ := Kd.R_elem HX27.out z38 (x33_2 : Int) (of_decide_eq_true (by first | (with_reducible assumption) | assumption)) (by have h_ : (x33_2 : Int) < ((x7_2.length : Int) : Int) := of_decide_eq_true (by first | (with_reducible assumption) | assumption); first | exact h_ | (have e_ := (Kd.R_reads' HO_7.out).1; omega) | simpa using h_))); (try (obtain rfl := k38_openM hM27)); (try (have HP27 := Kd.R_seg HX27.out (x33_2 : Int) (of_decide_eq_true (by first | (with_reducible assumption) | assumption)) (by have h_ : (x33_2 : Int) < ((x7_2.length : Int) : Int) := of_decide_eq_true (by first | (with_reducible assumption) | assumption); first | exact h_ | (have e_ := (Kd.R_reads' HO_7.out).1; omega) | simpa using h_) (seg := [.int .i64 x270000_2, .int .i64 x270001_2, .string x270002_2]) (j := 0) hcl27 hcc27 (show 3 ≤ 3 from by decide) (x' := (⟨x270000_2, x270001_2, x270002_2⟩ : S38)) (k38_mkM _ _ _ (⟨x270000_2, x270001_2, x270002_2⟩ : S38) ) (fun _ hk => hk))); (try (have hx27_0 := hcc27 0 _ rfl)); (try (try simp only [show (k38).sz = 3 from rfl, Nat.mul_one, Nat.add_zero] at hx27_0)); (try (have hf27_0 := hfr27 0)); (try (try simp only [show (k38).sz = 3 from rfl, Nat.mul_one, Nat.add_zero] at hf27_0)); (try (have hx27_1 := hcc27 1 _ rfl)); (try (try simp only [show (k38).sz = 3 from rfl, Nat.mul_one, Nat.add_zero] at hx27_1)); (try (have hf27_1 := hfr27 1)); (try (try simp only [show (k38).sz = 3 from rfl, Nat.mul_one, Nat.add_zero] at hf27_1)); (try (have hx27_2 := hcc27 2 _ rfl)); (try (try simp only [show (k38).sz = 3 from rfl, Nat.mul_one, Nat.add_zero] at hx27_2)); (try (have hf27_2 := hfr27 2)); (try (try simp only [show (k38).sz = 3 from rfl, Nat.mul_one, Nat.add_zero] at hf27_2)); (try (clear hcl27 hcc27 hfr27 hM27)))); refine store_event (t := 38) (p := 39) (v := ?vo_w28) (w1 := (((wr.setCell ⟨go25, (x33_2 : Int).toNat * 3, none⟩ (.int .i64 x270000_2)).setCell ⟨go25, (x33_2 : Int).toNat * 3 + 1, none⟩ (.int .i64 x270001_2)).setCell ⟨go25, (x33_2 : Int).toNat * 3 + 2, none⟩ (.string x270002_2))) ?hg ?ho ?hn ?hr ?_; (case ho => rfl); (case hg => rfl); (case hn => rfl); (case hr => first | (go_simp; done) | (go_simp; rfl)); intro w28 hw; have hg : wr.grownBy w28 (some go25) := (by rw [hw]; exact HP27.2); have hp_ : Kd.R k38 38 w28 w.heap.size (fun k_ => some k_ ≠ (v279 : Value).ownBlock ∧ k_ ≠ gb269) (.slice (some ⟨go25, 0, none⟩) x7_2.length co20) y281 := (by rw [hw, Ny281.out]; exact HP27.1); clear HP27; have n0_ := Aside0.mk (hp_); have n1_ := Aside0.mk (Kd.R_after (v := (.slice (some ⟨go25, 0, none⟩) x7_2.length co20)) (v1 := (.slice (some ⟨go25, 0, none⟩) x7_2.length co20)) (ok := (fun k_ => k_ ≠ gb269)) (by (with_reducible repeat (first | apply Kd.R_alloc | apply Kd.R_drewN | apply Kd.R_drew)); exact Kd.R_mono HO_8.out (fun _ hk => ⟨hk.2, hk.1⟩)) hg (.inl rfl)); have n2_ := Aside0.mk (blk_grown (g := gb269) (o := .cells #[.int .i64 x270000_2, .int .i64 x270001_2, .string x270002_2] 38 (0, 0)) (by (with_reducible repeat (first | refine blk_drewN ?_ _ | refine blk_drew ?_ | refine blk_alloc ?_ _)); exact BK269.out) hg (Kd.R_away HO_7.out (fun _ hk => hk.2))); have n3_ := Aside0.mk ((by rw [hw]; exact below_set (below_set (below_set (HB.out) GB25.out) GB25.out) GB25.out : Below w.heap.size w w28)); clear HO_7; clear HO_8; clear BK269; clear HB; have HO_7 := n0_; have HO_8 := n1_; have BK269 := n2_; have HB := n3_; clear n0_ n1_ n2_ n3_; clear hg hw hp_))
                    repeat (go_quiet (first | ((with_reducible refine gate_store (t := 38) (p := 39) rfl ?_); (try (rw [drewN_self wr]; generalize hq_ : World.drewN wr _ = wr; have n0_ := Aside0.mk (Kd.R_at hq_ HO_7.out); have n1_ := Aside0.mk (Kd.R_at hq_ HO_8.out); have n2_ := Aside0.mk (blk_at hq_ BK269.out); have n3_ := Aside0.mk (below_at hq_ HB.out); clear hq_ HO_7 HO_8 BK269 HB; have HO_7 := n0_; have HO_8 := n1_; have BK269 := n2_; have HB := n3_; clear n0_ n1_ n2_ n3_; (try (have HX27 := Aside0.mk (show Kd.R k38 38 wr w.heap.size (fun k_ => some k_ ≠ (v279 : Value).ownBlock ∧ k_ ≠ gb269) (.slice (some ⟨go25, 0, none⟩) x7_2.length co20) x7_2 from (by (with_reducible repeat (first | apply Kd.R_alloc | apply Kd.R_drewN | apply Kd.R_drew)); exact HO_7.out)))); (try (obtain ⟨ce27, hcl27, hM27, hcc27, hfr27⟩ := Kd.R_elem HX27.out z38 (x33_2 : Int) (of_decide_eq_true (by first | (with_reducible assumption) | assumption)) (by have h_ : (x33_2 : Int) < ((x7_2.length : Int) : Int) := of_decide_eq_true (by first | (with_reducible assumption) | assumption); first | exact h_ | (have e_ := (Kd.R_reads' HO_7.out).1; omega) | simpa using h_))); (try (obtain rfl := k38_openM hM27)); (try (have HP27 := Kd.R_seg HX27.out (x33_2 : Int) (of_decide_eq_true (by first | (with_reducible assumption) | assumption)) (by have h_ : (x33_2 : Int) < ((x7_2.length : Int) : Int) := of_decide_eq_true (by first | (with_reducible assumption) | assumption); first | exact h_ | (have e_ := (Kd.R_reads' HO_7.out).1; omega) | simpa using h_) (seg := [.int .i64 x270000_2, .int .i64 x270001_2, .string x270002_2]) (j := 0) hcl27 hcc27 (show 3 ≤ 3 from by decide) (x' := (⟨x270000_2, x270001_2, x270002_2⟩ : S38)) (k38_mkM _ _ _ (⟨x270000_2, x270001_2, x270002_2⟩ : S38) ) (fun _ hk => hk))); (try (have hx27_0 := hcc27 0 _ rfl)); (try (try simp only [show (k38).sz = 3 from rfl, Nat.mul_one, Nat.add_zero] at hx27_0)); (try (have hf27_0 := hfr27 0)); (try (try simp only [show (k38).sz = 3 from rfl, Nat.mul_one, Nat.add_zero] at hf27_0)); (try (have hx27_1 := hcc27 1 _ rfl)); (try (try simp only [show (k38).sz = 3 from rfl, Nat.mul_one, Nat.add_zero] at hx27_1)); (try (have hf27_1 := hfr27 1)); (try (try simp only [show (k38).sz = 3 from rfl, Nat.mul_one, Nat.add_zero] at hf27_1)); (try (have hx27_2 := hcc27 2 _ rfl)); (try (try simp only [show (k38).sz = 3 from rfl, Nat.mul_one, Nat.add_zero] at hx27_2)); (try (have hf27_2 := hfr27 2)); (try (try simp only [show (k38).sz = 3 from rfl, Nat.mul_one, Nat.add_zero] at hf27_2)); (try (clear hcl27 hcc27 hfr27 hM27)))); refine store_event (t := 38) (p := 39) (v := ?vo_w28) (w1 := (((wr.setCell ⟨go25, (x33_2 : Int).toNat * 3, none⟩ (.int .i64 x270000_2)).setCell ⟨go25, (x33_2 : Int).toNat * 3 + 1, none⟩ (.int .i64 x270001_2)).setCell ⟨go25, (x33_2 : Int).toNat * 3 + 2, none⟩ (.string x270002_2))) ?hg ?ho ?hn ?hr ?_; (case ho => rfl); (case hg => rfl); (case hn => rfl); (case hr => first | (go_simp; done) | (go_simp; rfl)); intro w28 hw; have hg : wr.grownBy w28 (some go25) := (by rw [hw]; exact HP27.2); have hp_ : Kd.R k38 38 w28 w.heap.size (fun k_ => some k_ ≠ (v279 : Value).ownBlock ∧ k_ ≠ gb269) (.slice (some ⟨go25, 0, none⟩) x7_2.length co20) y281 := (by rw [hw, Ny281.out]; exact HP27.1); clear HP27; have n0_ := Aside0.mk (hp_); have n1_ := Aside0.mk (Kd.R_after (v := (.slice (some ⟨go25, 0, none⟩) x7_2.length co20)) (v1 := (.slice (some ⟨go25, 0, none⟩) x7_2.length co20)) (ok := (fun k_ => k_ ≠ gb269)) (by (with_reducible repeat (first | apply Kd.R_alloc | apply Kd.R_drewN | apply Kd.R_drew)); exact Kd.R_mono HO_8.out (fun _ hk => ⟨hk.2, hk.1⟩)) hg (.inl rfl)); have n2_ := Aside0.mk (blk_grown (g := gb269) (o := .cells #[.int .i64 x270000_2, .int .i64 x270001_2, .string x270002_2] 38 (0, 0)) (by (with_reducible repeat (first | refine blk_drewN ?_ _ | refine blk_drew ?_ | refine blk_alloc ?_ _)); exact BK269.out) hg (Kd.R_away HO_7.out (fun _ hk => hk.2))); have n3_ := Aside0.mk ((by rw [hw]; exact below_set (below_set (below_set (HB.out) GB25.out) GB25.out) GB25.out : Below w.heap.size w w28)); clear HO_7; clear HO_8; clear BK269; clear HB; have HO_7 := n0_; have HO_8 := n1_; have BK269 := n2_; have HB := n3_; clear n0_ n1_ n2_ n3_; clear hg hw hp_)); try go_wp2_with (first | ((with_reducible refine gate_store (t := 38) (p := 39) rfl ?_); (try (rw [drewN_self wr]; generalize hq_ : World.drewN wr _ = wr; have n0_ := Aside0.mk (Kd.R_at hq_ HO_7.out); have n1_ := Aside0.mk (Kd.R_at hq_ HO_8.out); have n2_ := Aside0.mk (blk_at hq_ BK269.out); have n3_ := Aside0.mk (below_at hq_ HB.out); clear hq_ HO_7 HO_8 BK269 HB; have HO_7 := n0_; have HO_8 := n1_; have BK269 := n2_; have HB := n3_; clear n0_ n1_ n2_ n3_; (try (have HX27 := Aside0.mk (show Kd.R k38 38 wr w.heap.size (fun k_ => some k_ ≠ (v279 : Value).ownBlock ∧ k_ ≠ gb269) (.slice (some ⟨go25, 0, none⟩) x7_2.length co20) x7_2 from (by (with_reducible repeat (first | apply Kd.R_alloc | apply Kd.R_drewN | apply Kd.R_drew)); exact HO_7.out)))); (try (obtain ⟨ce27, hcl27, hM27, hcc27, hfr27⟩ := Kd.R_elem HX27.out z38 (x33_2 : Int) (of_decide_eq_true (by first | (with_reducible assumption) | assumption)) (by have h_ : (x33_2 : Int) < ((x7_2.length : Int) : Int) := of_decide_eq_true (by first | (with_reducible assumption) | assumption); first | exact h_ | (have e_ := (Kd.R_reads' HO_7.out).1; omega) | simpa using h_))); (try (obtain rfl := k38_openM hM27)); (try (have HP27 := Kd.R_seg HX27.out (x33_2 : Int) (of_decide_eq_true (by first | (with_reducible assumption) | assumption)) (by have h_ : (x33_2 : Int) < ((x7_2.length : Int) : Int) := of_decide_eq_true (by first | (with_reducible assumption) | assumption); first | exact h_ | (have e_ := (Kd.R_reads' HO_7.out).1; omega) | simpa using h_) (seg := [.int .i64 x270000_2, .int .i64 x270001_2, .string x270002_2]) (j := 0) hcl27 hcc27 (show 3 ≤ 3 from by decide) (x' := (⟨x270000_2, x270001_2, x270002_2⟩ : S38)) (k38_mkM _ _ _ (⟨x270000_2, x270001_2, x270002_2⟩ : S38) ) (fun _ hk => hk))); (try (have hx27_0 := hcc27 0 _ rfl)); (try (try simp only [show (k38).sz = 3 from rfl, Nat.mul_one, Nat.add_zero] at hx27_0)); (try (have hf27_0 := hfr27 0)); (try (try simp only [show (k38).sz = 3 from rfl, Nat.mul_one, Nat.add_zero] at hf27_0)); (try (have hx27_1 := hcc27 1 _ rfl)); (try (try simp only [show (k38).sz = 3 from rfl, Nat.mul_one, Nat.add_zero] at hx27_1)); (try (have hf27_1 := hfr27 1)); (try (try simp only [show (k38).sz = 3 from rfl, Nat.mul_one, Nat.add_zero] at hf27_1)); (try (have hx27_2 := hcc27 2 _ rfl)); (try (try simp only [show (k38).sz = 3 from rfl, Nat.mul_one, Nat.add_zero] at hx27_2)); (try (have hf27_2 := hfr27 2)); (try (try simp only [show (k38).sz = 3 from rfl, Nat.mul_one, Nat.add_zero] at hf27_2)); (try (clear hcl27 hcc27 hfr27 hM27)))); refine store_event (t := 38) (p := 39) (v := ?vo_w28) (w1 := (((wr.setCell ⟨go25, (x33_2 : Int).toNat * 3, none⟩ (.int .i64 x270000_2)).setCell ⟨go25, (x33_2 : Int).toNat * 3 + 1, none⟩ (.int .i64 x270001_2)).setCell ⟨go25, (x33_2 : Int).toNat * 3 + 2, none⟩ (.string x270002_2))) ?hg ?ho ?hn ?hr ?_; (case ho => rfl); (case hg => rfl); (case hn => rfl); (case hr => first | (go_simp; done) | (go_simp; rfl)); intro w28 hw; have hg : wr.grownBy w28 (some go25) := (by rw [hw]; exact HP27.2); have hp_ : Kd.R k38 38 w28 w.heap.size (fun k_ => some k_ ≠ (v279 : Value).ownBlock ∧ k_ ≠ gb269) (.slice (some ⟨go25, 0, none⟩) x7_2.length co20) y281 := (by rw [hw, Ny281.out]; exact HP27.1); clear HP27; have n0_ := Aside0.mk (hp_); have n1_ := Aside0.mk (Kd.R_after (v := (.slice (some ⟨go25, 0, none⟩) x7_2.length co20)) (v1 := (.slice (some ⟨go25, 0, none⟩) x7_2.length co20)) (ok := (fun k_ => k_ ≠ gb269)) (by (with_reducible repeat (first | apply Kd.R_alloc | apply Kd.R_drewN | apply Kd.R_drew)); exact Kd.R_mono HO_8.out (fun _ hk => ⟨hk.2, hk.1⟩)) hg (.inl rfl)); have n2_ := Aside0.mk (blk_grown (g := gb269) (o := .cells #[.int .i64 x270000_2, .int .i64 x270001_2, .string x270002_2] 38 (0, 0)) (by (with_reducible repeat (first | refine blk_drewN ?_ _ | refine blk_drew ?_ | refine blk_alloc ?_ _)); exact BK269.out) hg (Kd.R_away HO_7.out (fun _ hk => hk.2))); have n3_ := Aside0.mk ((by rw [hw]; exact below_set (below_set (below_set (HB.out) GB25.out) GB25.out) GB25.out : Below w.heap.size w w28)); clear HO_7; clear HO_8; clear BK269; clear HB; have HO_7 := n0_; have HO_8 := n1_; have BK269 := n2_; have HB := n3_; clear n0_ n1_ n2_ n3_; clear hg hw hp_)))
                    (try simp only [← hl7_2])
                    go_roundg k2
                    case measure => have := HJ3.out; have := HK2.out; omega
                    case rel => exact ⟨(y281), (wrap64 (x33_2 + 1)), (x270000_2), (x270001_2), (x270002_2), (by first | rfl | (simp; done) | (simp [*]; done)), H', ⟨by have := HJ3.out; have := HK2.out; omega⟩, ⟨by (try simp only [hl7_2]); (with_reducible repeat (first | apply Kd.R_alloc | apply Kd.R_drewN | apply Kd.R_drew)); exact HO_7.out⟩, ⟨by (try simp only [hl7_2]); (with_reducible repeat (first | apply Kd.R_alloc | apply Kd.R_drewN | apply Kd.R_drew)); exact Kd.R_mono HO_8.out (fun _ hk => ⟨hk.2, hk.1⟩)⟩, ⟨by (try simp only [hl7_2]); (with_reducible repeat (first | refine blk_drewN ?_ _ | refine blk_drew ?_ | refine blk_alloc ?_ _)); exact BK269.out⟩, ⟨by repeat (first | (with_reducible first | exact HB.out | apply below_alloc | apply pw_below_drewN | apply below_drew1 | refine below_set ?_ GE269.out) | exact HB.out)⟩⟩
                  · rw [if_neg c24] at H
                    exact absurd H (by simp)
                · rw [if_neg c23] at H
                  exact absurd H (by simp)
              · rw [if_neg c22] at H
                have c22b0 : decide (x33_2 < (y275.length : Int)) = false := decide_eq_false c22
                (try rw [hl7_2] at c22b0)
                clear c22
                have H' := Aside0.mk H
                clear H
                go_wp2
                repeat (go_quiet (fail); try go_wp2)
                go_loopg [10, 43] k2 (fun kq v10 v43 w' => ∃ (x10_3 : Int) (x43_3 : Int), v10 = .int .i64 x10_3 ∧ v43 = .int .i64 x43_3 ∧ Aside0 (antecedentlaw03_TupleOwn.l1 kq l0 l1 t278 x10_3 (l1.length : Int) x43_3 = some r) ∧ Aside0 (kq ≤ k2) ∧ Aside0 (Kd.R k38 38 w' w.heap.size (fun k_ => k_ ≠ gb269) v279 t278) ∧ Aside0 (w'.heap[gb269]? = some (.cells #[.int .i64 x270000_2, .int .i64 x270001_2, .string x270002_2] 38 (0, 0))) ∧ Aside0 (Below w.heap.size w w'))
                case atStart => exact ⟨(0), (0), (by first | rfl | (simp; done) | (simp [*]; done)), (by first | rfl | (simp; done) | (simp [*]; done)), H', ⟨Nat.le_refl _⟩, ⟨by (try simp only [hl7_2]); (with_reducible repeat (first | apply Kd.R_alloc | apply Kd.R_drewN | apply Kd.R_drew)); exact Kd.R_mono HO_8.out (fun _ hk => hk.2)⟩, ⟨by (try simp only [hl7_2]); (with_reducible repeat (first | refine blk_drewN ?_ _ | refine blk_drew ?_ | refine blk_alloc ?_ _)); exact BK269.out⟩, ⟨by repeat (first | (with_reducible first | exact HB.out | apply below_alloc | apply pw_below_drewN | apply below_drew1 | refine below_set ?_ GE269.out) | exact HB.out)⟩⟩
                case round =>
                  clear H'
                  try clear c1
                  try clear c2
                  try clear p2
                  try clear q2
                  try clear hx2
                  try clear p6
                  try clear c7
                  try clear c8
                  try clear c8b0
                  try clear c8b1
                  try clear c12
                  try clear c15
                  try clear c22
                  try clear c22b0
                  try clear c23
                  try clear c23b0
                  try clear c24
                  try clear c24b0
                  try clear c25
                  try clear p25
                  try clear q25
                  try clear hx25
                  try clear hf25
                  try clear c27
                  try clear hx27
                  try clear hf27
                  try clear hcz26_0
                  try clear hcz26_1
                  try clear hcz26_2
                  try clear hfz26_0
                  try clear hfz26_1
                  try clear hfz26_2
                  try clear hx25_0
                  try clear hx25_1
                  try clear hx25_2
                  try clear hx27_0
                  try clear hx27_1
                  try clear hx27_2
                  try clear p2
                  try clear p25
                  try clear q25
                  obtain ⟨x10_3, x43_3, rfl, rfl, HA, HK3, HO_8, BK269, HB⟩ := hrel
                  cases gk with
                  | zero => exact absurd HA.out (by simp [antecedentlaw03_TupleOwn.l1])
                  | succ k3 =>
                    have H := HA.out
                    clear HA
                    simp only [antecedentlaw03_TupleOwn.l1] at H
                    by_cases c29 : x43_3 < (l1.length : Int)
                    · rw [if_pos c29] at H
                      have c29b0 : decide (x43_3 < (l1.length : Int)) = true := decide_eq_true c29
                      clear c29
                      have HC30 := Aside0.mk H
                      clear H
                      go_upto_region 14 with (fail)
                      repeat (go_quiet (fail); go_upto_region 14 with (fail))
                      go_cut [59] (fun v59 wc => ∃ (kq : Nat) (x59_29 : Bool), v59 = .bool x59_29 ∧ Aside0 (antecedentlaw03_TupleOwn.j3 kq l0 l1 t278 x10_3 x43_3 (l1.length : Int) x43_3 x59_29 = some r) ∧ Aside0 (kq ≤ k3) ∧ Aside0 (Kd.R k38 38 wc w.heap.size (fun k_ => k_ ≠ gb269) v279 t278) ∧ Aside0 (wc.heap[gb269]? = some (.cells #[.int .i64 x270000_2, .int .i64 x270001_2, .string x270002_2] 38 (0, 0))) ∧ Aside0 (Below w.heap.size w wc))
                      case first =>
                        have H := HC30.out
                        clear HC30
                        by_cases c31 : 0 ≤ x43_3
                        · rw [if_pos c31] at H
                          have c31b0 : decide (0 ≤ x43_3) = true := decide_eq_true c31
                          clear c31
                          (first | rw [c31b0] | (simp only [i64_w, i32_w]; rw [c31b0]) | skip)
                          by_cases c32 : x43_3 < (l1.length : Int)
                          · rw [if_pos c32] at H
                            have c32b0 : decide (x43_3 < (l1.length : Int)) = true := decide_eq_true c32
                            clear c32
                            by_cases c33 : (rd l1 x43_3) ≥ 0
                            · rw [if_pos c33] at H
                              have c33b0 : decide (0 ≤ (rd l1 x43_3)) = true := decide_eq_true c33
                              clear c33
                              have H' := Aside0.mk H
                              clear H
                              have p282 : 0 ≤ (x43_3 : Int) := of_decide_eq_true (by first | (with_reducible assumption) | assumption)
                              have q282 : x43_3 < (l1.length : Int) := of_decide_eq_true (by first | (with_reducible assumption) | assumption)
                              obtain ⟨ad282, e282, hx282_0⟩ := Kd.at_int HR1.out x43_3 p282 q282
                              cases e282
                              replace hx282_0 := (HB.out.cell (World.block_lt_of_cell? w _ hx282_0)).trans hx282_0
                              replace p282 := eq_true p282
                              replace q282 := eq_true q282
                              have p283 : 0 ≤ (x43_3 : Int) := of_decide_eq_true (by first | (with_reducible assumption) | assumption)
                              have q283 : x43_3 < (l1.length : Int) := of_decide_eq_true (by first | (with_reducible assumption) | assumption)
                              obtain ⟨ad283, e283, hx283_0⟩ := Kd.at_int HR1.out x43_3 p283 q283
                              obtain rfl : ad282 = ad283 := (by injection e283)
                              replace hx283_0 := (HB.out.cell (World.block_lt_of_cell? w _ hx283_0)).trans hx283_0
                              replace p283 := eq_true p283
                              replace q283 := eq_true q283
                              go_wp2
                              repeat (go_quiet (fail); try go_wp2)
                              go_meet
                              case rel => exact ⟨_, (decide ((rd l1 x43_3) < (l0.length : Int))), (by first | rfl | (simp; done) | (simp [*]; done)), H', ⟨by have := HJ3.out; have := HK2.out; have := HK3.out; first | omega | exact Nat.le_refl _⟩, ⟨by (try simp only [hl7_2]); (with_reducible repeat (first | apply Kd.R_alloc | apply Kd.R_drewN | apply Kd.R_drew)); exact HO_8.out⟩, ⟨by (try simp only [hl7_2]); (with_reducible repeat (first | refine blk_drewN ?_ _ | refine blk_drew ?_ | refine blk_alloc ?_ _)); exact BK269.out⟩, ⟨by repeat (first | (with_reducible first | exact HB.out | apply below_alloc | apply pw_below_drewN | apply below_drew1 | refine below_set ?_ GE269.out) | exact HB.out)⟩⟩
                            · rw [if_neg c33] at H
                              have c33b0 : decide (0 ≤ (rd l1 x43_3)) = false := decide_eq_false c33
                              clear c33
                              have H' := Aside0.mk H
                              clear H
                              have p282 : 0 ≤ (x43_3 : Int) := of_decide_eq_true (by first | (with_reducible assumption) | assumption)
                              have q282 : x43_3 < (l1.length : Int) := of_decide_eq_true (by first | (with_reducible assumption) | assumption)
                              obtain ⟨ad282, e282, hx282_0⟩ := Kd.at_int HR1.out x43_3 p282 q282
                              cases e282
                              replace hx282_0 := (HB.out.cell (World.block_lt_of_cell? w _ hx282_0)).trans hx282_0
                              replace p282 := eq_true p282
                              replace q282 := eq_true q282
                              go_wp2
                              repeat (go_quiet (fail); try go_wp2)
                              go_meet
                              case rel => exact ⟨_, (false), (by first | rfl | (simp; done) | (simp [*]; done)), H', ⟨by have := HJ3.out; have := HK2.out; have := HK3.out; first | omega | exact Nat.le_refl _⟩, ⟨by (try simp only [hl7_2]); (with_reducible repeat (first | apply Kd.R_alloc | apply Kd.R_drewN | apply Kd.R_drew)); exact HO_8.out⟩, ⟨by (try simp only [hl7_2]); (with_reducible repeat (first | refine blk_drewN ?_ _ | refine blk_drew ?_ | refine blk_alloc ?_ _)); exact BK269.out⟩, ⟨by repeat (first | (with_reducible first | exact HB.out | apply below_alloc | apply pw_below_drewN | apply below_drew1 | refine below_set ?_ GE269.out) | exact HB.out)⟩⟩
                          · rw [if_neg c32] at H
                            exact absurd H (by simp)
                        · rw [if_neg c31] at H
                          exact absurd H (by simp)
                      case rest =>
                        clear HC30
                        try clear c1
                        try clear c2
                        try clear p2
                        try clear q2
                        try clear hx2
                        try clear c3
                        try clear p6
                        try clear c7
                        try clear c8
                        try clear c8b0
                        try clear c8b1
                        try clear c12
                        try clear c15
                        try clear c22
                        try clear c22b0
                        try clear c23
                        try clear c23b0
                        try clear c24
                        try clear c24b0
                        try clear c25
                        try clear p25
                        try clear q25
                        try clear hx25
                        try clear hf25
                        try clear c27
                        try clear hx27
                        try clear hf27
                        try clear p28
                        try clear q28
                        try clear hx28
                        try clear c29
                        try clear c29b0
                        try clear c31
                        try clear c31b0
                        try clear c32
                        try clear c32b0
                        try clear c33
                        try clear c33b0
                        try clear hcz26_0
                        try clear hcz26_1
                        try clear hcz26_2
                        try clear hfz26_0
                        try clear hfz26_1
                        try clear hfz26_2
                        try clear hx25_0
                        try clear hx25_1
                        try clear hx25_2
                        try clear hx27_0
                        try clear hx27_1
                        try clear hx27_2
                        try clear hx282_0
                        try clear hx283_0
                        try clear p2
                        try clear p25
                        try clear p282
                        try clear p283
                        try clear p6
                        try clear q2
                        try clear q25
                        try clear q282
                        try clear q283
                        obtain ⟨kq, x59_29, rfl, HA, HJ29, HO_8, BK269, HB⟩ := hcut
                        cases kq with
                        | zero => exact absurd HA.out (by simp [antecedentlaw03_TupleOwn.j3])
                        | succ kj29 =>
                          have H := HA.out
                          clear HA
                          simp only [antecedentlaw03_TupleOwn.j3] at H
                          by_cases c34 : x59_29 = true
                          · subst c34
                            have H1 : (if x10_3 ≥ (t278.length : Int) then (some false) else (if 0 ≤ x10_3 then (if x10_3 < (t278.length : Int) then (if 0 ≤ x43_3 then (if x43_3 < (l1.length : Int) then (if 0 ≤ (rd l1 x43_3) then (if (rd l1 x43_3) < (l0.length : Int) then (if (!(((rd_T38 t278 x10_3).f0) == ((rd_T38 l0 (rd l1 x43_3)).f0)) || (!(((rd_T38 t278 x10_3).f1) == ((rd_T38 l0 (rd l1 x43_3)).f1)) || (!((((rd_T38 t278 x10_3).f2).toList) == (((rd_T38 l0 (rd l1 x43_3)).f2).toList))))) = true then (some false) else (antecedentlaw03_TupleOwn.l1 kj29 l0 l1 t278 (wrap64 (x10_3 + 1)) (l1.length : Int) (wrap64 (x43_3 + 1)))) else (none)) else (none)) else (none)) else (none)) else (none)) else (none))) = some r := by rw [if_pos rfl] at H; exact H
                            clear H
                            have H := H1
                            clear H1
                            by_cases c35 : x10_3 ≥ (t278.length : Int)
                            · rw [if_pos c35] at H
                              have c35b0 : decide ((t278.length : Int) ≤ x10_3) = true := decide_eq_true c35
                              clear c35
                              obtain rfl := Option.some.inj H
                              obtain ⟨Ao36, co36, eo36⟩ := Kd.R_slice HO_8.out
                              subst eo36
                              go_wp2
                              repeat (go_quiet (fail); try go_wp2)
                              go_ret
                              exact ⟨by first | rfl | (simp [errW_none, errW_some] <;> rfl) | (simp [*, errW_none, errW_some] <;> rfl), by repeat (first | (with_reducible first | exact HB.out | apply below_alloc | apply pw_below_drewN | apply below_drew1 | refine below_set ?_ GE269.out) | exact HB.out)⟩
                            · rw [if_neg c35] at H
                              have c35b0 : decide ((t278.length : Int) ≤ x10_3) = false := decide_eq_false c35
                              (try rw [hl7_2] at c35b0)
                              clear c35
                              by_cases c37 : 0 ≤ x10_3
                              · rw [if_pos c37] at H
                                have c37b0 : decide (0 ≤ x10_3) = true := decide_eq_true c37
                                clear c37
                                by_cases c38 : x10_3 < (t278.length : Int)
                                · rw [if_pos c38] at H
                                  have c38b0 : decide (x10_3 < (t278.length : Int)) = true := decide_eq_true c38
                                  clear c38
                                  by_cases c39 : 0 ≤ x43_3
                                  · rw [if_pos c39] at H
                                    have c39b0 : decide (0 ≤ x43_3) = true := decide_eq_true c39
                                    clear c39
                                    by_cases c40 : x43_3 < (l1.length : Int)
                                    · rw [if_pos c40] at H
                                      have c40b0 : decide (x43_3 < (l1.length : Int)) = true := decide_eq_true c40
                                      clear c40
                                      by_cases c41 : 0 ≤ (rd l1 x43_3)
                                      · rw [if_pos c41] at H
                                        have c41b0 : decide (0 ≤ (rd l1 x43_3)) = true := decide_eq_true c41
                                        clear c41
                                        by_cases c42 : (rd l1 x43_3) < (l0.length : Int)
                                        · rw [if_pos c42] at H
                                          have c42b0 : decide ((rd l1 x43_3) < (l0.length : Int)) = true := decide_eq_true c42
                                          clear c42
                                          by_cases c43 : (!(((rd_T38 t278 x10_3).f0) == ((rd_T38 l0 (rd l1 x43_3)).f0)) || (!(((rd_T38 t278 x10_3).f1) == ((rd_T38 l0 (rd l1 x43_3)).f1)) || (!((((rd_T38 t278 x10_3).f2).toList) == (((rd_T38 l0 (rd l1 x43_3)).f2).toList))))) = true
                                          · rw [if_pos c43] at H
                                            have c43b0 : (!(((rd_T38 t278 x10_3).f0) == ((rd_T38 l0 (rd l1 x43_3)).f0)) || (!(((rd_T38 t278 x10_3).f1) == ((rd_T38 l0 (rd l1 x43_3)).f1)) || (!((((rd_T38 t278 x10_3).f2).toList) == (((rd_T38 l0 (rd l1 x43_3)).f2).toList))))) = true := c43
                                            clear c43
                                            obtain rfl := Option.some.inj H
                                            obtain ⟨Ao44, co44, eo44⟩ := Kd.R_slice HO_8.out
                                            subst eo44
                                            have p284 : 0 ≤ (x10_3 : Int) := of_decide_eq_true (by first | (with_reducible assumption) | assumption)
                                            have q284 : x10_3 < (t278.length : Int) := of_decide_eq_true (by first | (with_reducible assumption) | assumption)
                                            obtain ⟨ad284, e284, hx284_0, hx284_1, hx284_2⟩ := at_T38 (Kd.R_reads' HO_8.out).2.2 x10_3 p284 q284
                                            cases e284
                                            replace p284 := eq_true p284
                                            replace q284 := eq_true q284
                                            have p285 : 0 ≤ (x43_3 : Int) := of_decide_eq_true (by first | (with_reducible assumption) | assumption)
                                            have q285 : x43_3 < (l1.length : Int) := of_decide_eq_true (by first | (with_reducible assumption) | assumption)
                                            obtain ⟨ad285, e285, hx285_0⟩ := Kd.at_int HR1.out x43_3 p285 q285
                                            cases e285
                                            replace hx285_0 := (HB.out.cell (World.block_lt_of_cell? w _ hx285_0)).trans hx285_0
                                            replace p285 := eq_true p285
                                            replace q285 := eq_true q285
                                            have p286 : 0 ≤ ((rd l1 x43_3) : Int) := of_decide_eq_true (by first | (with_reducible assumption) | assumption)
                                            have q286 : (rd l1 x43_3) < (l0.length : Int) := of_decide_eq_true (by first | (with_reducible assumption) | assumption)
                                            obtain ⟨ad286, e286, hx286_0, hx286_1, hx286_2⟩ := at_T38 HR0.out (rd l1 x43_3) p286 q286
                                            cases e286
                                            replace hx286_0 := (HB.out.cell (World.block_lt_of_cell? w _ hx286_0)).trans hx286_0
                                            replace hx286_1 := (HB.out.cell (World.block_lt_of_cell? w _ hx286_1)).trans hx286_1
                                            replace hx286_2 := (HB.out.cell (World.block_lt_of_cell? w _ hx286_2)).trans hx286_2
                                            replace p286 := eq_true p286
                                            replace q286 := eq_true q286
                                            go_wp2
                                            repeat (go_quiet (fail); try go_wp2)
                                            go_ret
                                            exact ⟨by first | rfl | (simp [errW_none, errW_some] <;> rfl) | (simp [*, errW_none, errW_some] <;> rfl), by repeat (first | (with_reducible first | exact HB.out | apply below_alloc | apply pw_below_drewN | apply below_drew1 | refine below_set ?_ GE269.out) | exact HB.out)⟩
                                          · rw [if_neg c43] at H
                                            have c43b0 : (!(((rd_T38 t278 x10_3).f0) == ((rd_T38 l0 (rd l1 x43_3)).f0)) || (!(((rd_T38 t278 x10_3).f1) == ((rd_T38 l0 (rd l1 x43_3)).f1)) || (!((((rd_T38 t278 x10_3).f2).toList) == (((rd_T38 l0 (rd l1 x43_3)).f2).toList))))) = false := by simpa using c43
                                            clear c43
                                            have H' := Aside0.mk H
                                            clear H
                                            obtain ⟨Ao45, co45, eo45⟩ := Kd.R_slice HO_8.out
                                            subst eo45
                                            have p284 : 0 ≤ (x10_3 : Int) := of_decide_eq_true (by first | (with_reducible assumption) | assumption)
                                            have q284 : x10_3 < (t278.length : Int) := of_decide_eq_true (by first | (with_reducible assumption) | assumption)
                                            obtain ⟨ad284, e284, hx284_0, hx284_1, hx284_2⟩ := at_T38 (Kd.R_reads' HO_8.out).2.2 x10_3 p284 q284
                                            cases e284
                                            replace p284 := eq_true p284
                                            replace q284 := eq_true q284
                                            have p285 : 0 ≤ (x43_3 : Int) := of_decide_eq_true (by first | (with_reducible assumption) | assumption)
                                            have q285 : x43_3 < (l1.length : Int) := of_decide_eq_true (by first | (with_reducible assumption) | assumption)
                                            obtain ⟨ad285, e285, hx285_0⟩ := Kd.at_int HR1.out x43_3 p285 q285
                                            cases e285
                                            replace hx285_0 := (HB.out.cell (World.block_lt_of_cell? w _ hx285_0)).trans hx285_0
                                            replace p285 := eq_true p285
                                            replace q285 := eq_true q285
                                            have p286 : 0 ≤ ((rd l1 x43_3) : Int) := of_decide_eq_true (by first | (with_reducible assumption) | assumption)
                                            have q286 : (rd l1 x43_3) < (l0.length : Int) := of_decide_eq_true (by first | (with_reducible assumption) | assumption)
                                            obtain ⟨ad286, e286, hx286_0, hx286_1, hx286_2⟩ := at_T38 HR0.out (rd l1 x43_3) p286 q286
                                            cases e286
                                            replace hx286_0 := (HB.out.cell (World.block_lt_of_cell? w _ hx286_0)).trans hx286_0
                                            replace hx286_1 := (HB.out.cell (World.block_lt_of_cell? w _ hx286_1)).trans hx286_1
                                            replace hx286_2 := (HB.out.cell (World.block_lt_of_cell? w _ hx286_2)).trans hx286_2
                                            replace p286 := eq_true p286
                                            replace q286 := eq_true q286
                                            go_wp2
                                            repeat (go_quiet (fail); try go_wp2)
                                            go_roundg kj29
                                            case measure => have := HJ3.out; have := HK2.out; have := HK3.out; have := HJ29.out; omega
                                            case rel => exact ⟨(wrap64 (x10_3 + 1)), (wrap64 (x43_3 + 1)), (by first | rfl | (simp; done) | (simp [*]; done)), (by first | rfl | (simp; done) | (simp [*]; done)), H', ⟨by have := HJ3.out; have := HK2.out; have := HK3.out; have := HJ29.out; omega⟩, ⟨by (try simp only [hl7_2]); (with_reducible repeat (first | apply Kd.R_alloc | apply Kd.R_drewN | apply Kd.R_drew)); exact HO_8.out⟩, ⟨by (try simp only [hl7_2]); (with_reducible repeat (first | refine blk_drewN ?_ _ | refine blk_drew ?_ | refine blk_alloc ?_ _)); exact BK269.out⟩, ⟨by repeat (first | (with_reducible first | exact HB.out | apply below_alloc | apply pw_below_drewN | apply below_drew1 | refine below_set ?_ GE269.out) | exact HB.out)⟩⟩
                                        · rw [if_neg c42] at H
                                          exact absurd H (by simp)
                                      · rw [if_neg c41] at H
                                        exact absurd H (by simp)
                                    · rw [if_neg c40] at H
                                      exact absurd H (by simp)
                                  · rw [if_neg c39] at H
                                    exact absurd H (by simp)
                                · rw [if_neg c38] at H
                                  exact absurd H (by simp)
                              · rw [if_neg c37] at H
                                exact absurd H (by simp)
                          · replace c34 := Bool.eq_false_iff.mpr c34
                            subst c34
                            have H1 : (antecedentlaw03_TupleOwn.l1 kj29 l0 l1 t278 x10_3 (l1.length : Int) (wrap64 (x43_3 + 1))) = some r := by rw [if_neg (show ¬ (false = true) by decide)] at H; exact H
                            clear H
                            have H := H1
                            clear H1
                            have H' := Aside0.mk H
                            clear H
                            go_wp2
                            repeat (go_quiet (fail); try go_wp2)
                            go_roundg kj29
                            case measure => have := HJ3.out; have := HK2.out; have := HK3.out; have := HJ29.out; omega
                            case rel => exact ⟨(x10_3), (wrap64 (x43_3 + 1)), (by first | rfl | (simp; done) | (simp [*]; done)), (by first | rfl | (simp; done) | (simp [*]; done)), H', ⟨by have := HJ3.out; have := HK2.out; have := HK3.out; have := HJ29.out; omega⟩, ⟨by (try simp only [hl7_2]); (with_reducible repeat (first | apply Kd.R_alloc | apply Kd.R_drewN | apply Kd.R_drew)); exact HO_8.out⟩, ⟨by (try simp only [hl7_2]); (with_reducible repeat (first | refine blk_drewN ?_ _ | refine blk_drew ?_ | refine blk_alloc ?_ _)); exact BK269.out⟩, ⟨by repeat (first | (with_reducible first | exact HB.out | apply below_alloc | apply pw_below_drewN | apply below_drew1 | refine below_set ?_ GE269.out) | exact HB.out)⟩⟩
                    · rw [if_neg c29] at H
                      have c29b0 : decide (x43_3 < (l1.length : Int)) = false := decide_eq_false c29
                      (try rw [hl7_2] at c29b0)
                      clear c29
                      obtain rfl := Option.some.inj H
                      obtain ⟨Ao46, co46, eo46⟩ := Kd.R_slice HO_8.out
                      subst eo46
                      go_wp2
                      repeat (go_quiet (fail); try go_wp2)
                      go_ret
                      exact ⟨by first | rfl | (simp [errW_none, errW_some] <;> rfl) | (simp [*, errW_none, errW_some] <;> rfl), by repeat (first | (with_reducible first | exact HB.out | apply below_alloc | apply pw_below_drewN | apply below_drew1 | refine below_set ?_ GE269.out) | exact HB.out)⟩
        · rw [if_neg c15] at H
          exact absurd H (by simp)

end Go.Proofs.YtepgdjbjcnolnaaDoor.X
