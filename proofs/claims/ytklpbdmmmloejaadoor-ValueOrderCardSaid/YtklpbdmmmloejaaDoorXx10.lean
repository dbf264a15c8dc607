-- WRITTEN BY A PROGRAM OF THIS SESSION (xprint.py): functions in Lean, and proofs that the code comes to them. Lean checks it.
import Derived.Test.YtklpbdmmmloejaaDoorXx0
import Derived.Test.YtklpbdmmmloejaaDoorXx1
import Derived.Test.YtklpbdmmmloejaaDoorXx4
import Derived.Test.YtklpbdmmmloejaaDoorXx7
namespace Go.Proofs.YtklpbdmmmloejaaDoor.X
open Go.RowKit Go.Proofs.YtklpbdmmmloejaaDoorW.PrintWords Go.Proofs.YtklpbdmmmloejaaDoorW.PrintLast Go.Proofs.YtklpbdmmmloejaaDoorW.PrintMore
attribute [local go_sem] max2_int min2_int max_two min_two max_three min_three max_four min_four   -- for this text's walks alone
set_option linter.unusedVariables false
set_option linter.unusedSimpArgs false

attribute [local go_sem high] eqA23
/-! ### antecedentlaw02_ValueOrder: function 6 -/
mutual
def antecedentlaw02_ValueOrder.j0 : Nat → Int → Bool → Int → Int → ByteArray → Int → Int → ByteArray → Int → Int → ByteArray → Option (Bool)
  | 0, _, _, _, _, _, _, _, _, _, _, _ => none
  | k + 1, x7, x36, x201000, x201001, x201002, x202000, x202001, x202002, x203000, x203001, x203002 => if x36 = true then (some false) else (if x201000 < x202000 then (if x7 = (-1) then (if x201000 = x202000 then (if x201001 < x202001 then (antecedentlaw02_ValueOrder.j1 k x7 (x7 != (-1)) x201000 x201001 x201002 x202000 x202001 x202002 x203000 x203001 x203002) else (antecedentlaw02_ValueOrder.j1 k x7 false x201000 x201001 x201002 x202000 x202001 x202002 x203000 x203001 x203002)) else (antecedentlaw02_ValueOrder.j1 k x7 false x201000 x201001 x201002 x202000 x202001 x202002 x203000 x203001 x203002)) else (antecedentlaw02_ValueOrder.j1 k x7 true x201000 x201001 x201002 x202000 x202001 x202002 x203000 x203001 x203002)) else (if x201000 = x202000 then (if x201001 < x202001 then (antecedentlaw02_ValueOrder.j1 k x7 (x7 != (-1)) x201000 x201001 x201002 x202000 x202001 x202002 x203000 x203001 x203002) else (antecedentlaw02_ValueOrder.j1 k x7 false x201000 x201001 x201002 x202000 x202001 x202002 x203000 x203001 x203002)) else (antecedentlaw02_ValueOrder.j1 k x7 false x201000 x201001 x201002 x202000 x202001 x202002 x203000 x203001 x203002)))
def antecedentlaw02_ValueOrder.j1 : Nat → Int → Bool → Int → Int → ByteArray → Int → Int → ByteArray → Int → Int → ByteArray → Option (Bool)
  | 0, _, _, _, _, _, _, _, _, _, _, _ => none
  | k + 1, x7, x63, x201000, x201001, x201002, x202000, x202001, x202002, x203000, x203001, x203002 => if x63 = true then (some false) else (if x7 ≤ 0 then ((value_Compare.f k x202000 x202001 x202002 x203000 x203001 x203002).bind fun t206 => (if t206 ≤ 0 then ((value_Compare.f k x201000 x201001 x201002 x203000 x203001 x203002).bind fun t207 => (some (decide (t207 ≤ 0)))) else (some true))) else (some true))
end
def antecedentlaw02_ValueOrder.f (k : Nat) (a0_0 : Int) (a0_1 : Int) (a0_2 : ByteArray) (a1_0 : Int) (a1_1 : Int) (a1_2 : ByteArray) (a2_0 : Int) (a2_1 : Int) (a2_2 : ByteArray) : Option (Bool) := (antecedentlaw02_awake.f k).bind fun t203 => (if t203 = true then ((value_Compare.f k a0_0 a0_1 a0_2 a1_0 a1_1 a1_2).bind fun t204 => ((value_Compare.f k a1_0 a1_1 a1_2 a0_0 a0_1 a0_2).bind fun t205 => (if t204 = (wrap64 (-t205)) then (if t204 < (-1) then (antecedentlaw02_ValueOrder.j0 k t204 true a0_0 a0_1 a0_2 a1_0 a1_1 a1_2 a2_0 a2_1 a2_2) else (if t204 > 1 then (antecedentlaw02_ValueOrder.j0 k t204 true a0_0 a0_1 a0_2 a1_0 a1_1 a1_2 a2_0 a2_1 a2_2) else (antecedentlaw02_ValueOrder.j0 k t204 ((t204 == 0) != (a0_0 == a1_0 && (a0_1 == a1_1 && (a0_2.toList == a1_2.toList)))) a0_0 a0_1 a0_2 a1_0 a1_1 a1_2 a2_0 a2_1 a2_2))) else (antecedentlaw02_ValueOrder.j0 k t204 true a0_0 a0_1 a0_2 a1_0 a1_1 a1_2 a2_0 a2_1 a2_2)))) else (some false))
theorem antecedentlaw02_ValueOrder.mono_l : ∀ k, (∀ y0 y1 y2 y3 y4 y5 y6 y7 y8 y9 y10, LeO (antecedentlaw02_ValueOrder.j0 k y0 y1 y2 y3 y4 y5 y6 y7 y8 y9 y10) (antecedentlaw02_ValueOrder.j0 (k + 1) y0 y1 y2 y3 y4 y5 y6 y7 y8 y9 y10)) ∧ (∀ y0 y1 y2 y3 y4 y5 y6 y7 y8 y9 y10, LeO (antecedentlaw02_ValueOrder.j1 k y0 y1 y2 y3 y4 y5 y6 y7 y8 y9 y10) (antecedentlaw02_ValueOrder.j1 (k + 1) y0 y1 y2 y3 y4 y5 y6 y7 y8 y9 y10))
  | 0 => ⟨fun _ _ _ _ _ _ _ _ _ _ _ r h => by simp [antecedentlaw02_ValueOrder.j0] at h, fun _ _ _ _ _ _ _ _ _ _ _ r h => by simp [antecedentlaw02_ValueOrder.j1] at h⟩
  | k + 1 => by
    obtain ⟨ih0, ih1⟩ := antecedentlaw02_ValueOrder.mono_l k
    refine ⟨?_, ?_⟩
    · intro y0 y1 y2 y3 y4 y5 y6 y7 y8 y9 y10
      unfold antecedentlaw02_ValueOrder.j0
      repeat' first
      | (with_reducible exact ih0 _ _ _ _ _ _ _ _ _ _ _)
      | (with_reducible exact ih1 _ _ _ _ _ _ _ _ _ _ _)
      | (with_reducible exact antecedentlaw02_awake.mono _)
      | (with_reducible exact value_Compare.mono _ _ _ _ _ _ _)
      | (with_reducible exact LeO.refl _)
      | (with_reducible exact LeO.none _)
      | (with_reducible refine LeO.ite ?_ ?_)
      | (with_reducible refine LeO.bind ?_ (fun _ => ?_))
      | exact ih0 _ _ _ _ _ _ _ _ _ _ _
      | exact ih1 _ _ _ _ _ _ _ _ _ _ _
      | exact antecedentlaw02_awake.mono _
      | exact value_Compare.mono _ _ _ _ _ _ _
      | exact LeO.none _
      | refine LeO.ite ?_ ?_
      | refine LeO.bind ?_ (fun _ => ?_)
    · intro y0 y1 y2 y3 y4 y5 y6 y7 y8 y9 y10
      unfold antecedentlaw02_ValueOrder.j1
      repeat' first
      | (with_reducible exact ih0 _ _ _ _ _ _ _ _ _ _ _)
      | (with_reducible exact ih1 _ _ _ _ _ _ _ _ _ _ _)
      | (with_reducible exact antecedentlaw02_awake.mono _)
      | (with_reducible exact value_Compare.mono _ _ _ _ _ _ _)
      | (with_reducible exact LeO.refl _)
      | (with_reducible exact LeO.none _)
      | (with_reducible refine LeO.ite ?_ ?_)
      | (with_reducible refine LeO.bind ?_ (fun _ => ?_))
      | exact ih0 _ _ _ _ _ _ _ _ _ _ _
      | exact ih1 _ _ _ _ _ _ _ _ _ _ _
      | exact antecedentlaw02_awake.mono _
      | exact value_Compare.mono _ _ _ _ _ _ _
      | exact LeO.none _
      | refine LeO.ite ?_ ?_
      | refine LeO.bind ?_ (fun _ => ?_)
theorem antecedentlaw02_ValueOrder.mono : ∀ a0 a1 a2 a3 a4 a5 a6 a7 a8 k, LeO (antecedentlaw02_ValueOrder.f k a0 a1 a2 a3 a4 a5 a6 a7 a8) (antecedentlaw02_ValueOrder.f (k + 1) a0 a1 a2 a3 a4 a5 a6 a7 a8) := by
  intro a0 a1 a2 a3 a4 a5 a6 a7 a8 k
  obtain ⟨ih0, ih1⟩ := antecedentlaw02_ValueOrder.mono_l k
  unfold antecedentlaw02_ValueOrder.f
  repeat' first
      | (with_reducible exact ih0 _ _ _ _ _ _ _ _ _ _ _)
      | (with_reducible exact ih1 _ _ _ _ _ _ _ _ _ _ _)
      | (with_reducible exact antecedentlaw02_awake.mono _)
      | (with_reducible exact value_Compare.mono _ _ _ _ _ _ _)
      | (with_reducible exact LeO.refl _)
      | (with_reducible exact LeO.none _)
      | (with_reducible refine LeO.ite ?_ ?_)
      | (with_reducible refine LeO.bind ?_ (fun _ => ?_))
      | exact ih0 _ _ _ _ _ _ _ _ _ _ _
      | exact ih1 _ _ _ _ _ _ _ _ _ _ _
      | exact antecedentlaw02_awake.mono _
      | exact value_Compare.mono _ _ _ _ _ _ _
      | exact LeO.none _
      | refine LeO.ite ?_ ?_
      | refine LeO.bind ?_ (fun _ => ?_)
def antecedentlaw02_ValueOrder.T3 : Bool × List (List Nat × List Nat) := (true, [([], []), ([], []), ([0, 1], [0, 1]), ([], []), ([], []), ([3, 4, 2], [3, 4]), ([2, 5, 0, 1, 2], [2]), ([5, 6, 0, 1, 2, 3, 4, 5, 6], [5])])
def antecedentlaw02_ValueOrder.B3 : List Nat := [0, 0, 3, 0, 0, 31, 63, 127]
theorem antecedentlaw02_ValueOrder.tab3 : rtab .any (opsOf Tryd.f6 3) = antecedentlaw02_ValueOrder.T3 := by kernel_rfl
theorem antecedentlaw02_ValueOrder.bits3 : waitsOk antecedentlaw02_ValueOrder.T3.2 antecedentlaw02_ValueOrder.B3 = true := by kernel_rfl
set_option maxHeartbeats 8000000 in
set_option maxRecDepth 100000 in
theorem antecedentlaw02_ValueOrder.calls (k : Nat) (a0_0 : Int) (a0_1 : Int) (a0_2 : ByteArray) (a1_0 : Int) (a1_1 : Int) (a1_2 : ByteArray) (a2_0 : Int) (a2_1 : Int) (a2_2 : ByteArray) (r : Bool) (w : World) (hLW : LaidW w) (h : antecedentlaw02_ValueOrder.f k a0_0 a0_1 a0_2 a1_0 a1_1 a1_2 a2_0 a2_1 a2_2 = some r) :
    Calls Tryd.prog 6 #[.agg #[.int .i64 a0_0, .int .i64 a0_1, .string a0_2], .agg #[.int .i64 a1_0, .int .i64 a1_1, .string a1_2], .agg #[.int .i64 a2_0, .int .i64 a2_1, .string a2_2]] w fun e w' => e = .returned (.bool r) ∧ Below w.heap.size w w' := by
  have hu23 := Tryd.underlying23
  have HLW := Aside0.mk hLW
  clear hLW
  have HB := Aside0.mk (Below.refl w.heap.size w)
  have H : ((antecedentlaw02_awake.f k).bind fun t203 => (if t203 = true then ((value_Compare.f k a0_0 a0_1 a0_2 a1_0 a1_1 a1_2).bind fun t204 => ((value_Compare.f k a1_0 a1_1 a1_2 a0_0 a0_1 a0_2).bind fun t205 => (if t204 = (wrap64 (-t205)) then (if t204 < (-1) then (antecedentlaw02_ValueOrder.j0 k t204 true a0_0 a0_1 a0_2 a1_0 a1_1 a1_2 a2_0 a2_1 a2_2) else (if t204 > 1 then (antecedentlaw02_ValueOrder.j0 k t204 true a0_0 a0_1 a0_2 a1_0 a1_1 a1_2 a2_0 a2_1 a2_2) else (antecedentlaw02_ValueOrder.j0 k t204 ((t204 == 0) != (a0_0 == a1_0 && (a0_1 == a1_1 && (a0_2.toList == a1_2.toList)))) a0_0 a0_1 a0_2 a1_0 a1_1 a1_2 a2_0 a2_1 a2_2))) else (antecedentlaw02_ValueOrder.j0 k t204 true a0_0 a0_1 a0_2 a1_0 a1_1 a1_2 a2_0 a2_1 a2_2)))) else (some false))) = some r := h
  clear h
  replace H := Option.bind_eq_some_iff.mp H
  obtain ⟨t203, A40, H⟩ := H
  replace H : (if t203 = true then ((value_Compare.f k a0_0 a0_1 a0_2 a1_0 a1_1 a1_2).bind fun t204 => ((value_Compare.f k a1_0 a1_1 a1_2 a0_0 a0_1 a0_2).bind fun t205 => (if t204 = (wrap64 (-t205)) then (if t204 < (-1) then (antecedentlaw02_ValueOrder.j0 k t204 true a0_0 a0_1 a0_2 a1_0 a1_1 a1_2 a2_0 a2_1 a2_2) else (if t204 > 1 then (antecedentlaw02_ValueOrder.j0 k t204 true a0_0 a0_1 a0_2 a1_0 a1_1 a1_2 a2_0 a2_1 a2_2) else (antecedentlaw02_ValueOrder.j0 k t204 ((t204 == 0) != (a0_0 == a1_0 && (a0_1 == a1_1 && (a0_2.toList == a1_2.toList)))) a0_0 a0_1 a0_2 a1_0 a1_1 a1_2 a2_0 a2_1 a2_2))) else (antecedentlaw02_ValueOrder.j0 k t204 true a0_0 a0_1 a0_2 a1_0 a1_1 a1_2 a2_0 a2_1 a2_2)))) else (some false)) = some r := H
  have A4 := Aside0.mk A40
  clear A40
  by_cases c5 : t203 = true
  · subst c5
    have H1 : ((value_Compare.f k a0_0 a0_1 a0_2 a1_0 a1_1 a1_2).bind fun t204 => ((value_Compare.f k a1_0 a1_1 a1_2 a0_0 a0_1 a0_2).bind fun t205 => (if t204 = (wrap64 (-t205)) then (if t204 < (-1) then (antecedentlaw02_ValueOrder.j0 k t204 true a0_0 a0_1 a0_2 a1_0 a1_1 a1_2 a2_0 a2_1 a2_2) else (if t204 > 1 then (antecedentlaw02_ValueOrder.j0 k t204 true a0_0 a0_1 a0_2 a1_0 a1_1 a1_2 a2_0 a2_1 a2_2) else (antecedentlaw02_ValueOrder.j0 k t204 ((t204 == 0) != (a0_0 == a1_0 && (a0_1 == a1_1 && (a0_2.toList == a1_2.toList)))) a0_0 a0_1 a0_2 a1_0 a1_1 a1_2 a2_0 a2_1 a2_2))) else (antecedentlaw02_ValueOrder.j0 k t204 true a0_0 a0_1 a0_2 a1_0 a1_1 a1_2 a2_0 a2_1 a2_2)))) = some r := by rw [if_pos rfl] at H; exact H
    clear H
    have H := H1
    clear H1
    replace H := Option.bind_eq_some_iff.mp H
    obtain ⟨t204, A60, H⟩ := H
    replace H : ((value_Compare.f k a1_0 a1_1 a1_2 a0_0 a0_1 a0_2).bind fun t205 => (if t204 = (wrap64 (-t205)) then (if t204 < (-1) then (antecedentlaw02_ValueOrder.j0 k t204 true a0_0 a0_1 a0_2 a1_0 a1_1 a1_2 a2_0 a2_1 a2_2) else (if t204 > 1 then (antecedentlaw02_ValueOrder.j0 k t204 true a0_0 a0_1 a0_2 a1_0 a1_1 a1_2 a2_0 a2_1 a2_2) else (antecedentlaw02_ValueOrder.j0 k t204 ((t204 == 0) != (a0_0 == a1_0 && (a0_1 == a1_1 && (a0_2.toList == a1_2.toList)))) a0_0 a0_1 a0_2 a1_0 a1_1 a1_2 a2_0 a2_1 a2_2))) else (antecedentlaw02_ValueOrder.j0 k t204 true a0_0 a0_1 a0_2 a1_0 a1_1 a1_2 a2_0 a2_1 a2_2))) = some r := H
    have A6 := Aside0.mk A60
    clear A60
    replace H := Option.bind_eq_some_iff.mp H
    obtain ⟨t205, A70, H⟩ := H
    replace H : (if t204 = (wrap64 (-t205)) then (if t204 < (-1) then (antecedentlaw02_ValueOrder.j0 k t204 true a0_0 a0_1 a0_2 a1_0 a1_1 a1_2 a2_0 a2_1 a2_2) else (if t204 > 1 then (antecedentlaw02_ValueOrder.j0 k t204 true a0_0 a0_1 a0_2 a1_0 a1_1 a1_2 a2_0 a2_1 a2_2) else (antecedentlaw02_ValueOrder.j0 k t204 ((t204 == 0) != (a0_0 == a1_0 && (a0_1 == a1_1 && (a0_2.toList == a1_2.toList)))) a0_0 a0_1 a0_2 a1_0 a1_1 a1_2 a2_0 a2_1 a2_2))) else (antecedentlaw02_ValueOrder.j0 k t204 true a0_0 a0_1 a0_2 a1_0 a1_1 a1_2 a2_0 a2_1 a2_2)) = some r := H
    have A7 := Aside0.mk A70
    clear A70
    have HC8 := Aside0.mk H
    clear H
    go_enter Tryd.func6, Tryd.ntmps6
    try go_wp2_with (first | ((with_reducible refine gate_dst (N := 3) rfl ?_); refine box_event ?hg (N := 3) ?hd (cs := #[.int .i64 a0_0, .int .i64 a0_1, .string a0_2]) (t := 23) ?hr ?_; (case hd => rfl); (case hg => rfl); (case hr => first | (go_simp; done) | (go_simp; rfl)); intro gb200 hg w9 hbox hb; have n0_ := Aside0.mk (below_step (by repeat (first | (with_reducible first | exact HB.out | apply below_alloc | apply pw_below_drewN | apply below_drew1) | exact HB.out)) hb); have n1_ := Aside0.mk (hbox); have n2_ := Aside0.mk ((by rw [hg]; exact (below_size (by repeat (first | (with_reducible first | exact HB.out | apply below_alloc | apply pw_below_drewN | apply below_drew1) | exact HB.out))) : w.heap.size ≤ gb200)); have n3_ := Aside0.mk ((by rw [hg]; exact (below_size (by repeat (first | (with_reducible first | exact HB.out | apply below_alloc | apply pw_below_drewN | apply below_drew1) | exact HB.out))) : w.heap.size ≤ gb200)); clear HB; have HB := n0_; have BK200 := n1_; have GW200 := n2_; have GE200 := n3_; clear n0_ n1_ n2_ n3_; clear hb hbox hg) | ((with_reducible refine gate_dst (N := 4) rfl ?_); refine box_event ?hg (N := 4) ?hd (cs := #[.int .i64 a1_0, .int .i64 a1_1, .string a1_2]) (t := 23) ?hr ?_; (case hd => rfl); (case hg => rfl); (case hr => first | (go_simp; done) | (go_simp; rfl)); intro gb201 hg w10 hbox hb; have n0_ := Aside0.mk (blk_below (g := gb200) (o := .cells #[.int .i64 a0_0, .int .i64 a0_1, .string a0_2] 23 (0, 0)) (by (with_reducible repeat (first | refine blk_drewN ?_ _ | refine blk_drew ?_ | refine blk_alloc ?_ _)); exact BK200.out) hb); have n1_ := Aside0.mk (below_step (by repeat (first | (with_reducible first | exact HB.out | apply below_alloc | apply pw_below_drewN | apply below_drew1 | refine below_set ?_ GE200.out) | exact HB.out)) hb); have n2_ := Aside0.mk (hbox); have n3_ := Aside0.mk ((by rw [hg]; exact (below_size (by repeat (first | (with_reducible first | exact HB.out | apply below_alloc | apply pw_below_drewN | apply below_drew1 | refine below_set ?_ GE200.out) | exact HB.out))) : w.heap.size ≤ gb201)); have n4_ := Aside0.mk ((by rw [hg]; exact (below_size (by repeat (first | (with_reducible first | exact HB.out | apply below_alloc | apply pw_below_drewN | apply below_drew1 | refine below_set ?_ GE200.out) | exact HB.out))) : w.heap.size ≤ gb201)); have n5_ := Aside0.mk ((by rw [hg]; exact Nat.ne_of_lt (blk_lt (g := gb200) (o := .cells #[.int .i64 a0_0, .int .i64 a0_1, .string a0_2] 23 (0, 0)) (by (with_reducible repeat (first | refine blk_drewN ?_ _ | refine blk_drew ?_ | refine blk_alloc ?_ _)); exact BK200.out)) : gb200 ≠ gb201)); have n6_ := Aside0.mk ((by rw [hg]; exact Nat.ne_of_gt (blk_lt (g := gb200) (o := .cells #[.int .i64 a0_0, .int .i64 a0_1, .string a0_2] 23 (0, 0)) (by (with_reducible repeat (first | refine blk_drewN ?_ _ | refine blk_drew ?_ | refine blk_alloc ?_ _)); exact BK200.out)) : gb201 ≠ gb200)); clear BK200; clear HB; have BK200 := n0_; have HB := n1_; have BK201 := n2_; have GW201 := n3_; have GE201 := n4_; have NB200_201 := n5_; have NB201_200 := n6_; clear n0_ n1_ n2_ n3_ n4_ n5_ n6_; clear hb hbox hg) | ((with_reducible refine gate_dst (N := 5) rfl ?_); refine box_event ?hg (N := 5) ?hd (cs := #[.int .i64 a2_0, .int .i64 a2_1, .string a2_2]) (t := 23) ?hr ?_; (case hd => rfl); (case hg => rfl); (case hr => first | (go_simp; done) | (go_simp; rfl)); intro gb202 hg w11 hbox hb; have n0_ := Aside0.mk (blk_below (g := gb200) (o := .cells #[.int .i64 a0_0, .int .i64 a0_1, .string a0_2] 23 (0, 0)) (by (with_reducible repeat (first | refine blk_drewN ?_ _ | refine blk_drew ?_ | refine blk_alloc ?_ _)); exact BK200.out) hb); have n1_ := Aside0.mk (blk_below (g := gb201) (o := .cells #[.int .i64 a1_0, .int .i64 a1_1, .string a1_2] 23 (0, 0)) (by (with_reducible repeat (first | refine blk_drewN ?_ _ | refine blk_drew ?_ | refine blk_alloc ?_ _)); exact BK201.out) hb); have n2_ := Aside0.mk (below_step (by repeat (first | (with_reducible first | exact HB.out | apply below_alloc | apply pw_below_drewN | apply below_drew1 | refine below_set ?_ GE200.out | refine below_set ?_ GE201.out) | exact HB.out)) hb); have n3_ := Aside0.mk (hbox); have n4_ := Aside0.mk ((by rw [hg]; exact (below_size (by repeat (first | (with_reducible first | exact HB.out | apply below_alloc | apply pw_below_drewN | apply below_drew1 | refine below_set ?_ GE200.out | refine below_set ?_ GE201.out) | exact HB.out))) : w.heap.size ≤ gb202)); have n5_ := Aside0.mk ((by rw [hg]; exact (below_size (by repeat (first | (with_reducible first | exact HB.out | apply below_alloc | apply pw_below_drewN | apply below_drew1 | refine below_set ?_ GE200.out | refine below_set ?_ GE201.out) | exact HB.out))) : w.heap.size ≤ gb202)); have n6_ := Aside0.mk ((by rw [hg]; exact Nat.ne_of_lt (blk_lt (g := gb200) (o := .cells #[.int .i64 a0_0, .int .i64 a0_1, .string a0_2] 23 (0, 0)) (by (with_reducible repeat (first | refine blk_drewN ?_ _ | refine blk_drew ?_ | refine blk_alloc ?_ _)); exact BK200.out)) : gb200 ≠ gb202)); have n7_ := Aside0.mk ((by rw [hg]; exact Nat.ne_of_gt (blk_lt (g := gb200) (o := .cells #[.int .i64 a0_0, .int .i64 a0_1, .string a0_2] 23 (0, 0)) (by (with_reducible repeat (first | refine blk_drewN ?_ _ | refine blk_drew ?_ | refine blk_alloc ?_ _)); exact BK200.out)) : gb202 ≠ gb200)); have n8_ := Aside0.mk ((by rw [hg]; exact Nat.ne_of_lt (blk_lt (g := gb201) (o := .cells #[.int .i64 a1_0, .int .i64 a1_1, .string a1_2] 23 (0, 0)) (by (with_reducible repeat (first | refine blk_drewN ?_ _ | refine blk_drew ?_ | refine blk_alloc ?_ _)); exact BK201.out)) : gb201 ≠ gb202)); have n9_ := Aside0.mk ((by rw [hg]; exact Nat.ne_of_gt (blk_lt (g := gb201) (o := .cells #[.int .i64 a1_0, .int .i64 a1_1, .string a1_2] 23 (0, 0)) (by (with_reducible repeat (first | refine blk_drewN ?_ _ | refine blk_drew ?_ | refine blk_alloc ?_ _)); exact BK201.out)) : gb202 ≠ gb201)); clear BK200; clear BK201; clear HB; have BK200 := n0_; have BK201 := n1_; have HB := n2_; have BK202 := n3_; have GW202 := n4_; have GE202 := n5_; have NB200_202 := n6_; have NB202_200 := n7_; have NB201_202 := n8_; have NB202_201 := n9_; clear n0_ n1_ n2_ n3_ n4_ n5_ n6_ n7_ n8_ n9_; clear hb hbox hg) | ((with_reducible refine gate_callee (f := 10) rfl ?_); refine goesL_ (some 9) rfl rfl Tryd.func10 (by kernel_rfl) rfl #[] rfl (by (try simp only [List.map_toArray, List.map_cons, List.map_nil]); first | done | rfl | (simp only [List.length_drop, List.length_take]; rfl)) ?_; (with_reducible refine (antecedentlaw02_awake.calls k  true _ ?side1 A4.out).mono ?_); (case side1 => (first | (refine LaidW.below HLW.out ?_; (repeat (first | (with_reducible first | exact HB.out | apply below_alloc | apply pw_below_drewN | apply below_drew1 | refine below_set ?_ GE200.out | refine below_set ?_ GE201.out | refine below_set ?_ GE202.out) | exact HB.out)); done) | (repeat (first | exact HLW.out | apply LaidW.drewN | apply LaidW.drew | apply LaidW.alloc)))); rintro e w12 ⟨rfl, hb⟩; refine ⟨_, rfl, ?_⟩; have n0_ := Aside0.mk (blk_below (g := gb200) (o := .cells #[.int .i64 a0_0, .int .i64 a0_1, .string a0_2] 23 (0, 0)) (by (with_reducible repeat (first | refine blk_drewN ?_ _ | refine blk_drew ?_ | refine blk_alloc ?_ _)); exact BK200.out) hb); have n1_ := Aside0.mk (blk_below (g := gb201) (o := .cells #[.int .i64 a1_0, .int .i64 a1_1, .string a1_2] 23 (0, 0)) (by (with_reducible repeat (first | refine blk_drewN ?_ _ | refine blk_drew ?_ | refine blk_alloc ?_ _)); exact BK201.out) hb); have n2_ := Aside0.mk (blk_below (g := gb202) (o := .cells #[.int .i64 a2_0, .int .i64 a2_1, .string a2_2] 23 (0, 0)) (by (with_reducible repeat (first | refine blk_drewN ?_ _ | refine blk_drew ?_ | refine blk_alloc ?_ _)); exact BK202.out) hb); have n3_ := Aside0.mk (below_step (by repeat (first | (with_reducible first | exact HB.out | apply below_alloc | apply pw_below_drewN | apply below_drew1 | refine below_set ?_ GE200.out | refine below_set ?_ GE201.out | refine below_set ?_ GE202.out) | exact HB.out)) hb); clear BK200; clear BK201; clear BK202; clear HB; have BK200 := n0_; have BK201 := n1_; have BK202 := n2_; have HB := n3_; clear n0_ n1_ n2_ n3_; (try clear hb); (try clear hb2); (try clear hk); (try clear hi)))
    have n0_ := Aside0.mk (blk_drew BK200.out)
    have n1_ := Aside0.mk (blk_drew BK201.out)
    have n2_ := Aside0.mk (blk_drew BK202.out)
    have n3_ := Aside0.mk (below_drew1 HB.out)
    clear BK200
    clear BK201
    clear BK202
    clear HB
    have BK200 := n0_
    have BK201 := n1_
    have BK202 := n2_
    have HB := n3_
    clear n0_ n1_ n2_ n3_
    refine start_ (n := 8) (S := fun w' => w'.cell? ⟨gb200, 0, none⟩ = some (.int .i64 a0_0) ∧ w'.cell? ⟨gb200, 1, none⟩ = some (.int .i64 a0_1) ∧ w'.cell? ⟨gb200, 2, none⟩ = some (.string a0_2) ∧ w'.cell? ⟨gb201, 0, none⟩ = some (.int .i64 a1_0) ∧ w'.cell? ⟨gb201, 1, none⟩ = some (.int .i64 a1_1) ∧ w'.cell? ⟨gb201, 2, none⟩ = some (.string a1_2)) (ds := []) #[false, false, false, false, false, false, false, false] (by kernel_rfl) rfl rfl ⟨(blk_cell BK200.out 0).trans rfl, (blk_cell BK200.out 1).trans rfl, (blk_cell BK200.out 2).trans rfl, (blk_cell BK201.out 0).trans rfl, (blk_cell BK201.out 1).trans rfl, (blk_cell BK201.out 2).trans rfl⟩ (fun hHeld => ?_); refine with_tabW antecedentlaw02_ValueOrder.tab3 antecedentlaw02_ValueOrder.bits3 (fun HT_ HW_ => ?_)
    generalize w12.drew = w13 at BK200 BK201 BK202 HB hHeld ⊢
    refine take_ (i := 0) (N := some 11) (v := ?_) (a' := ?_) #[true, false, false, false, false, false, false, false] rfl rfl (take_ofW HT_.out HW_.out (by kernel_rfl)) (fun _ _ _ h => h) (Or.inl ⟨by rfl, ?_⟩) hHeld ?_ ?_
    rotate_left
    · rintro w' ⟨s0, s1, s2, s3, s4, s5⟩
      go_simp
      with_reducible rfl
    rotate_left
    · simp only [Act.put, List.setIfInBounds_toArray, List.set_cons_zero, List.set_cons_succ, i64_w, i32_w]
      rfl
    refine take_ (i := 1) (N := some 12) (v := ?_) (a' := ?_) #[true, true, false, false, false, false, false, false] rfl rfl (take_ofW HT_.out HW_.out (by kernel_rfl)) (fun _ _ _ h => h) (Or.inl ⟨by rfl, ?_⟩) hHeld ?_ ?_
    rotate_left
    · rintro w' ⟨s0, s1, s2, s3, s4, s5⟩
      go_simp
      with_reducible rfl
    rotate_left
    · simp only [Act.put, List.setIfInBounds_toArray, List.set_cons_zero, List.set_cons_succ, i64_w, i32_w]
      rfl
    refine take_ (i := 3) (N := some 14) (v := ?_) (a' := ?_) #[true, true, false, true, false, false, false, false] rfl rfl (take_ofW HT_.out HW_.out (by kernel_rfl)) (fun _ _ _ h => h) (Or.inl ⟨by rfl, ?_⟩) hHeld ?_ ?_
    rotate_left
    · rintro w' ⟨s0, s1, s2, s3, s4, s5⟩
      go_simp
      with_reducible rfl
    rotate_left
    · simp only [Act.put, List.setIfInBounds_toArray, List.set_cons_zero, List.set_cons_succ, i64_w, i32_w]
      rfl
    refine take_ (i := 4) (N := some 15) (v := ?_) (a' := ?_) #[true, true, false, true, true, false, false, false] rfl rfl (take_ofW HT_.out HW_.out (by kernel_rfl)) (fun _ _ _ h => h) (Or.inl ⟨by rfl, ?_⟩) hHeld ?_ ?_
    rotate_left
    · rintro w' ⟨s0, s1, s2, s3, s4, s5⟩
      go_simp
      with_reducible rfl
    rotate_left
    · simp only [Act.put, List.setIfInBounds_toArray, List.set_cons_zero, List.set_cons_succ, i64_w, i32_w]
      rfl
    refine one_ (i := 2) (N := some 13) #[true, true, true, true, true, false, false, false] rfl rfl (one_of HT_.out (by kernel_rfl)) (by decide) (fun K hK => ?_)
    refine goes_ Tryd.func15 (by kernel_rfl) rfl #[.agg #[.int .i64 a0_0, .int .i64 a0_1, .string a0_2], .agg #[.int .i64 a1_0, .int .i64 a1_1, .string a1_2]] (by rfl) rfl rfl (by (try simp only [List.map_toArray, List.map_cons, List.map_nil]); first | done | rfl | (simp only [List.length_drop, List.length_take]; rfl)) ?_
    with_reducible refine (value_Compare.calls k a0_0 a0_1 a0_2 a1_0 a1_1 a1_2 t204 _ A6.out).mono ?_
    rintro e w14 ⟨rfl, hb⟩
    refine ⟨_, rfl, ?_⟩
    have n0_ := Aside0.mk (blk_below (g := gb200) (o := .cells #[.int .i64 a0_0, .int .i64 a0_1, .string a0_2] 23 (0, 0)) (by (with_reducible repeat (first | refine blk_drewN ?_ _ | refine blk_drew ?_ | refine blk_alloc ?_ _)); exact BK200.out) hb)
    have n1_ := Aside0.mk (blk_below (g := gb201) (o := .cells #[.int .i64 a1_0, .int .i64 a1_1, .string a1_2] 23 (0, 0)) (by (with_reducible repeat (first | refine blk_drewN ?_ _ | refine blk_drew ?_ | refine blk_alloc ?_ _)); exact BK201.out) hb)
    have n2_ := Aside0.mk (blk_below (g := gb202) (o := .cells #[.int .i64 a2_0, .int .i64 a2_1, .string a2_2] 23 (0, 0)) (by (with_reducible repeat (first | refine blk_drewN ?_ _ | refine blk_drew ?_ | refine blk_alloc ?_ _)); exact BK202.out) hb)
    have n3_ := Aside0.mk (below_step (by repeat (first | (with_reducible first | exact HB.out | apply below_alloc | apply pw_below_drewN | apply below_drew1 | refine below_set ?_ GE200.out | refine below_set ?_ GE201.out | refine below_set ?_ GE202.out) | exact HB.out)) hb)
    clear BK200
    clear BK201
    clear BK202
    clear HB
    have BK200 := n0_
    have BK201 := n1_
    have BK202 := n2_
    have HB := n3_
    clear n0_ n1_ n2_ n3_
    (try clear hb)
    (try clear hb2)
    (try clear hk)
    (try clear hi)
    refine hK.out _ _ ⟨(blk_cell BK200.out 0).trans rfl, (blk_cell BK200.out 1).trans rfl, (blk_cell BK200.out 2).trans rfl, (blk_cell BK201.out 0).trans rfl, (blk_cell BK201.out 1).trans rfl, (blk_cell BK201.out 2).trans rfl⟩ (fun hHeld => ?_)
    clear hK K
    refine norm_ (a' := ?_) ?_ ?_
    rotate_left
    · show Act.put _ (some 13) _ = _
      simp only [Act.put, List.setIfInBounds_toArray, List.set_cons_zero, List.set_cons_succ, i64_w, i32_w]
      rfl
    refine one_ (i := 5) (N := some 16) #[true, true, true, true, true, true, false, false] rfl rfl (one_of HT_.out (by kernel_rfl)) (by decide) (fun K hK => ?_)
    refine goes_ Tryd.func15 (by kernel_rfl) rfl #[.agg #[.int .i64 a1_0, .int .i64 a1_1, .string a1_2], .agg #[.int .i64 a0_0, .int .i64 a0_1, .string a0_2]] (by rfl) rfl rfl (by (try simp only [List.map_toArray, List.map_cons, List.map_nil]); first | done | rfl | (simp only [List.length_drop, List.length_take]; rfl)) ?_
    with_reducible refine (value_Compare.calls k a1_0 a1_1 a1_2 a0_0 a0_1 a0_2 t205 _ A7.out).mono ?_
    rintro e w15 ⟨rfl, hb⟩
    refine ⟨_, rfl, ?_⟩
    have n0_ := Aside0.mk (blk_below (g := gb200) (o := .cells #[.int .i64 a0_0, .int .i64 a0_1, .string a0_2] 23 (0, 0)) (by (with_reducible repeat (first | refine blk_drewN ?_ _ | refine blk_drew ?_ | refine blk_alloc ?_ _)); exact BK200.out) hb)
    have n1_ := Aside0.mk (blk_below (g := gb201) (o := .cells #[.int .i64 a1_0, .int .i64 a1_1, .string a1_2] 23 (0, 0)) (by (with_reducible repeat (first | refine blk_drewN ?_ _ | refine blk_drew ?_ | refine blk_alloc ?_ _)); exact BK201.out) hb)
    have n2_ := Aside0.mk (blk_below (g := gb202) (o := .cells #[.int .i64 a2_0, .int .i64 a2_1, .string a2_2] 23 (0, 0)) (by (with_reducible repeat (first | refine blk_drewN ?_ _ | refine blk_drew ?_ | refine blk_alloc ?_ _)); exact BK202.out) hb)
    have n3_ := Aside0.mk (below_step (by repeat (first | (with_reducible first | exact HB.out | apply below_alloc | apply pw_below_drewN | apply below_drew1 | refine below_set ?_ GE200.out | refine below_set ?_ GE201.out | refine below_set ?_ GE202.out) | exact HB.out)) hb)
    clear BK200
    clear BK201
    clear BK202
    clear HB
    have BK200 := n0_
    have BK201 := n1_
    have BK202 := n2_
    have HB := n3_
    clear n0_ n1_ n2_ n3_
    (try clear hb)
    (try clear hb2)
    (try clear hk)
    (try clear hi)
    refine hK.out _ _ ⟨(blk_cell BK200.out 0).trans rfl, (blk_cell BK200.out 1).trans rfl, (blk_cell BK200.out 2).trans rfl, (blk_cell BK201.out 0).trans rfl, (blk_cell BK201.out 1).trans rfl, (blk_cell BK201.out 2).trans rfl⟩ (fun hHeld => ?_)
    clear hK K
    refine norm_ (a' := ?_) ?_ ?_
    rotate_left
    · show Act.put _ (some 16) _ = _
      simp only [Act.put, List.setIfInBounds_toArray, List.set_cons_zero, List.set_cons_succ, i64_w, i32_w]
      rfl
    refine pure_ (i := 6) (N := some 7) (v := ?_) (a' := ?_) #[true, true, true, true, true, true, true, false] rfl rfl (any_of HT_.out (by kernel_rfl)) (fun _ _ _ h => h) (Or.inl ⟨by rfl, ?_⟩) ?_ ?_
    rotate_left
    · intro w'
      go_simp
      with_reducible rfl
    rotate_left
    · simp only [Act.put, List.setIfInBounds_toArray, List.set_cons_zero, List.set_cons_succ, i64_w, i32_w]
      rfl
    refine pure_ (i := 7) (N := some 8) (v := ?_) (a' := ?_) #[true, true, true, true, true, true, true, true] rfl rfl (any_of HT_.out (by kernel_rfl)) (fun _ _ _ h => h) (Or.inl ⟨by rfl, ?_⟩) ?_ ?_
    rotate_left
    · intro w'
      go_simp
      with_reducible rfl
    rotate_left
    · simp only [Act.put, List.setIfInBounds_toArray, List.set_cons_zero, List.set_cons_succ, i64_w, i32_w]
      rfl
    refine done_ (done_of HT_.out (by kernel_rfl)) ?_
    go_upto_region 4 with (fail)
    go_cut [36] (fun v36 wc => ∃ (kq : Nat) (x36_7 : Bool), v36 = .bool x36_7 ∧ Aside0 (antecedentlaw02_ValueOrder.j0 kq t204 x36_7 a0_0 a0_1 a0_2 a1_0 a1_1 a1_2 a2_0 a2_1 a2_2 = some r) ∧ Aside0 (kq ≤ k) ∧ Aside0 (wc.heap[gb200]? = some (.cells #[.int .i64 a0_0, .int .i64 a0_1, .string a0_2] 23 (0, 0))) ∧ Aside0 (wc.heap[gb201]? = some (.cells #[.int .i64 a1_0, .int .i64 a1_1, .string a1_2] 23 (0, 0))) ∧ Aside0 (wc.heap[gb202]? = some (.cells #[.int .i64 a2_0, .int .i64 a2_1, .string a2_2] 23 (0, 0))) ∧ Aside0 (Below w.heap.size w wc))
    case first =>
      have H := HC8.out
      clear HC8
      by_cases c16 : t204 = (wrap64 (-t205))
      · rw [if_pos c16] at H
        have c16b0 : (t204 == (wrap64 (-t205))) = true := beq_iff_eq.mpr c16
        have c16b1 : (t204 != (wrap64 (-t205))) = false := bne_eq_false_iff_eq.mpr c16
        clear c16
        (first | rw [c16b0] | (simp only [i64_w, i32_w]; rw [c16b0]) | skip)
        by_cases c17 : t204 < (-1)
        · rw [if_pos c17] at H
          have c17b0 : decide (t204 < (-1)) = true := decide_eq_true c17
          clear c17
          have H' := Aside0.mk H
          clear H
          go_wp2
          go_meet
          case rel => exact ⟨_, (true), (by first | rfl | (simp; done) | (simp [*]; done)), H', ⟨by first | omega | exact Nat.le_refl _⟩, ⟨by (with_reducible repeat (first | refine blk_drewN ?_ _ | refine blk_drew ?_ | refine blk_alloc ?_ _)); exact BK200.out⟩, ⟨by (with_reducible repeat (first | refine blk_drewN ?_ _ | refine blk_drew ?_ | refine blk_alloc ?_ _)); exact BK201.out⟩, ⟨by (with_reducible repeat (first | refine blk_drewN ?_ _ | refine blk_drew ?_ | refine blk_alloc ?_ _)); exact BK202.out⟩, ⟨by repeat (first | (with_reducible first | exact HB.out | apply below_alloc | apply pw_below_drewN | apply below_drew1 | refine below_set ?_ GE200.out | refine below_set ?_ GE201.out | refine below_set ?_ GE202.out) | exact HB.out)⟩⟩
        · rw [if_neg c17] at H
          have c17b0 : decide (t204 < (-1)) = false := decide_eq_false c17
          clear c17
          by_cases c18 : t204 > 1
          · rw [if_pos c18] at H
            have c18b0 : decide (1 < t204) = true := decide_eq_true c18
            clear c18
            have H' := Aside0.mk H
            clear H
            go_wp2
            go_meet
            case rel => exact ⟨_, (true), (by first | rfl | (simp; done) | (simp [*]; done)), H', ⟨by first | omega | exact Nat.le_refl _⟩, ⟨by (with_reducible repeat (first | refine blk_drewN ?_ _ | refine blk_drew ?_ | refine blk_alloc ?_ _)); exact BK200.out⟩, ⟨by (with_reducible repeat (first | refine blk_drewN ?_ _ | refine blk_drew ?_ | refine blk_alloc ?_ _)); exact BK201.out⟩, ⟨by (with_reducible repeat (first | refine blk_drewN ?_ _ | refine blk_drew ?_ | refine blk_alloc ?_ _)); exact BK202.out⟩, ⟨by repeat (first | (with_reducible first | exact HB.out | apply below_alloc | apply pw_below_drewN | apply below_drew1 | refine below_set ?_ GE200.out | refine below_set ?_ GE201.out | refine below_set ?_ GE202.out) | exact HB.out)⟩⟩
          · rw [if_neg c18] at H
            have c18b0 : decide (1 < t204) = false := decide_eq_false c18
            clear c18
            have H' := Aside0.mk H
            clear H
            have hnb19 := NB200_201.out
            have hnc19 := NB201_200.out
            have hnb20 := NB200_202.out
            have hnc20 := NB202_200.out
            have hcz21_0 : w15.cell? ⟨gb200, 0, none⟩ = some (.int .i64 a0_0) := (blk_cell BK200.out 0).trans rfl
            have hcz21_1 : w15.cell? ⟨gb200, 1, none⟩ = some (.int .i64 a0_1) := (blk_cell BK200.out 1).trans rfl
            have hcz21_2 : w15.cell? ⟨gb200, 2, none⟩ = some (.string a0_2) := (blk_cell BK200.out 2).trans rfl
            have hfz21_0 := blk_frozen BK200.out 0
            have hfz21_1 := blk_frozen BK200.out 1
            have hfz21_2 := blk_frozen BK200.out 2
            have hnb22 := NB201_202.out
            have hnc22 := NB202_201.out
            have hcz23_0 : w15.cell? ⟨gb201, 0, none⟩ = some (.int .i64 a1_0) := (blk_cell BK201.out 0).trans rfl
            have hcz23_1 : w15.cell? ⟨gb201, 1, none⟩ = some (.int .i64 a1_1) := (blk_cell BK201.out 1).trans rfl
            have hcz23_2 : w15.cell? ⟨gb201, 2, none⟩ = some (.string a1_2) := (blk_cell BK201.out 2).trans rfl
            have hfz23_0 := blk_frozen BK201.out 0
            have hfz23_1 := blk_frozen BK201.out 1
            have hfz23_2 := blk_frozen BK201.out 2
            go_wp2
            go_meet
            case rel => exact ⟨_, (((t204 == 0) != (a0_0 == a1_0 && (a0_1 == a1_1 && (a0_2.toList == a1_2.toList))))), (by first | rfl | (simp; done) | (simp [*]; done)), H', ⟨by first | omega | exact Nat.le_refl _⟩, ⟨by (with_reducible repeat (first | refine blk_drewN ?_ _ | refine blk_drew ?_ | refine blk_alloc ?_ _)); exact BK200.out⟩, ⟨by (with_reducible repeat (first | refine blk_drewN ?_ _ | refine blk_drew ?_ | refine blk_alloc ?_ _)); exact BK201.out⟩, ⟨by (with_reducible repeat (first | refine blk_drewN ?_ _ | refine blk_drew ?_ | refine blk_alloc ?_ _)); exact BK202.out⟩, ⟨by repeat (first | (with_reducible first | exact HB.out | apply below_alloc | apply pw_below_drewN | apply below_drew1 | refine below_set ?_ GE200.out | refine below_set ?_ GE201.out | refine below_set ?_ GE202.out) | exact HB.out)⟩⟩
      · rw [if_neg c16] at H
        have c16b0 : (t204 == (wrap64 (-t205))) = false := beq_eq_false_iff_ne.mpr c16
        have c16b1 : (t204 != (wrap64 (-t205))) = true := bne_iff_ne.mpr c16
        (first | rw [c16b0] | (simp only [i64_w, i32_w]; rw [c16b0]) | skip)
        have H' := Aside0.mk H
        clear H
        go_wp2
        go_meet
        case rel => exact ⟨_, (true), (by first | rfl | (simp; done) | (simp [*]; done)), H', ⟨by first | omega | exact Nat.le_refl _⟩, ⟨by (with_reducible repeat (first | refine blk_drewN ?_ _ | refine blk_drew ?_ | refine blk_alloc ?_ _)); exact BK200.out⟩, ⟨by (with_reducible repeat (first | refine blk_drewN ?_ _ | refine blk_drew ?_ | refine blk_alloc ?_ _)); exact BK201.out⟩, ⟨by (with_reducible repeat (first | refine blk_drewN ?_ _ | refine blk_drew ?_ | refine blk_alloc ?_ _)); exact BK202.out⟩, ⟨by repeat (first | (with_reducible first | exact HB.out | apply below_alloc | apply pw_below_drewN | apply below_drew1 | refine below_set ?_ GE200.out | refine below_set ?_ GE201.out | refine below_set ?_ GE202.out) | exact HB.out)⟩⟩
    case rest =>
      clear HC8
      try clear c1
      try clear c2
      try clear p2
      try clear c5
      try clear c6
      try clear p6
      try clear c10
      try clear c15
      try clear c16
      try clear c16b0
      try clear c16b1
      try clear c17
      try clear c17b0
      try clear c18
      try clear c18b0
      try clear c19
      try clear c20
      try clear c22
      try clear hcz21_0
      try clear hcz21_1
      try clear hcz21_2
      try clear hcz23_0
      try clear hcz23_1
      try clear hcz23_2
      try clear hfz21_0
      try clear hfz21_1
      try clear hfz21_2
      try clear hfz23_0
      try clear hfz23_1
      try clear hfz23_2
      obtain ⟨kq, x36_7, rfl, HA, HJ7, BK200, BK201, BK202, HB⟩ := hcut
      cases kq with
      | zero => exact absurd HA.out (by simp [antecedentlaw02_ValueOrder.j0])
      | succ kj7 =>
        have H := HA.out
        clear HA
        simp only [antecedentlaw02_ValueOrder.j0] at H
        by_cases c24 : x36_7 = true
        · subst c24
          have H1 : (some false) = some r := by rw [if_pos rfl] at H; exact H
          clear H
          have H := H1
          clear H1
          obtain rfl := Option.some.inj H
          go_wp2
          go_ret
          exact ⟨by first | rfl | (simp [errW_none, errW_some] <;> rfl) | (simp [*, errW_none, errW_some] <;> rfl), by repeat (first | (with_reducible first | exact HB.out | apply below_alloc | apply pw_below_drewN | apply below_drew1 | refine below_set ?_ GE200.out | refine below_set ?_ GE201.out | refine below_set ?_ GE202.out) | exact HB.out)⟩
        · replace c24 := Bool.eq_false_iff.mpr c24
          subst c24
          have H1 : (if a0_0 < a1_0 then (if t204 = (-1) then (if a0_0 = a1_0 then (if a0_1 < a1_1 then (antecedentlaw02_ValueOrder.j1 kj7 t204 (t204 != (-1)) a0_0 a0_1 a0_2 a1_0 a1_1 a1_2 a2_0 a2_1 a2_2) else (antecedentlaw02_ValueOrder.j1 kj7 t204 false a0_0 a0_1 a0_2 a1_0 a1_1 a1_2 a2_0 a2_1 a2_2)) else (antecedentlaw02_ValueOrder.j1 kj7 t204 false a0_0 a0_1 a0_2 a1_0 a1_1 a1_2 a2_0 a2_1 a2_2)) else (antecedentlaw02_ValueOrder.j1 kj7 t204 true a0_0 a0_1 a0_2 a1_0 a1_1 a1_2 a2_0 a2_1 a2_2)) else (if a0_0 = a1_0 then (if a0_1 < a1_1 then (antecedentlaw02_ValueOrder.j1 kj7 t204 (t204 != (-1)) a0_0 a0_1 a0_2 a1_0 a1_1 a1_2 a2_0 a2_1 a2_2) else (antecedentlaw02_ValueOrder.j1 kj7 t204 false a0_0 a0_1 a0_2 a1_0 a1_1 a1_2 a2_0 a2_1 a2_2)) else (antecedentlaw02_ValueOrder.j1 kj7 t204 false a0_0 a0_1 a0_2 a1_0 a1_1 a1_2 a2_0 a2_1 a2_2))) = some r := by rw [if_neg (show ¬ (false = true) by decide)] at H; exact H
          clear H
          have H := H1
          clear H1
          have HC25 := Aside0.mk H
          clear H
          go_upto_region 6 with (fail)
          go_cut [63] (fun v63 wc => ∃ (kq : Nat) (x63_24 : Bool), v63 = .bool x63_24 ∧ Aside0 (antecedentlaw02_ValueOrder.j1 kq t204 x63_24 a0_0 a0_1 a0_2 a1_0 a1_1 a1_2 a2_0 a2_1 a2_2 = some r) ∧ Aside0 (kq ≤ kj7) ∧ Aside0 (wc.heap[gb200]? = some (.cells #[.int .i64 a0_0, .int .i64 a0_1, .string a0_2] 23 (0, 0))) ∧ Aside0 (wc.heap[gb201]? = some (.cells #[.int .i64 a1_0, .int .i64 a1_1, .string a1_2] 23 (0, 0))) ∧ Aside0 (wc.heap[gb202]? = some (.cells #[.int .i64 a2_0, .int .i64 a2_1, .string a2_2] 23 (0, 0))) ∧ Aside0 (Below w.heap.size w wc))
          case first =>
            have H := HC25.out
            clear HC25
            by_cases c26 : a0_0 < a1_0
            · rw [if_pos c26] at H
              have c26b0 : decide (a0_0 < a1_0) = true := decide_eq_true c26
              clear c26
              (first | rw [c26b0] | (simp only [i64_w, i32_w]; rw [c26b0]) | skip)
              by_cases c27 : t204 = (-1)
              · rw [if_pos c27] at H
                have c27b0 : (t204 == (-1)) = true := beq_iff_eq.mpr c27
                have c27b1 : (t204 != (-1)) = false := bne_eq_false_iff_eq.mpr c27
                clear c27
                by_cases c28 : a0_0 = a1_0
                · rw [if_pos c28] at H
                  have c28b0 : (a0_0 == a1_0) = true := beq_iff_eq.mpr c28
                  have c28b1 : (a0_0 != a1_0) = false := bne_eq_false_iff_eq.mpr c28
                  clear c28
                  by_cases c29 : a0_1 < a1_1
                  · rw [if_pos c29] at H
                    have c29b0 : decide (a0_1 < a1_1) = true := decide_eq_true c29
                    clear c29
                    have H' := Aside0.mk H
                    clear H
                    have hnb30 := NB200_201.out
                    have hnc30 := NB201_200.out
                    have hnb31 := NB200_202.out
                    have hnc31 := NB202_200.out
                    have hcz32_0 : wc.cell? ⟨gb200, 0, none⟩ = some (.int .i64 a0_0) := (blk_cell BK200.out 0).trans rfl
                    have hcz32_1 : wc.cell? ⟨gb200, 1, none⟩ = some (.int .i64 a0_1) := (blk_cell BK200.out 1).trans rfl
                    have hcz32_2 : wc.cell? ⟨gb200, 2, none⟩ = some (.string a0_2) := (blk_cell BK200.out 2).trans rfl
                    have hfz32_0 := blk_frozen BK200.out 0
                    have hfz32_1 := blk_frozen BK200.out 1
                    have hfz32_2 := blk_frozen BK200.out 2
                    have hnb33 := NB201_202.out
                    have hnc33 := NB202_201.out
                    have hcz34_0 : wc.cell? ⟨gb201, 0, none⟩ = some (.int .i64 a1_0) := (blk_cell BK201.out 0).trans rfl
                    have hcz34_1 : wc.cell? ⟨gb201, 1, none⟩ = some (.int .i64 a1_1) := (blk_cell BK201.out 1).trans rfl
                    have hcz34_2 : wc.cell? ⟨gb201, 2, none⟩ = some (.string a1_2) := (blk_cell BK201.out 2).trans rfl
                    have hfz34_0 := blk_frozen BK201.out 0
                    have hfz34_1 := blk_frozen BK201.out 1
                    have hfz34_2 := blk_frozen BK201.out 2
                    go_wp2
                    go_meet
                    case rel => exact ⟨_, ((t204 != (-1))), (by first | rfl | (simp; done) | (simp [*]; done)), H', ⟨by have := HJ7.out; first | omega | exact Nat.le_refl _⟩, ⟨by (with_reducible repeat (first | refine blk_drewN ?_ _ | refine blk_drew ?_ | refine blk_alloc ?_ _)); exact BK200.out⟩, ⟨by (with_reducible repeat (first | refine blk_drewN ?_ _ | refine blk_drew ?_ | refine blk_alloc ?_ _)); exact BK201.out⟩, ⟨by (with_reducible repeat (first | refine blk_drewN ?_ _ | refine blk_drew ?_ | refine blk_alloc ?_ _)); exact BK202.out⟩, ⟨by repeat (first | (with_reducible first | exact HB.out | apply below_alloc | apply pw_below_drewN | apply below_drew1 | refine below_set ?_ GE200.out | refine below_set ?_ GE201.out | refine below_set ?_ GE202.out) | exact HB.out)⟩⟩
                  · rw [if_neg c29] at H
                    have c29b0 : decide (a0_1 < a1_1) = false := decide_eq_false c29
                    clear c29
                    have H' := Aside0.mk H
                    clear H
                    have hnb35 := NB200_201.out
                    have hnc35 := NB201_200.out
                    have hnb36 := NB200_202.out
                    have hnc36 := NB202_200.out
                    have hcz37_0 : wc.cell? ⟨gb200, 0, none⟩ = some (.int .i64 a0_0) := (blk_cell BK200.out 0).trans rfl
                    have hcz37_1 : wc.cell? ⟨gb200, 1, none⟩ = some (.int .i64 a0_1) := (blk_cell BK200.out 1).trans rfl
                    have hcz37_2 : wc.cell? ⟨gb200, 2, none⟩ = some (.string a0_2) := (blk_cell BK200.out 2).trans rfl
                    have hfz37_0 := blk_frozen BK200.out 0
                    have hfz37_1 := blk_frozen BK200.out 1
                    have hfz37_2 := blk_frozen BK200.out 2
                    have hnb38 := NB201_202.out
                    have hnc38 := NB202_201.out
                    have hcz39_0 : wc.cell? ⟨gb201, 0, none⟩ = some (.int .i64 a1_0) := (blk_cell BK201.out 0).trans rfl
                    have hcz39_1 : wc.cell? ⟨gb201, 1, none⟩ = some (.int .i64 a1_1) := (blk_cell BK201.out 1).trans rfl
                    have hcz39_2 : wc.cell? ⟨gb201, 2, none⟩ = some (.string a1_2) := (blk_cell BK201.out 2).trans rfl
                    have hfz39_0 := blk_frozen BK201.out 0
                    have hfz39_1 := blk_frozen BK201.out 1
                    have hfz39_2 := blk_frozen BK201.out 2
                    go_wp2
                    go_meet
                    case rel => exact ⟨_, (false), (by first | rfl | (simp; done) | (simp [*]; done)), H', ⟨by have := HJ7.out; first | omega | exact Nat.le_refl _⟩, ⟨by (with_reducible repeat (first | refine blk_drewN ?_ _ | refine blk_drew ?_ | refine blk_alloc ?_ _)); exact BK200.out⟩, ⟨by (with_reducible repeat (first | refine blk_drewN ?_ _ | refine blk_drew ?_ | refine blk_alloc ?_ _)); exact BK201.out⟩, ⟨by (with_reducible repeat (first | refine blk_drewN ?_ _ | refine blk_drew ?_ | refine blk_alloc ?_ _)); exact BK202.out⟩, ⟨by repeat (first | (with_reducible first | exact HB.out | apply below_alloc | apply pw_below_drewN | apply below_drew1 | refine below_set ?_ GE200.out | refine below_set ?_ GE201.out | refine below_set ?_ GE202.out) | exact HB.out)⟩⟩
                · rw [if_neg c28] at H
                  have c28b0 : (a0_0 == a1_0) = false := beq_eq_false_iff_ne.mpr c28
                  have c28b1 : (a0_0 != a1_0) = true := bne_iff_ne.mpr c28
                  have H' := Aside0.mk H
                  clear H
                  have hnb40 := NB200_201.out
                  have hnc40 := NB201_200.out
                  have hnb41 := NB200_202.out
                  have hnc41 := NB202_200.out
                  have hcz42_0 : wc.cell? ⟨gb200, 0, none⟩ = some (.int .i64 a0_0) := (blk_cell BK200.out 0).trans rfl
                  have hcz42_1 : wc.cell? ⟨gb200, 1, none⟩ = some (.int .i64 a0_1) := (blk_cell BK200.out 1).trans rfl
                  have hcz42_2 : wc.cell? ⟨gb200, 2, none⟩ = some (.string a0_2) := (blk_cell BK200.out 2).trans rfl
                  have hfz42_0 := blk_frozen BK200.out 0
                  have hfz42_1 := blk_frozen BK200.out 1
                  have hfz42_2 := blk_frozen BK200.out 2
                  have hnb43 := NB201_202.out
                  have hnc43 := NB202_201.out
                  have hcz44_0 : wc.cell? ⟨gb201, 0, none⟩ = some (.int .i64 a1_0) := (blk_cell BK201.out 0).trans rfl
                  have hcz44_1 : wc.cell? ⟨gb201, 1, none⟩ = some (.int .i64 a1_1) := (blk_cell BK201.out 1).trans rfl
                  have hcz44_2 : wc.cell? ⟨gb201, 2, none⟩ = some (.string a1_2) := (blk_cell BK201.out 2).trans rfl
                  have hfz44_0 := blk_frozen BK201.out 0
                  have hfz44_1 := blk_frozen BK201.out 1
                  have hfz44_2 := blk_frozen BK201.out 2
                  go_wp2
                  go_meet
                  case rel => exact ⟨_, (false), (by first | rfl | (simp; done) | (simp [*]; done)), H', ⟨by have := HJ7.out; first | omega | exact Nat.le_refl _⟩, ⟨by (with_reducible repeat (first | refine blk_drewN ?_ _ | refine blk_drew ?_ | refine blk_alloc ?_ _)); exact BK200.out⟩, ⟨by (with_reducible repeat (first | refine blk_drewN ?_ _ | refine blk_drew ?_ | refine blk_alloc ?_ _)); exact BK201.out⟩, ⟨by (with_reducible repeat (first | refine blk_drewN ?_ _ | refine blk_drew ?_ | refine blk_alloc ?_ _)); exact BK202.out⟩, ⟨by repeat (first | (with_reducible first | exact HB.out | apply below_alloc | apply pw_below_drewN | apply below_drew1 | refine below_set ?_ GE200.out | refine below_set ?_ GE201.out | refine below_set ?_ GE202.out) | exact HB.out)⟩⟩
              · rw [if_neg c27] at H
                have c27b0 : (t204 == (-1)) = false := beq_eq_false_iff_ne.mpr c27
                have c27b1 : (t204 != (-1)) = true := bne_iff_ne.mpr c27
                have H' := Aside0.mk H
                clear H
                have hnb45 := NB200_201.out
                have hnc45 := NB201_200.out
                have hnb46 := NB200_202.out
                have hnc46 := NB202_200.out
                have hcz47_0 : wc.cell? ⟨gb200, 0, none⟩ = some (.int .i64 a0_0) := (blk_cell BK200.out 0).trans rfl
                have hcz47_1 : wc.cell? ⟨gb200, 1, none⟩ = some (.int .i64 a0_1) := (blk_cell BK200.out 1).trans rfl
                have hcz47_2 : wc.cell? ⟨gb200, 2, none⟩ = some (.string a0_2) := (blk_cell BK200.out 2).trans rfl
                have hfz47_0 := blk_frozen BK200.out 0
                have hfz47_1 := blk_frozen BK200.out 1
                have hfz47_2 := blk_frozen BK200.out 2
                have hnb48 := NB201_202.out
                have hnc48 := NB202_201.out
                have hcz49_0 : wc.cell? ⟨gb201, 0, none⟩ = some (.int .i64 a1_0) := (blk_cell BK201.out 0).trans rfl
                have hcz49_1 : wc.cell? ⟨gb201, 1, none⟩ = some (.int .i64 a1_1) := (blk_cell BK201.out 1).trans rfl
                have hcz49_2 : wc.cell? ⟨gb201, 2, none⟩ = some (.string a1_2) := (blk_cell BK201.out 2).trans rfl
                have hfz49_0 := blk_frozen BK201.out 0
                have hfz49_1 := blk_frozen BK201.out 1
                have hfz49_2 := blk_frozen BK201.out 2
                go_wp2
                go_meet
                case rel => exact ⟨_, (true), (by first | rfl | (simp; done) | (simp [*]; done)), H', ⟨by have := HJ7.out; first | omega | exact Nat.le_refl _⟩, ⟨by (with_reducible repeat (first | refine blk_drewN ?_ _ | refine blk_drew ?_ | refine blk_alloc ?_ _)); exact BK200.out⟩, ⟨by (with_reducible repeat (first | refine blk_drewN ?_ _ | refine blk_drew ?_ | refine blk_alloc ?_ _)); exact BK201.out⟩, ⟨by (with_reducible repeat (first | refine blk_drewN ?_ _ | refine blk_drew ?_ | refine blk_alloc ?_ _)); exact BK202.out⟩, ⟨by repeat (first | (with_reducible first | exact HB.out | apply below_alloc | apply pw_below_drewN | apply below_drew1 | refine below_set ?_ GE200.out | refine below_set ?_ GE201.out | refine below_set ?_ GE202.out) | exact HB.out)⟩⟩
            · rw [if_neg c26] at H
              have c26b0 : decide (a0_0 < a1_0) = false := decide_eq_false c26
              clear c26
              (first | rw [c26b0] | (simp only [i64_w, i32_w]; rw [c26b0]) | skip)
              by_cases c50 : a0_0 = a1_0
              · rw [if_pos c50] at H
                have c50b0 : (a0_0 == a1_0) = true := beq_iff_eq.mpr c50
                have c50b1 : (a0_0 != a1_0) = false := bne_eq_false_iff_eq.mpr c50
                clear c50
                by_cases c51 : a0_1 < a1_1
                · rw [if_pos c51] at H
                  have c51b0 : decide (a0_1 < a1_1) = true := decide_eq_true c51
                  clear c51
                  have H' := Aside0.mk H
                  clear H
                  have hnb52 := NB200_201.out
                  have hnc52 := NB201_200.out
                  have hnb53 := NB200_202.out
                  have hnc53 := NB202_200.out
                  have hcz54_0 : wc.cell? ⟨gb200, 0, none⟩ = some (.int .i64 a0_0) := (blk_cell BK200.out 0).trans rfl
                  have hcz54_1 : wc.cell? ⟨gb200, 1, none⟩ = some (.int .i64 a0_1) := (blk_cell BK200.out 1).trans rfl
                  have hcz54_2 : wc.cell? ⟨gb200, 2, none⟩ = some (.string a0_2) := (blk_cell BK200.out 2).trans rfl
                  have hfz54_0 := blk_frozen BK200.out 0
                  have hfz54_1 := blk_frozen BK200.out 1
                  have hfz54_2 := blk_frozen BK200.out 2
                  have hnb55 := NB201_202.out
                  have hnc55 := NB202_201.out
                  have hcz56_0 : wc.cell? ⟨gb201, 0, none⟩ = some (.int .i64 a1_0) := (blk_cell BK201.out 0).trans rfl
                  have hcz56_1 : wc.cell? ⟨gb201, 1, none⟩ = some (.int .i64 a1_1) := (blk_cell BK201.out 1).trans rfl
                  have hcz56_2 : wc.cell? ⟨gb201, 2, none⟩ = some (.string a1_2) := (blk_cell BK201.out 2).trans rfl
                  have hfz56_0 := blk_frozen BK201.out 0
                  have hfz56_1 := blk_frozen BK201.out 1
                  have hfz56_2 := blk_frozen BK201.out 2
                  go_wp2
                  go_meet
                  case rel => exact ⟨_, ((t204 != (-1))), (by first | rfl | (simp; done) | (simp [*]; done)), H', ⟨by have := HJ7.out; first | omega | exact Nat.le_refl _⟩, ⟨by (with_reducible repeat (first | refine blk_drewN ?_ _ | refine blk_drew ?_ | refine blk_alloc ?_ _)); exact BK200.out⟩, ⟨by (with_reducible repeat (first | refine blk_drewN ?_ _ | refine blk_drew ?_ | refine blk_alloc ?_ _)); exact BK201.out⟩, ⟨by (with_reducible repeat (first | refine blk_drewN ?_ _ | refine blk_drew ?_ | refine blk_alloc ?_ _)); exact BK202.out⟩, ⟨by repeat (first | (with_reducible first | exact HB.out | apply below_alloc | apply pw_below_drewN | apply below_drew1 | refine below_set ?_ GE200.out | refine below_set ?_ GE201.out | refine below_set ?_ GE202.out) | exact HB.out)⟩⟩
                · rw [if_neg c51] at H
                  have c51b0 : decide (a0_1 < a1_1) = false := decide_eq_false c51
                  clear c51
                  have H' := Aside0.mk H
                  clear H
                  have hnb57 := NB200_201.out
                  have hnc57 := NB201_200.out
                  have hnb58 := NB200_202.out
                  have hnc58 := NB202_200.out
                  have hcz59_0 : wc.cell? ⟨gb200, 0, none⟩ = some (.int .i64 a0_0) := (blk_cell BK200.out 0).trans rfl
                  have hcz59_1 : wc.cell? ⟨gb200, 1, none⟩ = some (.int .i64 a0_1) := (blk_cell BK200.out 1).trans rfl
                  have hcz59_2 : wc.cell? ⟨gb200, 2, none⟩ = some (.string a0_2) := (blk_cell BK200.out 2).trans rfl
                  have hfz59_0 := blk_frozen BK200.out 0
                  have hfz59_1 := blk_frozen BK200.out 1
                  have hfz59_2 := blk_frozen BK200.out 2
                  have hnb60 := NB201_202.out
                  have hnc60 := NB202_201.out
                  have hcz61_0 : wc.cell? ⟨gb201, 0, none⟩ = some (.int .i64 a1_0) := (blk_cell BK201.out 0).trans rfl
                  have hcz61_1 : wc.cell? ⟨gb201, 1, none⟩ = some (.int .i64 a1_1) := (blk_cell BK201.out 1).trans rfl
                  have hcz61_2 : wc.cell? ⟨gb201, 2, none⟩ = some (.string a1_2) := (blk_cell BK201.out 2).trans rfl
                  have hfz61_0 := blk_frozen BK201.out 0
                  have hfz61_1 := blk_frozen BK201.out 1
                  have hfz61_2 := blk_frozen BK201.out 2
                  go_wp2
                  go_meet
                  case rel => exact ⟨_, (false), (by first | rfl | (simp; done) | (simp [*]; done)), H', ⟨by have := HJ7.out; first | omega | exact Nat.le_refl _⟩, ⟨by (with_reducible repeat (first | refine blk_drewN ?_ _ | refine blk_drew ?_ | refine blk_alloc ?_ _)); exact BK200.out⟩, ⟨by (with_reducible repeat (first | refine blk_drewN ?_ _ | refine blk_drew ?_ | refine blk_alloc ?_ _)); exact BK201.out⟩, ⟨by (with_reducible repeat (first | refine blk_drewN ?_ _ | refine blk_drew ?_ | refine blk_alloc ?_ _)); exact BK202.out⟩, ⟨by repeat (first | (with_reducible first | exact HB.out | apply below_alloc | apply pw_below_drewN | apply below_drew1 | refine below_set ?_ GE200.out | refine below_set ?_ GE201.out | refine below_set ?_ GE202.out) | exact HB.out)⟩⟩
              · rw [if_neg c50] at H
                have c50b0 : (a0_0 == a1_0) = false := beq_eq_false_iff_ne.mpr c50
                have c50b1 : (a0_0 != a1_0) = true := bne_iff_ne.mpr c50
                have H' := Aside0.mk H
                clear H
                have hnb62 := NB200_201.out
                have hnc62 := NB201_200.out
                have hnb63 := NB200_202.out
                have hnc63 := NB202_200.out
                have hcz64_0 : wc.cell? ⟨gb200, 0, none⟩ = some (.int .i64 a0_0) := (blk_cell BK200.out 0).trans rfl
                have hcz64_1 : wc.cell? ⟨gb200, 1, none⟩ = some (.int .i64 a0_1) := (blk_cell BK200.out 1).trans rfl
                have hcz64_2 : wc.cell? ⟨gb200, 2, none⟩ = some (.string a0_2) := (blk_cell BK200.out 2).trans rfl
                have hfz64_0 := blk_frozen BK200.out 0
                have hfz64_1 := blk_frozen BK200.out 1
                have hfz64_2 := blk_frozen BK200.out 2
                have hnb65 := NB201_202.out
                have hnc65 := NB202_201.out
                have hcz66_0 : wc.cell? ⟨gb201, 0, none⟩ = some (.int .i64 a1_0) := (blk_cell BK201.out 0).trans rfl
                have hcz66_1 : wc.cell? ⟨gb201, 1, none⟩ = some (.int .i64 a1_1) := (blk_cell BK201.out 1).trans rfl
                have hcz66_2 : wc.cell? ⟨gb201, 2, none⟩ = some (.string a1_2) := (blk_cell BK201.out 2).trans rfl
                have hfz66_0 := blk_frozen BK201.out 0
                have hfz66_1 := blk_frozen BK201.out 1
                have hfz66_2 := blk_frozen BK201.out 2
                go_wp2
                go_meet
                case rel => exact ⟨_, (false), (by first | rfl | (simp; done) | (simp [*]; done)), H', ⟨by have := HJ7.out; first | omega | exact Nat.le_refl _⟩, ⟨by (with_reducible repeat (first | refine blk_drewN ?_ _ | refine blk_drew ?_ | refine blk_alloc ?_ _)); exact BK200.out⟩, ⟨by (with_reducible repeat (first | refine blk_drewN ?_ _ | refine blk_drew ?_ | refine blk_alloc ?_ _)); exact BK201.out⟩, ⟨by (with_reducible repeat (first | refine blk_drewN ?_ _ | refine blk_drew ?_ | refine blk_alloc ?_ _)); exact BK202.out⟩, ⟨by repeat (first | (with_reducible first | exact HB.out | apply below_alloc | apply pw_below_drewN | apply below_drew1 | refine below_set ?_ GE200.out | refine below_set ?_ GE201.out | refine below_set ?_ GE202.out) | exact HB.out)⟩⟩
          case rest =>
            clear HC25
            try clear c1
            try clear c2
            try clear p2
            try clear c3
            try clear c4
            try clear c5
            try clear c6
            try clear p6
            try clear c10
            try clear c15
            try clear c16
            try clear c16b0
            try clear c16b1
            try clear c17
            try clear c17b0
            try clear c18
            try clear c18b0
            try clear c19
            try clear c20
            try clear c22
            try clear c24
            try clear c26
            try clear c26b0
            try clear c27
            try clear c27b0
            try clear c27b1
            try clear c28
            try clear c28b0
            try clear c28b1
            try clear c29
            try clear c29b0
            try clear c30
            try clear c31
            try clear c33
            try clear c35
            try clear c36
            try clear c38
            try clear c40
            try clear c41
            try clear c43
            try clear c45
            try clear c46
            try clear c48
            try clear c50
            try clear c50b0
            try clear c50b1
            try clear c51
            try clear c51b0
            try clear c52
            try clear c53
            try clear c55
            try clear c57
            try clear c58
            try clear c60
            try clear c62
            try clear c63
            try clear p64
            try clear c65
            try clear hcz21_0
            try clear hcz21_1
            try clear hcz21_2
            try clear hcz23_0
            try clear hcz23_1
            try clear hcz23_2
            try clear hcz32_0
            try clear hcz32_1
            try clear hcz32_2
            try clear hcz34_0
            try clear hcz34_1
            try clear hcz34_2
            try clear hcz37_0
            try clear hcz37_1
            try clear hcz37_2
            try clear hcz39_0
            try clear hcz39_1
            try clear hcz39_2
            try clear hcz42_0
            try clear hcz42_1
            try clear hcz42_2
            try clear hcz44_0
            try clear hcz44_1
            try clear hcz44_2
            try clear hcz47_0
            try clear hcz47_1
            try clear hcz47_2
            try clear hcz49_0
            try clear hcz49_1
            try clear hcz49_2
            try clear hcz54_0
            try clear hcz54_1
            try clear hcz54_2
            try clear hcz56_0
            try clear hcz56_1
            try clear hcz56_2
            try clear hcz59_0
            try clear hcz59_1
            try clear hcz59_2
            try clear hcz61_0
            try clear hcz61_1
            try clear hcz61_2
            try clear hcz64_0
            try clear hcz64_1
            try clear hcz64_2
            try clear hcz66_0
            try clear hcz66_1
            try clear hcz66_2
            try clear hfz21_0
            try clear hfz21_1
            try clear hfz21_2
            try clear hfz23_0
            try clear hfz23_1
            try clear hfz23_2
            try clear hfz32_0
            try clear hfz32_1
            try clear hfz32_2
            try clear hfz34_0
            try clear hfz34_1
            try clear hfz34_2
            try clear hfz37_0
            try clear hfz37_1
            try clear hfz37_2
            try clear hfz39_0
            try clear hfz39_1
            try clear hfz39_2
            try clear hfz42_0
            try clear hfz42_1
            try clear hfz42_2
            try clear hfz44_0
            try clear hfz44_1
            try clear hfz44_2
            try clear hfz47_0
            try clear hfz47_1
            try clear hfz47_2
            try clear hfz49_0
            try clear hfz49_1
            try clear hfz49_2
            try clear hfz54_0
            try clear hfz54_1
            try clear hfz54_2
            try clear hfz56_0
            try clear hfz56_1
            try clear hfz56_2
            try clear hfz59_0
            try clear hfz59_1
            try clear hfz59_2
            try clear hfz61_0
            try clear hfz61_1
            try clear hfz61_2
            try clear hfz64_0
            try clear hfz64_1
            try clear hfz64_2
            try clear hfz66_0
            try clear hfz66_1
            try clear hfz66_2
            try clear p2
            try clear p6
            obtain ⟨kq, x63_24, rfl, HA, HJ24, BK200, BK201, BK202, HB⟩ := hcut
            cases kq with
            | zero => exact absurd HA.out (by simp [antecedentlaw02_ValueOrder.j1])
            | succ kj24 =>
              have H := HA.out
              clear HA
              simp only [antecedentlaw02_ValueOrder.j1] at H
              by_cases c67 : x63_24 = true
              · subst c67
                have H1 : (some false) = some r := by rw [if_pos rfl] at H; exact H
                clear H
                have H := H1
                clear H1
                obtain rfl := Option.some.inj H
                go_wp2
                go_ret
                exact ⟨by first | rfl | (simp [errW_none, errW_some] <;> rfl) | (simp [*, errW_none, errW_some] <;> rfl), by repeat (first | (with_reducible first | exact HB.out | apply below_alloc | apply pw_below_drewN | apply below_drew1 | refine below_set ?_ GE200.out | refine below_set ?_ GE201.out | refine below_set ?_ GE202.out) | exact HB.out)⟩
              · replace c67 := Bool.eq_false_iff.mpr c67
                subst c67
                have H1 : (if t204 ≤ 0 then ((value_Compare.f kj24 a1_0 a1_1 a1_2 a2_0 a2_1 a2_2).bind fun t206 => (if t206 ≤ 0 then ((value_Compare.f kj24 a0_0 a0_1 a0_2 a2_0 a2_1 a2_2).bind fun t207 => (some (decide (t207 ≤ 0)))) else (some true))) else (some true)) = some r := by rw [if_neg (show ¬ (false = true) by decide)] at H; exact H
                clear H
                have H := H1
                clear H1
                by_cases c68 : t204 ≤ 0
                · rw [if_pos c68] at H
                  have c68b0 : decide (t204 ≤ 0) = true := decide_eq_true c68
                  clear c68
                  replace H := Option.bind_eq_some_iff.mp H
                  obtain ⟨t206, A690, H⟩ := H
                  replace H : (if t206 ≤ 0 then ((value_Compare.f kj24 a0_0 a0_1 a0_2 a2_0 a2_1 a2_2).bind fun t207 => (some (decide (t207 ≤ 0)))) else (some true)) = some r := H
                  have A69 := Aside0.mk A690
                  clear A690
                  by_cases c70 : t206 ≤ 0
                  · rw [if_pos c70] at H
                    have c70b0 : decide (t206 ≤ 0) = true := decide_eq_true c70
                    clear c70
                    replace H := Option.bind_eq_some_iff.mp H
                    obtain ⟨t207, A710, H⟩ := H
                    replace H : (some (decide (t207 ≤ 0))) = some r := H
                    have A71 := Aside0.mk A710
                    clear A710
                    obtain rfl := Option.some.inj H
                    have hnb72 := NB201_200.out
                    have hnc72 := NB200_201.out
                    have hnb73 := NB201_202.out
                    have hnc73 := NB202_201.out
                    have hcz74_0 : wc.cell? ⟨gb201, 0, none⟩ = some (.int .i64 a1_0) := (blk_cell BK201.out 0).trans rfl
                    have hcz74_1 : wc.cell? ⟨gb201, 1, none⟩ = some (.int .i64 a1_1) := (blk_cell BK201.out 1).trans rfl
                    have hcz74_2 : wc.cell? ⟨gb201, 2, none⟩ = some (.string a1_2) := (blk_cell BK201.out 2).trans rfl
                    have hfz74_0 := blk_frozen BK201.out 0
                    have hfz74_1 := blk_frozen BK201.out 1
                    have hfz74_2 := blk_frozen BK201.out 2
                    have hnb75 := NB202_200.out
                    have hnc75 := NB200_202.out
                    have hcz76_0 : wc.cell? ⟨gb202, 0, none⟩ = some (.int .i64 a2_0) := (blk_cell BK202.out 0).trans rfl
                    have hcz76_1 : wc.cell? ⟨gb202, 1, none⟩ = some (.int .i64 a2_1) := (blk_cell BK202.out 1).trans rfl
                    have hcz76_2 : wc.cell? ⟨gb202, 2, none⟩ = some (.string a2_2) := (blk_cell BK202.out 2).trans rfl
                    have hfz76_0 := blk_frozen BK202.out 0
                    have hfz76_1 := blk_frozen BK202.out 1
                    have hfz76_2 := blk_frozen BK202.out 2
                    go_wp2_with (first | (go_at_call 15; (with_reducible refine (value_Compare.calls kj24 a1_0 a1_1 a1_2 a2_0 a2_1 a2_2 t206 _ A69.out).mono ?_); rintro e w77 ⟨rfl, hb⟩; have n0_ := Aside0.mk (blk_below (g := gb200) (o := .cells #[.int .i64 a0_0, .int .i64 a0_1, .string a0_2] 23 (0, 0)) (by (with_reducible repeat (first | refine blk_drewN ?_ _ | refine blk_drew ?_ | refine blk_alloc ?_ _)); exact BK200.out) hb); have n1_ := Aside0.mk (blk_below (g := gb201) (o := .cells #[.int .i64 a1_0, .int .i64 a1_1, .string a1_2] 23 (0, 0)) (by (with_reducible repeat (first | refine blk_drewN ?_ _ | refine blk_drew ?_ | refine blk_alloc ?_ _)); exact BK201.out) hb); have n2_ := Aside0.mk (blk_below (g := gb202) (o := .cells #[.int .i64 a2_0, .int .i64 a2_1, .string a2_2] 23 (0, 0)) (by (with_reducible repeat (first | refine blk_drewN ?_ _ | refine blk_drew ?_ | refine blk_alloc ?_ _)); exact BK202.out) hb); have n3_ := Aside0.mk (below_step (by repeat (first | (with_reducible first | exact HB.out | apply below_alloc | apply pw_below_drewN | apply below_drew1 | refine below_set ?_ GE200.out | refine below_set ?_ GE201.out | refine below_set ?_ GE202.out) | exact HB.out)) hb); clear BK200; clear BK201; clear BK202; clear HB; have BK200 := n0_; have BK201 := n1_; have BK202 := n2_; have HB := n3_; clear n0_ n1_ n2_ n3_; (try clear hb); (try clear hb2); (try clear hk); (try clear hi); have hcz78_0 : w77.cell? ⟨gb200, 0, none⟩ = some (.int .i64 a0_0) := (blk_cell BK200.out 0).trans rfl; have hcz78_1 : w77.cell? ⟨gb200, 1, none⟩ = some (.int .i64 a0_1) := (blk_cell BK200.out 1).trans rfl; have hcz78_2 : w77.cell? ⟨gb200, 2, none⟩ = some (.string a0_2) := (blk_cell BK200.out 2).trans rfl; have hfz78_0 := blk_frozen BK200.out 0; have hfz78_1 := blk_frozen BK200.out 1; have hfz78_2 := blk_frozen BK200.out 2; have hcz79_0 : w77.cell? ⟨gb202, 0, none⟩ = some (.int .i64 a2_0) := (blk_cell BK202.out 0).trans rfl; have hcz79_1 : w77.cell? ⟨gb202, 1, none⟩ = some (.int .i64 a2_1) := (blk_cell BK202.out 1).trans rfl; have hcz79_2 : w77.cell? ⟨gb202, 2, none⟩ = some (.string a2_2) := (blk_cell BK202.out 2).trans rfl; have hfz79_0 := blk_frozen BK202.out 0; have hfz79_1 := blk_frozen BK202.out 1; have hfz79_2 := blk_frozen BK202.out 2) | (go_at_call 15; (with_reducible refine (value_Compare.calls kj24 a0_0 a0_1 a0_2 a2_0 a2_1 a2_2 t207 _ A71.out).mono ?_); rintro e w80 ⟨rfl, hb⟩; have n0_ := Aside0.mk (blk_below (g := gb200) (o := .cells #[.int .i64 a0_0, .int .i64 a0_1, .string a0_2] 23 (0, 0)) (by (with_reducible repeat (first | refine blk_drewN ?_ _ | refine blk_drew ?_ | refine blk_alloc ?_ _)); exact BK200.out) hb); have n1_ := Aside0.mk (blk_below (g := gb201) (o := .cells #[.int .i64 a1_0, .int .i64 a1_1, .string a1_2] 23 (0, 0)) (by (with_reducible repeat (first | refine blk_drewN ?_ _ | refine blk_drew ?_ | refine blk_alloc ?_ _)); exact BK201.out) hb); have n2_ := Aside0.mk (blk_below (g := gb202) (o := .cells #[.int .i64 a2_0, .int .i64 a2_1, .string a2_2] 23 (0, 0)) (by (with_reducible repeat (first | refine blk_drewN ?_ _ | refine blk_drew ?_ | refine blk_alloc ?_ _)); exact BK202.out) hb); have n3_ := Aside0.mk (below_step (by repeat (first | (with_reducible first | exact HB.out | apply below_alloc | apply pw_below_drewN | apply below_drew1 | refine below_set ?_ GE200.out | refine below_set ?_ GE201.out | refine below_set ?_ GE202.out) | exact HB.out)) hb); clear BK200; clear BK201; clear BK202; clear HB; have BK200 := n0_; have BK201 := n1_; have BK202 := n2_; have HB := n3_; clear n0_ n1_ n2_ n3_; (try clear hb); (try clear hb2); (try clear hk); (try clear hi)))
                    go_ret
                    exact ⟨by first | rfl | (simp [errW_none, errW_some] <;> rfl) | (simp [*, errW_none, errW_some] <;> rfl), by repeat (first | (with_reducible first | exact HB.out | apply below_alloc | apply pw_below_drewN | apply below_drew1 | refine below_set ?_ GE200.out | refine below_set ?_ GE201.out | refine below_set ?_ GE202.out) | exact HB.out)⟩
                  · rw [if_neg c70] at H
                    have c70b0 : decide (t206 ≤ 0) = false := decide_eq_false c70
                    clear c70
                    obtain rfl := Option.some.inj H
                    have hnb81 := NB201_200.out
                    have hnc81 := NB200_201.out
                    have hnb82 := NB201_202.out
                    have hnc82 := NB202_201.out
                    have hcz83_0 : wc.cell? ⟨gb201, 0, none⟩ = some (.int .i64 a1_0) := (blk_cell BK201.out 0).trans rfl
                    have hcz83_1 : wc.cell? ⟨gb201, 1, none⟩ = some (.int .i64 a1_1) := (blk_cell BK201.out 1).trans rfl
                    have hcz83_2 : wc.cell? ⟨gb201, 2, none⟩ = some (.string a1_2) := (blk_cell BK201.out 2).trans rfl
                    have hfz83_0 := blk_frozen BK201.out 0
                    have hfz83_1 := blk_frozen BK201.out 1
                    have hfz83_2 := blk_frozen BK201.out 2
                    have hnb84 := NB202_200.out
                    have hnc84 := NB200_202.out
                    have hcz85_0 : wc.cell? ⟨gb202, 0, none⟩ = some (.int .i64 a2_0) := (blk_cell BK202.out 0).trans rfl
                    have hcz85_1 : wc.cell? ⟨gb202, 1, none⟩ = some (.int .i64 a2_1) := (blk_cell BK202.out 1).trans rfl
                    have hcz85_2 : wc.cell? ⟨gb202, 2, none⟩ = some (.string a2_2) := (blk_cell BK202.out 2).trans rfl
                    have hfz85_0 := blk_frozen BK202.out 0
                    have hfz85_1 := blk_frozen BK202.out 1
                    have hfz85_2 := blk_frozen BK202.out 2
                    go_wp2_with (first | (go_at_call 15; (with_reducible refine (value_Compare.calls kj24 a1_0 a1_1 a1_2 a2_0 a2_1 a2_2 t206 _ A69.out).mono ?_); rintro e w86 ⟨rfl, hb⟩; have n0_ := Aside0.mk (blk_below (g := gb200) (o := .cells #[.int .i64 a0_0, .int .i64 a0_1, .string a0_2] 23 (0, 0)) (by (with_reducible repeat (first | refine blk_drewN ?_ _ | refine blk_drew ?_ | refine blk_alloc ?_ _)); exact BK200.out) hb); have n1_ := Aside0.mk (blk_below (g := gb201) (o := .cells #[.int .i64 a1_0, .int .i64 a1_1, .string a1_2] 23 (0, 0)) (by (with_reducible repeat (first | refine blk_drewN ?_ _ | refine blk_drew ?_ | refine blk_alloc ?_ _)); exact BK201.out) hb); have n2_ := Aside0.mk (blk_below (g := gb202) (o := .cells #[.int .i64 a2_0, .int .i64 a2_1, .string a2_2] 23 (0, 0)) (by (with_reducible repeat (first | refine blk_drewN ?_ _ | refine blk_drew ?_ | refine blk_alloc ?_ _)); exact BK202.out) hb); have n3_ := Aside0.mk (below_step (by repeat (first | (with_reducible first | exact HB.out | apply below_alloc | apply pw_below_drewN | apply below_drew1 | refine below_set ?_ GE200.out | refine below_set ?_ GE201.out | refine below_set ?_ GE202.out) | exact HB.out)) hb); clear BK200; clear BK201; clear BK202; clear HB; have BK200 := n0_; have BK201 := n1_; have BK202 := n2_; have HB := n3_; clear n0_ n1_ n2_ n3_; (try clear hb); (try clear hb2); (try clear hk); (try clear hi)))
                    go_ret
                    exact ⟨by first | rfl | (simp [errW_none, errW_some] <;> rfl) | (simp [*, errW_none, errW_some] <;> rfl), by repeat (first | (with_reducible first | exact HB.out | apply below_alloc | apply pw_below_drewN | apply below_drew1 | refine below_set ?_ GE200.out | refine below_set ?_ GE201.out | refine below_set ?_ GE202.out) | exact HB.out)⟩
                · rw [if_neg c68] at H
                  have c68b0 : decide (t204 ≤ 0) = false := decide_eq_false c68
                  clear c68
                  obtain rfl := Option.some.inj H
                  go_wp2
                  go_ret
                  exact ⟨by first | rfl | (simp [errW_none, errW_some] <;> rfl) | (simp [*, errW_none, errW_some] <;> rfl), by repeat (first | (with_reducible first | exact HB.out | apply below_alloc | apply pw_below_drewN | apply below_drew1 | refine below_set ?_ GE200.out | refine below_set ?_ GE201.out | refine below_set ?_ GE202.out) | exact HB.out)⟩
  · replace c5 := Bool.eq_false_iff.mpr c5
    subst c5
    have H1 : (some false) = some r := by rw [if_neg (show ¬ (false = true) by decide)] at H; exact H
    clear H
    have H := H1
    clear H1
    obtain rfl := Option.some.inj H
    go_enter Tryd.func6, Tryd.ntmps6
    go_wp2_with (first | ((with_reducible refine gate_dst (N := 3) rfl ?_); refine box_event ?hg (N := 3) ?hd (cs := #[.int .i64 a0_0, .int .i64 a0_1, .string a0_2]) (t := 23) ?hr ?_; (case hd => rfl); (case hg => rfl); (case hr => first | (go_simp; done) | (go_simp; rfl)); intro gb200 hg w87 hbox hb; have n0_ := Aside0.mk (below_step (by repeat (first | (with_reducible first | exact HB.out | apply below_alloc | apply pw_below_drewN | apply below_drew1) | exact HB.out)) hb); have n1_ := Aside0.mk (hbox); have n2_ := Aside0.mk ((by rw [hg]; exact (below_size (by repeat (first | (with_reducible first | exact HB.out | apply below_alloc | apply pw_below_drewN | apply below_drew1) | exact HB.out))) : w.heap.size ≤ gb200)); have n3_ := Aside0.mk ((by rw [hg]; exact (below_size (by repeat (first | (with_reducible first | exact HB.out | apply below_alloc | apply pw_below_drewN | apply below_drew1) | exact HB.out))) : w.heap.size ≤ gb200)); clear HB; have HB := n0_; have BK200 := n1_; have GW200 := n2_; have GE200 := n3_; clear n0_ n1_ n2_ n3_; clear hb hbox hg) | ((with_reducible refine gate_dst (N := 4) rfl ?_); refine box_event ?hg (N := 4) ?hd (cs := #[.int .i64 a1_0, .int .i64 a1_1, .string a1_2]) (t := 23) ?hr ?_; (case hd => rfl); (case hg => rfl); (case hr => first | (go_simp; done) | (go_simp; rfl)); intro gb201 hg w88 hbox hb; have n0_ := Aside0.mk (blk_below (g := gb200) (o := .cells #[.int .i64 a0_0, .int .i64 a0_1, .string a0_2] 23 (0, 0)) (by (with_reducible repeat (first | refine blk_drewN ?_ _ | refine blk_drew ?_ | refine blk_alloc ?_ _)); exact BK200.out) hb); have n1_ := Aside0.mk (below_step (by repeat (first | (with_reducible first | exact HB.out | apply below_alloc | apply pw_below_drewN | apply below_drew1 | refine below_set ?_ GE200.out) | exact HB.out)) hb); have n2_ := Aside0.mk (hbox); have n3_ := Aside0.mk ((by rw [hg]; exact (below_size (by repeat (first | (with_reducible first | exact HB.out | apply below_alloc | apply pw_below_drewN | apply below_drew1 | refine below_set ?_ GE200.out) | exact HB.out))) : w.heap.size ≤ gb201)); have n4_ := Aside0.mk ((by rw [hg]; exact (below_size (by repeat (first | (with_reducible first | exact HB.out | apply below_alloc | apply pw_below_drewN | apply below_drew1 | refine below_set ?_ GE200.out) | exact HB.out))) : w.heap.size ≤ gb201)); have n5_ := Aside0.mk ((by rw [hg]; exact Nat.ne_of_lt (blk_lt (g := gb200) (o := .cells #[.int .i64 a0_0, .int .i64 a0_1, .string a0_2] 23 (0, 0)) (by (with_reducible repeat (first | refine blk_drewN ?_ _ | refine blk_drew ?_ | refine blk_alloc ?_ _)); exact BK200.out)) : gb200 ≠ gb201)); have n6_ := Aside0.mk ((by rw [hg]; exact Nat.ne_of_gt (blk_lt (g := gb200) (o := .cells #[.int .i64 a0_0, .int .i64 a0_1, .string a0_2] 23 (0, 0)) (by (with_reducible repeat (first | refine blk_drewN ?_ _ | refine blk_drew ?_ | refine blk_alloc ?_ _)); exact BK200.out)) : gb201 ≠ gb200)); clear BK200; clear HB; have BK200 := n0_; have HB := n1_; have BK201 := n2_; have GW201 := n3_; have GE201 := n4_; have NB200_201 := n5_; have NB201_200 := n6_; clear n0_ n1_ n2_ n3_ n4_ n5_ n6_; clear hb hbox hg) | ((with_reducible refine gate_dst (N := 5) rfl ?_); refine box_event ?hg (N := 5) ?hd (cs := #[.int .i64 a2_0, .int .i64 a2_1, .string a2_2]) (t := 23) ?hr ?_; (case hd => rfl); (case hg => rfl); (case hr => first | (go_simp; done) | (go_simp; rfl)); intro gb202 hg w89 hbox hb; have n0_ := Aside0.mk (blk_below (g := gb200) (o := .cells #[.int .i64 a0_0, .int .i64 a0_1, .string a0_2] 23 (0, 0)) (by (with_reducible repeat (first | refine blk_drewN ?_ _ | refine blk_drew ?_ | refine blk_alloc ?_ _)); exact BK200.out) hb); have n1_ := Aside0.mk (blk_below (g := gb201) (o := .cells #[.int .i64 a1_0, .int .i64 a1_1, .string a1_2] 23 (0, 0)) (by (with_reducible repeat (first | refine blk_drewN ?_ _ | refine blk_drew ?_ | refine blk_alloc ?_ _)); exact BK201.out) hb); have n2_ := Aside0.mk (below_step (by repeat (first | (with_reducible first | exact HB.out | apply below_alloc | apply pw_below_drewN | apply below_drew1 | refine below_set ?_ GE200.out | refine below_set ?_ GE201.out) | exact HB.out)) hb); have n3_ := Aside0.mk (hbox); have n4_ := Aside0.mk ((by rw [hg]; exact (below_size (by repeat (first | (with_reducible first | exact HB.out | apply below_alloc | apply pw_below_drewN | apply below_drew1 | refine below_set ?_ GE200.out | refine below_set ?_ GE201.out) | exact HB.out))) : w.heap.size ≤ gb202)); have n5_ := Aside0.mk ((by rw [hg]; exact (below_size (by repeat (first | (with_reducible first | exact HB.out | apply below_alloc | apply pw_below_drewN | apply below_drew1 | refine below_set ?_ GE200.out | refine below_set ?_ GE201.out) | exact HB.out))) : w.heap.size ≤ gb202)); have n6_ := Aside0.mk ((by rw [hg]; exact Nat.ne_of_lt (blk_lt (g := gb200) (o := .cells #[.int .i64 a0_0, .int .i64 a0_1, .string a0_2] 23 (0, 0)) (by (with_reducible repeat (first | refine blk_drewN ?_ _ | refine blk_drew ?_ | refine blk_alloc ?_ _)); exact BK200.out)) : gb200 ≠ gb202)); have n7_ := Aside0.mk ((by rw [hg]; exact Nat.ne_of_gt (blk_lt (g := gb200) (o := .cells #[.int .i64 a0_0, .int .i64 a0_1, .string a0_2] 23 (0, 0)) (by (with_reducible repeat (first | refine blk_drewN ?_ _ | refine blk_drew ?_ | refine blk_alloc ?_ _)); exact BK200.out)) : gb202 ≠ gb200)); have n8_ := Aside0.mk ((by rw [hg]; exact Nat.ne_of_lt (blk_lt (g := gb201) (o := .cells #[.int .i64 a1_0, .int .i64 a1_1, .string a1_2] 23 (0, 0)) (by (with_reducible repeat (first | refine blk_drewN ?_ _ | refine blk_drew ?_ | refine blk_alloc ?_ _)); exact BK201.out)) : gb201 ≠ gb202)); have n9_ := Aside0.mk ((by rw [hg]; exact Nat.ne_of_gt (blk_lt (g := gb201) (o := .cells #[.int .i64 a1_0, .int .i64 a1_1, .string a1_2] 23 (0, 0)) (by (with_reducible repeat (first | refine blk_drewN ?_ _ | refine blk_drew ?_ | refine blk_alloc ?_ _)); exact BK201.out)) : gb202 ≠ gb201)); clear BK200; clear BK201; clear HB; have BK200 := n0_; have BK201 := n1_; have HB := n2_; have BK202 := n3_; have GW202 := n4_; have GE202 := n5_; have NB200_202 := n6_; have NB202_200 := n7_; have NB201_202 := n8_; have NB202_201 := n9_; clear n0_ n1_ n2_ n3_ n4_ n5_ n6_ n7_ n8_ n9_; clear hb hbox hg) | ((with_reducible refine gate_callee (f := 10) rfl ?_); refine goesL_ (some 9) rfl rfl Tryd.func10 (by kernel_rfl) rfl #[] rfl (by (try simp only [List.map_toArray, List.map_cons, List.map_nil]); first | done | rfl | (simp only [List.length_drop, List.length_take]; rfl)) ?_; (with_reducible refine (antecedentlaw02_awake.calls k  false _ ?side1 A4.out).mono ?_); (case side1 => (first | (refine LaidW.below HLW.out ?_; (repeat (first | (with_reducible first | exact HB.out | apply below_alloc | apply pw_below_drewN | apply below_drew1 | refine below_set ?_ GE200.out | refine below_set ?_ GE201.out | refine below_set ?_ GE202.out) | exact HB.out)); done) | (repeat (first | exact HLW.out | apply LaidW.drewN | apply LaidW.drew | apply LaidW.alloc)))); rintro e w90 ⟨rfl, hb⟩; refine ⟨_, rfl, ?_⟩; have n0_ := Aside0.mk (blk_below (g := gb200) (o := .cells #[.int .i64 a0_0, .int .i64 a0_1, .string a0_2] 23 (0, 0)) (by (with_reducible repeat (first | refine blk_drewN ?_ _ | refine blk_drew ?_ | refine blk_alloc ?_ _)); exact BK200.out) hb); have n1_ := Aside0.mk (blk_below (g := gb201) (o := .cells #[.int .i64 a1_0, .int .i64 a1_1, .string a1_2] 23 (0, 0)) (by (with_reducible repeat (first | refine blk_drewN ?_ _ | refine blk_drew ?_ | refine blk_alloc ?_ _)); exact BK201.out) hb); have n2_ := Aside0.mk (blk_below (g := gb202) (o := .cells #[.int .i64 a2_0, .int .i64 a2_1, .string a2_2] 23 (0, 0)) (by (with_reducible repeat (first | refine blk_drewN ?_ _ | refine blk_drew ?_ | refine blk_alloc ?_ _)); exact BK202.out) hb); have n3_ := Aside0.mk (below_step (by repeat (first | (with_reducible first | exact HB.out | apply below_alloc | apply pw_below_drewN | apply below_drew1 | refine below_set ?_ GE200.out | refine below_set ?_ GE201.out | refine below_set ?_ GE202.out) | exact HB.out)) hb); clear BK200; clear BK201; clear BK202; clear HB; have BK200 := n0_; have BK201 := n1_; have BK202 := n2_; have HB := n3_; clear n0_ n1_ n2_ n3_; (try clear hb); (try clear hb2); (try clear hk); (try clear hi)))
    go_ret
    exact ⟨by first | rfl | (simp [errW_none, errW_some] <;> rfl) | (simp [*, errW_none, errW_some] <;> rfl), by repeat (first | (with_reducible first | exact HB.out | apply below_alloc | apply pw_below_drewN | apply below_drew1 | refine below_set ?_ GE200.out | refine below_set ?_ GE201.out | refine below_set ?_ GE202.out) | exact HB.out)⟩

end Go.Proofs.YtklpbdmmmloejaaDoor.X
