-- WRITTEN BY A PROGRAM OF THIS SESSION (xprint.py): functions in Lean, and proofs that the code comes to them. Lean checks it.
import Derived.Test.YtklpbdmmmloejaaDoorXx0
import Derived.Test.YtklpbdmmmloejaaDoorXx1
import Derived.Test.YtklpbdmmmloejaaDoorXx2
import Derived.Test.YtklpbdmmmloejaaDoorXx5
import Derived.Test.YtklpbdmmmloejaaDoorXx7
import Derived.Test.YtklpbdmmmloejaaDoorXtE
import Derived.Test.YtklpbdmmmloejaaDoorXtT
namespace Go.Proofs.YtklpbdmmmloejaaDoor.X
open Go.RowKit Go.Proofs.YtklpbdmmmloejaaDoorW.PrintWords Go.Proofs.YtklpbdmmmloejaaDoorW.PrintLast Go.Proofs.YtklpbdmmmloejaaDoorW.PrintMore
attribute [local go_sem] max2_int min2_int max_two min_two max_three min_three max_four min_four   -- for this text's walks alone
set_option linter.unusedVariables false
set_option linter.unusedSimpArgs false

attribute [local go_sem high] eqA23
/-! ### antecedentlaw02_ValueReads: function 4 -/
def antecedentlaw02_ValueReads.j0 : Nat → ByteArray → Bool → Option (Bool)
  | 0, _, _ => none
  | k + 1, x0, x13 => if x13 = true then ((antecedentlaw02_awake.f k).bind fun t168 => (some t168)) else ((value_Read.f x0).bind fun bt169 => ((antecedentref02_Read.f k x0).bind fun bt174 => (if (bt169.1 == bt174.1 && (bt169.2.1 == bt174.2.1 && (bt169.2.2.1.toList == bt174.2.2.1.toList))) = true then (some (bt169.2.2.2 == bt174.2.2.2)) else (some false))))
def antecedentlaw02_ValueReads.f (k : Nat) (a0 : ByteArray) : Option (Bool) := (antecedentlaw02_awake.f k).bind fun t167 => (if t167 = true then (antecedentlaw02_ValueReads.j0 k a0 (decide ((a0.size : Int) > 100))) else (antecedentlaw02_ValueReads.j0 k a0 true))
theorem antecedentlaw02_ValueReads.mono_l : ∀ k, (∀ y0 y1, LeO (antecedentlaw02_ValueReads.j0 k y0 y1) (antecedentlaw02_ValueReads.j0 (k + 1) y0 y1))
  | 0 => fun _ _ r h => by simp [antecedentlaw02_ValueReads.j0] at h
  | k + 1 => by
    have ih0 := antecedentlaw02_ValueReads.mono_l k
    · intro y0 y1
      unfold antecedentlaw02_ValueReads.j0
      repeat' first
      | (with_reducible exact ih0 _ _)
      | (with_reducible exact antecedentlaw02_awake.mono _)
      | (with_reducible exact antecedentref02_Read.mono _ _)
      | (with_reducible exact LeO.refl _)
      | (with_reducible exact LeO.none _)
      | (with_reducible refine LeO.ite ?_ ?_)
      | (with_reducible refine LeO.bind ?_ (fun _ => ?_))
      | exact ih0 _ _
      | exact antecedentlaw02_awake.mono _
      | exact antecedentref02_Read.mono _ _
      | exact LeO.none _
      | refine LeO.ite ?_ ?_
      | refine LeO.bind ?_ (fun _ => ?_)
theorem antecedentlaw02_ValueReads.mono : ∀ a0 k, LeO (antecedentlaw02_ValueReads.f k a0) (antecedentlaw02_ValueReads.f (k + 1) a0) := by
  intro a0 k
  have ih0 := antecedentlaw02_ValueReads.mono_l k
  unfold antecedentlaw02_ValueReads.f
  repeat' first
      | (with_reducible exact ih0 _ _)
      | (with_reducible exact antecedentlaw02_awake.mono _)
      | (with_reducible exact antecedentref02_Read.mono _ _)
      | (with_reducible exact LeO.refl _)
      | (with_reducible exact LeO.none _)
      | (with_reducible refine LeO.ite ?_ ?_)
      | (with_reducible refine LeO.bind ?_ (fun _ => ?_))
      | exact ih0 _ _
      | exact antecedentlaw02_awake.mono _
      | exact antecedentref02_Read.mono _ _
      | exact LeO.none _
      | refine LeO.ite ?_ ?_
      | refine LeO.bind ?_ (fun _ => ?_)
set_option maxHeartbeats 8000000 in
set_option maxRecDepth 100000 in
theorem antecedentlaw02_ValueReads.calls (k : Nat) (a0 : ByteArray) (r : Bool) (w : World) (hLW : LaidW w) (h : antecedentlaw02_ValueReads.f k a0 = some r) :
    Calls Tryd.prog 4 #[.string a0] w fun e w' => e = .returned (.bool r) ∧ Below w.heap.size w w' := by
  have hu23 := Tryd.underlying23
  have HLW := Aside0.mk hLW
  clear hLW
  have HB := Aside0.mk (Below.refl w.heap.size w)
  have H : ((antecedentlaw02_awake.f k).bind fun t167 => (if t167 = true then (antecedentlaw02_ValueReads.j0 k a0 (decide ((a0.size : Int) > 100))) else (antecedentlaw02_ValueReads.j0 k a0 true))) = some r := h
  clear h
  have HC2 := Aside0.mk H
  clear H
  go_enter Tryd.func4, Tryd.ntmps4
  go_upto_region 1 with (fail)
  go_cut [13] (fun v13 wc => ∃ (kq : Nat) (x13_1 : Bool), v13 = .bool x13_1 ∧ Aside0 (antecedentlaw02_ValueReads.j0 kq a0 x13_1 = some r) ∧ Aside0 (kq ≤ k) ∧ Aside0 (Below w.heap.size w wc))
  case first =>
    have H := HC2.out
    clear HC2
    replace H := Option.bind_eq_some_iff.mp H
    obtain ⟨t167, A30, H⟩ := H
    replace H : (if t167 = true then (antecedentlaw02_ValueReads.j0 k a0 (decide ((a0.size : Int) > 100))) else (antecedentlaw02_ValueReads.j0 k a0 true)) = some r := H
    have A3 := Aside0.mk A30
    clear A30
    by_cases c4 : t167 = true
    · subst c4
      have H1 : (antecedentlaw02_ValueReads.j0 k a0 (decide ((a0.size : Int) > 100))) = some r := by rw [if_pos rfl] at H; exact H
      clear H
      have H := H1
      clear H1
      have H' := Aside0.mk H
      clear H
      go_wp2_with (first | ((with_reducible refine gate_callee (f := 10) rfl ?_); refine goesL_ (some 7) rfl rfl Tryd.func10 (by kernel_rfl) rfl #[] rfl (by (try simp only [List.map_toArray, List.map_cons, List.map_nil]); first | done | rfl | (simp only [List.length_drop, List.length_take]; rfl)) ?_; (with_reducible refine (antecedentlaw02_awake.calls k  true _ ?side1 A3.out).mono ?_); (case side1 => (first | (refine LaidW.below HLW.out ?_; (repeat (first | (with_reducible first | exact HB.out | apply below_alloc | apply pw_below_drewN | apply below_drew1) | exact HB.out)); done) | (repeat (first | exact HLW.out | apply LaidW.drewN | apply LaidW.drew | apply LaidW.alloc)))); rintro e w5 ⟨rfl, hb⟩; refine ⟨_, rfl, ?_⟩; have n0_ := Aside0.mk (below_step (by repeat (first | (with_reducible first | exact HB.out | apply below_alloc | apply pw_below_drewN | apply below_drew1) | exact HB.out)) hb); clear HB; have HB := n0_; clear n0_; (try clear hb); (try clear hb2); (try clear hk); (try clear hi)))
      go_meet
      case rel => exact ⟨_, (decide ((a0.size : Int) > 100)), (by first | rfl | (simp; done) | (simp [*]; done)), H', ⟨by first | omega | exact Nat.le_refl _⟩, ⟨by repeat (first | (with_reducible first | exact HB.out | apply below_alloc | apply pw_below_drewN | apply below_drew1) | exact HB.out)⟩⟩
    · replace c4 := Bool.eq_false_iff.mpr c4
      subst c4
      have H1 : (antecedentlaw02_ValueReads.j0 k a0 true) = some r := by rw [if_neg (show ¬ (false = true) by decide)] at H; exact H
      clear H
      have H := H1
      clear H1
      have H' := Aside0.mk H
      clear H
      go_wp2_with (first | ((with_reducible refine gate_callee (f := 10) rfl ?_); refine goesL_ (some 7) rfl rfl Tryd.func10 (by kernel_rfl) rfl #[] rfl (by (try simp only [List.map_toArray, List.map_cons, List.map_nil]); first | done | rfl | (simp only [List.length_drop, List.length_take]; rfl)) ?_; (with_reducible refine (antecedentlaw02_awake.calls k  false _ ?side1 A3.out).mono ?_); (case side1 => (first | (refine LaidW.below HLW.out ?_; (repeat (first | (with_reducible first | exact HB.out | apply below_alloc | apply pw_below_drewN | apply below_drew1) | exact HB.out)); done) | (repeat (first | exact HLW.out | apply LaidW.drewN | apply LaidW.drew | apply LaidW.alloc)))); rintro e w6 ⟨rfl, hb⟩; refine ⟨_, rfl, ?_⟩; have n0_ := Aside0.mk (below_step (by repeat (first | (with_reducible first | exact HB.out | apply below_alloc | apply pw_below_drewN | apply below_drew1) | exact HB.out)) hb); clear HB; have HB := n0_; clear n0_; (try clear hb); (try clear hb2); (try clear hk); (try clear hi)))
      go_meet
      case rel => exact ⟨_, (true), (by first | rfl | (simp; done) | (simp [*]; done)), H', ⟨by first | omega | exact Nat.le_refl _⟩, ⟨by repeat (first | (with_reducible first | exact HB.out | apply below_alloc | apply pw_below_drewN | apply below_drew1) | exact HB.out)⟩⟩
  case rest =>
    clear HC2
    try clear c1
    try clear p2
    try clear c4
    obtain ⟨kq, x13_1, rfl, HA, HJ1, HB⟩ := hcut
    cases kq with
    | zero => exact absurd HA.out (by simp [antecedentlaw02_ValueReads.j0])
    | succ kj1 =>
      have H := HA.out
      clear HA
      simp only [antecedentlaw02_ValueReads.j0] at H
      by_cases c7 : x13_1 = true
      · subst c7
        have H1 : ((antecedentlaw02_awake.f kj1).bind fun t168 => (some t168)) = some r := by rw [if_pos rfl] at H; exact H
        clear H
        have H := H1
        clear H1
        replace H := Option.bind_eq_some_iff.mp H
        obtain ⟨t168, A80, H⟩ := H
        replace H : (some t168) = some r := H
        have A8 := Aside0.mk A80
        clear A80
        obtain rfl := Option.some.inj H
        go_wp2_with (first | ((with_reducible refine gate_callee (f := 10) rfl ?_); refine goesL_ (some 14) rfl rfl Tryd.func10 (by kernel_rfl) rfl #[] rfl (by (try simp only [List.map_toArray, List.map_cons, List.map_nil]); first | done | rfl | (simp only [List.length_drop, List.length_take]; rfl)) ?_; (with_reducible refine (antecedentlaw02_awake.calls kj1  t168 _ ?side1 A8.out).mono ?_); (case side1 => (first | (refine LaidW.below HLW.out ?_; (repeat (first | (with_reducible first | exact HB.out | apply below_alloc | apply pw_below_drewN | apply below_drew1) | exact HB.out)); done) | (repeat (first | exact HLW.out | apply LaidW.drewN | apply LaidW.drew | apply LaidW.alloc)))); rintro e w9 ⟨rfl, hb⟩; refine ⟨_, rfl, ?_⟩; have n0_ := Aside0.mk (below_step (by repeat (first | (with_reducible first | exact HB.out | apply below_alloc | apply pw_below_drewN | apply below_drew1) | exact HB.out)) hb); clear HB; have HB := n0_; clear n0_; (try clear hb); (try clear hb2); (try clear hk); (try clear hi)))
        go_ret
        exact ⟨by first | rfl | (simp [errW_none, errW_some] <;> rfl) | (simp [*, errW_none, errW_some] <;> rfl), by repeat (first | (with_reducible first | exact HB.out | apply below_alloc | apply pw_below_drewN | apply below_drew1) | exact HB.out)⟩
      · replace c7 := Bool.eq_false_iff.mpr c7
        subst c7
        have H1 : ((value_Read.f a0).bind fun bt169 => ((antecedentref02_Read.f kj1 a0).bind fun bt174 => (if (bt169.1 == bt174.1 && (bt169.2.1 == bt174.2.1 && (bt169.2.2.1.toList == bt174.2.2.1.toList))) = true then (some (bt169.2.2.2 == bt174.2.2.2)) else (some false)))) = some r := by rw [if_neg (show ¬ (false = true) by decide)] at H; exact H
        clear H
        have H := H1
        clear H1
        replace H := Option.bind_eq_some_iff.mp H
        obtain ⟨⟨t169, t170, t171, t172⟩, A100, H⟩ := H
        replace H : ((antecedentref02_Read.f kj1 a0).bind fun bt174 => (if (t169 == bt174.1 && (t170 == bt174.2.1 && (t171.toList == bt174.2.2.1.toList))) = true then (some (t172 == bt174.2.2.2)) else (some false))) = some r := H
        have A10 := Aside0.mk A100
        clear A100
        replace H := Option.bind_eq_some_iff.mp H
        obtain ⟨⟨t174, t175, t176, t177⟩, A110, H⟩ := H
        replace H : (if (t169 == t174 && (t170 == t175 && (t171.toList == t176.toList))) = true then (some (t172 == t177)) else (some false)) = some r := H
        have A11 := Aside0.mk A110
        clear A110
        by_cases c12 : (t169 == t174 && (t170 == t175 && (t171.toList == t176.toList))) = true
        · rw [if_pos c12] at H
          have c12b0 : (t169 == t174 && (t170 == t175 && (t171.toList == t176.toList))) = true := c12
          (try (have c12b1 : decide (t169 = t174 && (t170 == t175 && (t171.toList == t176.toList))) = true := by simpa using c12))
          (try (have c12b2 : (t169 == t174 && (t170 == t175 && (t171.toList == t176.toList))) = true := by simpa using c12))
          clear c12
          obtain rfl := Option.some.inj H
          go_wp2_with (first | ((with_reducible refine gate_callee (f := 19) rfl ?_); refine goesL_ (some 17) rfl rfl Tryd.func19 (by kernel_rfl) rfl #[.string a0] rfl (by (try simp only [List.map_toArray, List.map_cons, List.map_nil]); first | done | rfl | (simp only [List.length_drop, List.length_take]; rfl)) ?_; (with_reducible refine (value_Read.calls a0 t169 t170 t171 t172 _ ?side1 A10.out).mono ?_); (case side1 => (first | (refine LaidW.below HLW.out ?_; (repeat (first | (with_reducible first | exact HB.out | apply below_alloc | apply pw_below_drewN | apply below_drew1) | exact HB.out)); done) | (repeat (first | exact HLW.out | apply LaidW.drewN | apply LaidW.drew | apply LaidW.alloc)))); rintro e w13 ⟨rfl, hb⟩; refine ⟨_, rfl, ?_⟩; have n0_ := Aside0.mk (below_step (by repeat (first | (with_reducible first | exact HB.out | apply below_alloc | apply pw_below_drewN | apply below_drew1) | exact HB.out)) hb); clear HB; have HB := n0_; clear n0_; (try clear hb); (try clear hb2); (try clear hk); (try clear hi)) | ((with_reducible refine gate_dst (N := 3) rfl ?_); (try (refine gate_guard (by rfl) ?_; dsimp only)); refine box_event ?hg (N := 3) ?hd (cs := #[.int .i64 0, .int .i64 0, .string (⟨#[]⟩ : ByteArray)]) (t := 23) ?hr ?_; (case hd => rfl); (case hg => rfl); (case hr => first | (go_simp; done) | (go_simp; rfl)); intro gb173 hg w14 hbox hb; have n0_ := Aside0.mk (below_step (by repeat (first | (with_reducible first | exact HB.out | apply below_alloc | apply pw_below_drewN | apply below_drew1) | exact HB.out)) hb); have n1_ := Aside0.mk (hbox); have n2_ := Aside0.mk ((by rw [hg]; exact (below_size (by repeat (first | (with_reducible first | exact HB.out | apply below_alloc | apply pw_below_drewN | apply below_drew1) | exact HB.out))) : w.heap.size ≤ gb173)); have n3_ := Aside0.mk ((by rw [hg]; exact (below_size (by repeat (first | (with_reducible first | exact HB.out | apply below_alloc | apply pw_below_drewN | apply below_drew1) | exact HB.out))) : w.heap.size ≤ gb173)); clear HB; have HB := n0_; have BK173 := n1_; have GW173 := n2_; have GE173 := n3_; clear n0_ n1_ n2_ n3_; clear hb hbox hg; have hcz15_0 : w14.cell? ⟨gb173, 0, none⟩ = some (.int .i64 0) := (blk_cell BK173.out 0).trans rfl; have hcz15_1 : w14.cell? ⟨gb173, 1, none⟩ = some (.int .i64 0) := (blk_cell BK173.out 1).trans rfl; have hcz15_2 : w14.cell? ⟨gb173, 2, none⟩ = some (.string (⟨#[]⟩ : ByteArray)) := (blk_cell BK173.out 2).trans rfl; have hfz15_0 := blk_frozen BK173.out 0; have hfz15_1 := blk_frozen BK173.out 1; have hfz15_2 := blk_frozen BK173.out 2) | ((with_reducible refine gate_callee (f := 20) rfl ?_); refine goesL_ (some 22) rfl rfl Tryd.func20 (by kernel_rfl) rfl #[.string a0] rfl (by (try simp only [List.map_toArray, List.map_cons, List.map_nil]); first | done | rfl | (simp only [List.length_drop, List.length_take]; rfl)) ?_; (with_reducible refine (antecedentref02_Read.calls kj1 a0 t174 t175 t176 t177 _ A11.out).mono ?_); rintro e w16 ⟨rfl, hb⟩; refine ⟨_, rfl, ?_⟩; have n0_ := Aside0.mk (blk_below (g := gb173) (o := .cells #[.int .i64 t169, .int .i64 t170, .string t171] 23 (0, 0)) (by (with_reducible repeat (first | refine blk_drewN ?_ _ | refine blk_drew ?_ | refine blk_alloc ?_ _)); refine blk_put (cs := #[.int .i64 t169, .int .i64 t170, .string (⟨#[]⟩ : ByteArray)]) ?_ 2 _ rfl; (with_reducible repeat (first | refine blk_drewN ?_ _ | refine blk_drew ?_ | refine blk_alloc ?_ _)); refine blk_put (cs := #[.int .i64 t169, .int .i64 0, .string (⟨#[]⟩ : ByteArray)]) ?_ 1 _ rfl; (with_reducible repeat (first | refine blk_drewN ?_ _ | refine blk_drew ?_ | refine blk_alloc ?_ _)); refine blk_put (cs := #[.int .i64 0, .int .i64 0, .string (⟨#[]⟩ : ByteArray)]) ?_ 0 _ rfl; (with_reducible repeat (first | refine blk_drewN ?_ _ | refine blk_drew ?_ | refine blk_alloc ?_ _)); exact BK173.out) hb); have n1_ := Aside0.mk (below_step (by repeat (first | (with_reducible first | exact HB.out | apply below_alloc | apply pw_below_drewN | apply below_drew1 | refine below_set ?_ GE173.out) | exact HB.out)) hb); clear BK173; clear HB; have BK173 := n0_; have HB := n1_; clear n0_ n1_; (try clear hb); (try clear hb2); (try clear hk); (try clear hi)) | ((with_reducible refine gate_dst (N := 5) rfl ?_); (try (refine gate_guard (by rfl) ?_; dsimp only)); refine box_event ?hg (N := 5) ?hd (cs := #[.int .i64 0, .int .i64 0, .string (⟨#[]⟩ : ByteArray)]) (t := 23) ?hr ?_; (case hd => rfl); (case hg => rfl); (case hr => first | (go_simp; done) | (go_simp; rfl)); intro gb178 hg w17 hbox hb; have n0_ := Aside0.mk (blk_below (g := gb173) (o := .cells #[.int .i64 t169, .int .i64 t170, .string t171] 23 (0, 0)) (by (with_reducible repeat (first | refine blk_drewN ?_ _ | refine blk_drew ?_ | refine blk_alloc ?_ _)); exact BK173.out) hb); have n1_ := Aside0.mk (below_step (by repeat (first | (with_reducible first | exact HB.out | apply below_alloc | apply pw_below_drewN | apply below_drew1 | refine below_set ?_ GE173.out) | exact HB.out)) hb); have n2_ := Aside0.mk (hbox); have n3_ := Aside0.mk ((by rw [hg]; exact (below_size (by repeat (first | (with_reducible first | exact HB.out | apply below_alloc | apply pw_below_drewN | apply below_drew1 | refine below_set ?_ GE173.out) | exact HB.out))) : w.heap.size ≤ gb178)); have n4_ := Aside0.mk ((by rw [hg]; exact (below_size (by repeat (first | (with_reducible first | exact HB.out | apply below_alloc | apply pw_below_drewN | apply below_drew1 | refine below_set ?_ GE173.out) | exact HB.out))) : w.heap.size ≤ gb178)); have n5_ := Aside0.mk ((by rw [hg]; exact Nat.ne_of_lt (blk_lt (g := gb173) (o := .cells #[.int .i64 t169, .int .i64 t170, .string t171] 23 (0, 0)) (by (with_reducible repeat (first | refine blk_drewN ?_ _ | refine blk_drew ?_ | refine blk_alloc ?_ _)); exact BK173.out)) : gb173 ≠ gb178)); have n6_ := Aside0.mk ((by rw [hg]; exact Nat.ne_of_gt (blk_lt (g := gb173) (o := .cells #[.int .i64 t169, .int .i64 t170, .string t171] 23 (0, 0)) (by (with_reducible repeat (first | refine blk_drewN ?_ _ | refine blk_drew ?_ | refine blk_alloc ?_ _)); exact BK173.out)) : gb178 ≠ gb173)); clear BK173; clear HB; have BK173 := n0_; have HB := n1_; have BK178 := n2_; have GW178 := n3_; have GE178 := n4_; have NB173_178 := n5_; have NB178_173 := n6_; clear n0_ n1_ n2_ n3_ n4_ n5_ n6_; clear hb hbox hg; have hnb18 := NB178_173.out; have hnc18 := NB173_178.out; have hcz19_0 : w17.cell? ⟨gb178, 0, none⟩ = some (.int .i64 0) := (blk_cell BK178.out 0).trans rfl; have hcz19_1 : w17.cell? ⟨gb178, 1, none⟩ = some (.int .i64 0) := (blk_cell BK178.out 1).trans rfl; have hcz19_2 : w17.cell? ⟨gb178, 2, none⟩ = some (.string (⟨#[]⟩ : ByteArray)) := (blk_cell BK178.out 2).trans rfl; have hfz19_0 := blk_frozen BK178.out 0; have hfz19_1 := blk_frozen BK178.out 1; have hfz19_2 := blk_frozen BK178.out 2; have hcz20_0 : w17.cell? ⟨gb173, 0, none⟩ = some (.int .i64 t169) := (blk_cell BK173.out 0).trans rfl; have hcz20_1 : w17.cell? ⟨gb173, 1, none⟩ = some (.int .i64 t170) := (blk_cell BK173.out 1).trans rfl; have hcz20_2 : w17.cell? ⟨gb173, 2, none⟩ = some (.string t171) := (blk_cell BK173.out 2).trans rfl; have hfz20_0 := blk_frozen BK173.out 0; have hfz20_1 := blk_frozen BK173.out 1; have hfz20_2 := blk_frozen BK173.out 2))
          go_ret
          exact ⟨by first | rfl | (simp [errW_none, errW_some] <;> rfl) | (simp [*, errW_none, errW_some] <;> rfl), by repeat (first | (with_reducible first | exact HB.out | apply below_alloc | apply pw_below_drewN | apply below_drew1 | refine below_set ?_ GE173.out | refine below_set ?_ GE178.out) | exact HB.out)⟩
        · rw [if_neg c12] at H
          have c12b0 : (t169 == t174 && (t170 == t175 && (t171.toList == t176.toList))) = false := by simpa using c12
          (try (have c12b1 : decide (t169 = t174 && (t170 == t175 && (t171.toList == t176.toList))) = false := by simpa using c12))
          (try (have c12b2 : (t169 == t174 && (t170 == t175 && (t171.toList == t176.toList))) = false := by simpa using c12))
          (try (have c12b3 : ¬ (t169 = t174 && (t170 == t175 && (t171.toList == t176.toList))) := by simpa using c12))
          clear c12
          obtain rfl := Option.some.inj H
          go_wp2_with (first | ((with_reducible refine gate_callee (f := 19) rfl ?_); refine goesL_ (some 17) rfl rfl Tryd.func19 (by kernel_rfl) rfl #[.string a0] rfl (by (try simp only [List.map_toArray, List.map_cons, List.map_nil]); first | done | rfl | (simp only [List.length_drop, List.length_take]; rfl)) ?_; (with_reducible refine (value_Read.calls a0 t169 t170 t171 t172 _ ?side1 A10.out).mono ?_); (case side1 => (first | (refine LaidW.below HLW.out ?_; (repeat (first | (with_reducible first | exact HB.out | apply below_alloc | apply pw_below_drewN | apply below_drew1) | exact HB.out)); done) | (repeat (first | exact HLW.out | apply LaidW.drewN | apply LaidW.drew | apply LaidW.alloc)))); rintro e w21 ⟨rfl, hb⟩; refine ⟨_, rfl, ?_⟩; have n0_ := Aside0.mk (below_step (by repeat (first | (with_reducible first | exact HB.out | apply below_alloc | apply pw_below_drewN | apply below_drew1) | exact HB.out)) hb); clear HB; have HB := n0_; clear n0_; (try clear hb); (try clear hb2); (try clear hk); (try clear hi)) | ((with_reducible refine gate_dst (N := 3) rfl ?_); (try (refine gate_guard (by rfl) ?_; dsimp only)); refine box_event ?hg (N := 3) ?hd (cs := #[.int .i64 0, .int .i64 0, .string (⟨#[]⟩ : ByteArray)]) (t := 23) ?hr ?_; (case hd => rfl); (case hg => rfl); (case hr => first | (go_simp; done) | (go_simp; rfl)); intro gb173 hg w22 hbox hb; have n0_ := Aside0.mk (below_step (by repeat (first | (with_reducible first | exact HB.out | apply below_alloc | apply pw_below_drewN | apply below_drew1) | exact HB.out)) hb); have n1_ := Aside0.mk (hbox); have n2_ := Aside0.mk ((by rw [hg]; exact (below_size (by repeat (first | (with_reducible first | exact HB.out | apply below_alloc | apply pw_below_drewN | apply below_drew1) | exact HB.out))) : w.heap.size ≤ gb173)); have n3_ := Aside0.mk ((by rw [hg]; exact (below_size (by repeat (first | (with_reducible first | exact HB.out | apply below_alloc | apply pw_below_drewN | apply below_drew1) | exact HB.out))) : w.heap.size ≤ gb173)); clear HB; have HB := n0_; have BK173 := n1_; have GW173 := n2_; have GE173 := n3_; clear n0_ n1_ n2_ n3_; clear hb hbox hg; have hcz23_0 : w22.cell? ⟨gb173, 0, none⟩ = some (.int .i64 0) := (blk_cell BK173.out 0).trans rfl; have hcz23_1 : w22.cell? ⟨gb173, 1, none⟩ = some (.int .i64 0) := (blk_cell BK173.out 1).trans rfl; have hcz23_2 : w22.cell? ⟨gb173, 2, none⟩ = some (.string (⟨#[]⟩ : ByteArray)) := (blk_cell BK173.out 2).trans rfl; have hfz23_0 := blk_frozen BK173.out 0; have hfz23_1 := blk_frozen BK173.out 1; have hfz23_2 := blk_frozen BK173.out 2) | ((with_reducible refine gate_callee (f := 20) rfl ?_); refine goesL_ (some 22) rfl rfl Tryd.func20 (by kernel_rfl) rfl #[.string a0] rfl (by (try simp only [List.map_toArray, List.map_cons, List.map_nil]); first | done | rfl | (simp only [List.length_drop, List.length_take]; rfl)) ?_; (with_reducible refine (antecedentref02_Read.calls kj1 a0 t174 t175 t176 t177 _ A11.out).mono ?_); rintro e w24 ⟨rfl, hb⟩; refine ⟨_, rfl, ?_⟩; have n0_ := Aside0.mk (blk_below (g := gb173) (o := .cells #[.int .i64 t169, .int .i64 t170, .string t171] 23 (0, 0)) (by (with_reducible repeat (first | refine blk_drewN ?_ _ | refine blk_drew ?_ | refine blk_alloc ?_ _)); refine blk_put (cs := #[.int .i64 t169, .int .i64 t170, .string (⟨#[]⟩ : ByteArray)]) ?_ 2 _ rfl; (with_reducible repeat (first | refine blk_drewN ?_ _ | refine blk_drew ?_ | refine blk_alloc ?_ _)); refine blk_put (cs := #[.int .i64 t169, .int .i64 0, .string (⟨#[]⟩ : ByteArray)]) ?_ 1 _ rfl; (with_reducible repeat (first | refine blk_drewN ?_ _ | refine blk_drew ?_ | refine blk_alloc ?_ _)); refine blk_put (cs := #[.int .i64 0, .int .i64 0, .string (⟨#[]⟩ : ByteArray)]) ?_ 0 _ rfl; (with_reducible repeat (first | refine blk_drewN ?_ _ | refine blk_drew ?_ | refine blk_alloc ?_ _)); exact BK173.out) hb); have n1_ := Aside0.mk (below_step (by repeat (first | (with_reducible first | exact HB.out | apply below_alloc | apply pw_below_drewN | apply below_drew1 | refine below_set ?_ GE173.out) | exact HB.out)) hb); clear BK173; clear HB; have BK173 := n0_; have HB := n1_; clear n0_ n1_; (try clear hb); (try clear hb2); (try clear hk); (try clear hi)) | ((with_reducible refine gate_dst (N := 5) rfl ?_); (try (refine gate_guard (by rfl) ?_; dsimp only)); refine box_event ?hg (N := 5) ?hd (cs := #[.int .i64 0, .int .i64 0, .string (⟨#[]⟩ : ByteArray)]) (t := 23) ?hr ?_; (case hd => rfl); (case hg => rfl); (case hr => first | (go_simp; done) | (go_simp; rfl)); intro gb178 hg w25 hbox hb; have n0_ := Aside0.mk (blk_below (g := gb173) (o := .cells #[.int .i64 t169, .int .i64 t170, .string t171] 23 (0, 0)) (by (with_reducible repeat (first | refine blk_drewN ?_ _ | refine blk_drew ?_ | refine blk_alloc ?_ _)); exact BK173.out) hb); have n1_ := Aside0.mk (below_step (by repeat (first | (with_reducible first | exact HB.out | apply below_alloc | apply pw_below_drewN | apply below_drew1 | refine below_set ?_ GE173.out) | exact HB.out)) hb); have n2_ := Aside0.mk (hbox); have n3_ := Aside0.mk ((by rw [hg]; exact (below_size (by repeat (first | (with_reducible first | exact HB.out | apply below_alloc | apply pw_below_drewN | apply below_drew1 | refine below_set ?_ GE173.out) | exact HB.out))) : w.heap.size ≤ gb178)); have n4_ := Aside0.mk ((by rw [hg]; exact (below_size (by repeat (first | (with_reducible first | exact HB.out | apply below_alloc | apply pw_below_drewN | apply below_drew1 | refine below_set ?_ GE173.out) | exact HB.out))) : w.heap.size ≤ gb178)); have n5_ := Aside0.mk ((by rw [hg]; exact Nat.ne_of_lt (blk_lt (g := gb173) (o := .cells #[.int .i64 t169, .int .i64 t170, .string t171] 23 (0, 0)) (by (with_reducible repeat (first | refine blk_drewN ?_ _ | refine blk_drew ?_ | refine blk_alloc ?_ _)); exact BK173.out)) : gb173 ≠ gb178)); have n6_ := Aside0.mk ((by rw [hg]; exact Nat.ne_of_gt (blk_lt (g := gb173) (o := .cells #[.int .i64 t169, .int .i64 t170, .string t171] 23 (0, 0)) (by (with_reducible repeat (first | refine blk_drewN ?_ _ | refine blk_drew ?_ | refine blk_alloc ?_ _)); exact BK173.out)) : gb178 ≠ gb173)); clear BK173; clear HB; have BK173 := n0_; have HB := n1_; have BK178 := n2_; have GW178 := n3_; have GE178 := n4_; have NB173_178 := n5_; have NB178_173 := n6_; clear n0_ n1_ n2_ n3_ n4_ n5_ n6_; clear hb hbox hg; have hnb26 := NB178_173.out; have hnc26 := NB173_178.out; have hcz27_0 : w25.cell? ⟨gb178, 0, none⟩ = some (.int .i64 0) := (blk_cell BK178.out 0).trans rfl; have hcz27_1 : w25.cell? ⟨gb178, 1, none⟩ = some (.int .i64 0) := (blk_cell BK178.out 1).trans rfl; have hcz27_2 : w25.cell? ⟨gb178, 2, none⟩ = some (.string (⟨#[]⟩ : ByteArray)) := (blk_cell BK178.out 2).trans rfl; have hfz27_0 := blk_frozen BK178.out 0; have hfz27_1 := blk_frozen BK178.out 1; have hfz27_2 := blk_frozen BK178.out 2; have hcz28_0 : w25.cell? ⟨gb173, 0, none⟩ = some (.int .i64 t169) := (blk_cell BK173.out 0).trans rfl; have hcz28_1 : w25.cell? ⟨gb173, 1, none⟩ = some (.int .i64 t170) := (blk_cell BK173.out 1).trans rfl; have hcz28_2 : w25.cell? ⟨gb173, 2, none⟩ = some (.string t171) := (blk_cell BK173.out 2).trans rfl; have hfz28_0 := blk_frozen BK173.out 0; have hfz28_1 := blk_frozen BK173.out 1; have hfz28_2 := blk_frozen BK173.out 2))
          go_ret
          exact ⟨by first | rfl | (simp [errW_none, errW_some] <;> rfl) | (simp [*, errW_none, errW_some] <;> rfl), by repeat (first | (with_reducible first | exact HB.out | apply below_alloc | apply pw_below_drewN | apply below_drew1 | refine below_set ?_ GE173.out | refine below_set ?_ GE178.out) | exact HB.out)⟩

/-! ### antecedentlaw02_ValueBack: function 5 -/
mutual
def antecedentlaw02_ValueBack.j0 : Nat → ByteArray → Bool → Int → Int → ByteArray → Option (Bool)
  | 0, _, _, _, _, _ => none
  | k + 1, x1, x15, x180000, x180001, x180002 => if x15 = true then ((antecedentlaw02_awake.f k).bind fun t181 => (some t181)) else ((value_Text.f x180000 x180001 x180002).bind fun t182 => ((value_Read.f t182).bind fun bt183 => ((value_Right.f k x180000 x180001 x180002).bind fun t188 => (if t188 = true then (if bt183.2.2.2 = 0 then (if (!(bt183.1 == x180000) || (!(bt183.2.1 == x180001) || (!(bt183.2.2.1.toList == x180002.toList)))) = true then (antecedentlaw02_ValueBack.j1 k x1 true) else ((value_Right.f k x180000 x180001 x180002).bind fun t189 => (if t189 = true then (antecedentlaw02_ValueBack.j1 k x1 false) else (if bt183.2.2.2 = 2 then ((value_Text.f x180000 x180001 x180002).bind fun t190 => (antecedentlaw02_ValueBack.j1 k x1 (t190.toList != ([] : List UInt8)))) else (antecedentlaw02_ValueBack.j1 k x1 true))))) else (antecedentlaw02_ValueBack.j1 k x1 true)) else ((value_Right.f k x180000 x180001 x180002).bind fun t191 => (if t191 = true then (antecedentlaw02_ValueBack.j1 k x1 false) else (if bt183.2.2.2 = 2 then ((value_Text.f x180000 x180001 x180002).bind fun t192 => (antecedentlaw02_ValueBack.j1 k x1 (t192.toList != ([] : List UInt8)))) else (antecedentlaw02_ValueBack.j1 k x1 true))))))))
def antecedentlaw02_ValueBack.j1 : Nat → ByteArray → Bool → Option (Bool)
  | 0, _, _ => none
  | k + 1, x1, x47 => if x47 = true then (some false) else ((value_Read.f x1).bind fun bt193 => (if bt193.2.2.2 = 0 then ((value_Text.f bt193.1 bt193.2.1 bt193.2.2.1).bind fun t198 => (if t198.toList = x1.toList then ((value_Right.f k bt193.1 bt193.2.1 bt193.2.2.1).bind fun t199 => (some t199)) else (some false))) else (if bt193.2.2.2 = 2 then (some (bt193.1 == 0 && (bt193.2.1 == 0 && (bt193.2.2.1.toList == ([] : List UInt8))))) else (some false))))
end
def antecedentlaw02_ValueBack.f (k : Nat) (a0_0 : Int) (a0_1 : Int) (a0_2 : ByteArray) (a1 : ByteArray) : Option (Bool) := (antecedentlaw02_awake.f k).bind fun t180 => (if t180 = true then (antecedentlaw02_ValueBack.j0 k a1 (decide ((a1.size : Int) > 100)) a0_0 a0_1 a0_2) else (antecedentlaw02_ValueBack.j0 k a1 true a0_0 a0_1 a0_2))
theorem antecedentlaw02_ValueBack.mono_l : ∀ k, (∀ y0 y1 y2 y3 y4, LeO (antecedentlaw02_ValueBack.j0 k y0 y1 y2 y3 y4) (antecedentlaw02_ValueBack.j0 (k + 1) y0 y1 y2 y3 y4)) ∧ (∀ y0 y1, LeO (antecedentlaw02_ValueBack.j1 k y0 y1) (antecedentlaw02_ValueBack.j1 (k + 1) y0 y1))
  | 0 => ⟨fun _ _ _ _ _ r h => by simp [antecedentlaw02_ValueBack.j0] at h, fun _ _ r h => by simp [antecedentlaw02_ValueBack.j1] at h⟩
  | k + 1 => by
    obtain ⟨ih0, ih1⟩ := antecedentlaw02_ValueBack.mono_l k
    refine ⟨?_, ?_⟩
    · intro y0 y1 y2 y3 y4
      unfold antecedentlaw02_ValueBack.j0
      repeat' first
      | (with_reducible exact ih0 _ _ _ _ _)
      | (with_reducible exact ih1 _ _)
      | (with_reducible exact antecedentlaw02_awake.mono _)
      | (with_reducible exact value_Right.mono _ _ _ _)
      | (with_reducible exact LeO.refl _)
      | (with_reducible exact LeO.none _)
      | (with_reducible refine LeO.ite ?_ ?_)
      | (with_reducible refine LeO.bind ?_ (fun _ => ?_))
      | exact ih0 _ _ _ _ _
      | exact ih1 _ _
      | exact antecedentlaw02_awake.mono _
      | exact value_Right.mono _ _ _ _
      | exact LeO.none _
      | refine LeO.ite ?_ ?_
      | refine LeO.bind ?_ (fun _ => ?_)
    · intro y0 y1
      unfold antecedentlaw02_ValueBack.j1
      repeat' first
      | (with_reducible exact ih0 _ _ _ _ _)
      | (with_reducible exact ih1 _ _)
      | (with_reducible exact antecedentlaw02_awake.mono _)
      | (with_reducible exact value_Right.mono _ _ _ _)
      | (with_reducible exact LeO.refl _)
      | (with_reducible exact LeO.none _)
      | (with_reducible refine LeO.ite ?_ ?_)
      | (with_reducible refine LeO.bind ?_ (fun _ => ?_))
      | exact ih0 _ _ _ _ _
      | exact ih1 _ _
      | exact antecedentlaw02_awake.mono _
      | exact value_Right.mono _ _ _ _
      | exact LeO.none _
      | refine LeO.ite ?_ ?_
      | refine LeO.bind ?_ (fun _ => ?_)
theorem antecedentlaw02_ValueBack.mono : ∀ a0 a1 a2 a3 k, LeO (antecedentlaw02_ValueBack.f k a0 a1 a2 a3) (antecedentlaw02_ValueBack.f (k + 1) a0 a1 a2 a3) := by
  intro a0 a1 a2 a3 k
  obtain ⟨ih0, ih1⟩ := antecedentlaw02_ValueBack.mono_l k
  unfold antecedentlaw02_ValueBack.f
  repeat' first
      | (with_reducible exact ih0 _ _ _ _ _)
      | (with_reducible exact ih1 _ _)
      | (with_reducible exact antecedentlaw02_awake.mono _)
      | (with_reducible exact value_Right.mono _ _ _ _)
      | (with_reducible exact LeO.refl _)
      | (with_reducible exact LeO.none _)
      | (with_reducible refine LeO.ite ?_ ?_)
      | (with_reducible refine LeO.bind ?_ (fun _ => ?_))
      | exact ih0 _ _ _ _ _
      | exact ih1 _ _
      | exact antecedentlaw02_awake.mono _
      | exact value_Right.mono _ _ _ _
      | exact LeO.none _
      | refine LeO.ite ?_ ?_
      | refine LeO.bind ?_ (fun _ => ?_)
set_option maxHeartbeats 8000000 in
set_option maxRecDepth 100000 in
theorem antecedentlaw02_ValueBack.calls (k : Nat) (a0_0 : Int) (a0_1 : Int) (a0_2 : ByteArray) (a1 : ByteArray) (r : Bool) (w : World) (hLW : LaidW w) (h : antecedentlaw02_ValueBack.f k a0_0 a0_1 a0_2 a1 = some r) :
    Calls Tryd.prog 5 #[.agg #[.int .i64 a0_0, .int .i64 a0_1, .string a0_2], .string a1] w fun e w' => e = .returned (.bool r) ∧ Below w.heap.size w w' := by
  have hu23 := Tryd.underlying23
  have HLW := Aside0.mk hLW
  clear hLW
  have HB := Aside0.mk (Below.refl w.heap.size w)
  have H : ((antecedentlaw02_awake.f k).bind fun t180 => (if t180 = true then (antecedentlaw02_ValueBack.j0 k a1 (decide ((a1.size : Int) > 100)) a0_0 a0_1 a0_2) else (antecedentlaw02_ValueBack.j0 k a1 true a0_0 a0_1 a0_2))) = some r := h
  clear h
  have HC3 := Aside0.mk H
  clear H
  go_enter Tryd.func5, Tryd.ntmps5
  go_upto_region 1 with (first | ((with_reducible refine gate_dst (N := 2) rfl ?_); (try (refine gate_guard (by rfl) ?_; dsimp only)); refine box_event ?hg (N := 2) ?hd (cs := #[.int .i64 a0_0, .int .i64 a0_1, .string a0_2]) (t := 23) ?hr ?_; (case hd => rfl); (case hg => rfl); (case hr => first | (go_simp; done) | (go_simp; rfl)); intro gb179 hg w4 hbox hb; have n0_ := Aside0.mk (below_step (by repeat (first | (with_reducible first | exact HB.out | apply below_alloc | apply pw_below_drewN | apply below_drew1) | exact HB.out)) hb); have n1_ := Aside0.mk (hbox); have n2_ := Aside0.mk ((by rw [hg]; exact (below_size (by repeat (first | (with_reducible first | exact HB.out | apply below_alloc | apply pw_below_drewN | apply below_drew1) | exact HB.out))) : w.heap.size ≤ gb179)); have n3_ := Aside0.mk ((by rw [hg]; exact (below_size (by repeat (first | (with_reducible first | exact HB.out | apply below_alloc | apply pw_below_drewN | apply below_drew1) | exact HB.out))) : w.heap.size ≤ gb179)); clear HB; have HB := n0_; have BK179 := n1_; have GW179 := n2_; have GE179 := n3_; clear n0_ n1_ n2_ n3_; clear hb hbox hg))
  (try simp only [Act.put, List.setIfInBounds_toArray, List.set_cons_zero, List.set_cons_succ])
  go_cut [15] (fun v15 wc => ∃ (kq : Nat) (x15_2 : Bool), v15 = .bool x15_2 ∧ Aside0 (antecedentlaw02_ValueBack.j0 kq a1 x15_2 a0_0 a0_1 a0_2 = some r) ∧ Aside0 (kq ≤ k) ∧ Aside0 (wc.heap[gb179]? = some (.cells #[.int .i64 a0_0, .int .i64 a0_1, .string a0_2] 23 (0, 0))) ∧ Aside0 (Below w.heap.size w wc))
  case first =>
    have H := HC3.out
    clear HC3
    replace H := Option.bind_eq_some_iff.mp H
    obtain ⟨t180, A50, H⟩ := H
    replace H : (if t180 = true then (antecedentlaw02_ValueBack.j0 k a1 (decide ((a1.size : Int) > 100)) a0_0 a0_1 a0_2) else (antecedentlaw02_ValueBack.j0 k a1 true a0_0 a0_1 a0_2)) = some r := H
    have A5 := Aside0.mk A50
    clear A50
    by_cases c6 : t180 = true
    · subst c6
      have H1 : (antecedentlaw02_ValueBack.j0 k a1 (decide ((a1.size : Int) > 100)) a0_0 a0_1 a0_2) = some r := by rw [if_pos rfl] at H; exact H
      clear H
      have H := H1
      clear H1
      have H' := Aside0.mk H
      clear H
      go_wp2_with (first | ((with_reducible refine gate_callee (f := 10) rfl ?_); refine goesL_ (some 9) rfl rfl Tryd.func10 (by kernel_rfl) rfl #[] rfl (by (try simp only [List.map_toArray, List.map_cons, List.map_nil]); first | done | rfl | (simp only [List.length_drop, List.length_take]; rfl)) ?_; (with_reducible refine (antecedentlaw02_awake.calls k  true _ ?side1 A5.out).mono ?_); (case side1 => (first | (refine LaidW.below HLW.out ?_; (repeat (first | (with_reducible first | exact HB.out | apply below_alloc | apply pw_below_drewN | apply below_drew1 | refine below_set ?_ GE179.out) | exact HB.out)); done) | (repeat (first | exact HLW.out | apply LaidW.drewN | apply LaidW.drew | apply LaidW.alloc)))); rintro e w7 ⟨rfl, hb⟩; refine ⟨_, rfl, ?_⟩; have n0_ := Aside0.mk (blk_below (g := gb179) (o := .cells #[.int .i64 a0_0, .int .i64 a0_1, .string a0_2] 23 (0, 0)) (by (with_reducible repeat (first | refine blk_drewN ?_ _ | refine blk_drew ?_ | refine blk_alloc ?_ _)); exact BK179.out) hb); have n1_ := Aside0.mk (below_step (by repeat (first | (with_reducible first | exact HB.out | apply below_alloc | apply pw_below_drewN | apply below_drew1 | refine below_set ?_ GE179.out) | exact HB.out)) hb); clear BK179; clear HB; have BK179 := n0_; have HB := n1_; clear n0_ n1_; (try clear hb); (try clear hb2); (try clear hk); (try clear hi)))
      go_meet
      case rel => exact ⟨_, (decide ((a1.size : Int) > 100)), (by first | rfl | (simp; done) | (simp [*]; done) | (simp; generalize ByteArray.toList _ = l_; cases l_ <;> rfl)), H', ⟨by first | omega | exact Nat.le_refl _⟩, ⟨by (with_reducible repeat (first | refine blk_drewN ?_ _ | refine blk_drew ?_ | refine blk_alloc ?_ _)); exact BK179.out⟩, ⟨by repeat (first | (with_reducible first | exact HB.out | apply below_alloc | apply pw_below_drewN | apply below_drew1 | refine below_set ?_ GE179.out) | exact HB.out)⟩⟩
    · replace c6 := Bool.eq_false_iff.mpr c6
      subst c6
      have H1 : (antecedentlaw02_ValueBack.j0 k a1 true a0_0 a0_1 a0_2) = some r := by rw [if_neg (show ¬ (false = true) by decide)] at H; exact H
      clear H
      have H := H1
      clear H1
      have H' := Aside0.mk H
      clear H
      go_wp2_with (first | ((with_reducible refine gate_callee (f := 10) rfl ?_); refine goesL_ (some 9) rfl rfl Tryd.func10 (by kernel_rfl) rfl #[] rfl (by (try simp only [List.map_toArray, List.map_cons, List.map_nil]); first | done | rfl | (simp only [List.length_drop, List.length_take]; rfl)) ?_; (with_reducible refine (antecedentlaw02_awake.calls k  false _ ?side1 A5.out).mono ?_); (case side1 => (first | (refine LaidW.below HLW.out ?_; (repeat (first | (with_reducible first | exact HB.out | apply below_alloc | apply pw_below_drewN | apply below_drew1 | refine below_set ?_ GE179.out) | exact HB.out)); done) | (repeat (first | exact HLW.out | apply LaidW.drewN | apply LaidW.drew | apply LaidW.alloc)))); rintro e w8 ⟨rfl, hb⟩; refine ⟨_, rfl, ?_⟩; have n0_ := Aside0.mk (blk_below (g := gb179) (o := .cells #[.int .i64 a0_0, .int .i64 a0_1, .string a0_2] 23 (0, 0)) (by (with_reducible repeat (first | refine blk_drewN ?_ _ | refine blk_drew ?_ | refine blk_alloc ?_ _)); exact BK179.out) hb); have n1_ := Aside0.mk (below_step (by repeat (first | (with_reducible first | exact HB.out | apply below_alloc | apply pw_below_drewN | apply below_drew1 | refine below_set ?_ GE179.out) | exact HB.out)) hb); clear BK179; clear HB; have BK179 := n0_; have HB := n1_; clear n0_ n1_; (try clear hb); (try clear hb2); (try clear hk); (try clear hi)))
      go_meet
      case rel => exact ⟨_, (true), (by first | rfl | (simp; done) | (simp [*]; done) | (simp; generalize ByteArray.toList _ = l_; cases l_ <;> rfl)), H', ⟨by first | omega | exact Nat.le_refl _⟩, ⟨by (with_reducible repeat (first | refine blk_drewN ?_ _ | refine blk_drew ?_ | refine blk_alloc ?_ _)); exact BK179.out⟩, ⟨by repeat (first | (with_reducible first | exact HB.out | apply below_alloc | apply pw_below_drewN | apply below_drew1 | refine below_set ?_ GE179.out) | exact HB.out)⟩⟩
  case rest =>
    clear HC3
    try clear c1
    try clear p2
    try clear c5
    try clear c6
    obtain ⟨kq, x15_2, rfl, HA, HJ2, BK179, HB⟩ := hcut
    cases kq with
    | zero => exact absurd HA.out (by simp [antecedentlaw02_ValueBack.j0])
    | succ kj2 =>
      have H := HA.out
      clear HA
      simp only [antecedentlaw02_ValueBack.j0] at H
      by_cases c9 : x15_2 = true
      · subst c9
        have H1 : ((antecedentlaw02_awake.f kj2).bind fun t181 => (some t181)) = some r := by rw [if_pos rfl] at H; exact H
        clear H
        have H := H1
        clear H1
        replace H := Option.bind_eq_some_iff.mp H
        obtain ⟨t181, A100, H⟩ := H
        replace H : (some t181) = some r := H
        have A10 := Aside0.mk A100
        clear A100
        obtain rfl := Option.some.inj H
        go_wp2_with (first | ((with_reducible refine gate_callee (f := 10) rfl ?_); refine goesL_ (some 16) rfl rfl Tryd.func10 (by kernel_rfl) rfl #[] rfl (by (try simp only [List.map_toArray, List.map_cons, List.map_nil]); first | done | rfl | (simp only [List.length_drop, List.length_take]; rfl)) ?_; (with_reducible refine (antecedentlaw02_awake.calls kj2  t181 _ ?side1 A10.out).mono ?_); (case side1 => (first | (refine LaidW.below HLW.out ?_; (repeat (first | (with_reducible first | exact HB.out | apply below_alloc | apply pw_below_drewN | apply below_drew1 | refine below_set ?_ GE179.out) | exact HB.out)); done) | (repeat (first | exact HLW.out | apply LaidW.drewN | apply LaidW.drew | apply LaidW.alloc)))); rintro e w11 ⟨rfl, hb⟩; refine ⟨_, rfl, ?_⟩; have n0_ := Aside0.mk (blk_below (g := gb179) (o := .cells #[.int .i64 a0_0, .int .i64 a0_1, .string a0_2] 23 (0, 0)) (by (with_reducible repeat (first | refine blk_drewN ?_ _ | refine blk_drew ?_ | refine blk_alloc ?_ _)); exact BK179.out) hb); have n1_ := Aside0.mk (below_step (by repeat (first | (with_reducible first | exact HB.out | apply below_alloc | apply pw_below_drewN | apply below_drew1 | refine below_set ?_ GE179.out) | exact HB.out)) hb); clear BK179; clear HB; have BK179 := n0_; have HB := n1_; clear n0_ n1_; (try clear hb); (try clear hb2); (try clear hk); (try clear hi)))
        go_ret
        exact ⟨by first | rfl | (simp [errW_none, errW_some] <;> rfl) | (simp [*, errW_none, errW_some] <;> rfl), by repeat (first | (with_reducible first | exact HB.out | apply below_alloc | apply pw_below_drewN | apply below_drew1 | refine below_set ?_ GE179.out) | exact HB.out)⟩
      · replace c9 := Bool.eq_false_iff.mpr c9
        subst c9
        have H1 : ((value_Text.f a0_0 a0_1 a0_2).bind fun t182 => ((value_Read.f t182).bind fun bt183 => ((value_Right.f kj2 a0_0 a0_1 a0_2).bind fun t188 => (if t188 = true then (if bt183.2.2.2 = 0 then (if (!(bt183.1 == a0_0) || (!(bt183.2.1 == a0_1) || (!(bt183.2.2.1.toList == a0_2.toList)))) = true then (antecedentlaw02_ValueBack.j1 kj2 a1 true) else ((value_Right.f kj2 a0_0 a0_1 a0_2).bind fun t189 => (if t189 = true then (antecedentlaw02_ValueBack.j1 kj2 a1 false) else (if bt183.2.2.2 = 2 then ((value_Text.f a0_0 a0_1 a0_2).bind fun t190 => (antecedentlaw02_ValueBack.j1 kj2 a1 (t190.toList != ([] : List UInt8)))) else (antecedentlaw02_ValueBack.j1 kj2 a1 true))))) else (antecedentlaw02_ValueBack.j1 kj2 a1 true)) else ((value_Right.f kj2 a0_0 a0_1 a0_2).bind fun t191 => (if t191 = true then (antecedentlaw02_ValueBack.j1 kj2 a1 false) else (if bt183.2.2.2 = 2 then ((value_Text.f a0_0 a0_1 a0_2).bind fun t192 => (antecedentlaw02_ValueBack.j1 kj2 a1 (t192.toList != ([] : List UInt8)))) else (antecedentlaw02_ValueBack.j1 kj2 a1 true)))))))) = some r := by rw [if_neg (show ¬ (false = true) by decide)] at H; exact H
        clear H
        have H := H1
        clear H1
        replace H := Option.bind_eq_some_iff.mp H
        obtain ⟨t182, A120, H⟩ := H
        replace H : ((value_Read.f t182).bind fun bt183 => ((value_Right.f kj2 a0_0 a0_1 a0_2).bind fun t188 => (if t188 = true then (if bt183.2.2.2 = 0 then (if (!(bt183.1 == a0_0) || (!(bt183.2.1 == a0_1) || (!(bt183.2.2.1.toList == a0_2.toList)))) = true then (antecedentlaw02_ValueBack.j1 kj2 a1 true) else ((value_Right.f kj2 a0_0 a0_1 a0_2).bind fun t189 => (if t189 = true then (antecedentlaw02_ValueBack.j1 kj2 a1 false) else (if bt183.2.2.2 = 2 then ((value_Text.f a0_0 a0_1 a0_2).bind fun t190 => (antecedentlaw02_ValueBack.j1 kj2 a1 (t190.toList != ([] : List UInt8)))) else (antecedentlaw02_ValueBack.j1 kj2 a1 true))))) else (antecedentlaw02_ValueBack.j1 kj2 a1 true)) else ((value_Right.f kj2 a0_0 a0_1 a0_2).bind fun t191 => (if t191 = true then (antecedentlaw02_ValueBack.j1 kj2 a1 false) else (if bt183.2.2.2 = 2 then ((value_Text.f a0_0 a0_1 a0_2).bind fun t192 => (antecedentlaw02_ValueBack.j1 kj2 a1 (t192.toList != ([] : List UInt8)))) else (antecedentlaw02_ValueBack.j1 kj2 a1 true))))))) = some r := H
        have A12 := Aside0.mk A120
        clear A120
        replace H := Option.bind_eq_some_iff.mp H
        obtain ⟨⟨t183, t184, t185, t186⟩, A130, H⟩ := H
        replace H : ((value_Right.f kj2 a0_0 a0_1 a0_2).bind fun t188 => (if t188 = true then (if t186 = 0 then (if (!(t183 == a0_0) || (!(t184 == a0_1) || (!(t185.toList == a0_2.toList)))) = true then (antecedentlaw02_ValueBack.j1 kj2 a1 true) else ((value_Right.f kj2 a0_0 a0_1 a0_2).bind fun t189 => (if t189 = true then (antecedentlaw02_ValueBack.j1 kj2 a1 false) else (if t186 = 2 then ((value_Text.f a0_0 a0_1 a0_2).bind fun t190 => (antecedentlaw02_ValueBack.j1 kj2 a1 (t190.toList != ([] : List UInt8)))) else (antecedentlaw02_ValueBack.j1 kj2 a1 true))))) else (antecedentlaw02_ValueBack.j1 kj2 a1 true)) else ((value_Right.f kj2 a0_0 a0_1 a0_2).bind fun t191 => (if t191 = true then (antecedentlaw02_ValueBack.j1 kj2 a1 false) else (if t186 = 2 then ((value_Text.f a0_0 a0_1 a0_2).bind fun t192 => (antecedentlaw02_ValueBack.j1 kj2 a1 (t192.toList != ([] : List UInt8)))) else (antecedentlaw02_ValueBack.j1 kj2 a1 true)))))) = some r := H
        have A13 := Aside0.mk A130
        clear A130
        have HC14 := Aside0.mk H
        clear H
        have hcz15_0 : wc.cell? ⟨gb179, 0, none⟩ = some (.int .i64 a0_0) := (blk_cell BK179.out 0).trans rfl
        have hcz15_1 : wc.cell? ⟨gb179, 1, none⟩ = some (.int .i64 a0_1) := (blk_cell BK179.out 1).trans rfl
        have hcz15_2 : wc.cell? ⟨gb179, 2, none⟩ = some (.string a0_2) := (blk_cell BK179.out 2).trans rfl
        have hfz15_0 := blk_frozen BK179.out 0
        have hfz15_1 := blk_frozen BK179.out 1
        have hfz15_2 := blk_frozen BK179.out 2
        go_upto_region 4 with (first | ((with_reducible refine gate_callee (f := 17) rfl ?_); refine goesL_ (some 19) rfl rfl Tryd.func17 (by kernel_rfl) rfl #[.agg #[.int .i64 a0_0, .int .i64 a0_1, .string a0_2]] rfl (by (try simp only [List.map_toArray, List.map_cons, List.map_nil]); first | done | rfl | (simp only [List.length_drop, List.length_take]; rfl)) ?_; (with_reducible refine (value_Text.calls a0_0 a0_1 a0_2 t182 _ ?side1 A12.out).mono ?_); (case side1 => (first | (refine LaidW.below HLW.out ?_; (repeat (first | (with_reducible first | exact HB.out | apply below_alloc | apply pw_below_drewN | apply below_drew1 | refine below_set ?_ GE179.out) | exact HB.out)); done) | (repeat (first | exact HLW.out | apply LaidW.drewN | apply LaidW.drew | apply LaidW.alloc)))); rintro e w16 ⟨rfl, hb⟩; refine ⟨_, rfl, ?_⟩; have n0_ := Aside0.mk (blk_below (g := gb179) (o := .cells #[.int .i64 a0_0, .int .i64 a0_1, .string a0_2] 23 (0, 0)) (by (with_reducible repeat (first | refine blk_drewN ?_ _ | refine blk_drew ?_ | refine blk_alloc ?_ _)); exact BK179.out) hb); have n1_ := Aside0.mk (below_step (by repeat (first | (with_reducible first | exact HB.out | apply below_alloc | apply pw_below_drewN | apply below_drew1 | refine below_set ?_ GE179.out) | exact HB.out)) hb); clear BK179; clear HB; have BK179 := n0_; have HB := n1_; clear n0_ n1_; (try clear hb); (try clear hb2); (try clear hk); (try clear hi)) | ((with_reducible refine gate_callee (f := 19) rfl ?_); refine goesL_ (some 20) rfl rfl Tryd.func19 (by kernel_rfl) rfl #[.string t182] rfl (by (try simp only [List.map_toArray, List.map_cons, List.map_nil]); first | done | rfl | (simp only [List.length_drop, List.length_take]; rfl)) ?_; (with_reducible refine (value_Read.calls t182 t183 t184 t185 t186 _ ?side1 A13.out).mono ?_); (case side1 => (first | (refine LaidW.below HLW.out ?_; (repeat (first | (with_reducible first | exact HB.out | apply below_alloc | apply pw_below_drewN | apply below_drew1 | refine below_set ?_ GE179.out) | exact HB.out)); done) | (repeat (first | exact HLW.out | apply LaidW.drewN | apply LaidW.drew | apply LaidW.alloc)))); rintro e w17 ⟨rfl, hb⟩; refine ⟨_, rfl, ?_⟩; have n0_ := Aside0.mk (blk_below (g := gb179) (o := .cells #[.int .i64 a0_0, .int .i64 a0_1, .string a0_2] 23 (0, 0)) (by (with_reducible repeat (first | refine blk_drewN ?_ _ | refine blk_drew ?_ | refine blk_alloc ?_ _)); exact BK179.out) hb); have n1_ := Aside0.mk (below_step (by repeat (first | (with_reducible first | exact HB.out | apply below_alloc | apply pw_below_drewN | apply below_drew1 | refine below_set ?_ GE179.out) | exact HB.out)) hb); clear BK179; clear HB; have BK179 := n0_; have HB := n1_; clear n0_ n1_; (try clear hb); (try clear hb2); (try clear hk); (try clear hi)) | ((with_reducible refine gate_dst (N := 5) rfl ?_); (try (refine gate_guard (by rfl) ?_; dsimp only)); refine box_event ?hg (N := 5) ?hd (cs := #[.int .i64 0, .int .i64 0, .string (⟨#[]⟩ : ByteArray)]) (t := 23) ?hr ?_; (case hd => rfl); (case hg => rfl); (case hr => first | (go_simp; done) | (go_simp; rfl)); intro gb187 hg w18 hbox hb; have n0_ := Aside0.mk (blk_below (g := gb179) (o := .cells #[.int .i64 a0_0, .int .i64 a0_1, .string a0_2] 23 (0, 0)) (by (with_reducible repeat (first | refine blk_drewN ?_ _ | refine blk_drew ?_ | refine blk_alloc ?_ _)); exact BK179.out) hb); have n1_ := Aside0.mk (below_step (by repeat (first | (with_reducible first | exact HB.out | apply below_alloc | apply pw_below_drewN | apply below_drew1 | refine below_set ?_ GE179.out) | exact HB.out)) hb); have n2_ := Aside0.mk (hbox); have n3_ := Aside0.mk ((by rw [hg]; exact (below_size (by repeat (first | (with_reducible first | exact HB.out | apply below_alloc | apply pw_below_drewN | apply below_drew1 | refine below_set ?_ GE179.out) | exact HB.out))) : w.heap.size ≤ gb187)); have n4_ := Aside0.mk ((by rw [hg]; exact (below_size (by repeat (first | (with_reducible first | exact HB.out | apply below_alloc | apply pw_below_drewN | apply below_drew1 | refine below_set ?_ GE179.out) | exact HB.out))) : w.heap.size ≤ gb187)); have n5_ := Aside0.mk ((by rw [hg]; exact Nat.ne_of_lt (blk_lt (g := gb179) (o := .cells #[.int .i64 a0_0, .int .i64 a0_1, .string a0_2] 23 (0, 0)) (by (with_reducible repeat (first | refine blk_drewN ?_ _ | refine blk_drew ?_ | refine blk_alloc ?_ _)); exact BK179.out)) : gb179 ≠ gb187)); have n6_ := Aside0.mk ((by rw [hg]; exact Nat.ne_of_gt (blk_lt (g := gb179) (o := .cells #[.int .i64 a0_0, .int .i64 a0_1, .string a0_2] 23 (0, 0)) (by (with_reducible repeat (first | refine blk_drewN ?_ _ | refine blk_drew ?_ | refine blk_alloc ?_ _)); exact BK179.out)) : gb187 ≠ gb179)); clear BK179; clear HB; have BK179 := n0_; have HB := n1_; have BK187 := n2_; have GW187 := n3_; have GE187 := n4_; have NB179_187 := n5_; have NB187_179 := n6_; clear n0_ n1_ n2_ n3_ n4_ n5_ n6_; clear hb hbox hg; have hnb19 := NB187_179.out; have hnc19 := NB179_187.out; have hcz20_0 : w18.cell? ⟨gb187, 0, none⟩ = some (.int .i64 0) := (blk_cell BK187.out 0).trans rfl; have hcz20_1 : w18.cell? ⟨gb187, 1, none⟩ = some (.int .i64 0) := (blk_cell BK187.out 1).trans rfl; have hcz20_2 : w18.cell? ⟨gb187, 2, none⟩ = some (.string (⟨#[]⟩ : ByteArray)) := (blk_cell BK187.out 2).trans rfl; have hfz20_0 := blk_frozen BK187.out 0; have hfz20_1 := blk_frozen BK187.out 1; have hfz20_2 := blk_frozen BK187.out 2))
        (try simp only [Act.put, List.setIfInBounds_toArray, List.set_cons_zero, List.set_cons_succ])
        go_cut [47] (fun v47 wc => ∃ (kq : Nat) (x47_13 : Bool), v47 = .bool x47_13 ∧ Aside0 (antecedentlaw02_ValueBack.j1 kq a1 x47_13 = some r) ∧ Aside0 (kq ≤ kj2) ∧ Aside0 (wc.heap[gb179]? = some (.cells #[.int .i64 a0_0, .int .i64 a0_1, .string a0_2] 23 (0, 0))) ∧ Aside0 (wc.heap[gb187]? = some (.cells #[.int .i64 t183, .int .i64 t184, .string t185] 23 (0, 0))) ∧ Aside0 (Below w.heap.size w wc))
        case first =>
          have H := HC14.out
          clear HC14
          replace H := Option.bind_eq_some_iff.mp H
          obtain ⟨t188, A210, H⟩ := H
          replace H : (if t188 = true then (if t186 = 0 then (if (!(t183 == a0_0) || (!(t184 == a0_1) || (!(t185.toList == a0_2.toList)))) = true then (antecedentlaw02_ValueBack.j1 kj2 a1 true) else ((value_Right.f kj2 a0_0 a0_1 a0_2).bind fun t189 => (if t189 = true then (antecedentlaw02_ValueBack.j1 kj2 a1 false) else (if t186 = 2 then ((value_Text.f a0_0 a0_1 a0_2).bind fun t190 => (antecedentlaw02_ValueBack.j1 kj2 a1 (t190.toList != ([] : List UInt8)))) else (antecedentlaw02_ValueBack.j1 kj2 a1 true))))) else (antecedentlaw02_ValueBack.j1 kj2 a1 true)) else ((value_Right.f kj2 a0_0 a0_1 a0_2).bind fun t191 => (if t191 = true then (antecedentlaw02_ValueBack.j1 kj2 a1 false) else (if t186 = 2 then ((value_Text.f a0_0 a0_1 a0_2).bind fun t192 => (antecedentlaw02_ValueBack.j1 kj2 a1 (t192.toList != ([] : List UInt8)))) else (antecedentlaw02_ValueBack.j1 kj2 a1 true))))) = some r := H
          have A21 := Aside0.mk A210
          clear A210
          by_cases c22 : t188 = true
          · subst c22
            have H1 : (if t186 = 0 then (if (!(t183 == a0_0) || (!(t184 == a0_1) || (!(t185.toList == a0_2.toList)))) = true then (antecedentlaw02_ValueBack.j1 kj2 a1 true) else ((value_Right.f kj2 a0_0 a0_1 a0_2).bind fun t189 => (if t189 = true then (antecedentlaw02_ValueBack.j1 kj2 a1 false) else (if t186 = 2 then ((value_Text.f a0_0 a0_1 a0_2).bind fun t190 => (antecedentlaw02_ValueBack.j1 kj2 a1 (t190.toList != ([] : List UInt8)))) else (antecedentlaw02_ValueBack.j1 kj2 a1 true))))) else (antecedentlaw02_ValueBack.j1 kj2 a1 true)) = some r := by rw [if_pos rfl] at H; exact H
            clear H
            have H := H1
            clear H1
            by_cases c23 : t186 = 0
            · rw [if_pos c23] at H
              have c23b0 : (t186 == 0) = true := beq_iff_eq.mpr c23
              have c23b1 : (t186 != 0) = false := bne_eq_false_iff_eq.mpr c23
              clear c23
              (first | rw [c23b0] | (simp only [i64_w, i32_w]; rw [c23b0]) | skip)
              by_cases c24 : (!(t183 == a0_0) || (!(t184 == a0_1) || (!(t185.toList == a0_2.toList)))) = true
              · rw [if_pos c24] at H
                have c24b0 : (!(t183 == a0_0) || (!(t184 == a0_1) || (!(t185.toList == a0_2.toList)))) = true := c24
                clear c24
                have H' := Aside0.mk H
                clear H
                have hnb25 := NB179_187.out
                have hnc25 := NB187_179.out
                have hcz26_0 : w18.cell? ⟨gb179, 0, none⟩ = some (.int .i64 a0_0) := (blk_cell BK179.out 0).trans rfl
                have hcz26_1 : w18.cell? ⟨gb179, 1, none⟩ = some (.int .i64 a0_1) := (blk_cell BK179.out 1).trans rfl
                have hcz26_2 : w18.cell? ⟨gb179, 2, none⟩ = some (.string a0_2) := (blk_cell BK179.out 2).trans rfl
                have hfz26_0 := blk_frozen BK179.out 0
                have hfz26_1 := blk_frozen BK179.out 1
                have hfz26_2 := blk_frozen BK179.out 2
                go_wp2_with (first | ((with_reducible refine gate_callee (f := 13) rfl ?_); refine goesL_ (some 24) rfl rfl Tryd.func13 (by kernel_rfl) rfl #[.agg #[.int .i64 a0_0, .int .i64 a0_1, .string a0_2]] rfl (by (try simp only [List.map_toArray, List.map_cons, List.map_nil]); first | done | rfl | (simp only [List.length_drop, List.length_take]; rfl)) ?_; (with_reducible refine (value_Right.calls kj2 a0_0 a0_1 a0_2 true _ A21.out).mono ?_); rintro e w27 ⟨rfl, hb⟩; refine ⟨_, rfl, ?_⟩; have n0_ := Aside0.mk (blk_below (g := gb179) (o := .cells #[.int .i64 a0_0, .int .i64 a0_1, .string a0_2] 23 (0, 0)) (by (with_reducible repeat (first | refine blk_drewN ?_ _ | refine blk_drew ?_ | refine blk_alloc ?_ _)); refine blk_far ?_ NB179_187.out _; (with_reducible repeat (first | refine blk_drewN ?_ _ | refine blk_drew ?_ | refine blk_alloc ?_ _)); refine blk_far ?_ NB179_187.out _; (with_reducible repeat (first | refine blk_drewN ?_ _ | refine blk_drew ?_ | refine blk_alloc ?_ _)); refine blk_far ?_ NB179_187.out _; (with_reducible repeat (first | refine blk_drewN ?_ _ | refine blk_drew ?_ | refine blk_alloc ?_ _)); exact BK179.out) hb); have n1_ := Aside0.mk (blk_below (g := gb187) (o := .cells #[.int .i64 t183, .int .i64 t184, .string t185] 23 (0, 0)) (by (with_reducible repeat (first | refine blk_drewN ?_ _ | refine blk_drew ?_ | refine blk_alloc ?_ _)); refine blk_put (cs := #[.int .i64 t183, .int .i64 t184, .string (⟨#[]⟩ : ByteArray)]) ?_ 2 _ rfl; (with_reducible repeat (first | refine blk_drewN ?_ _ | refine blk_drew ?_ | refine blk_alloc ?_ _)); refine blk_put (cs := #[.int .i64 t183, .int .i64 0, .string (⟨#[]⟩ : ByteArray)]) ?_ 1 _ rfl; (with_reducible repeat (first | refine blk_drewN ?_ _ | refine blk_drew ?_ | refine blk_alloc ?_ _)); refine blk_put (cs := #[.int .i64 0, .int .i64 0, .string (⟨#[]⟩ : ByteArray)]) ?_ 0 _ rfl; (with_reducible repeat (first | refine blk_drewN ?_ _ | refine blk_drew ?_ | refine blk_alloc ?_ _)); exact BK187.out) hb); have n2_ := Aside0.mk (below_step (by repeat (first | (with_reducible first | exact HB.out | apply below_alloc | apply pw_below_drewN | apply below_drew1 | refine below_set ?_ GE179.out | refine below_set ?_ GE187.out) | exact HB.out)) hb); clear BK179; clear BK187; clear HB; have BK179 := n0_; have BK187 := n1_; have HB := n2_; clear n0_ n1_ n2_; (try clear hb); (try clear hb2); (try clear hk); (try clear hi); have hcz28_0 : w27.cell? ⟨gb187, 0, none⟩ = some (.int .i64 t183) := (blk_cell BK187.out 0).trans rfl; have hcz28_1 : w27.cell? ⟨gb187, 1, none⟩ = some (.int .i64 t184) := (blk_cell BK187.out 1).trans rfl; have hcz28_2 : w27.cell? ⟨gb187, 2, none⟩ = some (.string t185) := (blk_cell BK187.out 2).trans rfl; have hfz28_0 := blk_frozen BK187.out 0; have hfz28_1 := blk_frozen BK187.out 1; have hfz28_2 := blk_frozen BK187.out 2; have hcz29_0 : w27.cell? ⟨gb179, 0, none⟩ = some (.int .i64 a0_0) := (blk_cell BK179.out 0).trans rfl; have hcz29_1 : w27.cell? ⟨gb179, 1, none⟩ = some (.int .i64 a0_1) := (blk_cell BK179.out 1).trans rfl; have hcz29_2 : w27.cell? ⟨gb179, 2, none⟩ = some (.string a0_2) := (blk_cell BK179.out 2).trans rfl; have hfz29_0 := blk_frozen BK179.out 0; have hfz29_1 := blk_frozen BK179.out 1; have hfz29_2 := blk_frozen BK179.out 2))
                go_meet
                case rel => exact ⟨_, (true), (by first | rfl | (simp; done) | (simp [*]; done) | (simp; generalize ByteArray.toList _ = l_; cases l_ <;> rfl)), H', ⟨by have := HJ2.out; first | omega | exact Nat.le_refl _⟩, ⟨by (with_reducible repeat (first | refine blk_drewN ?_ _ | refine blk_drew ?_ | refine blk_alloc ?_ _)); exact BK179.out⟩, ⟨by (with_reducible repeat (first | refine blk_drewN ?_ _ | refine blk_drew ?_ | refine blk_alloc ?_ _)); exact BK187.out⟩, ⟨by repeat (first | (with_reducible first | exact HB.out | apply below_alloc | apply pw_below_drewN | apply below_drew1 | refine below_set ?_ GE179.out | refine below_set ?_ GE187.out) | exact HB.out)⟩⟩
              · rw [if_neg c24] at H
                have c24b0 : (!(t183 == a0_0) || (!(t184 == a0_1) || (!(t185.toList == a0_2.toList)))) = false := by simpa using c24
                clear c24
                replace H := Option.bind_eq_some_iff.mp H
                obtain ⟨t189, A300, H⟩ := H
                replace H : (if t189 = true then (antecedentlaw02_ValueBack.j1 kj2 a1 false) else (if t186 = 2 then ((value_Text.f a0_0 a0_1 a0_2).bind fun t190 => (antecedentlaw02_ValueBack.j1 kj2 a1 (t190.toList != ([] : List UInt8)))) else (antecedentlaw02_ValueBack.j1 kj2 a1 true))) = some r := H
                have A30 := Aside0.mk A300
                clear A300
                by_cases c31 : t189 = true
                · subst c31
                  have H1 : (antecedentlaw02_ValueBack.j1 kj2 a1 false) = some r := by rw [if_pos rfl] at H; exact H
                  clear H
                  have H := H1
                  clear H1
                  have H' := Aside0.mk H
                  clear H
                  have hnb32 := NB179_187.out
                  have hnc32 := NB187_179.out
                  have hcz33_0 : w18.cell? ⟨gb179, 0, none⟩ = some (.int .i64 a0_0) := (blk_cell BK179.out 0).trans rfl
                  have hcz33_1 : w18.cell? ⟨gb179, 1, none⟩ = some (.int .i64 a0_1) := (blk_cell BK179.out 1).trans rfl
                  have hcz33_2 : w18.cell? ⟨gb179, 2, none⟩ = some (.string a0_2) := (blk_cell BK179.out 2).trans rfl
                  have hfz33_0 := blk_frozen BK179.out 0
                  have hfz33_1 := blk_frozen BK179.out 1
                  have hfz33_2 := blk_frozen BK179.out 2
                  go_wp2_with (first | ((with_reducible refine gate_callee (f := 13) rfl ?_); refine goesL_ (some 24) rfl rfl Tryd.func13 (by kernel_rfl) rfl #[.agg #[.int .i64 a0_0, .int .i64 a0_1, .string a0_2]] rfl (by (try simp only [List.map_toArray, List.map_cons, List.map_nil]); first | done | rfl | (simp only [List.length_drop, List.length_take]; rfl)) ?_; (with_reducible refine (value_Right.calls kj2 a0_0 a0_1 a0_2 true _ A21.out).mono ?_); rintro e w34 ⟨rfl, hb⟩; refine ⟨_, rfl, ?_⟩; have n0_ := Aside0.mk (blk_below (g := gb179) (o := .cells #[.int .i64 a0_0, .int .i64 a0_1, .string a0_2] 23 (0, 0)) (by (with_reducible repeat (first | refine blk_drewN ?_ _ | refine blk_drew ?_ | refine blk_alloc ?_ _)); refine blk_far ?_ NB179_187.out _; (with_reducible repeat (first | refine blk_drewN ?_ _ | refine blk_drew ?_ | refine blk_alloc ?_ _)); refine blk_far ?_ NB179_187.out _; (with_reducible repeat (first | refine blk_drewN ?_ _ | refine blk_drew ?_ | refine blk_alloc ?_ _)); refine blk_far ?_ NB179_187.out _; (with_reducible repeat (first | refine blk_drewN ?_ _ | refine blk_drew ?_ | refine blk_alloc ?_ _)); exact BK179.out) hb); have n1_ := Aside0.mk (blk_below (g := gb187) (o := .cells #[.int .i64 t183, .int .i64 t184, .string t185] 23 (0, 0)) (by (with_reducible repeat (first | refine blk_drewN ?_ _ | refine blk_drew ?_ | refine blk_alloc ?_ _)); refine blk_put (cs := #[.int .i64 t183, .int .i64 t184, .string (⟨#[]⟩ : ByteArray)]) ?_ 2 _ rfl; (with_reducible repeat (first | refine blk_drewN ?_ _ | refine blk_drew ?_ | refine blk_alloc ?_ _)); refine blk_put (cs := #[.int .i64 t183, .int .i64 0, .string (⟨#[]⟩ : ByteArray)]) ?_ 1 _ rfl; (with_reducible repeat (first | refine blk_drewN ?_ _ | refine blk_drew ?_ | refine blk_alloc ?_ _)); refine blk_put (cs := #[.int .i64 0, .int .i64 0, .string (⟨#[]⟩ : ByteArray)]) ?_ 0 _ rfl; (with_reducible repeat (first | refine blk_drewN ?_ _ | refine blk_drew ?_ | refine blk_alloc ?_ _)); exact BK187.out) hb); have n2_ := Aside0.mk (below_step (by repeat (first | (with_reducible first | exact HB.out | apply below_alloc | apply pw_below_drewN | apply below_drew1 | refine below_set ?_ GE179.out | refine below_set ?_ GE187.out) | exact HB.out)) hb); clear BK179; clear BK187; clear HB; have BK179 := n0_; have BK187 := n1_; have HB := n2_; clear n0_ n1_ n2_; (try clear hb); (try clear hb2); (try clear hk); (try clear hi); have hcz35_0 : w34.cell? ⟨gb187, 0, none⟩ = some (.int .i64 t183) := (blk_cell BK187.out 0).trans rfl; have hcz35_1 : w34.cell? ⟨gb187, 1, none⟩ = some (.int .i64 t184) := (blk_cell BK187.out 1).trans rfl; have hcz35_2 : w34.cell? ⟨gb187, 2, none⟩ = some (.string t185) := (blk_cell BK187.out 2).trans rfl; have hfz35_0 := blk_frozen BK187.out 0; have hfz35_1 := blk_frozen BK187.out 1; have hfz35_2 := blk_frozen BK187.out 2; have hcz36_0 : w34.cell? ⟨gb179, 0, none⟩ = some (.int .i64 a0_0) := (blk_cell BK179.out 0).trans rfl; have hcz36_1 : w34.cell? ⟨gb179, 1, none⟩ = some (.int .i64 a0_1) := (blk_cell BK179.out 1).trans rfl; have hcz36_2 : w34.cell? ⟨gb179, 2, none⟩ = some (.string a0_2) := (blk_cell BK179.out 2).trans rfl; have hfz36_0 := blk_frozen BK179.out 0; have hfz36_1 := blk_frozen BK179.out 1; have hfz36_2 := blk_frozen BK179.out 2) | (go_at_call 13; (with_reducible refine (value_Right.calls kj2 a0_0 a0_1 a0_2 true _ A30.out).mono ?_); rintro e w37 ⟨rfl, hb⟩; have n0_ := Aside0.mk (blk_below (g := gb179) (o := .cells #[.int .i64 a0_0, .int .i64 a0_1, .string a0_2] 23 (0, 0)) (by (with_reducible repeat (first | refine blk_drewN ?_ _ | refine blk_drew ?_ | refine blk_alloc ?_ _)); exact BK179.out) hb); have n1_ := Aside0.mk (blk_below (g := gb187) (o := .cells #[.int .i64 t183, .int .i64 t184, .string t185] 23 (0, 0)) (by (with_reducible repeat (first | refine blk_drewN ?_ _ | refine blk_drew ?_ | refine blk_alloc ?_ _)); exact BK187.out) hb); have n2_ := Aside0.mk (below_step (by repeat (first | (with_reducible first | exact HB.out | apply below_alloc | apply pw_below_drewN | apply below_drew1 | refine below_set ?_ GE179.out | refine below_set ?_ GE187.out) | exact HB.out)) hb); clear BK179; clear BK187; clear HB; have BK179 := n0_; have BK187 := n1_; have HB := n2_; clear n0_ n1_ n2_; (try clear hb); (try clear hb2); (try clear hk); (try clear hi)))
                  go_meet
                  case rel => exact ⟨_, (false), (by first | rfl | (simp; done) | (simp [*]; done) | (simp; generalize ByteArray.toList _ = l_; cases l_ <;> rfl)), H', ⟨by have := HJ2.out; first | omega | exact Nat.le_refl _⟩, ⟨by (with_reducible repeat (first | refine blk_drewN ?_ _ | refine blk_drew ?_ | refine blk_alloc ?_ _)); exact BK179.out⟩, ⟨by (with_reducible repeat (first | refine blk_drewN ?_ _ | refine blk_drew ?_ | refine blk_alloc ?_ _)); exact BK187.out⟩, ⟨by repeat (first | (with_reducible first | exact HB.out | apply below_alloc | apply pw_below_drewN | apply below_drew1 | refine below_set ?_ GE179.out | refine below_set ?_ GE187.out) | exact HB.out)⟩⟩
                · replace c31 := Bool.eq_false_iff.mpr c31
                  subst c31
                  have H1 : (if t186 = 2 then ((value_Text.f a0_0 a0_1 a0_2).bind fun t190 => (antecedentlaw02_ValueBack.j1 kj2 a1 (t190.toList != ([] : List UInt8)))) else (antecedentlaw02_ValueBack.j1 kj2 a1 true)) = some r := by rw [if_neg (show ¬ (false = true) by decide)] at H; exact H
                  clear H
                  have H := H1
                  clear H1
                  by_cases c38 : t186 = 2
                  · rw [if_pos c38] at H
                    have c38b0 : (t186 == 2) = true := beq_iff_eq.mpr c38
                    have c38b1 : (t186 != 2) = false := bne_eq_false_iff_eq.mpr c38
                    clear c38
                    replace H := Option.bind_eq_some_iff.mp H
                    obtain ⟨t190, A390, H⟩ := H
                    replace H : (antecedentlaw02_ValueBack.j1 kj2 a1 (t190.toList != ([] : List UInt8))) = some r := H
                    have A39 := Aside0.mk A390
                    clear A390
                    have H' := Aside0.mk H
                    clear H
                    have hnb40 := NB179_187.out
                    have hnc40 := NB187_179.out
                    have hcz41_0 : w18.cell? ⟨gb179, 0, none⟩ = some (.int .i64 a0_0) := (blk_cell BK179.out 0).trans rfl
                    have hcz41_1 : w18.cell? ⟨gb179, 1, none⟩ = some (.int .i64 a0_1) := (blk_cell BK179.out 1).trans rfl
                    have hcz41_2 : w18.cell? ⟨gb179, 2, none⟩ = some (.string a0_2) := (blk_cell BK179.out 2).trans rfl
                    have hfz41_0 := blk_frozen BK179.out 0
                    have hfz41_1 := blk_frozen BK179.out 1
                    have hfz41_2 := blk_frozen BK179.out 2
                    go_wp2_with (first | ((with_reducible refine gate_callee (f := 13) rfl ?_); refine goesL_ (some 24) rfl rfl Tryd.func13 (by kernel_rfl) rfl #[.agg #[.int .i64 a0_0, .int .i64 a0_1, .string a0_2]] rfl (by (try simp only [List.map_toArray, List.map_cons, List.map_nil]); first | done | rfl | (simp only [List.length_drop, List.length_take]; rfl)) ?_; (with_reducible refine (value_Right.calls kj2 a0_0 a0_1 a0_2 true _ A21.out).mono ?_); rintro e w42 ⟨rfl, hb⟩; refine ⟨_, rfl, ?_⟩; have n0_ := Aside0.mk (blk_below (g := gb179) (o := .cells #[.int .i64 a0_0, .int .i64 a0_1, .string a0_2] 23 (0, 0)) (by (with_reducible repeat (first | refine blk_drewN ?_ _ | refine blk_drew ?_ | refine blk_alloc ?_ _)); refine blk_far ?_ NB179_187.out _; (with_reducible repeat (first | refine blk_drewN ?_ _ | refine blk_drew ?_ | refine blk_alloc ?_ _)); refine blk_far ?_ NB179_187.out _; (with_reducible repeat (first | refine blk_drewN ?_ _ | refine blk_drew ?_ | refine blk_alloc ?_ _)); refine blk_far ?_ NB179_187.out _; (with_reducible repeat (first | refine blk_drewN ?_ _ | refine blk_drew ?_ | refine blk_alloc ?_ _)); exact BK179.out) hb); have n1_ := Aside0.mk (blk_below (g := gb187) (o := .cells #[.int .i64 t183, .int .i64 t184, .string t185] 23 (0, 0)) (by (with_reducible repeat (first | refine blk_drewN ?_ _ | refine blk_drew ?_ | refine blk_alloc ?_ _)); refine blk_put (cs := #[.int .i64 t183, .int .i64 t184, .string (⟨#[]⟩ : ByteArray)]) ?_ 2 _ rfl; (with_reducible repeat (first | refine blk_drewN ?_ _ | refine blk_drew ?_ | refine blk_alloc ?_ _)); refine blk_put (cs := #[.int .i64 t183, .int .i64 0, .string (⟨#[]⟩ : ByteArray)]) ?_ 1 _ rfl; (with_reducible repeat (first | refine blk_drewN ?_ _ | refine blk_drew ?_ | refine blk_alloc ?_ _)); refine blk_put (cs := #[.int .i64 0, .int .i64 0, .string (⟨#[]⟩ : ByteArray)]) ?_ 0 _ rfl; (with_reducible repeat (first | refine blk_drewN ?_ _ | refine blk_drew ?_ | refine blk_alloc ?_ _)); exact BK187.out) hb); have n2_ := Aside0.mk (below_step (by repeat (first | (with_reducible first | exact HB.out | apply below_alloc | apply pw_below_drewN | apply below_drew1 | refine below_set ?_ GE179.out | refine below_set ?_ GE187.out) | exact HB.out)) hb); clear BK179; clear BK187; clear HB; have BK179 := n0_; have BK187 := n1_; have HB := n2_; clear n0_ n1_ n2_; (try clear hb); (try clear hb2); (try clear hk); (try clear hi); have hcz43_0 : w42.cell? ⟨gb187, 0, none⟩ = some (.int .i64 t183) := (blk_cell BK187.out 0).trans rfl; have hcz43_1 : w42.cell? ⟨gb187, 1, none⟩ = some (.int .i64 t184) := (blk_cell BK187.out 1).trans rfl; have hcz43_2 : w42.cell? ⟨gb187, 2, none⟩ = some (.string t185) := (blk_cell BK187.out 2).trans rfl; have hfz43_0 := blk_frozen BK187.out 0; have hfz43_1 := blk_frozen BK187.out 1; have hfz43_2 := blk_frozen BK187.out 2; have hcz44_0 : w42.cell? ⟨gb179, 0, none⟩ = some (.int .i64 a0_0) := (blk_cell BK179.out 0).trans rfl; have hcz44_1 : w42.cell? ⟨gb179, 1, none⟩ = some (.int .i64 a0_1) := (blk_cell BK179.out 1).trans rfl; have hcz44_2 : w42.cell? ⟨gb179, 2, none⟩ = some (.string a0_2) := (blk_cell BK179.out 2).trans rfl; have hfz44_0 := blk_frozen BK179.out 0; have hfz44_1 := blk_frozen BK179.out 1; have hfz44_2 := blk_frozen BK179.out 2) | (go_at_call 13; (with_reducible refine (value_Right.calls kj2 a0_0 a0_1 a0_2 false _ A30.out).mono ?_); rintro e w45 ⟨rfl, hb⟩; have n0_ := Aside0.mk (blk_below (g := gb179) (o := .cells #[.int .i64 a0_0, .int .i64 a0_1, .string a0_2] 23 (0, 0)) (by (with_reducible repeat (first | refine blk_drewN ?_ _ | refine blk_drew ?_ | refine blk_alloc ?_ _)); exact BK179.out) hb); have n1_ := Aside0.mk (blk_below (g := gb187) (o := .cells #[.int .i64 t183, .int .i64 t184, .string t185] 23 (0, 0)) (by (with_reducible repeat (first | refine blk_drewN ?_ _ | refine blk_drew ?_ | refine blk_alloc ?_ _)); exact BK187.out) hb); have n2_ := Aside0.mk (below_step (by repeat (first | (with_reducible first | exact HB.out | apply below_alloc | apply pw_below_drewN | apply below_drew1 | refine below_set ?_ GE179.out | refine below_set ?_ GE187.out) | exact HB.out)) hb); clear BK179; clear BK187; clear HB; have BK179 := n0_; have BK187 := n1_; have HB := n2_; clear n0_ n1_ n2_; (try clear hb); (try clear hb2); (try clear hk); (try clear hi); have hcz46_0 : w45.cell? ⟨gb179, 0, none⟩ = some (.int .i64 a0_0) := (blk_cell BK179.out 0).trans rfl; have hcz46_1 : w45.cell? ⟨gb179, 1, none⟩ = some (.int .i64 a0_1) := (blk_cell BK179.out 1).trans rfl; have hcz46_2 : w45.cell? ⟨gb179, 2, none⟩ = some (.string a0_2) := (blk_cell BK179.out 2).trans rfl; have hfz46_0 := blk_frozen BK179.out 0; have hfz46_1 := blk_frozen BK179.out 1; have hfz46_2 := blk_frozen BK179.out 2) | (go_at_call 17; (with_reducible refine (value_Text.calls a0_0 a0_1 a0_2 t190 _ ?side1 A39.out).mono ?_); (case side1 => (first | (refine LaidW.below HLW.out ?_; (repeat (first | (with_reducible first | exact HB.out | apply below_alloc | apply pw_below_drewN | apply below_drew1 | refine below_set ?_ GE179.out | refine below_set ?_ GE187.out) | exact HB.out)); done) | (repeat (first | exact HLW.out | apply LaidW.drewN | apply LaidW.drew | apply LaidW.alloc)))); rintro e w47 ⟨rfl, hb⟩; have n0_ := Aside0.mk (blk_below (g := gb179) (o := .cells #[.int .i64 a0_0, .int .i64 a0_1, .string a0_2] 23 (0, 0)) (by (with_reducible repeat (first | refine blk_drewN ?_ _ | refine blk_drew ?_ | refine blk_alloc ?_ _)); exact BK179.out) hb); have n1_ := Aside0.mk (blk_below (g := gb187) (o := .cells #[.int .i64 t183, .int .i64 t184, .string t185] 23 (0, 0)) (by (with_reducible repeat (first | refine blk_drewN ?_ _ | refine blk_drew ?_ | refine blk_alloc ?_ _)); exact BK187.out) hb); have n2_ := Aside0.mk (below_step (by repeat (first | (with_reducible first | exact HB.out | apply below_alloc | apply pw_below_drewN | apply below_drew1 | refine below_set ?_ GE179.out | refine below_set ?_ GE187.out) | exact HB.out)) hb); clear BK179; clear BK187; clear HB; have BK179 := n0_; have BK187 := n1_; have HB := n2_; clear n0_ n1_ n2_; (try clear hb); (try clear hb2); (try clear hk); (try clear hi)))
                    go_meet
                    case rel => exact ⟨_, ((t190.toList != ([] : List UInt8))), (by first | rfl | (simp; done) | (simp [*]; done) | (simp; generalize ByteArray.toList _ = l_; cases l_ <;> rfl)), H', ⟨by have := HJ2.out; first | omega | exact Nat.le_refl _⟩, ⟨by (with_reducible repeat (first | refine blk_drewN ?_ _ | refine blk_drew ?_ | refine blk_alloc ?_ _)); exact BK179.out⟩, ⟨by (with_reducible repeat (first | refine blk_drewN ?_ _ | refine blk_drew ?_ | refine blk_alloc ?_ _)); exact BK187.out⟩, ⟨by repeat (first | (with_reducible first | exact HB.out | apply below_alloc | apply pw_below_drewN | apply below_drew1 | refine below_set ?_ GE179.out | refine below_set ?_ GE187.out) | exact HB.out)⟩⟩
                  · rw [if_neg c38] at H
                    have c38b0 : (t186 == 2) = false := beq_eq_false_iff_ne.mpr c38
                    have c38b1 : (t186 != 2) = true := bne_iff_ne.mpr c38
                    have H' := Aside0.mk H
                    clear H
                    have hnb48 := NB179_187.out
                    have hnc48 := NB187_179.out
                    have hcz49_0 : w18.cell? ⟨gb179, 0, none⟩ = some (.int .i64 a0_0) := (blk_cell BK179.out 0).trans rfl
                    have hcz49_1 : w18.cell? ⟨gb179, 1, none⟩ = some (.int .i64 a0_1) := (blk_cell BK179.out 1).trans rfl
                    have hcz49_2 : w18.cell? ⟨gb179, 2, none⟩ = some (.string a0_2) := (blk_cell BK179.out 2).trans rfl
                    have hfz49_0 := blk_frozen BK179.out 0
                    have hfz49_1 := blk_frozen BK179.out 1
                    have hfz49_2 := blk_frozen BK179.out 2
                    go_wp2_with (first | ((with_reducible refine gate_callee (f := 13) rfl ?_); refine goesL_ (some 24) rfl rfl Tryd.func13 (by kernel_rfl) rfl #[.agg #[.int .i64 a0_0, .int .i64 a0_1, .string a0_2]] rfl (by (try simp only [List.map_toArray, List.map_cons, List.map_nil]); first | done | rfl | (simp only [List.length_drop, List.length_take]; rfl)) ?_; (with_reducible refine (value_Right.calls kj2 a0_0 a0_1 a0_2 true _ A21.out).mono ?_); rintro e w50 ⟨rfl, hb⟩; refine ⟨_, rfl, ?_⟩; have n0_ := Aside0.mk (blk_below (g := gb179) (o := .cells #[.int .i64 a0_0, .int .i64 a0_1, .string a0_2] 23 (0, 0)) (by (with_reducible repeat (first | refine blk_drewN ?_ _ | refine blk_drew ?_ | refine blk_alloc ?_ _)); refine blk_far ?_ NB179_187.out _; (with_reducible repeat (first | refine blk_drewN ?_ _ | refine blk_drew ?_ | refine blk_alloc ?_ _)); refine blk_far ?_ NB179_187.out _; (with_reducible repeat (first | refine blk_drewN ?_ _ | refine blk_drew ?_ | refine blk_alloc ?_ _)); refine blk_far ?_ NB179_187.out _; (with_reducible repeat (first | refine blk_drewN ?_ _ | refine blk_drew ?_ | refine blk_alloc ?_ _)); exact BK179.out) hb); have n1_ := Aside0.mk (blk_below (g := gb187) (o := .cells #[.int .i64 t183, .int .i64 t184, .string t185] 23 (0, 0)) (by (with_reducible repeat (first | refine blk_drewN ?_ _ | refine blk_drew ?_ | refine blk_alloc ?_ _)); refine blk_put (cs := #[.int .i64 t183, .int .i64 t184, .string (⟨#[]⟩ : ByteArray)]) ?_ 2 _ rfl; (with_reducible repeat (first | refine blk_drewN ?_ _ | refine blk_drew ?_ | refine blk_alloc ?_ _)); refine blk_put (cs := #[.int .i64 t183, .int .i64 0, .string (⟨#[]⟩ : ByteArray)]) ?_ 1 _ rfl; (with_reducible repeat (first | refine blk_drewN ?_ _ | refine blk_drew ?_ | refine blk_alloc ?_ _)); refine blk_put (cs := #[.int .i64 0, .int .i64 0, .string (⟨#[]⟩ : ByteArray)]) ?_ 0 _ rfl; (with_reducible repeat (first | refine blk_drewN ?_ _ | refine blk_drew ?_ | refine blk_alloc ?_ _)); exact BK187.out) hb); have n2_ := Aside0.mk (below_step (by repeat (first | (with_reducible first | exact HB.out | apply below_alloc | apply pw_below_drewN | apply below_drew1 | refine below_set ?_ GE179.out | refine below_set ?_ GE187.out) | exact HB.out)) hb); clear BK179; clear BK187; clear HB; have BK179 := n0_; have BK187 := n1_; have HB := n2_; clear n0_ n1_ n2_; (try clear hb); (try clear hb2); (try clear hk); (try clear hi); have hcz51_0 : w50.cell? ⟨gb187, 0, none⟩ = some (.int .i64 t183) := (blk_cell BK187.out 0).trans rfl; have hcz51_1 : w50.cell? ⟨gb187, 1, none⟩ = some (.int .i64 t184) := (blk_cell BK187.out 1).trans rfl; have hcz51_2 : w50.cell? ⟨gb187, 2, none⟩ = some (.string t185) := (blk_cell BK187.out 2).trans rfl; have hfz51_0 := blk_frozen BK187.out 0; have hfz51_1 := blk_frozen BK187.out 1; have hfz51_2 := blk_frozen BK187.out 2; have hcz52_0 : w50.cell? ⟨gb179, 0, none⟩ = some (.int .i64 a0_0) := (blk_cell BK179.out 0).trans rfl; have hcz52_1 : w50.cell? ⟨gb179, 1, none⟩ = some (.int .i64 a0_1) := (blk_cell BK179.out 1).trans rfl; have hcz52_2 : w50.cell? ⟨gb179, 2, none⟩ = some (.string a0_2) := (blk_cell BK179.out 2).trans rfl; have hfz52_0 := blk_frozen BK179.out 0; have hfz52_1 := blk_frozen BK179.out 1; have hfz52_2 := blk_frozen BK179.out 2) | (go_at_call 13; (with_reducible refine (value_Right.calls kj2 a0_0 a0_1 a0_2 false _ A30.out).mono ?_); rintro e w53 ⟨rfl, hb⟩; have n0_ := Aside0.mk (blk_below (g := gb179) (o := .cells #[.int .i64 a0_0, .int .i64 a0_1, .string a0_2] 23 (0, 0)) (by (with_reducible repeat (first | refine blk_drewN ?_ _ | refine blk_drew ?_ | refine blk_alloc ?_ _)); exact BK179.out) hb); have n1_ := Aside0.mk (blk_below (g := gb187) (o := .cells #[.int .i64 t183, .int .i64 t184, .string t185] 23 (0, 0)) (by (with_reducible repeat (first | refine blk_drewN ?_ _ | refine blk_drew ?_ | refine blk_alloc ?_ _)); exact BK187.out) hb); have n2_ := Aside0.mk (below_step (by repeat (first | (with_reducible first | exact HB.out | apply below_alloc | apply pw_below_drewN | apply below_drew1 | refine below_set ?_ GE179.out | refine below_set ?_ GE187.out) | exact HB.out)) hb); clear BK179; clear BK187; clear HB; have BK179 := n0_; have BK187 := n1_; have HB := n2_; clear n0_ n1_ n2_; (try clear hb); (try clear hb2); (try clear hk); (try clear hi)))
                    go_meet
                    case rel => exact ⟨_, (true), (by first | rfl | (simp; done) | (simp [*]; done) | (simp; generalize ByteArray.toList _ = l_; cases l_ <;> rfl)), H', ⟨by have := HJ2.out; first | omega | exact Nat.le_refl _⟩, ⟨by (with_reducible repeat (first | refine blk_drewN ?_ _ | refine blk_drew ?_ | refine blk_alloc ?_ _)); exact BK179.out⟩, ⟨by (with_reducible repeat (first | refine blk_drewN ?_ _ | refine blk_drew ?_ | refine blk_alloc ?_ _)); exact BK187.out⟩, ⟨by repeat (first | (with_reducible first | exact HB.out | apply below_alloc | apply pw_below_drewN | apply below_drew1 | refine below_set ?_ GE179.out | refine below_set ?_ GE187.out) | exact HB.out)⟩⟩
            · rw [if_neg c23] at H
              have c23b0 : (t186 == 0) = false := beq_eq_false_iff_ne.mpr c23
              have c23b1 : (t186 != 0) = true := bne_iff_ne.mpr c23
              (first | rw [c23b0] | (simp only [i64_w, i32_w]; rw [c23b0]) | skip)
              have H' := Aside0.mk H
              clear H
              have hnb54 := NB179_187.out
              have hnc54 := NB187_179.out
              have hcz55_0 : w18.cell? ⟨gb179, 0, none⟩ = some (.int .i64 a0_0) := (blk_cell BK179.out 0).trans rfl
              have hcz55_1 : w18.cell? ⟨gb179, 1, none⟩ = some (.int .i64 a0_1) := (blk_cell BK179.out 1).trans rfl
              have hcz55_2 : w18.cell? ⟨gb179, 2, none⟩ = some (.string a0_2) := (blk_cell BK179.out 2).trans rfl
              have hfz55_0 := blk_frozen BK179.out 0
              have hfz55_1 := blk_frozen BK179.out 1
              have hfz55_2 := blk_frozen BK179.out 2
              go_wp2_with (first | ((with_reducible refine gate_callee (f := 13) rfl ?_); refine goesL_ (some 24) rfl rfl Tryd.func13 (by kernel_rfl) rfl #[.agg #[.int .i64 a0_0, .int .i64 a0_1, .string a0_2]] rfl (by (try simp only [List.map_toArray, List.map_cons, List.map_nil]); first | done | rfl | (simp only [List.length_drop, List.length_take]; rfl)) ?_; (with_reducible refine (value_Right.calls kj2 a0_0 a0_1 a0_2 true _ A21.out).mono ?_); rintro e w56 ⟨rfl, hb⟩; refine ⟨_, rfl, ?_⟩; have n0_ := Aside0.mk (blk_below (g := gb179) (o := .cells #[.int .i64 a0_0, .int .i64 a0_1, .string a0_2] 23 (0, 0)) (by (with_reducible repeat (first | refine blk_drewN ?_ _ | refine blk_drew ?_ | refine blk_alloc ?_ _)); refine blk_far ?_ NB179_187.out _; (with_reducible repeat (first | refine blk_drewN ?_ _ | refine blk_drew ?_ | refine blk_alloc ?_ _)); refine blk_far ?_ NB179_187.out _; (with_reducible repeat (first | refine blk_drewN ?_ _ | refine blk_drew ?_ | refine blk_alloc ?_ _)); refine blk_far ?_ NB179_187.out _; (with_reducible repeat (first | refine blk_drewN ?_ _ | refine blk_drew ?_ | refine blk_alloc ?_ _)); exact BK179.out) hb); have n1_ := Aside0.mk (blk_below (g := gb187) (o := .cells #[.int .i64 t183, .int .i64 t184, .string t185] 23 (0, 0)) (by (with_reducible repeat (first | refine blk_drewN ?_ _ | refine blk_drew ?_ | refine blk_alloc ?_ _)); refine blk_put (cs := #[.int .i64 t183, .int .i64 t184, .string (⟨#[]⟩ : ByteArray)]) ?_ 2 _ rfl; (with_reducible repeat (first | refine blk_drewN ?_ _ | refine blk_drew ?_ | refine blk_alloc ?_ _)); refine blk_put (cs := #[.int .i64 t183, .int .i64 0, .string (⟨#[]⟩ : ByteArray)]) ?_ 1 _ rfl; (with_reducible repeat (first | refine blk_drewN ?_ _ | refine blk_drew ?_ | refine blk_alloc ?_ _)); refine blk_put (cs := #[.int .i64 0, .int .i64 0, .string (⟨#[]⟩ : ByteArray)]) ?_ 0 _ rfl; (with_reducible repeat (first | refine blk_drewN ?_ _ | refine blk_drew ?_ | refine blk_alloc ?_ _)); exact BK187.out) hb); have n2_ := Aside0.mk (below_step (by repeat (first | (with_reducible first | exact HB.out | apply below_alloc | apply pw_below_drewN | apply below_drew1 | refine below_set ?_ GE179.out | refine below_set ?_ GE187.out) | exact HB.out)) hb); clear BK179; clear BK187; clear HB; have BK179 := n0_; have BK187 := n1_; have HB := n2_; clear n0_ n1_ n2_; (try clear hb); (try clear hb2); (try clear hk); (try clear hi)))
              go_meet
              case rel => exact ⟨_, (true), (by first | rfl | (simp; done) | (simp [*]; done) | (simp; generalize ByteArray.toList _ = l_; cases l_ <;> rfl)), H', ⟨by have := HJ2.out; first | omega | exact Nat.le_refl _⟩, ⟨by (with_reducible repeat (first | refine blk_drewN ?_ _ | refine blk_drew ?_ | refine blk_alloc ?_ _)); exact BK179.out⟩, ⟨by (with_reducible repeat (first | refine blk_drewN ?_ _ | refine blk_drew ?_ | refine blk_alloc ?_ _)); exact BK187.out⟩, ⟨by repeat (first | (with_reducible first | exact HB.out | apply below_alloc | apply pw_below_drewN | apply below_drew1 | refine below_set ?_ GE179.out | refine below_set ?_ GE187.out) | exact HB.out)⟩⟩
          · replace c22 := Bool.eq_false_iff.mpr c22
            subst c22
            have H1 : ((value_Right.f kj2 a0_0 a0_1 a0_2).bind fun t191 => (if t191 = true then (antecedentlaw02_ValueBack.j1 kj2 a1 false) else (if t186 = 2 then ((value_Text.f a0_0 a0_1 a0_2).bind fun t192 => (antecedentlaw02_ValueBack.j1 kj2 a1 (t192.toList != ([] : List UInt8)))) else (antecedentlaw02_ValueBack.j1 kj2 a1 true)))) = some r := by rw [if_neg (show ¬ (false = true) by decide)] at H; exact H
            clear H
            have H := H1
            clear H1
            replace H := Option.bind_eq_some_iff.mp H
            obtain ⟨t191, A570, H⟩ := H
            replace H : (if t191 = true then (antecedentlaw02_ValueBack.j1 kj2 a1 false) else (if t186 = 2 then ((value_Text.f a0_0 a0_1 a0_2).bind fun t192 => (antecedentlaw02_ValueBack.j1 kj2 a1 (t192.toList != ([] : List UInt8)))) else (antecedentlaw02_ValueBack.j1 kj2 a1 true))) = some r := H
            have A57 := Aside0.mk A570
            clear A570
            by_cases c58 : t191 = true
            · subst c58
              have H1 : (antecedentlaw02_ValueBack.j1 kj2 a1 false) = some r := by rw [if_pos rfl] at H; exact H
              clear H
              have H := H1
              clear H1
              have H' := Aside0.mk H
              clear H
              have hnb59 := NB179_187.out
              have hnc59 := NB187_179.out
              have hcz60_0 : w18.cell? ⟨gb179, 0, none⟩ = some (.int .i64 a0_0) := (blk_cell BK179.out 0).trans rfl
              have hcz60_1 : w18.cell? ⟨gb179, 1, none⟩ = some (.int .i64 a0_1) := (blk_cell BK179.out 1).trans rfl
              have hcz60_2 : w18.cell? ⟨gb179, 2, none⟩ = some (.string a0_2) := (blk_cell BK179.out 2).trans rfl
              have hfz60_0 := blk_frozen BK179.out 0
              have hfz60_1 := blk_frozen BK179.out 1
              have hfz60_2 := blk_frozen BK179.out 2
              go_wp2_with (first | ((with_reducible refine gate_callee (f := 13) rfl ?_); refine goesL_ (some 24) rfl rfl Tryd.func13 (by kernel_rfl) rfl #[.agg #[.int .i64 a0_0, .int .i64 a0_1, .string a0_2]] rfl (by (try simp only [List.map_toArray, List.map_cons, List.map_nil]); first | done | rfl | (simp only [List.length_drop, List.length_take]; rfl)) ?_; (with_reducible refine (value_Right.calls kj2 a0_0 a0_1 a0_2 false _ A21.out).mono ?_); rintro e w61 ⟨rfl, hb⟩; refine ⟨_, rfl, ?_⟩; have n0_ := Aside0.mk (blk_below (g := gb179) (o := .cells #[.int .i64 a0_0, .int .i64 a0_1, .string a0_2] 23 (0, 0)) (by (with_reducible repeat (first | refine blk_drewN ?_ _ | refine blk_drew ?_ | refine blk_alloc ?_ _)); refine blk_far ?_ NB179_187.out _; (with_reducible repeat (first | refine blk_drewN ?_ _ | refine blk_drew ?_ | refine blk_alloc ?_ _)); refine blk_far ?_ NB179_187.out _; (with_reducible repeat (first | refine blk_drewN ?_ _ | refine blk_drew ?_ | refine blk_alloc ?_ _)); refine blk_far ?_ NB179_187.out _; (with_reducible repeat (first | refine blk_drewN ?_ _ | refine blk_drew ?_ | refine blk_alloc ?_ _)); exact BK179.out) hb); have n1_ := Aside0.mk (blk_below (g := gb187) (o := .cells #[.int .i64 t183, .int .i64 t184, .string t185] 23 (0, 0)) (by (with_reducible repeat (first | refine blk_drewN ?_ _ | refine blk_drew ?_ | refine blk_alloc ?_ _)); refine blk_put (cs := #[.int .i64 t183, .int .i64 t184, .string (⟨#[]⟩ : ByteArray)]) ?_ 2 _ rfl; (with_reducible repeat (first | refine blk_drewN ?_ _ | refine blk_drew ?_ | refine blk_alloc ?_ _)); refine blk_put (cs := #[.int .i64 t183, .int .i64 0, .string (⟨#[]⟩ : ByteArray)]) ?_ 1 _ rfl; (with_reducible repeat (first | refine blk_drewN ?_ _ | refine blk_drew ?_ | refine blk_alloc ?_ _)); refine blk_put (cs := #[.int .i64 0, .int .i64 0, .string (⟨#[]⟩ : ByteArray)]) ?_ 0 _ rfl; (with_reducible repeat (first | refine blk_drewN ?_ _ | refine blk_drew ?_ | refine blk_alloc ?_ _)); exact BK187.out) hb); have n2_ := Aside0.mk (below_step (by repeat (first | (with_reducible first | exact HB.out | apply below_alloc | apply pw_below_drewN | apply below_drew1 | refine below_set ?_ GE179.out | refine below_set ?_ GE187.out) | exact HB.out)) hb); clear BK179; clear BK187; clear HB; have BK179 := n0_; have BK187 := n1_; have HB := n2_; clear n0_ n1_ n2_; (try clear hb); (try clear hb2); (try clear hk); (try clear hi); have hcz62_0 : w61.cell? ⟨gb179, 0, none⟩ = some (.int .i64 a0_0) := (blk_cell BK179.out 0).trans rfl; have hcz62_1 : w61.cell? ⟨gb179, 1, none⟩ = some (.int .i64 a0_1) := (blk_cell BK179.out 1).trans rfl; have hcz62_2 : w61.cell? ⟨gb179, 2, none⟩ = some (.string a0_2) := (blk_cell BK179.out 2).trans rfl; have hfz62_0 := blk_frozen BK179.out 0; have hfz62_1 := blk_frozen BK179.out 1; have hfz62_2 := blk_frozen BK179.out 2) | (go_at_call 13; (with_reducible refine (value_Right.calls kj2 a0_0 a0_1 a0_2 true _ A57.out).mono ?_); rintro e w63 ⟨rfl, hb⟩; have n0_ := Aside0.mk (blk_below (g := gb179) (o := .cells #[.int .i64 a0_0, .int .i64 a0_1, .string a0_2] 23 (0, 0)) (by (with_reducible repeat (first | refine blk_drewN ?_ _ | refine blk_drew ?_ | refine blk_alloc ?_ _)); exact BK179.out) hb); have n1_ := Aside0.mk (blk_below (g := gb187) (o := .cells #[.int .i64 t183, .int .i64 t184, .string t185] 23 (0, 0)) (by (with_reducible repeat (first | refine blk_drewN ?_ _ | refine blk_drew ?_ | refine blk_alloc ?_ _)); exact BK187.out) hb); have n2_ := Aside0.mk (below_step (by repeat (first | (with_reducible first | exact HB.out | apply below_alloc | apply pw_below_drewN | apply below_drew1 | refine below_set ?_ GE179.out | refine below_set ?_ GE187.out) | exact HB.out)) hb); clear BK179; clear BK187; clear HB; have BK179 := n0_; have BK187 := n1_; have HB := n2_; clear n0_ n1_ n2_; (try clear hb); (try clear hb2); (try clear hk); (try clear hi)))
              go_meet
              case rel => exact ⟨_, (false), (by first | rfl | (simp; done) | (simp [*]; done) | (simp; generalize ByteArray.toList _ = l_; cases l_ <;> rfl)), H', ⟨by have := HJ2.out; first | omega | exact Nat.le_refl _⟩, ⟨by (with_reducible repeat (first | refine blk_drewN ?_ _ | refine blk_drew ?_ | refine blk_alloc ?_ _)); exact BK179.out⟩, ⟨by (with_reducible repeat (first | refine blk_drewN ?_ _ | refine blk_drew ?_ | refine blk_alloc ?_ _)); exact BK187.out⟩, ⟨by repeat (first | (with_reducible first | exact HB.out | apply below_alloc | apply pw_below_drewN | apply below_drew1 | refine below_set ?_ GE179.out | refine below_set ?_ GE187.out) | exact HB.out)⟩⟩
            · replace c58 := Bool.eq_false_iff.mpr c58
              subst c58
              have H1 : (if t186 = 2 then ((value_Text.f a0_0 a0_1 a0_2).bind fun t192 => (antecedentlaw02_ValueBack.j1 kj2 a1 (t192.toList != ([] : List UInt8)))) else (antecedentlaw02_ValueBack.j1 kj2 a1 true)) = some r := by rw [if_neg (show ¬ (false = true) by decide)] at H; exact H
              clear H
              have H := H1
              clear H1
              by_cases c64 : t186 = 2
              · rw [if_pos c64] at H
                have c64b0 : (t186 == 2) = true := beq_iff_eq.mpr c64
                have c64b1 : (t186 != 2) = false := bne_eq_false_iff_eq.mpr c64
                clear c64
                replace H := Option.bind_eq_some_iff.mp H
                obtain ⟨t192, A650, H⟩ := H
                replace H : (antecedentlaw02_ValueBack.j1 kj2 a1 (t192.toList != ([] : List UInt8))) = some r := H
                have A65 := Aside0.mk A650
                clear A650
                have H' := Aside0.mk H
                clear H
                have hnb66 := NB179_187.out
                have hnc66 := NB187_179.out
                have hcz67_0 : w18.cell? ⟨gb179, 0, none⟩ = some (.int .i64 a0_0) := (blk_cell BK179.out 0).trans rfl
                have hcz67_1 : w18.cell? ⟨gb179, 1, none⟩ = some (.int .i64 a0_1) := (blk_cell BK179.out 1).trans rfl
                have hcz67_2 : w18.cell? ⟨gb179, 2, none⟩ = some (.string a0_2) := (blk_cell BK179.out 2).trans rfl
                have hfz67_0 := blk_frozen BK179.out 0
                have hfz67_1 := blk_frozen BK179.out 1
                have hfz67_2 := blk_frozen BK179.out 2
                go_wp2_with (first | ((with_reducible refine gate_callee (f := 13) rfl ?_); refine goesL_ (some 24) rfl rfl Tryd.func13 (by kernel_rfl) rfl #[.agg #[.int .i64 a0_0, .int .i64 a0_1, .string a0_2]] rfl (by (try simp only [List.map_toArray, List.map_cons, List.map_nil]); first | done | rfl | (simp only [List.length_drop, List.length_take]; rfl)) ?_; (with_reducible refine (value_Right.calls kj2 a0_0 a0_1 a0_2 false _ A21.out).mono ?_); rintro e w68 ⟨rfl, hb⟩; refine ⟨_, rfl, ?_⟩; have n0_ := Aside0.mk (blk_below (g := gb179) (o := .cells #[.int .i64 a0_0, .int .i64 a0_1, .string a0_2] 23 (0, 0)) (by (with_reducible repeat (first | refine blk_drewN ?_ _ | refine blk_drew ?_ | refine blk_alloc ?_ _)); refine blk_far ?_ NB179_187.out _; (with_reducible repeat (first | refine blk_drewN ?_ _ | refine blk_drew ?_ | refine blk_alloc ?_ _)); refine blk_far ?_ NB179_187.out _; (with_reducible repeat (first | refine blk_drewN ?_ _ | refine blk_drew ?_ | refine blk_alloc ?_ _)); refine blk_far ?_ NB179_187.out _; (with_reducible repeat (first | refine blk_drewN ?_ _ | refine blk_drew ?_ | refine blk_alloc ?_ _)); exact BK179.out) hb); have n1_ := Aside0.mk (blk_below (g := gb187) (o := .cells #[.int .i64 t183, .int .i64 t184, .string t185] 23 (0, 0)) (by (with_reducible repeat (first | refine blk_drewN ?_ _ | refine blk_drew ?_ | refine blk_alloc ?_ _)); refine blk_put (cs := #[.int .i64 t183, .int .i64 t184, .string (⟨#[]⟩ : ByteArray)]) ?_ 2 _ rfl; (with_reducible repeat (first | refine blk_drewN ?_ _ | refine blk_drew ?_ | refine blk_alloc ?_ _)); refine blk_put (cs := #[.int .i64 t183, .int .i64 0, .string (⟨#[]⟩ : ByteArray)]) ?_ 1 _ rfl; (with_reducible repeat (first | refine blk_drewN ?_ _ | refine blk_drew ?_ | refine blk_alloc ?_ _)); refine blk_put (cs := #[.int .i64 0, .int .i64 0, .string (⟨#[]⟩ : ByteArray)]) ?_ 0 _ rfl; (with_reducible repeat (first | refine blk_drewN ?_ _ | refine blk_drew ?_ | refine blk_alloc ?_ _)); exact BK187.out) hb); have n2_ := Aside0.mk (below_step (by repeat (first | (with_reducible first | exact HB.out | apply below_alloc | apply pw_below_drewN | apply below_drew1 | refine below_set ?_ GE179.out | refine below_set ?_ GE187.out) | exact HB.out)) hb); clear BK179; clear BK187; clear HB; have BK179 := n0_; have BK187 := n1_; have HB := n2_; clear n0_ n1_ n2_; (try clear hb); (try clear hb2); (try clear hk); (try clear hi); have hcz69_0 : w68.cell? ⟨gb179, 0, none⟩ = some (.int .i64 a0_0) := (blk_cell BK179.out 0).trans rfl; have hcz69_1 : w68.cell? ⟨gb179, 1, none⟩ = some (.int .i64 a0_1) := (blk_cell BK179.out 1).trans rfl; have hcz69_2 : w68.cell? ⟨gb179, 2, none⟩ = some (.string a0_2) := (blk_cell BK179.out 2).trans rfl; have hfz69_0 := blk_frozen BK179.out 0; have hfz69_1 := blk_frozen BK179.out 1; have hfz69_2 := blk_frozen BK179.out 2) | (go_at_call 13; (with_reducible refine (value_Right.calls kj2 a0_0 a0_1 a0_2 false _ A57.out).mono ?_); rintro e w70 ⟨rfl, hb⟩; have n0_ := Aside0.mk (blk_below (g := gb179) (o := .cells #[.int .i64 a0_0, .int .i64 a0_1, .string a0_2] 23 (0, 0)) (by (with_reducible repeat (first | refine blk_drewN ?_ _ | refine blk_drew ?_ | refine blk_alloc ?_ _)); exact BK179.out) hb); have n1_ := Aside0.mk (blk_below (g := gb187) (o := .cells #[.int .i64 t183, .int .i64 t184, .string t185] 23 (0, 0)) (by (with_reducible repeat (first | refine blk_drewN ?_ _ | refine blk_drew ?_ | refine blk_alloc ?_ _)); exact BK187.out) hb); have n2_ := Aside0.mk (below_step (by repeat (first | (with_reducible first | exact HB.out | apply below_alloc | apply pw_below_drewN | apply below_drew1 | refine below_set ?_ GE179.out | refine below_set ?_ GE187.out) | exact HB.out)) hb); clear BK179; clear BK187; clear HB; have BK179 := n0_; have BK187 := n1_; have HB := n2_; clear n0_ n1_ n2_; (try clear hb); (try clear hb2); (try clear hk); (try clear hi); have hcz71_0 : w70.cell? ⟨gb179, 0, none⟩ = some (.int .i64 a0_0) := (blk_cell BK179.out 0).trans rfl; have hcz71_1 : w70.cell? ⟨gb179, 1, none⟩ = some (.int .i64 a0_1) := (blk_cell BK179.out 1).trans rfl; have hcz71_2 : w70.cell? ⟨gb179, 2, none⟩ = some (.string a0_2) := (blk_cell BK179.out 2).trans rfl; have hfz71_0 := blk_frozen BK179.out 0; have hfz71_1 := blk_frozen BK179.out 1; have hfz71_2 := blk_frozen BK179.out 2) | (go_at_call 17; (with_reducible refine (value_Text.calls a0_0 a0_1 a0_2 t192 _ ?side1 A65.out).mono ?_); (case side1 => (first | (refine LaidW.below HLW.out ?_; (repeat (first | (with_reducible first | exact HB.out | apply below_alloc | apply pw_below_drewN | apply below_drew1 | refine below_set ?_ GE179.out | refine below_set ?_ GE187.out) | exact HB.out)); done) | (repeat (first | exact HLW.out | apply LaidW.drewN | apply LaidW.drew | apply LaidW.alloc)))); rintro e w72 ⟨rfl, hb⟩; have n0_ := Aside0.mk (blk_below (g := gb179) (o := .cells #[.int .i64 a0_0, .int .i64 a0_1, .string a0_2] 23 (0, 0)) (by (with_reducible repeat (first | refine blk_drewN ?_ _ | refine blk_drew ?_ | refine blk_alloc ?_ _)); exact BK179.out) hb); have n1_ := Aside0.mk (blk_below (g := gb187) (o := .cells #[.int .i64 t183, .int .i64 t184, .string t185] 23 (0, 0)) (by (with_reducible repeat (first | refine blk_drewN ?_ _ | refine blk_drew ?_ | refine blk_alloc ?_ _)); exact BK187.out) hb); have n2_ := Aside0.mk (below_step (by repeat (first | (with_reducible first | exact HB.out | apply below_alloc | apply pw_below_drewN | apply below_drew1 | refine below_set ?_ GE179.out | refine below_set ?_ GE187.out) | exact HB.out)) hb); clear BK179; clear BK187; clear HB; have BK179 := n0_; have BK187 := n1_; have HB := n2_; clear n0_ n1_ n2_; (try clear hb); (try clear hb2); (try clear hk); (try clear hi)))
                go_meet
                case rel => exact ⟨_, ((t192.toList != ([] : List UInt8))), (by first | rfl | (simp; done) | (simp [*]; done) | (simp; generalize ByteArray.toList _ = l_; cases l_ <;> rfl)), H', ⟨by have := HJ2.out; first | omega | exact Nat.le_refl _⟩, ⟨by (with_reducible repeat (first | refine blk_drewN ?_ _ | refine blk_drew ?_ | refine blk_alloc ?_ _)); exact BK179.out⟩, ⟨by (with_reducible repeat (first | refine blk_drewN ?_ _ | refine blk_drew ?_ | refine blk_alloc ?_ _)); exact BK187.out⟩, ⟨by repeat (first | (with_reducible first | exact HB.out | apply below_alloc | apply pw_below_drewN | apply below_drew1 | refine below_set ?_ GE179.out | refine below_set ?_ GE187.out) | exact HB.out)⟩⟩
              · rw [if_neg c64] at H
                have c64b0 : (t186 == 2) = false := beq_eq_false_iff_ne.mpr c64
                have c64b1 : (t186 != 2) = true := bne_iff_ne.mpr c64
                have H' := Aside0.mk H
                clear H
                have hnb73 := NB179_187.out
                have hnc73 := NB187_179.out
                have hcz74_0 : w18.cell? ⟨gb179, 0, none⟩ = some (.int .i64 a0_0) := (blk_cell BK179.out 0).trans rfl
                have hcz74_1 : w18.cell? ⟨gb179, 1, none⟩ = some (.int .i64 a0_1) := (blk_cell BK179.out 1).trans rfl
                have hcz74_2 : w18.cell? ⟨gb179, 2, none⟩ = some (.string a0_2) := (blk_cell BK179.out 2).trans rfl
                have hfz74_0 := blk_frozen BK179.out 0
                have hfz74_1 := blk_frozen BK179.out 1
                have hfz74_2 := blk_frozen BK179.out 2
                go_wp2_with (first | ((with_reducible refine gate_callee (f := 13) rfl ?_); refine goesL_ (some 24) rfl rfl Tryd.func13 (by kernel_rfl) rfl #[.agg #[.int .i64 a0_0, .int .i64 a0_1, .string a0_2]] rfl (by (try simp only [List.map_toArray, List.map_cons, List.map_nil]); first | done | rfl | (simp only [List.length_drop, List.length_take]; rfl)) ?_; (with_reducible refine (value_Right.calls kj2 a0_0 a0_1 a0_2 false _ A21.out).mono ?_); rintro e w75 ⟨rfl, hb⟩; refine ⟨_, rfl, ?_⟩; have n0_ := Aside0.mk (blk_below (g := gb179) (o := .cells #[.int .i64 a0_0, .int .i64 a0_1, .string a0_2] 23 (0, 0)) (by (with_reducible repeat (first | refine blk_drewN ?_ _ | refine blk_drew ?_ | refine blk_alloc ?_ _)); refine blk_far ?_ NB179_187.out _; (with_reducible repeat (first | refine blk_drewN ?_ _ | refine blk_drew ?_ | refine blk_alloc ?_ _)); refine blk_far ?_ NB179_187.out _; (with_reducible repeat (first | refine blk_drewN ?_ _ | refine blk_drew ?_ | refine blk_alloc ?_ _)); refine blk_far ?_ NB179_187.out _; (with_reducible repeat (first | refine blk_drewN ?_ _ | refine blk_drew ?_ | refine blk_alloc ?_ _)); exact BK179.out) hb); have n1_ := Aside0.mk (blk_below (g := gb187) (o := .cells #[.int .i64 t183, .int .i64 t184, .string t185] 23 (0, 0)) (by (with_reducible repeat (first | refine blk_drewN ?_ _ | refine blk_drew ?_ | refine blk_alloc ?_ _)); refine blk_put (cs := #[.int .i64 t183, .int .i64 t184, .string (⟨#[]⟩ : ByteArray)]) ?_ 2 _ rfl; (with_reducible repeat (first | refine blk_drewN ?_ _ | refine blk_drew ?_ | refine blk_alloc ?_ _)); refine blk_put (cs := #[.int .i64 t183, .int .i64 0, .string (⟨#[]⟩ : ByteArray)]) ?_ 1 _ rfl; (with_reducible repeat (first | refine blk_drewN ?_ _ | refine blk_drew ?_ | refine blk_alloc ?_ _)); refine blk_put (cs := #[.int .i64 0, .int .i64 0, .string (⟨#[]⟩ : ByteArray)]) ?_ 0 _ rfl; (with_reducible repeat (first | refine blk_drewN ?_ _ | refine blk_drew ?_ | refine blk_alloc ?_ _)); exact BK187.out) hb); have n2_ := Aside0.mk (below_step (by repeat (first | (with_reducible first | exact HB.out | apply below_alloc | apply pw_below_drewN | apply below_drew1 | refine below_set ?_ GE179.out | refine below_set ?_ GE187.out) | exact HB.out)) hb); clear BK179; clear BK187; clear HB; have BK179 := n0_; have BK187 := n1_; have HB := n2_; clear n0_ n1_ n2_; (try clear hb); (try clear hb2); (try clear hk); (try clear hi); have hcz76_0 : w75.cell? ⟨gb179, 0, none⟩ = some (.int .i64 a0_0) := (blk_cell BK179.out 0).trans rfl; have hcz76_1 : w75.cell? ⟨gb179, 1, none⟩ = some (.int .i64 a0_1) := (blk_cell BK179.out 1).trans rfl; have hcz76_2 : w75.cell? ⟨gb179, 2, none⟩ = some (.string a0_2) := (blk_cell BK179.out 2).trans rfl; have hfz76_0 := blk_frozen BK179.out 0; have hfz76_1 := blk_frozen BK179.out 1; have hfz76_2 := blk_frozen BK179.out 2) | (go_at_call 13; (with_reducible refine (value_Right.calls kj2 a0_0 a0_1 a0_2 false _ A57.out).mono ?_); rintro e w77 ⟨rfl, hb⟩; have n0_ := Aside0.mk (blk_below (g := gb179) (o := .cells #[.int .i64 a0_0, .int .i64 a0_1, .string a0_2] 23 (0, 0)) (by (with_reducible repeat (first | refine blk_drewN ?_ _ | refine blk_drew ?_ | refine blk_alloc ?_ _)); exact BK179.out) hb); have n1_ := Aside0.mk (blk_below (g := gb187) (o := .cells #[.int .i64 t183, .int .i64 t184, .string t185] 23 (0, 0)) (by (with_reducible repeat (first | refine blk_drewN ?_ _ | refine blk_drew ?_ | refine blk_alloc ?_ _)); exact BK187.out) hb); have n2_ := Aside0.mk (below_step (by repeat (first | (with_reducible first | exact HB.out | apply below_alloc | apply pw_below_drewN | apply below_drew1 | refine below_set ?_ GE179.out | refine below_set ?_ GE187.out) | exact HB.out)) hb); clear BK179; clear BK187; clear HB; have BK179 := n0_; have BK187 := n1_; have HB := n2_; clear n0_ n1_ n2_; (try clear hb); (try clear hb2); (try clear hk); (try clear hi)))
                go_meet
                case rel => exact ⟨_, (true), (by first | rfl | (simp; done) | (simp [*]; done) | (simp; generalize ByteArray.toList _ = l_; cases l_ <;> rfl)), H', ⟨by have := HJ2.out; first | omega | exact Nat.le_refl _⟩, ⟨by (with_reducible repeat (first | refine blk_drewN ?_ _ | refine blk_drew ?_ | refine blk_alloc ?_ _)); exact BK179.out⟩, ⟨by (with_reducible repeat (first | refine blk_drewN ?_ _ | refine blk_drew ?_ | refine blk_alloc ?_ _)); exact BK187.out⟩, ⟨by repeat (first | (with_reducible first | exact HB.out | apply below_alloc | apply pw_below_drewN | apply below_drew1 | refine below_set ?_ GE179.out | refine below_set ?_ GE187.out) | exact HB.out)⟩⟩
        case rest =>
          clear HC14
          try clear c1
          try clear c2
          try clear p2
          try clear c3
          try clear c4
          try clear c5
          try clear c6
          try clear c7
          try clear c9
          try clear c10
          try clear c13
          try clear c17
          try clear c19
          try clear c22
          try clear c23
          try clear c23b0
          try clear c23b1
          try clear c24
          try clear c24b0
          try clear c25
          try clear c31
          try clear c32
          try clear c38
          try clear c38b0
          try clear c38b1
          try clear c40
          try clear c48
          try clear c54
          try clear c58
          try clear c59
          try clear c64
          try clear c64b0
          try clear c64b1
          try clear c66
          try clear c73
          try clear hcz15_0
          try clear hcz15_1
          try clear hcz15_2
          try clear hcz20_0
          try clear hcz20_1
          try clear hcz20_2
          try clear hcz26_0
          try clear hcz26_1
          try clear hcz26_2
          try clear hcz28_0
          try clear hcz28_1
          try clear hcz28_2
          try clear hcz29_0
          try clear hcz29_1
          try clear hcz29_2
          try clear hcz33_0
          try clear hcz33_1
          try clear hcz33_2
          try clear hcz35_0
          try clear hcz35_1
          try clear hcz35_2
          try clear hcz36_0
          try clear hcz36_1
          try clear hcz36_2
          try clear hcz41_0
          try clear hcz41_1
          try clear hcz41_2
          try clear hcz43_0
          try clear hcz43_1
          try clear hcz43_2
          try clear hcz44_0
          try clear hcz44_1
          try clear hcz44_2
          try clear hcz46_0
          try clear hcz46_1
          try clear hcz46_2
          try clear hcz49_0
          try clear hcz49_1
          try clear hcz49_2
          try clear hcz51_0
          try clear hcz51_1
          try clear hcz51_2
          try clear hcz52_0
          try clear hcz52_1
          try clear hcz52_2
          try clear hcz55_0
          try clear hcz55_1
          try clear hcz55_2
          try clear hcz60_0
          try clear hcz60_1
          try clear hcz60_2
          try clear hcz62_0
          try clear hcz62_1
          try clear hcz62_2
          try clear hcz67_0
          try clear hcz67_1
          try clear hcz67_2
          try clear hcz69_0
          try clear hcz69_1
          try clear hcz69_2
          try clear hcz71_0
          try clear hcz71_1
          try clear hcz71_2
          try clear hcz74_0
          try clear hcz74_1
          try clear hcz74_2
          try clear hcz76_0
          try clear hcz76_1
          try clear hcz76_2
          try clear hfz15_0
          try clear hfz15_1
          try clear hfz15_2
          try clear hfz20_0
          try clear hfz20_1
          try clear hfz20_2
          try clear hfz26_0
          try clear hfz26_1
          try clear hfz26_2
          try clear hfz28_0
          try clear hfz28_1
          try clear hfz28_2
          try clear hfz29_0
          try clear hfz29_1
          try clear hfz29_2
          try clear hfz33_0
          try clear hfz33_1
          try clear hfz33_2
          try clear hfz35_0
          try clear hfz35_1
          try clear hfz35_2
          try clear hfz36_0
          try clear hfz36_1
          try clear hfz36_2
          try clear hfz41_0
          try clear hfz41_1
          try clear hfz41_2
          try clear hfz43_0
          try clear hfz43_1
          try clear hfz43_2
          try clear hfz44_0
          try clear hfz44_1
          try clear hfz44_2
          try clear hfz46_0
          try clear hfz46_1
          try clear hfz46_2
          try clear hfz49_0
          try clear hfz49_1
          try clear hfz49_2
          try clear hfz51_0
          try clear hfz51_1
          try clear hfz51_2
          try clear hfz52_0
          try clear hfz52_1
          try clear hfz52_2
          try clear hfz55_0
          try clear hfz55_1
          try clear hfz55_2
          try clear hfz60_0
          try clear hfz60_1
          try clear hfz60_2
          try clear hfz62_0
          try clear hfz62_1
          try clear hfz62_2
          try clear hfz67_0
          try clear hfz67_1
          try clear hfz67_2
          try clear hfz69_0
          try clear hfz69_1
          try clear hfz69_2
          try clear hfz71_0
          try clear hfz71_1
          try clear hfz71_2
          try clear hfz74_0
          try clear hfz74_1
          try clear hfz74_2
          try clear hfz76_0
          try clear hfz76_1
          try clear hfz76_2
          try clear p2
          obtain ⟨kq, x47_13, rfl, HA, HJ13, BK179, BK187, HB⟩ := hcut
          cases kq with
          | zero => exact absurd HA.out (by simp [antecedentlaw02_ValueBack.j1])
          | succ kj13 =>
            have H := HA.out
            clear HA
            simp only [antecedentlaw02_ValueBack.j1] at H
            by_cases c78 : x47_13 = true
            · subst c78
              have H1 : (some false) = some r := by rw [if_pos rfl] at H; exact H
              clear H
              have H := H1
              clear H1
              obtain rfl := Option.some.inj H
              go_wp2
              go_ret
              exact ⟨by first | rfl | (simp [errW_none, errW_some] <;> rfl) | (simp [*, errW_none, errW_some] <;> rfl), by repeat (first | (with_reducible first | exact HB.out | apply below_alloc | apply pw_below_drewN | apply below_drew1 | refine below_set ?_ GE179.out | refine below_set ?_ GE187.out) | exact HB.out)⟩
            · replace c78 := Bool.eq_false_iff.mpr c78
              subst c78
              have H1 : ((value_Read.f a1).bind fun bt193 => (if bt193.2.2.2 = 0 then ((value_Text.f bt193.1 bt193.2.1 bt193.2.2.1).bind fun t198 => (if t198.toList = a1.toList then ((value_Right.f kj13 bt193.1 bt193.2.1 bt193.2.2.1).bind fun t199 => (some t199)) else (some false))) else (if bt193.2.2.2 = 2 then (some (bt193.1 == 0 && (bt193.2.1 == 0 && (bt193.2.2.1.toList == ([] : List UInt8))))) else (some false)))) = some r := by rw [if_neg (show ¬ (false = true) by decide)] at H; exact H
              clear H
              have H := H1
              clear H1
              replace H := Option.bind_eq_some_iff.mp H
              obtain ⟨⟨t193, t194, t195, t196⟩, A790, H⟩ := H
              replace H : (if t196 = 0 then ((value_Text.f t193 t194 t195).bind fun t198 => (if t198.toList = a1.toList then ((value_Right.f kj13 t193 t194 t195).bind fun t199 => (some t199)) else (some false))) else (if t196 = 2 then (some (t193 == 0 && (t194 == 0 && (t195.toList == ([] : List UInt8))))) else (some false))) = some r := H
              have A79 := Aside0.mk A790
              clear A790
              by_cases c80 : t196 = 0
              · rw [if_pos c80] at H
                have c80b0 : (t196 == 0) = true := beq_iff_eq.mpr c80
                have c80b1 : (t196 != 0) = false := bne_eq_false_iff_eq.mpr c80
                clear c80
                replace H := Option.bind_eq_some_iff.mp H
                obtain ⟨t198, A810, H⟩ := H
                replace H : (if t198.toList = a1.toList then ((value_Right.f kj13 t193 t194 t195).bind fun t199 => (some t199)) else (some false)) = some r := H
                have A81 := Aside0.mk A810
                clear A810
                by_cases c82 : t198.toList = a1.toList
                · rw [if_pos c82] at H
                  have c82b0 : (t198.toList == a1.toList) = true := beq_iff_eq.mpr c82
                  have c82b1 : (t198.toList != a1.toList) = false := bne_eq_false_iff_eq.mpr c82
                  clear c82
                  replace H := Option.bind_eq_some_iff.mp H
                  obtain ⟨t199, A830, H⟩ := H
                  replace H : (some t199) = some r := H
                  have A83 := Aside0.mk A830
                  clear A830
                  obtain rfl := Option.some.inj H
                  go_wp2_with (first | ((with_reducible refine gate_callee (f := 19) rfl ?_); refine goesL_ (some 50) rfl rfl Tryd.func19 (by kernel_rfl) rfl #[.string a1] rfl (by (try simp only [List.map_toArray, List.map_cons, List.map_nil]); first | done | rfl | (simp only [List.length_drop, List.length_take]; rfl)) ?_; (with_reducible refine (value_Read.calls a1 t193 t194 t195 t196 _ ?side1 A79.out).mono ?_); (case side1 => (first | (refine LaidW.below HLW.out ?_; (repeat (first | (with_reducible first | exact HB.out | apply below_alloc | apply pw_below_drewN | apply below_drew1 | refine below_set ?_ GE179.out | refine below_set ?_ GE187.out) | exact HB.out)); done) | (repeat (first | exact HLW.out | apply LaidW.drewN | apply LaidW.drew | apply LaidW.alloc)))); rintro e w84 ⟨rfl, hb⟩; refine ⟨_, rfl, ?_⟩; have n0_ := Aside0.mk (blk_below (g := gb179) (o := .cells #[.int .i64 a0_0, .int .i64 a0_1, .string a0_2] 23 (0, 0)) (by (with_reducible repeat (first | refine blk_drewN ?_ _ | refine blk_drew ?_ | refine blk_alloc ?_ _)); exact BK179.out) hb); have n1_ := Aside0.mk (blk_below (g := gb187) (o := .cells #[.int .i64 t183, .int .i64 t184, .string t185] 23 (0, 0)) (by (with_reducible repeat (first | refine blk_drewN ?_ _ | refine blk_drew ?_ | refine blk_alloc ?_ _)); exact BK187.out) hb); have n2_ := Aside0.mk (below_step (by repeat (first | (with_reducible first | exact HB.out | apply below_alloc | apply pw_below_drewN | apply below_drew1 | refine below_set ?_ GE179.out | refine below_set ?_ GE187.out) | exact HB.out)) hb); clear BK179; clear BK187; clear HB; have BK179 := n0_; have BK187 := n1_; have HB := n2_; clear n0_ n1_ n2_; (try clear hb); (try clear hb2); (try clear hk); (try clear hi)) | ((with_reducible refine gate_dst (N := 7) rfl ?_); (try (refine gate_guard (by rfl) ?_; dsimp only)); refine box_event ?hg (N := 7) ?hd (cs := #[.int .i64 0, .int .i64 0, .string (⟨#[]⟩ : ByteArray)]) (t := 23) ?hr ?_; (case hd => rfl); (case hg => rfl); (case hr => first | (go_simp; done) | (go_simp; rfl)); intro gb197 hg w85 hbox hb; have n0_ := Aside0.mk (blk_below (g := gb179) (o := .cells #[.int .i64 a0_0, .int .i64 a0_1, .string a0_2] 23 (0, 0)) (by (with_reducible repeat (first | refine blk_drewN ?_ _ | refine blk_drew ?_ | refine blk_alloc ?_ _)); exact BK179.out) hb); have n1_ := Aside0.mk (blk_below (g := gb187) (o := .cells #[.int .i64 t183, .int .i64 t184, .string t185] 23 (0, 0)) (by (with_reducible repeat (first | refine blk_drewN ?_ _ | refine blk_drew ?_ | refine blk_alloc ?_ _)); exact BK187.out) hb); have n2_ := Aside0.mk (below_step (by repeat (first | (with_reducible first | exact HB.out | apply below_alloc | apply pw_below_drewN | apply below_drew1 | refine below_set ?_ GE179.out | refine below_set ?_ GE187.out) | exact HB.out)) hb); have n3_ := Aside0.mk (hbox); have n4_ := Aside0.mk ((by rw [hg]; exact (below_size (by repeat (first | (with_reducible first | exact HB.out | apply below_alloc | apply pw_below_drewN | apply below_drew1 | refine below_set ?_ GE179.out | refine below_set ?_ GE187.out) | exact HB.out))) : w.heap.size ≤ gb197)); have n5_ := Aside0.mk ((by rw [hg]; exact (below_size (by repeat (first | (with_reducible first | exact HB.out | apply below_alloc | apply pw_below_drewN | apply below_drew1 | refine below_set ?_ GE179.out | refine below_set ?_ GE187.out) | exact HB.out))) : w.heap.size ≤ gb197)); have n6_ := Aside0.mk ((by rw [hg]; exact Nat.ne_of_lt (blk_lt (g := gb179) (o := .cells #[.int .i64 a0_0, .int .i64 a0_1, .string a0_2] 23 (0, 0)) (by (with_reducible repeat (first | refine blk_drewN ?_ _ | refine blk_drew ?_ | refine blk_alloc ?_ _)); exact BK179.out)) : gb179 ≠ gb197)); have n7_ := Aside0.mk ((by rw [hg]; exact Nat.ne_of_gt (blk_lt (g := gb179) (o := .cells #[.int .i64 a0_0, .int .i64 a0_1, .string a0_2] 23 (0, 0)) (by (with_reducible repeat (first | refine blk_drewN ?_ _ | refine blk_drew ?_ | refine blk_alloc ?_ _)); exact BK179.out)) : gb197 ≠ gb179)); have n8_ := Aside0.mk ((by rw [hg]; exact Nat.ne_of_lt (blk_lt (g := gb187) (o := .cells #[.int .i64 t183, .int .i64 t184, .string t185] 23 (0, 0)) (by (with_reducible repeat (first | refine blk_drewN ?_ _ | refine blk_drew ?_ | refine blk_alloc ?_ _)); exact BK187.out)) : gb187 ≠ gb197)); have n9_ := Aside0.mk ((by rw [hg]; exact Nat.ne_of_gt (blk_lt (g := gb187) (o := .cells #[.int .i64 t183, .int .i64 t184, .string t185] 23 (0, 0)) (by (with_reducible repeat (first | refine blk_drewN ?_ _ | refine blk_drew ?_ | refine blk_alloc ?_ _)); exact BK187.out)) : gb197 ≠ gb187)); clear BK179; clear BK187; clear HB; have BK179 := n0_; have BK187 := n1_; have HB := n2_; have BK197 := n3_; have GW197 := n4_; have GE197 := n5_; have NB179_197 := n6_; have NB197_179 := n7_; have NB187_197 := n8_; have NB197_187 := n9_; clear n0_ n1_ n2_ n3_ n4_ n5_ n6_ n7_ n8_ n9_; clear hb hbox hg; have hnb86 := NB197_179.out; have hnc86 := NB179_197.out; have hnb87 := NB197_187.out; have hnc87 := NB187_197.out; have hcz88_0 : w85.cell? ⟨gb197, 0, none⟩ = some (.int .i64 0) := (blk_cell BK197.out 0).trans rfl; have hcz88_1 : w85.cell? ⟨gb197, 1, none⟩ = some (.int .i64 0) := (blk_cell BK197.out 1).trans rfl; have hcz88_2 : w85.cell? ⟨gb197, 2, none⟩ = some (.string (⟨#[]⟩ : ByteArray)) := (blk_cell BK197.out 2).trans rfl; have hfz88_0 := blk_frozen BK197.out 0; have hfz88_1 := blk_frozen BK197.out 1; have hfz88_2 := blk_frozen BK197.out 2) | ((with_reducible refine gate_callee (f := 17) rfl ?_); refine goesL_ (some 63) rfl rfl Tryd.func17 (by kernel_rfl) rfl #[.agg #[.int .i64 t193, .int .i64 t194, .string t195]] rfl (by (try simp only [List.map_toArray, List.map_cons, List.map_nil]); first | done | rfl | (simp only [List.length_drop, List.length_take]; rfl)) ?_; (with_reducible refine (value_Text.calls t193 t194 t195 t198 _ ?side1 A81.out).mono ?_); (case side1 => (first | (refine LaidW.below HLW.out ?_; (repeat (first | (with_reducible first | exact HB.out | apply below_alloc | apply pw_below_drewN | apply below_drew1 | refine below_set ?_ GE179.out | refine below_set ?_ GE187.out | refine below_set ?_ GE197.out) | exact HB.out)); done) | (repeat (first | exact HLW.out | apply LaidW.drewN | apply LaidW.drew | apply LaidW.alloc)))); rintro e w89 ⟨rfl, hb⟩; refine ⟨_, rfl, ?_⟩; have n0_ := Aside0.mk (blk_below (g := gb179) (o := .cells #[.int .i64 a0_0, .int .i64 a0_1, .string a0_2] 23 (0, 0)) (by (with_reducible repeat (first | refine blk_drewN ?_ _ | refine blk_drew ?_ | refine blk_alloc ?_ _)); refine blk_far ?_ NB179_197.out _; (with_reducible repeat (first | refine blk_drewN ?_ _ | refine blk_drew ?_ | refine blk_alloc ?_ _)); refine blk_far ?_ NB179_197.out _; (with_reducible repeat (first | refine blk_drewN ?_ _ | refine blk_drew ?_ | refine blk_alloc ?_ _)); refine blk_far ?_ NB179_197.out _; (with_reducible repeat (first | refine blk_drewN ?_ _ | refine blk_drew ?_ | refine blk_alloc ?_ _)); exact BK179.out) hb); have n1_ := Aside0.mk (blk_below (g := gb187) (o := .cells #[.int .i64 t183, .int .i64 t184, .string t185] 23 (0, 0)) (by (with_reducible repeat (first | refine blk_drewN ?_ _ | refine blk_drew ?_ | refine blk_alloc ?_ _)); refine blk_far ?_ NB187_197.out _; (with_reducible repeat (first | refine blk_drewN ?_ _ | refine blk_drew ?_ | refine blk_alloc ?_ _)); refine blk_far ?_ NB187_197.out _; (with_reducible repeat (first | refine blk_drewN ?_ _ | refine blk_drew ?_ | refine blk_alloc ?_ _)); refine blk_far ?_ NB187_197.out _; (with_reducible repeat (first | refine blk_drewN ?_ _ | refine blk_drew ?_ | refine blk_alloc ?_ _)); exact BK187.out) hb); have n2_ := Aside0.mk (blk_below (g := gb197) (o := .cells #[.int .i64 t193, .int .i64 t194, .string t195] 23 (0, 0)) (by (with_reducible repeat (first | refine blk_drewN ?_ _ | refine blk_drew ?_ | refine blk_alloc ?_ _)); refine blk_put (cs := #[.int .i64 t193, .int .i64 t194, .string (⟨#[]⟩ : ByteArray)]) ?_ 2 _ rfl; (with_reducible repeat (first | refine blk_drewN ?_ _ | refine blk_drew ?_ | refine blk_alloc ?_ _)); refine blk_put (cs := #[.int .i64 t193, .int .i64 0, .string (⟨#[]⟩ : ByteArray)]) ?_ 1 _ rfl; (with_reducible repeat (first | refine blk_drewN ?_ _ | refine blk_drew ?_ | refine blk_alloc ?_ _)); refine blk_put (cs := #[.int .i64 0, .int .i64 0, .string (⟨#[]⟩ : ByteArray)]) ?_ 0 _ rfl; (with_reducible repeat (first | refine blk_drewN ?_ _ | refine blk_drew ?_ | refine blk_alloc ?_ _)); exact BK197.out) hb); have n3_ := Aside0.mk (below_step (by repeat (first | (with_reducible first | exact HB.out | apply below_alloc | apply pw_below_drewN | apply below_drew1 | refine below_set ?_ GE179.out | refine below_set ?_ GE187.out | refine below_set ?_ GE197.out) | exact HB.out)) hb); clear BK179; clear BK187; clear BK197; clear HB; have BK179 := n0_; have BK187 := n1_; have BK197 := n2_; have HB := n3_; clear n0_ n1_ n2_ n3_; (try clear hb); (try clear hb2); (try clear hk); (try clear hi); have hcz90_0 : w89.cell? ⟨gb197, 0, none⟩ = some (.int .i64 t193) := (blk_cell BK197.out 0).trans rfl; have hcz90_1 : w89.cell? ⟨gb197, 1, none⟩ = some (.int .i64 t194) := (blk_cell BK197.out 1).trans rfl; have hcz90_2 : w89.cell? ⟨gb197, 2, none⟩ = some (.string t195) := (blk_cell BK197.out 2).trans rfl; have hfz90_0 := blk_frozen BK197.out 0; have hfz90_1 := blk_frozen BK197.out 1; have hfz90_2 := blk_frozen BK197.out 2) | (go_at_call 13; (with_reducible refine (value_Right.calls kj13 t193 t194 t195 t199 _ A83.out).mono ?_); rintro e w91 ⟨rfl, hb⟩; have n0_ := Aside0.mk (blk_below (g := gb179) (o := .cells #[.int .i64 a0_0, .int .i64 a0_1, .string a0_2] 23 (0, 0)) (by (with_reducible repeat (first | refine blk_drewN ?_ _ | refine blk_drew ?_ | refine blk_alloc ?_ _)); exact BK179.out) hb); have n1_ := Aside0.mk (blk_below (g := gb187) (o := .cells #[.int .i64 t183, .int .i64 t184, .string t185] 23 (0, 0)) (by (with_reducible repeat (first | refine blk_drewN ?_ _ | refine blk_drew ?_ | refine blk_alloc ?_ _)); exact BK187.out) hb); have n2_ := Aside0.mk (blk_below (g := gb197) (o := .cells #[.int .i64 t193, .int .i64 t194, .string t195] 23 (0, 0)) (by (with_reducible repeat (first | refine blk_drewN ?_ _ | refine blk_drew ?_ | refine blk_alloc ?_ _)); exact BK197.out) hb); have n3_ := Aside0.mk (below_step (by repeat (first | (with_reducible first | exact HB.out | apply below_alloc | apply pw_below_drewN | apply below_drew1 | refine below_set ?_ GE179.out | refine below_set ?_ GE187.out | refine below_set ?_ GE197.out) | exact HB.out)) hb); clear BK179; clear BK187; clear BK197; clear HB; have BK179 := n0_; have BK187 := n1_; have BK197 := n2_; have HB := n3_; clear n0_ n1_ n2_ n3_; (try clear hb); (try clear hb2); (try clear hk); (try clear hi)))
                  go_ret
                  exact ⟨by first | rfl | (simp [errW_none, errW_some] <;> rfl) | (simp [*, errW_none, errW_some] <;> rfl), by repeat (first | (with_reducible first | exact HB.out | apply below_alloc | apply pw_below_drewN | apply below_drew1 | refine below_set ?_ GE179.out | refine below_set ?_ GE187.out | refine below_set ?_ GE197.out) | exact HB.out)⟩
                · rw [if_neg c82] at H
                  have c82b0 : (t198.toList == a1.toList) = false := beq_eq_false_iff_ne.mpr c82
                  have c82b1 : (t198.toList != a1.toList) = true := bne_iff_ne.mpr c82
                  obtain rfl := Option.some.inj H
                  go_wp2_with (first | ((with_reducible refine gate_callee (f := 19) rfl ?_); refine goesL_ (some 50) rfl rfl Tryd.func19 (by kernel_rfl) rfl #[.string a1] rfl (by (try simp only [List.map_toArray, List.map_cons, List.map_nil]); first | done | rfl | (simp only [List.length_drop, List.length_take]; rfl)) ?_; (with_reducible refine (value_Read.calls a1 t193 t194 t195 t196 _ ?side1 A79.out).mono ?_); (case side1 => (first | (refine LaidW.below HLW.out ?_; (repeat (first | (with_reducible first | exact HB.out | apply below_alloc | apply pw_below_drewN | apply below_drew1 | refine below_set ?_ GE179.out | refine below_set ?_ GE187.out) | exact HB.out)); done) | (repeat (first | exact HLW.out | apply LaidW.drewN | apply LaidW.drew | apply LaidW.alloc)))); rintro e w92 ⟨rfl, hb⟩; refine ⟨_, rfl, ?_⟩; have n0_ := Aside0.mk (blk_below (g := gb179) (o := .cells #[.int .i64 a0_0, .int .i64 a0_1, .string a0_2] 23 (0, 0)) (by (with_reducible repeat (first | refine blk_drewN ?_ _ | refine blk_drew ?_ | refine blk_alloc ?_ _)); exact BK179.out) hb); have n1_ := Aside0.mk (blk_below (g := gb187) (o := .cells #[.int .i64 t183, .int .i64 t184, .string t185] 23 (0, 0)) (by (with_reducible repeat (first | refine blk_drewN ?_ _ | refine blk_drew ?_ | refine blk_alloc ?_ _)); exact BK187.out) hb); have n2_ := Aside0.mk (below_step (by repeat (first | (with_reducible first | exact HB.out | apply below_alloc | apply pw_below_drewN | apply below_drew1 | refine below_set ?_ GE179.out | refine below_set ?_ GE187.out) | exact HB.out)) hb); clear BK179; clear BK187; clear HB; have BK179 := n0_; have BK187 := n1_; have HB := n2_; clear n0_ n1_ n2_; (try clear hb); (try clear hb2); (try clear hk); (try clear hi)) | ((with_reducible refine gate_dst (N := 7) rfl ?_); (try (refine gate_guard (by rfl) ?_; dsimp only)); refine box_event ?hg (N := 7) ?hd (cs := #[.int .i64 0, .int .i64 0, .string (⟨#[]⟩ : ByteArray)]) (t := 23) ?hr ?_; (case hd => rfl); (case hg => rfl); (case hr => first | (go_simp; done) | (go_simp; rfl)); intro gb197 hg w93 hbox hb; have n0_ := Aside0.mk (blk_below (g := gb179) (o := .cells #[.int .i64 a0_0, .int .i64 a0_1, .string a0_2] 23 (0, 0)) (by (with_reducible repeat (first | refine blk_drewN ?_ _ | refine blk_drew ?_ | refine blk_alloc ?_ _)); exact BK179.out) hb); have n1_ := Aside0.mk (blk_below (g := gb187) (o := .cells #[.int .i64 t183, .int .i64 t184, .string t185] 23 (0, 0)) (by (with_reducible repeat (first | refine blk_drewN ?_ _ | refine blk_drew ?_ | refine blk_alloc ?_ _)); exact BK187.out) hb); have n2_ := Aside0.mk (below_step (by repeat (first | (with_reducible first | exact HB.out | apply below_alloc | apply pw_below_drewN | apply below_drew1 | refine below_set ?_ GE179.out | refine below_set ?_ GE187.out) | exact HB.out)) hb); have n3_ := Aside0.mk (hbox); have n4_ := Aside0.mk ((by rw [hg]; exact (below_size (by repeat (first | (with_reducible first | exact HB.out | apply below_alloc | apply pw_below_drewN | apply below_drew1 | refine below_set ?_ GE179.out | refine below_set ?_ GE187.out) | exact HB.out))) : w.heap.size ≤ gb197)); have n5_ := Aside0.mk ((by rw [hg]; exact (below_size (by repeat (first | (with_reducible first | exact HB.out | apply below_alloc | apply pw_below_drewN | apply below_drew1 | refine below_set ?_ GE179.out | refine below_set ?_ GE187.out) | exact HB.out))) : w.heap.size ≤ gb197)); have n6_ := Aside0.mk ((by rw [hg]; exact Nat.ne_of_lt (blk_lt (g := gb179) (o := .cells #[.int .i64 a0_0, .int .i64 a0_1, .string a0_2] 23 (0, 0)) (by (with_reducible repeat (first | refine blk_drewN ?_ _ | refine blk_drew ?_ | refine blk_alloc ?_ _)); exact BK179.out)) : gb179 ≠ gb197)); have n7_ := Aside0.mk ((by rw [hg]; exact Nat.ne_of_gt (blk_lt (g := gb179) (o := .cells #[.int .i64 a0_0, .int .i64 a0_1, .string a0_2] 23 (0, 0)) (by (with_reducible repeat (first | refine blk_drewN ?_ _ | refine blk_drew ?_ | refine blk_alloc ?_ _)); exact BK179.out)) : gb197 ≠ gb179)); have n8_ := Aside0.mk ((by rw [hg]; exact Nat.ne_of_lt (blk_lt (g := gb187) (o := .cells #[.int .i64 t183, .int .i64 t184, .string t185] 23 (0, 0)) (by (with_reducible repeat (first | refine blk_drewN ?_ _ | refine blk_drew ?_ | refine blk_alloc ?_ _)); exact BK187.out)) : gb187 ≠ gb197)); have n9_ := Aside0.mk ((by rw [hg]; exact Nat.ne_of_gt (blk_lt (g := gb187) (o := .cells #[.int .i64 t183, .int .i64 t184, .string t185] 23 (0, 0)) (by (with_reducible repeat (first | refine blk_drewN ?_ _ | refine blk_drew ?_ | refine blk_alloc ?_ _)); exact BK187.out)) : gb197 ≠ gb187)); clear BK179; clear BK187; clear HB; have BK179 := n0_; have BK187 := n1_; have HB := n2_; have BK197 := n3_; have GW197 := n4_; have GE197 := n5_; have NB179_197 := n6_; have NB197_179 := n7_; have NB187_197 := n8_; have NB197_187 := n9_; clear n0_ n1_ n2_ n3_ n4_ n5_ n6_ n7_ n8_ n9_; clear hb hbox hg; have hnb94 := NB197_179.out; have hnc94 := NB179_197.out; have hnb95 := NB197_187.out; have hnc95 := NB187_197.out; have hcz96_0 : w93.cell? ⟨gb197, 0, none⟩ = some (.int .i64 0) := (blk_cell BK197.out 0).trans rfl; have hcz96_1 : w93.cell? ⟨gb197, 1, none⟩ = some (.int .i64 0) := (blk_cell BK197.out 1).trans rfl; have hcz96_2 : w93.cell? ⟨gb197, 2, none⟩ = some (.string (⟨#[]⟩ : ByteArray)) := (blk_cell BK197.out 2).trans rfl; have hfz96_0 := blk_frozen BK197.out 0; have hfz96_1 := blk_frozen BK197.out 1; have hfz96_2 := blk_frozen BK197.out 2) | ((with_reducible refine gate_callee (f := 17) rfl ?_); refine goesL_ (some 63) rfl rfl Tryd.func17 (by kernel_rfl) rfl #[.agg #[.int .i64 t193, .int .i64 t194, .string t195]] rfl (by (try simp only [List.map_toArray, List.map_cons, List.map_nil]); first | done | rfl | (simp only [List.length_drop, List.length_take]; rfl)) ?_; (with_reducible refine (value_Text.calls t193 t194 t195 t198 _ ?side1 A81.out).mono ?_); (case side1 => (first | (refine LaidW.below HLW.out ?_; (repeat (first | (with_reducible first | exact HB.out | apply below_alloc | apply pw_below_drewN | apply below_drew1 | refine below_set ?_ GE179.out | refine below_set ?_ GE187.out | refine below_set ?_ GE197.out) | exact HB.out)); done) | (repeat (first | exact HLW.out | apply LaidW.drewN | apply LaidW.drew | apply LaidW.alloc)))); rintro e w97 ⟨rfl, hb⟩; refine ⟨_, rfl, ?_⟩; have n0_ := Aside0.mk (blk_below (g := gb179) (o := .cells #[.int .i64 a0_0, .int .i64 a0_1, .string a0_2] 23 (0, 0)) (by (with_reducible repeat (first | refine blk_drewN ?_ _ | refine blk_drew ?_ | refine blk_alloc ?_ _)); refine blk_far ?_ NB179_197.out _; (with_reducible repeat (first | refine blk_drewN ?_ _ | refine blk_drew ?_ | refine blk_alloc ?_ _)); refine blk_far ?_ NB179_197.out _; (with_reducible repeat (first | refine blk_drewN ?_ _ | refine blk_drew ?_ | refine blk_alloc ?_ _)); refine blk_far ?_ NB179_197.out _; (with_reducible repeat (first | refine blk_drewN ?_ _ | refine blk_drew ?_ | refine blk_alloc ?_ _)); exact BK179.out) hb); have n1_ := Aside0.mk (blk_below (g := gb187) (o := .cells #[.int .i64 t183, .int .i64 t184, .string t185] 23 (0, 0)) (by (with_reducible repeat (first | refine blk_drewN ?_ _ | refine blk_drew ?_ | refine blk_alloc ?_ _)); refine blk_far ?_ NB187_197.out _; (with_reducible repeat (first | refine blk_drewN ?_ _ | refine blk_drew ?_ | refine blk_alloc ?_ _)); refine blk_far ?_ NB187_197.out _; (with_reducible repeat (first | refine blk_drewN ?_ _ | refine blk_drew ?_ | refine blk_alloc ?_ _)); refine blk_far ?_ NB187_197.out _; (with_reducible repeat (first | refine blk_drewN ?_ _ | refine blk_drew ?_ | refine blk_alloc ?_ _)); exact BK187.out) hb); have n2_ := Aside0.mk (blk_below (g := gb197) (o := .cells #[.int .i64 t193, .int .i64 t194, .string t195] 23 (0, 0)) (by (with_reducible repeat (first | refine blk_drewN ?_ _ | refine blk_drew ?_ | refine blk_alloc ?_ _)); refine blk_put (cs := #[.int .i64 t193, .int .i64 t194, .string (⟨#[]⟩ : ByteArray)]) ?_ 2 _ rfl; (with_reducible repeat (first | refine blk_drewN ?_ _ | refine blk_drew ?_ | refine blk_alloc ?_ _)); refine blk_put (cs := #[.int .i64 t193, .int .i64 0, .string (⟨#[]⟩ : ByteArray)]) ?_ 1 _ rfl; (with_reducible repeat (first | refine blk_drewN ?_ _ | refine blk_drew ?_ | refine blk_alloc ?_ _)); refine blk_put (cs := #[.int .i64 0, .int .i64 0, .string (⟨#[]⟩ : ByteArray)]) ?_ 0 _ rfl; (with_reducible repeat (first | refine blk_drewN ?_ _ | refine blk_drew ?_ | refine blk_alloc ?_ _)); exact BK197.out) hb); have n3_ := Aside0.mk (below_step (by repeat (first | (with_reducible first | exact HB.out | apply below_alloc | apply pw_below_drewN | apply below_drew1 | refine below_set ?_ GE179.out | refine below_set ?_ GE187.out | refine below_set ?_ GE197.out) | exact HB.out)) hb); clear BK179; clear BK187; clear BK197; clear HB; have BK179 := n0_; have BK187 := n1_; have BK197 := n2_; have HB := n3_; clear n0_ n1_ n2_ n3_; (try clear hb); (try clear hb2); (try clear hk); (try clear hi)))
                  go_ret
                  exact ⟨by first | rfl | (simp [errW_none, errW_some] <;> rfl) | (simp [*, errW_none, errW_some] <;> rfl), by repeat (first | (with_reducible first | exact HB.out | apply below_alloc | apply pw_below_drewN | apply below_drew1 | refine below_set ?_ GE179.out | refine below_set ?_ GE187.out | refine below_set ?_ GE197.out) | exact HB.out)⟩
              · rw [if_neg c80] at H
                have c80b0 : (t196 == 0) = false := beq_eq_false_iff_ne.mpr c80
                have c80b1 : (t196 != 0) = true := bne_iff_ne.mpr c80
                by_cases c98 : t196 = 2
                · rw [if_pos c98] at H
                  have c98b0 : (t196 == 2) = true := beq_iff_eq.mpr c98
                  have c98b1 : (t196 != 2) = false := bne_eq_false_iff_eq.mpr c98
                  clear c98
                  obtain rfl := Option.some.inj H
                  go_wp2_with (first | ((with_reducible refine gate_callee (f := 19) rfl ?_); refine goesL_ (some 50) rfl rfl Tryd.func19 (by kernel_rfl) rfl #[.string a1] rfl (by (try simp only [List.map_toArray, List.map_cons, List.map_nil]); first | done | rfl | (simp only [List.length_drop, List.length_take]; rfl)) ?_; (with_reducible refine (value_Read.calls a1 t193 t194 t195 t196 _ ?side1 A79.out).mono ?_); (case side1 => (first | (refine LaidW.below HLW.out ?_; (repeat (first | (with_reducible first | exact HB.out | apply below_alloc | apply pw_below_drewN | apply below_drew1 | refine below_set ?_ GE179.out | refine below_set ?_ GE187.out) | exact HB.out)); done) | (repeat (first | exact HLW.out | apply LaidW.drewN | apply LaidW.drew | apply LaidW.alloc)))); rintro e w99 ⟨rfl, hb⟩; refine ⟨_, rfl, ?_⟩; have n0_ := Aside0.mk (blk_below (g := gb179) (o := .cells #[.int .i64 a0_0, .int .i64 a0_1, .string a0_2] 23 (0, 0)) (by (with_reducible repeat (first | refine blk_drewN ?_ _ | refine blk_drew ?_ | refine blk_alloc ?_ _)); exact BK179.out) hb); have n1_ := Aside0.mk (blk_below (g := gb187) (o := .cells #[.int .i64 t183, .int .i64 t184, .string t185] 23 (0, 0)) (by (with_reducible repeat (first | refine blk_drewN ?_ _ | refine blk_drew ?_ | refine blk_alloc ?_ _)); exact BK187.out) hb); have n2_ := Aside0.mk (below_step (by repeat (first | (with_reducible first | exact HB.out | apply below_alloc | apply pw_below_drewN | apply below_drew1 | refine below_set ?_ GE179.out | refine below_set ?_ GE187.out) | exact HB.out)) hb); clear BK179; clear BK187; clear HB; have BK179 := n0_; have BK187 := n1_; have HB := n2_; clear n0_ n1_ n2_; (try clear hb); (try clear hb2); (try clear hk); (try clear hi)) | ((with_reducible refine gate_dst (N := 7) rfl ?_); (try (refine gate_guard (by rfl) ?_; dsimp only)); refine box_event ?hg (N := 7) ?hd (cs := #[.int .i64 0, .int .i64 0, .string (⟨#[]⟩ : ByteArray)]) (t := 23) ?hr ?_; (case hd => rfl); (case hg => rfl); (case hr => first | (go_simp; done) | (go_simp; rfl)); intro gb197 hg w100 hbox hb; have n0_ := Aside0.mk (blk_below (g := gb179) (o := .cells #[.int .i64 a0_0, .int .i64 a0_1, .string a0_2] 23 (0, 0)) (by (with_reducible repeat (first | refine blk_drewN ?_ _ | refine blk_drew ?_ | refine blk_alloc ?_ _)); exact BK179.out) hb); have n1_ := Aside0.mk (blk_below (g := gb187) (o := .cells #[.int .i64 t183, .int .i64 t184, .string t185] 23 (0, 0)) (by (with_reducible repeat (first | refine blk_drewN ?_ _ | refine blk_drew ?_ | refine blk_alloc ?_ _)); exact BK187.out) hb); have n2_ := Aside0.mk (below_step (by repeat (first | (with_reducible first | exact HB.out | apply below_alloc | apply pw_below_drewN | apply below_drew1 | refine below_set ?_ GE179.out | refine below_set ?_ GE187.out) | exact HB.out)) hb); have n3_ := Aside0.mk (hbox); have n4_ := Aside0.mk ((by rw [hg]; exact (below_size (by repeat (first | (with_reducible first | exact HB.out | apply below_alloc | apply pw_below_drewN | apply below_drew1 | refine below_set ?_ GE179.out | refine below_set ?_ GE187.out) | exact HB.out))) : w.heap.size ≤ gb197)); have n5_ := Aside0.mk ((by rw [hg]; exact (below_size (by repeat (first | (with_reducible first | exact HB.out | apply below_alloc | apply pw_below_drewN | apply below_drew1 | refine below_set ?_ GE179.out | refine below_set ?_ GE187.out) | exact HB.out))) : w.heap.size ≤ gb197)); have n6_ := Aside0.mk ((by rw [hg]; exact Nat.ne_of_lt (blk_lt (g := gb179) (o := .cells #[.int .i64 a0_0, .int .i64 a0_1, .string a0_2] 23 (0, 0)) (by (with_reducible repeat (first | refine blk_drewN ?_ _ | refine blk_drew ?_ | refine blk_alloc ?_ _)); exact BK179.out)) : gb179 ≠ gb197)); have n7_ := Aside0.mk ((by rw [hg]; exact Nat.ne_of_gt (blk_lt (g := gb179) (o := .cells #[.int .i64 a0_0, .int .i64 a0_1, .string a0_2] 23 (0, 0)) (by (with_reducible repeat (first | refine blk_drewN ?_ _ | refine blk_drew ?_ | refine blk_alloc ?_ _)); exact BK179.out)) : gb197 ≠ gb179)); have n8_ := Aside0.mk ((by rw [hg]; exact Nat.ne_of_lt (blk_lt (g := gb187) (o := .cells #[.int .i64 t183, .int .i64 t184, .string t185] 23 (0, 0)) (by (with_reducible repeat (first | refine blk_drewN ?_ _ | refine blk_drew ?_ | refine blk_alloc ?_ _)); exact BK187.out)) : gb187 ≠ gb197)); have n9_ := Aside0.mk ((by rw [hg]; exact Nat.ne_of_gt (blk_lt (g := gb187) (o := .cells #[.int .i64 t183, .int .i64 t184, .string t185] 23 (0, 0)) (by (with_reducible repeat (first | refine blk_drewN ?_ _ | refine blk_drew ?_ | refine blk_alloc ?_ _)); exact BK187.out)) : gb197 ≠ gb187)); clear BK179; clear BK187; clear HB; have BK179 := n0_; have BK187 := n1_; have HB := n2_; have BK197 := n3_; have GW197 := n4_; have GE197 := n5_; have NB179_197 := n6_; have NB197_179 := n7_; have NB187_197 := n8_; have NB197_187 := n9_; clear n0_ n1_ n2_ n3_ n4_ n5_ n6_ n7_ n8_ n9_; clear hb hbox hg; have hnb101 := NB197_179.out; have hnc101 := NB179_197.out; have hnb102 := NB197_187.out; have hnc102 := NB187_197.out; have hcz103_0 : w100.cell? ⟨gb197, 0, none⟩ = some (.int .i64 0) := (blk_cell BK197.out 0).trans rfl; have hcz103_1 : w100.cell? ⟨gb197, 1, none⟩ = some (.int .i64 0) := (blk_cell BK197.out 1).trans rfl; have hcz103_2 : w100.cell? ⟨gb197, 2, none⟩ = some (.string (⟨#[]⟩ : ByteArray)) := (blk_cell BK197.out 2).trans rfl; have hfz103_0 := blk_frozen BK197.out 0; have hfz103_1 := blk_frozen BK197.out 1; have hfz103_2 := blk_frozen BK197.out 2))
                  go_ret
                  exact ⟨by first | rfl | (simp [errW_none, errW_some] <;> rfl) | (simp [*, errW_none, errW_some] <;> rfl), by repeat (first | (with_reducible first | exact HB.out | apply below_alloc | apply pw_below_drewN | apply below_drew1 | refine below_set ?_ GE179.out | refine below_set ?_ GE187.out | refine below_set ?_ GE197.out) | exact HB.out)⟩
                · rw [if_neg c98] at H
                  have c98b0 : (t196 == 2) = false := beq_eq_false_iff_ne.mpr c98
                  have c98b1 : (t196 != 2) = true := bne_iff_ne.mpr c98
                  obtain rfl := Option.some.inj H
                  go_wp2_with (first | ((with_reducible refine gate_callee (f := 19) rfl ?_); refine goesL_ (some 50) rfl rfl Tryd.func19 (by kernel_rfl) rfl #[.string a1] rfl (by (try simp only [List.map_toArray, List.map_cons, List.map_nil]); first | done | rfl | (simp only [List.length_drop, List.length_take]; rfl)) ?_; (with_reducible refine (value_Read.calls a1 t193 t194 t195 t196 _ ?side1 A79.out).mono ?_); (case side1 => (first | (refine LaidW.below HLW.out ?_; (repeat (first | (with_reducible first | exact HB.out | apply below_alloc | apply pw_below_drewN | apply below_drew1 | refine below_set ?_ GE179.out | refine below_set ?_ GE187.out) | exact HB.out)); done) | (repeat (first | exact HLW.out | apply LaidW.drewN | apply LaidW.drew | apply LaidW.alloc)))); rintro e w104 ⟨rfl, hb⟩; refine ⟨_, rfl, ?_⟩; have n0_ := Aside0.mk (blk_below (g := gb179) (o := .cells #[.int .i64 a0_0, .int .i64 a0_1, .string a0_2] 23 (0, 0)) (by (with_reducible repeat (first | refine blk_drewN ?_ _ | refine blk_drew ?_ | refine blk_alloc ?_ _)); exact BK179.out) hb); have n1_ := Aside0.mk (blk_below (g := gb187) (o := .cells #[.int .i64 t183, .int .i64 t184, .string t185] 23 (0, 0)) (by (with_reducible repeat (first | refine blk_drewN ?_ _ | refine blk_drew ?_ | refine blk_alloc ?_ _)); exact BK187.out) hb); have n2_ := Aside0.mk (below_step (by repeat (first | (with_reducible first | exact HB.out | apply below_alloc | apply pw_below_drewN | apply below_drew1 | refine below_set ?_ GE179.out | refine below_set ?_ GE187.out) | exact HB.out)) hb); clear BK179; clear BK187; clear HB; have BK179 := n0_; have BK187 := n1_; have HB := n2_; clear n0_ n1_ n2_; (try clear hb); (try clear hb2); (try clear hk); (try clear hi)) | ((with_reducible refine gate_dst (N := 7) rfl ?_); (try (refine gate_guard (by rfl) ?_; dsimp only)); refine box_event ?hg (N := 7) ?hd (cs := #[.int .i64 0, .int .i64 0, .string (⟨#[]⟩ : ByteArray)]) (t := 23) ?hr ?_; (case hd => rfl); (case hg => rfl); (case hr => first | (go_simp; done) | (go_simp; rfl)); intro gb197 hg w105 hbox hb; have n0_ := Aside0.mk (blk_below (g := gb179) (o := .cells #[.int .i64 a0_0, .int .i64 a0_1, .string a0_2] 23 (0, 0)) (by (with_reducible repeat (first | refine blk_drewN ?_ _ | refine blk_drew ?_ | refine blk_alloc ?_ _)); exact BK179.out) hb); have n1_ := Aside0.mk (blk_below (g := gb187) (o := .cells #[.int .i64 t183, .int .i64 t184, .string t185] 23 (0, 0)) (by (with_reducible repeat (first | refine blk_drewN ?_ _ | refine blk_drew ?_ | refine blk_alloc ?_ _)); exact BK187.out) hb); have n2_ := Aside0.mk (below_step (by repeat (first | (with_reducible first | exact HB.out | apply below_alloc | apply pw_below_drewN | apply below_drew1 | refine below_set ?_ GE179.out | refine below_set ?_ GE187.out) | exact HB.out)) hb); have n3_ := Aside0.mk (hbox); have n4_ := Aside0.mk ((by rw [hg]; exact (below_size (by repeat (first | (with_reducible first | exact HB.out | apply below_alloc | apply pw_below_drewN | apply below_drew1 | refine below_set ?_ GE179.out | refine below_set ?_ GE187.out) | exact HB.out))) : w.heap.size ≤ gb197)); have n5_ := Aside0.mk ((by rw [hg]; exact (below_size (by repeat (first | (with_reducible first | exact HB.out | apply below_alloc | apply pw_below_drewN | apply below_drew1 | refine below_set ?_ GE179.out | refine below_set ?_ GE187.out) | exact HB.out))) : w.heap.size ≤ gb197)); have n6_ := Aside0.mk ((by rw [hg]; exact Nat.ne_of_lt (blk_lt (g := gb179) (o := .cells #[.int .i64 a0_0, .int .i64 a0_1, .string a0_2] 23 (0, 0)) (by (with_reducible repeat (first | refine blk_drewN ?_ _ | refine blk_drew ?_ | refine blk_alloc ?_ _)); exact BK179.out)) : gb179 ≠ gb197)); have n7_ := Aside0.mk ((by rw [hg]; exact Nat.ne_of_gt (blk_lt (g := gb179) (o := .cells #[.int .i64 a0_0, .int .i64 a0_1, .string a0_2] 23 (0, 0)) (by (with_reducible repeat (first | refine blk_drewN ?_ _ | refine blk_drew ?_ | refine blk_alloc ?_ _)); exact BK179.out)) : gb197 ≠ gb179)); have n8_ := Aside0.mk ((by rw [hg]; exact Nat.ne_of_lt (blk_lt (g := gb187) (o := .cells #[.int .i64 t183, .int .i64 t184, .string t185] 23 (0, 0)) (by (with_reducible repeat (first | refine blk_drewN ?_ _ | refine blk_drew ?_ | refine blk_alloc ?_ _)); exact BK187.out)) : gb187 ≠ gb197)); have n9_ := Aside0.mk ((by rw [hg]; exact Nat.ne_of_gt (blk_lt (g := gb187) (o := .cells #[.int .i64 t183, .int .i64 t184, .string t185] 23 (0, 0)) (by (with_reducible repeat (first | refine blk_drewN ?_ _ | refine blk_drew ?_ | refine blk_alloc ?_ _)); exact BK187.out)) : gb197 ≠ gb187)); clear BK179; clear BK187; clear HB; have BK179 := n0_; have BK187 := n1_; have HB := n2_; have BK197 := n3_; have GW197 := n4_; have GE197 := n5_; have NB179_197 := n6_; have NB197_179 := n7_; have NB187_197 := n8_; have NB197_187 := n9_; clear n0_ n1_ n2_ n3_ n4_ n5_ n6_ n7_ n8_ n9_; clear hb hbox hg; have hnb106 := NB197_179.out; have hnc106 := NB179_197.out; have hnb107 := NB197_187.out; have hnc107 := NB187_197.out; have hcz108_0 : w105.cell? ⟨gb197, 0, none⟩ = some (.int .i64 0) := (blk_cell BK197.out 0).trans rfl; have hcz108_1 : w105.cell? ⟨gb197, 1, none⟩ = some (.int .i64 0) := (blk_cell BK197.out 1).trans rfl; have hcz108_2 : w105.cell? ⟨gb197, 2, none⟩ = some (.string (⟨#[]⟩ : ByteArray)) := (blk_cell BK197.out 2).trans rfl; have hfz108_0 := blk_frozen BK197.out 0; have hfz108_1 := blk_frozen BK197.out 1; have hfz108_2 := blk_frozen BK197.out 2))
                  go_ret
                  exact ⟨by first | rfl | (simp [errW_none, errW_some] <;> rfl) | (simp [*, errW_none, errW_some] <;> rfl), by repeat (first | (with_reducible first | exact HB.out | apply below_alloc | apply pw_below_drewN | apply below_drew1 | refine below_set ?_ GE179.out | refine below_set ?_ GE187.out | refine below_set ?_ GE197.out) | exact HB.out)⟩

end Go.Proofs.YtklpbdmmmloejaaDoor.X
