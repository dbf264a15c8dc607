-- WRITTEN BY A PROGRAM OF THIS SESSION (xprint.py): functions in Lean, and proofs that the code comes to them. Lean checks it.
import Derived.Test.YtklpbdmmmloejaaDoorXx0
import Derived.Test.YtklpbdmmmloejaaDoorXx2
import Derived.Test.YtklpbdmmmloejaaDoorXx7
import Derived.Test.YtklpbdmmmloejaaDoorXx12
namespace Go.Proofs.YtklpbdmmmloejaaDoor.X
open Go.RowKit Go.Proofs.YtklpbdmmmloejaaDoorW.PrintWords Go.Proofs.YtklpbdmmmloejaaDoorW.PrintLast Go.Proofs.YtklpbdmmmloejaaDoorW.PrintMore
attribute [local go_sem] max2_int min2_int max_two min_two max_three min_three max_four min_four   -- for this text's walks alone
set_option linter.unusedVariables false
set_option linter.unusedSimpArgs false

def names_fine (j c : Int) : Bool := (decide (97 ≤ c) && decide (c ≤ 122)) || (decide (0 < j) && ((decide (48 ≤ c) && decide (c ≤ 57)) || c == 95))
theorem names_rest (k : Nat) (x0 x1 : ByteArray) (x2 x3 : Int) (r : Bool) (H : antecedentlaw02_ValueNames.j2 (k + 1) x0 x1 x2 x3 false = some r) :
    ∃ j, Int.tmod (wrap64 x2) (wrap64 ((x0.size : Int) + 1)) = j ∧ ¬ wrap64 ((x0.size : Int) + 1) = 0 ∧ 0 ≤ j ∧ j ≤ (x0.size : Int) ∧ (x0.extract 0 j.toNat).size + (strOfNums [x3]).size ≤ 9223372036854775807 ∧ (x0.extract 0 j.toNat).size + (strOfNums [x3]).size + (x0.extract j.toNat x0.size).size ≤ 9223372036854775807 ∧ x0.size + x1.size ≤ 9223372036854775807 ∧
      ∃ t, value_Name.f k (x0 ++ x1) = some t ∧ if (t == decide (wrap64 ((x0.size : Int) + (x1.size : Int)) ≤ 40)) = true then ∃ u, value_Name.f k ((x0.extract 0 j.toNat ++ strOfNums [x3]) ++ x0.extract j.toNat x0.size) = some u ∧ r = (u == (names_fine j x3 && decide ((x0.size : Int) < 40))) else r = false := by
  simp only [antecedentlaw02_ValueNames.j2, Bool.false_eq_true, if_false] at H
  generalize Int.tmod (wrap64 x2) (wrap64 ((x0.size : Int) + 1)) = j at H ⊢
  refine ⟨j, rfl, ?_⟩
  by_cases h0 : wrap64 ((x0.size : Int) + 1) = 0
  · rw [if_pos h0] at H; cases H
  rw [if_neg h0] at H
  refine ⟨h0, ?_⟩
  by_cases h1 : 0 ≤ j
  case neg => rw [if_neg h1] at H; cases H
  rw [if_pos h1] at H
  refine ⟨h1, ?_⟩
  by_cases h2 : j ≤ (x0.size : Int)
  case neg => rw [if_neg h2] at H; cases H
  rw [if_pos h2] at H
  refine ⟨h2, ?_⟩
  simp only [Option.bind_some] at H
  by_cases h3 : (x0.extract 0 j.toNat).size + (strOfNums [x3]).size ≤ 9223372036854775807
  case neg => rw [if_neg h3] at H; cases H
  rw [if_pos h3] at H
  refine ⟨h3, ?_⟩
  by_cases h4 : (x0.extract 0 j.toNat).size + (strOfNums [x3]).size + (x0.extract j.toNat x0.size).size ≤ 9223372036854775807
  case neg => rw [if_neg h4] at H; cases H
  rw [if_pos h4] at H
  refine ⟨h4, ?_⟩
  by_cases h5 : x0.size + x1.size ≤ 9223372036854775807
  case neg => simp only [if_neg h5, ite_self] at H; cases H
  simp only [if_pos h5] at H
  refine ⟨h5, ?_⟩
  cases hn : value_Name.f k (x0 ++ x1) with
  | none => rw [hn] at H; simp only [Option.bind_none, ite_self] at H; cases H
  | some t =>
    rw [hn] at H
    simp only [Option.bind_some] at H
    refine ⟨t, rfl, ?_⟩
    by_cases h6 : (t == decide (wrap64 ((x0.size : Int) + (x1.size : Int)) ≤ 40)) = true
    case neg =>
      rw [if_neg h6]
      simp only [if_neg h6, ite_self] at H
      exact (Option.some.inj H).symm
    rw [if_pos h6]
    simp only [if_pos h6] at H
    cases hm : value_Name.f k ((x0.extract 0 j.toNat ++ strOfNums [x3]) ++ x0.extract j.toNat x0.size) with
    | none => rw [hm] at H; simp only [Option.bind_none, ite_self] at H; cases H
    | some u =>
      rw [hm] at H
      simp only [Option.bind_some] at H
      refine ⟨u, rfl, ?_⟩
      have key : ∀ b : Bool, some b = some r → r = b := fun b h => (Option.some.inj h).symm
      have fin : ∀ b0 b1 b2 b3 b4 b5 : Bool, decide (97 ≤ x3) = b0 → decide (x3 ≤ 122) = b1 → decide (0 < j) = b2 → decide (48 ≤ x3) = b3 → decide (x3 ≤ 57) = b4 → (x3 == 95) = b5 → names_fine j x3 = ((b0 && b1) || (b2 && ((b3 && b4) || b5))) := by
        intro b0 b1 b2 b3 b4 b5 e0 e1 e2 e3 e4 e5
        subst e0 e1 e2 e3 e4 e5
        rfl
      have dc : ∀ (P : Prop) [Decidable P], (P ∧ decide P = true) ∨ (¬ P ∧ decide P = false) := fun P _ => by
        by_cases h : P
        · exact .inl ⟨h, decide_eq_true h⟩
        · exact .inr ⟨h, decide_eq_false h⟩
      rcases dc (97 ≤ x3) with ⟨g0, e0⟩ | ⟨g0, e0⟩ <;> rcases dc (x3 ≤ 122) with ⟨g1, e1⟩ | ⟨g1, e1⟩ <;> rcases dc (0 < j) with ⟨g2, e2⟩ | ⟨g2, e2⟩ <;> rcases dc (48 ≤ x3) with ⟨g3, e3⟩ | ⟨g3, e3⟩ <;> rcases dc (x3 ≤ 57) with ⟨g4, e4⟩ | ⟨g4, e4⟩ <;> simp only [ge_iff_le, gt_iff_lt, g0, g1, g2, g3, g4, if_true, if_false] at H <;> first
        | (by_cases g5 : x3 = 95
           · rw [if_pos g5] at H
             rw [key _ H, fin _ _ _ _ _ _ e0 e1 e2 e3 e4 (beq_iff_eq.2 g5)]
             simp
           · rw [if_neg g5] at H
             rw [key _ H, fin _ _ _ _ _ _ e0 e1 e2 e3 e4 (beq_eq_false_iff_ne.2 g5)]
             simp)
        | (rw [key _ H, fin _ _ _ _ _ _ e0 e1 e2 e3 e4 rfl]
           simp)
set_option maxHeartbeats 8000000 in
set_option maxRecDepth 100000 in
theorem antecedentlaw02_ValueNames.calls (k : Nat) (a0 : ByteArray) (a1 : ByteArray) (a2 : Int) (a3 : Int) (r : Bool) (w : World) (hLW : LaidW w) (h : antecedentlaw02_ValueNames.f k a0 a1 a2 a3 = some r) :
  Calls Tryd.prog 8 #[.string a0, .string a1, .int .u8 a2, .int .u8 a3] w fun e w' => e = .returned (.bool r) ∧ Below w.heap.size w w' := by
 have HLW := Aside0.mk hLW
 clear hLW
 have HB := Aside0.mk (Below.refl w.heap.size w)
 have H : ((antecedentlaw02_awake.f k).bind fun t224 => (if t224 = true then (if (a0.size : Int) > 100 then (antecedentlaw02_ValueNames.j0 k a0 a1 a2 a3 true) else (antecedentlaw02_ValueNames.j0 k a0 a1 a2 a3 (decide ((a1.size : Int) > 100)))) else (antecedentlaw02_ValueNames.j0 k a0 a1 a2 a3 true))) = some r := h
 clear h
 have HC5 := Aside0.mk H
 clear H
 go_enter Tryd.func8, Tryd.ntmps8
 go_upto_region 1 with (fail)
 go_cut [24] (fun v24 wc => ∃ (kq : Nat) (x24_4 : Bool), v24 = .bool x24_4 ∧ Aside0 (antecedentlaw02_ValueNames.j0 kq a0 a1 a2 a3 x24_4 = some r) ∧ Aside0 (kq ≤ k) ∧ Aside0 (Below w.heap.size w wc))
 case first =>
  have H := HC5.out
  clear HC5
  replace H := Option.bind_eq_some_iff.mp H
  obtain ⟨t224, A60, H⟩ := H
  replace H : (if t224 = true then (if (a0.size : Int) > 100 then (antecedentlaw02_ValueNames.j0 k a0 a1 a2 a3 true) else (antecedentlaw02_ValueNames.j0 k a0 a1 a2 a3 (decide ((a1.size : Int) > 100)))) else (antecedentlaw02_ValueNames.j0 k a0 a1 a2 a3 true)) = some r := H
  have A6 := Aside0.mk A60
  clear A60
  by_cases c7 : t224 = true
  ·
   subst c7
   have H1 : (if (a0.size : Int) > 100 then (antecedentlaw02_ValueNames.j0 k a0 a1 a2 a3 true) else (antecedentlaw02_ValueNames.j0 k a0 a1 a2 a3 (decide ((a1.size : Int) > 100)))) = some r := by rw [if_pos rfl] at H; exact H
   clear H
   have H := H1
   clear H1
   by_cases c8 : (a0.size : Int) > 100
   ·
    rw [if_pos c8] at H
    have c8b0 : decide (100 < (a0.size : Int)) = true := decide_eq_true c8
    have c8b1 : decide (100 < a0.size) = true := decide_eq_true (by omega)
    clear c8
    (first | rw [c8b0] | (simp only [i64_w, i32_w]; rw [c8b0]) | skip)
    have H' := Aside0.mk H
    clear H
    go_wp2_with (first | ((with_reducible refine gate_callee (f := 10) rfl ?_); refine goesL_ (some 13) rfl rfl Tryd.func10 (by kernel_rfl) rfl #[] rfl (by (try simp only [List.map_toArray, List.map_cons, List.map_nil]); first | done | rfl | (simp only [List.length_drop, List.length_take]; rfl)) ?_; (with_reducible refine (antecedentlaw02_awake.calls k  true _ ?side1 A6.out).mono ?_); (case side1 => (first | (refine LaidW.below HLW.out ?_; (repeat (first | (with_reducible first | exact HB.out | apply below_alloc | apply pw_below_drewN | apply below_drew1) | exact HB.out)); done) | (repeat (first | exact HLW.out | apply LaidW.drewN | apply LaidW.drew | apply LaidW.alloc)))); rintro e w9 ⟨rfl, hb⟩; refine ⟨_, rfl, ?_⟩; have n0_ := Aside0.mk (below_step (by repeat (first | (with_reducible first | exact HB.out | apply below_alloc | apply pw_below_drewN | apply below_drew1) | exact HB.out)) hb); clear HB; have HB := n0_; clear n0_; (try clear hb); (try clear hb2); (try clear hk); (try clear hi)))
    go_meet
    case rel => exact ⟨_, (true), (by first | rfl | (simp; done) | (simp [*]; done)), H', ⟨by first | omega | exact Nat.le_refl _⟩, ⟨by repeat (first | (with_reducible first | exact HB.out | apply below_alloc | apply pw_below_drewN | apply below_drew1) | exact HB.out)⟩⟩
   ·
    rw [if_neg c8] at H
    have c8b0 : decide (100 < (a0.size : Int)) = false := decide_eq_false c8
    have c8b1 : decide (100 < a0.size) = false := decide_eq_false (by omega)
    clear c8
    (first | rw [c8b0] | (simp only [i64_w, i32_w]; rw [c8b0]) | skip)
    have H' := Aside0.mk H
    clear H
    go_wp2_with (first | ((with_reducible refine gate_callee (f := 10) rfl ?_); refine goesL_ (some 13) rfl rfl Tryd.func10 (by kernel_rfl) rfl #[] rfl (by (try simp only [List.map_toArray, List.map_cons, List.map_nil]); first | done | rfl | (simp only [List.length_drop, List.length_take]; rfl)) ?_; (with_reducible refine (antecedentlaw02_awake.calls k  true _ ?side1 A6.out).mono ?_); (case side1 => (first | (refine LaidW.below HLW.out ?_; (repeat (first | (with_reducible first | exact HB.out | apply below_alloc | apply pw_below_drewN | apply below_drew1) | exact HB.out)); done) | (repeat (first | exact HLW.out | apply LaidW.drewN | apply LaidW.drew | apply LaidW.alloc)))); rintro e w10 ⟨rfl, hb⟩; refine ⟨_, rfl, ?_⟩; have n0_ := Aside0.mk (below_step (by repeat (first | (with_reducible first | exact HB.out | apply below_alloc | apply pw_below_drewN | apply below_drew1) | exact HB.out)) hb); clear HB; have HB := n0_; clear n0_; (try clear hb); (try clear hb2); (try clear hk); (try clear hi)))
    go_meet
    case rel => exact ⟨_, (decide ((a1.size : Int) > 100)), (by first | rfl | (simp; done) | (simp [*]; done)), H', ⟨by first | omega | exact Nat.le_refl _⟩, ⟨by repeat (first | (with_reducible first | exact HB.out | apply below_alloc | apply pw_below_drewN | apply below_drew1) | exact HB.out)⟩⟩
  ·
   replace c7 := Bool.eq_false_iff.mpr c7
   subst c7
   have H1 : (antecedentlaw02_ValueNames.j0 k a0 a1 a2 a3 true) = some r := by rw [if_neg (show ¬ (false = true) by decide)] at H; exact H
   clear H
   have H := H1
   clear H1
   have H' := Aside0.mk H
   clear H
   go_wp2_with (first | ((with_reducible refine gate_callee (f := 10) rfl ?_); refine goesL_ (some 13) rfl rfl Tryd.func10 (by kernel_rfl) rfl #[] rfl (by (try simp only [List.map_toArray, List.map_cons, List.map_nil]); first | done | rfl | (simp only [List.length_drop, List.length_take]; rfl)) ?_; (with_reducible refine (antecedentlaw02_awake.calls k  false _ ?side1 A6.out).mono ?_); (case side1 => (first | (refine LaidW.below HLW.out ?_; (repeat (first | (with_reducible first | exact HB.out | apply below_alloc | apply pw_below_drewN | apply below_drew1) | exact HB.out)); done) | (repeat (first | exact HLW.out | apply LaidW.drewN | apply LaidW.drew | apply LaidW.alloc)))); rintro e w11 ⟨rfl, hb⟩; refine ⟨_, rfl, ?_⟩; have n0_ := Aside0.mk (below_step (by repeat (first | (with_reducible first | exact HB.out | apply below_alloc | apply pw_below_drewN | apply below_drew1) | exact HB.out)) hb); clear HB; have HB := n0_; clear n0_; (try clear hb); (try clear hb2); (try clear hk); (try clear hi)))
   go_meet
   case rel => exact ⟨_, (true), (by first | rfl | (simp; done) | (simp [*]; done)), H', ⟨by first | omega | exact Nat.le_refl _⟩, ⟨by repeat (first | (with_reducible first | exact HB.out | apply below_alloc | apply pw_below_drewN | apply below_drew1) | exact HB.out)⟩⟩
 case rest =>
  clear HC5
  try clear c1
  try clear p2
  try clear c7
  try clear c8
  try clear c8b0
  try clear c8b1
  try clear c10
  obtain ⟨kq, x24_4, rfl, HA, HJ4, HB⟩ := hcut
  cases kq with
  | zero => exact absurd HA.out (by simp [antecedentlaw02_ValueNames.j0])
  | succ kj4 =>
   have H := HA.out
   clear HA
   simp only [antecedentlaw02_ValueNames.j0] at H
   by_cases c12 : x24_4 = true
   ·
    subst c12
    have H1 : ((antecedentlaw02_awake.f kj4).bind fun t225 => (some t225)) = some r := by rw [if_pos rfl] at H; exact H
    clear H
    have H := H1
    clear H1
    replace H := Option.bind_eq_some_iff.mp H
    obtain ⟨t225, A130, H⟩ := H
    replace H : (some t225) = some r := H
    have A13 := Aside0.mk A130
    clear A130
    obtain rfl := Option.some.inj H
    go_wp2_with (first | ((with_reducible refine gate_callee (f := 10) rfl ?_); refine goesL_ (some 25) rfl rfl Tryd.func10 (by kernel_rfl) rfl #[] rfl (by (try simp only [List.map_toArray, List.map_cons, List.map_nil]); first | done | rfl | (simp only [List.length_drop, List.length_take]; rfl)) ?_; (with_reducible refine (antecedentlaw02_awake.calls kj4  t225 _ ?side1 A13.out).mono ?_); (case side1 => (first | (refine LaidW.below HLW.out ?_; (repeat (first | (with_reducible first | exact HB.out | apply below_alloc | apply pw_below_drewN | apply below_drew1) | exact HB.out)); done) | (repeat (first | exact HLW.out | apply LaidW.drewN | apply LaidW.drew | apply LaidW.alloc)))); rintro e w14 ⟨rfl, hb⟩; refine ⟨_, rfl, ?_⟩; have n0_ := Aside0.mk (below_step (by repeat (first | (with_reducible first | exact HB.out | apply below_alloc | apply pw_below_drewN | apply below_drew1) | exact HB.out)) hb); clear HB; have HB := n0_; clear n0_; (try clear hb); (try clear hb2); (try clear hk); (try clear hi)))
    go_ret
    exact ⟨by first | rfl | (simp [errW_none, errW_some] <;> rfl) | (simp [*, errW_none, errW_some] <;> rfl), by repeat (first | (with_reducible first | exact HB.out | apply below_alloc | apply pw_below_drewN | apply below_drew1) | exact HB.out)⟩
   ·
    replace c12 := Bool.eq_false_iff.mpr c12
    subst c12
    have H1 : ((value_Name.f kj4 (⟨#[]⟩ : ByteArray)).bind fun t226 => (if t226 = true then (antecedentlaw02_ValueNames.j1 kj4 a0 a1 a2 a3 true) else (if (a0.size : Int) > 0 then (if 0 < (a0.size : Int) then (if (bt a0 0) ≥ 48 then (if (bt a0 0) ≤ 57 then ((value_Name.f kj4 a0).bind fun t227 => (antecedentlaw02_ValueNames.j1 kj4 a0 a1 a2 a3 t227)) else (antecedentlaw02_ValueNames.j1 kj4 a0 a1 a2 a3 false)) else (antecedentlaw02_ValueNames.j1 kj4 a0 a1 a2 a3 false)) else (none)) else (antecedentlaw02_ValueNames.j1 kj4 a0 a1 a2 a3 false)))) = some r := by rw [if_neg (show ¬ (false = true) by decide)] at H; exact H
    clear H
    have H := H1
    clear H1
    have HC15 := Aside0.mk H
    clear H
    go_upto_region 3 with (fail)
    go_cut [45] (fun v45 wc => ∃ (kq : Nat) (x45_14 : Bool), v45 = .bool x45_14 ∧ Aside0 (antecedentlaw02_ValueNames.j1 kq a0 a1 a2 a3 x45_14 = some r) ∧ Aside0 (kq ≤ kj4) ∧ Aside0 (Below w.heap.size w wc))
    case first =>
     have H := HC15.out
     clear HC15
     replace H := Option.bind_eq_some_iff.mp H
     obtain ⟨t226, A160, H⟩ := H
     replace H : (if t226 = true then (antecedentlaw02_ValueNames.j1 kj4 a0 a1 a2 a3 true) else (if (a0.size : Int) > 0 then (if 0 < (a0.size : Int) then (if (bt a0 0) ≥ 48 then (if (bt a0 0) ≤ 57 then ((value_Name.f kj4 a0).bind fun t227 => (antecedentlaw02_ValueNames.j1 kj4 a0 a1 a2 a3 t227)) else (antecedentlaw02_ValueNames.j1 kj4 a0 a1 a2 a3 false)) else (antecedentlaw02_ValueNames.j1 kj4 a0 a1 a2 a3 false)) else (none)) else (antecedentlaw02_ValueNames.j1 kj4 a0 a1 a2 a3 false))) = some r := H
     have A16 := Aside0.mk A160
     clear A160
     by_cases c17 : t226 = true
     ·
      subst c17
      have H1 : (antecedentlaw02_ValueNames.j1 kj4 a0 a1 a2 a3 true) = some r := by rw [if_pos rfl] at H; exact H
      clear H
      have H := H1
      clear H1
      have H' := Aside0.mk H
      clear H
      go_wp2_with (first | ((with_reducible refine gate_callee (f := 11) rfl ?_); refine goesL_ (some 26) rfl rfl Tryd.func11 (by kernel_rfl) rfl #[.string (⟨#[]⟩ : ByteArray)] rfl (by (try simp only [List.map_toArray, List.map_cons, List.map_nil]); first | done | rfl | (simp only [List.length_drop, List.length_take]; rfl)) ?_; (with_reducible refine (value_Name.calls kj4 (⟨#[]⟩ : ByteArray) true _ A16.out).mono ?_); rintro e w' ⟨rfl, ⟨nd, rfl⟩⟩; refine ⟨_, rfl, ?_⟩))
      go_meet
      case rel => exact ⟨_, (true), (by first | rfl | (simp; done) | (simp [*]; done)), H', ⟨by have := HJ4.out; first | omega | exact Nat.le_refl _⟩, ⟨by repeat (first | (with_reducible first | exact HB.out | apply below_alloc | apply pw_below_drewN | apply below_drew1) | exact HB.out)⟩⟩
     ·
      replace c17 := Bool.eq_false_iff.mpr c17
      subst c17
      have H1 : (if (a0.size : Int) > 0 then (if 0 < (a0.size : Int) then (if (bt a0 0) ≥ 48 then (if (bt a0 0) ≤ 57 then ((value_Name.f kj4 a0).bind fun t227 => (antecedentlaw02_ValueNames.j1 kj4 a0 a1 a2 a3 t227)) else (antecedentlaw02_ValueNames.j1 kj4 a0 a1 a2 a3 false)) else (antecedentlaw02_ValueNames.j1 kj4 a0 a1 a2 a3 false)) else (none)) else (antecedentlaw02_ValueNames.j1 kj4 a0 a1 a2 a3 false)) = some r := by rw [if_neg (show ¬ (false = true) by decide)] at H; exact H
      clear H
      have H := H1
      clear H1
      by_cases c18 : (a0.size : Int) > 0
      ·
       rw [if_pos c18] at H
       have c18b0 : decide (0 < (a0.size : Int)) = true := decide_eq_true c18
       have c18b1 : decide (0 < a0.size) = true := decide_eq_true (by omega)
       clear c18
       (first | rw [c18b0] | (simp only [i64_w, i32_w]; rw [c18b0]) | skip)
       by_cases c19 : 0 < (a0.size : Int)
       ·
        rw [if_pos c19] at H
        have c19b0 : decide (0 < (a0.size : Int)) = true := decide_eq_true c19
        have c19b1 : decide (0 < a0.size) = true := decide_eq_true (by omega)
        clear c19
        by_cases c21 : (bt a0 0) ≥ 48
        ·
         rw [if_pos c21] at H
         have c21b0 : decide (48 ≤ (bt a0 0)) = true := decide_eq_true c21
         clear c21
         by_cases c23 : (bt a0 0) ≤ 57
         ·
          rw [if_pos c23] at H
          have c23b0 : decide ((bt a0 0) ≤ 57) = true := decide_eq_true c23
          clear c23
          replace H := Option.bind_eq_some_iff.mp H
          obtain ⟨t227, A240, H⟩ := H
          replace H : (antecedentlaw02_ValueNames.j1 kj4 a0 a1 a2 a3 t227) = some r := H
          have A24 := Aside0.mk A240
          clear A240
          have H' := Aside0.mk H
          clear H
          go_wp2_with (first | ((with_reducible refine gate_callee (f := 11) rfl ?_); refine goesL_ (some 26) rfl rfl Tryd.func11 (by kernel_rfl) rfl #[.string (⟨#[]⟩ : ByteArray)] rfl (by (try simp only [List.map_toArray, List.map_cons, List.map_nil]); first | done | rfl | (simp only [List.length_drop, List.length_take]; rfl)) ?_; (with_reducible refine (value_Name.calls kj4 (⟨#[]⟩ : ByteArray) false _ A16.out).mono ?_); rintro e w' ⟨rfl, ⟨nd, rfl⟩⟩; refine ⟨_, rfl, ?_⟩; have p20 : 0 ≤ (0 : Int) := (by omega); have q20 : 0 < a0.size := (by have : (0 : Int) < (a0.size : Int) := of_decide_eq_true (by first | (with_reducible assumption) | assumption); omega); have hx20 : ∀ h : 0 < a0.size, ((a0[0]'h).toNat : Int) = bt a0 0 := bt_at a0 0; clear p20; have qi20 : (0 < (a0.size : Int)) = True := eq_true (of_decide_eq_true (by first | (with_reducible assumption) | assumption)); replace q20 := eq_true q20; have p22 : 0 ≤ (0 : Int) := (by omega); have q22 : 0 < a0.size := (by have : (0 : Int) < (a0.size : Int) := of_decide_eq_true (by first | (with_reducible assumption) | assumption); omega); have hx22 : ∀ h : 0 < a0.size, ((a0[0]'h).toNat : Int) = bt a0 0 := bt_at a0 0; clear p22; have qi22 : (0 < (a0.size : Int)) = True := eq_true (of_decide_eq_true (by first | (with_reducible assumption) | assumption)); replace q22 := eq_true q22) | (go_at_call 11; (with_reducible refine (value_Name.calls kj4 a0 t227 _ A24.out).mono ?_); rintro e w' ⟨rfl, ⟨nd, rfl⟩⟩))
          go_meet
          case rel => exact ⟨_, (t227), (by first | rfl | (simp; done) | (simp [*]; done)), H', ⟨by have := HJ4.out; first | omega | exact Nat.le_refl _⟩, ⟨by repeat (first | (with_reducible first | exact HB.out | apply below_alloc | apply pw_below_drewN | apply below_drew1) | exact HB.out)⟩⟩
         ·
          rw [if_neg c23] at H
          have c23b0 : decide ((bt a0 0) ≤ 57) = false := decide_eq_false c23
          clear c23
          have H' := Aside0.mk H
          clear H
          go_wp2_with (first | ((with_reducible refine gate_callee (f := 11) rfl ?_); refine goesL_ (some 26) rfl rfl Tryd.func11 (by kernel_rfl) rfl #[.string (⟨#[]⟩ : ByteArray)] rfl (by (try simp only [List.map_toArray, List.map_cons, List.map_nil]); first | done | rfl | (simp only [List.length_drop, List.length_take]; rfl)) ?_; (with_reducible refine (value_Name.calls kj4 (⟨#[]⟩ : ByteArray) false _ A16.out).mono ?_); rintro e w' ⟨rfl, ⟨nd, rfl⟩⟩; refine ⟨_, rfl, ?_⟩; have p20 : 0 ≤ (0 : Int) := (by omega); have q20 : 0 < a0.size := (by have : (0 : Int) < (a0.size : Int) := of_decide_eq_true (by first | (with_reducible assumption) | assumption); omega); have hx20 : ∀ h : 0 < a0.size, ((a0[0]'h).toNat : Int) = bt a0 0 := bt_at a0 0; clear p20; have qi20 : (0 < (a0.size : Int)) = True := eq_true (of_decide_eq_true (by first | (with_reducible assumption) | assumption)); replace q20 := eq_true q20; have p22 : 0 ≤ (0 : Int) := (by omega); have q22 : 0 < a0.size := (by have : (0 : Int) < (a0.size : Int) := of_decide_eq_true (by first | (with_reducible assumption) | assumption); omega); have hx22 : ∀ h : 0 < a0.size, ((a0[0]'h).toNat : Int) = bt a0 0 := bt_at a0 0; clear p22; have qi22 : (0 < (a0.size : Int)) = True := eq_true (of_decide_eq_true (by first | (with_reducible assumption) | assumption)); replace q22 := eq_true q22))
          go_meet
          case rel => exact ⟨_, (false), (by first | rfl | (simp; done) | (simp [*]; done)), H', ⟨by have := HJ4.out; first | omega | exact Nat.le_refl _⟩, ⟨by repeat (first | (with_reducible first | exact HB.out | apply below_alloc | apply pw_below_drewN | apply below_drew1) | exact HB.out)⟩⟩
        ·
         rw [if_neg c21] at H
         have c21b0 : decide (48 ≤ (bt a0 0)) = false := decide_eq_false c21
         clear c21
         have H' := Aside0.mk H
         clear H
         go_wp2_with (first | ((with_reducible refine gate_callee (f := 11) rfl ?_); refine goesL_ (some 26) rfl rfl Tryd.func11 (by kernel_rfl) rfl #[.string (⟨#[]⟩ : ByteArray)] rfl (by (try simp only [List.map_toArray, List.map_cons, List.map_nil]); first | done | rfl | (simp only [List.length_drop, List.length_take]; rfl)) ?_; (with_reducible refine (value_Name.calls kj4 (⟨#[]⟩ : ByteArray) false _ A16.out).mono ?_); rintro e w' ⟨rfl, ⟨nd, rfl⟩⟩; refine ⟨_, rfl, ?_⟩; have p20 : 0 ≤ (0 : Int) := (by omega); have q20 : 0 < a0.size := (by have : (0 : Int) < (a0.size : Int) := of_decide_eq_true (by first | (with_reducible assumption) | assumption); omega); have hx20 : ∀ h : 0 < a0.size, ((a0[0]'h).toNat : Int) = bt a0 0 := bt_at a0 0; clear p20; have qi20 : (0 < (a0.size : Int)) = True := eq_true (of_decide_eq_true (by first | (with_reducible assumption) | assumption)); replace q20 := eq_true q20))
         go_meet
         case rel => exact ⟨_, (false), (by first | rfl | (simp; done) | (simp [*]; done)), H', ⟨by have := HJ4.out; first | omega | exact Nat.le_refl _⟩, ⟨by repeat (first | (with_reducible first | exact HB.out | apply below_alloc | apply pw_below_drewN | apply below_drew1) | exact HB.out)⟩⟩
       ·
        rw [if_neg c19] at H
        exact absurd H (by simp)
      ·
       rw [if_neg c18] at H
       have c18b0 : decide (0 < (a0.size : Int)) = false := decide_eq_false c18
       have c18b1 : decide (0 < a0.size) = false := decide_eq_false (by omega)
       clear c18
       (first | rw [c18b0] | (simp only [i64_w, i32_w]; rw [c18b0]) | skip)
       have H' := Aside0.mk H
       clear H
       go_wp2_with (first | ((with_reducible refine gate_callee (f := 11) rfl ?_); refine goesL_ (some 26) rfl rfl Tryd.func11 (by kernel_rfl) rfl #[.string (⟨#[]⟩ : ByteArray)] rfl (by (try simp only [List.map_toArray, List.map_cons, List.map_nil]); first | done | rfl | (simp only [List.length_drop, List.length_take]; rfl)) ?_; (with_reducible refine (value_Name.calls kj4 (⟨#[]⟩ : ByteArray) false _ A16.out).mono ?_); rintro e w' ⟨rfl, ⟨nd, rfl⟩⟩; refine ⟨_, rfl, ?_⟩))
       go_meet
       case rel => exact ⟨_, (false), (by first | rfl | (simp; done) | (simp [*]; done)), H', ⟨by have := HJ4.out; first | omega | exact Nat.le_refl _⟩, ⟨by repeat (first | (with_reducible first | exact HB.out | apply below_alloc | apply pw_below_drewN | apply below_drew1) | exact HB.out)⟩⟩
    case rest =>
     clear HC15
     try clear c1
     try clear c2
     try clear p2
     try clear q2
     try clear hx2
     try clear qi2
     try clear c7
     try clear c8
     try clear c8b0
     try clear c8b1
     try clear c10
     try clear c11
     try clear c12
     try clear c17
     try clear c18
     try clear c18b0
     try clear c18b1
     try clear c19
     try clear c19b0
     try clear c19b1
     try clear p20
     try clear q20
     try clear hx20
     try clear qi20
     try clear c21
     try clear c21b0
     try clear p22
     try clear q22
     try clear hx22
     try clear qi22
     try clear c23
     try clear c23b0
     try clear p2
     try clear p20
     try clear p22
     try clear q20
     try clear q22
     obtain ⟨kq, x45_14, rfl, HA, HJ14, HB⟩ := hcut
     cases kq with
     | zero => exact absurd HA.out (by simp [antecedentlaw02_ValueNames.j1])
     | succ kj14 =>
      have H := HA.out
      clear HA
      simp only [antecedentlaw02_ValueNames.j1] at H
      by_cases c25 : x45_14 = true
      ·
       subst c25
       have H1 : (some false) = some r := by rw [if_pos rfl] at H; exact H
       clear H
       have H := H1
       clear H1
       obtain rfl := Option.some.inj H
       go_wp2
       go_ret
       exact ⟨by first | rfl | (simp [errW_none, errW_some] <;> rfl) | (simp [*, errW_none, errW_some] <;> rfl), by repeat (first | (with_reducible first | exact HB.out | apply below_alloc | apply pw_below_drewN | apply below_drew1) | exact HB.out)⟩
      ·
       replace c25 := Bool.eq_false_iff.mpr c25
       subst c25
       have H1 : ((value_Name.f kj14 a0).bind fun t228 => (if t228 = true then ((value_Name.f kj14 a1).bind fun t229 => (antecedentlaw02_ValueNames.j2 kj14 a0 a1 a2 a3 (!t229))) else (antecedentlaw02_ValueNames.j2 kj14 a0 a1 a2 a3 true))) = some r := by rw [if_neg (show ¬ (false = true) by decide)] at H; exact H
       clear H
       have H := H1
       clear H1
       have HC26 := Aside0.mk H
       clear H
       go_upto_region 5 with (fail)
       go_cut [53] (fun v53 wc => ∃ (kq : Nat) (x53_25 : Bool), v53 = .bool x53_25 ∧ Aside0 (antecedentlaw02_ValueNames.j2 kq a0 a1 a2 a3 x53_25 = some r) ∧ Aside0 (kq ≤ kj14) ∧ Aside0 (Below w.heap.size w wc))
       case first =>
        have H := HC26.out
        clear HC26
        replace H := Option.bind_eq_some_iff.mp H
        obtain ⟨t228, A270, H⟩ := H
        replace H : (if t228 = true then ((value_Name.f kj14 a1).bind fun t229 => (antecedentlaw02_ValueNames.j2 kj14 a0 a1 a2 a3 (!t229))) else (antecedentlaw02_ValueNames.j2 kj14 a0 a1 a2 a3 true)) = some r := H
        have A27 := Aside0.mk A270
        clear A270
        by_cases c28 : t228 = true
        ·
         subst c28
         have H1 : ((value_Name.f kj14 a1).bind fun t229 => (antecedentlaw02_ValueNames.j2 kj14 a0 a1 a2 a3 (!t229))) = some r := by rw [if_pos rfl] at H; exact H
         clear H
         have H := H1
         clear H1
         replace H := Option.bind_eq_some_iff.mp H
         obtain ⟨t229, A290, H⟩ := H
         replace H : (antecedentlaw02_ValueNames.j2 kj14 a0 a1 a2 a3 (!t229)) = some r := H
         have A29 := Aside0.mk A290
         clear A290
         have H' := Aside0.mk H
         clear H
         go_wp2_with (first | ((with_reducible refine gate_callee (f := 11) rfl ?_); refine goesL_ (some 47) rfl rfl Tryd.func11 (by kernel_rfl) rfl #[.string a0] rfl (by (try simp only [List.map_toArray, List.map_cons, List.map_nil]); first | done | rfl | (simp only [List.length_drop, List.length_take]; rfl)) ?_; (with_reducible refine (value_Name.calls kj14 a0 true _ A27.out).mono ?_); rintro e w' ⟨rfl, ⟨nd, rfl⟩⟩; refine ⟨_, rfl, ?_⟩) | (go_at_call 11; (with_reducible refine (value_Name.calls kj14 a1 t229 _ A29.out).mono ?_); rintro e w' ⟨rfl, ⟨nd, rfl⟩⟩))
         go_meet
         case rel => exact ⟨_, (!t229), (by first | rfl | (simp; done) | (simp [*]; done)), H', ⟨by have := HJ4.out; have := HJ14.out; first | omega | exact Nat.le_refl _⟩, ⟨by repeat (first | (with_reducible first | exact HB.out | apply below_alloc | apply pw_below_drewN | apply below_drew1) | exact HB.out)⟩⟩
        ·
         replace c28 := Bool.eq_false_iff.mpr c28
         subst c28
         have H1 : (antecedentlaw02_ValueNames.j2 kj14 a0 a1 a2 a3 true) = some r := by rw [if_neg (show ¬ (false = true) by decide)] at H; exact H
         clear H
         have H := H1
         clear H1
         have H' := Aside0.mk H
         clear H
         go_wp2_with (first | ((with_reducible refine gate_callee (f := 11) rfl ?_); refine goesL_ (some 47) rfl rfl Tryd.func11 (by kernel_rfl) rfl #[.string a0] rfl (by (try simp only [List.map_toArray, List.map_cons, List.map_nil]); first | done | rfl | (simp only [List.length_drop, List.length_take]; rfl)) ?_; (with_reducible refine (value_Name.calls kj14 a0 false _ A27.out).mono ?_); rintro e w' ⟨rfl, ⟨nd, rfl⟩⟩; refine ⟨_, rfl, ?_⟩))
         go_meet
         case rel => exact ⟨_, (true), (by first | rfl | (simp; done) | (simp [*]; done)), H', ⟨by have := HJ4.out; have := HJ14.out; first | omega | exact Nat.le_refl _⟩, ⟨by repeat (first | (with_reducible first | exact HB.out | apply below_alloc | apply pw_below_drewN | apply below_drew1) | exact HB.out)⟩⟩
       case rest =>
        clear HC26
        try clear c1
        try clear c2
        try clear p2
        try clear q2
        try clear hx2
        try clear qi2
        try clear c7
        try clear c8
        try clear c8b0
        try clear c8b1
        try clear c10
        try clear c11
        try clear c12
        try clear c17
        try clear c18
        try clear c18b0
        try clear c18b1
        try clear c19
        try clear c19b0
        try clear c19b1
        try clear p20
        try clear q20
        try clear hx20
        try clear qi20
        try clear c21
        try clear c21b0
        try clear p22
        try clear q22
        try clear hx22
        try clear qi22
        try clear c23
        try clear c23b0
        try clear c25
        try clear c28
        try clear p2
        try clear p20
        try clear p22
        try clear q2
        try clear q20
        try clear q22
        obtain ⟨kq, x53_25, rfl, HA, HJ25, HB⟩ := hcut
        cases kq with
        | zero => exact absurd HA.out (by simp [antecedentlaw02_ValueNames.j2])
        | succ kj25 =>
         have HA0 := Aside0.mk HA.out
         have H := HA.out
         clear HA
         simp only [antecedentlaw02_ValueNames.j2] at H
         by_cases c30 : x53_25 = true
         ·
          subst c30
          have H1 : (some true) = some r := by rw [if_pos rfl] at H; exact H
          clear H
          have H := H1
          clear H1
          obtain rfl := Option.some.inj H
          go_wp2
          go_ret
          exact ⟨by first | rfl | (simp [errW_none, errW_some] <;> rfl) | (simp [*, errW_none, errW_some] <;> rfl), by repeat (first | (with_reducible first | exact HB.out | apply below_alloc | apply pw_below_drewN | apply below_drew1) | exact HB.out)⟩
         ·
          replace c30 := Bool.eq_false_iff.mpr c30
          subst c30
          clear H
          obtain ⟨ji32, hji32, c31, c33, c34, c35, c38, c41, t233, A420, H⟩ := names_rest _ _ _ _ _ _ HA0.out
          clear HA0
          have c31b0 : ((wrap64 ((a0.size : Int) + 1)) == 0) = false := beq_eq_false_iff_ne.mpr c31
          have c31b1 : ((wrap64 ((a0.size : Int) + 1)) != 0) = true := bne_iff_ne.mpr c31
          have c33b0 := eq_true c33
          have c33b1 : decide (0 ≤ (ji32)) = true := decide_eq_true c33
          have c34b0 := eq_true c34
          have c34b1 : decide ((ji32) ≤ (a0.size : Int)) = true := decide_eq_true c34
          clear c33 c34
          obtain ⟨y230, hy230⟩ : ∃ y_ : List Int, y_ = (([a3] : List Int)) := ⟨_, rfl⟩
          rw [← hy230] at c35 c38 H
          have Ny230 := Aside0.mk hy230
          clear hy230
          have c35b0 := eq_true c35
          have c35b9 : (9223372036854775807 < ji32.toNat + (strOfNums y230).size) = False := eq_false (by have h_ := c35; have h3_ := of_eq_true c34b0; rw [ByteArray.size_extract] at h_; omega)
          have c35b1 : decide ((a0.extract 0 ((ji32) : Int).toNat).size + (strOfNums y230).size ≤ 9223372036854775807) = true := decide_eq_true c35
          have c35b2 : (9223372036854775807 < (a0.extract 0 ((ji32) : Int).toNat).size + (strOfNums y230).size) = False := eq_false (Nat.not_lt.2 c35)
          have c38b0 := eq_true c38
          have c38b9 : (9223372036854775807 < ji32.toNat + (strOfNums y230).size + (a0.size - ji32.toNat)) = False := eq_false (by have h_ := c38; have h3_ := of_eq_true c34b0; rw [ByteArray.size_extract, ByteArray.size_extract] at h_; omega)
          have c38b1 : decide ((a0.extract 0 ((ji32) : Int).toNat).size + (strOfNums y230).size + (a0.extract ((ji32) : Int).toNat a0.size).size ≤ 9223372036854775807) = true := decide_eq_true c38
          have c38b2 : (9223372036854775807 < (a0.extract 0 ((ji32) : Int).toNat).size + (strOfNums y230).size + (a0.extract ((ji32) : Int).toNat a0.size).size) = False := eq_false (Nat.not_lt.2 c38)
          have c41b0 := eq_true c41
          have c41b1 : decide (a0.size + a1.size ≤ 9223372036854775807) = true := decide_eq_true c41
          have c41b2 : (9223372036854775807 < a0.size + a1.size) = False := eq_false (Nat.not_lt.2 c41)
          have A42 := Aside0.mk A420
          have H' := Aside0.mk H
          clear A420 H
          try go_wp2
          have n0_ := Aside0.mk (below_drew1 HB.out)
          clear HB
          have HB := n0_
          clear n0_
          refine start_ (n := 12) (S := fun w' => True) (ds := []) #[false, false, false, false, false, false, false, false, false, false, false, false] (by kernel_rfl) rfl rfl trivial (fun hHeld => ?_); refine with_tabW antecedentlaw02_ValueNames.tab8 antecedentlaw02_ValueNames.bits8 (fun HT_ HW_ => ?_)
          generalize wc.drew = w45 at HB hHeld ⊢
          refine pure_ (i := 0) (N := some 60) (v := ?_) (a' := ?_) #[true, false, false, false, false, false, false, false, false, false, false, false] rfl rfl (any_of HT_.out (by kernel_rfl)) (fun _ _ _ h => h) (Or.inl ⟨by rfl, ?_⟩) ?_ ?_
          rotate_left
          ·
           intro w'
           go_simp
           with_reducible rfl
          rotate_left
          ·
           simp only [Act.put, List.setIfInBounds_toArray, List.set_cons_zero, List.set_cons_succ, i64_w, i32_w]
           rfl
          refine pure_ (i := 1) (N := some 61) (v := ?_) (a' := ?_) #[true, true, false, false, false, false, false, false, false, false, false, false] rfl rfl (any_of HT_.out (by kernel_rfl)) (fun _ _ _ h => h) (Or.inl ⟨by rfl, ?_⟩) ?_ ?_
          rotate_left
          ·
           intro w'
           go_simp
           with_reducible rfl
          rotate_left
          ·
           simp only [Act.put, List.setIfInBounds_toArray, List.set_cons_zero, List.set_cons_succ, i64_w, i32_w]
           rfl
          refine pure_ (i := 2) (N := some 62) (v := ?_) (a' := ?_) #[true, true, true, false, false, false, false, false, false, false, false, false] rfl rfl (any_of HT_.out (by kernel_rfl)) (fun _ _ _ h => h) (Or.inl ⟨by rfl, ?_⟩) ?_ ?_
          rotate_left
          ·
           intro w'
           go_simp
           with_reducible rfl
          rotate_left
          ·
           simp only [Act.put, List.setIfInBounds_toArray, List.set_cons_zero, List.set_cons_succ, i64_w, i32_w]
           rfl
          refine pure_ (i := 3) (N := some 63) (v := ?_) (a' := ?_) #[true, true, true, true, false, false, false, false, false, false, false, false] rfl rfl (any_of HT_.out (by kernel_rfl)) (fun _ _ _ h => h) (Or.inl ⟨by rfl, ?_⟩) ?_ ?_
          rotate_left
          ·
           intro w'
           go_simp
           with_reducible rfl
          rotate_left
          ·
           simp only [Act.put, List.setIfInBounds_toArray, List.set_cons_zero, List.set_cons_succ, i64_w, i32_w]
           rfl
          refine pure_ (i := 7) (N := some 67) (v := ?_) (a' := ?_) #[true, true, true, true, false, false, false, true, false, false, false, false] rfl rfl (any_of HT_.out (by kernel_rfl)) (fun _ _ _ h => h) (Or.inl ⟨by rfl, ?_⟩) ?_ ?_
          rotate_left
          ·
           intro w'
           go_simp
           with_reducible rfl
          rotate_left
          ·
           simp only [Act.put, List.setIfInBounds_toArray, List.set_cons_zero, List.set_cons_succ, i64_w, i32_w]
           rfl
          refine pure_ (i := 8) (N := some 68) (v := ?_) (a' := ?_) #[true, true, true, true, false, false, false, true, true, false, false, false] rfl rfl (any_of HT_.out (by kernel_rfl)) (fun _ _ _ h => h) (Or.inl ⟨by rfl, ?_⟩) ?_ ?_
          rotate_left
          ·
           intro w'
           go_simp
           with_reducible rfl
          rotate_left
          ·
           simp only [Act.put, List.setIfInBounds_toArray, List.set_cons_zero, List.set_cons_succ, i64_w, i32_w]
           rfl
          refine pure_ (i := 9) (N := some 69) (v := ?_) (a' := ?_) #[true, true, true, true, false, false, false, true, true, true, false, false] rfl rfl (any_of HT_.out (by kernel_rfl)) (fun _ _ _ h => h) (Or.inl ⟨by rfl, ?_⟩) ?_ ?_
          rotate_left
          ·
           intro w'
           go_simp
           with_reducible rfl
          rotate_left
          ·
           simp only [Act.put, List.setIfInBounds_toArray, List.set_cons_zero, List.set_cons_succ, i64_w, i32_w]
           rfl
          refine one_ (i := 4) (N := some 64) #[true, true, true, true, true, false, false, true, true, true, false, false] rfl rfl (one_of HT_.out (by kernel_rfl)) (by decide) (fun K hK => ?_)
          refine Kd.R_lit_step (Kd.int .u8) _ 5 ?hg (N := 64) ?hd (xs := ([a3] : List Int)) (inner := [.int .u8 a3]) (ok := fun _ => True) (okp := fun _ => True) ?hr ?hp (fun _ hk => hk) trivial (Below.refl _ _) (Nat.le_refl _) (by simp) ?_; (case hd => rfl); (case hg => rfl); (case hr => first | (go_simp; done) | (go_simp; rfl)); (case hp => exact (Reps.one (show Kd.M (Kd.int .u8) _ _ _ a3 [.int .u8 a3] from rfl) (Reps.none _ _)))
          intro v231 w46 ho47 hb hg_ hnew_
          clear hg_ hnew_
          (first | rw [← Ny230.out] at ho47 | (simp only [Int.reduceToNat] at ho47; rw [← Ny230.out] at ho47))
          have n0_ := Aside0.mk (Kd.R_lower ho47 (below_size (by repeat (first | (with_reducible first | exact HB.out | apply below_alloc | apply pw_below_drewN | apply below_drew1) | exact HB.out))))
          have n1_ := Aside0.mk (below_step (by repeat (first | (with_reducible first | exact HB.out | apply below_alloc | apply pw_below_drewN | apply below_drew1) | exact HB.out)) hb)
          clear HB
          have HO232 := n0_
          have HB := n1_
          clear n0_ n1_
          clear hb ho47
          refine hK.out _ _ trivial (fun hHeld => ?_)
          clear hK K
          refine norm_ (a' := ?_) ?_ ?_
          rotate_left
          ·
           show Act.put _ (some 64) _ = _
           simp only [Act.put, List.setIfInBounds_toArray, List.set_cons_zero, List.set_cons_succ, i64_w, i32_w]
           rfl
          refine one_ (i := 5) (N := some 65) #[true, true, true, true, true, true, false, true, true, true, false, false] rfl rfl (one_of HT_.out (by kernel_rfl)) (by decide) (fun K hK => ?_)
          have hcv48 := own_string (P := Tryd.prog) Tryd.underlying38 Tryd.underlying5 Tryd.underlying9 (Kd.own_of_R HO232.out)
          refine value_ (w1 := ?_) (v := ?_) (by rfl) rfl ?_ ?_
          rotate_left 2
          ·
           go_simp
           constructor
           ·
            rfl
           ·
            rfl
          clear hcv48
          refine hK.out _ _ trivial (fun hHeld => ?_)
          clear hK K
          refine norm_ (a' := ?_) ?_ ?_
          rotate_left
          ·
           show Act.put _ (some 65) _ = _
           simp only [Act.put, List.setIfInBounds_toArray, List.set_cons_zero, List.set_cons_succ, i64_w, i32_w]
           rfl
          refine pure_ (i := 6) (N := some 66) (v := ?_) (a' := ?_) #[true, true, true, true, true, true, true, true, true, true, false, false] rfl rfl (any_of HT_.out (by kernel_rfl)) (fun _ _ _ h => h) (Or.inl ⟨by rfl, ?_⟩) ?_ ?_
          rotate_left
          ·
           intro w'
           go_simp
           with_reducible rfl
          rotate_left
          ·
           simp only [Act.put, List.setIfInBounds_toArray, List.set_cons_zero, List.set_cons_succ, i64_w, i32_w]
           rfl
          refine pure_ (i := 10) (N := some 70) (v := ?_) (a' := ?_) #[true, true, true, true, true, true, true, true, true, true, true, false] rfl rfl (any_of HT_.out (by kernel_rfl)) (fun _ _ _ h => h) (Or.inl ⟨by rfl, ?_⟩) ?_ ?_
          rotate_left
          ·
           intro w'
           go_simp
           with_reducible rfl
          rotate_left
          ·
           simp only [Act.put, List.setIfInBounds_toArray, List.set_cons_zero, List.set_cons_succ, i64_w, i32_w]
           rfl
          refine pure_ (i := 11) (N := some 10) (v := ?_) (a' := ?_) #[true, true, true, true, true, true, true, true, true, true, true, true] rfl rfl (any_of HT_.out (by kernel_rfl)) (fun _ _ _ h => h) (Or.inl ⟨by rfl, ?_⟩) ?_ ?_
          rotate_left
          ·
           intro w'
           go_simp
           with_reducible rfl
          rotate_left
          ·
           simp only [Act.put, List.setIfInBounds_toArray, List.set_cons_zero, List.set_cons_succ, i64_w, i32_w]
           rfl
          refine done_ (done_of HT_.out (by kernel_rfl)) ?_
          go_upto_region 9 with (fail)
          go_cut [11] (fun v11 wc => v11 = .bool (decide (97 ≤ a3) && decide (a3 ≤ 122)) ∧ Aside0 (Below w.heap.size w wc))
          case first =>
           cases c39 : decide (97 ≤ a3) with
           | false =>
             go_wp2
             go_meet
             case rel => exact ⟨by simp [*], ⟨HB.out⟩⟩
           | true =>
             cases c40 : decide (a3 ≤ 122) with
             | false =>
               go_wp2
               go_meet
               case rel => exact ⟨by simp [*], ⟨HB.out⟩⟩
             | true =>
               go_wp2
               go_meet
               case rel => exact ⟨by simp [*], ⟨HB.out⟩⟩
          case rest =>
           clear HB
           obtain ⟨rfl, HB⟩ := hcut
           have HF := Aside0.mk (show names_fine ji32 a3 = ((decide (97 ≤ a3) && decide (a3 ≤ 122)) || (decide (0 < ji32) && ((decide (48 ≤ a3) && decide (a3 ≤ 57)) || a3 == 95))) from rfl)
           generalize (decide (97 ≤ a3) && decide (a3 ≤ 122)) = b9 at HF ⊢
           generalize names_fine ji32 a3 = b10 at HF H'
           go_upto_region 10 with (fail)
           go_cut [12] (fun v12 wc => v12 = .bool b10 ∧ Aside0 (Below w.heap.size w wc))
           case first =>
            have hF := HF.out
            cases b9 with
            | true =>
              simp only [Bool.true_or] at hF
              go_wp2
              go_meet
              case rel => exact ⟨by simp [*], ⟨HB.out⟩⟩
            | false =>
              cases c2 : decide (0 < ji32) with
              | false =>
                simp only [c2, Bool.false_and, Bool.or_false] at hF
                go_wp2
                go_meet
                case rel => exact ⟨by simp [*], ⟨HB.out⟩⟩
              | true =>
                cases c5 : (a3 == 95) with
                | true =>
                  simp only [c2, c5, Bool.or_true, Bool.and_true] at hF
                  cases c3 : decide (48 ≤ a3) with
                  | false =>
                    go_wp2
                    go_meet
                    case rel => exact ⟨by simp [*], ⟨HB.out⟩⟩
                  | true =>
                    cases c4 : decide (a3 ≤ 57) with
                    | false =>
                      go_wp2
                      go_meet
                      case rel => exact ⟨by simp [*], ⟨HB.out⟩⟩
                    | true =>
                      go_wp2
                      go_meet
                      case rel => exact ⟨by simp [*], ⟨HB.out⟩⟩
                | false =>
                  cases c3 : decide (48 ≤ a3) with
                  | false =>
                    simp only [c2, c5, c3, Bool.false_and, Bool.or_false, Bool.and_false] at hF
                    go_wp2
                    go_meet
                    case rel => exact ⟨by simp [*], ⟨HB.out⟩⟩
                  | true =>
                    cases c4 : decide (a3 ≤ 57) with
                    | false =>
                      simp only [c2, c5, c3, c4, Bool.or_false, Bool.and_false] at hF
                      go_wp2
                      go_meet
                      case rel => exact ⟨by simp [*], ⟨HB.out⟩⟩
                    | true =>
                      simp only [c2, c5, c3, c4, Bool.and_true, Bool.or_false, Bool.or_true] at hF
                      go_wp2
                      go_meet
                      case rel => exact ⟨by simp [*], ⟨HB.out⟩⟩
           case rest =>
            clear HB
            obtain ⟨rfl, HB⟩ := hcut
            clear HF
            have H := H'.out
            clear H'
            have hwr : wrap64 ((a0.size : Int) + (a1.size : Int)) = (a0.size : Int) + (a1.size : Int) := by unfold wrap64; have h_ := of_eq_true c41b0; omega
            by_cases c43 : (t233 == (decide ((wrap64 ((a0.size : Int) + (a1.size : Int))) ≤ 40))) = true
            · rw [if_pos c43] at H
              have c43b0 : (t233 == (decide ((wrap64 ((a0.size : Int) + (a1.size : Int))) ≤ 40))) = true := c43
              rw [hwr] at c43
              have c43b1 : decide (t233 = (decide ((a0.size : Int) + (a1.size : Int) ≤ 40))) = true := by simpa using c43
              have c43b2 : (t233 == (decide ((a0.size : Int) + (a1.size : Int) ≤ 40))) = true := c43
              have c43b3 : t233 = (decide ((a0.size : Int) + (a1.size : Int) ≤ 40)) := by simpa using c43
              clear hwr
              clear c43
              obtain ⟨t234, A440, rfl⟩ := H
              have A44 := Aside0.mk A440
              clear A440
              cases b10 with
              | true =>
                go_wp2_with (first | ((with_reducible refine gate_callee (f := 11) rfl ?_); refine goesL_ (some 97) rfl rfl Tryd.func11 (by kernel_rfl) rfl #[.string (a0 ++ a1)] rfl (by (try simp only [List.map_toArray, List.map_cons, List.map_nil]); first | done | rfl | (simp only [List.length_drop, List.length_take]; rfl)) ?_; (with_reducible refine (value_Name.calls kj25 (a0 ++ a1) t233 _ A42.out).mono ?_); rintro e w' ⟨rfl, ⟨nd, rfl⟩⟩; refine ⟨_, rfl, ?_⟩) | (go_at_call 11; (with_reducible refine (value_Name.calls kj25 (((a0.extract 0 ((ji32) : Int).toNat) ++ (strOfNums y230)) ++ (a0.extract ((ji32) : Int).toNat a0.size)) t234 _ A44.out).mono ?_); rintro e w' ⟨rfl, ⟨nd, rfl⟩⟩))
                go_ret
                exact ⟨by first | rfl | (simp [*]; done), by repeat (first | (with_reducible first | exact HB.out | apply below_alloc | apply pw_below_drewN | apply below_drew1) | exact HB.out)⟩
              | false =>
                go_wp2_with (first | ((with_reducible refine gate_callee (f := 11) rfl ?_); refine goesL_ (some 97) rfl rfl Tryd.func11 (by kernel_rfl) rfl #[.string (a0 ++ a1)] rfl (by (try simp only [List.map_toArray, List.map_cons, List.map_nil]); first | done | rfl | (simp only [List.length_drop, List.length_take]; rfl)) ?_; (with_reducible refine (value_Name.calls kj25 (a0 ++ a1) t233 _ A42.out).mono ?_); rintro e w' ⟨rfl, ⟨nd, rfl⟩⟩; refine ⟨_, rfl, ?_⟩) | (go_at_call 11; (with_reducible refine (value_Name.calls kj25 (((a0.extract 0 ((ji32) : Int).toNat) ++ (strOfNums y230)) ++ (a0.extract ((ji32) : Int).toNat a0.size)) t234 _ A44.out).mono ?_); rintro e w' ⟨rfl, ⟨nd, rfl⟩⟩))
                go_ret
                exact ⟨by first | rfl | (simp [*]; done), by repeat (first | (with_reducible first | exact HB.out | apply below_alloc | apply pw_below_drewN | apply below_drew1) | exact HB.out)⟩
            · rw [if_neg c43] at H
              subst H
              have c43b0 : (t233 == (decide ((wrap64 ((a0.size : Int) + (a1.size : Int))) ≤ 40))) = false := by simpa using c43
              rw [hwr] at c43
              have c43b1 : decide (t233 = (decide ((a0.size : Int) + (a1.size : Int) ≤ 40))) = false := by simpa using c43
              have c43b2 : (t233 == (decide ((a0.size : Int) + (a1.size : Int) ≤ 40))) = false := by simpa using c43
              clear hwr
              have c43b3 : ¬ (t233 = (decide ((a0.size : Int) + (a1.size : Int) ≤ 40))) := by simpa using c43
              clear c43
              go_wp2_with (first | ((with_reducible refine gate_callee (f := 11) rfl ?_); refine goesL_ (some 97) rfl rfl Tryd.func11 (by kernel_rfl) rfl #[.string (a0 ++ a1)] rfl (by (try simp only [List.map_toArray, List.map_cons, List.map_nil]); first | done | rfl | (simp only [List.length_drop, List.length_take]; rfl)) ?_; (with_reducible refine (value_Name.calls kj25 (a0 ++ a1) t233 _ A42.out).mono ?_); rintro e w' ⟨rfl, ⟨nd, rfl⟩⟩; refine ⟨_, rfl, ?_⟩))
              go_ret
              exact ⟨by first | rfl | (simp [*]; done), by repeat (first | (with_reducible first | exact HB.out | apply below_alloc | apply pw_below_drewN | apply below_drew1) | exact HB.out)⟩
end Go.Proofs.YtklpbdmmmloejaaDoor.X
