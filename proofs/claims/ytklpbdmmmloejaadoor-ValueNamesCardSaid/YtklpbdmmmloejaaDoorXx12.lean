-- WRITTEN BY A PROGRAM OF THIS SESSION (xprint.py): functions in Lean, and proofs that the code comes to them. Lean checks it.
import Derived.Test.YtklpbdmmmloejaaDoorXx0
import Derived.Test.YtklpbdmmmloejaaDoorXx1
import Derived.Test.YtklpbdmmmloejaaDoorXx2
import Derived.Test.YtklpbdmmmloejaaDoorXx7
import Derived.Test.YtklpbdmmmloejaaDoorXtE
import Derived.Test.YtklpbdmmmloejaaDoorXtT
namespace Go.Proofs.YtklpbdmmmloejaaDoor.X
open Go.RowKit Go.Proofs.YtklpbdmmmloejaaDoorW.PrintWords Go.Proofs.YtklpbdmmmloejaaDoorW.PrintLast Go.Proofs.YtklpbdmmmloejaaDoorW.PrintMore
attribute [local go_sem] max2_int min2_int max_two min_two max_three min_three max_four min_four   -- for this text's walks alone
set_option linter.unusedVariables false
set_option linter.unusedSimpArgs false

attribute [local go_sem high] eqA23
/-! ### antecedentlaw02_ValueDigits: function 9 -/
def antecedentlaw02_ValueDigits.j0 : Nat → Int → Int → Int → Bool → Int → Int → ByteArray → Option (Bool)
  | 0, _, _, _, _, _, _, _ => none
  | k + 1, x0, x1, x8, x31, x224000, x224001, x224002 => if x31 = true then (some true) else (if x0 = 0 then (some (x8 == 2)) else (if x0 < 0 then (if x8 = 0 then (some (x224000 == 1 && (x224001 == (wrap64 ((wrap64 (10 * x0)) - (wrap64 (Int.tmod x1 10)))) && (x224002.toList == ([] : List UInt8))))) else (some false)) else (if x8 = 0 then (some (x224000 == 1 && (x224001 == (wrap64 ((wrap64 (10 * x0)) + (wrap64 (Int.tmod x1 10)))) && (x224002.toList == ([] : List UInt8))))) else (some false))))
def antecedentlaw02_ValueDigits.f (k : Nat) (a0 : Int) (a1 : Int) : Option (Bool) := (antecedentlaw02_awake.f k).bind fun t216 => (if t216 = true then ((value_Text.f 1 a0 (⟨#[]⟩ : ByteArray)).bind fun t218 => (if 0 ≤ (Int.tmod a1 10) then (if (Int.tmod a1 10) ≤ 10 then (if 0 ≤ 1 then (if 1 ≤ (((⟨#[48, 49, 50, 51, 52, 53, 54, 55, 56, 57]⟩ : ByteArray).extract ((Int.tmod a1 10) : Int).toNat (⟨#[48, 49, 50, 51, 52, 53, 54, 55, 56, 57]⟩ : ByteArray).size).size : Int) then (if t218.size + (((⟨#[48, 49, 50, 51, 52, 53, 54, 55, 56, 57]⟩ : ByteArray).extract ((Int.tmod a1 10) : Int).toNat (⟨#[48, 49, 50, 51, 52, 53, 54, 55, 56, 57]⟩ : ByteArray).size).extract 0 1).size ≤ 9223372036854775807 then ((value_Read.f (t218 ++ (((⟨#[48, 49, 50, 51, 52, 53, 54, 55, 56, 57]⟩ : ByteArray).extract ((Int.tmod a1 10) : Int).toNat (⟨#[48, 49, 50, 51, 52, 53, 54, 55, 56, 57]⟩ : ByteArray).size).extract 0 1))).bind fun bt219 => (if a0 > 900000000000000000 then (antecedentlaw02_ValueDigits.j0 k a0 a1 bt219.2.2.2 true bt219.1 bt219.2.1 bt219.2.2.1) else (antecedentlaw02_ValueDigits.j0 k a0 a1 bt219.2.2.2 (decide (a0 < (-900000000000000000))) bt219.1 bt219.2.1 bt219.2.2.1))) else (none)) else (none)) else (none)) else (none)) else (none))) else (some false))
theorem antecedentlaw02_ValueDigits.mono_l : ∀ k, (∀ y0 y1 y2 y3 y4 y5 y6, LeO (antecedentlaw02_ValueDigits.j0 k y0 y1 y2 y3 y4 y5 y6) (antecedentlaw02_ValueDigits.j0 (k + 1) y0 y1 y2 y3 y4 y5 y6))
  | 0 => fun _ _ _ _ _ _ _ r h => by simp [antecedentlaw02_ValueDigits.j0] at h
  | k + 1 => by
    have ih0 := antecedentlaw02_ValueDigits.mono_l k
    · intro y0 y1 y2 y3 y4 y5 y6
      unfold antecedentlaw02_ValueDigits.j0
      repeat' first
      | (with_reducible exact ih0 _ _ _ _ _ _ _)
      | (with_reducible exact antecedentlaw02_awake.mono _)
      | (with_reducible exact LeO.refl _)
      | (with_reducible exact LeO.none _)
      | (with_reducible refine LeO.ite ?_ ?_)
      | (with_reducible refine LeO.bind ?_ (fun _ => ?_))
      | exact ih0 _ _ _ _ _ _ _
      | exact antecedentlaw02_awake.mono _
      | exact LeO.none _
      | refine LeO.ite ?_ ?_
      | refine LeO.bind ?_ (fun _ => ?_)
theorem antecedentlaw02_ValueDigits.mono : ∀ a0 a1 k, LeO (antecedentlaw02_ValueDigits.f k a0 a1) (antecedentlaw02_ValueDigits.f (k + 1) a0 a1) := by
  intro a0 a1 k
  have ih0 := antecedentlaw02_ValueDigits.mono_l k
  unfold antecedentlaw02_ValueDigits.f
  repeat' first
      | (with_reducible exact ih0 _ _ _ _ _ _ _)
      | (with_reducible exact antecedentlaw02_awake.mono _)
      | (with_reducible exact LeO.refl _)
      | (with_reducible exact LeO.none _)
      | (with_reducible refine LeO.ite ?_ ?_)
      | (with_reducible refine LeO.bind ?_ (fun _ => ?_))
      | exact ih0 _ _ _ _ _ _ _
      | exact antecedentlaw02_awake.mono _
      | exact LeO.none _
      | refine LeO.ite ?_ ?_
      | refine LeO.bind ?_ (fun _ => ?_)
def antecedentlaw02_ValueDigits.T4 : Bool × List (List Nat × List Nat) := (true, [([], []), ([0], [0]), ([], []), ([2], [2]), ([3], [3]), ([4], [4]), ([1, 5], [1, 5]), ([6, 1, 0, 1, 2, 3, 4, 5, 6], [6])])
def antecedentlaw02_ValueDigits.B4 : List Nat := [0, 1, 0, 4, 12, 28, 63, 127]
theorem antecedentlaw02_ValueDigits.tab4 : rtab .any (opsOf Tryd.f9 4) = antecedentlaw02_ValueDigits.T4 := by kernel_rfl
theorem antecedentlaw02_ValueDigits.bits4 : waitsOk antecedentlaw02_ValueDigits.T4.2 antecedentlaw02_ValueDigits.B4 = true := by kernel_rfl
set_option maxHeartbeats 8000000 in
set_option maxRecDepth 100000 in
theorem antecedentlaw02_ValueDigits.calls (k : Nat) (a0 : Int) (a1 : Int) (r : Bool) (w : World) (hLW : LaidW w) (h : antecedentlaw02_ValueDigits.f k a0 a1 = some r) :
    Calls Tryd.prog 9 #[.int .i64 a0, .int .u8 a1] w fun e w' => e = .returned (.bool r) ∧ Below w.heap.size w w' := by
  have hu23 := Tryd.underlying23
  have HLW := Aside0.mk hLW
  clear hLW
  have HB := Aside0.mk (Below.refl w.heap.size w)
  have H : ((antecedentlaw02_awake.f k).bind fun t216 => (if t216 = true then ((value_Text.f 1 a0 (⟨#[]⟩ : ByteArray)).bind fun t218 => (if 0 ≤ (Int.tmod a1 10) then (if (Int.tmod a1 10) ≤ 10 then (if 0 ≤ 1 then (if 1 ≤ (((⟨#[48, 49, 50, 51, 52, 53, 54, 55, 56, 57]⟩ : ByteArray).extract ((Int.tmod a1 10) : Int).toNat (⟨#[48, 49, 50, 51, 52, 53, 54, 55, 56, 57]⟩ : ByteArray).size).size : Int) then (if t218.size + (((⟨#[48, 49, 50, 51, 52, 53, 54, 55, 56, 57]⟩ : ByteArray).extract ((Int.tmod a1 10) : Int).toNat (⟨#[48, 49, 50, 51, 52, 53, 54, 55, 56, 57]⟩ : ByteArray).size).extract 0 1).size ≤ 9223372036854775807 then ((value_Read.f (t218 ++ (((⟨#[48, 49, 50, 51, 52, 53, 54, 55, 56, 57]⟩ : ByteArray).extract ((Int.tmod a1 10) : Int).toNat (⟨#[48, 49, 50, 51, 52, 53, 54, 55, 56, 57]⟩ : ByteArray).size).extract 0 1))).bind fun bt219 => (if a0 > 900000000000000000 then (antecedentlaw02_ValueDigits.j0 k a0 a1 bt219.2.2.2 true bt219.1 bt219.2.1 bt219.2.2.1) else (antecedentlaw02_ValueDigits.j0 k a0 a1 bt219.2.2.2 (decide (a0 < (-900000000000000000))) bt219.1 bt219.2.1 bt219.2.2.1))) else (none)) else (none)) else (none)) else (none)) else (none))) else (some false))) = some r := h
  clear h
  replace H := Option.bind_eq_some_iff.mp H
  obtain ⟨t216, A30, H⟩ := H
  replace H : (if t216 = true then ((value_Text.f 1 a0 (⟨#[]⟩ : ByteArray)).bind fun t218 => (if 0 ≤ (Int.tmod a1 10) then (if (Int.tmod a1 10) ≤ 10 then (if 0 ≤ 1 then (if 1 ≤ (((⟨#[48, 49, 50, 51, 52, 53, 54, 55, 56, 57]⟩ : ByteArray).extract ((Int.tmod a1 10) : Int).toNat (⟨#[48, 49, 50, 51, 52, 53, 54, 55, 56, 57]⟩ : ByteArray).size).size : Int) then (if t218.size + (((⟨#[48, 49, 50, 51, 52, 53, 54, 55, 56, 57]⟩ : ByteArray).extract ((Int.tmod a1 10) : Int).toNat (⟨#[48, 49, 50, 51, 52, 53, 54, 55, 56, 57]⟩ : ByteArray).size).extract 0 1).size ≤ 9223372036854775807 then ((value_Read.f (t218 ++ (((⟨#[48, 49, 50, 51, 52, 53, 54, 55, 56, 57]⟩ : ByteArray).extract ((Int.tmod a1 10) : Int).toNat (⟨#[48, 49, 50, 51, 52, 53, 54, 55, 56, 57]⟩ : ByteArray).size).extract 0 1))).bind fun bt219 => (if a0 > 900000000000000000 then (antecedentlaw02_ValueDigits.j0 k a0 a1 bt219.2.2.2 true bt219.1 bt219.2.1 bt219.2.2.1) else (antecedentlaw02_ValueDigits.j0 k a0 a1 bt219.2.2.2 (decide (a0 < (-900000000000000000))) bt219.1 bt219.2.1 bt219.2.2.1))) else (none)) else (none)) else (none)) else (none)) else (none))) else (some false)) = some r := H
  have A3 := Aside0.mk A30
  clear A30
  by_cases c4 : t216 = true
  · subst c4
    have H1 : ((value_Text.f 1 a0 (⟨#[]⟩ : ByteArray)).bind fun t218 => (if 0 ≤ (Int.tmod a1 10) then (if (Int.tmod a1 10) ≤ 10 then (if 0 ≤ 1 then (if 1 ≤ (((⟨#[48, 49, 50, 51, 52, 53, 54, 55, 56, 57]⟩ : ByteArray).extract ((Int.tmod a1 10) : Int).toNat (⟨#[48, 49, 50, 51, 52, 53, 54, 55, 56, 57]⟩ : ByteArray).size).size : Int) then (if t218.size + (((⟨#[48, 49, 50, 51, 52, 53, 54, 55, 56, 57]⟩ : ByteArray).extract ((Int.tmod a1 10) : Int).toNat (⟨#[48, 49, 50, 51, 52, 53, 54, 55, 56, 57]⟩ : ByteArray).size).extract 0 1).size ≤ 9223372036854775807 then ((value_Read.f (t218 ++ (((⟨#[48, 49, 50, 51, 52, 53, 54, 55, 56, 57]⟩ : ByteArray).extract ((Int.tmod a1 10) : Int).toNat (⟨#[48, 49, 50, 51, 52, 53, 54, 55, 56, 57]⟩ : ByteArray).size).extract 0 1))).bind fun bt219 => (if a0 > 900000000000000000 then (antecedentlaw02_ValueDigits.j0 k a0 a1 bt219.2.2.2 true bt219.1 bt219.2.1 bt219.2.2.1) else (antecedentlaw02_ValueDigits.j0 k a0 a1 bt219.2.2.2 (decide (a0 < (-900000000000000000))) bt219.1 bt219.2.1 bt219.2.2.1))) else (none)) else (none)) else (none)) else (none)) else (none))) = some r := by rw [if_pos rfl] at H; exact H
    clear H
    have H := H1
    clear H1
    replace H := Option.bind_eq_some_iff.mp H
    obtain ⟨t218, A50, H⟩ := H
    replace H : (if 0 ≤ (Int.tmod a1 10) then (if (Int.tmod a1 10) ≤ 10 then (if 0 ≤ 1 then (if 1 ≤ (((⟨#[48, 49, 50, 51, 52, 53, 54, 55, 56, 57]⟩ : ByteArray).extract ((Int.tmod a1 10) : Int).toNat (⟨#[48, 49, 50, 51, 52, 53, 54, 55, 56, 57]⟩ : ByteArray).size).size : Int) then (if t218.size + (((⟨#[48, 49, 50, 51, 52, 53, 54, 55, 56, 57]⟩ : ByteArray).extract ((Int.tmod a1 10) : Int).toNat (⟨#[48, 49, 50, 51, 52, 53, 54, 55, 56, 57]⟩ : ByteArray).size).extract 0 1).size ≤ 9223372036854775807 then ((value_Read.f (t218 ++ (((⟨#[48, 49, 50, 51, 52, 53, 54, 55, 56, 57]⟩ : ByteArray).extract ((Int.tmod a1 10) : Int).toNat (⟨#[48, 49, 50, 51, 52, 53, 54, 55, 56, 57]⟩ : ByteArray).size).extract 0 1))).bind fun bt219 => (if a0 > 900000000000000000 then (antecedentlaw02_ValueDigits.j0 k a0 a1 bt219.2.2.2 true bt219.1 bt219.2.1 bt219.2.2.1) else (antecedentlaw02_ValueDigits.j0 k a0 a1 bt219.2.2.2 (decide (a0 < (-900000000000000000))) bt219.1 bt219.2.1 bt219.2.2.1))) else (none)) else (none)) else (none)) else (none)) else (none)) = some r := H
    have A5 := Aside0.mk A50
    clear A50
    obtain ⟨ji6, hji6⟩ : ∃ j_ : Int, (Int.tmod a1 10) = j_ := ⟨_, rfl⟩
    replace H : (if 0 ≤ (ji6) then (if (ji6) ≤ 10 then (if 0 ≤ 1 then (if 1 ≤ (((⟨#[48, 49, 50, 51, 52, 53, 54, 55, 56, 57]⟩ : ByteArray).extract ((ji6) : Int).toNat (⟨#[48, 49, 50, 51, 52, 53, 54, 55, 56, 57]⟩ : ByteArray).size).size : Int) then (if t218.size + (((⟨#[48, 49, 50, 51, 52, 53, 54, 55, 56, 57]⟩ : ByteArray).extract ((ji6) : Int).toNat (⟨#[48, 49, 50, 51, 52, 53, 54, 55, 56, 57]⟩ : ByteArray).size).extract 0 1).size ≤ 9223372036854775807 then ((value_Read.f (t218 ++ (((⟨#[48, 49, 50, 51, 52, 53, 54, 55, 56, 57]⟩ : ByteArray).extract ((ji6) : Int).toNat (⟨#[48, 49, 50, 51, 52, 53, 54, 55, 56, 57]⟩ : ByteArray).size).extract 0 1))).bind fun bt219 => (if a0 > 900000000000000000 then (antecedentlaw02_ValueDigits.j0 k a0 a1 bt219.2.2.2 true bt219.1 bt219.2.1 bt219.2.2.1) else (antecedentlaw02_ValueDigits.j0 k a0 a1 bt219.2.2.2 (decide (a0 < (-900000000000000000))) bt219.1 bt219.2.1 bt219.2.2.1))) else (none)) else (none)) else (none)) else (none)) else (none)) = some r := by first | (rw [hji6] at H; exact H) | (simp only [hji6] at H ⊢; exact H)
    (try rw [hji6] at A3)
    (try rw [hji6] at A5)
    by_cases c7 : 0 ≤ (ji6)
    · rw [if_pos c7] at H
      have c7b0 := eq_true c7
      have c7b1 : decide (0 ≤ (ji6)) = true := decide_eq_true c7
      clear c7
      by_cases c8 : (ji6) ≤ 10
      · rw [if_pos c8] at H
        have c8b0 := eq_true c8
        have c8b1 : decide ((ji6) ≤ 10) = true := decide_eq_true c8
        clear c8
        by_cases c9 : 0 ≤ 1
        · rw [if_pos c9] at H
          have c9b0 := eq_true c9
          have c9b1 : decide (0 ≤ 1) = true := decide_eq_true c9
          clear c9
          by_cases c10 : 1 ≤ (((⟨#[48, 49, 50, 51, 52, 53, 54, 55, 56, 57]⟩ : ByteArray).extract ((ji6) : Int).toNat (⟨#[48, 49, 50, 51, 52, 53, 54, 55, 56, 57]⟩ : ByteArray).size).size : Int)
          · rw [if_pos c10] at H
            have c10b0 := eq_true c10
            have c10b9 : ((1 : Int) ≤ ((10 - ji6.toNat : Nat) : Int)) = True := eq_true (by have h_ := c10; have h2_ : (⟨#[48, 49, 50, 51, 52, 53, 54, 55, 56, 57]⟩ : ByteArray).size = 10 := rfl; rw [ByteArray.size_extract, h2_] at h_; omega)
            have c10b1 : decide (1 ≤ (((⟨#[48, 49, 50, 51, 52, 53, 54, 55, 56, 57]⟩ : ByteArray).extract ((ji6) : Int).toNat (⟨#[48, 49, 50, 51, 52, 53, 54, 55, 56, 57]⟩ : ByteArray).size).size : Int)) = true := decide_eq_true c10
            clear c10
            by_cases c11 : t218.size + (((⟨#[48, 49, 50, 51, 52, 53, 54, 55, 56, 57]⟩ : ByteArray).extract ((ji6) : Int).toNat (⟨#[48, 49, 50, 51, 52, 53, 54, 55, 56, 57]⟩ : ByteArray).size).extract 0 1).size ≤ 9223372036854775807
            · rw [if_pos c11] at H
              have c11b0 := eq_true c11
              have c11b9 : (9223372036854775807 < t218.size + min 1 (10 - ji6.toNat)) = False := eq_false (by have h_ := c11; have h2_ : (⟨#[48, 49, 50, 51, 52, 53, 54, 55, 56, 57]⟩ : ByteArray).size = 10 := rfl; rw [ByteArray.size_extract, ByteArray.size_extract, h2_] at h_; omega)
              have c11b1 : decide (t218.size + (((⟨#[48, 49, 50, 51, 52, 53, 54, 55, 56, 57]⟩ : ByteArray).extract ((ji6) : Int).toNat (⟨#[48, 49, 50, 51, 52, 53, 54, 55, 56, 57]⟩ : ByteArray).size).extract 0 1).size ≤ 9223372036854775807) = true := decide_eq_true c11
              try have c11b2 : (9223372036854775807 < t218.size + (((⟨#[48, 49, 50, 51, 52, 53, 54, 55, 56, 57]⟩ : ByteArray).extract ((ji6) : Int).toNat (⟨#[48, 49, 50, 51, 52, 53, 54, 55, 56, 57]⟩ : ByteArray).size).extract 0 1).size) = False := eq_false (Nat.not_lt.2 c11)
              replace H := Option.bind_eq_some_iff.mp H
              obtain ⟨⟨t219, t220, t221, t222⟩, A120, H⟩ := H
              replace H : (if a0 > 900000000000000000 then (antecedentlaw02_ValueDigits.j0 k a0 a1 t222 true t219 t220 t221) else (antecedentlaw02_ValueDigits.j0 k a0 a1 t222 (decide (a0 < (-900000000000000000))) t219 t220 t221)) = some r := H
              have A12 := Aside0.mk A120
              clear A120
              have HC13 := Aside0.mk H
              clear H
              go_enter Tryd.func9, Tryd.ntmps9
              try go_wp2_with (first | ((with_reducible refine gate_callee (f := 10) rfl ?_); refine goesL_ (some 10) rfl rfl Tryd.func10 (by kernel_rfl) rfl #[] rfl (by (try simp only [List.map_toArray, List.map_cons, List.map_nil]); first | done | rfl | (simp only [List.length_drop, List.length_take]; rfl)) ?_; (with_reducible refine (antecedentlaw02_awake.calls k  true _ ?side1 A3.out).mono ?_); (case side1 => (first | (refine LaidW.below HLW.out ?_; (repeat (first | (with_reducible first | exact HB.out | apply below_alloc | apply pw_below_drewN | apply below_drew1) | exact HB.out)); done) | (repeat (first | exact HLW.out | apply LaidW.drewN | apply LaidW.drew | apply LaidW.alloc)))); rintro e w14 ⟨rfl, hb⟩; refine ⟨_, rfl, ?_⟩; have n0_ := Aside0.mk (below_step (by repeat (first | (with_reducible first | exact HB.out | apply below_alloc | apply pw_below_drewN | apply below_drew1) | exact HB.out)) hb); clear HB; have HB := n0_; clear n0_; (try clear hb); (try clear hb2); (try clear hk); (try clear hi)) | ((with_reducible refine gate_dst (N := 5) rfl ?_); refine box_event ?hg (N := 5) ?hd (cs := #[.int .i64 0, .int .i64 0, .string (⟨#[]⟩ : ByteArray)]) (t := 23) ?hr ?_; (case hd => rfl); (case hg => rfl); (case hr => first | (go_simp; done) | (go_simp; rfl)); intro gb217 hg w15 hbox hb; have n0_ := Aside0.mk (below_step (by repeat (first | (with_reducible first | exact HB.out | apply below_alloc | apply pw_below_drewN | apply below_drew1) | exact HB.out)) hb); have n1_ := Aside0.mk (hbox); have n2_ := Aside0.mk ((by rw [hg]; exact (below_size (by repeat (first | (with_reducible first | exact HB.out | apply below_alloc | apply pw_below_drewN | apply below_drew1) | exact HB.out))) : w.heap.size ≤ gb217)); have n3_ := Aside0.mk ((by rw [hg]; exact (below_size (by repeat (first | (with_reducible first | exact HB.out | apply below_alloc | apply pw_below_drewN | apply below_drew1) | exact HB.out))) : w.heap.size ≤ gb217)); clear HB; have HB := n0_; have BK217 := n1_; have GW217 := n2_; have GE217 := n3_; clear n0_ n1_ n2_ n3_; clear hb hbox hg; have hcz16_0 : w15.cell? ⟨gb217, 0, none⟩ = some (.int .i64 0) := (blk_cell BK217.out 0).trans rfl; have hcz16_1 : w15.cell? ⟨gb217, 1, none⟩ = some (.int .i64 0) := (blk_cell BK217.out 1).trans rfl; have hcz16_2 : w15.cell? ⟨gb217, 2, none⟩ = some (.string (⟨#[]⟩ : ByteArray)) := (blk_cell BK217.out 2).trans rfl; have hfz16_0 := blk_frozen BK217.out 0; have hfz16_1 := blk_frozen BK217.out 1; have hfz16_2 := blk_frozen BK217.out 2))
              have n0_ : Aside0 ((((w15.setCell ⟨gb217, 0, none⟩ (.int .i64 1)).setCell ⟨gb217, 1, none⟩ (.int .i64 a0)).setCell ⟨gb217, 2, none⟩ (.string (⟨#[]⟩ : ByteArray))).heap[gb217]? = some (.cells #[.int .i64 1, .int .i64 a0, .string (⟨#[]⟩ : ByteArray)] 23 (0, 0))) := ⟨by (with_reducible repeat (first | refine blk_drewN ?_ _ | refine blk_drew ?_ | refine blk_alloc ?_ _)); refine blk_put (cs := #[.int .i64 1, .int .i64 a0, .string (⟨#[]⟩ : ByteArray)]) ?_ 2 _ rfl; (with_reducible repeat (first | refine blk_drewN ?_ _ | refine blk_drew ?_ | refine blk_alloc ?_ _)); refine blk_put (cs := #[.int .i64 1, .int .i64 0, .string (⟨#[]⟩ : ByteArray)]) ?_ 1 _ rfl; (with_reducible repeat (first | refine blk_drewN ?_ _ | refine blk_drew ?_ | refine blk_alloc ?_ _)); refine blk_put (cs := #[.int .i64 0, .int .i64 0, .string (⟨#[]⟩ : ByteArray)]) ?_ 0 _ rfl; (with_reducible repeat (first | refine blk_drewN ?_ _ | refine blk_drew ?_ | refine blk_alloc ?_ _)); exact BK217.out⟩
              have n1_ : Aside0 (Below w.heap.size w (((w15.setCell ⟨gb217, 0, none⟩ (.int .i64 1)).setCell ⟨gb217, 1, none⟩ (.int .i64 a0)).setCell ⟨gb217, 2, none⟩ (.string (⟨#[]⟩ : ByteArray)))) := ⟨by repeat (first | (with_reducible first | exact HB.out | apply below_alloc | apply pw_below_drewN | apply below_drew1 | refine below_set ?_ GE217.out) | exact HB.out)⟩
              (try clear BK217)
              (try clear HB)
              generalize (((w15.setCell ⟨gb217, 0, none⟩ (.int .i64 1)).setCell ⟨gb217, 1, none⟩ (.int .i64 a0)).setCell ⟨gb217, 2, none⟩ (.string (⟨#[]⟩ : ByteArray))) = w17 at n0_ n1_ ⊢
              have BK217 := n0_
              have HB := n1_
              clear n0_ n1_
              have n0_ := Aside0.mk (blk_drew BK217.out)
              have n1_ := Aside0.mk (below_drew1 HB.out)
              clear BK217
              clear HB
              have BK217 := n0_
              have HB := n1_
              clear n0_ n1_
              refine start_ (n := 8) (S := fun w' => w'.cell? ⟨gb217, 0, none⟩ = some (.int .i64 1) ∧ w'.cell? ⟨gb217, 1, none⟩ = some (.int .i64 a0) ∧ w'.cell? ⟨gb217, 2, none⟩ = some (.string (⟨#[]⟩ : ByteArray))) (ds := []) #[false, false, false, false, false, false, false, false] (by kernel_rfl) rfl rfl ⟨(blk_cell BK217.out 0).trans rfl, (blk_cell BK217.out 1).trans rfl, (blk_cell BK217.out 2).trans rfl⟩ (fun hHeld => ?_); refine with_tabW antecedentlaw02_ValueDigits.tab4 antecedentlaw02_ValueDigits.bits4 (fun HT_ HW_ => ?_)
              generalize w17.drew = w18 at BK217 HB hHeld ⊢
              refine pure_ (i := 2) (N := some 16) (v := ?_) (a' := ?_) #[false, false, true, false, false, false, false, false] rfl rfl (any_of HT_.out (by kernel_rfl)) (fun _ _ _ h => h) (Or.inl ⟨by rfl, ?_⟩) ?_ ?_
              rotate_left
              · intro w'
                go_simp
                with_reducible rfl
              rotate_left
              · simp only [Act.put, List.setIfInBounds_toArray, List.set_cons_zero, List.set_cons_succ, i64_w, i32_w]
                rfl
              refine pure_ (i := 3) (N := some 17) (v := ?_) (a' := ?_) #[false, false, true, true, false, false, false, false] rfl rfl (any_of HT_.out (by kernel_rfl)) (fun _ _ _ h => h) (Or.inl ⟨by rfl, ?_⟩) ?_ ?_
              rotate_left
              · intro w'
                go_simp
                with_reducible rfl
              rotate_left
              · simp only [Act.put, List.setIfInBounds_toArray, List.set_cons_zero, List.set_cons_succ, i64_w, i32_w]
                rfl
              refine pure_ (i := 4) (N := some 18) (v := ?_) (a' := ?_) #[false, false, true, true, true, false, false, false] rfl rfl (any_of HT_.out (by kernel_rfl)) (fun _ _ _ h => h) (Or.inl ⟨by rfl, ?_⟩) ?_ ?_
              rotate_left
              · intro w'
                go_simp
                with_reducible rfl
              rotate_left
              · simp only [Act.put, List.setIfInBounds_toArray, List.set_cons_zero, List.set_cons_succ, i64_w, i32_w]
                rfl
              refine pure_ (i := 5) (N := some 19) (v := ?_) (a' := ?_) #[false, false, true, true, true, true, false, false] rfl rfl (any_of HT_.out (by kernel_rfl)) (fun _ _ _ h => h) (Or.inl ⟨by rfl, ?_⟩) ?_ ?_
              rotate_left
              · intro w'
                go_simp
                with_reducible rfl
              rotate_left
              · simp only [Act.put, List.setIfInBounds_toArray, List.set_cons_zero, List.set_cons_succ, i64_w, i32_w]
                rfl
              refine take_ (i := 0) (N := some 14) (v := ?_) (a' := ?_) #[true, false, true, true, true, true, false, false] rfl rfl (take_ofW HT_.out HW_.out (by kernel_rfl)) (fun _ _ _ h => h) (Or.inl ⟨by rfl, ?_⟩) hHeld ?_ ?_
              rotate_left
              · rintro w' ⟨s0, s1, s2⟩
                go_simp
                with_reducible rfl
              rotate_left
              · simp only [Act.put, List.setIfInBounds_toArray, List.set_cons_zero, List.set_cons_succ, i64_w, i32_w]
                rfl
              refine one_ (i := 1) (N := some 15) #[true, true, true, true, true, true, false, false] rfl rfl (one_of HT_.out (by kernel_rfl)) (by decide) (fun K hK => ?_)
              refine goes_ Tryd.func17 (by kernel_rfl) rfl #[.agg #[.int .i64 1, .int .i64 a0, .string (⟨#[]⟩ : ByteArray)]] (by rfl) rfl rfl (by (try simp only [List.map_toArray, List.map_cons, List.map_nil]); first | done | rfl | (simp only [List.length_drop, List.length_take]; rfl)) ?_
              with_reducible refine (value_Text.calls 1 a0 (⟨#[]⟩ : ByteArray) t218 _ ?side1 A5.out).mono ?_
              (case side1 => (first | (refine LaidW.below HLW.out ?_; (repeat (first | (with_reducible first | exact HB.out | apply below_alloc | apply pw_below_drewN | apply below_drew1 | refine below_set ?_ GE217.out) | exact HB.out)); done) | (repeat (first | exact HLW.out | apply LaidW.drewN | apply LaidW.drew | apply LaidW.alloc))))
              rintro e w19 ⟨rfl, hb⟩
              refine ⟨_, rfl, ?_⟩
              have n0_ := Aside0.mk (blk_below (g := gb217) (o := .cells #[.int .i64 1, .int .i64 a0, .string (⟨#[]⟩ : ByteArray)] 23 (0, 0)) (by (with_reducible repeat (first | refine blk_drewN ?_ _ | refine blk_drew ?_ | refine blk_alloc ?_ _)); exact BK217.out) hb)
              have n1_ := Aside0.mk (below_step (by repeat (first | (with_reducible first | exact HB.out | apply below_alloc | apply pw_below_drewN | apply below_drew1 | refine below_set ?_ GE217.out) | exact HB.out)) hb)
              clear BK217
              clear HB
              have BK217 := n0_
              have HB := n1_
              clear n0_ n1_
              (try clear hb)
              (try clear hb2)
              (try clear hk)
              (try clear hi)
              refine hK.out _ _ ⟨(blk_cell BK217.out 0).trans rfl, (blk_cell BK217.out 1).trans rfl, (blk_cell BK217.out 2).trans rfl⟩ (fun hHeld => ?_)
              clear hK K
              refine norm_ (a' := ?_) ?_ ?_
              rotate_left
              · show Act.put _ (some 15) _ = _
                simp only [Act.put, List.setIfInBounds_toArray, List.set_cons_zero, List.set_cons_succ, i64_w, i32_w]
                rfl
              refine pure_ (i := 6) (N := some 20) (v := ?_) (a' := ?_) #[true, true, true, true, true, true, true, false] rfl rfl (any_of HT_.out (by kernel_rfl)) (fun _ _ _ h => h) (Or.inl ⟨by rfl, ?_⟩) ?_ ?_
              rotate_left
              · intro w'
                go_simp
                with_reducible rfl
              rotate_left
              · simp only [Act.put, List.setIfInBounds_toArray, List.set_cons_zero, List.set_cons_succ, i64_w, i32_w]
                rfl
              refine pure_ (i := 7) (N := some 6) (v := ?_) (a' := ?_) #[true, true, true, true, true, true, true, true] rfl rfl (any_of HT_.out (by kernel_rfl)) (fun _ _ _ h => h) (Or.inl ⟨by rfl, ?_⟩) ?_ ?_
              rotate_left
              · intro w'
                go_simp
                with_reducible rfl
              rotate_left
              · simp only [Act.put, List.setIfInBounds_toArray, List.set_cons_zero, List.set_cons_succ, i64_w, i32_w]
                rfl
              refine done_ (done_of HT_.out (by kernel_rfl)) ?_
              go_upto_region 6 with (first | ((with_reducible refine gate_callee (f := 19) rfl ?_); refine goesL_ (some 23) rfl rfl Tryd.func19 (by kernel_rfl) rfl #[.string (t218 ++ (((⟨#[48, 49, 50, 51, 52, 53, 54, 55, 56, 57]⟩ : ByteArray).extract ((ji6) : Int).toNat (⟨#[48, 49, 50, 51, 52, 53, 54, 55, 56, 57]⟩ : ByteArray).size).extract 0 1))] rfl (by (try simp only [List.map_toArray, List.map_cons, List.map_nil]); first | done | (simp only [hji6]; rfl) | rfl | (simp only [List.length_drop, List.length_take]; rfl)) ?_; (with_reducible refine (value_Read.calls (t218 ++ (((⟨#[48, 49, 50, 51, 52, 53, 54, 55, 56, 57]⟩ : ByteArray).extract ((ji6) : Int).toNat (⟨#[48, 49, 50, 51, 52, 53, 54, 55, 56, 57]⟩ : ByteArray).size).extract 0 1)) t219 t220 t221 t222 _ ?side1 A12.out).mono ?_); (case side1 => (first | (refine LaidW.below HLW.out ?_; (repeat (first | (with_reducible first | exact HB.out | apply below_alloc | apply pw_below_drewN | apply below_drew1 | refine below_set ?_ GE217.out) | exact HB.out)); done) | (repeat (first | exact HLW.out | apply LaidW.drewN | apply LaidW.drew | apply LaidW.alloc)))); rintro e w20 ⟨rfl, hb⟩; refine ⟨_, rfl, ?_⟩; have n0_ := Aside0.mk (blk_below (g := gb217) (o := .cells #[.int .i64 1, .int .i64 a0, .string (⟨#[]⟩ : ByteArray)] 23 (0, 0)) (by (with_reducible repeat (first | refine blk_drewN ?_ _ | refine blk_drew ?_ | refine blk_alloc ?_ _)); exact BK217.out) hb); have n1_ := Aside0.mk (below_step (by repeat (first | (with_reducible first | exact HB.out | apply below_alloc | apply pw_below_drewN | apply below_drew1 | refine below_set ?_ GE217.out) | exact HB.out)) hb); clear BK217; clear HB; have BK217 := n0_; have HB := n1_; clear n0_ n1_; (try clear hb); (try clear hb2); (try clear hk); (try clear hi)) | ((with_reducible refine gate_dst (N := 7) rfl ?_); refine box_event ?hg (N := 7) ?hd (cs := #[.int .i64 0, .int .i64 0, .string (⟨#[]⟩ : ByteArray)]) (t := 23) ?hr ?_; (case hd => rfl); (case hg => rfl); (case hr => first | (go_simp; done) | (go_simp; rfl)); intro gb223 hg w21 hbox hb; have n0_ := Aside0.mk (blk_below (g := gb217) (o := .cells #[.int .i64 1, .int .i64 a0, .string (⟨#[]⟩ : ByteArray)] 23 (0, 0)) (by (with_reducible repeat (first | refine blk_drewN ?_ _ | refine blk_drew ?_ | refine blk_alloc ?_ _)); exact BK217.out) hb); have n1_ := Aside0.mk (below_step (by repeat (first | (with_reducible first | exact HB.out | apply below_alloc | apply pw_below_drewN | apply below_drew1 | refine below_set ?_ GE217.out) | exact HB.out)) hb); have n2_ := Aside0.mk (hbox); have n3_ := Aside0.mk ((by rw [hg]; exact (below_size (by repeat (first | (with_reducible first | exact HB.out | apply below_alloc | apply pw_below_drewN | apply below_drew1 | refine below_set ?_ GE217.out) | exact HB.out))) : w.heap.size ≤ gb223)); have n4_ := Aside0.mk ((by rw [hg]; exact (below_size (by repeat (first | (with_reducible first | exact HB.out | apply below_alloc | apply pw_below_drewN | apply below_drew1 | refine below_set ?_ GE217.out) | exact HB.out))) : w.heap.size ≤ gb223)); have n5_ := Aside0.mk ((by rw [hg]; exact Nat.ne_of_lt (blk_lt (g := gb217) (o := .cells #[.int .i64 1, .int .i64 a0, .string (⟨#[]⟩ : ByteArray)] 23 (0, 0)) (by (with_reducible repeat (first | refine blk_drewN ?_ _ | refine blk_drew ?_ | refine blk_alloc ?_ _)); exact BK217.out)) : gb217 ≠ gb223)); have n6_ := Aside0.mk ((by rw [hg]; exact Nat.ne_of_gt (blk_lt (g := gb217) (o := .cells #[.int .i64 1, .int .i64 a0, .string (⟨#[]⟩ : ByteArray)] 23 (0, 0)) (by (with_reducible repeat (first | refine blk_drewN ?_ _ | refine blk_drew ?_ | refine blk_alloc ?_ _)); exact BK217.out)) : gb223 ≠ gb217)); clear BK217; clear HB; have BK217 := n0_; have HB := n1_; have BK223 := n2_; have GW223 := n3_; have GE223 := n4_; have NB217_223 := n5_; have NB223_217 := n6_; clear n0_ n1_ n2_ n3_ n4_ n5_ n6_; clear hb hbox hg; have hnb22 := NB223_217.out; have hnc22 := NB217_223.out; have hcz23_0 : w21.cell? ⟨gb223, 0, none⟩ = some (.int .i64 0) := (blk_cell BK223.out 0).trans rfl; have hcz23_1 : w21.cell? ⟨gb223, 1, none⟩ = some (.int .i64 0) := (blk_cell BK223.out 1).trans rfl; have hcz23_2 : w21.cell? ⟨gb223, 2, none⟩ = some (.string (⟨#[]⟩ : ByteArray)) := (blk_cell BK223.out 2).trans rfl; have hfz23_0 := blk_frozen BK223.out 0; have hfz23_1 := blk_frozen BK223.out 1; have hfz23_2 := blk_frozen BK223.out 2))
              (try simp only [Act.put, List.setIfInBounds_toArray, List.set_cons_zero, List.set_cons_succ])
              go_cut [31] (fun v31 wc => ∃ (kq : Nat) (x31_12 : Bool), v31 = .bool x31_12 ∧ Aside0 (antecedentlaw02_ValueDigits.j0 kq a0 a1 t222 x31_12 t219 t220 t221 = some r) ∧ Aside0 (kq ≤ k) ∧ Aside0 (wc.heap[gb217]? = some (.cells #[.int .i64 1, .int .i64 a0, .string (⟨#[]⟩ : ByteArray)] 23 (0, 0))) ∧ Aside0 (wc.heap[gb223]? = some (.cells #[.int .i64 t219, .int .i64 t220, .string t221] 23 (0, 0))) ∧ Aside0 (Below w.heap.size w wc))
              case first =>
                have H := HC13.out
                clear HC13
                by_cases c24 : a0 > 900000000000000000
                · rw [if_pos c24] at H
                  have c24b0 : decide (900000000000000000 < a0) = true := decide_eq_true c24
                  clear c24
                  (first | rw [c24b0] | (simp only [i64_w, i32_w]; rw [c24b0]) | skip)
                  have H' := Aside0.mk H
                  clear H
                  go_wp2
                  go_meet
                  case rel => exact ⟨_, (true), (by first | rfl | (simp; done) | (simp [*]; done)), H', ⟨by first | omega | exact Nat.le_refl _⟩, ⟨by (with_reducible repeat (first | refine blk_drewN ?_ _ | refine blk_drew ?_ | refine blk_alloc ?_ _)); refine blk_far ?_ NB217_223.out _; (with_reducible repeat (first | refine blk_drewN ?_ _ | refine blk_drew ?_ | refine blk_alloc ?_ _)); refine blk_far ?_ NB217_223.out _; (with_reducible repeat (first | refine blk_drewN ?_ _ | refine blk_drew ?_ | refine blk_alloc ?_ _)); refine blk_far ?_ NB217_223.out _; (with_reducible repeat (first | refine blk_drewN ?_ _ | refine blk_drew ?_ | refine blk_alloc ?_ _)); exact BK217.out⟩, ⟨by (with_reducible repeat (first | refine blk_drewN ?_ _ | refine blk_drew ?_ | refine blk_alloc ?_ _)); refine blk_put (cs := #[.int .i64 t219, .int .i64 t220, .string (⟨#[]⟩ : ByteArray)]) ?_ 2 _ rfl; (with_reducible repeat (first | refine blk_drewN ?_ _ | refine blk_drew ?_ | refine blk_alloc ?_ _)); refine blk_put (cs := #[.int .i64 t219, .int .i64 0, .string (⟨#[]⟩ : ByteArray)]) ?_ 1 _ rfl; (with_reducible repeat (first | refine blk_drewN ?_ _ | refine blk_drew ?_ | refine blk_alloc ?_ _)); refine blk_put (cs := #[.int .i64 0, .int .i64 0, .string (⟨#[]⟩ : ByteArray)]) ?_ 0 _ rfl; (with_reducible repeat (first | refine blk_drewN ?_ _ | refine blk_drew ?_ | refine blk_alloc ?_ _)); exact BK223.out⟩, ⟨by repeat (first | (with_reducible first | exact HB.out | apply below_alloc | apply pw_below_drewN | apply below_drew1 | refine below_set ?_ GE217.out | refine below_set ?_ GE223.out) | exact HB.out)⟩⟩
                · rw [if_neg c24] at H
                  have c24b0 : decide (900000000000000000 < a0) = false := decide_eq_false c24
                  clear c24
                  (first | rw [c24b0] | (simp only [i64_w, i32_w]; rw [c24b0]) | skip)
                  have H' := Aside0.mk H
                  clear H
                  go_wp2
                  go_meet
                  case rel => exact ⟨_, (decide (a0 < (-900000000000000000))), (by first | rfl | (simp; done) | (simp [*]; done)), H', ⟨by first | omega | exact Nat.le_refl _⟩, ⟨by (with_reducible repeat (first | refine blk_drewN ?_ _ | refine blk_drew ?_ | refine blk_alloc ?_ _)); refine blk_far ?_ NB217_223.out _; (with_reducible repeat (first | refine blk_drewN ?_ _ | refine blk_drew ?_ | refine blk_alloc ?_ _)); refine blk_far ?_ NB217_223.out _; (with_reducible repeat (first | refine blk_drewN ?_ _ | refine blk_drew ?_ | refine blk_alloc ?_ _)); refine blk_far ?_ NB217_223.out _; (with_reducible repeat (first | refine blk_drewN ?_ _ | refine blk_drew ?_ | refine blk_alloc ?_ _)); exact BK217.out⟩, ⟨by (with_reducible repeat (first | refine blk_drewN ?_ _ | refine blk_drew ?_ | refine blk_alloc ?_ _)); refine blk_put (cs := #[.int .i64 t219, .int .i64 t220, .string (⟨#[]⟩ : ByteArray)]) ?_ 2 _ rfl; (with_reducible repeat (first | refine blk_drewN ?_ _ | refine blk_drew ?_ | refine blk_alloc ?_ _)); refine blk_put (cs := #[.int .i64 t219, .int .i64 0, .string (⟨#[]⟩ : ByteArray)]) ?_ 1 _ rfl; (with_reducible repeat (first | refine blk_drewN ?_ _ | refine blk_drew ?_ | refine blk_alloc ?_ _)); refine blk_put (cs := #[.int .i64 0, .int .i64 0, .string (⟨#[]⟩ : ByteArray)]) ?_ 0 _ rfl; (with_reducible repeat (first | refine blk_drewN ?_ _ | refine blk_drew ?_ | refine blk_alloc ?_ _)); exact BK223.out⟩, ⟨by repeat (first | (with_reducible first | exact HB.out | apply below_alloc | apply pw_below_drewN | apply below_drew1 | refine below_set ?_ GE217.out | refine below_set ?_ GE223.out) | exact HB.out)⟩⟩
              case rest =>
                clear HC13
                try clear c1
                try clear c2
                try clear p2
                try clear c4
                try clear c7
                try clear c7b0
                try clear c7b1
                try clear c8
                try clear c8b0
                try clear c8b1
                try clear c9
                try clear c9b0
                try clear c9b1
                try clear c10
                try clear c10b0
                try clear c10b1
                try clear c11
                try clear c11b0
                try clear c11b1
                try clear c11b2
                try clear c17
                try clear c19
                try clear c22
                try clear c24
                try clear c24b0
                try clear hcz16_0
                try clear hcz16_1
                try clear hcz16_2
                try clear hcz23_0
                try clear hcz23_1
                try clear hcz23_2
                try clear hfz16_0
                try clear hfz16_1
                try clear hfz16_2
                try clear hfz23_0
                try clear hfz23_1
                try clear hfz23_2
                obtain ⟨kq, x31_12, rfl, HA, HJ12, BK217, BK223, HB⟩ := hcut
                cases kq with
                | zero => exact absurd HA.out (by simp [antecedentlaw02_ValueDigits.j0])
                | succ kj12 =>
                  have H := HA.out
                  clear HA
                  simp only [antecedentlaw02_ValueDigits.j0] at H
                  by_cases c25 : x31_12 = true
                  · subst c25
                    have H1 : (some true) = some r := by rw [if_pos rfl] at H; exact H
                    clear H
                    have H := H1
                    clear H1
                    obtain rfl := Option.some.inj H
                    go_wp2
                    go_ret
                    exact ⟨by first | rfl | (simp [errW_none, errW_some] <;> rfl) | (simp only [← hji6]; first | rfl | (simp [errW_none, errW_some] <;> rfl)) | (simp [*, errW_none, errW_some] <;> rfl), by repeat (first | (with_reducible first | exact HB.out | apply below_alloc | apply pw_below_drewN | apply below_drew1 | refine below_set ?_ GE217.out | refine below_set ?_ GE223.out) | exact HB.out)⟩
                  · replace c25 := Bool.eq_false_iff.mpr c25
                    subst c25
                    have H1 : (if a0 = 0 then (some (t222 == 2)) else (if a0 < 0 then (if t222 = 0 then (some (t219 == 1 && (t220 == (wrap64 ((wrap64 (10 * a0)) - (wrap64 (Int.tmod a1 10)))) && (t221.toList == ([] : List UInt8))))) else (some false)) else (if t222 = 0 then (some (t219 == 1 && (t220 == (wrap64 ((wrap64 (10 * a0)) + (wrap64 (Int.tmod a1 10)))) && (t221.toList == ([] : List UInt8))))) else (some false)))) = some r := by rw [if_neg (show ¬ (false = true) by decide)] at H; exact H
                    clear H
                    have H := H1
                    clear H1
                    by_cases c26 : a0 = 0
                    · rw [if_pos c26] at H
                      have c26b0 : (a0 == 0) = true := beq_iff_eq.mpr c26
                      have c26b1 : (a0 != 0) = false := bne_eq_false_iff_eq.mpr c26
                      clear c26
                      obtain rfl := Option.some.inj H
                      go_wp2
                      go_ret
                      exact ⟨by first | rfl | (simp [errW_none, errW_some] <;> rfl) | (simp only [← hji6]; first | rfl | (simp [errW_none, errW_some] <;> rfl)) | (simp [*, errW_none, errW_some] <;> rfl), by repeat (first | (with_reducible first | exact HB.out | apply below_alloc | apply pw_below_drewN | apply below_drew1 | refine below_set ?_ GE217.out | refine below_set ?_ GE223.out) | exact HB.out)⟩
                    · rw [if_neg c26] at H
                      have c26b0 : (a0 == 0) = false := beq_eq_false_iff_ne.mpr c26
                      have c26b1 : (a0 != 0) = true := bne_iff_ne.mpr c26
                      by_cases c27 : a0 < 0
                      · rw [if_pos c27] at H
                        have c27b0 : decide (a0 < 0) = true := decide_eq_true c27
                        clear c27
                        by_cases c28 : t222 = 0
                        · rw [if_pos c28] at H
                          have c28b0 : (t222 == 0) = true := beq_iff_eq.mpr c28
                          have c28b1 : (t222 != 0) = false := bne_eq_false_iff_eq.mpr c28
                          clear c28
                          obtain rfl := Option.some.inj H
                          have hnb29 := NB223_217.out
                          have hnc29 := NB217_223.out
                          have hcz30_0 : wc.cell? ⟨gb223, 0, none⟩ = some (.int .i64 t219) := (blk_cell BK223.out 0).trans rfl
                          have hcz30_1 : wc.cell? ⟨gb223, 1, none⟩ = some (.int .i64 t220) := (blk_cell BK223.out 1).trans rfl
                          have hcz30_2 : wc.cell? ⟨gb223, 2, none⟩ = some (.string t221) := (blk_cell BK223.out 2).trans rfl
                          have hfz30_0 := blk_frozen BK223.out 0
                          have hfz30_1 := blk_frozen BK223.out 1
                          have hfz30_2 := blk_frozen BK223.out 2
                          go_wp2
                          go_ret
                          exact ⟨by first | rfl | (simp [errW_none, errW_some] <;> rfl) | (simp only [← hji6]; first | rfl | (simp [errW_none, errW_some] <;> rfl)) | (simp [*, errW_none, errW_some] <;> rfl), by repeat (first | (with_reducible first | exact HB.out | apply below_alloc | apply pw_below_drewN | apply below_drew1 | refine below_set ?_ GE217.out | refine below_set ?_ GE223.out) | exact HB.out)⟩
                        · rw [if_neg c28] at H
                          have c28b0 : (t222 == 0) = false := beq_eq_false_iff_ne.mpr c28
                          have c28b1 : (t222 != 0) = true := bne_iff_ne.mpr c28
                          obtain rfl := Option.some.inj H
                          go_wp2
                          go_ret
                          exact ⟨by first | rfl | (simp [errW_none, errW_some] <;> rfl) | (simp only [← hji6]; first | rfl | (simp [errW_none, errW_some] <;> rfl)) | (simp [*, errW_none, errW_some] <;> rfl), by repeat (first | (with_reducible first | exact HB.out | apply below_alloc | apply pw_below_drewN | apply below_drew1 | refine below_set ?_ GE217.out | refine below_set ?_ GE223.out) | exact HB.out)⟩
                      · rw [if_neg c27] at H
                        have c27b0 : decide (a0 < 0) = false := decide_eq_false c27
                        clear c27
                        by_cases c31 : t222 = 0
                        · rw [if_pos c31] at H
                          have c31b0 : (t222 == 0) = true := beq_iff_eq.mpr c31
                          have c31b1 : (t222 != 0) = false := bne_eq_false_iff_eq.mpr c31
                          clear c31
                          obtain rfl := Option.some.inj H
                          have hnb32 := NB223_217.out
                          have hnc32 := NB217_223.out
                          have hcz33_0 : wc.cell? ⟨gb223, 0, none⟩ = some (.int .i64 t219) := (blk_cell BK223.out 0).trans rfl
                          have hcz33_1 : wc.cell? ⟨gb223, 1, none⟩ = some (.int .i64 t220) := (blk_cell BK223.out 1).trans rfl
                          have hcz33_2 : wc.cell? ⟨gb223, 2, none⟩ = some (.string t221) := (blk_cell BK223.out 2).trans rfl
                          have hfz33_0 := blk_frozen BK223.out 0
                          have hfz33_1 := blk_frozen BK223.out 1
                          have hfz33_2 := blk_frozen BK223.out 2
                          go_wp2
                          go_ret
                          exact ⟨by first | rfl | (simp [errW_none, errW_some] <;> rfl) | (simp only [← hji6]; first | rfl | (simp [errW_none, errW_some] <;> rfl)) | (simp [*, errW_none, errW_some] <;> rfl), by repeat (first | (with_reducible first | exact HB.out | apply below_alloc | apply pw_below_drewN | apply below_drew1 | refine below_set ?_ GE217.out | refine below_set ?_ GE223.out) | exact HB.out)⟩
                        · rw [if_neg c31] at H
                          have c31b0 : (t222 == 0) = false := beq_eq_false_iff_ne.mpr c31
                          have c31b1 : (t222 != 0) = true := bne_iff_ne.mpr c31
                          obtain rfl := Option.some.inj H
                          go_wp2
                          go_ret
                          exact ⟨by first | rfl | (simp [errW_none, errW_some] <;> rfl) | (simp only [← hji6]; first | rfl | (simp [errW_none, errW_some] <;> rfl)) | (simp [*, errW_none, errW_some] <;> rfl), by repeat (first | (with_reducible first | exact HB.out | apply below_alloc | apply pw_below_drewN | apply below_drew1 | refine below_set ?_ GE217.out | refine below_set ?_ GE223.out) | exact HB.out)⟩
            · rw [if_neg c11] at H
              exact absurd H (by simp)
          · rw [if_neg c10] at H
            exact absurd H (by simp)
        · rw [if_neg c9] at H
          exact absurd H (by simp)
      · rw [if_neg c8] at H
        exact absurd H (by simp)
    · rw [if_neg c7] at H
      exact absurd H (by simp)
  · replace c4 := Bool.eq_false_iff.mpr c4
    subst c4
    have H1 : (some false) = some r := by rw [if_neg (show ¬ (false = true) by decide)] at H; exact H
    clear H
    have H := H1
    clear H1
    obtain rfl := Option.some.inj H
    go_enter Tryd.func9, Tryd.ntmps9
    go_wp2_with (first | ((with_reducible refine gate_callee (f := 10) rfl ?_); refine goesL_ (some 10) rfl rfl Tryd.func10 (by kernel_rfl) rfl #[] rfl (by (try simp only [List.map_toArray, List.map_cons, List.map_nil]); first | done | rfl | (simp only [List.length_drop, List.length_take]; rfl)) ?_; (with_reducible refine (antecedentlaw02_awake.calls k  false _ ?side1 A3.out).mono ?_); (case side1 => (first | (refine LaidW.below HLW.out ?_; (repeat (first | (with_reducible first | exact HB.out | apply below_alloc | apply pw_below_drewN | apply below_drew1) | exact HB.out)); done) | (repeat (first | exact HLW.out | apply LaidW.drewN | apply LaidW.drew | apply LaidW.alloc)))); rintro e w34 ⟨rfl, hb⟩; refine ⟨_, rfl, ?_⟩; have n0_ := Aside0.mk (below_step (by repeat (first | (with_reducible first | exact HB.out | apply below_alloc | apply pw_below_drewN | apply below_drew1) | exact HB.out)) hb); clear HB; have HB := n0_; clear n0_; (try clear hb); (try clear hb2); (try clear hk); (try clear hi)))
    go_ret
    exact ⟨by first | rfl | (simp [errW_none, errW_some] <;> rfl) | (simp [*, errW_none, errW_some] <;> rfl), by repeat (first | (with_reducible first | exact HB.out | apply below_alloc | apply pw_below_drewN | apply below_drew1) | exact HB.out)⟩

/-! ### antecedentlaw02_ValueNames: function 8 -/
mutual
def antecedentlaw02_ValueNames.j0 : Nat → ByteArray → ByteArray → Int → Int → Bool → Option (Bool)
  | 0, _, _, _, _, _ => none
  | k + 1, x0, x1, x2, x3, x24 => if x24 = true then ((antecedentlaw02_awake.f k).bind fun t225 => (some t225)) else ((value_Name.f k (⟨#[]⟩ : ByteArray)).bind fun t226 => (if t226 = true then (antecedentlaw02_ValueNames.j1 k x0 x1 x2 x3 true) else (if (x0.size : Int) > 0 then (if 0 < (x0.size : Int) then (if (bt x0 0) ≥ 48 then (if (bt x0 0) ≤ 57 then ((value_Name.f k x0).bind fun t227 => (antecedentlaw02_ValueNames.j1 k x0 x1 x2 x3 t227)) else (antecedentlaw02_ValueNames.j1 k x0 x1 x2 x3 false)) else (antecedentlaw02_ValueNames.j1 k x0 x1 x2 x3 false)) else (none)) else (antecedentlaw02_ValueNames.j1 k x0 x1 x2 x3 false))))
def antecedentlaw02_ValueNames.j1 : Nat → ByteArray → ByteArray → Int → Int → Bool → Option (Bool)
  | 0, _, _, _, _, _ => none
  | k + 1, x0, x1, x2, x3, x45 => if x45 = true then (some false) else ((value_Name.f k x0).bind fun t228 => (if t228 = true then ((value_Name.f k x1).bind fun t229 => (antecedentlaw02_ValueNames.j2 k x0 x1 x2 x3 (!t229))) else (antecedentlaw02_ValueNames.j2 k x0 x1 x2 x3 true)))
def antecedentlaw02_ValueNames.j2 : Nat → ByteArray → ByteArray → Int → Int → Bool → Option (Bool)
  | 0, _, _, _, _, _ => none
  | k + 1, x0, x1, x2, x3, x53 => if x53 = true then (some true) else (if (wrap64 ((x0.size : Int) + 1)) = 0 then (none) else (if 0 ≤ (Int.tmod (wrap64 (x2)) (wrap64 ((x0.size : Int) + 1))) then (if (Int.tmod (wrap64 (x2)) (wrap64 ((x0.size : Int) + 1))) ≤ (x0.size : Int) then ((some (([x3] : List Int) : List Int)).bind fun y230 => (if (x0.extract 0 ((Int.tmod (wrap64 (x2)) (wrap64 ((x0.size : Int) + 1))) : Int).toNat).size + (strOfNums y230).size ≤ 9223372036854775807 then (if (x0.extract 0 ((Int.tmod (wrap64 (x2)) (wrap64 ((x0.size : Int) + 1))) : Int).toNat).size + (strOfNums y230).size + (x0.extract ((Int.tmod (wrap64 (x2)) (wrap64 ((x0.size : Int) + 1))) : Int).toNat x0.size).size ≤ 9223372036854775807 then (if x3 ≥ 97 then (if x3 ≤ 122 then (if x0.size + x1.size ≤ 9223372036854775807 then ((value_Name.f k (x0 ++ x1)).bind fun t233 => (if (t233 == (decide ((wrap64 ((x0.size : Int) + (x1.size : Int))) ≤ 40))) = true then ((value_Name.f k (((x0.extract 0 ((Int.tmod (wrap64 (x2)) (wrap64 ((x0.size : Int) + 1))) : Int).toNat) ++ (strOfNums y230)) ++ (x0.extract ((Int.tmod (wrap64 (x2)) (wrap64 ((x0.size : Int) + 1))) : Int).toNat x0.size))).bind fun t234 => (some (t234 == (decide ((x0.size : Int) < 40))))) else (some false))) else (none)) else (if (Int.tmod (wrap64 (x2)) (wrap64 ((x0.size : Int) + 1))) > 0 then (if x3 ≥ 48 then (if x3 ≤ 57 then (if x0.size + x1.size ≤ 9223372036854775807 then ((value_Name.f k (x0 ++ x1)).bind fun t235 => (if (t235 == (decide ((wrap64 ((x0.size : Int) + (x1.size : Int))) ≤ 40))) = true then ((value_Name.f k (((x0.extract 0 ((Int.tmod (wrap64 (x2)) (wrap64 ((x0.size : Int) + 1))) : Int).toNat) ++ (strOfNums y230)) ++ (x0.extract ((Int.tmod (wrap64 (x2)) (wrap64 ((x0.size : Int) + 1))) : Int).toNat x0.size))).bind fun t236 => (some (t236 == (decide ((x0.size : Int) < 40))))) else (some false))) else (none)) else (if x0.size + x1.size ≤ 9223372036854775807 then ((value_Name.f k (x0 ++ x1)).bind fun t237 => (if (t237 == (decide ((wrap64 ((x0.size : Int) + (x1.size : Int))) ≤ 40))) = true then ((value_Name.f k (((x0.extract 0 ((Int.tmod (wrap64 (x2)) (wrap64 ((x0.size : Int) + 1))) : Int).toNat) ++ (strOfNums y230)) ++ (x0.extract ((Int.tmod (wrap64 (x2)) (wrap64 ((x0.size : Int) + 1))) : Int).toNat x0.size))).bind fun t238 => (if x3 = 95 then (some (t238 == (decide ((x0.size : Int) < 40)))) else (some (t238 == false)))) else (some false))) else (none))) else (if x0.size + x1.size ≤ 9223372036854775807 then ((value_Name.f k (x0 ++ x1)).bind fun t239 => (if (t239 == (decide ((wrap64 ((x0.size : Int) + (x1.size : Int))) ≤ 40))) = true then ((value_Name.f k (((x0.extract 0 ((Int.tmod (wrap64 (x2)) (wrap64 ((x0.size : Int) + 1))) : Int).toNat) ++ (strOfNums y230)) ++ (x0.extract ((Int.tmod (wrap64 (x2)) (wrap64 ((x0.size : Int) + 1))) : Int).toNat x0.size))).bind fun t240 => (if x3 = 95 then (some (t240 == (decide ((x0.size : Int) < 40)))) else (some (t240 == false)))) else (some false))) else (none))) else (if x0.size + x1.size ≤ 9223372036854775807 then ((value_Name.f k (x0 ++ x1)).bind fun t241 => (if (t241 == (decide ((wrap64 ((x0.size : Int) + (x1.size : Int))) ≤ 40))) = true then ((value_Name.f k (((x0.extract 0 ((Int.tmod (wrap64 (x2)) (wrap64 ((x0.size : Int) + 1))) : Int).toNat) ++ (strOfNums y230)) ++ (x0.extract ((Int.tmod (wrap64 (x2)) (wrap64 ((x0.size : Int) + 1))) : Int).toNat x0.size))).bind fun t242 => (some (t242 == false))) else (some false))) else (none)))) else (if (Int.tmod (wrap64 (x2)) (wrap64 ((x0.size : Int) + 1))) > 0 then (if x3 ≥ 48 then (if x3 ≤ 57 then (if x0.size + x1.size ≤ 9223372036854775807 then ((value_Name.f k (x0 ++ x1)).bind fun t243 => (if (t243 == (decide ((wrap64 ((x0.size : Int) + (x1.size : Int))) ≤ 40))) = true then ((value_Name.f k (((x0.extract 0 ((Int.tmod (wrap64 (x2)) (wrap64 ((x0.size : Int) + 1))) : Int).toNat) ++ (strOfNums y230)) ++ (x0.extract ((Int.tmod (wrap64 (x2)) (wrap64 ((x0.size : Int) + 1))) : Int).toNat x0.size))).bind fun t244 => (some (t244 == (decide ((x0.size : Int) < 40))))) else (some false))) else (none)) else (if x0.size + x1.size ≤ 9223372036854775807 then ((value_Name.f k (x0 ++ x1)).bind fun t245 => (if (t245 == (decide ((wrap64 ((x0.size : Int) + (x1.size : Int))) ≤ 40))) = true then ((value_Name.f k (((x0.extract 0 ((Int.tmod (wrap64 (x2)) (wrap64 ((x0.size : Int) + 1))) : Int).toNat) ++ (strOfNums y230)) ++ (x0.extract ((Int.tmod (wrap64 (x2)) (wrap64 ((x0.size : Int) + 1))) : Int).toNat x0.size))).bind fun t246 => (if x3 = 95 then (some (t246 == (decide ((x0.size : Int) < 40)))) else (some (t246 == false)))) else (some false))) else (none))) else (if x0.size + x1.size ≤ 9223372036854775807 then ((value_Name.f k (x0 ++ x1)).bind fun t247 => (if (t247 == (decide ((wrap64 ((x0.size : Int) + (x1.size : Int))) ≤ 40))) = true then ((value_Name.f k (((x0.extract 0 ((Int.tmod (wrap64 (x2)) (wrap64 ((x0.size : Int) + 1))) : Int).toNat) ++ (strOfNums y230)) ++ (x0.extract ((Int.tmod (wrap64 (x2)) (wrap64 ((x0.size : Int) + 1))) : Int).toNat x0.size))).bind fun t248 => (if x3 = 95 then (some (t248 == (decide ((x0.size : Int) < 40)))) else (some (t248 == false)))) else (some false))) else (none))) else (if x0.size + x1.size ≤ 9223372036854775807 then ((value_Name.f k (x0 ++ x1)).bind fun t249 => (if (t249 == (decide ((wrap64 ((x0.size : Int) + (x1.size : Int))) ≤ 40))) = true then ((value_Name.f k (((x0.extract 0 ((Int.tmod (wrap64 (x2)) (wrap64 ((x0.size : Int) + 1))) : Int).toNat) ++ (strOfNums y230)) ++ (x0.extract ((Int.tmod (wrap64 (x2)) (wrap64 ((x0.size : Int) + 1))) : Int).toNat x0.size))).bind fun t250 => (some (t250 == false))) else (some false))) else (none)))) else (none)) else (none))) else (none)) else (none)))
end
def antecedentlaw02_ValueNames.f (k : Nat) (a0 : ByteArray) (a1 : ByteArray) (a2 : Int) (a3 : Int) : Option (Bool) := (antecedentlaw02_awake.f k).bind fun t224 => (if t224 = true then (if (a0.size : Int) > 100 then (antecedentlaw02_ValueNames.j0 k a0 a1 a2 a3 true) else (antecedentlaw02_ValueNames.j0 k a0 a1 a2 a3 (decide ((a1.size : Int) > 100)))) else (antecedentlaw02_ValueNames.j0 k a0 a1 a2 a3 true))
theorem antecedentlaw02_ValueNames.mono_l : ∀ k, (∀ y0 y1 y2 y3 y4, LeO (antecedentlaw02_ValueNames.j0 k y0 y1 y2 y3 y4) (antecedentlaw02_ValueNames.j0 (k + 1) y0 y1 y2 y3 y4)) ∧ (∀ y0 y1 y2 y3 y4, LeO (antecedentlaw02_ValueNames.j1 k y0 y1 y2 y3 y4) (antecedentlaw02_ValueNames.j1 (k + 1) y0 y1 y2 y3 y4)) ∧ (∀ y0 y1 y2 y3 y4, LeO (antecedentlaw02_ValueNames.j2 k y0 y1 y2 y3 y4) (antecedentlaw02_ValueNames.j2 (k + 1) y0 y1 y2 y3 y4))
  | 0 => ⟨fun _ _ _ _ _ r h => by simp [antecedentlaw02_ValueNames.j0] at h, fun _ _ _ _ _ r h => by simp [antecedentlaw02_ValueNames.j1] at h, fun _ _ _ _ _ r h => by simp [antecedentlaw02_ValueNames.j2] at h⟩
  | k + 1 => by
    obtain ⟨ih0, ih1, ih2⟩ := antecedentlaw02_ValueNames.mono_l k
    refine ⟨?_, ?_, ?_⟩
    · intro y0 y1 y2 y3 y4
      unfold antecedentlaw02_ValueNames.j0
      repeat' first
      | (with_reducible exact ih0 _ _ _ _ _)
      | (with_reducible exact ih1 _ _ _ _ _)
      | (with_reducible exact ih2 _ _ _ _ _)
      | (with_reducible exact antecedentlaw02_awake.mono _)
      | (with_reducible exact value_Name.mono _ _)
      | (with_reducible exact LeO.refl _)
      | (with_reducible exact LeO.none _)
      | (with_reducible refine LeO.ite ?_ ?_)
      | (with_reducible refine LeO.bind ?_ (fun _ => ?_))
      | exact ih0 _ _ _ _ _
      | exact ih1 _ _ _ _ _
      | exact ih2 _ _ _ _ _
      | exact antecedentlaw02_awake.mono _
      | exact value_Name.mono _ _
      | exact LeO.none _
      | refine LeO.ite ?_ ?_
      | refine LeO.bind ?_ (fun _ => ?_)
    · intro y0 y1 y2 y3 y4
      unfold antecedentlaw02_ValueNames.j1
      repeat' first
      | (with_reducible exact ih0 _ _ _ _ _)
      | (with_reducible exact ih1 _ _ _ _ _)
      | (with_reducible exact ih2 _ _ _ _ _)
      | (with_reducible exact antecedentlaw02_awake.mono _)
      | (with_reducible exact value_Name.mono _ _)
      | (with_reducible exact LeO.refl _)
      | (with_reducible exact LeO.none _)
      | (with_reducible refine LeO.ite ?_ ?_)
      | (with_reducible refine LeO.bind ?_ (fun _ => ?_))
      | exact ih0 _ _ _ _ _
      | exact ih1 _ _ _ _ _
      | exact ih2 _ _ _ _ _
      | exact antecedentlaw02_awake.mono _
      | exact value_Name.mono _ _
      | exact LeO.none _
      | refine LeO.ite ?_ ?_
      | refine LeO.bind ?_ (fun _ => ?_)
    · intro y0 y1 y2 y3 y4
      unfold antecedentlaw02_ValueNames.j2
      repeat' first
      | (with_reducible exact ih0 _ _ _ _ _)
      | (with_reducible exact ih1 _ _ _ _ _)
      | (with_reducible exact ih2 _ _ _ _ _)
      | (with_reducible exact antecedentlaw02_awake.mono _)
      | (with_reducible exact value_Name.mono _ _)
      | (with_reducible exact LeO.refl _)
      | (with_reducible exact LeO.none _)
      | (with_reducible refine LeO.ite ?_ ?_)
      | (with_reducible refine LeO.bind ?_ (fun _ => ?_))
      | exact ih0 _ _ _ _ _
      | exact ih1 _ _ _ _ _
      | exact ih2 _ _ _ _ _
      | exact antecedentlaw02_awake.mono _
      | exact value_Name.mono _ _
      | exact LeO.none _
      | refine LeO.ite ?_ ?_
      | refine LeO.bind ?_ (fun _ => ?_)
theorem antecedentlaw02_ValueNames.mono : ∀ a0 a1 a2 a3 k, LeO (antecedentlaw02_ValueNames.f k a0 a1 a2 a3) (antecedentlaw02_ValueNames.f (k + 1) a0 a1 a2 a3) := by
  intro a0 a1 a2 a3 k
  obtain ⟨ih0, ih1, ih2⟩ := antecedentlaw02_ValueNames.mono_l k
  unfold antecedentlaw02_ValueNames.f
  repeat' first
      | (with_reducible exact ih0 _ _ _ _ _)
      | (with_reducible exact ih1 _ _ _ _ _)
      | (with_reducible exact ih2 _ _ _ _ _)
      | (with_reducible exact antecedentlaw02_awake.mono _)
      | (with_reducible exact value_Name.mono _ _)
      | (with_reducible exact LeO.refl _)
      | (with_reducible exact LeO.none _)
      | (with_reducible refine LeO.ite ?_ ?_)
      | (with_reducible refine LeO.bind ?_ (fun _ => ?_))
      | exact ih0 _ _ _ _ _
      | exact ih1 _ _ _ _ _
      | exact ih2 _ _ _ _ _
      | exact antecedentlaw02_awake.mono _
      | exact value_Name.mono _ _
      | exact LeO.none _
      | refine LeO.ite ?_ ?_
      | refine LeO.bind ?_ (fun _ => ?_)
def antecedentlaw02_ValueNames.T8 : Bool × List (List Nat × List Nat) := (true, [([], []), ([], []), ([0, 1], [0, 1]), ([], []), ([3], [3]), ([4], [4]), ([2, 5], [2, 5]), ([], []), ([], []), ([7, 8], [7, 8]), ([6, 9], [6, 9]), ([10, 0, 1, 2, 3, 4, 5, 6, 7, 8, 9, 10], [10])])
def antecedentlaw02_ValueNames.B8 : List Nat := [0, 0, 3, 0, 8, 24, 63, 0, 0, 384, 1023, 2047]
theorem antecedentlaw02_ValueNames.tab8 : rtab .any (opsOf Tryd.f8 8) = antecedentlaw02_ValueNames.T8 := by kernel_rfl
theorem antecedentlaw02_ValueNames.bits8 : waitsOk antecedentlaw02_ValueNames.T8.2 antecedentlaw02_ValueNames.B8 = true := by kernel_rfl
end Go.Proofs.YtklpbdmmmloejaaDoor.X
