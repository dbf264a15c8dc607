/-
  ParsePaths: what the proof needs, put together by a program of this session (shake.py), part 2.
-/
import Derived.Test.YthebhbomlllpeaaGreatDoorZParsePaths1
set_option linter.unusedVariables false
set_option linter.unusedSimpArgs false
namespace Go.Proofs.YthebhbomlllpeaaGreatDoor.X
open Go.RowKit Go.Proofs.YthebhbomlllpeaaGreatDoorW.PrintWords Go.Proofs.YthebhbomlllpeaaGreatDoorW.PrintLast Go.Proofs.YthebhbomlllpeaaGreatDoorW.PrintMore
attribute [local go_sem] z4f z4g z50 z52 z3o z3p z4a z4b
def z0p.l0 : Nat → ByteArray → Int → Bool → Int → Option (Int)
 | 0, _, _, _, _ => none
 | k + 1, x0, x1, x2, x7 => if (wrap64 (x1 + x7)) < (x0.size : Int) then (if 0 ≤ (wrap64 (x1 + x7)) then ((z1i.f (bt x0 (wrap64 (x1 + x7)))).bind fun t189 => (if t189 = true then (if x2 = true then (if (bt x0 (wrap64 (x1 + x7))) ≥ 65 then (if ((bt x0 (wrap64 (x1 + x7))) ≤ 90) then (some x7) else (z0p.l0 k x0 x1 x2 (wrap64 (x7 + 1)))) else (z0p.l0 k x0 x1 x2 (wrap64 (x7 + 1)))) else (z0p.l0 k x0 x1 x2 (wrap64 (x7 + 1)))) else (some x7))) else (none)) else (some x7)
def z0p.f (k : Nat) (a0 : ByteArray) (a1 : Int) (a2 : Bool) : Option (Int) := z0p.l0 k a0 a1 a2 0
set_option maxHeartbeats 8000000 in
set_option maxRecDepth 100000 in
theorem z0p.calls (k : Nat) (a0 : ByteArray) (a1 : Int) (a2 : Bool) (r : Int) (w : World) (h : z0p.f k a0 a1 a2 = some r) :
 Calls Tryz.prog 98 #[.string a0, .int .i64 a1, .bool a2] w fun e w' => e = .returned (.int .i64 r) ∧ z0h w w' := by
 have H : (z0p.l0 k a0 a1 a2 0) = some r := h
 clear h
 have H' := z00.mk H
 clear H
 go_enter Tryz.func98, Tryz.ntmps98
 go_wp2
 go_loopg [7] k (fun kq v7 w' => ∃ (x7_1 : Int), v7 = .int .i64 x7_1 ∧ z00 (z0p.l0 kq a0 a1 a2 x7_1 = some r) ∧ z00 (kq ≤ k) ∧ z0h w w')
 case atStart => exact ⟨(0), (by first | rfl | (simp; done) | (simp [*]; done)), H', ⟨Nat.le_refl _⟩, by repeat (first | exact z0h.refl _ | apply z0h.step)⟩
 case round =>
  clear H'
  try clear p2
  obtain ⟨x7_1, rfl, HA, HK1, ⟨m1, rfl⟩⟩ := hrel
  cases gk with
  | zero => exact absurd HA.out (by simp [z0p.l0])
  | succ k1 =>
   have H := HA.out
   clear HA
   simp only [z0p.l0] at H
   by_cases c4 : (wrap64 (a1 + x7_1)) < (a0.size : Int)
   · rw [if_pos c4] at H
     have c4b0 : decide ((wrap64 (a1 + x7_1)) < (a0.size : Int)) = true := decide_eq_true c4
     clear c4
     obtain ⟨ji5, hji5⟩ : ∃ j_ : Int, (wrap64 (a1 + x7_1)) = j_ := ⟨_, rfl⟩
     replace H : (if 0 ≤ (ji5) then ((z1i.f (bt a0 (ji5))).bind fun t189 => (if t189 = true then (if a2 = true then (if (bt a0 (ji5)) ≥ 65 then (if ((bt a0 (ji5)) ≤ 90) then (some x7_1) else (z0p.l0 k1 a0 a1 a2 (wrap64 (x7_1 + 1)))) else (z0p.l0 k1 a0 a1 a2 (wrap64 (x7_1 + 1)))) else (z0p.l0 k1 a0 a1 a2 (wrap64 (x7_1 + 1)))) else (some x7_1))) else (none)) = some r := by first | (rw [hji5] at H; exact H) | (simp only [hji5] at H ⊢; exact H)
     (try rw [hji5] at c4b0)
     have hji5w : (IntKind.i64.wrap (a1 + x7_1)) = ji5 := (i64_w _).trans hji5
     by_cases c6 : 0 ≤ (ji5)
     · rw [if_pos c6] at H
       have c6b0 : decide (0 ≤ (ji5)) = true := decide_eq_true c6
       clear c6
       replace H := Option.bind_eq_some_iff.mp H
       obtain ⟨t189, A80, H⟩ := H
       replace H : (if t189 = true then (if a2 = true then (if (bt a0 (ji5)) ≥ 65 then (if ((bt a0 (ji5)) ≤ 90) then (some x7_1) else (z0p.l0 k1 a0 a1 a2 (wrap64 (x7_1 + 1)))) else (z0p.l0 k1 a0 a1 a2 (wrap64 (x7_1 + 1)))) else (z0p.l0 k1 a0 a1 a2 (wrap64 (x7_1 + 1)))) else (some x7_1)) = some r := H
       have A8 := z00.mk A80
       clear A80
       by_cases c9 : t189 = true
       · subst c9
         have H1 : (if a2 = true then (if (bt a0 (ji5)) ≥ 65 then (if ((bt a0 (ji5)) ≤ 90) then (some x7_1) else (z0p.l0 k1 a0 a1 a2 (wrap64 (x7_1 + 1)))) else (z0p.l0 k1 a0 a1 a2 (wrap64 (x7_1 + 1)))) else (z0p.l0 k1 a0 a1 a2 (wrap64 (x7_1 + 1)))) = some r := by rw [if_pos rfl] at H; exact H
         clear H
         have H := H1
         clear H1
         by_cases c10 : a2 = true
         · subst c10
           have H1 : (if (bt a0 (ji5)) ≥ 65 then (if ((bt a0 (ji5)) ≤ 90) then (some x7_1) else (z0p.l0 k1 a0 a1 true (wrap64 (x7_1 + 1)))) else (z0p.l0 k1 a0 a1 true (wrap64 (x7_1 + 1)))) = some r := by rw [if_pos rfl] at H; exact H
           clear H
           have H := H1
           clear H1
           by_cases c12 : (bt a0 (ji5)) ≥ 65
           · rw [if_pos c12] at H
             have c12b0 : decide (65 ≤ (bt a0 (ji5))) = true := decide_eq_true c12
             clear c12
             by_cases c14 : ((bt a0 (ji5)) ≤ 90)
             · rw [if_pos c14] at H
               have c14b0 : decide ((bt a0 (ji5)) ≤ 90) = true := decide_eq_true c14
               clear c14
               obtain rfl := Option.some.inj H
               have p7 : 0 ≤ ((ji5) : Int) := of_decide_eq_true (by first | (with_reducible assumption) | assumption)
               have q7 : (ji5) < (a0.size : Int) := of_decide_eq_true (by first | (with_reducible assumption) | assumption)
               have hx7 := bt_at a0 (ji5)
               replace p7 := eq_true p7
               replace q7 := eq_true q7
               go_wp2_with (first | (go_at_call 131; (with_reducible refine (z1i.calls (bt a0 (ji5)) true _ A8.out).mono ?_); rintro e w' ⟨rfl, ⟨nd, rfl⟩⟩; have p11 : 0 ≤ ((ji5) : Int) := of_decide_eq_true (by first | (with_reducible assumption) | assumption); have q11 : (ji5) < (a0.size : Int) := of_decide_eq_true (by first | (with_reducible assumption) | assumption); have hx11 := bt_at a0 (ji5); replace p11 := eq_true p11; replace q11 := eq_true q11; have p13 : 0 ≤ ((ji5) : Int) := of_decide_eq_true (by first | (with_reducible assumption) | assumption); have q13 : (ji5) < (a0.size : Int) := of_decide_eq_true (by first | (with_reducible assumption) | assumption); have hx13 := bt_at a0 (ji5); replace p13 := eq_true p13; replace q13 := eq_true q13))
               go_ret
               exact ⟨by first | rfl | (simp; done) | (simp only [← hji5] <;> (first | rfl | simp)) | (simp [*]; done), by repeat (first | exact z0h.refl _ | apply z0h.step)⟩
             · rw [if_neg c14] at H
               have c14b0 : decide ((bt a0 (ji5)) ≤ 90) = false := decide_eq_false c14
               clear c14
               have H' := z00.mk H
               clear H
               have p7 : 0 ≤ ((ji5) : Int) := of_decide_eq_true (by first | (with_reducible assumption) | assumption)
               have q7 : (ji5) < (a0.size : Int) := of_decide_eq_true (by first | (with_reducible assumption) | assumption)
               have hx7 := bt_at a0 (ji5)
               replace p7 := eq_true p7
               replace q7 := eq_true q7
               go_wp2_with (first | (go_at_call 131; (with_reducible refine (z1i.calls (bt a0 (ji5)) true _ A8.out).mono ?_); rintro e w' ⟨rfl, ⟨nd, rfl⟩⟩; have p11 : 0 ≤ ((ji5) : Int) := of_decide_eq_true (by first | (with_reducible assumption) | assumption); have q11 : (ji5) < (a0.size : Int) := of_decide_eq_true (by first | (with_reducible assumption) | assumption); have hx11 := bt_at a0 (ji5); replace p11 := eq_true p11; replace q11 := eq_true q11; have p13 : 0 ≤ ((ji5) : Int) := of_decide_eq_true (by first | (with_reducible assumption) | assumption); have q13 : (ji5) < (a0.size : Int) := of_decide_eq_true (by first | (with_reducible assumption) | assumption); have hx13 := bt_at a0 (ji5); replace p13 := eq_true p13; replace q13 := eq_true q13))
               go_roundg k1
               case measure => have := HK1.out; omega
               case rel => exact ⟨(wrap64 (x7_1 + 1)), (by first | rfl | (simp; done) | (simp [*]; done)), H', ⟨by have := HK1.out; omega⟩, by repeat (first | exact z0h.refl _ | apply z0h.step)⟩
           · rw [if_neg c12] at H
             have c12b0 : decide (65 ≤ (bt a0 (ji5))) = false := decide_eq_false c12
             clear c12
             have H' := z00.mk H
             clear H
             have p7 : 0 ≤ ((ji5) : Int) := of_decide_eq_true (by first | (with_reducible assumption) | assumption)
             have q7 : (ji5) < (a0.size : Int) := of_decide_eq_true (by first | (with_reducible assumption) | assumption)
             have hx7 := bt_at a0 (ji5)
             replace p7 := eq_true p7
             replace q7 := eq_true q7
             go_wp2_with (first | (go_at_call 131; (with_reducible refine (z1i.calls (bt a0 (ji5)) true _ A8.out).mono ?_); rintro e w' ⟨rfl, ⟨nd, rfl⟩⟩; have p11 : 0 ≤ ((ji5) : Int) := of_decide_eq_true (by first | (with_reducible assumption) | assumption); have q11 : (ji5) < (a0.size : Int) := of_decide_eq_true (by first | (with_reducible assumption) | assumption); have hx11 := bt_at a0 (ji5); replace p11 := eq_true p11; replace q11 := eq_true q11))
             go_roundg k1
             case measure => have := HK1.out; omega
             case rel => exact ⟨(wrap64 (x7_1 + 1)), (by first | rfl | (simp; done) | (simp [*]; done)), H', ⟨by have := HK1.out; omega⟩, by repeat (first | exact z0h.refl _ | apply z0h.step)⟩
         · replace c10 := Bool.eq_false_iff.mpr c10
           subst c10
           have H1 : (z0p.l0 k1 a0 a1 false (wrap64 (x7_1 + 1))) = some r := by rw [if_neg (show ¬ (false = true) by decide)] at H; exact H
           clear H
           have H := H1
           clear H1
           have H' := z00.mk H
           clear H
           have p7 : 0 ≤ ((ji5) : Int) := of_decide_eq_true (by first | (with_reducible assumption) | assumption)
           have q7 : (ji5) < (a0.size : Int) := of_decide_eq_true (by first | (with_reducible assumption) | assumption)
           have hx7 := bt_at a0 (ji5)
           replace p7 := eq_true p7
           replace q7 := eq_true q7
           go_wp2_with (first | (go_at_call 131; (with_reducible refine (z1i.calls (bt a0 (ji5)) true _ A8.out).mono ?_); rintro e w' ⟨rfl, ⟨nd, rfl⟩⟩))
           go_roundg k1
           case measure => have := HK1.out; omega
           case rel => exact ⟨(wrap64 (x7_1 + 1)), (by first | rfl | (simp; done) | (simp [*]; done)), H', ⟨by have := HK1.out; omega⟩, by repeat (first | exact z0h.refl _ | apply z0h.step)⟩
       · replace c9 := Bool.eq_false_iff.mpr c9
         subst c9
         have H1 : (some x7_1) = some r := by rw [if_neg (show ¬ (false = true) by decide)] at H; exact H
         clear H
         have H := H1
         clear H1
         obtain rfl := Option.some.inj H
         have p7 : 0 ≤ ((ji5) : Int) := of_decide_eq_true (by first | (with_reducible assumption) | assumption)
         have q7 : (ji5) < (a0.size : Int) := of_decide_eq_true (by first | (with_reducible assumption) | assumption)
         have hx7 := bt_at a0 (ji5)
         replace p7 := eq_true p7
         replace q7 := eq_true q7
         go_wp2_with (first | (go_at_call 131; (with_reducible refine (z1i.calls (bt a0 (ji5)) false _ A8.out).mono ?_); rintro e w' ⟨rfl, ⟨nd, rfl⟩⟩))
         go_ret
         exact ⟨by first | rfl | (simp; done) | (simp only [← hji5] <;> (first | rfl | simp)) | (simp [*]; done), by repeat (first | exact z0h.refl _ | apply z0h.step)⟩
     · rw [if_neg c6] at H
       exact absurd H (by simp)
   · rw [if_neg c4] at H
     have c4b0 : decide ((wrap64 (a1 + x7_1)) < (a0.size : Int)) = false := decide_eq_false c4
     clear c4
     obtain rfl := Option.some.inj H
     go_wp2
     go_ret
     exact ⟨by first | rfl | (simp; done) | (simp [*]; done), by repeat (first | exact z0h.refl _ | apply z0h.step)⟩
mutual
def z0u.j0 : Nat → ByteArray → Int → ByteArray → Option (Int)
 | 0, _, _, _ => none
 | k + 1, x0, x1, x5 => if x5.toList = ([60, 61] : List UInt8) then (z0u.j1 k x0 x1 true) else (if x5.toList = ([33, 61] : List UInt8) then (z0u.j1 k x0 x1 true) else (if x5.toList = ([58, 45] : List UInt8) then (z0u.j1 k x0 x1 true) else (z0u.j1 k x0 x1 (x5.toList == ([63, 45] : List UInt8)))))
def z0u.j1 : Nat → ByteArray → Int → Bool → Option (Int)
 | 0, _, _, _ => none
 | k + 1, x0, x1, x30 => if x30 = true then (some 2) else (if 0 ≤ x1 then (if x1 < (x0.size : Int) then (if (bt x0 x1) = 40 then (some 1) else (if (bt x0 x1) = 41 then (some 1) else (if (bt x0 x1) = 44 then (some 1) else (if (bt x0 x1) = 46 then (some 1) else (if (bt x0 x1) = 60 then (some 1) else (if (bt x0 x1) = 61 then (some 1) else (if (bt x0 x1) = 47 then (some 1) else (if (bt x0 x1) = 124 then (some 1) else (if (bt x0 x1) = 42 then (some 1) else (if (bt x0 x1) = 43 then (some 1) else (if (bt x0 x1) = 63 then (some 1) else (if (bt x0 x1) = 94 then (some 1) else (some 0))))))))))))) else (none)) else (none))
end
def z0u.f (k : Nat) (a0 : ByteArray) (a1 : Int) : Option (Int) := if (wrap64 (a1 + 2)) ≤ (a0.size : Int) then (if 0 ≤ a1 then (if a1 ≤ (wrap64 (a1 + 2)) then (z0u.j0 k a0 a1 (a0.extract (a1 : Int).toNat ((wrap64 (a1 + 2)) : Int).toNat)) else (none)) else (none)) else (z0u.j0 k a0 a1 (⟨#[]⟩ : ByteArray))
set_option maxHeartbeats 8000000 in
set_option maxRecDepth 100000 in
theorem z0u.calls (k : Nat) (a0 : ByteArray) (a1 : Int) (r : Int) (w : World) (h : z0u.f k a0 a1 = some r) :
 Calls Tryz.prog 102 #[.string a0, .int .i64 a1] w fun e w' => e = .returned (.int .i64 r) ∧ z0h w w' := by
 have H : (if (wrap64 (a1 + 2)) ≤ (a0.size : Int) then (if 0 ≤ a1 then (if a1 ≤ (wrap64 (a1 + 2)) then (z0u.j0 k a0 a1 (a0.extract (a1 : Int).toNat ((wrap64 (a1 + 2)) : Int).toNat)) else (none)) else (none)) else (z0u.j0 k a0 a1 (⟨#[]⟩ : ByteArray))) = some r := h
 clear h
 have HC3 := z00.mk H
 clear H
 go_enter Tryz.func102, Tryz.ntmps102
 go_upto_if 11 with (fail)
 go_cut [5] (fun v5 wc => ∃ (kq : Nat) (x5_2 : ByteArray), v5 = .string x5_2 ∧ z00 (z0u.j0 kq a0 a1 x5_2 = some r) ∧ z00 (kq ≤ k) ∧ z0h w wc)
 case first =>
  have H := HC3.out
  clear HC3
  by_cases c4 : (wrap64 (a1 + 2)) ≤ (a0.size : Int)
  · rw [if_pos c4] at H
    have c4b0 : decide ((wrap64 (a1 + 2)) ≤ (a0.size : Int)) = true := decide_eq_true c4
    clear c4
    (first | rw [c4b0] | (simp only [i64_w, i32_w]; rw [c4b0]) | skip)
    by_cases c5 : 0 ≤ a1
    · rw [if_pos c5] at H
      have c5b0 := eq_true c5
      have c5b1 : decide (0 ≤ a1) = true := decide_eq_true c5
      clear c5
      by_cases c6 : a1 ≤ (wrap64 (a1 + 2))
      · rw [if_pos c6] at H
        have c6b0 := eq_true c6
        have c6b1 : decide (a1 ≤ (wrap64 (a1 + 2))) = true := decide_eq_true c6
        have c7b0 := eq_true (of_decide_eq_true (by first | (with_reducible assumption) | assumption) : (wrap64 (a1 + 2)) ≤ (a0.size : Int))
        have H' := z00.mk H
        clear H
        go_wp2
        go_meet
        case rel => exact ⟨_, (a0.extract (a1 : Int).toNat ((wrap64 (a1 + 2)) : Int).toNat), (by first | rfl | (simp; done) | (simp [*]; done)), H', ⟨by first | omega | exact Nat.le_refl _⟩, by repeat (first | exact z0h.refl _ | apply z0h.step)⟩
      · rw [if_neg c6] at H
        exact absurd H (by simp)
    · rw [if_neg c5] at H
      exact absurd H (by simp)
  · rw [if_neg c4] at H
    have c4b0 : decide ((wrap64 (a1 + 2)) ≤ (a0.size : Int)) = false := decide_eq_false c4
    clear c4
    (first | rw [c4b0] | (simp only [i64_w, i32_w]; rw [c4b0]) | skip)
    have H' := z00.mk H
    clear H
    go_wp2
    go_meet
    case rel => exact ⟨_, ((⟨#[]⟩ : ByteArray)), (by first | rfl | (simp; done) | (simp [*]; done)), H', ⟨by first | omega | exact Nat.le_refl _⟩, by repeat (first | exact z0h.refl _ | apply z0h.step)⟩
 case rest =>
  clear HC3
  try clear c1
  try clear p2
  try clear c4
  try clear c4b0
  try clear c5
  try clear c5b0
  try clear c5b1
  try clear c6
  try clear c6b0
  try clear c6b1
  try clear p6
  try clear c7
  try clear c7b0
  obtain ⟨kq, x5_2, rfl, HA, HJ2, ⟨mc2, rfl⟩⟩ := hcut
  cases kq with
  | zero => exact absurd HA.out (by simp [z0u.j0])
  | succ kj2 =>
   have H := HA.out
   clear HA
   simp only [z0u.j0] at H
   have HC8 := z00.mk H
   clear H
   go_upto_region 4 with (fail)
   go_cut [30] (fun v30 wc => ∃ (kq : Nat) (x30_7 : Bool), v30 = .bool x30_7 ∧ z00 (z0u.j1 kq a0 a1 x30_7 = some r) ∧ z00 (kq ≤ kj2) ∧ z0h w wc)
   case first =>
    have H := HC8.out
    clear HC8
    by_cases c9 : x5_2.toList = ([60, 61] : List UInt8)
    · rw [if_pos c9] at H
      have c9b0 : (x5_2.toList == ([60, 61] : List UInt8)) = true := beq_iff_eq.mpr c9
      have c9b1 : (x5_2.toList != ([60, 61] : List UInt8)) = false := bne_eq_false_iff_eq.mpr c9
      clear c9
      (first | rw [c9b0] | (simp only [i64_w, i32_w]; rw [c9b0]) | skip)
      have H' := z00.mk H
      clear H
      go_wp2
      go_meet
      case rel => exact ⟨_, (true), (by first | rfl | (simp; done) | (simp [*]; done)), H', ⟨by have := HJ2.out; first | omega | exact Nat.le_refl _⟩, by repeat (first | exact z0h.refl _ | apply z0h.step)⟩
    · rw [if_neg c9] at H
      have c9b0 : (x5_2.toList == ([60, 61] : List UInt8)) = false := beq_eq_false_iff_ne.mpr c9
      have c9b1 : (x5_2.toList != ([60, 61] : List UInt8)) = true := bne_iff_ne.mpr c9
      (first | rw [c9b0] | (simp only [i64_w, i32_w]; rw [c9b0]) | skip)
      by_cases c10 : x5_2.toList = ([33, 61] : List UInt8)
      · rw [if_pos c10] at H
        have c10b0 : (x5_2.toList == ([33, 61] : List UInt8)) = true := beq_iff_eq.mpr c10
        have c10b1 : (x5_2.toList != ([33, 61] : List UInt8)) = false := bne_eq_false_iff_eq.mpr c10
        clear c10
        have H' := z00.mk H
        clear H
        go_wp2
        go_meet
        case rel => exact ⟨_, (true), (by first | rfl | (simp; done) | (simp [*]; done)), H', ⟨by have := HJ2.out; first | omega | exact Nat.le_refl _⟩, by repeat (first | exact z0h.refl _ | apply z0h.step)⟩
      · rw [if_neg c10] at H
        have c10b0 : (x5_2.toList == ([33, 61] : List UInt8)) = false := beq_eq_false_iff_ne.mpr c10
        have c10b1 : (x5_2.toList != ([33, 61] : List UInt8)) = true := bne_iff_ne.mpr c10
        by_cases c11 : x5_2.toList = ([58, 45] : List UInt8)
        · rw [if_pos c11] at H
          have c11b0 : (x5_2.toList == ([58, 45] : List UInt8)) = true := beq_iff_eq.mpr c11
          have c11b1 : (x5_2.toList != ([58, 45] : List UInt8)) = false := bne_eq_false_iff_eq.mpr c11
          clear c11
          have H' := z00.mk H
          clear H
          go_wp2
          go_meet
          case rel => exact ⟨_, (true), (by first | rfl | (simp; done) | (simp [*]; done)), H', ⟨by have := HJ2.out; first | omega | exact Nat.le_refl _⟩, by repeat (first | exact z0h.refl _ | apply z0h.step)⟩
        · rw [if_neg c11] at H
          have c11b0 : (x5_2.toList == ([58, 45] : List UInt8)) = false := beq_eq_false_iff_ne.mpr c11
          have c11b1 : (x5_2.toList != ([58, 45] : List UInt8)) = true := bne_iff_ne.mpr c11
          have H' := z00.mk H
          clear H
          go_wp2
          go_meet
          case rel => exact ⟨_, ((x5_2.toList == ([63, 45] : List UInt8))), (by first | rfl | (simp; done) | (simp [*]; done)), H', ⟨by have := HJ2.out; first | omega | exact Nat.le_refl _⟩, by repeat (first | exact z0h.refl _ | apply z0h.step)⟩
   case rest =>
    clear HC8
    try clear c1
    try clear c2
    try clear p2
    try clear c4
    try clear c4b0
    try clear c5
    try clear c5b0
    try clear c5b1
    try clear c6
    try clear c6b0
    try clear c6b1
    try clear p6
    try clear c7
    try clear c7b0
    try clear c9
    try clear c9b0
    try clear c9b1
    try clear c10
    try clear c10b0
    try clear c10b1
    try clear c11
    try clear c11b0
    try clear c11b1
    try clear p2
    try clear p6
    obtain ⟨kq, x30_7, rfl, HA, HJ7, ⟨mc7, rfl⟩⟩ := hcut
    cases kq with
    | zero => exact absurd HA.out (by simp [z0u.j1])
    | succ kj7 =>
     have H := HA.out
     clear HA
     simp only [z0u.j1] at H
     by_cases c12 : x30_7 = true
     · subst c12
       have H1 : (some 2) = some r := by rw [if_pos rfl] at H; exact H
       clear H
       have H := H1
       clear H1
       obtain rfl := Option.some.inj H
       go_wp2
       go_ret
       exact ⟨by first | rfl | (simp; done) | (simp [*]; done), by repeat (first | exact z0h.refl _ | apply z0h.step)⟩
     · replace c12 := Bool.eq_false_iff.mpr c12
       subst c12
       have H1 : (if 0 ≤ a1 then (if a1 < (a0.size : Int) then (if (bt a0 a1) = 40 then (some 1) else (if (bt a0 a1) = 41 then (some 1) else (if (bt a0 a1) = 44 then (some 1) else (if (bt a0 a1) = 46 then (some 1) else (if (bt a0 a1) = 60 then (some 1) else (if (bt a0 a1) = 61 then (some 1) else (if (bt a0 a1) = 47 then (some 1) else (if (bt a0 a1) = 124 then (some 1) else (if (bt a0 a1) = 42 then (some 1) else (if (bt a0 a1) = 43 then (some 1) else (if (bt a0 a1) = 63 then (some 1) else (if (bt a0 a1) = 94 then (some 1) else (some 0))))))))))))) else (none)) else (none)) = some r := by rw [if_neg (show ¬ (false = true) by decide)] at H; exact H
       clear H
       have H := H1
       clear H1
       by_cases c13 : 0 ≤ a1
       · rw [if_pos c13] at H
         have c13b0 : decide (0 ≤ a1) = true := decide_eq_true c13
         clear c13
         by_cases c14 : a1 < (a0.size : Int)
         · rw [if_pos c14] at H
           have c14b0 : decide (a1 < (a0.size : Int)) = true := decide_eq_true c14
           clear c14
           by_cases c16 : (bt a0 a1) = 40
           · rw [if_pos c16] at H
             have c16b0 : ((bt a0 a1) == 40) = true := beq_iff_eq.mpr c16
             have c16b1 : ((bt a0 a1) != 40) = false := bne_eq_false_iff_eq.mpr c16
             clear c16
             obtain rfl := Option.some.inj H
             have p15 : 0 ≤ (a1 : Int) := of_decide_eq_true (by first | (with_reducible assumption) | assumption)
             have q15 : a1 < (a0.size : Int) := of_decide_eq_true (by first | (with_reducible assumption) | assumption)
             have hx15 := bt_at a0 a1
             replace p15 := eq_true p15
             replace q15 := eq_true q15
             go_wp2
             go_ret
             exact ⟨by first | rfl | (simp; done) | (simp [*]; done), by repeat (first | exact z0h.refl _ | apply z0h.step)⟩
           · rw [if_neg c16] at H
             have c16b0 : ((bt a0 a1) == 40) = false := beq_eq_false_iff_ne.mpr c16
             have c16b1 : ((bt a0 a1) != 40) = true := bne_iff_ne.mpr c16
             by_cases c17 : (bt a0 a1) = 41
             · rw [if_pos c17] at H
               have c17b0 : ((bt a0 a1) == 41) = true := beq_iff_eq.mpr c17
               have c17b1 : ((bt a0 a1) != 41) = false := bne_eq_false_iff_eq.mpr c17
               clear c17
               obtain rfl := Option.some.inj H
               have p15 : 0 ≤ (a1 : Int) := of_decide_eq_true (by first | (with_reducible assumption) | assumption)
               have q15 : a1 < (a0.size : Int) := of_decide_eq_true (by first | (with_reducible assumption) | assumption)
               have hx15 := bt_at a0 a1
               replace p15 := eq_true p15
               replace q15 := eq_true q15
               go_wp2
               go_ret
               exact ⟨by first | rfl | (simp; done) | (simp [*]; done), by repeat (first | exact z0h.refl _ | apply z0h.step)⟩
             · rw [if_neg c17] at H
               have c17b0 : ((bt a0 a1) == 41) = false := beq_eq_false_iff_ne.mpr c17
               have c17b1 : ((bt a0 a1) != 41) = true := bne_iff_ne.mpr c17
               by_cases c18 : (bt a0 a1) = 44
               · rw [if_pos c18] at H
                 have c18b0 : ((bt a0 a1) == 44) = true := beq_iff_eq.mpr c18
                 have c18b1 : ((bt a0 a1) != 44) = false := bne_eq_false_iff_eq.mpr c18
                 clear c18
                 obtain rfl := Option.some.inj H
                 have p15 : 0 ≤ (a1 : Int) := of_decide_eq_true (by first | (with_reducible assumption) | assumption)
                 have q15 : a1 < (a0.size : Int) := of_decide_eq_true (by first | (with_reducible assumption) | assumption)
                 have hx15 := bt_at a0 a1
                 replace p15 := eq_true p15
                 replace q15 := eq_true q15
                 go_wp2
                 go_ret
                 exact ⟨by first | rfl | (simp; done) | (simp [*]; done), by repeat (first | exact z0h.refl _ | apply z0h.step)⟩
               · rw [if_neg c18] at H
                 have c18b0 : ((bt a0 a1) == 44) = false := beq_eq_false_iff_ne.mpr c18
                 have c18b1 : ((bt a0 a1) != 44) = true := bne_iff_ne.mpr c18
                 by_cases c19 : (bt a0 a1) = 46
                 · rw [if_pos c19] at H
                   have c19b0 : ((bt a0 a1) == 46) = true := beq_iff_eq.mpr c19
                   have c19b1 : ((bt a0 a1) != 46) = false := bne_eq_false_iff_eq.mpr c19
                   clear c19
                   obtain rfl := Option.some.inj H
                   have p15 : 0 ≤ (a1 : Int) := of_decide_eq_true (by first | (with_reducible assumption) | assumption)
                   have q15 : a1 < (a0.size : Int) := of_decide_eq_true (by first | (with_reducible assumption) | assumption)
                   have hx15 := bt_at a0 a1
                   replace p15 := eq_true p15
                   replace q15 := eq_true q15
                   go_wp2
                   go_ret
                   exact ⟨by first | rfl | (simp; done) | (simp [*]; done), by repeat (first | exact z0h.refl _ | apply z0h.step)⟩
                 · rw [if_neg c19] at H
                   have c19b0 : ((bt a0 a1) == 46) = false := beq_eq_false_iff_ne.mpr c19
                   have c19b1 : ((bt a0 a1) != 46) = true := bne_iff_ne.mpr c19
                   by_cases c20 : (bt a0 a1) = 60
                   · rw [if_pos c20] at H
                     have c20b0 : ((bt a0 a1) == 60) = true := beq_iff_eq.mpr c20
                     have c20b1 : ((bt a0 a1) != 60) = false := bne_eq_false_iff_eq.mpr c20
                     clear c20
                     obtain rfl := Option.some.inj H
                     have p15 : 0 ≤ (a1 : Int) := of_decide_eq_true (by first | (with_reducible assumption) | assumption)
                     have q15 : a1 < (a0.size : Int) := of_decide_eq_true (by first | (with_reducible assumption) | assumption)
                     have hx15 := bt_at a0 a1
                     replace p15 := eq_true p15
                     replace q15 := eq_true q15
                     go_wp2
                     go_ret
                     exact ⟨by first | rfl | (simp; done) | (simp [*]; done), by repeat (first | exact z0h.refl _ | apply z0h.step)⟩
                   · rw [if_neg c20] at H
                     have c20b0 : ((bt a0 a1) == 60) = false := beq_eq_false_iff_ne.mpr c20
                     have c20b1 : ((bt a0 a1) != 60) = true := bne_iff_ne.mpr c20
                     by_cases c21 : (bt a0 a1) = 61
                     · rw [if_pos c21] at H
                       have c21b0 : ((bt a0 a1) == 61) = true := beq_iff_eq.mpr c21
                       have c21b1 : ((bt a0 a1) != 61) = false := bne_eq_false_iff_eq.mpr c21
                       clear c21
                       obtain rfl := Option.some.inj H
                       have p15 : 0 ≤ (a1 : Int) := of_decide_eq_true (by first | (with_reducible assumption) | assumption)
                       have q15 : a1 < (a0.size : Int) := of_decide_eq_true (by first | (with_reducible assumption) | assumption)
                       have hx15 := bt_at a0 a1
                       replace p15 := eq_true p15
                       replace q15 := eq_true q15
                       go_wp2
                       go_ret
                       exact ⟨by first | rfl | (simp; done) | (simp [*]; done), by repeat (first | exact z0h.refl _ | apply z0h.step)⟩
                     · rw [if_neg c21] at H
                       have c21b0 : ((bt a0 a1) == 61) = false := beq_eq_false_iff_ne.mpr c21
                       have c21b1 : ((bt a0 a1) != 61) = true := bne_iff_ne.mpr c21
                       by_cases c22 : (bt a0 a1) = 47
                       · rw [if_pos c22] at H
                         have c22b0 : ((bt a0 a1) == 47) = true := beq_iff_eq.mpr c22
                         have c22b1 : ((bt a0 a1) != 47) = false := bne_eq_false_iff_eq.mpr c22
                         clear c22
                         obtain rfl := Option.some.inj H
                         have p15 : 0 ≤ (a1 : Int) := of_decide_eq_true (by first | (with_reducible assumption) | assumption)
                         have q15 : a1 < (a0.size : Int) := of_decide_eq_true (by first | (with_reducible assumption) | assumption)
                         have hx15 := bt_at a0 a1
                         replace p15 := eq_true p15
                         replace q15 := eq_true q15
                         go_wp2
                         go_ret
                         exact ⟨by first | rfl | (simp; done) | (simp [*]; done), by repeat (first | exact z0h.refl _ | apply z0h.step)⟩
                       · rw [if_neg c22] at H
                         have c22b0 : ((bt a0 a1) == 47) = false := beq_eq_false_iff_ne.mpr c22
                         have c22b1 : ((bt a0 a1) != 47) = true := bne_iff_ne.mpr c22
                         by_cases c23 : (bt a0 a1) = 124
                         · rw [if_pos c23] at H
                           have c23b0 : ((bt a0 a1) == 124) = true := beq_iff_eq.mpr c23
                           have c23b1 : ((bt a0 a1) != 124) = false := bne_eq_false_iff_eq.mpr c23
                           clear c23
                           obtain rfl := Option.some.inj H
                           have p15 : 0 ≤ (a1 : Int) := of_decide_eq_true (by first | (with_reducible assumption) | assumption)
                           have q15 : a1 < (a0.size : Int) := of_decide_eq_true (by first | (with_reducible assumption) | assumption)
                           have hx15 := bt_at a0 a1
                           replace p15 := eq_true p15
                           replace q15 := eq_true q15
                           go_wp2
                           go_ret
                           exact ⟨by first | rfl | (simp; done) | (simp [*]; done), by repeat (first | exact z0h.refl _ | apply z0h.step)⟩
                         · rw [if_neg c23] at H
                           have c23b0 : ((bt a0 a1) == 124) = false := beq_eq_false_iff_ne.mpr c23
                           have c23b1 : ((bt a0 a1) != 124) = true := bne_iff_ne.mpr c23
                           by_cases c24 : (bt a0 a1) = 42
                           · rw [if_pos c24] at H
                             have c24b0 : ((bt a0 a1) == 42) = true := beq_iff_eq.mpr c24
                             have c24b1 : ((bt a0 a1) != 42) = false := bne_eq_false_iff_eq.mpr c24
                             clear c24
                             obtain rfl := Option.some.inj H
                             have p15 : 0 ≤ (a1 : Int) := of_decide_eq_true (by first | (with_reducible assumption) | assumption)
                             have q15 : a1 < (a0.size : Int) := of_decide_eq_true (by first | (with_reducible assumption) | assumption)
                             have hx15 := bt_at a0 a1
                             replace p15 := eq_true p15
                             replace q15 := eq_true q15
                             go_wp2
                             go_ret
                             exact ⟨by first | rfl | (simp; done) | (simp [*]; done), by repeat (first | exact z0h.refl _ | apply z0h.step)⟩
                           · rw [if_neg c24] at H
                             have c24b0 : ((bt a0 a1) == 42) = false := beq_eq_false_iff_ne.mpr c24
                             have c24b1 : ((bt a0 a1) != 42) = true := bne_iff_ne.mpr c24
                             by_cases c25 : (bt a0 a1) = 43
                             · rw [if_pos c25] at H
                               have c25b0 : ((bt a0 a1) == 43) = true := beq_iff_eq.mpr c25
                               have c25b1 : ((bt a0 a1) != 43) = false := bne_eq_false_iff_eq.mpr c25
                               clear c25
                               obtain rfl := Option.some.inj H
                               have p15 : 0 ≤ (a1 : Int) := of_decide_eq_true (by first | (with_reducible assumption) | assumption)
                               have q15 : a1 < (a0.size : Int) := of_decide_eq_true (by first | (with_reducible assumption) | assumption)
                               have hx15 := bt_at a0 a1
                               replace p15 := eq_true p15
                               replace q15 := eq_true q15
                               go_wp2
                               go_ret
                               exact ⟨by first | rfl | (simp; done) | (simp [*]; done), by repeat (first | exact z0h.refl _ | apply z0h.step)⟩
                             · rw [if_neg c25] at H
                               have c25b0 : ((bt a0 a1) == 43) = false := beq_eq_false_iff_ne.mpr c25
                               have c25b1 : ((bt a0 a1) != 43) = true := bne_iff_ne.mpr c25
                               by_cases c26 : (bt a0 a1) = 63
                               · rw [if_pos c26] at H
                                 have c26b0 : ((bt a0 a1) == 63) = true := beq_iff_eq.mpr c26
                                 have c26b1 : ((bt a0 a1) != 63) = false := bne_eq_false_iff_eq.mpr c26
                                 clear c26
                                 obtain rfl := Option.some.inj H
                                 have p15 : 0 ≤ (a1 : Int) := of_decide_eq_true (by first | (with_reducible assumption) | assumption)
                                 have q15 : a1 < (a0.size : Int) := of_decide_eq_true (by first | (with_reducible assumption) | assumption)
                                 have hx15 := bt_at a0 a1
                                 replace p15 := eq_true p15
                                 replace q15 := eq_true q15
                                 go_wp2
                                 go_ret
                                 exact ⟨by first | rfl | (simp; done) | (simp [*]; done), by repeat (first | exact z0h.refl _ | apply z0h.step)⟩
                               · rw [if_neg c26] at H
                                 have c26b0 : ((bt a0 a1) == 63) = false := beq_eq_false_iff_ne.mpr c26
                                 have c26b1 : ((bt a0 a1) != 63) = true := bne_iff_ne.mpr c26
                                 by_cases c27 : (bt a0 a1) = 94
                                 · rw [if_pos c27] at H
                                   have c27b0 : ((bt a0 a1) == 94) = true := beq_iff_eq.mpr c27
                                   have c27b1 : ((bt a0 a1) != 94) = false := bne_eq_false_iff_eq.mpr c27
                                   clear c27
                                   obtain rfl := Option.some.inj H
                                   have p15 : 0 ≤ (a1 : Int) := of_decide_eq_true (by first | (with_reducible assumption) | assumption)
                                   have q15 : a1 < (a0.size : Int) := of_decide_eq_true (by first | (with_reducible assumption) | assumption)
                                   have hx15 := bt_at a0 a1
                                   replace p15 := eq_true p15
                                   replace q15 := eq_true q15
                                   go_wp2
                                   go_ret
                                   exact ⟨by first | rfl | (simp; done) | (simp [*]; done), by repeat (first | exact z0h.refl _ | apply z0h.step)⟩
                                 · rw [if_neg c27] at H
                                   have c27b0 : ((bt a0 a1) == 94) = false := beq_eq_false_iff_ne.mpr c27
                                   have c27b1 : ((bt a0 a1) != 94) = true := bne_iff_ne.mpr c27
                                   obtain rfl := Option.some.inj H
                                   have p15 : 0 ≤ (a1 : Int) := of_decide_eq_true (by first | (with_reducible assumption) | assumption)
                                   have q15 : a1 < (a0.size : Int) := of_decide_eq_true (by first | (with_reducible assumption) | assumption)
                                   have hx15 := bt_at a0 a1
                                   replace p15 := eq_true p15
                                   replace q15 := eq_true q15
                                   go_wp2
                                   go_ret
                                   exact ⟨by first | rfl | (simp; done) | (simp [*]; done), by repeat (first | exact z0h.refl _ | apply z0h.step)⟩
         · rw [if_neg c14] at H
           exact absurd H (by simp)
       · rw [if_neg c13] at H
         exact absurd H (by simp)
def IsS95 (w0 W : World) (g : Nat) (f0 : List (S53)) (f1 : Int) (f2 : Int) (f3 : Int) (f4 : Int) : Prop := ∃ A0 c0, W.heap[g]? = some (.cells #[.slice A0 f0.length c0, .int .i64 f1, .int .i64 f2, .int .i64 f3, .int .i64 f4] 95 (0, 0)) ∧ w0.heap.size ≤ g ∧ Kd.C k53 w0 A0 f0.length f0
theorem IsS95.grown {w0 W : World} {g : Nat} {f0 : List (S53)} {f1 : Int} {f2 : Int} {f3 : Int} {f4 : Int} {W1 : World} {row : Option Nat} (h : IsS95 w0 W g f0 f1 f2 f3 f4) (hw : W.grownBy W1 row) (hne : some g ≠ row) : IsS95 w0 W1 g f0 f1 f2 f3 f4 := by
 obtain ⟨A0, c0, hb, hg, hr0⟩ := h
 exact ⟨A0, c0, z48 hb hw hne, hg, hr0⟩
theorem IsS95.below {w0 W : World} {g : Nat} {f0 : List (S53)} {f1 : Int} {f2 : Int} {f3 : Int} {f4 : Int} {W1 : World} (h : IsS95 w0 W g f0 f1 f2 f3 f4) (hw : Below W.heap.size W W1) : IsS95 w0 W1 g f0 f1 f2 f3 f4 := h.grown (z74 hw none) (by simp)
theorem IsS95.alloc {w0 W : World} {g : Nat} {f0 : List (S53)} {f1 : Int} {f2 : Int} {f3 : Int} {f4 : Int} (h : IsS95 w0 W g f0 f1 f2 f3 f4) (o : Obj) : IsS95 w0 (W.alloc o) g f0 f1 f2 f3 f4 := h.below (z04 (Below.refl _ _) o)
theorem IsS95.drewN {w0 W : World} {g : Nat} {f0 : List (S53)} {f1 : Int} {f2 : Int} {f3 : Int} {f4 : Int} (h : IsS95 w0 W g f0 f1 f2 f3 f4) (m : Nat) : IsS95 w0 (W.drewN m) g f0 f1 f2 f3 f4 := h
theorem IsS95.drew {w0 W : World} {g : Nat} {f0 : List (S53)} {f1 : Int} {f2 : Int} {f3 : Int} {f4 : Int} (h : IsS95 w0 W g f0 f1 f2 f3 f4) : IsS95 w0 W.drew g f0 f1 f2 f3 f4 := h
theorem IsS95.apart {w0 W : World} {g : Nat} {f0 : List (S53)} {f1 : Int} {f2 : Int} {f3 : Int} {f4 : Int} {α : Type} {d : Kd α} {e : Nat} {base : Nat} {ok : Nat → Prop} {v : Value} {xs : List α} (h : IsS95 w0 W g f0 f1 f2 f3 f4) (ho : d.R e W base ok v xs) (ht : ∀ q, q ∈ e :: d.E → q ≠ 95) : d.R e W base (fun k => ok k ∧ k ≠ g) v xs := by
 obtain ⟨A0, c0, hb, hg, hr0⟩ := h
 exact Kd.R_types ho hb ht
theorem IsS95.own_ne {w0 W : World} {g : Nat} {f0 : List (S53)} {f1 : Int} {f2 : Int} {f3 : Int} {f4 : Int} {α : Type} {d : Kd α} {e : Nat} {base : Nat} {ok : Nat → Prop} {v : Value} {xs : List α} (h : IsS95 w0 W g f0 f1 f2 f3 f4) (ho : d.R e W base ok v xs) (ht : e ≠ 95) : some g ≠ v.ownBlock := by
 obtain ⟨A0, c0, hb, hg, hr0⟩ := h
 exact Kd.R_ne ho hb ht
theorem IsS95.ge {w0 W : World} {g : Nat} {f0 : List (S53)} {f1 : Int} {f2 : Int} {f3 : Int} {f4 : Int} (h : IsS95 w0 W g f0 f1 f2 f3 f4) : w0.heap.size ≤ g := by
 obtain ⟨A0, c0, hb, hg, hr0⟩ := h
 exact hg
theorem z29 {W : World} {g : Nat} {A0 : Option Addr} {c0 : Nat} {f0 : List (S53)} {f1 : Int} {f2 : Int} {f3 : Int} {f4 : Int} (h : W.heap[g]? = some (.cells #[.slice A0 f0.length c0, .int .i64 f1, .int .i64 f2, .int .i64 f3, .int .i64 f4] 95 (0, 0))) : W.cell? ⟨g, 0, none⟩ = some (.slice A0 f0.length c0) := (z03 h 0).trans rfl
theorem z2a {W : World} {g : Nat} {A0 : Option Addr} {c0 : Nat} {f0 : List (S53)} {f1 : Int} {f2 : Int} {f3 : Int} {f4 : Int} (h : W.heap[g]? = some (.cells #[.slice A0 f0.length c0, .int .i64 f1, .int .i64 f2, .int .i64 f3, .int .i64 f4] 95 (0, 0))) : W.cell? ⟨g, 1, none⟩ = some (.int .i64 f1) := (z03 h 1).trans rfl
theorem IsS95.set_1 {w0 W : World} {g : Nat} {f0 : List (S53)} {f1 : Int} {f2 : Int} {f3 : Int} {f4 : Int} (h : IsS95 w0 W g f0 f1 f2 f3 f4) (x : Int) : IsS95 w0 (W.setCell ⟨g, 1, none⟩ (.int .i64 x)) g f0 x f2 f3 f4 := by
 obtain ⟨A0, c0, hb, hg, hr0⟩ := h
 exact ⟨A0, c0, by simpa using z65 hb 1 (.int .i64 x), hg, hr0⟩
theorem z2b {W : World} {g : Nat} {A0 : Option Addr} {c0 : Nat} {f0 : List (S53)} {f1 : Int} {f2 : Int} {f3 : Int} {f4 : Int} (h : W.heap[g]? = some (.cells #[.slice A0 f0.length c0, .int .i64 f1, .int .i64 f2, .int .i64 f3, .int .i64 f4] 95 (0, 0))) : W.cell? ⟨g, 2, none⟩ = some (.int .i64 f2) := (z03 h 2).trans rfl
theorem IsS95.set_2 {w0 W : World} {g : Nat} {f0 : List (S53)} {f1 : Int} {f2 : Int} {f3 : Int} {f4 : Int} (h : IsS95 w0 W g f0 f1 f2 f3 f4) (x : Int) : IsS95 w0 (W.setCell ⟨g, 2, none⟩ (.int .i64 x)) g f0 f1 x f3 f4 := by
 obtain ⟨A0, c0, hb, hg, hr0⟩ := h
 exact ⟨A0, c0, by simpa using z65 hb 2 (.int .i64 x), hg, hr0⟩
theorem z2d {W : World} {g : Nat} {A0 : Option Addr} {c0 : Nat} {f0 : List (S53)} {f1 : Int} {f2 : Int} {f3 : Int} {f4 : Int} (h : W.heap[g]? = some (.cells #[.slice A0 f0.length c0, .int .i64 f1, .int .i64 f2, .int .i64 f3, .int .i64 f4] 95 (0, 0))) : W.cell? ⟨g, 3, none⟩ = some (.int .i64 f3) := (z03 h 3).trans rfl
theorem IsS95.set_3 {w0 W : World} {g : Nat} {f0 : List (S53)} {f1 : Int} {f2 : Int} {f3 : Int} {f4 : Int} (h : IsS95 w0 W g f0 f1 f2 f3 f4) (x : Int) : IsS95 w0 (W.setCell ⟨g, 3, none⟩ (.int .i64 x)) g f0 f1 f2 x f4 := by
 obtain ⟨A0, c0, hb, hg, hr0⟩ := h
 exact ⟨A0, c0, by simpa using z65 hb 3 (.int .i64 x), hg, hr0⟩
theorem z2c {W : World} {g : Nat} {A0 : Option Addr} {c0 : Nat} {f0 : List (S53)} {f1 : Int} {f2 : Int} {f3 : Int} {f4 : Int} (h : W.heap[g]? = some (.cells #[.slice A0 f0.length c0, .int .i64 f1, .int .i64 f2, .int .i64 f3, .int .i64 f4] 95 (0, 0))) : W.cell? ⟨g, 4, none⟩ = some (.int .i64 f4) := (z03 h 4).trans rfl
theorem IsS95.set_4 {w0 W : World} {g : Nat} {f0 : List (S53)} {f1 : Int} {f2 : Int} {f3 : Int} {f4 : Int} (h : IsS95 w0 W g f0 f1 f2 f3 f4) (x : Int) : IsS95 w0 (W.setCell ⟨g, 4, none⟩ (.int .i64 x)) g f0 f1 f2 f3 x := by
 obtain ⟨A0, c0, hb, hg, hr0⟩ := h
 exact ⟨A0, c0, by simpa using z65 hb 4 (.int .i64 x), hg, hr0⟩
def z1c.f (s0_0 : List (S53)) (s0_1 : Int) (s0_2 : Int) (s0_3 : Int) (s0_4 : Int) (a1 : Int) : Option (Int × ByteArray × Int × Int × Int × Int) := if s0_3 = 0 then (if (wrap64 (s0_1 + a1)) ≥ (s0_0.length : Int) then (some (0, (⟨#[]⟩ : ByteArray), s0_1, s0_2, s0_3, s0_4)) else (if 0 ≤ (wrap64 (s0_1 + a1)) then (if (wrap64 (s0_1 + a1)) < (s0_0.length : Int) then (some ((z5k s0_0 (wrap64 (s0_1 + a1))).f0, (z5k s0_0 (wrap64 (s0_1 + a1))).f1, s0_1, s0_2, s0_3, s0_4)) else (none)) else (none))) else (some (0, (⟨#[]⟩ : ByteArray), s0_1, s0_2, s0_3, s0_4))
set_option maxHeartbeats 8000000 in
set_option maxRecDepth 100000 in
theorem z1c.calls (g : Nat) (s0_0 : List (S53)) (s0_1 : Int) (s0_2 : Int) (s0_3 : Int) (s0_4 : Int) (a1 : Int) (r1 : Int) (r2 : ByteArray) (r3 : Int) (r4 : Int) (r5 : Int) (r6 : Int) (w0 w : World) (hI : IsS95 w0 w g s0_0 s0_1 s0_2 s0_3 s0_4) (hB : Below w0.heap.size w0 w) (h : z1c.f s0_0 s0_1 s0_2 s0_3 s0_4 a1 = some (r1, r2, r3, r4, r5, r6)) :
 Calls Tryz.prog 56 #[.pointer (some ⟨g, 0, none⟩), .int .i64 a1] w fun e w' => e = .returned (.tuple #[.int .i64 r1, .string r2]) ∧ IsS95 w0 w' g s0_0 r3 r4 r5 r6 ∧ Below w0.heap.size w0 w' ∧ z08 w w' g none := by
 have HI0 := z00.mk hI
 have HK := z00.mk (z08.refl w g none)
 have HL := z00.mk hB.size
 clear hI
 have HW0 := z00.mk hB.size
 have HB := z00.mk hB
 clear hB
 have H : (if s0_3 = 0 then (if (wrap64 (s0_1 + a1)) ≥ (s0_0.length : Int) then (some (0, (⟨#[]⟩ : ByteArray), s0_1, s0_2, s0_3, s0_4)) else (if 0 ≤ (wrap64 (s0_1 + a1)) then (if (wrap64 (s0_1 + a1)) < (s0_0.length : Int) then (some ((z5k s0_0 (wrap64 (s0_1 + a1))).f0, (z5k s0_0 (wrap64 (s0_1 + a1))).f1, s0_1, s0_2, s0_3, s0_4)) else (none)) else (none))) else (some (0, (⟨#[]⟩ : ByteArray), s0_1, s0_2, s0_3, s0_4))) = some (r1, r2, r3, r4, r5, r6) := h
 clear h
 by_cases c3 : s0_3 = 0
 · rw [if_pos c3] at H
   have c3b0 : (s0_3 == 0) = true := beq_iff_eq.mpr c3
   have c3b1 : (s0_3 != 0) = false := bne_eq_false_iff_eq.mpr c3
   clear c3
   by_cases c4 : (wrap64 (s0_1 + a1)) ≥ (s0_0.length : Int)
   · rw [if_pos c4] at H
     have c4b0 : decide ((s0_0.length : Int) ≤ (wrap64 (s0_1 + a1))) = true := decide_eq_true c4
     clear c4
     simp only [Option.some.injEq, Prod.mk.injEq] at H
     obtain ⟨rfl, rfl, rfl, rfl, rfl, rfl⟩ := H
     obtain ⟨ASz5_0, cSz5_0, HGz5, hgz5, HSz5_0⟩ := HI0.out
     have hcz5_0 := z29 HGz5
     have hcz5_1 := z2a HGz5
     have hcz5_2 := z2b HGz5
     have hcz5_3 := z2d HGz5
     have hcz5_4 := z2c HGz5
     have hfz5_1 := z02 HGz5 1
     have hfz5_2 := z02 HGz5 2
     have hfz5_3 := z02 HGz5 3
     have hfz5_4 := z02 HGz5 4
     clear HGz5 hgz5
     go_enter Tryz.func56, Tryz.ntmps56
     go_wp2
     repeat (go_quiet (fail); try go_wp2)
     go_ret2
     exact ⟨by first | rfl | (simp [z0n, z0o] <;> rfl) | (simp [*, z0n, z0o] <;> rfl), by repeat (first | (with_reducible first | exact HI0.out | apply IsS95.alloc | apply IsS95.drewN | apply IsS95.drew | apply IsS95.set_1 | apply IsS95.set_2 | apply IsS95.set_3 | apply IsS95.set_4) | exact HI0.out), by repeat (first | (with_reducible first | exact HB.out | apply z04 | apply z01 | apply z05 | refine z07 ?_ (IsS95.ge HI0.out)) | exact HB.out), by repeat (first | (with_reducible first | exact HK.out | apply z08.set_ | apply z0g | apply z0m | apply z0e) | exact HK.out)⟩
   · rw [if_neg c4] at H
     have c4b0 : decide ((s0_0.length : Int) ≤ (wrap64 (s0_1 + a1))) = false := decide_eq_false c4
     clear c4
     obtain ⟨ji6, hji6⟩ : ∃ j_ : Int, (wrap64 (s0_1 + a1)) = j_ := ⟨_, rfl⟩
     replace H : (if 0 ≤ (ji6) then (if (ji6) < (s0_0.length : Int) then (some ((z5k s0_0 (ji6)).f0, (z5k s0_0 (ji6)).f1, s0_1, s0_2, s0_3, s0_4)) else (none)) else (none)) = some (r1, r2, r3, r4, r5, r6) := by first | (rw [hji6] at H; exact H) | (simp only [hji6] at H ⊢; exact H)
     (try rw [hji6] at c4b0)
     have hji6w : (IntKind.i64.wrap (s0_1 + a1)) = ji6 := (i64_w _).trans hji6
     by_cases c7 : 0 ≤ (ji6)
     · rw [if_pos c7] at H
       have c7b0 : decide (0 ≤ (ji6)) = true := decide_eq_true c7
       clear c7
       by_cases c8 : (ji6) < (s0_0.length : Int)
       · rw [if_pos c8] at H
         have c8b0 : decide ((ji6) < (s0_0.length : Int)) = true := decide_eq_true c8
         clear c8
         simp only [Option.some.injEq, Prod.mk.injEq] at H
         obtain ⟨rfl, rfl, rfl, rfl, rfl, rfl⟩ := H
         obtain ⟨ASz9_0, cSz9_0, HGz9, hgz9, HSz9_0⟩ := HI0.out
         have hcz9_0 := z29 HGz9
         have hcz9_1 := z2a HGz9
         have hcz9_2 := z2b HGz9
         have hcz9_3 := z2d HGz9
         have hcz9_4 := z2c HGz9
         have hfz9_1 := z02 HGz9 1
         have hfz9_2 := z02 HGz9 2
         have hfz9_3 := z02 HGz9 3
         have hfz9_4 := z02 HGz9 4
         clear HGz9 hgz9
         have p272 : 0 ≤ ((ji6) : Int) := of_decide_eq_true (by first | (with_reducible assumption) | assumption)
         have q272 : (ji6) < (s0_0.length : Int) := of_decide_eq_true (by first | (with_reducible assumption) | assumption)
         obtain ⟨ad272, e272, hx272_0, hx272_1, hx272_2⟩ := zhc HSz9_0 (ji6) p272 q272
         cases e272
         replace hx272_0 := z2i HB.out hx272_0
         replace hx272_1 := z2i HB.out hx272_1
         replace hx272_2 := z2i HB.out hx272_2
         replace p272 := eq_true p272
         replace q272 := eq_true q272
         have p273 : 0 ≤ ((ji6) : Int) := of_decide_eq_true (by first | (with_reducible assumption) | assumption)
         have q273 : (ji6) < (s0_0.length : Int) := of_decide_eq_true (by first | (with_reducible assumption) | assumption)
         obtain ⟨ad273, e273, hx273_0, hx273_1, hx273_2⟩ := zhc HSz9_0 (ji6) p273 q273
         obtain rfl : ad272 = ad273 := (by injection e273)
         replace hx273_0 := z2i HB.out hx273_0
         replace hx273_1 := z2i HB.out hx273_1
         replace hx273_2 := z2i HB.out hx273_2
         replace p273 := eq_true p273
         replace q273 := eq_true q273
         go_enter Tryz.func56, Tryz.ntmps56
         go_wp2
         repeat (go_quiet (fail); try go_wp2)
         go_ret2
         exact ⟨by first | rfl | (simp [z0n, z0o] <;> rfl) | (simp only [← hji6]; first | rfl | (simp [z0n, z0o] <;> rfl)) | (simp [*, z0n, z0o] <;> rfl), by repeat (first | (with_reducible first | exact HI0.out | apply IsS95.alloc | apply IsS95.drewN | apply IsS95.drew | apply IsS95.set_1 | apply IsS95.set_2 | apply IsS95.set_3 | apply IsS95.set_4) | exact HI0.out), by repeat (first | (with_reducible first | exact HB.out | apply z04 | apply z01 | apply z05 | refine z07 ?_ (IsS95.ge HI0.out)) | exact HB.out), by repeat (first | (with_reducible first | exact HK.out | apply z08.set_ | apply z0g | apply z0m | apply z0e) | exact HK.out)⟩
       · rw [if_neg c8] at H
         exact absurd H (by simp)
     · rw [if_neg c7] at H
       exact absurd H (by simp)
 · rw [if_neg c3] at H
   have c3b0 : (s0_3 == 0) = false := beq_eq_false_iff_ne.mpr c3
   have c3b1 : (s0_3 != 0) = true := bne_iff_ne.mpr c3
   simp only [Option.some.injEq, Prod.mk.injEq] at H
   obtain ⟨rfl, rfl, rfl, rfl, rfl, rfl⟩ := H
   obtain ⟨ASz10_0, cSz10_0, HGz10, hgz10, HSz10_0⟩ := HI0.out
   have hcz10_0 := z29 HGz10
   have hcz10_1 := z2a HGz10
   have hcz10_2 := z2b HGz10
   have hcz10_3 := z2d HGz10
   have hcz10_4 := z2c HGz10
   have hfz10_1 := z02 HGz10 1
   have hfz10_2 := z02 HGz10 2
   have hfz10_3 := z02 HGz10 3
   have hfz10_4 := z02 HGz10 4
   clear HGz10 hgz10
   go_enter Tryz.func56, Tryz.ntmps56
   go_wp2
   repeat (go_quiet (fail); try go_wp2)
   go_ret2
   exact ⟨by first | rfl | (simp [z0n, z0o] <;> rfl) | (simp [*, z0n, z0o] <;> rfl), by repeat (first | (with_reducible first | exact HI0.out | apply IsS95.alloc | apply IsS95.drewN | apply IsS95.drew | apply IsS95.set_1 | apply IsS95.set_2 | apply IsS95.set_3 | apply IsS95.set_4) | exact HI0.out), by repeat (first | (with_reducible first | exact HB.out | apply z04 | apply z01 | apply z05 | refine z07 ?_ (IsS95.ge HI0.out)) | exact HB.out), by repeat (first | (with_reducible first | exact HK.out | apply z08.set_ | apply z0g | apply z0m | apply z0e) | exact HK.out)⟩

def z0c.f (s0_0 : List (S53)) (s0_1 : Int) (s0_2 : Int) (s0_3 : Int) (s0_4 : Int) (a1 : Int) (a2 : Int) (a3 : ByteArray) : Option (Bool × Int × Int × Int × Int) := (z1c.f s0_0 s0_1 s0_2 s0_3 s0_4 a1).bind fun bt274 => (if bt274.1 = a2 then (some ((bt274.2.1.toList == a3.toList), bt274.2.2.1, bt274.2.2.2.1, bt274.2.2.2.2.1, bt274.2.2.2.2.2)) else (some (false, bt274.2.2.1, bt274.2.2.2.1, bt274.2.2.2.2.1, bt274.2.2.2.2.2)))
set_option maxHeartbeats 8000000 in
set_option maxRecDepth 100000 in
theorem z0c.calls (g : Nat) (s0_0 : List (S53)) (s0_1 : Int) (s0_2 : Int) (s0_3 : Int) (s0_4 : Int) (a1 : Int) (a2 : Int) (a3 : ByteArray) (r1 : Bool) (r2 : Int) (r3 : Int) (r4 : Int) (r5 : Int) (w0 w : World) (hI : IsS95 w0 w g s0_0 s0_1 s0_2 s0_3 s0_4) (hB : Below w0.heap.size w0 w) (h : z0c.f s0_0 s0_1 s0_2 s0_3 s0_4 a1 a2 a3 = some (r1, r2, r3, r4, r5)) :
 Calls Tryz.prog 55 #[.pointer (some ⟨g, 0, none⟩), .int .i64 a1, .int .i64 a2, .string a3] w fun e w' => e = .returned (.bool r1) ∧ IsS95 w0 w' g s0_0 r2 r3 r4 r5 ∧ Below w0.heap.size w0 w' ∧ z08 w w' g none := by
 have HI0 := z00.mk hI
 have HK := z00.mk (z08.refl w g none)
 have HL := z00.mk hB.size
 clear hI
 have HW0 := z00.mk hB.size
 have HB := z00.mk hB
 clear hB
 have H : ((z1c.f s0_0 s0_1 s0_2 s0_3 s0_4 a1).bind fun bt274 => (if bt274.1 = a2 then (some ((bt274.2.1.toList == a3.toList), bt274.2.2.1, bt274.2.2.2.1, bt274.2.2.2.2.1, bt274.2.2.2.2.2)) else (some (false, bt274.2.2.1, bt274.2.2.2.1, bt274.2.2.2.2.1, bt274.2.2.2.2.2)))) = some (r1, r2, r3, r4, r5) := h
 clear h
 replace H := Option.bind_eq_some_iff.mp H
 obtain ⟨⟨t274, t275, t276, t277, t278, t279⟩, A50, H⟩ := H
 replace H : (if t274 = a2 then (some ((t275.toList == a3.toList), t276, t277, t278, t279)) else (some (false, t276, t277, t278, t279))) = some (r1, r2, r3, r4, r5) := H
 have A5 := z00.mk A50
 clear A50
 by_cases c6 : t274 = a2
 · rw [if_pos c6] at H
   have c6b0 : (t274 == a2) = true := beq_iff_eq.mpr c6
   have c6b1 : (t274 != a2) = false := bne_eq_false_iff_eq.mpr c6
   clear c6
   simp only [Option.some.injEq, Prod.mk.injEq] at H
   obtain ⟨rfl, rfl, rfl, rfl, rfl⟩ := H
   go_enter Tryz.func55, Tryz.ntmps55
   go_wp2_with (first | ((with_reducible refine z0s (f := 56) rfl ?_); refine z1r (some 14) rfl rfl Tryz.func56 (by kernel_rfl) rfl #[.pointer (some ⟨g, 0, none⟩), .int .i64 a1] rfl (by (try simp only [List.map_toArray, List.map_cons, List.map_nil]); first | done | rfl | (simp only [List.length_drop, List.length_take]; rfl)) ?_; (with_reducible refine (z1c.calls g s0_0 s0_1 s0_2 s0_3 s0_4 a1 t274 t275 t276 t277 t278 t279 w0 _ ?side1 ?side2 A5.out).mono ?_); (case side1 => repeat (first | (with_reducible first | exact HI0.out | apply IsS95.alloc | apply IsS95.drewN | apply IsS95.drew | apply IsS95.set_1 | apply IsS95.set_2 | apply IsS95.set_3 | apply IsS95.set_4) | exact HI0.out)); (case side2 => repeat (first | (with_reducible first | exact HB.out | apply z04 | apply z01 | apply z05 | refine z07 ?_ (IsS95.ge HI0.out)) | exact HB.out)); rintro e w7 ⟨rfl, hi, hb, hk⟩; refine ⟨_, rfl, ?_⟩; have n0_ := z00.mk (z08.trans (by repeat (first | (with_reducible first | exact HK.out | apply z08.set_ | apply z0g | apply z0m | apply z0e) | exact HK.out)) hk (.inl rfl)); have n1_ := z00.mk (hb); have n2_ := z00.mk (hi); clear HK; clear HB; clear HI0; have HK := n0_; have HB := n1_; have HI0 := n2_; clear n0_ n1_ n2_; (try clear hb); (try clear hb2); (try clear hk); (try clear hi)))
   go_ret
   exact ⟨by first | rfl | (simp [z0n, z0o] <;> rfl) | (simp [*, z0n, z0o] <;> rfl), by repeat (first | (with_reducible first | exact HI0.out | apply IsS95.alloc | apply IsS95.drewN | apply IsS95.drew | apply IsS95.set_1 | apply IsS95.set_2 | apply IsS95.set_3 | apply IsS95.set_4) | exact HI0.out), by repeat (first | (with_reducible first | exact HB.out | apply z04 | apply z01 | apply z05 | refine z07 ?_ (IsS95.ge HI0.out)) | exact HB.out), by repeat (first | (with_reducible first | exact HK.out | apply z08.set_ | apply z0g | apply z0m | apply z0e) | exact HK.out)⟩
 · rw [if_neg c6] at H
   have c6b0 : (t274 == a2) = false := beq_eq_false_iff_ne.mpr c6
   have c6b1 : (t274 != a2) = true := bne_iff_ne.mpr c6
   simp only [Option.some.injEq, Prod.mk.injEq] at H
   obtain ⟨rfl, rfl, rfl, rfl, rfl⟩ := H
   go_enter Tryz.func55, Tryz.ntmps55
   go_wp2_with (first | ((with_reducible refine z0s (f := 56) rfl ?_); refine z1r (some 14) rfl rfl Tryz.func56 (by kernel_rfl) rfl #[.pointer (some ⟨g, 0, none⟩), .int .i64 a1] rfl (by (try simp only [List.map_toArray, List.map_cons, List.map_nil]); first | done | rfl | (simp only [List.length_drop, List.length_take]; rfl)) ?_; (with_reducible refine (z1c.calls g s0_0 s0_1 s0_2 s0_3 s0_4 a1 t274 t275 t276 t277 t278 t279 w0 _ ?side1 ?side2 A5.out).mono ?_); (case side1 => repeat (first | (with_reducible first | exact HI0.out | apply IsS95.alloc | apply IsS95.drewN | apply IsS95.drew | apply IsS95.set_1 | apply IsS95.set_2 | apply IsS95.set_3 | apply IsS95.set_4) | exact HI0.out)); (case side2 => repeat (first | (with_reducible first | exact HB.out | apply z04 | apply z01 | apply z05 | refine z07 ?_ (IsS95.ge HI0.out)) | exact HB.out)); rintro e w8 ⟨rfl, hi, hb, hk⟩; refine ⟨_, rfl, ?_⟩; have n0_ := z00.mk (z08.trans (by repeat (first | (with_reducible first | exact HK.out | apply z08.set_ | apply z0g | apply z0m | apply z0e) | exact HK.out)) hk (.inl rfl)); have n1_ := z00.mk (hb); have n2_ := z00.mk (hi); clear HK; clear HB; clear HI0; have HK := n0_; have HB := n1_; have HI0 := n2_; clear n0_ n1_ n2_; (try clear hb); (try clear hb2); (try clear hk); (try clear hi)))
   go_ret
   exact ⟨by first | rfl | (simp [z0n, z0o] <;> rfl) | (simp [*, z0n, z0o] <;> rfl), by repeat (first | (with_reducible first | exact HI0.out | apply IsS95.alloc | apply IsS95.drewN | apply IsS95.drew | apply IsS95.set_1 | apply IsS95.set_2 | apply IsS95.set_3 | apply IsS95.set_4) | exact HI0.out), by repeat (first | (with_reducible first | exact HB.out | apply z04 | apply z01 | apply z05 | refine z07 ?_ (IsS95.ge HI0.out)) | exact HB.out), by repeat (first | (with_reducible first | exact HK.out | apply z08.set_ | apply z0g | apply z0m | apply z0e) | exact HK.out)⟩
def z0i.f (s0_0 : List (S53)) (s0_1 : Int) (s0_2 : Int) (s0_3 : Int) (s0_4 : Int) (a1 : Int) (a2 : Int) : Option (Int × Int × Int × Int) := if s0_3 = 0 then (some (s0_1, s0_2, a1, a2)) else (some (s0_1, s0_2, s0_3, s0_4))
set_option maxHeartbeats 8000000 in
set_option maxRecDepth 100000 in
theorem z0i.calls (g : Nat) (s0_0 : List (S53)) (s0_1 : Int) (s0_2 : Int) (s0_3 : Int) (s0_4 : Int) (a1 : Int) (a2 : Int) (r1 : Int) (r2 : Int) (r3 : Int) (r4 : Int) (w0 w : World) (hI : IsS95 w0 w g s0_0 s0_1 s0_2 s0_3 s0_4) (hB : Below w0.heap.size w0 w) (h : z0i.f s0_0 s0_1 s0_2 s0_3 s0_4 a1 a2 = some (r1, r2, r3, r4)) :
 Calls Tryz.prog 58 #[.pointer (some ⟨g, 0, none⟩), .int .i64 a1, .int .i64 a2] w fun e w' => e = .returned (.tuple #[]) ∧ IsS95 w0 w' g s0_0 r1 r2 r3 r4 ∧ Below w0.heap.size w0 w' ∧ z08 w w' g none := by
 have HI0 := z00.mk hI
 have HK := z00.mk (z08.refl w g none)
 have HL := z00.mk hB.size
 clear hI
 have HW0 := z00.mk hB.size
 have HB := z00.mk hB
 clear hB
 have H : (if s0_3 = 0 then (some (s0_1, s0_2, a1, a2)) else (some (s0_1, s0_2, s0_3, s0_4))) = some (r1, r2, r3, r4) := h
 clear h
 by_cases c4 : s0_3 = 0
 · rw [if_pos c4] at H
   have c4b0 : (s0_3 == 0) = true := beq_iff_eq.mpr c4
   have c4b1 : (s0_3 != 0) = false := bne_eq_false_iff_eq.mpr c4
   clear c4
   simp only [Option.some.injEq, Prod.mk.injEq] at H
   obtain ⟨rfl, rfl, rfl, rfl⟩ := H
   obtain ⟨ASz5_0, cSz5_0, HGz5, hgz5, HSz5_0⟩ := HI0.out
   have hcz5_0 := z29 HGz5
   have hcz5_1 := z2a HGz5
   have hcz5_2 := z2b HGz5
   have hcz5_3 := z2d HGz5
   have hcz5_4 := z2c HGz5
   have hfz5_1 := z02 HGz5 1
   have hfz5_2 := z02 HGz5 2
   have hfz5_3 := z02 HGz5 3
   have hfz5_4 := z02 HGz5 4
   clear HGz5 hgz5
   go_enter Tryz.func58, Tryz.ntmps58
   go_wp2
   first | go_end0 | ((try simp only [Exit.inBlock, Exit.then]); refine bodyPost_ret (results_none rfl _ _ _) rfl ?_)
   exact ⟨by first | rfl | (simp [z0n, z0o] <;> rfl) | (simp [*, z0n, z0o] <;> rfl), by repeat (first | (with_reducible first | exact HI0.out | apply IsS95.alloc | apply IsS95.drewN | apply IsS95.drew | apply IsS95.set_1 | apply IsS95.set_2 | apply IsS95.set_3 | apply IsS95.set_4) | exact HI0.out), by repeat (first | (with_reducible first | exact HB.out | apply z04 | apply z01 | apply z05 | refine z07 ?_ (IsS95.ge HI0.out)) | exact HB.out), by repeat (first | (with_reducible first | exact HK.out | apply z08.set_ | apply z0g | apply z0m | apply z0e) | exact HK.out)⟩
 · rw [if_neg c4] at H
   have c4b0 : (s0_3 == 0) = false := beq_eq_false_iff_ne.mpr c4
   have c4b1 : (s0_3 != 0) = true := bne_iff_ne.mpr c4
   simp only [Option.some.injEq, Prod.mk.injEq] at H
   obtain ⟨rfl, rfl, rfl, rfl⟩ := H
   obtain ⟨ASz6_0, cSz6_0, HGz6, hgz6, HSz6_0⟩ := HI0.out
   have hcz6_0 := z29 HGz6
   have hcz6_1 := z2a HGz6
   have hcz6_2 := z2b HGz6
   have hcz6_3 := z2d HGz6
   have hcz6_4 := z2c HGz6
   have hfz6_1 := z02 HGz6 1
   have hfz6_2 := z02 HGz6 2
   have hfz6_3 := z02 HGz6 3
   have hfz6_4 := z02 HGz6 4
   clear HGz6 hgz6
   go_enter Tryz.func58, Tryz.ntmps58
   go_wp2
   first | go_end0 | ((try simp only [Exit.inBlock, Exit.then]); refine bodyPost_ret (results_none rfl _ _ _) rfl ?_)
   exact ⟨by first | rfl | (simp [z0n, z0o] <;> rfl) | (simp [*, z0n, z0o] <;> rfl), by repeat (first | (with_reducible first | exact HI0.out | apply IsS95.alloc | apply IsS95.drewN | apply IsS95.drew | apply IsS95.set_1 | apply IsS95.set_2 | apply IsS95.set_3 | apply IsS95.set_4) | exact HI0.out), by repeat (first | (with_reducible first | exact HB.out | apply z04 | apply z01 | apply z05 | refine z07 ?_ (IsS95.ge HI0.out)) | exact HB.out), by repeat (first | (with_reducible first | exact HK.out | apply z08.set_ | apply z0g | apply z0m | apply z0e) | exact HK.out)⟩
def z0t.f (s0_0 : List (S53)) (s0_1 : Int) (s0_2 : Int) (s0_3 : Int) (s0_4 : Int) : Option (Int × Int × Int × Int × Int) := if s0_1 < (s0_0.length : Int) then (if 0 ≤ s0_1 then (some ((z5k s0_0 s0_1).f2, s0_1, s0_2, s0_3, s0_4)) else (none)) else (some (s0_2, s0_1, s0_2, s0_3, s0_4))
set_option maxHeartbeats 8000000 in
set_option maxRecDepth 100000 in
theorem z0t.calls (g : Nat) (s0_0 : List (S53)) (s0_1 : Int) (s0_2 : Int) (s0_3 : Int) (s0_4 : Int) (r1 : Int) (r2 : Int) (r3 : Int) (r4 : Int) (r5 : Int) (w0 w : World) (hI : IsS95 w0 w g s0_0 s0_1 s0_2 s0_3 s0_4) (hB : Below w0.heap.size w0 w) (h : z0t.f s0_0 s0_1 s0_2 s0_3 s0_4 = some (r1, r2, r3, r4, r5)) :
 Calls Tryz.prog 59 #[.pointer (some ⟨g, 0, none⟩)] w fun e w' => e = .returned (.int .i64 r1) ∧ IsS95 w0 w' g s0_0 r2 r3 r4 r5 ∧ Below w0.heap.size w0 w' ∧ z08 w w' g none := by
 have HI0 := z00.mk hI
 have HK := z00.mk (z08.refl w g none)
 have HL := z00.mk hB.size
 clear hI
 have HW0 := z00.mk hB.size
 have HB := z00.mk hB
 clear hB
 have H : (if s0_1 < (s0_0.length : Int) then (if 0 ≤ s0_1 then (some ((z5k s0_0 s0_1).f2, s0_1, s0_2, s0_3, s0_4)) else (none)) else (some (s0_2, s0_1, s0_2, s0_3, s0_4))) = some (r1, r2, r3, r4, r5) := h
 clear h
 by_cases c2 : s0_1 < (s0_0.length : Int)
 · rw [if_pos c2] at H
   have c2b0 : decide (s0_1 < (s0_0.length : Int)) = true := decide_eq_true c2
   clear c2
   by_cases c3 : 0 ≤ s0_1
   · rw [if_pos c3] at H
     have c3b0 : decide (0 ≤ s0_1) = true := decide_eq_true c3
     clear c3
     simp only [Option.some.injEq, Prod.mk.injEq] at H
     obtain ⟨rfl, rfl, rfl, rfl, rfl⟩ := H
     obtain ⟨ASz4_0, cSz4_0, HGz4, hgz4, HSz4_0⟩ := HI0.out
     have hcz4_0 := z29 HGz4
     have hcz4_1 := z2a HGz4
     have hcz4_2 := z2b HGz4
     have hcz4_3 := z2d HGz4
     have hcz4_4 := z2c HGz4
     have hfz4_1 := z02 HGz4 1
     have hfz4_2 := z02 HGz4 2
     have hfz4_3 := z02 HGz4 3
     have hfz4_4 := z02 HGz4 4
     clear HGz4 hgz4
     have p280 : 0 ≤ (s0_1 : Int) := of_decide_eq_true (by first | (with_reducible assumption) | assumption)
     have q280 : s0_1 < (s0_0.length : Int) := of_decide_eq_true (by first | (with_reducible assumption) | assumption)
     obtain ⟨ad280, e280, hx280_0, hx280_1, hx280_2⟩ := zhc HSz4_0 s0_1 p280 q280
     cases e280
     replace hx280_0 := z2i HB.out hx280_0
     replace hx280_1 := z2i HB.out hx280_1
     replace hx280_2 := z2i HB.out hx280_2
     replace p280 := eq_true p280
     replace q280 := eq_true q280
     go_enter Tryz.func59, Tryz.ntmps59
     go_wp2
     repeat (go_quiet (fail); try go_wp2)
     go_ret
     exact ⟨by first | rfl | (simp [z0n, z0o] <;> rfl) | (simp [*, z0n, z0o] <;> rfl), by repeat (first | (with_reducible first | exact HI0.out | apply IsS95.alloc | apply IsS95.drewN | apply IsS95.drew | apply IsS95.set_1 | apply IsS95.set_2 | apply IsS95.set_3 | apply IsS95.set_4) | exact HI0.out), by repeat (first | (with_reducible first | exact HB.out | apply z04 | apply z01 | apply z05 | refine z07 ?_ (IsS95.ge HI0.out)) | exact HB.out), by repeat (first | (with_reducible first | exact HK.out | apply z08.set_ | apply z0g | apply z0m | apply z0e) | exact HK.out)⟩
   · rw [if_neg c3] at H
     exact absurd H (by simp)
 · rw [if_neg c2] at H
   have c2b0 : decide (s0_1 < (s0_0.length : Int)) = false := decide_eq_false c2
   clear c2
   simp only [Option.some.injEq, Prod.mk.injEq] at H
   obtain ⟨rfl, rfl, rfl, rfl, rfl⟩ := H
   obtain ⟨ASz5_0, cSz5_0, HGz5, hgz5, HSz5_0⟩ := HI0.out
   have hcz5_0 := z29 HGz5
   have hcz5_1 := z2a HGz5
   have hcz5_2 := z2b HGz5
   have hcz5_3 := z2d HGz5
   have hcz5_4 := z2c HGz5
   have hfz5_1 := z02 HGz5 1
   have hfz5_2 := z02 HGz5 2
   have hfz5_3 := z02 HGz5 3
   have hfz5_4 := z02 HGz5 4
   clear HGz5 hgz5
   go_enter Tryz.func59, Tryz.ntmps59
   go_wp2
   repeat (go_quiet (fail); try go_wp2)
   go_ret
   exact ⟨by first | rfl | (simp [z0n, z0o] <;> rfl) | (simp [*, z0n, z0o] <;> rfl), by repeat (first | (with_reducible first | exact HI0.out | apply IsS95.alloc | apply IsS95.drewN | apply IsS95.drew | apply IsS95.set_1 | apply IsS95.set_2 | apply IsS95.set_3 | apply IsS95.set_4) | exact HI0.out), by repeat (first | (with_reducible first | exact HB.out | apply z04 | apply z01 | apply z05 | refine z07 ?_ (IsS95.ge HI0.out)) | exact HB.out), by repeat (first | (with_reducible first | exact HK.out | apply z08.set_ | apply z0g | apply z0m | apply z0e) | exact HK.out)⟩
def z18.f (s0_0 : List (S53)) (s0_1 : Int) (s0_2 : Int) (s0_3 : Int) (s0_4 : Int) (a1 : ByteArray) : Option (Int × Int × Int × Int) := (z0c.f s0_0 s0_1 s0_2 s0_3 s0_4 0 4 a1).bind fun bt281 => (if bt281.1 = true then (some (wrap64 (bt281.2.1 + 1), bt281.2.2.1, bt281.2.2.2.1, bt281.2.2.2.2)) else ((z0t.f s0_0 bt281.2.1 bt281.2.2.1 bt281.2.2.2.1 bt281.2.2.2.2).bind fun bt286 => ((z0i.f s0_0 bt286.2.1 bt286.2.2.1 bt286.2.2.2.1 bt286.2.2.2.2 2 bt286.1).bind fun bt291 => (some (bt291.1, bt291.2.1, bt291.2.2.1, bt291.2.2.2)))))
set_option maxHeartbeats 8000000 in
set_option maxRecDepth 100000 in
theorem z18.calls (g : Nat) (s0_0 : List (S53)) (s0_1 : Int) (s0_2 : Int) (s0_3 : Int) (s0_4 : Int) (a1 : ByteArray) (r1 : Int) (r2 : Int) (r3 : Int) (r4 : Int) (w0 w : World) (hI : IsS95 w0 w g s0_0 s0_1 s0_2 s0_3 s0_4) (hB : Below w0.heap.size w0 w) (h : z18.f s0_0 s0_1 s0_2 s0_3 s0_4 a1 = some (r1, r2, r3, r4)) :
 Calls Tryz.prog 61 #[.pointer (some ⟨g, 0, none⟩), .string a1] w fun e w' => e = .returned (.tuple #[]) ∧ IsS95 w0 w' g s0_0 r1 r2 r3 r4 ∧ Below w0.heap.size w0 w' ∧ z08 w w' g none := by
 have HI0 := z00.mk hI
 have HK := z00.mk (z08.refl w g none)
 have HL := z00.mk hB.size
 clear hI
 have HW0 := z00.mk hB.size
 have HB := z00.mk hB
 clear hB
 have H : ((z0c.f s0_0 s0_1 s0_2 s0_3 s0_4 0 4 a1).bind fun bt281 => (if bt281.1 = true then (some (wrap64 (bt281.2.1 + 1), bt281.2.2.1, bt281.2.2.2.1, bt281.2.2.2.2)) else ((z0t.f s0_0 bt281.2.1 bt281.2.2.1 bt281.2.2.2.1 bt281.2.2.2.2).bind fun bt286 => ((z0i.f s0_0 bt286.2.1 bt286.2.2.1 bt286.2.2.2.1 bt286.2.2.2.2 2 bt286.1).bind fun bt291 => (some (bt291.1, bt291.2.1, bt291.2.2.1, bt291.2.2.2)))))) = some (r1, r2, r3, r4) := h
 clear h
 replace H := Option.bind_eq_some_iff.mp H
 obtain ⟨⟨t281, t282, t283, t284, t285⟩, A30, H⟩ := H
 replace H : (if t281 = true then (some (wrap64 (t282 + 1), t283, t284, t285)) else ((z0t.f s0_0 t282 t283 t284 t285).bind fun bt286 => ((z0i.f s0_0 bt286.2.1 bt286.2.2.1 bt286.2.2.2.1 bt286.2.2.2.2 2 bt286.1).bind fun bt291 => (some (bt291.1, bt291.2.1, bt291.2.2.1, bt291.2.2.2))))) = some (r1, r2, r3, r4) := H
 have A3 := z00.mk A30
 clear A30
 by_cases c4 : t281 = true
 · subst c4
   have H1 : (some (wrap64 (t282 + 1), t283, t284, t285)) = some (r1, r2, r3, r4) := by rw [if_pos rfl] at H; exact H
   clear H
   have H := H1
   clear H1
   simp only [Option.some.injEq, Prod.mk.injEq] at H
   obtain ⟨rfl, rfl, rfl, rfl⟩ := H
   go_enter Tryz.func61, Tryz.ntmps61
   go_wp2_with (first | ((with_reducible refine z0s (f := 55) rfl ?_); refine z1r (some 6) rfl rfl Tryz.func55 (by kernel_rfl) rfl #[.pointer (some ⟨g, 0, none⟩), .int .i64 0, .int .i64 4, .string a1] rfl (by (try simp only [List.map_toArray, List.map_cons, List.map_nil]); first | done | rfl | (simp only [List.length_drop, List.length_take]; rfl)) ?_; (with_reducible refine (z0c.calls g s0_0 s0_1 s0_2 s0_3 s0_4 0 4 a1 true t282 t283 t284 t285 w0 _ ?side1 ?side2 A3.out).mono ?_); (case side1 => repeat (first | (with_reducible first | exact HI0.out | apply IsS95.alloc | apply IsS95.drewN | apply IsS95.drew | apply IsS95.set_1 | apply IsS95.set_2 | apply IsS95.set_3 | apply IsS95.set_4) | exact HI0.out)); (case side2 => repeat (first | (with_reducible first | exact HB.out | apply z04 | apply z01 | apply z05 | refine z07 ?_ (IsS95.ge HI0.out)) | exact HB.out)); rintro e w5 ⟨rfl, hi, hb, hk⟩; refine ⟨_, rfl, ?_⟩; have n0_ := z00.mk (z08.trans (by repeat (first | (with_reducible first | exact HK.out | apply z08.set_ | apply z0g | apply z0m | apply z0e) | exact HK.out)) hk (.inl rfl)); have n1_ := z00.mk (hb); have n2_ := z00.mk (hi); clear HK; clear HB; clear HI0; have HK := n0_; have HB := n1_; have HI0 := n2_; clear n0_ n1_ n2_; (try clear hb); (try clear hb2); (try clear hk); (try clear hi); obtain ⟨ASz6_0, cSz6_0, HGz6, hgz6, HSz6_0⟩ := HI0.out; have hcz6_0 := z29 HGz6; have hcz6_1 := z2a HGz6; have hcz6_2 := z2b HGz6; have hcz6_3 := z2d HGz6; have hcz6_4 := z2c HGz6; have hfz6_1 := z02 HGz6 1; have hfz6_2 := z02 HGz6 2; have hfz6_3 := z02 HGz6 3; have hfz6_4 := z02 HGz6 4; clear HGz6 hgz6))
   first | go_end0 | ((try simp only [Exit.inBlock, Exit.then]); refine bodyPost_ret (results_none rfl _ _ _) rfl ?_)
   exact ⟨by first | rfl | (simp [z0n, z0o] <;> rfl) | (simp [*, z0n, z0o] <;> rfl), by repeat (first | (with_reducible first | exact HI0.out | apply IsS95.alloc | apply IsS95.drewN | apply IsS95.drew | apply IsS95.set_1 | apply IsS95.set_2 | apply IsS95.set_3 | apply IsS95.set_4) | exact HI0.out), by repeat (first | (with_reducible first | exact HB.out | apply z04 | apply z01 | apply z05 | refine z07 ?_ (IsS95.ge HI0.out)) | exact HB.out), by repeat (first | (with_reducible first | exact HK.out | apply z08.set_ | apply z0g | apply z0m | apply z0e) | exact HK.out)⟩
 · replace c4 := Bool.eq_false_iff.mpr c4
   subst c4
   have H1 : ((z0t.f s0_0 t282 t283 t284 t285).bind fun bt286 => ((z0i.f s0_0 bt286.2.1 bt286.2.2.1 bt286.2.2.2.1 bt286.2.2.2.2 2 bt286.1).bind fun bt291 => (some (bt291.1, bt291.2.1, bt291.2.2.1, bt291.2.2.2)))) = some (r1, r2, r3, r4) := by rw [if_neg (show ¬ (false = true) by decide)] at H; exact H
   clear H
   have H := H1
   clear H1
   replace H := Option.bind_eq_some_iff.mp H
   obtain ⟨⟨t286, t287, t288, t289, t290⟩, A70, H⟩ := H
   replace H : ((z0i.f s0_0 t287 t288 t289 t290 2 t286).bind fun bt291 => (some (bt291.1, bt291.2.1, bt291.2.2.1, bt291.2.2.2))) = some (r1, r2, r3, r4) := H
   have A7 := z00.mk A70
   clear A70
   replace H := Option.bind_eq_some_iff.mp H
   obtain ⟨⟨t291, t292, t293, t294⟩, A80, H⟩ := H
   replace H : (some (t291, t292, t293, t294)) = some (r1, r2, r3, r4) := H
   have A8 := z00.mk A80
   clear A80
   simp only [Option.some.injEq, Prod.mk.injEq] at H
   obtain ⟨rfl, rfl, rfl, rfl⟩ := H
   go_enter Tryz.func61, Tryz.ntmps61
   go_wp2_with (first | ((with_reducible refine z0s (f := 55) rfl ?_); refine z1r (some 6) rfl rfl Tryz.func55 (by kernel_rfl) rfl #[.pointer (some ⟨g, 0, none⟩), .int .i64 0, .int .i64 4, .string a1] rfl (by (try simp only [List.map_toArray, List.map_cons, List.map_nil]); first | done | rfl | (simp only [List.length_drop, List.length_take]; rfl)) ?_; (with_reducible refine (z0c.calls g s0_0 s0_1 s0_2 s0_3 s0_4 0 4 a1 false t282 t283 t284 t285 w0 _ ?side1 ?side2 A3.out).mono ?_); (case side1 => repeat (first | (with_reducible first | exact HI0.out | apply IsS95.alloc | apply IsS95.drewN | apply IsS95.drew | apply IsS95.set_1 | apply IsS95.set_2 | apply IsS95.set_3 | apply IsS95.set_4) | exact HI0.out)); (case side2 => repeat (first | (with_reducible first | exact HB.out | apply z04 | apply z01 | apply z05 | refine z07 ?_ (IsS95.ge HI0.out)) | exact HB.out)); rintro e w9 ⟨rfl, hi, hb, hk⟩; refine ⟨_, rfl, ?_⟩; have n0_ := z00.mk (z08.trans (by repeat (first | (with_reducible first | exact HK.out | apply z08.set_ | apply z0g | apply z0m | apply z0e) | exact HK.out)) hk (.inl rfl)); have n1_ := z00.mk (hb); have n2_ := z00.mk (hi); clear HK; clear HB; clear HI0; have HK := n0_; have HB := n1_; have HI0 := n2_; clear n0_ n1_ n2_; (try clear hb); (try clear hb2); (try clear hk); (try clear hi)) | ((with_reducible refine z0s (f := 59) rfl ?_); refine z1r (some 10) rfl rfl Tryz.func59 (by kernel_rfl) rfl #[.pointer (some ⟨g, 0, none⟩)] rfl (by (try simp only [List.map_toArray, List.map_cons, List.map_nil]); first | done | rfl | (simp only [List.length_drop, List.length_take]; rfl)) ?_; (with_reducible refine (z0t.calls g s0_0 t282 t283 t284 t285 t286 t287 t288 t289 t290 w0 _ ?side1 ?side2 A7.out).mono ?_); (case side1 => repeat (first | (with_reducible first | exact HI0.out | apply IsS95.alloc | apply IsS95.drewN | apply IsS95.drew | apply IsS95.set_1 | apply IsS95.set_2 | apply IsS95.set_3 | apply IsS95.set_4) | exact HI0.out)); (case side2 => repeat (first | (with_reducible first | exact HB.out | apply z04 | apply z01 | apply z05 | refine z07 ?_ (IsS95.ge HI0.out)) | exact HB.out)); rintro e w10 ⟨rfl, hi, hb, hk⟩; refine ⟨_, rfl, ?_⟩; have n0_ := z00.mk (z08.trans (by repeat (first | (with_reducible first | exact HK.out | apply z08.set_ | apply z0g | apply z0m | apply z0e) | exact HK.out)) hk (.inl rfl)); have n1_ := z00.mk (hb); have n2_ := z00.mk (hi); clear HK; clear HB; clear HI0; have HK := n0_; have HB := n1_; have HI0 := n2_; clear n0_ n1_ n2_; (try clear hb); (try clear hb2); (try clear hk); (try clear hi)) | ((with_reducible refine z0s (f := 58) rfl ?_); refine z1r (some 11) rfl rfl Tryz.func58 (by kernel_rfl) rfl #[.pointer (some ⟨g, 0, none⟩), .int .i64 2, .int .i64 t286] rfl (by (try simp only [List.map_toArray, List.map_cons, List.map_nil]); first | done | rfl | (simp only [List.length_drop, List.length_take]; rfl)) ?_; (with_reducible refine (z0i.calls g s0_0 t287 t288 t289 t290 2 t286 t291 t292 t293 t294 w0 _ ?side1 ?side2 A8.out).mono ?_); (case side1 => repeat (first | (with_reducible first | exact HI0.out | apply IsS95.alloc | apply IsS95.drewN | apply IsS95.drew | apply IsS95.set_1 | apply IsS95.set_2 | apply IsS95.set_3 | apply IsS95.set_4) | exact HI0.out)); (case side2 => repeat (first | (with_reducible first | exact HB.out | apply z04 | apply z01 | apply z05 | refine z07 ?_ (IsS95.ge HI0.out)) | exact HB.out)); rintro e w11 ⟨rfl, hi, hb, hk⟩; refine ⟨_, rfl, ?_⟩; have n0_ := z00.mk (z08.trans (by repeat (first | (with_reducible first | exact HK.out | apply z08.set_ | apply z0g | apply z0m | apply z0e) | exact HK.out)) hk (.inl rfl)); have n1_ := z00.mk (hb); have n2_ := z00.mk (hi); clear HK; clear HB; clear HI0; have HK := n0_; have HB := n1_; have HI0 := n2_; clear n0_ n1_ n2_; (try clear hb); (try clear hb2); (try clear hk); (try clear hi)))
   first | go_end0 | ((try simp only [Exit.inBlock, Exit.then]); refine bodyPost_ret (results_none rfl _ _ _) rfl ?_)
   exact ⟨by first | rfl | (simp [z0n, z0o] <;> rfl) | (simp [*, z0n, z0o] <;> rfl), by repeat (first | (with_reducible first | exact HI0.out | apply IsS95.alloc | apply IsS95.drewN | apply IsS95.drew | apply IsS95.set_1 | apply IsS95.set_2 | apply IsS95.set_3 | apply IsS95.set_4) | exact HI0.out), by repeat (first | (with_reducible first | exact HB.out | apply z04 | apply z01 | apply z05 | refine z07 ?_ (IsS95.ge HI0.out)) | exact HB.out), by repeat (first | (with_reducible first | exact HK.out | apply z08.set_ | apply z0g | apply z0m | apply z0e) | exact HK.out)⟩
def z0b.j0 : Nat → ByteArray → Bool → List (S53) → Int → Int → Int → Int → Option (ByteArray × Int × Int × Int × Int)
 | 0, _, _, _, _, _, _, _ => none
 | k + 1, x4, x15, x1000, x1001, x1002, x1003, x1004 => if x15 = true then ((z0t.f x1000 x1001 x1002 x1003 x1004).bind fun bt308 => ((z0i.f x1000 bt308.2.1 bt308.2.2.1 bt308.2.2.2.1 bt308.2.2.2.2 2 bt308.1).bind fun bt313 => (some ((⟨#[]⟩ : ByteArray), bt313.1, bt313.2.1, bt313.2.2.1, bt313.2.2.2)))) else (some (x4, wrap64 (x1001 + 1), x1002, x1003, x1004))
def z0b.f (k : Nat) (s0_0 : List (S53)) (s0_1 : Int) (s0_2 : Int) (s0_3 : Int) (s0_4 : Int) : Option (ByteArray × Int × Int × Int × Int) := (z1c.f s0_0 s0_1 s0_2 s0_3 s0_4 0).bind fun bt301 => (if bt301.1 = 1 then ((z16.f k bt301.2.1).bind fun t307 => (z0b.j0 k bt301.2.1 t307 s0_0 bt301.2.2.1 bt301.2.2.2.1 bt301.2.2.2.2.1 bt301.2.2.2.2.2)) else (z0b.j0 k bt301.2.1 true s0_0 bt301.2.2.1 bt301.2.2.2.1 bt301.2.2.2.2.1 bt301.2.2.2.2.2))
set_option maxHeartbeats 8000000 in
set_option maxRecDepth 100000 in
theorem z0b.calls (k : Nat) (g : Nat) (s0_0 : List (S53)) (s0_1 : Int) (s0_2 : Int) (s0_3 : Int) (s0_4 : Int) (r1 : ByteArray) (r2 : Int) (r3 : Int) (r4 : Int) (r5 : Int) (w0 w : World) (hI : IsS95 w0 w g s0_0 s0_1 s0_2 s0_3 s0_4) (hB : Below w0.heap.size w0 w) (h : z0b.f k s0_0 s0_1 s0_2 s0_3 s0_4 = some (r1, r2, r3, r4, r5)) :
 Calls Tryz.prog 91 #[.pointer (some ⟨g, 0, none⟩)] w fun e w' => e = .returned (.string r1) ∧ IsS95 w0 w' g s0_0 r2 r3 r4 r5 ∧ Below w0.heap.size w0 w' ∧ z08 w w' g none := by
 have HI0 := z00.mk hI
 have HK := z00.mk (z08.refl w g none)
 have HL := z00.mk hB.size
 clear hI
 have HW0 := z00.mk hB.size
 have HB := z00.mk hB
 clear hB
 have H : ((z1c.f s0_0 s0_1 s0_2 s0_3 s0_4 0).bind fun bt301 => (if bt301.1 = 1 then ((z16.f k bt301.2.1).bind fun t307 => (z0b.j0 k bt301.2.1 t307 s0_0 bt301.2.2.1 bt301.2.2.2.1 bt301.2.2.2.2.1 bt301.2.2.2.2.2)) else (z0b.j0 k bt301.2.1 true s0_0 bt301.2.2.1 bt301.2.2.2.1 bt301.2.2.2.2.1 bt301.2.2.2.2.2))) = some (r1, r2, r3, r4, r5) := h
 clear h
 replace H := Option.bind_eq_some_iff.mp H
 obtain ⟨⟨t301, t302, t303, t304, t305, t306⟩, A20, H⟩ := H
 replace H : (if t301 = 1 then ((z16.f k t302).bind fun t307 => (z0b.j0 k t302 t307 s0_0 t303 t304 t305 t306)) else (z0b.j0 k t302 true s0_0 t303 t304 t305 t306)) = some (r1, r2, r3, r4, r5) := H
 have A2 := z00.mk A20
 clear A20
 have HC3 := z00.mk H
 clear H
 go_enter Tryz.func91, Tryz.ntmps91
 go_upto_region 2 with (first | ((with_reducible refine z0s (f := 56) rfl ?_); refine z1r (some 7) rfl rfl Tryz.func56 (by kernel_rfl) rfl #[.pointer (some ⟨g, 0, none⟩), .int .i64 0] rfl (by (try simp only [List.map_toArray, List.map_cons, List.map_nil]); first | done | rfl | (simp only [List.length_drop, List.length_take]; rfl)) ?_; (with_reducible refine (z1c.calls g s0_0 s0_1 s0_2 s0_3 s0_4 0 t301 t302 t303 t304 t305 t306 w0 _ ?side1 ?side2 A2.out).mono ?_); (case side1 => repeat (first | (with_reducible first | exact HI0.out | apply IsS95.alloc | apply IsS95.drewN | apply IsS95.drew | apply IsS95.set_1 | apply IsS95.set_2 | apply IsS95.set_3 | apply IsS95.set_4) | exact HI0.out)); (case side2 => repeat (first | (with_reducible first | exact HB.out | apply z04 | apply z01 | apply z05 | refine z07 ?_ (IsS95.ge HI0.out)) | exact HB.out)); rintro e w4 ⟨rfl, hi, hb, hk⟩; refine ⟨_, rfl, ?_⟩; have n0_ := z00.mk (z08.trans (by repeat (first | (with_reducible first | exact HK.out | apply z08.set_ | apply z0g | apply z0m | apply z0e) | exact HK.out)) hk (.inl rfl)); have n1_ := z00.mk (hb); have n2_ := z00.mk (hi); clear HK; clear HB; clear HI0; have HK := n0_; have HB := n1_; have HI0 := n2_; clear n0_ n1_ n2_; (try clear hb); (try clear hb2); (try clear hk); (try clear hi)))
 (try simp only [Act.put, List.setIfInBounds_toArray, List.set_cons_zero, List.set_cons_succ])
 go_cut [15] (fun v15 wc => ∃ (kq : Nat) (x15_2 : Bool), v15 = .bool x15_2 ∧ z00 (z0b.j0 kq t302 x15_2 s0_0 t303 t304 t305 t306 = some (r1, r2, r3, r4, r5)) ∧ z00 (kq ≤ k) ∧ z00 (IsS95 w0 wc g s0_0 t303 t304 t305 t306) ∧ z00 (z08 w wc g none) ∧ z00 (Below w0.heap.size w0 wc))
 case first =>
  have H := HC3.out
  clear HC3
  by_cases c5 : t301 = 1
  · rw [if_pos c5] at H
    have c5b0 : (t301 == 1) = true := beq_iff_eq.mpr c5
    have c5b1 : (t301 != 1) = false := bne_eq_false_iff_eq.mpr c5
    clear c5
    (first | rw [c5b0] | (simp only [i64_w, i32_w]; rw [c5b0]) | skip)
    replace H := Option.bind_eq_some_iff.mp H
    obtain ⟨t307, A60, H⟩ := H
    replace H : (z0b.j0 k t302 t307 s0_0 t303 t304 t305 t306) = some (r1, r2, r3, r4, r5) := H
    have A6 := z00.mk A60
    clear A60
    have H' := z00.mk H
    clear H
    go_wp2_with (first | (go_at_call 57; (with_reducible refine (z16.calls k t302 t307 _ A6.out).mono ?_); rintro e w7 ⟨rfl, hb⟩; have n0_ := z00.mk (IsS95.below (by repeat (first | (with_reducible first | exact HI0.out | apply IsS95.alloc | apply IsS95.drewN | apply IsS95.drew | apply IsS95.set_1 | apply IsS95.set_2 | apply IsS95.set_3 | apply IsS95.set_4) | exact HI0.out)) hb); have n1_ := z00.mk (z08.trans (by repeat (first | (with_reducible first | exact HK.out | apply z08.set_ | apply z0g | apply z0m | apply z0e) | exact HK.out)) (z08.of_below hb g none) (.inl rfl)); have n2_ := z00.mk (z0z (by repeat (first | (with_reducible first | exact HB.out | apply z04 | apply z01 | apply z05 | refine z07 ?_ (IsS95.ge HI0.out)) | exact HB.out)) hb); clear HI0; clear HK; clear HB; have HI0 := n0_; have HK := n1_; have HB := n2_; clear n0_ n1_ n2_; (try clear hb); (try clear hb2); (try clear hk); (try clear hi)))
    go_meet
    case rel => exact ⟨_, (t307), (by first | rfl | (simp; done) | (simp [*]; done)), H', ⟨by first | omega | exact Nat.le_refl _⟩, ⟨by repeat (first | (with_reducible first | exact HI0.out | apply IsS95.alloc | apply IsS95.drewN | apply IsS95.drew | apply IsS95.set_1 | apply IsS95.set_2 | apply IsS95.set_3 | apply IsS95.set_4) | exact HI0.out)⟩, ⟨by repeat (first | (with_reducible first | exact HK.out | apply z08.set_ | apply z0g | apply z0m | apply z0e) | exact HK.out)⟩, ⟨by repeat (first | (with_reducible first | exact HB.out | apply z04 | apply z01 | apply z05 | refine z07 ?_ (IsS95.ge HI0.out)) | exact HB.out)⟩⟩
  · rw [if_neg c5] at H
    have c5b0 : (t301 == 1) = false := beq_eq_false_iff_ne.mpr c5
    have c5b1 : (t301 != 1) = true := bne_iff_ne.mpr c5
    (first | rw [c5b0] | (simp only [i64_w, i32_w]; rw [c5b0]) | skip)
    have H' := z00.mk H
    clear H
    go_wp2
    go_meet
    case rel => exact ⟨_, (true), (by first | rfl | (simp; done) | (simp [*]; done)), H', ⟨by first | omega | exact Nat.le_refl _⟩, ⟨by repeat (first | (with_reducible first | exact HI0.out | apply IsS95.alloc | apply IsS95.drewN | apply IsS95.drew | apply IsS95.set_1 | apply IsS95.set_2 | apply IsS95.set_3 | apply IsS95.set_4) | exact HI0.out)⟩, ⟨by repeat (first | (with_reducible first | exact HK.out | apply z08.set_ | apply z0g | apply z0m | apply z0e) | exact HK.out)⟩, ⟨by repeat (first | (with_reducible first | exact HB.out | apply z04 | apply z01 | apply z05 | refine z07 ?_ (IsS95.ge HI0.out)) | exact HB.out)⟩⟩
 case rest =>
  clear HC3
  try clear p2
  try clear c5
  try clear c5b0
  try clear c5b1
  obtain ⟨kq, x15_2, rfl, HA, HJ2, HI0, HK, HB⟩ := hcut
  cases kq with
  | zero => exact absurd HA.out (by simp [z0b.j0])
  | succ kj2 =>
   have H := HA.out
   clear HA
   simp only [z0b.j0] at H
   by_cases c8 : x15_2 = true
   · subst c8
     have H1 : ((z0t.f s0_0 t303 t304 t305 t306).bind fun bt308 => ((z0i.f s0_0 bt308.2.1 bt308.2.2.1 bt308.2.2.2.1 bt308.2.2.2.2 2 bt308.1).bind fun bt313 => (some ((⟨#[]⟩ : ByteArray), bt313.1, bt313.2.1, bt313.2.2.1, bt313.2.2.2)))) = some (r1, r2, r3, r4, r5) := by rw [if_pos rfl] at H; exact H
     clear H
     have H := H1
     clear H1
     replace H := Option.bind_eq_some_iff.mp H
     obtain ⟨⟨t308, t309, t310, t311, t312⟩, A90, H⟩ := H
     replace H : ((z0i.f s0_0 t309 t310 t311 t312 2 t308).bind fun bt313 => (some ((⟨#[]⟩ : ByteArray), bt313.1, bt313.2.1, bt313.2.2.1, bt313.2.2.2))) = some (r1, r2, r3, r4, r5) := H
     have A9 := z00.mk A90
     clear A90
     replace H := Option.bind_eq_some_iff.mp H
     obtain ⟨⟨t313, t314, t315, t316⟩, A100, H⟩ := H
     replace H : (some ((⟨#[]⟩ : ByteArray), t313, t314, t315, t316)) = some (r1, r2, r3, r4, r5) := H
     have A10 := z00.mk A100
     clear A100
     simp only [Option.some.injEq, Prod.mk.injEq] at H
     obtain ⟨rfl, rfl, rfl, rfl, rfl⟩ := H
     go_wp2_with (first | ((with_reducible refine z0s (f := 59) rfl ?_); refine z1r (some 18) rfl rfl Tryz.func59 (by kernel_rfl) rfl #[.pointer (some ⟨g, 0, none⟩)] rfl (by (try simp only [List.map_toArray, List.map_cons, List.map_nil]); first | done | rfl | (simp only [List.length_drop, List.length_take]; rfl)) ?_; (with_reducible refine (z0t.calls g s0_0 t303 t304 t305 t306 t308 t309 t310 t311 t312 w0 _ ?side1 ?side2 A9.out).mono ?_); (case side1 => repeat (first | (with_reducible first | exact HI0.out | apply IsS95.alloc | apply IsS95.drewN | apply IsS95.drew | apply IsS95.set_1 | apply IsS95.set_2 | apply IsS95.set_3 | apply IsS95.set_4) | exact HI0.out)); (case side2 => repeat (first | (with_reducible first | exact HB.out | apply z04 | apply z01 | apply z05 | refine z07 ?_ (IsS95.ge HI0.out)) | exact HB.out)); rintro e w11 ⟨rfl, hi, hb, hk⟩; refine ⟨_, rfl, ?_⟩; have n0_ := z00.mk (z08.trans (by repeat (first | (with_reducible first | exact HK.out | apply z08.set_ | apply z0g | apply z0m | apply z0e) | exact HK.out)) hk (.inl rfl)); have n1_ := z00.mk (hb); have n2_ := z00.mk (hi); clear HK; clear HB; clear HI0; have HK := n0_; have HB := n1_; have HI0 := n2_; clear n0_ n1_ n2_; (try clear hb); (try clear hb2); (try clear hk); (try clear hi)) | ((with_reducible refine z0s (f := 58) rfl ?_); refine z1r (some 19) rfl rfl Tryz.func58 (by kernel_rfl) rfl #[.pointer (some ⟨g, 0, none⟩), .int .i64 2, .int .i64 t308] rfl (by (try simp only [List.map_toArray, List.map_cons, List.map_nil]); first | done | rfl | (simp only [List.length_drop, List.length_take]; rfl)) ?_; (with_reducible refine (z0i.calls g s0_0 t309 t310 t311 t312 2 t308 t313 t314 t315 t316 w0 _ ?side1 ?side2 A10.out).mono ?_); (case side1 => repeat (first | (with_reducible first | exact HI0.out | apply IsS95.alloc | apply IsS95.drewN | apply IsS95.drew | apply IsS95.set_1 | apply IsS95.set_2 | apply IsS95.set_3 | apply IsS95.set_4) | exact HI0.out)); (case side2 => repeat (first | (with_reducible first | exact HB.out | apply z04 | apply z01 | apply z05 | refine z07 ?_ (IsS95.ge HI0.out)) | exact HB.out)); rintro e w12 ⟨rfl, hi, hb, hk⟩; refine ⟨_, rfl, ?_⟩; have n0_ := z00.mk (z08.trans (by repeat (first | (with_reducible first | exact HK.out | apply z08.set_ | apply z0g | apply z0m | apply z0e) | exact HK.out)) hk (.inl rfl)); have n1_ := z00.mk (hb); have n2_ := z00.mk (hi); clear HK; clear HB; clear HI0; have HK := n0_; have HB := n1_; have HI0 := n2_; clear n0_ n1_ n2_; (try clear hb); (try clear hb2); (try clear hk); (try clear hi)))
     go_ret
     exact ⟨by first | rfl | (simp [z0n, z0o] <;> rfl) | (simp [*, z0n, z0o] <;> rfl), by repeat (first | (with_reducible first | exact HI0.out | apply IsS95.alloc | apply IsS95.drewN | apply IsS95.drew | apply IsS95.set_1 | apply IsS95.set_2 | apply IsS95.set_3 | apply IsS95.set_4) | exact HI0.out), by repeat (first | (with_reducible first | exact HB.out | apply z04 | apply z01 | apply z05 | refine z07 ?_ (IsS95.ge HI0.out)) | exact HB.out), by repeat (first | (with_reducible first | exact HK.out | apply z08.set_ | apply z0g | apply z0m | apply z0e) | exact HK.out)⟩
   · replace c8 := Bool.eq_false_iff.mpr c8
     subst c8
     have H1 : (some (t302, wrap64 (t303 + 1), t304, t305, t306)) = some (r1, r2, r3, r4, r5) := by rw [if_neg (show ¬ (false = true) by decide)] at H; exact H
     clear H
     have H := H1
     clear H1
     simp only [Option.some.injEq, Prod.mk.injEq] at H
     obtain ⟨rfl, rfl, rfl, rfl, rfl⟩ := H
     obtain ⟨ASz13_0, cSz13_0, HGz13, hgz13, HSz13_0⟩ := HI0.out
     have hcz13_0 := z29 HGz13
     have hcz13_1 := z2a HGz13
     have hcz13_2 := z2b HGz13
     have hcz13_3 := z2d HGz13
     have hcz13_4 := z2c HGz13
     have hfz13_1 := z02 HGz13 1
     have hfz13_2 := z02 HGz13 2
     have hfz13_3 := z02 HGz13 3
     have hfz13_4 := z02 HGz13 4
     clear HGz13 hgz13
     go_wp2
     go_ret
     exact ⟨by first | rfl | (simp [z0n, z0o] <;> rfl) | (simp [*, z0n, z0o] <;> rfl), by repeat (first | (with_reducible first | exact HI0.out | apply IsS95.alloc | apply IsS95.drewN | apply IsS95.drew | apply IsS95.set_1 | apply IsS95.set_2 | apply IsS95.set_3 | apply IsS95.set_4) | exact HI0.out), by repeat (first | (with_reducible first | exact HB.out | apply z04 | apply z01 | apply z05 | refine z07 ?_ (IsS95.ge HI0.out)) | exact HB.out), by repeat (first | (with_reducible first | exact HK.out | apply z08.set_ | apply z0g | apply z0m | apply z0e) | exact HK.out)⟩
def z6y.l0 : Nat → ByteArray → List ByteArray → Int → Int → Option (Int)
 | 0, _, _, _, _ => none
 | k + 1, x0, x3, x7, x8 => if x8 < x7 then (if 0 ≤ x8 then (if x8 < (x3.length : Int) then (if (rdOf ByteArray.empty x3 x8).toList = x0.toList then (some (wrap64 (x8 + 1))) else (z6y.l0 k x0 x3 x7 (wrap64 (x8 + 1)))) else (none)) else (none)) else (some 0)
end Go.Proofs.YthebhbomlllpeaaGreatDoor.X
