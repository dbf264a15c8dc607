/-
  ShowPaths: what the proof needs, put together by a program of this session (shake.py), part 6.
-/
import Derived.Test.YthebhbomlllpeaaGreatDoorCards
import Derived.Test.YthebhbomlllpeaaGreatDoorTie
import Derived.Test.YthebhbomlllpeaaGreatDoorProg
import Derived.Below
import Derived.Deep.Draws
import Derived.Deep.AppendLies
import Derived.Maps.AppendAt
import Derived.OwnWalk
import Derived.Laws.BytesArg
import Derived.Laws.MakeOwn
import Derived.Laws.OwnMore
import Derived.Deep.OwnRows
import Derived.Tactics
import Derived.Lib.ConvBytes
import Derived.Laws.Slices
import Derived.WalkKit
import Derived.KernelRfl
import Derived.RowKit3
import Derived.Deep.LoopGhost
import Derived.Deep.QuietTactic
import Derived.BigQuiet
import Derived.WideLaws
import Derived.Deep.DeepCutAuto
import Derived.Deep.CutBlock
import Derived.Deep.RegionHeld3
import Derived.Laws.Rows
import Derived.Lib.AppendStr
import Derived.ArgAppend
import Derived.Laws.IdiomCopy
import Derived.OrdersHeld
import Derived.Laws.BitsLemmas
import Derived.RowKit
import Derived.Lib.SmallJoins
import Derived.Lib.ItoaMem
import Derived.Laws.StructEq
import Derived.Test.YthebhbomlllpeaaGreatDoorRows
import Derived.Deep.Slices
import Derived.Deep.Fields
import Derived.ChangeSame
import Derived.ProofKit
import Derived.OpenShut
import Derived.Deep.DeepHandedRow
import Derived.Lib.LaidTab
import Derived.LaidMore
import Derived.Stop.LaidErr
import Derived.MakeChecks
import Derived.WalkLawsBesides
import Derived.StillTailTactics
import Derived.Laws.NewBlocks
import Derived.Shelf.Strings.Builder1
import Derived.Shelf.Strings.Builder2
import Derived.Shelf.Strings.OnBuilder
import Derived.Shelf.Small.Strs
import Derived.Shelf.Small.Wraps
import Derived.Shelf.Strings.BuilderF
import Derived.Shelf.Strings.BuilderK
import Derived.Shelf.Strings.Builder2Cap
import Derived.Shelf.Strconv.Itoa0
import Derived.Shelf.Strconv.Itoa1
import Derived.Shelf.LaysM
import Derived.Shelf.Strconv.Itoa2
import Derived.Shelf.Strconv.Itoa3
import Derived.Shelf.Strconv.Itoa4
import Derived.Shelf.Strconv.ParseIntEmpty
import Derived.Shelf.Strconv.Clone
import Derived.Shelf.Strconv.SyntaxError
import Derived.Shelf.LaysC
import Derived.Shelf.Strconv.ToError
import Derived.Shelf.Strconv.Lower
import Derived.Shelf.Strconv.ParseUint10
import Derived.Shelf.Strconv.ParseUint10Empty
import Derived.Shelf.Strconv.ParseUint10Any
import Derived.Shelf.Strconv.ParseInt10
import Derived.Shelf.Strconv.RangeError
import Derived.Shelf.Strconv.ToErrorRange
import Derived.Shelf.Strconv.ParseUintEmpty
import Derived.Shelf.Strconv.ParseUint10b64
import Derived.Shelf.Strconv.ParseUint10b32
import Derived.Shelf.Strconv.ParseUint10b16
import Derived.Shelf.Strconv.ParseUint10b8
import Derived.Shelf.Strconv.ParseUint10At
import Derived.Shelf.Strconv.ParseInt10At64
import Derived.Shelf.Strconv.ParseInt10At32
import Derived.Shelf.Strconv.ParseInt10At16
import Derived.Shelf.Strconv.ParseInt10At8
import Derived.Shelf.Strconv.ParseInt10All
import Derived.Shelf.Strconv.ParseIntPublic10
import Derived.Shelf.Strconv.ErrVarParseInt
import Derived.Ground.MpProg
import Derived.Shelf.Pu.ParseUintPublic10
import Derived.Shelf.Pu.ErrVarParseUint
import Derived.Shelf.Strings.Search1
import Derived.Shelf.Strings.Prefix
import Derived.Shelf.Bits.Mul64
import Derived.Shelf.Strings.Repeat
import Derived.Shelf.Strings.BuilderCap
import Derived.Lib.AtoiAllMem
import Derived.Lib.ParseIntB
import Derived.Lib.Hide
import Derived.Laws.Strings3
import Derived.Laws.Closers25
import Derived.Laws.Closers25b
import Derived.BigCall
import Derived.BigGuard
import Derived.Laws.RangeAny
import Derived.Laws.RangeString
import Derived.Lib.ParseIntBTie
import Init
import Derived.LoopN
import Derived.WalkMore
import Derived.Deep.MidRow
import Derived.Recover
import Derived.Deep.DrawnRows
import Derived.Test.YthebhbomlllpeaaGreatDoorZShowPaths5
namespace Go.Proofs.YthebhbomlllpeaaGreatDoor.X
open Go.RowKit Go.Proofs.YthebhbomlllpeaaGreatDoorW.PrintWords Go.Proofs.YthebhbomlllpeaaGreatDoorW.PrintLast Go.Proofs.YthebhbomlllpeaaGreatDoorW.PrintMore
attribute [local go_sem] max2_int min2_int max_two min_two max_three min_three max_four min_four
set_option linter.unusedVariables false
set_option linter.unusedSimpArgs false
def antecedentref07_run.l0 : Nat → ByteArray → Int → Bool → Int → Option (Int)
  | 0, _, _, _, _ => none
  | k + 1, x0, x1, x2, x7 => if (wrap64 (x1 + x7)) < (x0.size : Int) then (if 0 ≤ (wrap64 (x1 + x7)) then ((antecedentref07_sign.f (bt x0 (wrap64 (x1 + x7)))).bind fun t189 => (if t189 = true then (if x2 = true then (if (bt x0 (wrap64 (x1 + x7))) ≥ 65 then (if ((bt x0 (wrap64 (x1 + x7))) ≤ 90) then (some x7) else (antecedentref07_run.l0 k x0 x1 x2 (wrap64 (x7 + 1)))) else (antecedentref07_run.l0 k x0 x1 x2 (wrap64 (x7 + 1)))) else (antecedentref07_run.l0 k x0 x1 x2 (wrap64 (x7 + 1)))) else (some x7))) else (none)) else (some x7)
def antecedentref07_run.f (k : Nat) (a0 : ByteArray) (a1 : Int) (a2 : Bool) : Option (Int) := antecedentref07_run.l0 k a0 a1 a2 0
set_option maxHeartbeats 8000000 in
set_option maxRecDepth 100000 in
theorem antecedentref07_run.calls (k : Nat) (a0 : ByteArray) (a1 : Int) (a2 : Bool) (r : Int) (w : World) (h : antecedentref07_run.f k a0 a1 a2 = some r) :
    Calls Tryz.prog 98 #[.string a0, .int .i64 a1, .bool a2] w fun e w' => e = .returned (.int .i64 r) ∧ Drawn0 w w' := by
  have H : (antecedentref07_run.l0 k a0 a1 a2 0) = some r := h
  clear h
  have H' := Aside0.mk H
  clear H
  go_enter Tryz.func98, Tryz.ntmps98
  go_wp2
  go_loopg [7] k (fun kq v7 w' => ∃ (x7_1 : Int), v7 = .int .i64 x7_1 ∧ Aside0 (antecedentref07_run.l0 kq a0 a1 a2 x7_1 = some r) ∧ Aside0 (kq ≤ k) ∧ Drawn0 w w')
  case atStart => exact ⟨(0), (by first | rfl | (simp; done) | (simp [*]; done)), H', ⟨Nat.le_refl _⟩, by repeat (first | exact Drawn0.refl _ | apply Drawn0.step)⟩
  case round =>
    clear H'
    try clear p2
    obtain ⟨x7_1, rfl, HA, HK1, ⟨m1, rfl⟩⟩ := hrel
    cases gk with
    | zero => exact absurd HA.out (by simp [antecedentref07_run.l0])
    | succ k1 =>
      have H := HA.out
      clear HA
      simp only [antecedentref07_run.l0] at H
      by_cases c4 : (wrap64 (a1 + x7_1)) < (a0.size : Int)
      · rw [if_pos c4] at H
        have c4b0 : decide ((wrap64 (a1 + x7_1)) < (a0.size : Int)) = true := decide_eq_true c4
        clear c4
        obtain ⟨ji5, hji5⟩ : ∃ j_ : Int, (wrap64 (a1 + x7_1)) = j_ := ⟨_, rfl⟩
        replace H : (if 0 ≤ (ji5) then ((antecedentref07_sign.f (bt a0 (ji5))).bind fun t189 => (if t189 = true then (if a2 = true then (if (bt a0 (ji5)) ≥ 65 then (if ((bt a0 (ji5)) ≤ 90) then (some x7_1) else (antecedentref07_run.l0 k1 a0 a1 a2 (wrap64 (x7_1 + 1)))) else (antecedentref07_run.l0 k1 a0 a1 a2 (wrap64 (x7_1 + 1)))) else (antecedentref07_run.l0 k1 a0 a1 a2 (wrap64 (x7_1 + 1)))) else (some x7_1))) else (none)) = some r := by first | (rw [hji5] at H; exact H) | (simp only [hji5] at H ⊢; exact H)
        (try rw [hji5] at c4b0)
        have hji5w : (IntKind.i64.wrap (a1 + x7_1)) = ji5 := (i64_w _).trans hji5
        by_cases c6 : 0 ≤ (ji5)
        · rw [if_pos c6] at H
          have c6b0 : decide (0 ≤ (ji5)) = true := decide_eq_true c6
          clear c6
          replace H := Option.bind_eq_some_iff.mp H
          obtain ⟨t189, A80, H⟩ := H
          replace H : (if t189 = true then (if a2 = true then (if (bt a0 (ji5)) ≥ 65 then (if ((bt a0 (ji5)) ≤ 90) then (some x7_1) else (antecedentref07_run.l0 k1 a0 a1 a2 (wrap64 (x7_1 + 1)))) else (antecedentref07_run.l0 k1 a0 a1 a2 (wrap64 (x7_1 + 1)))) else (antecedentref07_run.l0 k1 a0 a1 a2 (wrap64 (x7_1 + 1)))) else (some x7_1)) = some r := H
          have A8 := Aside0.mk A80
          clear A80
          by_cases c9 : t189 = true
          · subst c9
            have H1 : (if a2 = true then (if (bt a0 (ji5)) ≥ 65 then (if ((bt a0 (ji5)) ≤ 90) then (some x7_1) else (antecedentref07_run.l0 k1 a0 a1 a2 (wrap64 (x7_1 + 1)))) else (antecedentref07_run.l0 k1 a0 a1 a2 (wrap64 (x7_1 + 1)))) else (antecedentref07_run.l0 k1 a0 a1 a2 (wrap64 (x7_1 + 1)))) = some r := by rw [if_pos rfl] at H; exact H
            clear H
            have H := H1
            clear H1
            by_cases c10 : a2 = true
            · subst c10
              have H1 : (if (bt a0 (ji5)) ≥ 65 then (if ((bt a0 (ji5)) ≤ 90) then (some x7_1) else (antecedentref07_run.l0 k1 a0 a1 true (wrap64 (x7_1 + 1)))) else (antecedentref07_run.l0 k1 a0 a1 true (wrap64 (x7_1 + 1)))) = some r := by rw [if_pos rfl] at H; exact H
              clear H
              have H := H1
              clear H1
              by_cases c12 : (bt a0 (ji5)) ≥ 65
              · rw [if_pos c12] at H
                have c12b0 : decide (65 ≤ (bt a0 (ji5))) = true := decide_eq_true c12
                clear c12
                by_cases c14 : ((bt a0 (ji5)) ≤ 90)
                · rw [if_pos c14] at H
                  have c14b0 : decide ((bt a0 (ji5)) ≤ 90) = true := decide_eq_true c14
                  clear c14
                  obtain rfl := Option.some.inj H
                  have p7 : 0 ≤ ((ji5) : Int) := of_decide_eq_true (by first | (with_reducible assumption) | assumption)
                  have q7 : (ji5) < (a0.size : Int) := of_decide_eq_true (by first | (with_reducible assumption) | assumption)
                  have hx7 := bt_at a0 (ji5)
                  replace p7 := eq_true p7
                  replace q7 := eq_true q7
                  go_wp2_with (first | (go_at_call 131; (with_reducible refine (antecedentref07_sign.calls (bt a0 (ji5)) true _ A8.out).mono ?_); rintro e w' ⟨rfl, ⟨nd, rfl⟩⟩; have p11 : 0 ≤ ((ji5) : Int) := of_decide_eq_true (by first | (with_reducible assumption) | assumption); have q11 : (ji5) < (a0.size : Int) := of_decide_eq_true (by first | (with_reducible assumption) | assumption); have hx11 := bt_at a0 (ji5); replace p11 := eq_true p11; replace q11 := eq_true q11; have p13 : 0 ≤ ((ji5) : Int) := of_decide_eq_true (by first | (with_reducible assumption) | assumption); have q13 : (ji5) < (a0.size : Int) := of_decide_eq_true (by first | (with_reducible assumption) | assumption); have hx13 := bt_at a0 (ji5); replace p13 := eq_true p13; replace q13 := eq_true q13))
                  go_ret
                  exact ⟨by first | rfl | (simp; done) | (simp only [← hji5] <;> (first | rfl | simp)) | (simp [*]; done), by repeat (first | exact Drawn0.refl _ | apply Drawn0.step)⟩
                · rw [if_neg c14] at H
                  have c14b0 : decide ((bt a0 (ji5)) ≤ 90) = false := decide_eq_false c14
                  clear c14
                  have H' := Aside0.mk H
                  clear H
                  have p7 : 0 ≤ ((ji5) : Int) := of_decide_eq_true (by first | (with_reducible assumption) | assumption)
                  have q7 : (ji5) < (a0.size : Int) := of_decide_eq_true (by first | (with_reducible assumption) | assumption)
                  have hx7 := bt_at a0 (ji5)
                  replace p7 := eq_true p7
                  replace q7 := eq_true q7
                  go_wp2_with (first | (go_at_call 131; (with_reducible refine (antecedentref07_sign.calls (bt a0 (ji5)) true _ A8.out).mono ?_); rintro e w' ⟨rfl, ⟨nd, rfl⟩⟩; have p11 : 0 ≤ ((ji5) : Int) := of_decide_eq_true (by first | (with_reducible assumption) | assumption); have q11 : (ji5) < (a0.size : Int) := of_decide_eq_true (by first | (with_reducible assumption) | assumption); have hx11 := bt_at a0 (ji5); replace p11 := eq_true p11; replace q11 := eq_true q11; have p13 : 0 ≤ ((ji5) : Int) := of_decide_eq_true (by first | (with_reducible assumption) | assumption); have q13 : (ji5) < (a0.size : Int) := of_decide_eq_true (by first | (with_reducible assumption) | assumption); have hx13 := bt_at a0 (ji5); replace p13 := eq_true p13; replace q13 := eq_true q13))
                  go_roundg k1
                  case measure => have := HK1.out; omega
                  case rel => exact ⟨(wrap64 (x7_1 + 1)), (by first | rfl | (simp; done) | (simp [*]; done)), H', ⟨by have := HK1.out; omega⟩, by repeat (first | exact Drawn0.refl _ | apply Drawn0.step)⟩
              · rw [if_neg c12] at H
                have c12b0 : decide (65 ≤ (bt a0 (ji5))) = false := decide_eq_false c12
                clear c12
                have H' := Aside0.mk H
                clear H
                have p7 : 0 ≤ ((ji5) : Int) := of_decide_eq_true (by first | (with_reducible assumption) | assumption)
                have q7 : (ji5) < (a0.size : Int) := of_decide_eq_true (by first | (with_reducible assumption) | assumption)
                have hx7 := bt_at a0 (ji5)
                replace p7 := eq_true p7
                replace q7 := eq_true q7
                go_wp2_with (first | (go_at_call 131; (with_reducible refine (antecedentref07_sign.calls (bt a0 (ji5)) true _ A8.out).mono ?_); rintro e w' ⟨rfl, ⟨nd, rfl⟩⟩; have p11 : 0 ≤ ((ji5) : Int) := of_decide_eq_true (by first | (with_reducible assumption) | assumption); have q11 : (ji5) < (a0.size : Int) := of_decide_eq_true (by first | (with_reducible assumption) | assumption); have hx11 := bt_at a0 (ji5); replace p11 := eq_true p11; replace q11 := eq_true q11))
                go_roundg k1
                case measure => have := HK1.out; omega
                case rel => exact ⟨(wrap64 (x7_1 + 1)), (by first | rfl | (simp; done) | (simp [*]; done)), H', ⟨by have := HK1.out; omega⟩, by repeat (first | exact Drawn0.refl _ | apply Drawn0.step)⟩
            · replace c10 := Bool.eq_false_iff.mpr c10
              subst c10
              have H1 : (antecedentref07_run.l0 k1 a0 a1 false (wrap64 (x7_1 + 1))) = some r := by rw [if_neg (show ¬ (false = true) by decide)] at H; exact H
              clear H
              have H := H1
              clear H1
              have H' := Aside0.mk H
              clear H
              have p7 : 0 ≤ ((ji5) : Int) := of_decide_eq_true (by first | (with_reducible assumption) | assumption)
              have q7 : (ji5) < (a0.size : Int) := of_decide_eq_true (by first | (with_reducible assumption) | assumption)
              have hx7 := bt_at a0 (ji5)
              replace p7 := eq_true p7
              replace q7 := eq_true q7
              go_wp2_with (first | (go_at_call 131; (with_reducible refine (antecedentref07_sign.calls (bt a0 (ji5)) true _ A8.out).mono ?_); rintro e w' ⟨rfl, ⟨nd, rfl⟩⟩))
              go_roundg k1
              case measure => have := HK1.out; omega
              case rel => exact ⟨(wrap64 (x7_1 + 1)), (by first | rfl | (simp; done) | (simp [*]; done)), H', ⟨by have := HK1.out; omega⟩, by repeat (first | exact Drawn0.refl _ | apply Drawn0.step)⟩
          · replace c9 := Bool.eq_false_iff.mpr c9
            subst c9
            have H1 : (some x7_1) = some r := by rw [if_neg (show ¬ (false = true) by decide)] at H; exact H
            clear H
            have H := H1
            clear H1
            obtain rfl := Option.some.inj H
            have p7 : 0 ≤ ((ji5) : Int) := of_decide_eq_true (by first | (with_reducible assumption) | assumption)
            have q7 : (ji5) < (a0.size : Int) := of_decide_eq_true (by first | (with_reducible assumption) | assumption)
            have hx7 := bt_at a0 (ji5)
            replace p7 := eq_true p7
            replace q7 := eq_true q7
            go_wp2_with (first | (go_at_call 131; (with_reducible refine (antecedentref07_sign.calls (bt a0 (ji5)) false _ A8.out).mono ?_); rintro e w' ⟨rfl, ⟨nd, rfl⟩⟩))
            go_ret
            exact ⟨by first | rfl | (simp; done) | (simp only [← hji5] <;> (first | rfl | simp)) | (simp [*]; done), by repeat (first | exact Drawn0.refl _ | apply Drawn0.step)⟩
        · rw [if_neg c6] at H
          exact absurd H (by simp)
      · rw [if_neg c4] at H
        have c4b0 : decide ((wrap64 (a1 + x7_1)) < (a0.size : Int)) = false := decide_eq_false c4
        clear c4
        obtain rfl := Option.some.inj H
        go_wp2
        go_ret
        exact ⟨by first | rfl | (simp; done) | (simp [*]; done), by repeat (first | exact Drawn0.refl _ | apply Drawn0.step)⟩
mutual
def antecedentref07_mark.j0 : Nat → ByteArray → Int → ByteArray → Option (Int)
  | 0, _, _, _ => none
  | k + 1, x0, x1, x5 => if x5.toList = ([60, 61] : List UInt8) then (antecedentref07_mark.j1 k x0 x1 true) else (if x5.toList = ([33, 61] : List UInt8) then (antecedentref07_mark.j1 k x0 x1 true) else (if x5.toList = ([58, 45] : List UInt8) then (antecedentref07_mark.j1 k x0 x1 true) else (antecedentref07_mark.j1 k x0 x1 (x5.toList == ([63, 45] : List UInt8)))))
def antecedentref07_mark.j1 : Nat → ByteArray → Int → Bool → Option (Int)
  | 0, _, _, _ => none
  | k + 1, x0, x1, x30 => if x30 = true then (some 2) else (if 0 ≤ x1 then (if x1 < (x0.size : Int) then (if (bt x0 x1) = 40 then (some 1) else (if (bt x0 x1) = 41 then (some 1) else (if (bt x0 x1) = 44 then (some 1) else (if (bt x0 x1) = 46 then (some 1) else (if (bt x0 x1) = 60 then (some 1) else (if (bt x0 x1) = 61 then (some 1) else (if (bt x0 x1) = 47 then (some 1) else (if (bt x0 x1) = 124 then (some 1) else (if (bt x0 x1) = 42 then (some 1) else (if (bt x0 x1) = 43 then (some 1) else (if (bt x0 x1) = 63 then (some 1) else (if (bt x0 x1) = 94 then (some 1) else (some 0))))))))))))) else (none)) else (none))
end
def antecedentref07_mark.f (k : Nat) (a0 : ByteArray) (a1 : Int) : Option (Int) := if (wrap64 (a1 + 2)) ≤ (a0.size : Int) then (if 0 ≤ a1 then (if a1 ≤ (wrap64 (a1 + 2)) then (antecedentref07_mark.j0 k a0 a1 (a0.extract (a1 : Int).toNat ((wrap64 (a1 + 2)) : Int).toNat)) else (none)) else (none)) else (antecedentref07_mark.j0 k a0 a1 (⟨#[]⟩ : ByteArray))
set_option maxHeartbeats 8000000 in
set_option maxRecDepth 100000 in
theorem antecedentref07_mark.calls (k : Nat) (a0 : ByteArray) (a1 : Int) (r : Int) (w : World) (h : antecedentref07_mark.f k a0 a1 = some r) :
    Calls Tryz.prog 102 #[.string a0, .int .i64 a1] w fun e w' => e = .returned (.int .i64 r) ∧ Drawn0 w w' := by
  have H : (if (wrap64 (a1 + 2)) ≤ (a0.size : Int) then (if 0 ≤ a1 then (if a1 ≤ (wrap64 (a1 + 2)) then (antecedentref07_mark.j0 k a0 a1 (a0.extract (a1 : Int).toNat ((wrap64 (a1 + 2)) : Int).toNat)) else (none)) else (none)) else (antecedentref07_mark.j0 k a0 a1 (⟨#[]⟩ : ByteArray))) = some r := h
  clear h
  have HC3 := Aside0.mk H
  clear H
  go_enter Tryz.func102, Tryz.ntmps102
  go_upto_if 11 with (fail)
  go_cut [5] (fun v5 wc => ∃ (kq : Nat) (x5_2 : ByteArray), v5 = .string x5_2 ∧ Aside0 (antecedentref07_mark.j0 kq a0 a1 x5_2 = some r) ∧ Aside0 (kq ≤ k) ∧ Drawn0 w wc)
  case first =>
    have H := HC3.out
    clear HC3
    by_cases c4 : (wrap64 (a1 + 2)) ≤ (a0.size : Int)
    · rw [if_pos c4] at H
      have c4b0 : decide ((wrap64 (a1 + 2)) ≤ (a0.size : Int)) = true := decide_eq_true c4
      clear c4
      (first | rw [c4b0] | (simp only [i64_w, i32_w]; rw [c4b0]) | skip)
      by_cases c5 : 0 ≤ a1
      · rw [if_pos c5] at H
        have c5b0 := eq_true c5
        have c5b1 : decide (0 ≤ a1) = true := decide_eq_true c5
        clear c5
        by_cases c6 : a1 ≤ (wrap64 (a1 + 2))
        · rw [if_pos c6] at H
          have c6b0 := eq_true c6
          have c6b1 : decide (a1 ≤ (wrap64 (a1 + 2))) = true := decide_eq_true c6
          have c7b0 := eq_true (of_decide_eq_true (by first | (with_reducible assumption) | assumption) : (wrap64 (a1 + 2)) ≤ (a0.size : Int))
          have H' := Aside0.mk H
          clear H
          go_wp2
          go_meet
          case rel => exact ⟨_, (a0.extract (a1 : Int).toNat ((wrap64 (a1 + 2)) : Int).toNat), (by first | rfl | (simp; done) | (simp [*]; done)), H', ⟨by first | omega | exact Nat.le_refl _⟩, by repeat (first | exact Drawn0.refl _ | apply Drawn0.step)⟩
        · rw [if_neg c6] at H
          exact absurd H (by simp)
      · rw [if_neg c5] at H
        exact absurd H (by simp)
    · rw [if_neg c4] at H
      have c4b0 : decide ((wrap64 (a1 + 2)) ≤ (a0.size : Int)) = false := decide_eq_false c4
      clear c4
      (first | rw [c4b0] | (simp only [i64_w, i32_w]; rw [c4b0]) | skip)
      have H' := Aside0.mk H
      clear H
      go_wp2
      go_meet
      case rel => exact ⟨_, ((⟨#[]⟩ : ByteArray)), (by first | rfl | (simp; done) | (simp [*]; done)), H', ⟨by first | omega | exact Nat.le_refl _⟩, by repeat (first | exact Drawn0.refl _ | apply Drawn0.step)⟩
  case rest =>
    clear HC3
    try clear c1
    try clear p2
    try clear c4
    try clear c4b0
    try clear c5
    try clear c5b0
    try clear c5b1
    try clear c6
    try clear c6b0
    try clear c6b1
    try clear p6
    try clear c7
    try clear c7b0
    obtain ⟨kq, x5_2, rfl, HA, HJ2, ⟨mc2, rfl⟩⟩ := hcut
    cases kq with
    | zero => exact absurd HA.out (by simp [antecedentref07_mark.j0])
    | succ kj2 =>
      have H := HA.out
      clear HA
      simp only [antecedentref07_mark.j0] at H
      have HC8 := Aside0.mk H
      clear H
      go_upto_region 4 with (fail)
      go_cut [30] (fun v30 wc => ∃ (kq : Nat) (x30_7 : Bool), v30 = .bool x30_7 ∧ Aside0 (antecedentref07_mark.j1 kq a0 a1 x30_7 = some r) ∧ Aside0 (kq ≤ kj2) ∧ Drawn0 w wc)
      case first =>
        have H := HC8.out
        clear HC8
        by_cases c9 : x5_2.toList = ([60, 61] : List UInt8)
        · rw [if_pos c9] at H
          have c9b0 : (x5_2.toList == ([60, 61] : List UInt8)) = true := beq_iff_eq.mpr c9
          have c9b1 : (x5_2.toList != ([60, 61] : List UInt8)) = false := bne_eq_false_iff_eq.mpr c9
          clear c9
          (first | rw [c9b0] | (simp only [i64_w, i32_w]; rw [c9b0]) | skip)
          have H' := Aside0.mk H
          clear H
          go_wp2
          go_meet
          case rel => exact ⟨_, (true), (by first | rfl | (simp; done) | (simp [*]; done)), H', ⟨by have := HJ2.out; first | omega | exact Nat.le_refl _⟩, by repeat (first | exact Drawn0.refl _ | apply Drawn0.step)⟩
        · rw [if_neg c9] at H
          have c9b0 : (x5_2.toList == ([60, 61] : List UInt8)) = false := beq_eq_false_iff_ne.mpr c9
          have c9b1 : (x5_2.toList != ([60, 61] : List UInt8)) = true := bne_iff_ne.mpr c9
          (first | rw [c9b0] | (simp only [i64_w, i32_w]; rw [c9b0]) | skip)
          by_cases c10 : x5_2.toList = ([33, 61] : List UInt8)
          · rw [if_pos c10] at H
            have c10b0 : (x5_2.toList == ([33, 61] : List UInt8)) = true := beq_iff_eq.mpr c10
            have c10b1 : (x5_2.toList != ([33, 61] : List UInt8)) = false := bne_eq_false_iff_eq.mpr c10
            clear c10
            have H' := Aside0.mk H
            clear H
            go_wp2
            go_meet
            case rel => exact ⟨_, (true), (by first | rfl | (simp; done) | (simp [*]; done)), H', ⟨by have := HJ2.out; first | omega | exact Nat.le_refl _⟩, by repeat (first | exact Drawn0.refl _ | apply Drawn0.step)⟩
          · rw [if_neg c10] at H
            have c10b0 : (x5_2.toList == ([33, 61] : List UInt8)) = false := beq_eq_false_iff_ne.mpr c10
            have c10b1 : (x5_2.toList != ([33, 61] : List UInt8)) = true := bne_iff_ne.mpr c10
            by_cases c11 : x5_2.toList = ([58, 45] : List UInt8)
            · rw [if_pos c11] at H
              have c11b0 : (x5_2.toList == ([58, 45] : List UInt8)) = true := beq_iff_eq.mpr c11
              have c11b1 : (x5_2.toList != ([58, 45] : List UInt8)) = false := bne_eq_false_iff_eq.mpr c11
              clear c11
              have H' := Aside0.mk H
              clear H
              go_wp2
              go_meet
              case rel => exact ⟨_, (true), (by first | rfl | (simp; done) | (simp [*]; done)), H', ⟨by have := HJ2.out; first | omega | exact Nat.le_refl _⟩, by repeat (first | exact Drawn0.refl _ | apply Drawn0.step)⟩
            · rw [if_neg c11] at H
              have c11b0 : (x5_2.toList == ([58, 45] : List UInt8)) = false := beq_eq_false_iff_ne.mpr c11
              have c11b1 : (x5_2.toList != ([58, 45] : List UInt8)) = true := bne_iff_ne.mpr c11
              have H' := Aside0.mk H
              clear H
              go_wp2
              go_meet
              case rel => exact ⟨_, ((x5_2.toList == ([63, 45] : List UInt8))), (by first | rfl | (simp; done) | (simp [*]; done)), H', ⟨by have := HJ2.out; first | omega | exact Nat.le_refl _⟩, by repeat (first | exact Drawn0.refl _ | apply Drawn0.step)⟩
      case rest =>
        clear HC8
        try clear c1
        try clear c2
        try clear p2
        try clear c4
        try clear c4b0
        try clear c5
        try clear c5b0
        try clear c5b1
        try clear c6
        try clear c6b0
        try clear c6b1
        try clear p6
        try clear c7
        try clear c7b0
        try clear c9
        try clear c9b0
        try clear c9b1
        try clear c10
        try clear c10b0
        try clear c10b1
        try clear c11
        try clear c11b0
        try clear c11b1
        try clear p2
        try clear p6
        obtain ⟨kq, x30_7, rfl, HA, HJ7, ⟨mc7, rfl⟩⟩ := hcut
        cases kq with
        | zero => exact absurd HA.out (by simp [antecedentref07_mark.j1])
        | succ kj7 =>
          have H := HA.out
          clear HA
          simp only [antecedentref07_mark.j1] at H
          by_cases c12 : x30_7 = true
          · subst c12
            have H1 : (some 2) = some r := by rw [if_pos rfl] at H; exact H
            clear H
            have H := H1
            clear H1
            obtain rfl := Option.some.inj H
            go_wp2
            go_ret
            exact ⟨by first | rfl | (simp; done) | (simp [*]; done), by repeat (first | exact Drawn0.refl _ | apply Drawn0.step)⟩
          · replace c12 := Bool.eq_false_iff.mpr c12
            subst c12
            have H1 : (if 0 ≤ a1 then (if a1 < (a0.size : Int) then (if (bt a0 a1) = 40 then (some 1) else (if (bt a0 a1) = 41 then (some 1) else (if (bt a0 a1) = 44 then (some 1) else (if (bt a0 a1) = 46 then (some 1) else (if (bt a0 a1) = 60 then (some 1) else (if (bt a0 a1) = 61 then (some 1) else (if (bt a0 a1) = 47 then (some 1) else (if (bt a0 a1) = 124 then (some 1) else (if (bt a0 a1) = 42 then (some 1) else (if (bt a0 a1) = 43 then (some 1) else (if (bt a0 a1) = 63 then (some 1) else (if (bt a0 a1) = 94 then (some 1) else (some 0))))))))))))) else (none)) else (none)) = some r := by rw [if_neg (show ¬ (false = true) by decide)] at H; exact H
            clear H
            have H := H1
            clear H1
            by_cases c13 : 0 ≤ a1
            · rw [if_pos c13] at H
              have c13b0 : decide (0 ≤ a1) = true := decide_eq_true c13
              clear c13
              by_cases c14 : a1 < (a0.size : Int)
              · rw [if_pos c14] at H
                have c14b0 : decide (a1 < (a0.size : Int)) = true := decide_eq_true c14
                clear c14
                by_cases c16 : (bt a0 a1) = 40
                · rw [if_pos c16] at H
                  have c16b0 : ((bt a0 a1) == 40) = true := beq_iff_eq.mpr c16
                  have c16b1 : ((bt a0 a1) != 40) = false := bne_eq_false_iff_eq.mpr c16
                  clear c16
                  obtain rfl := Option.some.inj H
                  have p15 : 0 ≤ (a1 : Int) := of_decide_eq_true (by first | (with_reducible assumption) | assumption)
                  have q15 : a1 < (a0.size : Int) := of_decide_eq_true (by first | (with_reducible assumption) | assumption)
                  have hx15 := bt_at a0 a1
                  replace p15 := eq_true p15
                  replace q15 := eq_true q15
                  go_wp2
                  go_ret
                  exact ⟨by first | rfl | (simp; done) | (simp [*]; done), by repeat (first | exact Drawn0.refl _ | apply Drawn0.step)⟩
                · rw [if_neg c16] at H
                  have c16b0 : ((bt a0 a1) == 40) = false := beq_eq_false_iff_ne.mpr c16
                  have c16b1 : ((bt a0 a1) != 40) = true := bne_iff_ne.mpr c16
                  by_cases c17 : (bt a0 a1) = 41
                  · rw [if_pos c17] at H
                    have c17b0 : ((bt a0 a1) == 41) = true := beq_iff_eq.mpr c17
                    have c17b1 : ((bt a0 a1) != 41) = false := bne_eq_false_iff_eq.mpr c17
                    clear c17
                    obtain rfl := Option.some.inj H
                    have p15 : 0 ≤ (a1 : Int) := of_decide_eq_true (by first | (with_reducible assumption) | assumption)
                    have q15 : a1 < (a0.size : Int) := of_decide_eq_true (by first | (with_reducible assumption) | assumption)
                    have hx15 := bt_at a0 a1
                    replace p15 := eq_true p15
                    replace q15 := eq_true q15
                    go_wp2
                    go_ret
                    exact ⟨by first | rfl | (simp; done) | (simp [*]; done), by repeat (first | exact Drawn0.refl _ | apply Drawn0.step)⟩
                  · rw [if_neg c17] at H
                    have c17b0 : ((bt a0 a1) == 41) = false := beq_eq_false_iff_ne.mpr c17
                    have c17b1 : ((bt a0 a1) != 41) = true := bne_iff_ne.mpr c17
                    by_cases c18 : (bt a0 a1) = 44
                    · rw [if_pos c18] at H
                      have c18b0 : ((bt a0 a1) == 44) = true := beq_iff_eq.mpr c18
                      have c18b1 : ((bt a0 a1) != 44) = false := bne_eq_false_iff_eq.mpr c18
                      clear c18
                      obtain rfl := Option.some.inj H
                      have p15 : 0 ≤ (a1 : Int) := of_decide_eq_true (by first | (with_reducible assumption) | assumption)
                      have q15 : a1 < (a0.size : Int) := of_decide_eq_true (by first | (with_reducible assumption) | assumption)
                      have hx15 := bt_at a0 a1
                      replace p15 := eq_true p15
                      replace q15 := eq_true q15
                      go_wp2
                      go_ret
                      exact ⟨by first | rfl | (simp; done) | (simp [*]; done), by repeat (first | exact Drawn0.refl _ | apply Drawn0.step)⟩
                    · rw [if_neg c18] at H
                      have c18b0 : ((bt a0 a1) == 44) = false := beq_eq_false_iff_ne.mpr c18
                      have c18b1 : ((bt a0 a1) != 44) = true := bne_iff_ne.mpr c18
                      by_cases c19 : (bt a0 a1) = 46
                      · rw [if_pos c19] at H
                        have c19b0 : ((bt a0 a1) == 46) = true := beq_iff_eq.mpr c19
                        have c19b1 : ((bt a0 a1) != 46) = false := bne_eq_false_iff_eq.mpr c19
                        clear c19
                        obtain rfl := Option.some.inj H
                        have p15 : 0 ≤ (a1 : Int) := of_decide_eq_true (by first | (with_reducible assumption) | assumption)
                        have q15 : a1 < (a0.size : Int) := of_decide_eq_true (by first | (with_reducible assumption) | assumption)
                        have hx15 := bt_at a0 a1
                        replace p15 := eq_true p15
                        replace q15 := eq_true q15
                        go_wp2
                        go_ret
                        exact ⟨by first | rfl | (simp; done) | (simp [*]; done), by repeat (first | exact Drawn0.refl _ | apply Drawn0.step)⟩
                      · rw [if_neg c19] at H
                        have c19b0 : ((bt a0 a1) == 46) = false := beq_eq_false_iff_ne.mpr c19
                        have c19b1 : ((bt a0 a1) != 46) = true := bne_iff_ne.mpr c19
                        by_cases c20 : (bt a0 a1) = 60
                        · rw [if_pos c20] at H
                          have c20b0 : ((bt a0 a1) == 60) = true := beq_iff_eq.mpr c20
                          have c20b1 : ((bt a0 a1) != 60) = false := bne_eq_false_iff_eq.mpr c20
                          clear c20
                          obtain rfl := Option.some.inj H
                          have p15 : 0 ≤ (a1 : Int) := of_decide_eq_true (by first | (with_reducible assumption) | assumption)
                          have q15 : a1 < (a0.size : Int) := of_decide_eq_true (by first | (with_reducible assumption) | assumption)
                          have hx15 := bt_at a0 a1
                          replace p15 := eq_true p15
                          replace q15 := eq_true q15
                          go_wp2
                          go_ret
                          exact ⟨by first | rfl | (simp; done) | (simp [*]; done), by repeat (first | exact Drawn0.refl _ | apply Drawn0.step)⟩
                        · rw [if_neg c20] at H
                          have c20b0 : ((bt a0 a1) == 60) = false := beq_eq_false_iff_ne.mpr c20
                          have c20b1 : ((bt a0 a1) != 60) = true := bne_iff_ne.mpr c20
                          by_cases c21 : (bt a0 a1) = 61
                          · rw [if_pos c21] at H
                            have c21b0 : ((bt a0 a1) == 61) = true := beq_iff_eq.mpr c21
                            have c21b1 : ((bt a0 a1) != 61) = false := bne_eq_false_iff_eq.mpr c21
                            clear c21
                            obtain rfl := Option.some.inj H
                            have p15 : 0 ≤ (a1 : Int) := of_decide_eq_true (by first | (with_reducible assumption) | assumption)
                            have q15 : a1 < (a0.size : Int) := of_decide_eq_true (by first | (with_reducible assumption) | assumption)
                            have hx15 := bt_at a0 a1
                            replace p15 := eq_true p15
                            replace q15 := eq_true q15
                            go_wp2
                            go_ret
                            exact ⟨by first | rfl | (simp; done) | (simp [*]; done), by repeat (first | exact Drawn0.refl _ | apply Drawn0.step)⟩
                          · rw [if_neg c21] at H
                            have c21b0 : ((bt a0 a1) == 61) = false := beq_eq_false_iff_ne.mpr c21
                            have c21b1 : ((bt a0 a1) != 61) = true := bne_iff_ne.mpr c21
                            by_cases c22 : (bt a0 a1) = 47
                            · rw [if_pos c22] at H
                              have c22b0 : ((bt a0 a1) == 47) = true := beq_iff_eq.mpr c22
                              have c22b1 : ((bt a0 a1) != 47) = false := bne_eq_false_iff_eq.mpr c22
                              clear c22
                              obtain rfl := Option.some.inj H
                              have p15 : 0 ≤ (a1 : Int) := of_decide_eq_true (by first | (with_reducible assumption) | assumption)
                              have q15 : a1 < (a0.size : Int) := of_decide_eq_true (by first | (with_reducible assumption) | assumption)
                              have hx15 := bt_at a0 a1
                              replace p15 := eq_true p15
                              replace q15 := eq_true q15
                              go_wp2
                              go_ret
                              exact ⟨by first | rfl | (simp; done) | (simp [*]; done), by repeat (first | exact Drawn0.refl _ | apply Drawn0.step)⟩
                            · rw [if_neg c22] at H
                              have c22b0 : ((bt a0 a1) == 47) = false := beq_eq_false_iff_ne.mpr c22
                              have c22b1 : ((bt a0 a1) != 47) = true := bne_iff_ne.mpr c22
                              by_cases c23 : (bt a0 a1) = 124
                              · rw [if_pos c23] at H
                                have c23b0 : ((bt a0 a1) == 124) = true := beq_iff_eq.mpr c23
                                have c23b1 : ((bt a0 a1) != 124) = false := bne_eq_false_iff_eq.mpr c23
                                clear c23
                                obtain rfl := Option.some.inj H
                                have p15 : 0 ≤ (a1 : Int) := of_decide_eq_true (by first | (with_reducible assumption) | assumption)
                                have q15 : a1 < (a0.size : Int) := of_decide_eq_true (by first | (with_reducible assumption) | assumption)
                                have hx15 := bt_at a0 a1
                                replace p15 := eq_true p15
                                replace q15 := eq_true q15
                                go_wp2
                                go_ret
                                exact ⟨by first | rfl | (simp; done) | (simp [*]; done), by repeat (first | exact Drawn0.refl _ | apply Drawn0.step)⟩
                              · rw [if_neg c23] at H
                                have c23b0 : ((bt a0 a1) == 124) = false := beq_eq_false_iff_ne.mpr c23
                                have c23b1 : ((bt a0 a1) != 124) = true := bne_iff_ne.mpr c23
                                by_cases c24 : (bt a0 a1) = 42
                                · rw [if_pos c24] at H
                                  have c24b0 : ((bt a0 a1) == 42) = true := beq_iff_eq.mpr c24
                                  have c24b1 : ((bt a0 a1) != 42) = false := bne_eq_false_iff_eq.mpr c24
                                  clear c24
                                  obtain rfl := Option.some.inj H
                                  have p15 : 0 ≤ (a1 : Int) := of_decide_eq_true (by first | (with_reducible assumption) | assumption)
                                  have q15 : a1 < (a0.size : Int) := of_decide_eq_true (by first | (with_reducible assumption) | assumption)
                                  have hx15 := bt_at a0 a1
                                  replace p15 := eq_true p15
                                  replace q15 := eq_true q15
                                  go_wp2
                                  go_ret
                                  exact ⟨by first | rfl | (simp; done) | (simp [*]; done), by repeat (first | exact Drawn0.refl _ | apply Drawn0.step)⟩
                                · rw [if_neg c24] at H
                                  have c24b0 : ((bt a0 a1) == 42) = false := beq_eq_false_iff_ne.mpr c24
                                  have c24b1 : ((bt a0 a1) != 42) = true := bne_iff_ne.mpr c24
                                  by_cases c25 : (bt a0 a1) = 43
                                  · rw [if_pos c25] at H
                                    have c25b0 : ((bt a0 a1) == 43) = true := beq_iff_eq.mpr c25
                                    have c25b1 : ((bt a0 a1) != 43) = false := bne_eq_false_iff_eq.mpr c25
                                    clear c25
                                    obtain rfl := Option.some.inj H
                                    have p15 : 0 ≤ (a1 : Int) := of_decide_eq_true (by first | (with_reducible assumption) | assumption)
                                    have q15 : a1 < (a0.size : Int) := of_decide_eq_true (by first | (with_reducible assumption) | assumption)
                                    have hx15 := bt_at a0 a1
                                    replace p15 := eq_true p15
                                    replace q15 := eq_true q15
                                    go_wp2
                                    go_ret
                                    exact ⟨by first | rfl | (simp; done) | (simp [*]; done), by repeat (first | exact Drawn0.refl _ | apply Drawn0.step)⟩
                                  · rw [if_neg c25] at H
                                    have c25b0 : ((bt a0 a1) == 43) = false := beq_eq_false_iff_ne.mpr c25
                                    have c25b1 : ((bt a0 a1) != 43) = true := bne_iff_ne.mpr c25
                                    by_cases c26 : (bt a0 a1) = 63
                                    · rw [if_pos c26] at H
                                      have c26b0 : ((bt a0 a1) == 63) = true := beq_iff_eq.mpr c26
                                      have c26b1 : ((bt a0 a1) != 63) = false := bne_eq_false_iff_eq.mpr c26
                                      clear c26
                                      obtain rfl := Option.some.inj H
                                      have p15 : 0 ≤ (a1 : Int) := of_decide_eq_true (by first | (with_reducible assumption) | assumption)
                                      have q15 : a1 < (a0.size : Int) := of_decide_eq_true (by first | (with_reducible assumption) | assumption)
                                      have hx15 := bt_at a0 a1
                                      replace p15 := eq_true p15
                                      replace q15 := eq_true q15
                                      go_wp2
                                      go_ret
                                      exact ⟨by first | rfl | (simp; done) | (simp [*]; done), by repeat (first | exact Drawn0.refl _ | apply Drawn0.step)⟩
                                    · rw [if_neg c26] at H
                                      have c26b0 : ((bt a0 a1) == 63) = false := beq_eq_false_iff_ne.mpr c26
                                      have c26b1 : ((bt a0 a1) != 63) = true := bne_iff_ne.mpr c26
                                      by_cases c27 : (bt a0 a1) = 94
                                      · rw [if_pos c27] at H
                                        have c27b0 : ((bt a0 a1) == 94) = true := beq_iff_eq.mpr c27
                                        have c27b1 : ((bt a0 a1) != 94) = false := bne_eq_false_iff_eq.mpr c27
                                        clear c27
                                        obtain rfl := Option.some.inj H
                                        have p15 : 0 ≤ (a1 : Int) := of_decide_eq_true (by first | (with_reducible assumption) | assumption)
                                        have q15 : a1 < (a0.size : Int) := of_decide_eq_true (by first | (with_reducible assumption) | assumption)
                                        have hx15 := bt_at a0 a1
                                        replace p15 := eq_true p15
                                        replace q15 := eq_true q15
                                        go_wp2
                                        go_ret
                                        exact ⟨by first | rfl | (simp; done) | (simp [*]; done), by repeat (first | exact Drawn0.refl _ | apply Drawn0.step)⟩
                                      · rw [if_neg c27] at H
                                        have c27b0 : ((bt a0 a1) == 94) = false := beq_eq_false_iff_ne.mpr c27
                                        have c27b1 : ((bt a0 a1) != 94) = true := bne_iff_ne.mpr c27
                                        obtain rfl := Option.some.inj H
                                        have p15 : 0 ≤ (a1 : Int) := of_decide_eq_true (by first | (with_reducible assumption) | assumption)
                                        have q15 : a1 < (a0.size : Int) := of_decide_eq_true (by first | (with_reducible assumption) | assumption)
                                        have hx15 := bt_at a0 a1
                                        replace p15 := eq_true p15
                                        replace q15 := eq_true q15
                                        go_wp2
                                        go_ret
                                        exact ⟨by first | rfl | (simp; done) | (simp [*]; done), by repeat (first | exact Drawn0.refl _ | apply Drawn0.step)⟩
              · rw [if_neg c14] at H
                exact absurd H (by simp)
            · rw [if_neg c13] at H
              exact absurd H (by simp)
def antecedentref09_closed.f (a0 : ByteArray) (a1 : Bool) : Option (ByteArray) := if a1 = true then (if 1 + a0.size ≤ 9223372036854775807 then (if 1 + a0.size + 1 ≤ 9223372036854775807 then (some (((⟨#[40]⟩ : ByteArray) ++ a0) ++ (⟨#[41]⟩ : ByteArray))) else (none)) else (none)) else (some a0)
set_option maxHeartbeats 8000000 in
set_option maxRecDepth 100000 in
theorem antecedentref09_closed.calls (a0 : ByteArray) (a1 : Bool) (r : ByteArray) (w : World) (h : antecedentref09_closed.f a0 a1 = some r) :
    Calls Tryz.prog 80 #[.string a0, .bool a1] w fun e w' => e = .returned (.string r) ∧ Drawn0 w w' := by
  have H : (if a1 = true then (if 1 + a0.size ≤ 9223372036854775807 then (if 1 + a0.size + 1 ≤ 9223372036854775807 then (some (((⟨#[40]⟩ : ByteArray) ++ a0) ++ (⟨#[41]⟩ : ByteArray))) else (none)) else (none)) else (some a0)) = some r := h
  clear h
  by_cases c3 : a1 = true
  · subst c3
    have H1 : (if 1 + a0.size ≤ 9223372036854775807 then (if 1 + a0.size + 1 ≤ 9223372036854775807 then (some (((⟨#[40]⟩ : ByteArray) ++ a0) ++ (⟨#[41]⟩ : ByteArray))) else (none)) else (none)) = some r := by rw [if_pos rfl] at H; exact H
    clear H
    have H := H1
    clear H1
    by_cases c4 : 1 + a0.size ≤ 9223372036854775807
    · rw [if_pos c4] at H
      have c4b0 := eq_true c4
      have c4b1 : decide (1 + a0.size ≤ 9223372036854775807) = true := decide_eq_true c4
      try have c4b2 : (9223372036854775807 < 1 + a0.size) = False := eq_false (Nat.not_lt.2 c4)
      by_cases c5 : 1 + a0.size + 1 ≤ 9223372036854775807
      · rw [if_pos c5] at H
        have c5b0 := eq_true c5
        have c5b1 : decide (1 + a0.size + 1 ≤ 9223372036854775807) = true := decide_eq_true c5
        try have c5b2 : (9223372036854775807 < 1 + a0.size + 1) = False := eq_false (Nat.not_lt.2 c5)
        obtain rfl := Option.some.inj H
        go_enter Tryz.func80, Tryz.ntmps80
        go_wp2
        go_ret
        exact ⟨by first | rfl | (simp; done) | (simp [*]; done), by repeat (first | exact Drawn0.refl _ | apply Drawn0.step)⟩
      · rw [if_neg c5] at H
        exact absurd H (by simp)
    · rw [if_neg c4] at H
      exact absurd H (by simp)
  · replace c3 := Bool.eq_false_iff.mpr c3
    subst c3
    have H1 : (some a0) = some r := by rw [if_neg (show ¬ (false = true) by decide)] at H; exact H
    clear H
    have H := H1
    clear H1
    obtain rfl := Option.some.inj H
    go_enter Tryz.func80, Tryz.ntmps80
    go_wp2
    go_ret
    exact ⟨by first | rfl | (simp; done) | (simp [*]; done), by repeat (first | exact Drawn0.refl _ | apply Drawn0.step)⟩
/-- A state of type 95 at block g of W; what its slices lead to came in by w0. -/
def IsS95 (w0 W : World) (g : Nat) (f0 : List (S53)) (f1 : Int) (f2 : Int) (f3 : Int) (f4 : Int) : Prop := ∃ A0 c0, W.heap[g]? = some (.cells #[.slice A0 f0.length c0, .int .i64 f1, .int .i64 f2, .int .i64 f3, .int .i64 f4] 95 (0, 0)) ∧ w0.heap.size ≤ g ∧ Kd.C k53 w0 A0 f0.length f0
theorem IsS95.grown {w0 W : World} {g : Nat} {f0 : List (S53)} {f1 : Int} {f2 : Int} {f3 : Int} {f4 : Int} {W1 : World} {row : Option Nat} (h : IsS95 w0 W g f0 f1 f2 f3 f4) (hw : W.grownBy W1 row) (hne : some g ≠ row) : IsS95 w0 W1 g f0 f1 f2 f3 f4 := by
  obtain ⟨A0, c0, hb, hg, hr0⟩ := h
  exact ⟨A0, c0, blk_grown hb hw hne, hg, hr0⟩
theorem IsS95.kept {w0 W : World} {g : Nat} {f0 : List (S53)} {f1 : Int} {f2 : Int} {f3 : Int} {f4 : Int} {W1 : World} {S : Nat → Prop} (h : IsS95 w0 W g f0 f1 f2 f3 f4) (hk : Kept W W1 S) (hne : ¬ S g) : IsS95 w0 W1 g f0 f1 f2 f3 f4 := by
  obtain ⟨A0, c0, hb, hg, hr0⟩ := h
  exact ⟨A0, c0, blk_kept hb hk hne, hg, hr0⟩
theorem IsS95.below {w0 W : World} {g : Nat} {f0 : List (S53)} {f1 : Int} {f2 : Int} {f3 : Int} {f4 : Int} {W1 : World} (h : IsS95 w0 W g f0 f1 f2 f3 f4) (hw : Below W.heap.size W W1) : IsS95 w0 W1 g f0 f1 f2 f3 f4 := h.grown (grown_of_below hw none) (by simp)
theorem IsS95.alloc {w0 W : World} {g : Nat} {f0 : List (S53)} {f1 : Int} {f2 : Int} {f3 : Int} {f4 : Int} (h : IsS95 w0 W g f0 f1 f2 f3 f4) (o : Obj) : IsS95 w0 (W.alloc o) g f0 f1 f2 f3 f4 := h.below (below_alloc (Below.refl _ _) o)
theorem IsS95.drewN {w0 W : World} {g : Nat} {f0 : List (S53)} {f1 : Int} {f2 : Int} {f3 : Int} {f4 : Int} (h : IsS95 w0 W g f0 f1 f2 f3 f4) (m : Nat) : IsS95 w0 (W.drewN m) g f0 f1 f2 f3 f4 := h
theorem IsS95.drew {w0 W : World} {g : Nat} {f0 : List (S53)} {f1 : Int} {f2 : Int} {f3 : Int} {f4 : Int} (h : IsS95 w0 W g f0 f1 f2 f3 f4) : IsS95 w0 W.drew g f0 f1 f2 f3 f4 := h
theorem IsS95.at_ {w0 W : World} {g : Nat} {f0 : List (S53)} {f1 : Int} {f2 : Int} {f3 : Int} {f4 : Int} {w' : World} {m : Nat} (hq : W.drewN m = w') (h : IsS95 w0 W g f0 f1 f2 f3 f4) : IsS95 w0 w' g f0 f1 f2 f3 f4 := by subst hq; exact IsS95.drewN h m
theorem IsS95.apart {w0 W : World} {g : Nat} {f0 : List (S53)} {f1 : Int} {f2 : Int} {f3 : Int} {f4 : Int} {α : Type} {d : Kd α} {e : Nat} {base : Nat} {ok : Nat → Prop} {v : Value} {xs : List α} (h : IsS95 w0 W g f0 f1 f2 f3 f4) (ho : d.R e W base ok v xs) (ht : ∀ q, q ∈ e :: d.E → q ≠ 95) : d.R e W base (fun k => ok k ∧ k ≠ g) v xs := by
  obtain ⟨A0, c0, hb, hg, hr0⟩ := h
  exact Kd.R_types ho hb ht
theorem IsS95.own_ne {w0 W : World} {g : Nat} {f0 : List (S53)} {f1 : Int} {f2 : Int} {f3 : Int} {f4 : Int} {α : Type} {d : Kd α} {e : Nat} {base : Nat} {ok : Nat → Prop} {v : Value} {xs : List α} (h : IsS95 w0 W g f0 f1 f2 f3 f4) (ho : d.R e W base ok v xs) (ht : e ≠ 95) : some g ≠ v.ownBlock := by
  obtain ⟨A0, c0, hb, hg, hr0⟩ := h
  exact Kd.R_ne ho hb ht
theorem IsS95.lt {w0 W : World} {g : Nat} {f0 : List (S53)} {f1 : Int} {f2 : Int} {f3 : Int} {f4 : Int} (h : IsS95 w0 W g f0 f1 f2 f3 f4) : g < W.heap.size := by
  obtain ⟨A0, c0, hb, hg, hr0⟩ := h
  exact blk_lt hb
theorem IsS95.far {w0 W : World} {g : Nat} {f0 : List (S53)} {f1 : Int} {f2 : Int} {f3 : Int} {f4 : Int} {p : Addr} (h : IsS95 w0 W g f0 f1 f2 f3 f4) (hne : g ≠ p.block) (u : Value) : IsS95 w0 (W.setCell p u) g f0 f1 f2 f3 f4 := by
  obtain ⟨A0, c0, hb, hg, hr0⟩ := h
  exact ⟨A0, c0, blk_far hb hne u, hg, hr0⟩
end Go.Proofs.YthebhbomlllpeaaGreatDoor.X
namespace Go.Proofs.YthebhbomlllpeaaGreatDoor.X
open Go.RowKit Go.Proofs.YthebhbomlllpeaaGreatDoorW.PrintWords Go.Proofs.YthebhbomlllpeaaGreatDoorW.PrintLast Go.Proofs.YthebhbomlllpeaaGreatDoorW.PrintMore
attribute [local go_sem] max2_int min2_int max_two min_two max_three min_three max_four min_four
set_option linter.unusedVariables false
set_option linter.unusedSimpArgs false
mutual
def antecedentref07_next.j0 : Nat → ByteArray → Int → Int → Bool → Option (Int × ByteArray × Int × Bool)
  | 0, _, _, _, _ => none
  | k + 1, x0, x1, x6, x21 => if x21 = true then ((antecedentref07_run.f k x0 x1 true).bind fun t200 => (if 0 ≤ x1 then (if x1 ≤ (wrap64 (x1 + t200)) then (if (wrap64 (x1 + t200)) ≤ (x0.size : Int) then ((antecedentref02_Name.f (x0.extract (x1 : Int).toNat ((wrap64 (x1 + t200)) : Int).toNat)).bind fun t201 => (some (1, x0.extract (x1 : Int).toNat ((wrap64 (x1 + t200)) : Int).toNat, x1, t201))) else (none)) else (none)) else (none))) else (if x6 ≥ 65 then (antecedentref07_next.j1 k x0 x1 x6 (decide (x6 ≤ 90))) else (antecedentref07_next.j1 k x0 x1 x6 false))
def antecedentref07_next.j1 : Nat → ByteArray → Int → Int → Bool → Option (Int × ByteArray × Int × Bool)
  | 0, _, _, _, _ => none
  | k + 1, x0, x1, x6, x40 => if x40 = true then ((antecedentref07_run.f k x0 x1 false).bind fun t202 => (if 0 ≤ x1 then (if x1 ≤ (wrap64 (x1 + t202)) then (if (wrap64 (x1 + t202)) ≤ (x0.size : Int) then ((antecedentref07_Variable.f k (x0.extract (x1 : Int).toNat ((wrap64 (x1 + t202)) : Int).toNat)).bind fun t203 => (some (2, x0.extract (x1 : Int).toNat ((wrap64 (x1 + t202)) : Int).toNat, x1, t203))) else (none)) else (none)) else (none))) else (if x6 = 35 then (antecedentref07_next.j2 k x0 x1 true) else (if x6 ≥ 48 then (if x6 ≤ 57 then (antecedentref07_next.j2 k x0 x1 true) else (if x6 = 45 then (if (wrap64 (x1 + 1)) < (x0.size : Int) then (if 0 ≤ (wrap64 (x1 + 1)) then (if (bt x0 (wrap64 (x1 + 1))) ≥ 48 then (antecedentref07_next.j2 k x0 x1 (decide ((bt x0 (wrap64 (x1 + 1))) ≤ 57))) else (antecedentref07_next.j2 k x0 x1 false)) else (none)) else (antecedentref07_next.j2 k x0 x1 false)) else (antecedentref07_next.j2 k x0 x1 false))) else (if x6 = 45 then (if (wrap64 (x1 + 1)) < (x0.size : Int) then (if 0 ≤ (wrap64 (x1 + 1)) then (if (bt x0 (wrap64 (x1 + 1))) ≥ 48 then (antecedentref07_next.j2 k x0 x1 (decide ((bt x0 (wrap64 (x1 + 1))) ≤ 57))) else (antecedentref07_next.j2 k x0 x1 false)) else (none)) else (antecedentref07_next.j2 k x0 x1 false)) else (antecedentref07_next.j2 k x0 x1 false))))
def antecedentref07_next.j2 : Nat → ByteArray → Int → Bool → Option (Int × ByteArray × Int × Bool)
  | 0, _, _, _ => none
  | k + 1, x0, x1, x88 => if x88 = true then ((antecedentref07_run.f k x0 (wrap64 (x1 + 1)) false).bind fun t204 => (if 0 ≤ x1 then (if x1 ≤ (wrap64 ((wrap64 (x1 + 1)) + t204)) then (if (wrap64 ((wrap64 (x1 + 1)) + t204)) ≤ (x0.size : Int) then ((antecedentref02_Read.f k (x0.extract (x1 : Int).toNat ((wrap64 ((wrap64 (x1 + 1)) + t204)) : Int).toNat)).bind fun bt205 => (some (3, x0.extract (x1 : Int).toNat ((wrap64 ((wrap64 (x1 + 1)) + t204)) : Int).toNat, x1, (bt205.2.2.2 == 0)))) else (none)) else (none)) else (none))) else ((antecedentref07_mark.f k x0 x1).bind fun t210 => (if 0 ≤ x1 then (if x1 ≤ (wrap64 (x1 + t210)) then (if (wrap64 (x1 + t210)) ≤ (x0.size : Int) then (some (4, x0.extract (x1 : Int).toNat ((wrap64 (x1 + t210)) : Int).toNat, x1, decide (t210 > 0))) else (none)) else (none)) else (none)))
end
def antecedentref07_next.f (k : Nat) (a0 : ByteArray) (a1 : Int) : Option (Int × ByteArray × Int × Bool) := if 0 ≤ a1 then (if a1 < (a0.size : Int) then (if (bt a0 a1) ≥ 97 then (antecedentref07_next.j0 k a0 a1 (bt a0 a1) (decide ((bt a0 a1) ≤ 122))) else (antecedentref07_next.j0 k a0 a1 (bt a0 a1) false)) else (none)) else (none)
set_option maxHeartbeats 8000000 in
set_option maxRecDepth 100000 in
theorem antecedentref07_next.calls (k : Nat) (a0 : ByteArray) (a1 : Int) (r1 : Int) (r2 : ByteArray) (r3 : Int) (r4 : Bool) (w : World) (h : antecedentref07_next.f k a0 a1 = some (r1, r2, r3, r4)) :
    Calls Tryz.prog 64 #[.string a0, .int .i64 a1] w fun e w' => e = .returned (.tuple #[.agg #[.int .i64 r1, .string r2, .int .i64 r3], .bool r4]) ∧ Below w.heap.size w w' := by
  have hu53 := Tryz.underlying53
  have hu58 := Tryz.underlying58
  have HB := Aside0.mk (Below.refl w.heap.size w)
  have H : (if 0 ≤ a1 then (if a1 < (a0.size : Int) then (if (bt a0 a1) ≥ 97 then (antecedentref07_next.j0 k a0 a1 (bt a0 a1) (decide ((bt a0 a1) ≤ 122))) else (antecedentref07_next.j0 k a0 a1 (bt a0 a1) false)) else (none)) else (none)) = some (r1, r2, r3, r4) := h
  clear h
  by_cases c3 : 0 ≤ a1
  · rw [if_pos c3] at H
    have c3b0 : decide (0 ≤ a1) = true := decide_eq_true c3
    clear c3
    by_cases c4 : a1 < (a0.size : Int)
    · rw [if_pos c4] at H
      have c4b0 : decide (a1 < (a0.size : Int)) = true := decide_eq_true c4
      clear c4
      have HC6 := Aside0.mk H
      clear H
      go_enter Tryz.func64, Tryz.ntmps64
      go_upto_region 2 with (first | ((with_reducible refine gate_dst (N := 4) rfl ?_); (try (refine gate_guard (by rfl) ?_; dsimp only)); refine box_event ?hg (N := 4) ?hd (cs := #[.int .i64 0, .string (⟨#[]⟩ : ByteArray), .int .i64 0]) (t := 53) ?hr ?_; (case hd => rfl); (case hg => rfl); (case hr => first | (go_simp; done) | (go_simp; rfl)); intro gb199 hg w7 hbox hb; have n0_ := Aside0.mk (below_step (by repeat (first | (with_reducible first | exact HB.out | apply below_alloc | apply pw_below_drewN | apply below_drew1) | exact HB.out)) hb); have n1_ := Aside0.mk (hbox); have n2_ := Aside0.mk ((by rw [hg]; exact (below_size (by repeat (first | (with_reducible first | exact HB.out | apply below_alloc | apply pw_below_drewN | apply below_drew1) | exact HB.out))) : w.heap.size ≤ gb199)); have n3_ := Aside0.mk ((by rw [hg]; exact (below_size (by repeat (first | (with_reducible first | exact HB.out | apply below_alloc | apply pw_below_drewN | apply below_drew1) | exact HB.out))) : w.heap.size ≤ gb199)); clear HB; have HB := n0_; have BK199 := n1_; have GW199 := n2_; have GE199 := n3_; clear n0_ n1_ n2_ n3_; clear hb hbox hg; have p5 : 0 ≤ (a1 : Int) := of_decide_eq_true (by first | (with_reducible assumption) | assumption); have q5 : a1 < (a0.size : Int) := of_decide_eq_true (by first | (with_reducible assumption) | assumption); have hx5 := bt_at a0 a1; replace p5 := eq_true p5; replace q5 := eq_true q5))
      (try simp only [Act.put, List.setIfInBounds_toArray, List.set_cons_zero, List.set_cons_succ])
      go_cut [21] (fun v21 wc => ∃ (kq : Nat) (x21_5 : Bool), v21 = .bool x21_5 ∧ Aside0 (antecedentref07_next.j0 kq a0 a1 (bt a0 a1) x21_5 = some (r1, r2, r3, r4)) ∧ Aside0 (kq ≤ k) ∧ Aside0 (wc.heap[gb199]? = some (.cells #[.int .i64 0, .string (⟨#[]⟩ : ByteArray), .int .i64 0] 53 (0, 0))) ∧ Aside0 (Below w.heap.size w wc))
      case first =>
        have H := HC6.out
        clear HC6
        by_cases c8 : (bt a0 a1) ≥ 97
        · rw [if_pos c8] at H
          have c8b0 : decide (97 ≤ (bt a0 a1)) = true := decide_eq_true c8
          clear c8
          (first | rw [c8b0] | (simp only [i64_w, i32_w]; rw [c8b0]) | skip)
          have H' := Aside0.mk H
          clear H
          go_wp2
          go_meet
          case rel => exact ⟨_, (decide ((bt a0 a1) ≤ 122)), (by first | rfl | (simp; done) | (simp [*]; done)), H', ⟨by first | omega | exact Nat.le_refl _⟩, ⟨by (with_reducible repeat (first | refine blk_drewN ?_ _ | refine blk_drew ?_ | refine blk_alloc ?_ _)); exact BK199.out⟩, ⟨by repeat (first | (with_reducible first | exact HB.out | apply below_alloc | apply pw_below_drewN | apply below_drew1 | refine below_set ?_ GE199.out) | exact HB.out)⟩⟩
        · rw [if_neg c8] at H
          have c8b0 : decide (97 ≤ (bt a0 a1)) = false := decide_eq_false c8
          clear c8
          (first | rw [c8b0] | (simp only [i64_w, i32_w]; rw [c8b0]) | skip)
          have H' := Aside0.mk H
          clear H
          go_wp2
          go_meet
          case rel => exact ⟨_, (false), (by first | rfl | (simp; done) | (simp [*]; done)), H', ⟨by first | omega | exact Nat.le_refl _⟩, ⟨by (with_reducible repeat (first | refine blk_drewN ?_ _ | refine blk_drew ?_ | refine blk_alloc ?_ _)); exact BK199.out⟩, ⟨by repeat (first | (with_reducible first | exact HB.out | apply below_alloc | apply pw_below_drewN | apply below_drew1 | refine below_set ?_ GE199.out) | exact HB.out)⟩⟩
      case rest =>
        clear HC6
        try clear p2
        try clear c3
        try clear c3b0
        try clear c4
        try clear c4b0
        try clear p5
        try clear q5
        try clear hx5
        try clear c6
        try clear c8
        try clear c8b0
        try clear p5
        try clear q5
        obtain ⟨kq, x21_5, rfl, HA, HJ5, BK199, HB⟩ := hcut
        cases kq with
        | zero => exact absurd HA.out (by simp [antecedentref07_next.j0])
        | succ kj5 =>
          have H := HA.out
          clear HA
          simp only [antecedentref07_next.j0] at H
          by_cases c9 : x21_5 = true
          · subst c9
            have H1 : ((antecedentref07_run.f kj5 a0 a1 true).bind fun t200 => (if 0 ≤ a1 then (if a1 ≤ (wrap64 (a1 + t200)) then (if (wrap64 (a1 + t200)) ≤ (a0.size : Int) then ((antecedentref02_Name.f (a0.extract (a1 : Int).toNat ((wrap64 (a1 + t200)) : Int).toNat)).bind fun t201 => (some (1, a0.extract (a1 : Int).toNat ((wrap64 (a1 + t200)) : Int).toNat, a1, t201))) else (none)) else (none)) else (none))) = some (r1, r2, r3, r4) := by rw [if_pos rfl] at H; exact H
            clear H
            have H := H1
            clear H1
            replace H := Option.bind_eq_some_iff.mp H
            obtain ⟨t200, A100, H⟩ := H
            replace H : (if 0 ≤ a1 then (if a1 ≤ (wrap64 (a1 + t200)) then (if (wrap64 (a1 + t200)) ≤ (a0.size : Int) then ((antecedentref02_Name.f (a0.extract (a1 : Int).toNat ((wrap64 (a1 + t200)) : Int).toNat)).bind fun t201 => (some (1, a0.extract (a1 : Int).toNat ((wrap64 (a1 + t200)) : Int).toNat, a1, t201))) else (none)) else (none)) else (none)) = some (r1, r2, r3, r4) := H
            have A10 := Aside0.mk A100
            clear A100
            by_cases c11 : 0 ≤ a1
            · rw [if_pos c11] at H
              have c11b0 := eq_true c11
              have c11b1 : decide (0 ≤ a1) = true := decide_eq_true c11
              clear c11
              by_cases c12 : a1 ≤ (wrap64 (a1 + t200))
              · rw [if_pos c12] at H
                have c12b0 := eq_true c12
                have c12b1 : decide (a1 ≤ (wrap64 (a1 + t200))) = true := decide_eq_true c12
                by_cases c13 : (wrap64 (a1 + t200)) ≤ (a0.size : Int)
                · rw [if_pos c13] at H
                  have c13b0 := eq_true c13
                  have c13b1 : decide ((wrap64 (a1 + t200)) ≤ (a0.size : Int)) = true := decide_eq_true c13
                  replace H := Option.bind_eq_some_iff.mp H
                  obtain ⟨t201, A140, H⟩ := H
                  replace H : (some (1, a0.extract (a1 : Int).toNat ((wrap64 (a1 + t200)) : Int).toNat, a1, t201)) = some (r1, r2, r3, r4) := H
                  have A14 := Aside0.mk A140
                  clear A140
                  simp only [Option.some.injEq, Prod.mk.injEq] at H
                  obtain ⟨rfl, rfl, rfl, rfl⟩ := H
                  go_wp2_with (first | ((with_reducible refine gate_callee (f := 98) rfl ?_); refine goesL_ (some 27) rfl rfl Tryz.func98 (by kernel_rfl) rfl #[.string a0, .int .i64 a1, .bool true] rfl (by (try simp only [List.map_toArray, List.map_cons, List.map_nil]); first | done | rfl | (simp only [List.length_drop, List.length_take]; rfl)) ?_; (with_reducible refine (antecedentref07_run.calls kj5 a0 a1 true t200 _ A10.out).mono ?_); rintro e w' ⟨rfl, ⟨nd, rfl⟩⟩; refine ⟨_, rfl, ?_⟩; (try (rw [drewN_self wc]; generalize hq_ : World.drewN wc _ = wc; have n0_ : Aside0 (wc.heap[gb199]? = some (.cells #[.int .i64 0, .string (⟨#[]⟩ : ByteArray), .int .i64 0] 53 (0, 0))) := ⟨by rw [← hq_]; exact (by (with_reducible repeat (first | refine blk_drewN ?_ _ | refine blk_drew ?_ | refine blk_alloc ?_ _)); exact BK199.out)⟩; have n1_ : Aside0 (Below w.heap.size w wc) := ⟨by rw [← hq_]; exact (by repeat (first | (with_reducible first | exact HB.out | apply below_alloc | apply pw_below_drewN | apply below_drew1 | refine below_set ?_ GE199.out) | exact HB.out))⟩; clear BK199 HB hq_; have BK199 := n0_; have HB := n1_; clear n0_ n1_))) | ((with_reducible refine gate_callee (f := 99) rfl ?_); refine goesL_ (some 34) rfl rfl Tryz.func99 (by kernel_rfl) rfl #[.string (a0.extract (a1 : Int).toNat ((wrap64 (a1 + t200)) : Int).toNat)] rfl (by (try simp only [List.map_toArray, List.map_cons, List.map_nil]); first | done | rfl | (simp only [List.length_drop, List.length_take]; rfl)) ?_; (with_reducible refine (antecedentref02_Name.calls (a0.extract (a1 : Int).toNat ((wrap64 (a1 + t200)) : Int).toNat) t201 _ A14.out).mono ?_); rintro e w15 ⟨rfl, hb⟩; refine ⟨_, rfl, ?_⟩; have n0_ := Aside0.mk (blk_below (g := gb199) (o := .cells #[.int .i64 0, .string (⟨#[]⟩ : ByteArray), .int .i64 0] 53 (0, 0)) (by (with_reducible repeat (first | refine blk_drewN ?_ _ | refine blk_drew ?_ | refine blk_alloc ?_ _)); exact BK199.out) hb); have n1_ := Aside0.mk (below_step (by repeat (first | (with_reducible first | exact HB.out | apply below_alloc | apply pw_below_drewN | apply below_drew1 | refine below_set ?_ GE199.out) | exact HB.out)) hb); clear BK199; clear HB; have BK199 := n0_; have HB := n1_; clear n0_ n1_; (try clear hb); (try clear hb2); (try clear hk); (try clear hi); have hcz16_0 : w15.cell? ⟨gb199, 0, none⟩ = some (.int .i64 0) := (blk_cell BK199.out 0).trans rfl; have hcz16_1 : w15.cell? ⟨gb199, 1, none⟩ = some (.string (⟨#[]⟩ : ByteArray)) := (blk_cell BK199.out 1).trans rfl; have hcz16_2 : w15.cell? ⟨gb199, 2, none⟩ = some (.int .i64 0) := (blk_cell BK199.out 2).trans rfl; have hfz16_0 := blk_frozen BK199.out 0; have hfz16_1 := blk_frozen BK199.out 1; have hfz16_2 := blk_frozen BK199.out 2))
                  refine bodyPost_ret (results_ct rfl _ _ gb199 53 #[.int .i64 1, .string (a0.extract (a1 : Int).toNat ((wrap64 (a1 + t200)) : Int).toNat), .int .i64 a1] (0, 0) _ rfl (by (with_reducible repeat (first | refine blk_drewN ?_ _ | refine blk_drew ?_ | refine blk_alloc ?_ _)); refine blk_put (cs := #[.int .i64 1, .string (a0.extract (a1 : Int).toNat ((wrap64 (a1 + t200)) : Int).toNat), .int .i64 0]) ?_ 2 _ rfl; (with_reducible repeat (first | refine blk_drewN ?_ _ | refine blk_drew ?_ | refine blk_alloc ?_ _)); refine blk_put (cs := #[.int .i64 1, .string (⟨#[]⟩ : ByteArray), .int .i64 0]) ?_ 1 _ rfl; (with_reducible repeat (first | refine blk_drewN ?_ _ | refine blk_drew ?_ | refine blk_alloc ?_ _)); refine blk_put (cs := #[.int .i64 0, .string (⟨#[]⟩ : ByteArray), .int .i64 0]) ?_ 0 _ rfl; (with_reducible repeat (first | refine blk_drewN ?_ _ | refine blk_drew ?_ | refine blk_alloc ?_ _)); exact BK199.out) Tryz.underlying53 rfl (by kernel_rfl)) rfl ?_
                  exact ⟨by first | rfl | (simp [errW_none, errW_some] <;> rfl) | (simp [*, errW_none, errW_some] <;> rfl), by repeat (first | (with_reducible first | exact HB.out | apply below_alloc | apply pw_below_drewN | apply below_drew1 | refine below_set ?_ GE199.out) | exact HB.out)⟩
                · rw [if_neg c13] at H
                  exact absurd H (by simp)
              · rw [if_neg c12] at H
                exact absurd H (by simp)
            · rw [if_neg c11] at H
              exact absurd H (by simp)
          · replace c9 := Bool.eq_false_iff.mpr c9
            subst c9
            have H1 : (if (bt a0 a1) ≥ 65 then (antecedentref07_next.j1 kj5 a0 a1 (bt a0 a1) (decide ((bt a0 a1) ≤ 90))) else (antecedentref07_next.j1 kj5 a0 a1 (bt a0 a1) false)) = some (r1, r2, r3, r4) := by rw [if_neg (show ¬ (false = true) by decide)] at H; exact H
            clear H
            have H := H1
            clear H1
            have HC17 := Aside0.mk H
            clear H
            go_upto_region 5 with (fail)
            go_cut [40] (fun v40 wc => ∃ (kq : Nat) (x40_16 : Bool), v40 = .bool x40_16 ∧ Aside0 (antecedentref07_next.j1 kq a0 a1 (bt a0 a1) x40_16 = some (r1, r2, r3, r4)) ∧ Aside0 (kq ≤ kj5) ∧ Aside0 (wc.heap[gb199]? = some (.cells #[.int .i64 0, .string (⟨#[]⟩ : ByteArray), .int .i64 0] 53 (0, 0))) ∧ Aside0 (Below w.heap.size w wc))
            case first =>
              have H := HC17.out
              clear HC17
              by_cases c18 : (bt a0 a1) ≥ 65
              · rw [if_pos c18] at H
                have c18b0 : decide (65 ≤ (bt a0 a1)) = true := decide_eq_true c18
                clear c18
                (first | rw [c18b0] | (simp only [i64_w, i32_w]; rw [c18b0]) | skip)
                have H' := Aside0.mk H
                clear H
                go_wp2
                go_meet
                case rel => exact ⟨_, (decide ((bt a0 a1) ≤ 90)), (by first | rfl | (simp; done) | (simp [*]; done)), H', ⟨by have := HJ5.out; first | omega | exact Nat.le_refl _⟩, ⟨by (with_reducible repeat (first | refine blk_drewN ?_ _ | refine blk_drew ?_ | refine blk_alloc ?_ _)); exact BK199.out⟩, ⟨by repeat (first | (with_reducible first | exact HB.out | apply below_alloc | apply pw_below_drewN | apply below_drew1 | refine below_set ?_ GE199.out) | exact HB.out)⟩⟩
              · rw [if_neg c18] at H
                have c18b0 : decide (65 ≤ (bt a0 a1)) = false := decide_eq_false c18
                clear c18
                (first | rw [c18b0] | (simp only [i64_w, i32_w]; rw [c18b0]) | skip)
                have H' := Aside0.mk H
                clear H
                go_wp2
                go_meet
                case rel => exact ⟨_, (false), (by first | rfl | (simp; done) | (simp [*]; done)), H', ⟨by have := HJ5.out; first | omega | exact Nat.le_refl _⟩, ⟨by (with_reducible repeat (first | refine blk_drewN ?_ _ | refine blk_drew ?_ | refine blk_alloc ?_ _)); exact BK199.out⟩, ⟨by repeat (first | (with_reducible first | exact HB.out | apply below_alloc | apply pw_below_drewN | apply below_drew1 | refine below_set ?_ GE199.out) | exact HB.out)⟩⟩
            case rest =>
              clear HC17
              try clear c1
              try clear p2
              try clear c3
              try clear c3b0
              try clear c4
              try clear c4b0
              try clear p5
              try clear q5
              try clear hx5
              try clear c6
              try clear p6
              try clear c8
              try clear c8b0
              try clear c9
              try clear c11
              try clear c11b0
              try clear c11b1
              try clear c12
              try clear c12b0
              try clear c12b1
              try clear c13
              try clear c13b0
              try clear c13b1
              try clear c18
              try clear c18b0
              try clear hcz16_0
              try clear hcz16_1
              try clear hcz16_2
              try clear hfz16_0
              try clear hfz16_1
              try clear hfz16_2
              try clear p2
              try clear p5
              try clear q5
              obtain ⟨kq, x40_16, rfl, HA, HJ16, BK199, HB⟩ := hcut
              cases kq with
              | zero => exact absurd HA.out (by simp [antecedentref07_next.j1])
              | succ kj16 =>
                have H := HA.out
                clear HA
                simp only [antecedentref07_next.j1] at H
                by_cases c19 : x40_16 = true
                · subst c19
                  have H1 : ((antecedentref07_run.f kj16 a0 a1 false).bind fun t202 => (if 0 ≤ a1 then (if a1 ≤ (wrap64 (a1 + t202)) then (if (wrap64 (a1 + t202)) ≤ (a0.size : Int) then ((antecedentref07_Variable.f kj16 (a0.extract (a1 : Int).toNat ((wrap64 (a1 + t202)) : Int).toNat)).bind fun t203 => (some (2, a0.extract (a1 : Int).toNat ((wrap64 (a1 + t202)) : Int).toNat, a1, t203))) else (none)) else (none)) else (none))) = some (r1, r2, r3, r4) := by rw [if_pos rfl] at H; exact H
                  clear H
                  have H := H1
                  clear H1
                  replace H := Option.bind_eq_some_iff.mp H
                  obtain ⟨t202, A200, H⟩ := H
                  replace H : (if 0 ≤ a1 then (if a1 ≤ (wrap64 (a1 + t202)) then (if (wrap64 (a1 + t202)) ≤ (a0.size : Int) then ((antecedentref07_Variable.f kj16 (a0.extract (a1 : Int).toNat ((wrap64 (a1 + t202)) : Int).toNat)).bind fun t203 => (some (2, a0.extract (a1 : Int).toNat ((wrap64 (a1 + t202)) : Int).toNat, a1, t203))) else (none)) else (none)) else (none)) = some (r1, r2, r3, r4) := H
                  have A20 := Aside0.mk A200
                  clear A200
                  by_cases c21 : 0 ≤ a1
                  · rw [if_pos c21] at H
                    have c21b0 := eq_true c21
                    have c21b1 : decide (0 ≤ a1) = true := decide_eq_true c21
                    clear c21
                    by_cases c22 : a1 ≤ (wrap64 (a1 + t202))
                    · rw [if_pos c22] at H
                      have c22b0 := eq_true c22
                      have c22b1 : decide (a1 ≤ (wrap64 (a1 + t202))) = true := decide_eq_true c22
                      by_cases c23 : (wrap64 (a1 + t202)) ≤ (a0.size : Int)
                      · rw [if_pos c23] at H
                        have c23b0 := eq_true c23
                        have c23b1 : decide ((wrap64 (a1 + t202)) ≤ (a0.size : Int)) = true := decide_eq_true c23
                        replace H := Option.bind_eq_some_iff.mp H
                        obtain ⟨t203, A240, H⟩ := H
                        replace H : (some (2, a0.extract (a1 : Int).toNat ((wrap64 (a1 + t202)) : Int).toNat, a1, t203)) = some (r1, r2, r3, r4) := H
                        have A24 := Aside0.mk A240
                        clear A240
                        simp only [Option.some.injEq, Prod.mk.injEq] at H
                        obtain ⟨rfl, rfl, rfl, rfl⟩ := H
                        go_wp2_with (first | ((with_reducible refine gate_callee (f := 98) rfl ?_); refine goesL_ (some 46) rfl rfl Tryz.func98 (by kernel_rfl) rfl #[.string a0, .int .i64 a1, .bool false] rfl (by (try simp only [List.map_toArray, List.map_cons, List.map_nil]); first | done | rfl | (simp only [List.length_drop, List.length_take]; rfl)) ?_; (with_reducible refine (antecedentref07_run.calls kj16 a0 a1 false t202 _ A20.out).mono ?_); rintro e w' ⟨rfl, ⟨nd, rfl⟩⟩; refine ⟨_, rfl, ?_⟩; (try (rw [drewN_self wc]; generalize hq_ : World.drewN wc _ = wc; have n0_ : Aside0 (wc.heap[gb199]? = some (.cells #[.int .i64 0, .string (⟨#[]⟩ : ByteArray), .int .i64 0] 53 (0, 0))) := ⟨by rw [← hq_]; exact (by (with_reducible repeat (first | refine blk_drewN ?_ _ | refine blk_drew ?_ | refine blk_alloc ?_ _)); exact BK199.out)⟩; have n1_ : Aside0 (Below w.heap.size w wc) := ⟨by rw [← hq_]; exact (by repeat (first | (with_reducible first | exact HB.out | apply below_alloc | apply pw_below_drewN | apply below_drew1 | refine below_set ?_ GE199.out) | exact HB.out))⟩; clear BK199 HB hq_; have BK199 := n0_; have HB := n1_; clear n0_ n1_))) | ((with_reducible refine gate_callee (f := 100) rfl ?_); refine goesL_ (some 53) rfl rfl Tryz.func100 (by kernel_rfl) rfl #[.string (a0.extract (a1 : Int).toNat ((wrap64 (a1 + t202)) : Int).toNat)] rfl (by (try simp only [List.map_toArray, List.map_cons, List.map_nil]); first | done | rfl | (simp only [List.length_drop, List.length_take]; rfl)) ?_; (with_reducible refine (antecedentref07_Variable.calls kj16 (a0.extract (a1 : Int).toNat ((wrap64 (a1 + t202)) : Int).toNat) t203 _ A24.out).mono ?_); rintro e w' ⟨rfl, ⟨nd, rfl⟩⟩; refine ⟨_, rfl, ?_⟩; (try (rw [drewN_self wc]; generalize hq_ : World.drewN wc _ = wc; have n0_ : Aside0 (wc.heap[gb199]? = some (.cells #[.int .i64 0, .string (⟨#[]⟩ : ByteArray), .int .i64 0] 53 (0, 0))) := ⟨by rw [← hq_]; exact (by (with_reducible repeat (first | refine blk_drewN ?_ _ | refine blk_drew ?_ | refine blk_alloc ?_ _)); exact BK199.out)⟩; have n1_ : Aside0 (Below w.heap.size w wc) := ⟨by rw [← hq_]; exact (by repeat (first | (with_reducible first | exact HB.out | apply below_alloc | apply pw_below_drewN | apply below_drew1 | refine below_set ?_ GE199.out) | exact HB.out))⟩; clear BK199 HB hq_; have BK199 := n0_; have HB := n1_; clear n0_ n1_)); have hcz25_0 : wc.cell? ⟨gb199, 0, none⟩ = some (.int .i64 0) := (blk_cell BK199.out 0).trans rfl; have hcz25_1 : wc.cell? ⟨gb199, 1, none⟩ = some (.string (⟨#[]⟩ : ByteArray)) := (blk_cell BK199.out 1).trans rfl; have hcz25_2 : wc.cell? ⟨gb199, 2, none⟩ = some (.int .i64 0) := (blk_cell BK199.out 2).trans rfl; have hfz25_0 := blk_frozen BK199.out 0; have hfz25_1 := blk_frozen BK199.out 1; have hfz25_2 := blk_frozen BK199.out 2))
                        refine bodyPost_ret (results_ct rfl _ _ gb199 53 #[.int .i64 2, .string (a0.extract (a1 : Int).toNat ((wrap64 (a1 + t202)) : Int).toNat), .int .i64 a1] (0, 0) _ rfl (by (with_reducible repeat (first | refine blk_drewN ?_ _ | refine blk_drew ?_ | refine blk_alloc ?_ _)); refine blk_put (cs := #[.int .i64 2, .string (a0.extract (a1 : Int).toNat ((wrap64 (a1 + t202)) : Int).toNat), .int .i64 0]) ?_ 2 _ rfl; (with_reducible repeat (first | refine blk_drewN ?_ _ | refine blk_drew ?_ | refine blk_alloc ?_ _)); refine blk_put (cs := #[.int .i64 2, .string (⟨#[]⟩ : ByteArray), .int .i64 0]) ?_ 1 _ rfl; (with_reducible repeat (first | refine blk_drewN ?_ _ | refine blk_drew ?_ | refine blk_alloc ?_ _)); refine blk_put (cs := #[.int .i64 0, .string (⟨#[]⟩ : ByteArray), .int .i64 0]) ?_ 0 _ rfl; (with_reducible repeat (first | refine blk_drewN ?_ _ | refine blk_drew ?_ | refine blk_alloc ?_ _)); exact BK199.out) Tryz.underlying53 rfl (by kernel_rfl)) rfl ?_
                        exact ⟨by first | rfl | (simp [errW_none, errW_some] <;> rfl) | (simp [*, errW_none, errW_some] <;> rfl), by repeat (first | (with_reducible first | exact HB.out | apply below_alloc | apply pw_below_drewN | apply below_drew1 | refine below_set ?_ GE199.out) | exact HB.out)⟩
                      · rw [if_neg c23] at H
                        exact absurd H (by simp)
                    · rw [if_neg c22] at H
                      exact absurd H (by simp)
                  · rw [if_neg c21] at H
                    exact absurd H (by simp)
                · replace c19 := Bool.eq_false_iff.mpr c19
                  subst c19
                  have H1 : (if (bt a0 a1) = 35 then (antecedentref07_next.j2 kj16 a0 a1 true) else (if (bt a0 a1) ≥ 48 then (if (bt a0 a1) ≤ 57 then (antecedentref07_next.j2 kj16 a0 a1 true) else (if (bt a0 a1) = 45 then (if (wrap64 (a1 + 1)) < (a0.size : Int) then (if 0 ≤ (wrap64 (a1 + 1)) then (if (bt a0 (wrap64 (a1 + 1))) ≥ 48 then (antecedentref07_next.j2 kj16 a0 a1 (decide ((bt a0 (wrap64 (a1 + 1))) ≤ 57))) else (antecedentref07_next.j2 kj16 a0 a1 false)) else (none)) else (antecedentref07_next.j2 kj16 a0 a1 false)) else (antecedentref07_next.j2 kj16 a0 a1 false))) else (if (bt a0 a1) = 45 then (if (wrap64 (a1 + 1)) < (a0.size : Int) then (if 0 ≤ (wrap64 (a1 + 1)) then (if (bt a0 (wrap64 (a1 + 1))) ≥ 48 then (antecedentref07_next.j2 kj16 a0 a1 (decide ((bt a0 (wrap64 (a1 + 1))) ≤ 57))) else (antecedentref07_next.j2 kj16 a0 a1 false)) else (none)) else (antecedentref07_next.j2 kj16 a0 a1 false)) else (antecedentref07_next.j2 kj16 a0 a1 false)))) = some (r1, r2, r3, r4) := by rw [if_neg (show ¬ (false = true) by decide)] at H; exact H
                  clear H
                  have H := H1
                  clear H1
                  have HC26 := Aside0.mk H
                  clear H
                  go_upto_region 8 with (fail)
                  go_cut [88] (fun v88 wc => ∃ (kq : Nat) (x88_25 : Bool), v88 = .bool x88_25 ∧ Aside0 (antecedentref07_next.j2 kq a0 a1 x88_25 = some (r1, r2, r3, r4)) ∧ Aside0 (kq ≤ kj16) ∧ Aside0 (wc.heap[gb199]? = some (.cells #[.int .i64 0, .string (⟨#[]⟩ : ByteArray), .int .i64 0] 53 (0, 0))) ∧ Aside0 (Below w.heap.size w wc))
                  case first =>
                    have H := HC26.out
                    clear HC26
                    by_cases c27 : (bt a0 a1) = 35
                    · rw [if_pos c27] at H
                      have c27b0 : ((bt a0 a1) == 35) = true := beq_iff_eq.mpr c27
                      have c27b1 : ((bt a0 a1) != 35) = false := bne_eq_false_iff_eq.mpr c27
                      clear c27
                      (first | rw [c27b0] | (simp only [i64_w, i32_w]; rw [c27b0]) | skip)
                      have H' := Aside0.mk H
                      clear H
                      go_wp2
                      go_meet
                      case rel => exact ⟨_, (true), (by first | rfl | (simp; done) | (simp [*]; done)), H', ⟨by have := HJ5.out; have := HJ16.out; first | omega | exact Nat.le_refl _⟩, ⟨by (with_reducible repeat (first | refine blk_drewN ?_ _ | refine blk_drew ?_ | refine blk_alloc ?_ _)); exact BK199.out⟩, ⟨by repeat (first | (with_reducible first | exact HB.out | apply below_alloc | apply pw_below_drewN | apply below_drew1 | refine below_set ?_ GE199.out) | exact HB.out)⟩⟩
                    · rw [if_neg c27] at H
                      have c27b0 : ((bt a0 a1) == 35) = false := beq_eq_false_iff_ne.mpr c27
                      have c27b1 : ((bt a0 a1) != 35) = true := bne_iff_ne.mpr c27
                      (first | rw [c27b0] | (simp only [i64_w, i32_w]; rw [c27b0]) | skip)
                      by_cases c28 : (bt a0 a1) ≥ 48
                      · rw [if_pos c28] at H
                        have c28b0 : decide (48 ≤ (bt a0 a1)) = true := decide_eq_true c28
                        clear c28
                        by_cases c29 : (bt a0 a1) ≤ 57
                        · rw [if_pos c29] at H
                          have c29b0 : decide ((bt a0 a1) ≤ 57) = true := decide_eq_true c29
                          clear c29
                          have H' := Aside0.mk H
                          clear H
                          go_wp2
                          go_meet
                          case rel => exact ⟨_, (true), (by first | rfl | (simp; done) | (simp [*]; done)), H', ⟨by have := HJ5.out; have := HJ16.out; first | omega | exact Nat.le_refl _⟩, ⟨by (with_reducible repeat (first | refine blk_drewN ?_ _ | refine blk_drew ?_ | refine blk_alloc ?_ _)); exact BK199.out⟩, ⟨by repeat (first | (with_reducible first | exact HB.out | apply below_alloc | apply pw_below_drewN | apply below_drew1 | refine below_set ?_ GE199.out) | exact HB.out)⟩⟩
                        · rw [if_neg c29] at H
                          have c29b0 : decide ((bt a0 a1) ≤ 57) = false := decide_eq_false c29
                          clear c29
                          by_cases c30 : (bt a0 a1) = 45
                          · rw [if_pos c30] at H
                            have c30b0 : ((bt a0 a1) == 45) = true := beq_iff_eq.mpr c30
                            have c30b1 : ((bt a0 a1) != 45) = false := bne_eq_false_iff_eq.mpr c30
                            clear c30
                            by_cases c31 : (wrap64 (a1 + 1)) < (a0.size : Int)
                            · rw [if_pos c31] at H
                              have c31b0 : decide ((wrap64 (a1 + 1)) < (a0.size : Int)) = true := decide_eq_true c31
                              clear c31
                              obtain ⟨ji32, hji32⟩ : ∃ j_ : Int, (wrap64 (a1 + 1)) = j_ := ⟨_, rfl⟩
                              replace H : (if 0 ≤ (ji32) then (if (bt a0 (ji32)) ≥ 48 then (antecedentref07_next.j2 kj16 a0 a1 (decide ((bt a0 (ji32)) ≤ 57))) else (antecedentref07_next.j2 kj16 a0 a1 false)) else (none)) = some (r1, r2, r3, r4) := by first | (rw [hji32] at H; exact H) | (simp only [hji32] at H ⊢; exact H)
                              (try rw [hji32] at c31b0)
                              have hji32w : (IntKind.i64.wrap (a1 + 1)) = ji32 := (i64_w _).trans hji32
                              by_cases c33 : 0 ≤ (ji32)
                              · rw [if_pos c33] at H
                                have c33b0 : decide (0 ≤ (ji32)) = true := decide_eq_true c33
                                clear c33
                                by_cases c35 : (bt a0 (ji32)) ≥ 48
                                · rw [if_pos c35] at H
                                  have c35b0 : decide (48 ≤ (bt a0 (ji32))) = true := decide_eq_true c35
                                  clear c35
                                  have H' := Aside0.mk H
                                  clear H
                                  have p34 : 0 ≤ ((ji32) : Int) := of_decide_eq_true (by first | (with_reducible assumption) | assumption)
                                  have q34 : (ji32) < (a0.size : Int) := of_decide_eq_true (by first | (with_reducible assumption) | assumption)
                                  have hx34 := bt_at a0 (ji32)
                                  replace p34 := eq_true p34
                                  replace q34 := eq_true q34
                                  have p36 : 0 ≤ ((ji32) : Int) := of_decide_eq_true (by first | (with_reducible assumption) | assumption)
                                  have q36 : (ji32) < (a0.size : Int) := of_decide_eq_true (by first | (with_reducible assumption) | assumption)
                                  have hx36 := bt_at a0 (ji32)
                                  replace p36 := eq_true p36
                                  replace q36 := eq_true q36
                                  go_wp2
                                  go_meet
                                  case rel => exact ⟨_, (decide ((bt a0 (ji32)) ≤ 57)), (by first | rfl | (simp; done) | (simp only [← hji32] <;> (first | rfl | simp)) | (simp [*]; done)), H', ⟨by have := HJ5.out; have := HJ16.out; first | omega | exact Nat.le_refl _⟩, ⟨by (with_reducible repeat (first | refine blk_drewN ?_ _ | refine blk_drew ?_ | refine blk_alloc ?_ _)); exact BK199.out⟩, ⟨by repeat (first | (with_reducible first | exact HB.out | apply below_alloc | apply pw_below_drewN | apply below_drew1 | refine below_set ?_ GE199.out) | exact HB.out)⟩⟩
                                · rw [if_neg c35] at H
                                  have c35b0 : decide (48 ≤ (bt a0 (ji32))) = false := decide_eq_false c35
                                  clear c35
                                  have H' := Aside0.mk H
                                  clear H
                                  have p34 : 0 ≤ ((ji32) : Int) := of_decide_eq_true (by first | (with_reducible assumption) | assumption)
                                  have q34 : (ji32) < (a0.size : Int) := of_decide_eq_true (by first | (with_reducible assumption) | assumption)
                                  have hx34 := bt_at a0 (ji32)
                                  replace p34 := eq_true p34
                                  replace q34 := eq_true q34
                                  go_wp2
                                  go_meet
                                  case rel => exact ⟨_, (false), (by first | rfl | (simp; done) | (simp [*]; done)), H', ⟨by have := HJ5.out; have := HJ16.out; first | omega | exact Nat.le_refl _⟩, ⟨by (with_reducible repeat (first | refine blk_drewN ?_ _ | refine blk_drew ?_ | refine blk_alloc ?_ _)); exact BK199.out⟩, ⟨by repeat (first | (with_reducible first | exact HB.out | apply below_alloc | apply pw_below_drewN | apply below_drew1 | refine below_set ?_ GE199.out) | exact HB.out)⟩⟩
                              · rw [if_neg c33] at H
                                exact absurd H (by simp)
                            · rw [if_neg c31] at H
                              have c31b0 : decide ((wrap64 (a1 + 1)) < (a0.size : Int)) = false := decide_eq_false c31
                              clear c31
                              have H' := Aside0.mk H
                              clear H
                              go_wp2
                              go_meet
                              case rel => exact ⟨_, (false), (by first | rfl | (simp; done) | (simp [*]; done)), H', ⟨by have := HJ5.out; have := HJ16.out; first | omega | exact Nat.le_refl _⟩, ⟨by (with_reducible repeat (first | refine blk_drewN ?_ _ | refine blk_drew ?_ | refine blk_alloc ?_ _)); exact BK199.out⟩, ⟨by repeat (first | (with_reducible first | exact HB.out | apply below_alloc | apply pw_below_drewN | apply below_drew1 | refine below_set ?_ GE199.out) | exact HB.out)⟩⟩
                          · rw [if_neg c30] at H
                            have c30b0 : ((bt a0 a1) == 45) = false := beq_eq_false_iff_ne.mpr c30
                            have c30b1 : ((bt a0 a1) != 45) = true := bne_iff_ne.mpr c30
                            have H' := Aside0.mk H
                            clear H
                            go_wp2
                            go_meet
                            case rel => exact ⟨_, (false), (by first | rfl | (simp; done) | (simp [*]; done)), H', ⟨by have := HJ5.out; have := HJ16.out; first | omega | exact Nat.le_refl _⟩, ⟨by (with_reducible repeat (first | refine blk_drewN ?_ _ | refine blk_drew ?_ | refine blk_alloc ?_ _)); exact BK199.out⟩, ⟨by repeat (first | (with_reducible first | exact HB.out | apply below_alloc | apply pw_below_drewN | apply below_drew1 | refine below_set ?_ GE199.out) | exact HB.out)⟩⟩
                      · rw [if_neg c28] at H
                        have c28b0 : decide (48 ≤ (bt a0 a1)) = false := decide_eq_false c28
                        clear c28
                        by_cases c37 : (bt a0 a1) = 45
                        · rw [if_pos c37] at H
                          have c37b0 : ((bt a0 a1) == 45) = true := beq_iff_eq.mpr c37
                          have c37b1 : ((bt a0 a1) != 45) = false := bne_eq_false_iff_eq.mpr c37
                          clear c37
                          by_cases c38 : (wrap64 (a1 + 1)) < (a0.size : Int)
                          · rw [if_pos c38] at H
                            have c38b0 : decide ((wrap64 (a1 + 1)) < (a0.size : Int)) = true := decide_eq_true c38
                            clear c38
                            obtain ⟨ji39, hji39⟩ : ∃ j_ : Int, (wrap64 (a1 + 1)) = j_ := ⟨_, rfl⟩
                            replace H : (if 0 ≤ (ji39) then (if (bt a0 (ji39)) ≥ 48 then (antecedentref07_next.j2 kj16 a0 a1 (decide ((bt a0 (ji39)) ≤ 57))) else (antecedentref07_next.j2 kj16 a0 a1 false)) else (none)) = some (r1, r2, r3, r4) := by first | (rw [hji39] at H; exact H) | (simp only [hji39] at H ⊢; exact H)
                            (try rw [hji39] at c38b0)
                            have hji39w : (IntKind.i64.wrap (a1 + 1)) = ji39 := (i64_w _).trans hji39
                            by_cases c40 : 0 ≤ (ji39)
                            · rw [if_pos c40] at H
                              have c40b0 : decide (0 ≤ (ji39)) = true := decide_eq_true c40
                              clear c40
                              by_cases c42 : (bt a0 (ji39)) ≥ 48
                              · rw [if_pos c42] at H
                                have c42b0 : decide (48 ≤ (bt a0 (ji39))) = true := decide_eq_true c42
                                clear c42
                                have H' := Aside0.mk H
                                clear H
                                have p41 : 0 ≤ ((ji39) : Int) := of_decide_eq_true (by first | (with_reducible assumption) | assumption)
                                have q41 : (ji39) < (a0.size : Int) := of_decide_eq_true (by first | (with_reducible assumption) | assumption)
                                have hx41 := bt_at a0 (ji39)
                                replace p41 := eq_true p41
                                replace q41 := eq_true q41
                                have p43 : 0 ≤ ((ji39) : Int) := of_decide_eq_true (by first | (with_reducible assumption) | assumption)
                                have q43 : (ji39) < (a0.size : Int) := of_decide_eq_true (by first | (with_reducible assumption) | assumption)
                                have hx43 := bt_at a0 (ji39)
                                replace p43 := eq_true p43
                                replace q43 := eq_true q43
                                go_wp2
                                go_meet
                                case rel => exact ⟨_, (decide ((bt a0 (ji39)) ≤ 57)), (by first | rfl | (simp; done) | (simp only [← hji39] <;> (first | rfl | simp)) | (simp [*]; done)), H', ⟨by have := HJ5.out; have := HJ16.out; first | omega | exact Nat.le_refl _⟩, ⟨by (with_reducible repeat (first | refine blk_drewN ?_ _ | refine blk_drew ?_ | refine blk_alloc ?_ _)); exact BK199.out⟩, ⟨by repeat (first | (with_reducible first | exact HB.out | apply below_alloc | apply pw_below_drewN | apply below_drew1 | refine below_set ?_ GE199.out) | exact HB.out)⟩⟩
                              · rw [if_neg c42] at H
                                have c42b0 : decide (48 ≤ (bt a0 (ji39))) = false := decide_eq_false c42
                                clear c42
                                have H' := Aside0.mk H
                                clear H
                                have p41 : 0 ≤ ((ji39) : Int) := of_decide_eq_true (by first | (with_reducible assumption) | assumption)
                                have q41 : (ji39) < (a0.size : Int) := of_decide_eq_true (by first | (with_reducible assumption) | assumption)
                                have hx41 := bt_at a0 (ji39)
                                replace p41 := eq_true p41
                                replace q41 := eq_true q41
                                go_wp2
                                go_meet
                                case rel => exact ⟨_, (false), (by first | rfl | (simp; done) | (simp [*]; done)), H', ⟨by have := HJ5.out; have := HJ16.out; first | omega | exact Nat.le_refl _⟩, ⟨by (with_reducible repeat (first | refine blk_drewN ?_ _ | refine blk_drew ?_ | refine blk_alloc ?_ _)); exact BK199.out⟩, ⟨by repeat (first | (with_reducible first | exact HB.out | apply below_alloc | apply pw_below_drewN | apply below_drew1 | refine below_set ?_ GE199.out) | exact HB.out)⟩⟩
                            · rw [if_neg c40] at H
                              exact absurd H (by simp)
                          · rw [if_neg c38] at H
                            have c38b0 : decide ((wrap64 (a1 + 1)) < (a0.size : Int)) = false := decide_eq_false c38
                            clear c38
                            have H' := Aside0.mk H
                            clear H
                            go_wp2
                            go_meet
                            case rel => exact ⟨_, (false), (by first | rfl | (simp; done) | (simp [*]; done)), H', ⟨by have := HJ5.out; have := HJ16.out; first | omega | exact Nat.le_refl _⟩, ⟨by (with_reducible repeat (first | refine blk_drewN ?_ _ | refine blk_drew ?_ | refine blk_alloc ?_ _)); exact BK199.out⟩, ⟨by repeat (first | (with_reducible first | exact HB.out | apply below_alloc | apply pw_below_drewN | apply below_drew1 | refine below_set ?_ GE199.out) | exact HB.out)⟩⟩
                        · rw [if_neg c37] at H
                          have c37b0 : ((bt a0 a1) == 45) = false := beq_eq_false_iff_ne.mpr c37
                          have c37b1 : ((bt a0 a1) != 45) = true := bne_iff_ne.mpr c37
                          have H' := Aside0.mk H
                          clear H
                          go_wp2
                          go_meet
                          case rel => exact ⟨_, (false), (by first | rfl | (simp; done) | (simp [*]; done)), H', ⟨by have := HJ5.out; have := HJ16.out; first | omega | exact Nat.le_refl _⟩, ⟨by (with_reducible repeat (first | refine blk_drewN ?_ _ | refine blk_drew ?_ | refine blk_alloc ?_ _)); exact BK199.out⟩, ⟨by repeat (first | (with_reducible first | exact HB.out | apply below_alloc | apply pw_below_drewN | apply below_drew1 | refine below_set ?_ GE199.out) | exact HB.out)⟩⟩
                  case rest =>
                    clear HC26
                    try clear c1
                    try clear c2
                    try clear p2
                    try clear c3
                    try clear c3b0
                    try clear p3
                    try clear q3
                    try clear hx3
                    try clear c4
                    try clear c4b0
                    try clear p4
                    try clear q4
                    try clear hx4
                    try clear p5
                    try clear q5
                    try clear hx5
                    try clear c6
                    try clear p6
                    try clear c8
                    try clear c8b0
                    try clear c9
                    try clear c10
                    try clear c11
                    try clear c11b0
                    try clear c11b1
                    try clear c12
                    try clear c12b0
                    try clear c12b1
                    try clear c13
                    try clear c13b0
                    try clear c13b1
                    try clear c18
                    try clear c18b0
                    try clear c19
                    try clear c21
                    try clear c21b0
                    try clear c21b1
                    try clear c22
                    try clear c22b0
                    try clear c22b1
                    try clear c23
                    try clear c23b0
                    try clear c23b1
                    try clear c27
                    try clear c27b0
                    try clear c27b1
                    try clear c28
                    try clear c28b0
                    try clear c29
                    try clear c29b0
                    try clear c30
                    try clear c30b0
                    try clear c30b1
                    try clear c31
                    try clear c31b0
                    try clear c33
                    try clear c33b0
                    try clear p34
                    try clear q34
                    try clear hx34
                    try clear c35
                    try clear c35b0
                    try clear p36
                    try clear q36
                    try clear hx36
                    try clear c37
                    try clear c37b0
                    try clear c37b1
                    try clear c38
                    try clear c38b0
                    try clear c40
                    try clear c40b0
                    try clear p41
                    try clear q41
                    try clear hx41
                    try clear c42
                    try clear c42b0
                    try clear p43
                    try clear q43
                    try clear hx43
                    try clear hcz16_0
                    try clear hcz16_1
                    try clear hcz16_2
                    try clear hcz25_0
                    try clear hcz25_1
                    try clear hcz25_2
                    try clear hfz16_0
                    try clear hfz16_1
                    try clear hfz16_2
                    try clear hfz25_0
                    try clear hfz25_1
                    try clear hfz25_2
                    try clear p2
                    try clear p34
                    try clear p36
                    try clear p41
                    try clear p43
                    try clear p5
                    try clear p6
                    try clear q34
                    try clear q36
                    try clear q41
                    try clear q43
                    try clear q5
                    obtain ⟨kq, x88_25, rfl, HA, HJ25, BK199, HB⟩ := hcut
                    cases kq with
                    | zero => exact absurd HA.out (by simp [antecedentref07_next.j2])
                    | succ kj25 =>
                      have H := HA.out
                      clear HA
                      simp only [antecedentref07_next.j2] at H
                      by_cases c44 : x88_25 = true
                      · subst c44
                        have H1 : ((antecedentref07_run.f kj25 a0 (wrap64 (a1 + 1)) false).bind fun t204 => (if 0 ≤ a1 then (if a1 ≤ (wrap64 ((wrap64 (a1 + 1)) + t204)) then (if (wrap64 ((wrap64 (a1 + 1)) + t204)) ≤ (a0.size : Int) then ((antecedentref02_Read.f kj25 (a0.extract (a1 : Int).toNat ((wrap64 ((wrap64 (a1 + 1)) + t204)) : Int).toNat)).bind fun bt205 => (some (3, a0.extract (a1 : Int).toNat ((wrap64 ((wrap64 (a1 + 1)) + t204)) : Int).toNat, a1, (bt205.2.2.2 == 0)))) else (none)) else (none)) else (none))) = some (r1, r2, r3, r4) := by rw [if_pos rfl] at H; exact H
                        clear H
                        have H := H1
                        clear H1
                        replace H := Option.bind_eq_some_iff.mp H
                        obtain ⟨t204, A450, H⟩ := H
                        replace H : (if 0 ≤ a1 then (if a1 ≤ (wrap64 ((wrap64 (a1 + 1)) + t204)) then (if (wrap64 ((wrap64 (a1 + 1)) + t204)) ≤ (a0.size : Int) then ((antecedentref02_Read.f kj25 (a0.extract (a1 : Int).toNat ((wrap64 ((wrap64 (a1 + 1)) + t204)) : Int).toNat)).bind fun bt205 => (some (3, a0.extract (a1 : Int).toNat ((wrap64 ((wrap64 (a1 + 1)) + t204)) : Int).toNat, a1, (bt205.2.2.2 == 0)))) else (none)) else (none)) else (none)) = some (r1, r2, r3, r4) := H
                        have A45 := Aside0.mk A450
                        clear A450
                        by_cases c46 : 0 ≤ a1
                        · rw [if_pos c46] at H
                          have c46b0 := eq_true c46
                          have c46b1 : decide (0 ≤ a1) = true := decide_eq_true c46
                          clear c46
                          by_cases c47 : a1 ≤ (wrap64 ((wrap64 (a1 + 1)) + t204))
                          · rw [if_pos c47] at H
                            have c47b0 := eq_true c47
                            have c47b1 : decide (a1 ≤ (wrap64 ((wrap64 (a1 + 1)) + t204))) = true := decide_eq_true c47
                            by_cases c48 : (wrap64 ((wrap64 (a1 + 1)) + t204)) ≤ (a0.size : Int)
                            · rw [if_pos c48] at H
                              have c48b0 := eq_true c48
                              have c48b1 : decide ((wrap64 ((wrap64 (a1 + 1)) + t204)) ≤ (a0.size : Int)) = true := decide_eq_true c48
                              replace H := Option.bind_eq_some_iff.mp H
                              obtain ⟨⟨t205, t206, t207, t208⟩, A490, H⟩ := H
                              replace H : (some (3, a0.extract (a1 : Int).toNat ((wrap64 ((wrap64 (a1 + 1)) + t204)) : Int).toNat, a1, (t208 == 0))) = some (r1, r2, r3, r4) := H
                              have A49 := Aside0.mk A490
                              clear A490
                              simp only [Option.some.injEq, Prod.mk.injEq] at H
                              obtain ⟨rfl, rfl, rfl, rfl⟩ := H
                              go_wp2_with (first | ((with_reducible refine gate_callee (f := 98) rfl ?_); refine goesL_ (some 96) rfl rfl Tryz.func98 (by kernel_rfl) rfl #[.string a0, .int .i64 (wrap64 (a1 + 1)), .bool false] rfl (by (try simp only [List.map_toArray, List.map_cons, List.map_nil]); first | done | rfl | (simp only [List.length_drop, List.length_take]; rfl)) ?_; (with_reducible refine (antecedentref07_run.calls kj25 a0 (wrap64 (a1 + 1)) false t204 _ A45.out).mono ?_); rintro e w' ⟨rfl, ⟨nd, rfl⟩⟩; refine ⟨_, rfl, ?_⟩; (try (rw [drewN_self wc]; generalize hq_ : World.drewN wc _ = wc; have n0_ : Aside0 (wc.heap[gb199]? = some (.cells #[.int .i64 0, .string (⟨#[]⟩ : ByteArray), .int .i64 0] 53 (0, 0))) := ⟨by rw [← hq_]; exact (by (with_reducible repeat (first | refine blk_drewN ?_ _ | refine blk_drew ?_ | refine blk_alloc ?_ _)); exact BK199.out)⟩; have n1_ : Aside0 (Below w.heap.size w wc) := ⟨by rw [← hq_]; exact (by repeat (first | (with_reducible first | exact HB.out | apply below_alloc | apply pw_below_drewN | apply below_drew1 | refine below_set ?_ GE199.out) | exact HB.out))⟩; clear BK199 HB hq_; have BK199 := n0_; have HB := n1_; clear n0_ n1_))) | ((with_reducible refine gate_callee (f := 101) rfl ?_); refine goesL_ (some 101) rfl rfl Tryz.func101 (by kernel_rfl) rfl #[.string (a0.extract (a1 : Int).toNat ((wrap64 ((wrap64 (a1 + 1)) + t204)) : Int).toNat)] rfl (by (try simp only [List.map_toArray, List.map_cons, List.map_nil]); first | done | rfl | (simp only [List.length_drop, List.length_take]; rfl)) ?_; (with_reducible refine (antecedentref02_Read.calls kj25 (a0.extract (a1 : Int).toNat ((wrap64 ((wrap64 (a1 + 1)) + t204)) : Int).toNat) t205 t206 t207 t208 _ A49.out).mono ?_); rintro e w50 ⟨rfl, hb⟩; refine ⟨_, rfl, ?_⟩; have n0_ := Aside0.mk (blk_below (g := gb199) (o := .cells #[.int .i64 0, .string (⟨#[]⟩ : ByteArray), .int .i64 0] 53 (0, 0)) (by (with_reducible repeat (first | refine blk_drewN ?_ _ | refine blk_drew ?_ | refine blk_alloc ?_ _)); exact BK199.out) hb); have n1_ := Aside0.mk (below_step (by repeat (first | (with_reducible first | exact HB.out | apply below_alloc | apply pw_below_drewN | apply below_drew1 | refine below_set ?_ GE199.out) | exact HB.out)) hb); clear BK199; clear HB; have BK199 := n0_; have HB := n1_; clear n0_ n1_; (try clear hb); (try clear hb2); (try clear hk); (try clear hi)) | ((with_reducible refine gate_dst (N := 10) rfl ?_); (try (refine gate_guard (by rfl) ?_; dsimp only)); refine box_event ?hg (N := 10) ?hd (cs := #[.int .i64 0, .int .i64 0, .string (⟨#[]⟩ : ByteArray)]) (t := 58) ?hr ?_; (case hd => rfl); (case hg => rfl); (case hr => first | (go_simp; done) | (go_simp; rfl)); intro gb209 hg w51 hbox hb; have n0_ := Aside0.mk (blk_below (g := gb199) (o := .cells #[.int .i64 0, .string (⟨#[]⟩ : ByteArray), .int .i64 0] 53 (0, 0)) (by (with_reducible repeat (first | refine blk_drewN ?_ _ | refine blk_drew ?_ | refine blk_alloc ?_ _)); exact BK199.out) hb); have n1_ := Aside0.mk (below_step (by repeat (first | (with_reducible first | exact HB.out | apply below_alloc | apply pw_below_drewN | apply below_drew1 | refine below_set ?_ GE199.out) | exact HB.out)) hb); have n2_ := Aside0.mk (hbox); have n3_ := Aside0.mk ((by rw [hg]; exact (below_size (by repeat (first | (with_reducible first | exact HB.out | apply below_alloc | apply pw_below_drewN | apply below_drew1 | refine below_set ?_ GE199.out) | exact HB.out))) : w.heap.size ≤ gb209)); have n4_ := Aside0.mk ((by rw [hg]; exact (below_size (by repeat (first | (with_reducible first | exact HB.out | apply below_alloc | apply pw_below_drewN | apply below_drew1 | refine below_set ?_ GE199.out) | exact HB.out))) : w.heap.size ≤ gb209)); have n5_ := Aside0.mk ((by rw [hg]; exact Nat.ne_of_lt (blk_lt (g := gb199) (o := .cells #[.int .i64 0, .string (⟨#[]⟩ : ByteArray), .int .i64 0] 53 (0, 0)) (by (with_reducible repeat (first | refine blk_drewN ?_ _ | refine blk_drew ?_ | refine blk_alloc ?_ _)); exact BK199.out)) : gb199 ≠ gb209)); have n6_ := Aside0.mk ((by rw [hg]; exact Nat.ne_of_gt (blk_lt (g := gb199) (o := .cells #[.int .i64 0, .string (⟨#[]⟩ : ByteArray), .int .i64 0] 53 (0, 0)) (by (with_reducible repeat (first | refine blk_drewN ?_ _ | refine blk_drew ?_ | refine blk_alloc ?_ _)); exact BK199.out)) : gb209 ≠ gb199)); clear BK199; clear HB; have BK199 := n0_; have HB := n1_; have BK209 := n2_; have GW209 := n3_; have GE209 := n4_; have NB199_209 := n5_; have NB209_199 := n6_; clear n0_ n1_ n2_ n3_ n4_ n5_ n6_; clear hb hbox hg; have hnb52 := NB209_199.out; have hnc52 := NB199_209.out; have hcz53_0 : w51.cell? ⟨gb209, 0, none⟩ = some (.int .i64 0) := (blk_cell BK209.out 0).trans rfl; have hcz53_1 : w51.cell? ⟨gb209, 1, none⟩ = some (.int .i64 0) := (blk_cell BK209.out 1).trans rfl; have hcz53_2 : w51.cell? ⟨gb209, 2, none⟩ = some (.string (⟨#[]⟩ : ByteArray)) := (blk_cell BK209.out 2).trans rfl; have hfz53_0 := blk_frozen BK209.out 0; have hfz53_1 := blk_frozen BK209.out 1; have hfz53_2 := blk_frozen BK209.out 2; have hcz54_0 : w51.cell? ⟨gb199, 0, none⟩ = some (.int .i64 0) := (blk_cell BK199.out 0).trans rfl; have hcz54_1 : w51.cell? ⟨gb199, 1, none⟩ = some (.string (⟨#[]⟩ : ByteArray)) := (blk_cell BK199.out 1).trans rfl; have hcz54_2 : w51.cell? ⟨gb199, 2, none⟩ = some (.int .i64 0) := (blk_cell BK199.out 2).trans rfl; have hfz54_0 := blk_frozen BK199.out 0; have hfz54_1 := blk_frozen BK199.out 1; have hfz54_2 := blk_frozen BK199.out 2))
                              refine bodyPost_ret (results_ct rfl _ _ gb199 53 #[.int .i64 3, .string (a0.extract (a1 : Int).toNat ((wrap64 ((wrap64 (a1 + 1)) + t204)) : Int).toNat), .int .i64 a1] (0, 0) _ rfl (by (with_reducible repeat (first | refine blk_drewN ?_ _ | refine blk_drew ?_ | refine blk_alloc ?_ _)); refine blk_put (cs := #[.int .i64 3, .string (a0.extract (a1 : Int).toNat ((wrap64 ((wrap64 (a1 + 1)) + t204)) : Int).toNat), .int .i64 0]) ?_ 2 _ rfl; (with_reducible repeat (first | refine blk_drewN ?_ _ | refine blk_drew ?_ | refine blk_alloc ?_ _)); refine blk_put (cs := #[.int .i64 3, .string (⟨#[]⟩ : ByteArray), .int .i64 0]) ?_ 1 _ rfl; (with_reducible repeat (first | refine blk_drewN ?_ _ | refine blk_drew ?_ | refine blk_alloc ?_ _)); refine blk_put (cs := #[.int .i64 0, .string (⟨#[]⟩ : ByteArray), .int .i64 0]) ?_ 0 _ rfl; (with_reducible repeat (first | refine blk_drewN ?_ _ | refine blk_drew ?_ | refine blk_alloc ?_ _)); refine blk_far ?_ NB199_209.out _; (with_reducible repeat (first | refine blk_drewN ?_ _ | refine blk_drew ?_ | refine blk_alloc ?_ _)); refine blk_far ?_ NB199_209.out _; (with_reducible repeat (first | refine blk_drewN ?_ _ | refine blk_drew ?_ | refine blk_alloc ?_ _)); refine blk_far ?_ NB199_209.out _; (with_reducible repeat (first | refine blk_drewN ?_ _ | refine blk_drew ?_ | refine blk_alloc ?_ _)); exact BK199.out) Tryz.underlying53 rfl (by kernel_rfl)) rfl ?_
                              exact ⟨by first | rfl | (simp [errW_none, errW_some] <;> rfl) | (simp [*, errW_none, errW_some] <;> rfl), by repeat (first | (with_reducible first | exact HB.out | apply below_alloc | apply pw_below_drewN | apply below_drew1 | refine below_set ?_ GE199.out | refine below_set ?_ GE209.out) | exact HB.out)⟩
                            · rw [if_neg c48] at H
                              exact absurd H (by simp)
                          · rw [if_neg c47] at H
                            exact absurd H (by simp)
                        · rw [if_neg c46] at H
                          exact absurd H (by simp)
                      · replace c44 := Bool.eq_false_iff.mpr c44
                        subst c44
                        have H1 : ((antecedentref07_mark.f kj25 a0 a1).bind fun t210 => (if 0 ≤ a1 then (if a1 ≤ (wrap64 (a1 + t210)) then (if (wrap64 (a1 + t210)) ≤ (a0.size : Int) then (some (4, a0.extract (a1 : Int).toNat ((wrap64 (a1 + t210)) : Int).toNat, a1, decide (t210 > 0))) else (none)) else (none)) else (none))) = some (r1, r2, r3, r4) := by rw [if_neg (show ¬ (false = true) by decide)] at H; exact H
                        clear H
                        have H := H1
                        clear H1
                        replace H := Option.bind_eq_some_iff.mp H
                        obtain ⟨t210, A550, H⟩ := H
                        replace H : (if 0 ≤ a1 then (if a1 ≤ (wrap64 (a1 + t210)) then (if (wrap64 (a1 + t210)) ≤ (a0.size : Int) then (some (4, a0.extract (a1 : Int).toNat ((wrap64 (a1 + t210)) : Int).toNat, a1, decide (t210 > 0))) else (none)) else (none)) else (none)) = some (r1, r2, r3, r4) := H
                        have A55 := Aside0.mk A550
                        clear A550
                        by_cases c56 : 0 ≤ a1
                        · rw [if_pos c56] at H
                          have c56b0 := eq_true c56
                          have c56b1 : decide (0 ≤ a1) = true := decide_eq_true c56
                          clear c56
                          by_cases c57 : a1 ≤ (wrap64 (a1 + t210))
                          · rw [if_pos c57] at H
                            have c57b0 := eq_true c57
                            have c57b1 : decide (a1 ≤ (wrap64 (a1 + t210))) = true := decide_eq_true c57
                            by_cases c58 : (wrap64 (a1 + t210)) ≤ (a0.size : Int)
                            · rw [if_pos c58] at H
                              have c58b0 := eq_true c58
                              have c58b1 : decide ((wrap64 (a1 + t210)) ≤ (a0.size : Int)) = true := decide_eq_true c58
                              simp only [Option.some.injEq, Prod.mk.injEq] at H
                              obtain ⟨rfl, rfl, rfl, rfl⟩ := H
                              go_wp2_with (first | ((with_reducible refine gate_callee (f := 102) rfl ?_); refine goesL_ (some 111) rfl rfl Tryz.func102 (by kernel_rfl) rfl #[.string a0, .int .i64 a1] rfl (by (try simp only [List.map_toArray, List.map_cons, List.map_nil]); first | done | rfl | (simp only [List.length_drop, List.length_take]; rfl)) ?_; (with_reducible refine (antecedentref07_mark.calls kj25 a0 a1 t210 _ A55.out).mono ?_); rintro e w' ⟨rfl, ⟨nd, rfl⟩⟩; refine ⟨_, rfl, ?_⟩; (try (rw [drewN_self wc]; generalize hq_ : World.drewN wc _ = wc; have n0_ : Aside0 (wc.heap[gb199]? = some (.cells #[.int .i64 0, .string (⟨#[]⟩ : ByteArray), .int .i64 0] 53 (0, 0))) := ⟨by rw [← hq_]; exact (by (with_reducible repeat (first | refine blk_drewN ?_ _ | refine blk_drew ?_ | refine blk_alloc ?_ _)); exact BK199.out)⟩; have n1_ : Aside0 (Below w.heap.size w wc) := ⟨by rw [← hq_]; exact (by repeat (first | (with_reducible first | exact HB.out | apply below_alloc | apply pw_below_drewN | apply below_drew1 | refine below_set ?_ GE199.out) | exact HB.out))⟩; clear BK199 HB hq_; have BK199 := n0_; have HB := n1_; clear n0_ n1_)); have hcz59_0 : wc.cell? ⟨gb199, 0, none⟩ = some (.int .i64 0) := (blk_cell BK199.out 0).trans rfl; have hcz59_1 : wc.cell? ⟨gb199, 1, none⟩ = some (.string (⟨#[]⟩ : ByteArray)) := (blk_cell BK199.out 1).trans rfl; have hcz59_2 : wc.cell? ⟨gb199, 2, none⟩ = some (.int .i64 0) := (blk_cell BK199.out 2).trans rfl; have hfz59_0 := blk_frozen BK199.out 0; have hfz59_1 := blk_frozen BK199.out 1; have hfz59_2 := blk_frozen BK199.out 2))
                              refine bodyPost_ret (results_ct rfl _ _ gb199 53 #[.int .i64 4, .string (a0.extract (a1 : Int).toNat ((wrap64 (a1 + t210)) : Int).toNat), .int .i64 a1] (0, 0) _ rfl (by (with_reducible repeat (first | refine blk_drewN ?_ _ | refine blk_drew ?_ | refine blk_alloc ?_ _)); refine blk_put (cs := #[.int .i64 4, .string (a0.extract (a1 : Int).toNat ((wrap64 (a1 + t210)) : Int).toNat), .int .i64 0]) ?_ 2 _ rfl; (with_reducible repeat (first | refine blk_drewN ?_ _ | refine blk_drew ?_ | refine blk_alloc ?_ _)); refine blk_put (cs := #[.int .i64 4, .string (⟨#[]⟩ : ByteArray), .int .i64 0]) ?_ 1 _ rfl; (with_reducible repeat (first | refine blk_drewN ?_ _ | refine blk_drew ?_ | refine blk_alloc ?_ _)); refine blk_put (cs := #[.int .i64 0, .string (⟨#[]⟩ : ByteArray), .int .i64 0]) ?_ 0 _ rfl; (with_reducible repeat (first | refine blk_drewN ?_ _ | refine blk_drew ?_ | refine blk_alloc ?_ _)); exact BK199.out) Tryz.underlying53 rfl (by kernel_rfl)) rfl ?_
                              exact ⟨by first | rfl | (simp [errW_none, errW_some] <;> rfl) | (simp [*, errW_none, errW_some] <;> rfl), by repeat (first | (with_reducible first | exact HB.out | apply below_alloc | apply pw_below_drewN | apply below_drew1 | refine below_set ?_ GE199.out) | exact HB.out)⟩
                            · rw [if_neg c58] at H
                              exact absurd H (by simp)
                          · rw [if_neg c57] at H
                            exact absurd H (by simp)
                        · rw [if_neg c56] at H
                          exact absurd H (by simp)
    · rw [if_neg c4] at H
      exact absurd H (by simp)
  · rw [if_neg c3] at H
    exact absurd H (by simp)
end Go.Proofs.YthebhbomlllpeaaGreatDoor.X
namespace Go.Proofs.YthebhbomlllpeaaGreatDoor.X
open Go.RowKit Go.Proofs.YthebhbomlllpeaaGreatDoorW.PrintWords Go.Proofs.YthebhbomlllpeaaGreatDoorW.PrintLast Go.Proofs.YthebhbomlllpeaaGreatDoorW.PrintMore
private theorem max2_mx_p502 (k k' : IntKind) (x y : Int) : Builtin.max2 (.int k x) (.int k' y) = pure (.int k (mx x y)) := by rw [max2_int]; rfl
private theorem min2_mn_p502 (k k' : IntKind) (x y : Int) : Builtin.min2 (.int k x) (.int k' y) = pure (.int k (mn x y)) := by rw [min2_int]; rfl
attribute [local go_sem] max2_mx_p502 min2_mn_p502 max_two min_two max_three min_three max_four min_four
set_option linter.unusedVariables false
set_option linter.unusedSimpArgs false
mutual
def antecedentref07_Tokens.l0 : Nat → ByteArray → List (S53) → Int → Option ((List (S53)) × Int × Int)
  | 0, _, _, _ => none
  | k + 1, x0, x5, x6 => if x6 < (x0.size : Int) then (if 0 ≤ x6 then (if (bt x0 x6) = 32 then (antecedentref07_Tokens.j1 k x0 x5 x6 true) else (if (bt x0 x6) = 9 then (antecedentref07_Tokens.j1 k x0 x5 x6 true) else (antecedentref07_Tokens.j1 k x0 x5 x6 ((bt x0 x6) == 10)))) else (none)) else (some (x5, 0, 0))
def antecedentref07_Tokens.j1 : Nat → ByteArray → List (S53) → Int → Bool → Option ((List (S53)) × Int × Int)
  | 0, _, _, _, _ => none
  | k + 1, x0, x5, x6, x31 => if x31 = true then (antecedentref07_Tokens.l0 k x0 x5 (wrap64 (x6 + 1))) else ((antecedentref07_next.f k x0 x6).bind fun bt211 => (if bt211.2.2.2 = true then (if x5.length < 4398046511104 then (antecedentref07_Tokens.l0 k x0 (x5 ++ [(⟨bt211.1, bt211.2.1, bt211.2.2.1⟩ : S53)]) (wrap64 (x6 + (bt211.2.1.size : Int)))) else (none)) else (some (([] : List (S53)), x6, 2))))
end
def antecedentref07_Tokens.f (k : Nat) (a0 : ByteArray) : Option ((List (S53)) × Int × Int) := if (a0.size : Int) > 20000 then (some (([] : List (S53)), 0, 4)) else (antecedentref07_Tokens.l0 k a0 ([] : List (S53)) 0)
set_option maxHeartbeats 8000000 in
set_option maxRecDepth 100000 in
theorem antecedentref07_Tokens.calls (k : Nat) (a0 : ByteArray) (r1 : List (S53)) (r2 : Int) (r3 : Int) (w : World) (h : antecedentref07_Tokens.f k a0 = some (r1, r2, r3)) :
    Calls Tryz.prog 34 #[.string a0] w fun e w' => ∃ v0_ : Value, e = .returned (.tuple #[v0_, .int .i64 r2, .int .i64 r3]) ∧ Kd.R k53 53 w' w.heap.size (fun _ => True) v0_ r1 ∧ Below w.heap.size w w' := by
  have hu53 := Tryz.underlying53
  have HB := Aside0.mk (Below.refl w.heap.size w)
  have H : (if (a0.size : Int) > 20000 then (some (([] : List (S53)), 0, 4)) else (antecedentref07_Tokens.l0 k a0 ([] : List (S53)) 0)) = some (r1, r2, r3) := h
  clear h
  by_cases c2 : (a0.size : Int) > 20000
  · rw [if_pos c2] at H
    have c2b0 : decide (20000 < (a0.size : Int)) = true := decide_eq_true c2
    have c2b1 : decide (20000 < a0.size) = true := decide_eq_true (by omega)
    clear c2
    simp only [Option.some.injEq, Prod.mk.injEq] at H
    obtain ⟨rfl, rfl, rfl⟩ := H
    go_enter Tryz.func34, Tryz.ntmps34
    go_wp2
    go_ret3
    exact ⟨_, by first | rfl | (simp [errW_none, errW_some] <;> rfl) | (simp [*, errW_none, errW_some] <;> rfl), by first | exact Kd.R_nil _ _ _ _ _ | exact Kd.N_nil _ _ _ _ _ | exact Kd.V_nil _ _ _ _ _ | exact Kd.Q_nil _ _ _ _ _ | exact Kd.S_nil _ _ _ _ _, by repeat (first | (with_reducible first | exact HB.out | apply below_alloc | apply pw_below_drewN | apply below_drew1) | exact HB.out)⟩
  · rw [if_neg c2] at H
    have c2b0 : decide (20000 < (a0.size : Int)) = false := decide_eq_false c2
    have c2b1 : decide (20000 < a0.size) = false := decide_eq_false (by omega)
    clear c2
    have H' := Aside0.mk H
    clear H
    go_enter Tryz.func34, Tryz.ntmps34
    go_wp2
    go_loopg [5, 6] k (fun kq v5 v6 w' => ∃ (x5_1 : List (S53)) (x6_1 : Int), v6 = .int .i64 x6_1 ∧ Aside0 (antecedentref07_Tokens.l0 kq a0 x5_1 x6_1 = some (r1, r2, r3)) ∧ Aside0 (kq ≤ k) ∧ Aside0 (Kd.R k53 53 w' w.heap.size (fun _ => True) v5 x5_1) ∧ Aside0 (Below w.heap.size w w'))
    case atStart => exact ⟨(([] : List (S53))), (0), (by first | rfl | (simp; done) | (simp [*]; done)), H', ⟨Nat.le_refl _⟩, ⟨by first | exact Kd.R_nil _ _ _ _ _ | exact Kd.N_nil _ _ _ _ _ | exact Kd.V_nil _ _ _ _ _ | exact Kd.Q_nil _ _ _ _ _ | exact Kd.S_nil _ _ _ _ _⟩, ⟨by repeat (first | (with_reducible first | exact HB.out | apply below_alloc | apply pw_below_drewN | apply below_drew1) | exact HB.out)⟩⟩
    case round =>
      clear H'
      try clear c2
      try clear c2b0
      try clear c2b1
      try clear p2
      obtain ⟨x5_1, x6_1, rfl, HA, HK1, HO_5, HB⟩ := hrel
      cases gk with
      | zero => exact absurd HA.out (by simp [antecedentref07_Tokens.l0])
      | succ k1 =>
        have H := HA.out
        clear HA
        simp only [antecedentref07_Tokens.l0] at H
        by_cases c3 : x6_1 < (a0.size : Int)
        · rw [if_pos c3] at H
          have c3b0 : decide (x6_1 < (a0.size : Int)) = true := decide_eq_true c3
          clear c3
          have HC4 := Aside0.mk H
          clear H
          go_upto_region 6 with (fail)
          go_cut [31] (fun v31 wc => ∃ (kq : Nat) (x31_3 : Bool), v31 = .bool x31_3 ∧ Aside0 (antecedentref07_Tokens.j1 kq a0 x5_1 x6_1 x31_3 = some (r1, r2, r3)) ∧ Aside0 (kq ≤ k1) ∧ Aside0 (Kd.R k53 53 wc w.heap.size (fun _ => True) u5 x5_1) ∧ Aside0 (Below w.heap.size w wc))
          case first =>
            have H := HC4.out
            clear HC4
            by_cases c5 : 0 ≤ x6_1
            · rw [if_pos c5] at H
              have c5b0 : decide (0 ≤ x6_1) = true := decide_eq_true c5
              clear c5
              (first | rw [c5b0] | (simp only [i64_w, i32_w]; rw [c5b0]) | skip)
              by_cases c7 : (bt a0 x6_1) = 32
              · rw [if_pos c7] at H
                have c7b0 : ((bt a0 x6_1) == 32) = true := beq_iff_eq.mpr c7
                have c7b1 : ((bt a0 x6_1) != 32) = false := bne_eq_false_iff_eq.mpr c7
                clear c7
                have H' := Aside0.mk H
                clear H
                have p6 : 0 ≤ (x6_1 : Int) := of_decide_eq_true (by first | (with_reducible assumption) | assumption)
                have q6 : x6_1 < (a0.size : Int) := of_decide_eq_true (by first | (with_reducible assumption) | assumption)
                have hx6 := bt_at a0 x6_1
                replace p6 := eq_true p6
                replace q6 := eq_true q6
                go_wp2
                go_meet
                case rel => exact ⟨_, (true), (by first | rfl | (simp; done) | (simp [*]; done)), H', ⟨by have := HK1.out; first | omega | exact Nat.le_refl _⟩, ⟨by (with_reducible repeat (first | apply Kd.R_alloc | apply Kd.R_drewN | apply Kd.R_drew)); exact HO_5.out⟩, ⟨by repeat (first | (with_reducible first | exact HB.out | apply below_alloc | apply pw_below_drewN | apply below_drew1) | exact HB.out)⟩⟩
              · rw [if_neg c7] at H
                have c7b0 : ((bt a0 x6_1) == 32) = false := beq_eq_false_iff_ne.mpr c7
                have c7b1 : ((bt a0 x6_1) != 32) = true := bne_iff_ne.mpr c7
                by_cases c9 : (bt a0 x6_1) = 9
                · rw [if_pos c9] at H
                  have c9b0 : ((bt a0 x6_1) == 9) = true := beq_iff_eq.mpr c9
                  have c9b1 : ((bt a0 x6_1) != 9) = false := bne_eq_false_iff_eq.mpr c9
                  clear c9
                  have H' := Aside0.mk H
                  clear H
                  have p6 : 0 ≤ (x6_1 : Int) := of_decide_eq_true (by first | (with_reducible assumption) | assumption)
                  have q6 : x6_1 < (a0.size : Int) := of_decide_eq_true (by first | (with_reducible assumption) | assumption)
                  have hx6 := bt_at a0 x6_1
                  replace p6 := eq_true p6
                  replace q6 := eq_true q6
                  have p8 : 0 ≤ (x6_1 : Int) := of_decide_eq_true (by first | (with_reducible assumption) | assumption)
                  have q8 : x6_1 < (a0.size : Int) := of_decide_eq_true (by first | (with_reducible assumption) | assumption)
                  have hx8 := bt_at a0 x6_1
                  replace p8 := eq_true p8
                  replace q8 := eq_true q8
                  go_wp2
                  go_meet
                  case rel => exact ⟨_, (true), (by first | rfl | (simp; done) | (simp [*]; done)), H', ⟨by have := HK1.out; first | omega | exact Nat.le_refl _⟩, ⟨by (with_reducible repeat (first | apply Kd.R_alloc | apply Kd.R_drewN | apply Kd.R_drew)); exact HO_5.out⟩, ⟨by repeat (first | (with_reducible first | exact HB.out | apply below_alloc | apply pw_below_drewN | apply below_drew1) | exact HB.out)⟩⟩
                · rw [if_neg c9] at H
                  have c9b0 : ((bt a0 x6_1) == 9) = false := beq_eq_false_iff_ne.mpr c9
                  have c9b1 : ((bt a0 x6_1) != 9) = true := bne_iff_ne.mpr c9
                  have H' := Aside0.mk H
                  clear H
                  have p6 : 0 ≤ (x6_1 : Int) := of_decide_eq_true (by first | (with_reducible assumption) | assumption)
                  have q6 : x6_1 < (a0.size : Int) := of_decide_eq_true (by first | (with_reducible assumption) | assumption)
                  have hx6 := bt_at a0 x6_1
                  replace p6 := eq_true p6
                  replace q6 := eq_true q6
                  have p8 : 0 ≤ (x6_1 : Int) := of_decide_eq_true (by first | (with_reducible assumption) | assumption)
                  have q8 : x6_1 < (a0.size : Int) := of_decide_eq_true (by first | (with_reducible assumption) | assumption)
                  have hx8 := bt_at a0 x6_1
                  replace p8 := eq_true p8
                  replace q8 := eq_true q8
                  have p10 : 0 ≤ (x6_1 : Int) := of_decide_eq_true (by first | (with_reducible assumption) | assumption)
                  have q10 : x6_1 < (a0.size : Int) := of_decide_eq_true (by first | (with_reducible assumption) | assumption)
                  have hx10 := bt_at a0 x6_1
                  replace p10 := eq_true p10
                  replace q10 := eq_true q10
                  go_wp2
                  go_meet
                  case rel => exact ⟨_, (((bt a0 x6_1) == 10)), (by first | rfl | (simp; done) | (simp [*]; done)), H', ⟨by have := HK1.out; first | omega | exact Nat.le_refl _⟩, ⟨by (with_reducible repeat (first | apply Kd.R_alloc | apply Kd.R_drewN | apply Kd.R_drew)); exact HO_5.out⟩, ⟨by repeat (first | (with_reducible first | exact HB.out | apply below_alloc | apply pw_below_drewN | apply below_drew1) | exact HB.out)⟩⟩
            · rw [if_neg c5] at H
              exact absurd H (by simp)
          case rest =>
            clear HC4
            try clear p1
            try clear q1
            try clear hx1
            try clear c2
            try clear c2b0
            try clear c2b1
            try clear p2
            try clear c3
            try clear c3b0
            try clear c5
            try clear c5b0
            try clear p6
            try clear q6
            try clear hx6
            try clear c7
            try clear c7b0
            try clear c7b1
            try clear p8
            try clear q8
            try clear hx8
            try clear c9
            try clear c9b0
            try clear c9b1
            try clear p10
            try clear q10
            try clear hx10
            try clear p10
            try clear p2
            try clear p6
            try clear p8
            try clear q10
            try clear q6
            try clear q8
            obtain ⟨kq, x31_3, rfl, HA, HJ3, HO_5, HB⟩ := hcut
            cases kq with
            | zero => exact absurd HA.out (by simp [antecedentref07_Tokens.j1])
            | succ kj3 =>
              have H := HA.out
              clear HA
              simp only [antecedentref07_Tokens.j1] at H
              by_cases c11 : x31_3 = true
              · subst c11
                have H1 : (antecedentref07_Tokens.l0 kj3 a0 x5_1 (wrap64 (x6_1 + 1))) = some (r1, r2, r3) := by rw [if_pos rfl] at H; exact H
                clear H
                have H := H1
                clear H1
                have H' := Aside0.mk H
                clear H
                go_wp2
                go_roundg kj3
                case measure => have := HK1.out; have := HJ3.out; omega
                case rel => exact ⟨(x5_1), (wrap64 (x6_1 + 1)), (by first | rfl | (simp; done) | (simp [*]; done)), H', ⟨by have := HK1.out; have := HJ3.out; omega⟩, ⟨by (with_reducible repeat (first | apply Kd.R_alloc | apply Kd.R_drewN | apply Kd.R_drew)); exact HO_5.out⟩, ⟨by repeat (first | (with_reducible first | exact HB.out | apply below_alloc | apply pw_below_drewN | apply below_drew1) | exact HB.out)⟩⟩
              · replace c11 := Bool.eq_false_iff.mpr c11
                subst c11
                have H1 : ((antecedentref07_next.f kj3 a0 x6_1).bind fun bt211 => (if bt211.2.2.2 = true then (if x5_1.length < 4398046511104 then (antecedentref07_Tokens.l0 kj3 a0 (x5_1 ++ [(⟨bt211.1, bt211.2.1, bt211.2.2.1⟩ : S53)]) (wrap64 (x6_1 + (bt211.2.1.size : Int)))) else (none)) else (some (([] : List (S53)), x6_1, 2)))) = some (r1, r2, r3) := by rw [if_neg (show ¬ (false = true) by decide)] at H; exact H
                clear H
                have H := H1
                clear H1
                replace H := Option.bind_eq_some_iff.mp H
                obtain ⟨⟨t211, t212, t213, t214⟩, A120, H⟩ := H
                replace H : (if t214 = true then (if x5_1.length < 4398046511104 then (antecedentref07_Tokens.l0 kj3 a0 (x5_1 ++ [(⟨t211, t212, t213⟩ : S53)]) (wrap64 (x6_1 + (t212.size : Int)))) else (none)) else (some (([] : List (S53)), x6_1, 2))) = some (r1, r2, r3) := H
                have A12 := Aside0.mk A120
                clear A120
                by_cases c13 : t214 = true
                · subst c13
                  have H1 : (if x5_1.length < 4398046511104 then (antecedentref07_Tokens.l0 kj3 a0 (x5_1 ++ [(⟨t211, t212, t213⟩ : S53)]) (wrap64 (x6_1 + (t212.size : Int)))) else (none)) = some (r1, r2, r3) := by rw [if_pos rfl] at H; exact H
                  clear H
                  have H := H1
                  clear H1
                  by_cases c14 : x5_1.length < 4398046511104
                  · rw [if_pos c14] at H
                    have LMc14 := Aside0.mk c14
                    clear c14
                    obtain ⟨y216, hy216⟩ : ∃ y_ : List (S53), y_ = (x5_1 ++ [(⟨t211, t212, t213⟩ : S53)]) := ⟨_, rfl⟩
                    replace H : (antecedentref07_Tokens.l0 kj3 a0 y216 (wrap64 (x6_1 + (t212.size : Int)))) = some (r1, r2, r3) := by first | (rw [hy216]; with_reducible exact H) | (have H2_ := (Option.bind_some _ _).symm.trans H; rw [hy216]; with_reducible exact H2_) | (have H2_ := (Option.bind_some _ _).symm.trans H; with_reducible exact H2_) | with_reducible exact H | (rw [hy216]; exact H) | exact H
                    have Ny216 := Aside0.mk hy216
                    clear hy216
                    have H' := Aside0.mk H
                    clear H
                    go_wp2_with (first | ((with_reducible refine gate_callee (f := 64) rfl ?_); refine goesL_ (some 37) rfl rfl Tryz.func64 (by kernel_rfl) rfl #[.string a0, .int .i64 x6_1] rfl (by (try simp only [List.map_toArray, List.map_cons, List.map_nil]); first | done | rfl | (simp only [List.length_drop, List.length_take]; rfl)) ?_; (with_reducible refine (antecedentref07_next.calls kj3 a0 x6_1 t211 t212 t213 true _ A12.out).mono ?_); rintro e w15 ⟨rfl, hb⟩; refine ⟨_, rfl, ?_⟩; have n0_ := Aside0.mk (Kd.R_below (by (with_reducible repeat (first | apply Kd.R_alloc | apply Kd.R_drewN | apply Kd.R_drew)); exact HO_5.out) hb); have n1_ := Aside0.mk (below_step (by repeat (first | (with_reducible first | exact HB.out | apply below_alloc | apply pw_below_drewN | apply below_drew1) | exact HB.out)) hb); clear HO_5; clear HB; have HO_5 := n0_; have HB := n1_; clear n0_ n1_; (try clear hb); (try clear hb2); (try clear hk); (try clear hi)) | ((with_reducible refine gate_dst (N := 7) rfl ?_); refine box_event ?hg (N := 7) ?hd (cs := #[.int .i64 0, .string (⟨#[]⟩ : ByteArray), .int .i64 0]) (t := 53) ?hr ?_; (case hd => rfl); (case hg => rfl); (case hr => first | (go_simp; done) | (go_simp; rfl)); intro gb215 hg w16 hbox hb; have n0_ := Aside0.mk (Kd.R_below (Kd.R_elderB (by (with_reducible repeat (first | apply Kd.R_alloc | apply Kd.R_drewN | apply Kd.R_drew)); exact HO_5.out) gb215 (Nat.le_of_eq hg.symm)) hb); have n1_ := Aside0.mk (below_step (by repeat (first | (with_reducible first | exact HB.out | apply below_alloc | apply pw_below_drewN | apply below_drew1) | exact HB.out)) hb); have n2_ := Aside0.mk (hbox); have n3_ := Aside0.mk ((by rw [hg]; exact (below_size (by repeat (first | (with_reducible first | exact HB.out | apply below_alloc | apply pw_below_drewN | apply below_drew1) | exact HB.out))) : w.heap.size ≤ gb215)); have n4_ := Aside0.mk ((by rw [hg]; exact (below_size (by repeat (first | (with_reducible first | exact HB.out | apply below_alloc | apply pw_below_drewN | apply below_drew1) | exact HB.out))) : w.heap.size ≤ gb215)); clear HO_5; clear HB; have HO_5 := n0_; have HB := n1_; have BK215 := n2_; have GW215 := n3_; have GE215 := n4_; clear n0_ n1_ n2_ n3_ n4_; clear hb hbox hg; have hcz17_0 : w16.cell? ⟨gb215, 0, none⟩ = some (.int .i64 0) := (blk_cell BK215.out 0).trans rfl; have hcz17_1 : w16.cell? ⟨gb215, 1, none⟩ = some (.string (⟨#[]⟩ : ByteArray)) := (blk_cell BK215.out 1).trans rfl; have hcz17_2 : w16.cell? ⟨gb215, 2, none⟩ = some (.int .i64 0) := (blk_cell BK215.out 2).trans rfl; have hfz17_0 := blk_frozen BK215.out 0; have hfz17_1 := blk_frozen BK215.out 1; have hfz17_2 := blk_frozen BK215.out 2) | ((with_reducible refine gate_builtin (b := .append) (xs := #[.tmp 43, .tmp 45]) rfl ?_); at_builtin; refine Kd.R_append k53 (w0 := w) w.heap.size rfl (.tmp 43) (.tmp 45) 49 53 (.agg #[(.int .i64 0), (.string ⟨#[]⟩), (.int .i64 0)]) 32 rfl Tryz.underlying49 info53 rfl (by decide) (by omega) u5 x5_1 (⟨t211, t212, t213⟩ : S53) [.int .i64 t211, .string t212, .int .i64 t213] (fun k_ => k_ ≠ gb215) (fun _ => False) rfl (by first | (go_simp; done) | (go_simp; rfl)) ?aP (fun _ hk => hk.elim) ?aF ?aO ?aB ?aS ?aL ?_; (case aP => exact k53_mkM _ _ _ (⟨t211, t212, t213⟩ : S53)); (case aB => exact (by repeat (first | (with_reducible first | exact HB.out | apply below_alloc | apply pw_below_drewN | apply below_drew1 | refine below_set ?_ GE215.out) | exact HB.out))); (case aF => exact (fun k_ hk => Kd.freshB (g := gb215) (o := .cells #[.int .i64 t211, .string t212, .int .i64 t213] 53 (0, 0)) (by (with_reducible repeat (first | refine blk_drewN ?_ _ | refine blk_drew ?_ | refine blk_alloc ?_ _)); refine blk_put (cs := #[.int .i64 t211, .string t212, .int .i64 0]) ?_ 2 _ rfl; (with_reducible repeat (first | refine blk_drewN ?_ _ | refine blk_drew ?_ | refine blk_alloc ?_ _)); refine blk_put (cs := #[.int .i64 t211, .string (⟨#[]⟩ : ByteArray), .int .i64 0]) ?_ 1 _ rfl; (with_reducible repeat (first | refine blk_drewN ?_ _ | refine blk_drew ?_ | refine blk_alloc ?_ _)); refine blk_put (cs := #[.int .i64 0, .string (⟨#[]⟩ : ByteArray), .int .i64 0]) ?_ 0 _ rfl; (with_reducible repeat (first | refine blk_drewN ?_ _ | refine blk_drew ?_ | refine blk_alloc ?_ _)); exact BK215.out) k_ hk)); (case aO => exact (by (with_reducible repeat (first | apply Kd.R_alloc | apply Kd.R_drewN | apply Kd.R_drew)); exact Kd.R_mono (Kd.R_far (p := ⟨gb215, 2, none⟩) (Kd.R_far (p := ⟨gb215, 1, none⟩) (Kd.R_far (p := ⟨gb215, 0, none⟩) (Kd.R_mono HO_5.out (fun k_ hk => (⟨hk, hk.2⟩ : _ ∧ k_ ≠ gb215))) (fun _ hk => hk.2) (.int .i64 t211)) (fun _ hk => hk.2) (.string t212)) (fun _ hk => hk.2) (.int .i64 t213)) (fun _ hk => hk.1.2))); (case aS => exact (below_size (by repeat (first | (with_reducible first | exact HB.out | apply below_alloc | apply pw_below_drewN | apply below_drew1 | refine below_set ?_ GE215.out) | exact HB.out)))); (case aL => have := LMc14.out; omega); intro v217 w18 ho hb hg hat; rw [← Ny216.out] at ho; have n0_ := Aside0.mk (blk_grown (g := gb215) (o := .cells #[.int .i64 t211, .string t212, .int .i64 t213] 53 (0, 0)) (by (with_reducible repeat (first | refine blk_drewN ?_ _ | refine blk_drew ?_ | refine blk_alloc ?_ _)); refine blk_put (cs := #[.int .i64 t211, .string t212, .int .i64 0]) ?_ 2 _ rfl; (with_reducible repeat (first | refine blk_drewN ?_ _ | refine blk_drew ?_ | refine blk_alloc ?_ _)); refine blk_put (cs := #[.int .i64 t211, .string (⟨#[]⟩ : ByteArray), .int .i64 0]) ?_ 1 _ rfl; (with_reducible repeat (first | refine blk_drewN ?_ _ | refine blk_drew ?_ | refine blk_alloc ?_ _)); refine blk_put (cs := #[.int .i64 0, .string (⟨#[]⟩ : ByteArray), .int .i64 0]) ?_ 0 _ rfl; (with_reducible repeat (first | refine blk_drewN ?_ _ | refine blk_drew ?_ | refine blk_alloc ?_ _)); exact BK215.out) hg (Kd.R_away HO_5.out (fun _ hk => hk.2))); have n1_ := Aside0.mk (hb); have n2_ := Aside0.mk (ho); clear BK215; clear HB; clear HO_5; have BK215 := n0_; have HB := n1_; have HO218 := n2_; clear n0_ n1_ n2_; clear ho hb hg hat; have hcz19_0 : w18.cell? ⟨gb215, 0, none⟩ = some (.int .i64 t211) := (blk_cell BK215.out 0).trans rfl; have hcz19_1 : w18.cell? ⟨gb215, 1, none⟩ = some (.string t212) := (blk_cell BK215.out 1).trans rfl; have hcz19_2 : w18.cell? ⟨gb215, 2, none⟩ = some (.int .i64 t213) := (blk_cell BK215.out 2).trans rfl; have hfz19_0 := blk_frozen BK215.out 0; have hfz19_1 := blk_frozen BK215.out 1; have hfz19_2 := blk_frozen BK215.out 2))
                    go_roundg kj3
                    case measure => have := HK1.out; have := HJ3.out; omega
                    case rel => exact ⟨(y216), (wrap64 (x6_1 + (t212.size : Int))), (by first | rfl | (simp; done) | (simp [*]; done)), H', ⟨by have := HK1.out; have := HJ3.out; omega⟩, ⟨by (with_reducible repeat (first | apply Kd.R_alloc | apply Kd.R_drewN | apply Kd.R_drew)); exact Kd.R_mono HO218.out (fun _ hk => trivial)⟩, ⟨by repeat (first | (with_reducible first | exact HB.out | apply below_alloc | apply pw_below_drewN | apply below_drew1 | refine below_set ?_ GE215.out) | exact HB.out)⟩⟩
                  · rw [if_neg c14] at H
                    exact absurd H (by simp)
                · replace c13 := Bool.eq_false_iff.mpr c13
                  subst c13
                  have H1 : (some (([] : List (S53)), x6_1, 2)) = some (r1, r2, r3) := by rw [if_neg (show ¬ (false = true) by decide)] at H; exact H
                  clear H
                  have H := H1
                  clear H1
                  simp only [Option.some.injEq, Prod.mk.injEq] at H
                  obtain ⟨rfl, rfl, rfl⟩ := H
                  go_wp2_with (first | ((with_reducible refine gate_callee (f := 64) rfl ?_); refine goesL_ (some 37) rfl rfl Tryz.func64 (by kernel_rfl) rfl #[.string a0, .int .i64 x6_1] rfl (by (try simp only [List.map_toArray, List.map_cons, List.map_nil]); first | done | rfl | (simp only [List.length_drop, List.length_take]; rfl)) ?_; (with_reducible refine (antecedentref07_next.calls kj3 a0 x6_1 t211 t212 t213 false _ A12.out).mono ?_); rintro e w20 ⟨rfl, hb⟩; refine ⟨_, rfl, ?_⟩; have n0_ := Aside0.mk (Kd.R_below (by (with_reducible repeat (first | apply Kd.R_alloc | apply Kd.R_drewN | apply Kd.R_drew)); exact HO_5.out) hb); have n1_ := Aside0.mk (below_step (by repeat (first | (with_reducible first | exact HB.out | apply below_alloc | apply pw_below_drewN | apply below_drew1) | exact HB.out)) hb); clear HO_5; clear HB; have HO_5 := n0_; have HB := n1_; clear n0_ n1_; (try clear hb); (try clear hb2); (try clear hk); (try clear hi)) | ((with_reducible refine gate_dst (N := 7) rfl ?_); refine box_event ?hg (N := 7) ?hd (cs := #[.int .i64 0, .string (⟨#[]⟩ : ByteArray), .int .i64 0]) (t := 53) ?hr ?_; (case hd => rfl); (case hg => rfl); (case hr => first | (go_simp; done) | (go_simp; rfl)); intro gb215 hg w21 hbox hb; have n0_ := Aside0.mk (Kd.R_below (Kd.R_elderB (by (with_reducible repeat (first | apply Kd.R_alloc | apply Kd.R_drewN | apply Kd.R_drew)); exact HO_5.out) gb215 (Nat.le_of_eq hg.symm)) hb); have n1_ := Aside0.mk (below_step (by repeat (first | (with_reducible first | exact HB.out | apply below_alloc | apply pw_below_drewN | apply below_drew1) | exact HB.out)) hb); have n2_ := Aside0.mk (hbox); have n3_ := Aside0.mk ((by rw [hg]; exact (below_size (by repeat (first | (with_reducible first | exact HB.out | apply below_alloc | apply pw_below_drewN | apply below_drew1) | exact HB.out))) : w.heap.size ≤ gb215)); have n4_ := Aside0.mk ((by rw [hg]; exact (below_size (by repeat (first | (with_reducible first | exact HB.out | apply below_alloc | apply pw_below_drewN | apply below_drew1) | exact HB.out))) : w.heap.size ≤ gb215)); clear HO_5; clear HB; have HO_5 := n0_; have HB := n1_; have BK215 := n2_; have GW215 := n3_; have GE215 := n4_; clear n0_ n1_ n2_ n3_ n4_; clear hb hbox hg; have hcz22_0 : w21.cell? ⟨gb215, 0, none⟩ = some (.int .i64 0) := (blk_cell BK215.out 0).trans rfl; have hcz22_1 : w21.cell? ⟨gb215, 1, none⟩ = some (.string (⟨#[]⟩ : ByteArray)) := (blk_cell BK215.out 1).trans rfl; have hcz22_2 : w21.cell? ⟨gb215, 2, none⟩ = some (.int .i64 0) := (blk_cell BK215.out 2).trans rfl; have hfz22_0 := blk_frozen BK215.out 0; have hfz22_1 := blk_frozen BK215.out 1; have hfz22_2 := blk_frozen BK215.out 2))
                  go_ret3
                  exact ⟨_, by first | rfl | (simp [errW_none, errW_some] <;> rfl) | (simp [*, errW_none, errW_some] <;> rfl), by first | exact Kd.R_nil _ _ _ _ _ | exact Kd.N_nil _ _ _ _ _ | exact Kd.V_nil _ _ _ _ _ | exact Kd.Q_nil _ _ _ _ _ | exact Kd.S_nil _ _ _ _ _, by repeat (first | (with_reducible first | exact HB.out | apply below_alloc | apply pw_below_drewN | apply below_drew1 | refine below_set ?_ GE215.out) | exact HB.out)⟩
        · rw [if_neg c3] at H
          have c3b0 : decide (x6_1 < (a0.size : Int)) = false := decide_eq_false c3
          clear c3
          simp only [Option.some.injEq, Prod.mk.injEq] at H
          obtain ⟨rfl, rfl, rfl⟩ := H
          go_wp2
          go_ret3
          exact ⟨_, by first | rfl | (simp [errW_none, errW_some] <;> rfl) | (simp [*, errW_none, errW_some] <;> rfl), by (with_reducible repeat (first | apply Kd.R_alloc | apply Kd.R_drewN | apply Kd.R_drew)); exact HO_5.out, by repeat (first | (with_reducible first | exact HB.out | apply below_alloc | apply pw_below_drewN | apply below_drew1) | exact HB.out)⟩
def antecedentref08_Deep.l0 : Nat → List (S53) → Int → Int → Int → Int → Option (Int)
  | 0, _, _, _, _, _ => none
  | k + 1, x3, x6, x7, x16, x17 => if x17 < x16 then (if 0 ≤ x17 then (if x17 < (x3.length : Int) then (if ((rd_T53 x3 x17).f1).toList = ([40] : List UInt8) then (if ((rd_T53 x3 x17).f1).toList = ([41] : List UInt8) then (antecedentref08_Deep.l0 k x3 (mx 0 (wrap64 ((wrap64 (x6 + 1)) - 1))) (mx x7 (mx 0 (wrap64 ((wrap64 (x6 + 1)) - 1)))) x16 (wrap64 (x17 + 1))) else (antecedentref08_Deep.l0 k x3 (wrap64 (x6 + 1)) (mx x7 (wrap64 (x6 + 1))) x16 (wrap64 (x17 + 1)))) else (if ((rd_T53 x3 x17).f1).toList = ([41] : List UInt8) then (antecedentref08_Deep.l0 k x3 (mx 0 (wrap64 (x6 - 1))) (mx x7 (mx 0 (wrap64 (x6 - 1)))) x16 (wrap64 (x17 + 1))) else (antecedentref08_Deep.l0 k x3 x6 (mx x7 x6) x16 (wrap64 (x17 + 1))))) else (none)) else (none)) else (some x7)
def antecedentref08_Deep.f (k : Nat) (a0 : ByteArray) : Option (Int) := (antecedentref07_Tokens.f k a0).bind fun bt219 => (antecedentref08_Deep.l0 k bt219.1 0 0 (bt219.1.length : Int) 0)
set_option maxHeartbeats 8000000 in
set_option maxRecDepth 100000 in
theorem antecedentref08_Deep.calls (k : Nat) (a0 : ByteArray) (r : Int) (w : World) (h : antecedentref08_Deep.f k a0 = some r) :
    Calls Tryz.prog 33 #[.string a0] w fun e w' => e = .returned (.int .i64 r) ∧ Below w.heap.size w w' := by
  have HB := Aside0.mk (Below.refl w.heap.size w)
  have H : ((antecedentref07_Tokens.f k a0).bind fun bt219 => (antecedentref08_Deep.l0 k bt219.1 0 0 (bt219.1.length : Int) 0)) = some r := h
  clear h
  replace H := Option.bind_eq_some_iff.mp H
  obtain ⟨⟨t219, t220, t221⟩, A20, H⟩ := H
  replace H : (antecedentref08_Deep.l0 k t219 0 0 (t219.length : Int) 0) = some r := H
  have A2 := Aside0.mk A20
  clear A20
  have H' := Aside0.mk H
  clear H
  go_enter Tryz.func33, Tryz.ntmps33
  go_wp2_with (first | ((with_reducible refine gate_callee (f := 34) rfl ?_); refine goesL_ (some 11) rfl rfl Tryz.func34 (by kernel_rfl) rfl #[.string a0] rfl (by (try simp only [List.map_toArray, List.map_cons, List.map_nil]); first | done | rfl | (simp only [List.length_drop, List.length_take]; rfl)) ?_; (with_reducible refine (antecedentref07_Tokens.calls k a0 t219 t220 t221 _ A2.out).mono ?_); rintro e w3 ⟨v222, rfl, ho0, hb⟩; refine ⟨_, rfl, ?_⟩; have n0_ := Aside0.mk (Kd.R_lower ho0 (below_size (by repeat (first | (with_reducible first | exact HB.out | apply below_alloc | apply pw_below_drewN | apply below_drew1) | exact HB.out)))); have n1_ := Aside0.mk (below_step (by repeat (first | (with_reducible first | exact HB.out | apply below_alloc | apply pw_below_drewN | apply below_drew1) | exact HB.out)) hb); clear HB; have HO223 := n0_; have HB := n1_; clear n0_ n1_; (try clear hb); (try clear hb2); (try clear hk); (try clear hi); (try clear ho0); obtain ⟨Ao4, co4, eo4⟩ := Kd.R_slice HO223.out; subst eo4))
  go_loopg [6, 7, 17] k (fun kq v6 v7 v17 w' => ∃ (x6_1 : Int) (x7_1 : Int) (x17_1 : Int), v6 = .int .i64 x6_1 ∧ v7 = .int .i64 x7_1 ∧ v17 = .int .i64 x17_1 ∧ Aside0 (antecedentref08_Deep.l0 kq t219 x6_1 x7_1 (t219.length : Int) x17_1 = some r) ∧ Aside0 (kq ≤ k) ∧ Aside0 (Kd.R k53 53 w' w.heap.size (fun _ => True) (.slice Ao4 t219.length co4) t219) ∧ Aside0 (Below w.heap.size w w'))
  case atStart => exact ⟨(0), (0), (0), (by first | rfl | (simp; done) | (simp [*]; done)), (by first | rfl | (simp; done) | (simp [*]; done)), (by first | rfl | (simp; done) | (simp [*]; done)), H', ⟨Nat.le_refl _⟩, ⟨by (with_reducible repeat (first | apply Kd.R_alloc | apply Kd.R_drewN | apply Kd.R_drew)); exact HO223.out⟩, ⟨by repeat (first | (with_reducible first | exact HB.out | apply below_alloc | apply pw_below_drewN | apply below_drew1) | exact HB.out)⟩⟩
  case round =>
    clear H'
    try clear p2
    try clear c3
    obtain ⟨x6_1, x7_1, x17_1, rfl, rfl, rfl, HA, HK1, HO_3, HB⟩ := hrel
    cases gk with
    | zero => exact absurd HA.out (by simp [antecedentref08_Deep.l0])
    | succ k1 =>
      have H := HA.out
      clear HA
      simp only [antecedentref08_Deep.l0] at H
      by_cases c5 : x17_1 < (t219.length : Int)
      · rw [if_pos c5] at H
        have c5b0 : decide (x17_1 < (t219.length : Int)) = true := decide_eq_true c5
        clear c5
        by_cases c6 : 0 ≤ x17_1
        · rw [if_pos c6] at H
          have c6b0 : decide (0 ≤ x17_1) = true := decide_eq_true c6
          clear c6
          by_cases c7 : x17_1 < (t219.length : Int)
          · rw [if_pos c7] at H
            have c7b0 : decide (x17_1 < (t219.length : Int)) = true := decide_eq_true c7
            clear c7
            by_cases c8 : ((rd_T53 t219 x17_1).f1).toList = ([40] : List UInt8)
            · rw [if_pos c8] at H
              have c8b0 : (((rd_T53 t219 x17_1).f1).toList == ([40] : List UInt8)) = true := beq_iff_eq.mpr c8
              have c8b1 : (((rd_T53 t219 x17_1).f1).toList != ([40] : List UInt8)) = false := bne_eq_false_iff_eq.mpr c8
              clear c8
              by_cases c9 : ((rd_T53 t219 x17_1).f1).toList = ([41] : List UInt8)
              · rw [if_pos c9] at H
                have c9b0 : (((rd_T53 t219 x17_1).f1).toList == ([41] : List UInt8)) = true := beq_iff_eq.mpr c9
                have c9b1 : (((rd_T53 t219 x17_1).f1).toList != ([41] : List UInt8)) = false := bne_eq_false_iff_eq.mpr c9
                clear c9
                obtain ⟨ji10, hji10⟩ : ∃ j_ : Int, (mx 0 (wrap64 ((wrap64 (x6_1 + 1)) - 1))) = j_ := ⟨_, rfl⟩
                replace H : (antecedentref08_Deep.l0 k1 t219 ji10 (mx x7_1 (ji10)) (t219.length : Int) (wrap64 (x17_1 + 1))) = some r := by first | (rw [hji10] at H; exact H) | (simp only [hji10] at H ⊢; exact H)
                have hji10_ : (if 0 < (wrap64 ((wrap64 (x6_1 + 1)) - 1)) then (wrap64 ((wrap64 (x6_1 + 1)) - 1)) else 0) = ji10 := hji10
                obtain ⟨ji11, hji11⟩ : ∃ j_ : Int, (mx x7_1 (ji10)) = j_ := ⟨_, rfl⟩
                replace H : (antecedentref08_Deep.l0 k1 t219 ji10 ji11 (t219.length : Int) (wrap64 (x17_1 + 1))) = some r := by first | (rw [hji11] at H; exact H) | (simp only [hji11] at H ⊢; exact H)
                have hji11_ : (if x7_1 < (ji10) then (ji10) else x7_1) = ji11 := hji11
                have H' := Aside0.mk H
                clear H
                have p224 : 0 ≤ (x17_1 : Int) := of_decide_eq_true (by first | (with_reducible assumption) | assumption)
                have q224 : x17_1 < (t219.length : Int) := of_decide_eq_true (by first | (with_reducible assumption) | assumption)
                obtain ⟨ad224, e224, hx224_0, hx224_1, hx224_2⟩ := at_T53 (Kd.R_reads' HO_3.out).2.2 x17_1 p224 q224
                cases e224
                replace p224 := eq_true p224
                replace q224 := eq_true q224
                have p225 : 0 ≤ (x17_1 : Int) := of_decide_eq_true (by first | (with_reducible assumption) | assumption)
                have q225 : x17_1 < (t219.length : Int) := of_decide_eq_true (by first | (with_reducible assumption) | assumption)
                obtain ⟨ad225, e225, hx225_0, hx225_1, hx225_2⟩ := at_T53 (Kd.R_reads' HO_3.out).2.2 x17_1 p225 q225
                obtain rfl : ad224 = ad225 := (by injection e225)
                replace p225 := eq_true p225
                replace q225 := eq_true q225
                go_wp2
                go_roundg k1
                case measure => have := HK1.out; omega
                case rel => exact ⟨(ji10), (ji11), (wrap64 (x17_1 + 1)), (by first | rfl | (simp; done) | (simp only [← hji10] <;> (first | rfl | simp)) | (simp [*]; done)), (by first | rfl | (simp; done) | (simp only [← hji11] <;> (first | rfl | simp)) | (simp [*]; done)), (by first | rfl | (simp; done) | (simp [*]; done)), H', ⟨by have := HK1.out; omega⟩, ⟨by (with_reducible repeat (first | apply Kd.R_alloc | apply Kd.R_drewN | apply Kd.R_drew)); exact HO_3.out⟩, ⟨by repeat (first | (with_reducible first | exact HB.out | apply below_alloc | apply pw_below_drewN | apply below_drew1) | exact HB.out)⟩⟩
              · rw [if_neg c9] at H
                have c9b0 : (((rd_T53 t219 x17_1).f1).toList == ([41] : List UInt8)) = false := beq_eq_false_iff_ne.mpr c9
                have c9b1 : (((rd_T53 t219 x17_1).f1).toList != ([41] : List UInt8)) = true := bne_iff_ne.mpr c9
                obtain ⟨ji12, hji12⟩ : ∃ j_ : Int, (mx x7_1 (wrap64 (x6_1 + 1))) = j_ := ⟨_, rfl⟩
                replace H : (antecedentref08_Deep.l0 k1 t219 (wrap64 (x6_1 + 1)) ji12 (t219.length : Int) (wrap64 (x17_1 + 1))) = some r := by first | (rw [hji12] at H; exact H) | (simp only [hji12] at H ⊢; exact H)
                have hji12_ : (if x7_1 < (wrap64 (x6_1 + 1)) then (wrap64 (x6_1 + 1)) else x7_1) = ji12 := hji12
                have H' := Aside0.mk H
                clear H
                have p224 : 0 ≤ (x17_1 : Int) := of_decide_eq_true (by first | (with_reducible assumption) | assumption)
                have q224 : x17_1 < (t219.length : Int) := of_decide_eq_true (by first | (with_reducible assumption) | assumption)
                obtain ⟨ad224, e224, hx224_0, hx224_1, hx224_2⟩ := at_T53 (Kd.R_reads' HO_3.out).2.2 x17_1 p224 q224
                cases e224
                replace p224 := eq_true p224
                replace q224 := eq_true q224
                have p225 : 0 ≤ (x17_1 : Int) := of_decide_eq_true (by first | (with_reducible assumption) | assumption)
                have q225 : x17_1 < (t219.length : Int) := of_decide_eq_true (by first | (with_reducible assumption) | assumption)
                obtain ⟨ad225, e225, hx225_0, hx225_1, hx225_2⟩ := at_T53 (Kd.R_reads' HO_3.out).2.2 x17_1 p225 q225
                obtain rfl : ad224 = ad225 := (by injection e225)
                replace p225 := eq_true p225
                replace q225 := eq_true q225
                go_wp2
                go_roundg k1
                case measure => have := HK1.out; omega
                case rel => exact ⟨(wrap64 (x6_1 + 1)), (ji12), (wrap64 (x17_1 + 1)), (by first | rfl | (simp; done) | (simp [*]; done)), (by first | rfl | (simp; done) | (simp only [← hji12] <;> (first | rfl | simp)) | (simp [*]; done)), (by first | rfl | (simp; done) | (simp [*]; done)), H', ⟨by have := HK1.out; omega⟩, ⟨by (with_reducible repeat (first | apply Kd.R_alloc | apply Kd.R_drewN | apply Kd.R_drew)); exact HO_3.out⟩, ⟨by repeat (first | (with_reducible first | exact HB.out | apply below_alloc | apply pw_below_drewN | apply below_drew1) | exact HB.out)⟩⟩
            · rw [if_neg c8] at H
              have c8b0 : (((rd_T53 t219 x17_1).f1).toList == ([40] : List UInt8)) = false := beq_eq_false_iff_ne.mpr c8
              have c8b1 : (((rd_T53 t219 x17_1).f1).toList != ([40] : List UInt8)) = true := bne_iff_ne.mpr c8
              by_cases c13 : ((rd_T53 t219 x17_1).f1).toList = ([41] : List UInt8)
              · rw [if_pos c13] at H
                have c13b0 : (((rd_T53 t219 x17_1).f1).toList == ([41] : List UInt8)) = true := beq_iff_eq.mpr c13
                have c13b1 : (((rd_T53 t219 x17_1).f1).toList != ([41] : List UInt8)) = false := bne_eq_false_iff_eq.mpr c13
                clear c13
                obtain ⟨ji14, hji14⟩ : ∃ j_ : Int, (mx 0 (wrap64 (x6_1 - 1))) = j_ := ⟨_, rfl⟩
                replace H : (antecedentref08_Deep.l0 k1 t219 ji14 (mx x7_1 (ji14)) (t219.length : Int) (wrap64 (x17_1 + 1))) = some r := by first | (rw [hji14] at H; exact H) | (simp only [hji14] at H ⊢; exact H)
                have hji14_ : (if 0 < (wrap64 (x6_1 - 1)) then (wrap64 (x6_1 - 1)) else 0) = ji14 := hji14
                obtain ⟨ji15, hji15⟩ : ∃ j_ : Int, (mx x7_1 (ji14)) = j_ := ⟨_, rfl⟩
                replace H : (antecedentref08_Deep.l0 k1 t219 ji14 ji15 (t219.length : Int) (wrap64 (x17_1 + 1))) = some r := by first | (rw [hji15] at H; exact H) | (simp only [hji15] at H ⊢; exact H)
                have hji15_ : (if x7_1 < (ji14) then (ji14) else x7_1) = ji15 := hji15
                have H' := Aside0.mk H
                clear H
                have p224 : 0 ≤ (x17_1 : Int) := of_decide_eq_true (by first | (with_reducible assumption) | assumption)
                have q224 : x17_1 < (t219.length : Int) := of_decide_eq_true (by first | (with_reducible assumption) | assumption)
                obtain ⟨ad224, e224, hx224_0, hx224_1, hx224_2⟩ := at_T53 (Kd.R_reads' HO_3.out).2.2 x17_1 p224 q224
                cases e224
                replace p224 := eq_true p224
                replace q224 := eq_true q224
                have p226 : 0 ≤ (x17_1 : Int) := of_decide_eq_true (by first | (with_reducible assumption) | assumption)
                have q226 : x17_1 < (t219.length : Int) := of_decide_eq_true (by first | (with_reducible assumption) | assumption)
                obtain ⟨ad226, e226, hx226_0, hx226_1, hx226_2⟩ := at_T53 (Kd.R_reads' HO_3.out).2.2 x17_1 p226 q226
                obtain rfl : ad224 = ad226 := (by injection e226)
                replace p226 := eq_true p226
                replace q226 := eq_true q226
                go_wp2
                go_roundg k1
                case measure => have := HK1.out; omega
                case rel => exact ⟨(ji14), (ji15), (wrap64 (x17_1 + 1)), (by first | rfl | (simp; done) | (simp only [← hji14] <;> (first | rfl | simp)) | (simp [*]; done)), (by first | rfl | (simp; done) | (simp only [← hji15] <;> (first | rfl | simp)) | (simp [*]; done)), (by first | rfl | (simp; done) | (simp [*]; done)), H', ⟨by have := HK1.out; omega⟩, ⟨by (with_reducible repeat (first | apply Kd.R_alloc | apply Kd.R_drewN | apply Kd.R_drew)); exact HO_3.out⟩, ⟨by repeat (first | (with_reducible first | exact HB.out | apply below_alloc | apply pw_below_drewN | apply below_drew1) | exact HB.out)⟩⟩
              · rw [if_neg c13] at H
                have c13b0 : (((rd_T53 t219 x17_1).f1).toList == ([41] : List UInt8)) = false := beq_eq_false_iff_ne.mpr c13
                have c13b1 : (((rd_T53 t219 x17_1).f1).toList != ([41] : List UInt8)) = true := bne_iff_ne.mpr c13
                obtain ⟨ji16, hji16⟩ : ∃ j_ : Int, (mx x7_1 x6_1) = j_ := ⟨_, rfl⟩
                replace H : (antecedentref08_Deep.l0 k1 t219 x6_1 ji16 (t219.length : Int) (wrap64 (x17_1 + 1))) = some r := by first | (rw [hji16] at H; exact H) | (simp only [hji16] at H ⊢; exact H)
                have hji16_ : (if x7_1 < x6_1 then x6_1 else x7_1) = ji16 := hji16
                have H' := Aside0.mk H
                clear H
                have p224 : 0 ≤ (x17_1 : Int) := of_decide_eq_true (by first | (with_reducible assumption) | assumption)
                have q224 : x17_1 < (t219.length : Int) := of_decide_eq_true (by first | (with_reducible assumption) | assumption)
                obtain ⟨ad224, e224, hx224_0, hx224_1, hx224_2⟩ := at_T53 (Kd.R_reads' HO_3.out).2.2 x17_1 p224 q224
                cases e224
                replace p224 := eq_true p224
                replace q224 := eq_true q224
                have p226 : 0 ≤ (x17_1 : Int) := of_decide_eq_true (by first | (with_reducible assumption) | assumption)
                have q226 : x17_1 < (t219.length : Int) := of_decide_eq_true (by first | (with_reducible assumption) | assumption)
                obtain ⟨ad226, e226, hx226_0, hx226_1, hx226_2⟩ := at_T53 (Kd.R_reads' HO_3.out).2.2 x17_1 p226 q226
                obtain rfl : ad224 = ad226 := (by injection e226)
                replace p226 := eq_true p226
                replace q226 := eq_true q226
                go_wp2
                go_roundg k1
                case measure => have := HK1.out; omega
                case rel => exact ⟨(x6_1), (ji16), (wrap64 (x17_1 + 1)), (by first | rfl | (simp; done) | (simp [*]; done)), (by first | rfl | (simp; done) | (simp only [← hji16] <;> (first | rfl | simp)) | (simp [*]; done)), (by first | rfl | (simp; done) | (simp [*]; done)), H', ⟨by have := HK1.out; omega⟩, ⟨by (with_reducible repeat (first | apply Kd.R_alloc | apply Kd.R_drewN | apply Kd.R_drew)); exact HO_3.out⟩, ⟨by repeat (first | (with_reducible first | exact HB.out | apply below_alloc | apply pw_below_drewN | apply below_drew1) | exact HB.out)⟩⟩
          · rw [if_neg c7] at H
            exact absurd H (by simp)
        · rw [if_neg c6] at H
          exact absurd H (by simp)
      · rw [if_neg c5] at H
        have c5b0 : decide (x17_1 < (t219.length : Int)) = false := decide_eq_false c5
        clear c5
        obtain rfl := Option.some.inj H
        go_wp2
        go_ret
        exact ⟨by first | rfl | (simp [errW_none, errW_some] <;> rfl) | (simp [*, errW_none, errW_some] <;> rfl), by repeat (first | (with_reducible first | exact HB.out | apply below_alloc | apply pw_below_drewN | apply below_drew1) | exact HB.out)⟩
end Go.Proofs.YthebhbomlllpeaaGreatDoor.X
namespace Go.Proofs.YthebhbomlllpeaaGreatDoor.X
set_option linter.unusedVariables false
set_option linter.unusedSimpArgs false
open Go.RowKit Go.Proofs.YthebhbomlllpeaaGreatDoorW.PrintWords Go.Proofs.YthebhbomlllpeaaGreatDoorW.PrintLast Go.Proofs.YthebhbomlllpeaaGreatDoorW.PrintMore
theorem u8_iff (c : UInt8) (n : Nat) (hn : n < 256) : ((c.toNat : Int) = (n : Int)) ↔ c = UInt8.ofNat n := by
  have := u8_eq_nat c n hn
  rw [← beq_iff_eq, this, beq_iff_eq]
theorem ref_sign_all : ∀ c : Fin 256, antecedentref07_sign.f (c.val : Int) = some (signB (UInt8.ofNat c.val)) := by decide +kernel
theorem ref_sign_eq (c : UInt8) : antecedentref07_sign.f (c.toNat : Int) = some (signB c) := by
  have := ref_sign_all ⟨c.toNat, c.toNat_lt⟩
  simpa using this
/-- the signs that count: small ones alone, or all. -/
def pB (b : Bool) (c : UInt8) : Bool := signB c && !(b && greatN c)
theorem runN_congr {p q : UInt8 → Bool} (h : ∀ c, p c = q c) : ∀ l, runN p l = runN q l
  | [] => rfl
  | c :: r => by simp only [runN, h c, runN_congr h r]
theorem pB_true (c : UInt8) : pB true c = lowB c := by
  unfold pB signB
  cases hl : lowB c with
  | true =>
    cases hg : greatN c with
    | true => have := great_not_low hg; rw [hl] at this; cases this
    | false => rfl
  | false => cases greatN c <;> rfl
theorem pB_false (c : UInt8) : pB false c = signB c := by unfold pB; simp
theorem ref_run_l0 (s : ByteArray) (hs : s.size ≤ 20000) (at_ : Nat) (b : Bool) : ∀ (d n k : Nat), s.size - (at_ + n) = d → at_ + n ≤ s.size → d < k → antecedentref07_run.l0 k s (at_ : Int) b (n : Int) = some ((n + runN (pB b) (s.data.toList.drop (at_ + n)) : Nat) : Int)
  | 0, n, k, hd, hn, hk => by
    obtain ⟨k, rfl⟩ : ∃ m, k = m + 1 := ⟨k - 1, by omega⟩
    simp only [antecedentref07_run.l0]
    rw [show wrap64 ((at_ : Int) + (n : Int)) = ((at_ + n : Nat) : Int) by unfold wrap64; omega, if_neg (by omega), runN_end _ _ _ (by rw [data_length]; omega)]
    rfl
  | d + 1, n, k, hd, hn, hk => by
    obtain ⟨k, rfl⟩ : ∃ m, k = m + 1 := ⟨k - 1, by omega⟩
    have hlt : at_ + n < s.size := by omega
    have ih := ref_run_l0 s hs at_ b d (n + 1) k (by omega) (by omega) (by omega)
    have hst := runN_step (pB b) s.data.toList (at_ + n) (by rw [data_length]; exact hlt)
    rw [getElem_data s _ hlt] at hst
    simp only [antecedentref07_run.l0]
    rw [show wrap64 ((at_ : Int) + (n : Int)) = ((at_ + n : Nat) : Int) by unfold wrap64; omega, if_pos (by omega), if_pos (by omega), bt_nat s _ hlt, ref_sign_eq]
    simp only [Option.bind_some]
    rw [show wrap64 ((n : Int) + 1) = ((n + 1 : Nat) : Int) by unfold wrap64; omega, ih, hst]
    generalize hc : s[at_ + n] = c
    have hstep : some (((n + 1 + runN (pB b) (s.data.toList.drop (at_ + (n + 1))) : Nat) : Int)) = some (((n + (runN (pB b) (s.data.toList.drop (at_ + n + 1)) + 1) : Nat) : Int)) := by
      rw [show at_ + (n + 1) = at_ + n + 1 by omega]; congr 1; omega
    cases hs1 : signB c with
    | false =>
      have : pB b c = false := by unfold pB; rw [hs1]; rfl
      rw [this]; simp
    | true =>
      rw [if_pos rfl]
      cases b with
      | false =>
        rw [if_neg (by simp)]
        have : pB false c = true := by rw [pB_false]; exact hs1
        rw [this, if_pos rfl]
        exact hstep
      | true =>
        rw [if_pos rfl]
        cases hg : greatN c with
        | true =>
          have h2 := hg
          unfold greatN at h2
          rw [decide_eq_true_eq] at h2
          have : pB true c = false := by unfold pB; rw [hs1, hg]; rfl
          rw [if_pos (by omega), if_pos (by omega), this]
          simp
        | false =>
          have h2 := hg
          unfold greatN at h2
          rw [decide_eq_false_iff_not] at h2
          have : pB true c = true := by unfold pB; rw [hs1, hg]; rfl
          rw [this, if_pos rfl]
          by_cases h3 : ((c.toNat : Int)) ≥ 65
          · rw [if_pos h3, if_neg (by omega)]; exact hstep
          · rw [if_neg h3]; exact hstep
theorem ref_run_eq (s : ByteArray) (hs : s.size ≤ 20000) (a : Nat) (ha : a ≤ s.size) (b : Bool) (k : Nat) (hk : s.size < k) : antecedentref07_run.f k s (a : Int) b = some ((runN (pB b) (s.data.toList.drop a) : Nat) : Int) := by
  unfold antecedentref07_run.f
  have := ref_run_l0 s hs a b _ 0 k rfl (by omega) (by omega)
  rw [Nat.zero_add] at this
  exact this
theorem ref_mark_eq (s : ByteArray) (hs : s.size ≤ 20000) (a : Nat) (ha : a < s.size) (k : Nat) (hk : 5 ≤ k) : antecedentref07_mark.f k s (a : Int) = some (if twoB (s.data.toList.drop a) then 2 else if oneB s[a] then 1 else 0) := by
  obtain ⟨k, rfl⟩ : ∃ m, k = m + 2 := ⟨k - 2, by omega⟩
  have hj1 : ∀ b : Bool, antecedentref07_mark.j1 (k + 1) s (a : Int) b = some (if b then 2 else if oneB s[a] then 1 else 0) := fun b => by
    simp only [antecedentref07_mark.j1]
    cases b with
    | true => rfl
    | false =>
      rw [if_neg (by simp), if_pos (by omega), if_pos (by omega), bt_nat s a ha]
      generalize s[a] = c
      have h : ∀ n : Nat, n < 256 → (((c.toNat : Int) = (n : Int)) ↔ c = UInt8.ofNat n) := fun n hn => by
        have := u8_eq_nat c n hn
        rw [← beq_iff_eq, this, beq_iff_eq]
      have e40 : (c.toNat : Int) = 40 ↔ c = 40 := h 40 (by omega); have e41 : (c.toNat : Int) = 41 ↔ c = 41 := h 41 (by omega); have e44 : (c.toNat : Int) = 44 ↔ c = 44 := h 44 (by omega); have e46 : (c.toNat : Int) = 46 ↔ c = 46 := h 46 (by omega); have e60 : (c.toNat : Int) = 60 ↔ c = 60 := h 60 (by omega); have e61 : (c.toNat : Int) = 61 ↔ c = 61 := h 61 (by omega); have e47 : (c.toNat : Int) = 47 ↔ c = 47 := h 47 (by omega)
      have e124 : (c.toNat : Int) = 124 ↔ c = 124 := h 124 (by omega); have e42 : (c.toNat : Int) = 42 ↔ c = 42 := h 42 (by omega); have e43 : (c.toNat : Int) = 43 ↔ c = 43 := h 43 (by omega); have e63 : (c.toNat : Int) = 63 ↔ c = 63 := h 63 (by omega); have e94 : (c.toNat : Int) = 94 ↔ c = 94 := h 94 (by omega)
      unfold oneB
      have hall : ∀ c : UInt8, ([40, 41, 44, 46, 60, 61, 47, 124, 42, 43, 63, 94] : List UInt8).contains c = decide (c = 40 ∨ c = 41 ∨ c = 44 ∨ c = 46 ∨ c = 60 ∨ c = 61 ∨ c = 47 ∨ c = 124 ∨ c = 42 ∨ c = 43 ∨ c = 63 ∨ c = 94) := fun c => by
        rw [Bool.eq_iff_iff]
        simp
      rw [hall]
      by_cases q40 : c = 40
      · rw [if_pos (e40.2 q40)]; simp [q40]
      rw [if_neg (fun z => q40 (e40.1 z))]
      by_cases q41 : c = 41
      · rw [if_pos (e41.2 q41)]; simp [q41]
      rw [if_neg (fun z => q41 (e41.1 z))]
      by_cases q44 : c = 44
      · rw [if_pos (e44.2 q44)]; simp [q44]
      rw [if_neg (fun z => q44 (e44.1 z))]
      by_cases q46 : c = 46
      · rw [if_pos (e46.2 q46)]; simp [q46]
      rw [if_neg (fun z => q46 (e46.1 z))]
      by_cases q60 : c = 60
      · rw [if_pos (e60.2 q60)]; simp [q60]
      rw [if_neg (fun z => q60 (e60.1 z))]
      by_cases q61 : c = 61
      · rw [if_pos (e61.2 q61)]; simp [q61]
      rw [if_neg (fun z => q61 (e61.1 z))]
      by_cases q47 : c = 47
      · rw [if_pos (e47.2 q47)]; simp [q47]
      rw [if_neg (fun z => q47 (e47.1 z))]
      by_cases q124 : c = 124
      · rw [if_pos (e124.2 q124)]; simp [q124]
      rw [if_neg (fun z => q124 (e124.1 z))]
      by_cases q42 : c = 42
      · rw [if_pos (e42.2 q42)]; simp [q42]
      rw [if_neg (fun z => q42 (e42.1 z))]
      by_cases q43 : c = 43
      · rw [if_pos (e43.2 q43)]; simp [q43]
      rw [if_neg (fun z => q43 (e43.1 z))]
      by_cases q63 : c = 63
      · rw [if_pos (e63.2 q63)]; simp [q63]
      rw [if_neg (fun z => q63 (e63.1 z))]
      by_cases q94 : c = 94
      · rw [if_pos (e94.2 q94)]; simp [q94]
      rw [if_neg (fun z => q94 (e94.1 z))]
      simp [q40, q41, q44, q46, q60, q61, q47, q124, q42, q43, q63, q94]
  have hj0 : ∀ z : ByteArray, antecedentref07_mark.j0 (k + 2) s (a : Int) z = some (if (z.data.toList == [60, 61] || z.data.toList == [33, 61] || z.data.toList == [58, 45] || z.data.toList == [63, 45]) then 2 else if oneB s[a] then 1 else 0) := fun z => by
    simp only [antecedentref07_mark.j0, hj1, toList_data]
    by_cases q0 : z.data.toList = [60, 61]
    · rw [if_pos q0]; simp [q0]
    rw [if_neg q0]
    by_cases q1 : z.data.toList = [33, 61]
    · rw [if_pos q1]; simp [q1]
    rw [if_neg q1]
    by_cases q2 : z.data.toList = [58, 45]
    · rw [if_pos q2]; simp [q2]
    rw [if_neg q2]
    have h0 : (z.data.toList == [60, 61]) = false := beq_eq_false_iff_ne.2 q0
    have h1 : (z.data.toList == [33, 61]) = false := beq_eq_false_iff_ne.2 q1
    have h2 : (z.data.toList == [58, 45]) = false := beq_eq_false_iff_ne.2 q2
    rw [h0, h1, h2]
    simp
  unfold antecedentref07_mark.f
  rw [show wrap64 ((a : Int) + 2) = ((a + 2 : Nat) : Int) by unfold wrap64; omega]
  by_cases h2 : a + 2 ≤ s.size
  · rw [if_pos (by omega), if_pos (by omega), if_pos (by omega), hj0, Int.toNat_natCast, Int.toNat_natCast]
    have e : (s.extract a (a + 2)).data.toList = (s.data.toList.drop a).take 2 := by
      rw [extract_list, List.take_drop, Nat.add_comm]
    rw [e]
    rfl
  · rw [if_neg (by omega), hj0]
    have e : ∀ p : List UInt8, p.length = 2 → ((s.data.toList.drop a).take 2 == p) = false := fun p hp => by
      rw [beq_eq_false_iff_ne]
      intro h
      have := congrArg List.length h
      rw [List.length_take, List.length_drop, data_length, hp] at this
      omega
    have h3 : twoB (s.data.toList.drop a) = false := by
      unfold twoB
      rw [e _ rfl, e _ rfl, e _ rfl, e _ rfl]
      rfl
    rw [h3]
    rfl
theorem ref_var_l0 (s : ByteArray) (hs : s.size ≤ 20000) : ∀ (d i k : Nat), s.size - i = d → i ≤ s.size → d < k → antecedentref07_Variable.l0 k s (i : Int) = some (decide (i + runN signB (s.data.toList.drop i) = s.size))
  | 0, i, k, hd, hi, hk => by
    obtain ⟨k, rfl⟩ : ∃ m, k = m + 1 := ⟨k - 1, by omega⟩
    simp only [antecedentref07_Variable.l0]
    rw [if_neg (by omega), runN_end _ _ _ (by rw [data_length]; omega), decide_eq_true (by omega)]
  | d + 1, i, k, hd, hi, hk => by
    obtain ⟨k, rfl⟩ : ∃ m, k = m + 1 := ⟨k - 1, by omega⟩
    have hlt : i < s.size := by omega
    have ih := ref_var_l0 s hs d (i + 1) k (by omega) (by omega) (by omega)
    have hst := runN_step signB s.data.toList i (by rw [data_length]; exact hlt)
    rw [getElem_data s _ hlt] at hst
    simp only [antecedentref07_Variable.l0]
    rw [if_pos (by omega), if_pos (by omega), bt_nat s _ hlt, ref_sign_eq, hst]
    simp only [Option.bind_some]
    cases signB s[i] with
    | true =>
      rw [if_pos rfl, if_pos rfl, show wrap64 ((i : Int) + 1) = ((i + 1 : Nat) : Int) by unfold wrap64; omega, ih]
      congr 1
      rw [Bool.eq_iff_iff, decide_eq_true_eq, decide_eq_true_eq]
      omega
    | false =>
      rw [if_neg (by simp), if_neg (by simp), decide_eq_false (by omega)]
theorem ref_var_eq (s : ByteArray) (hs : s.size ≤ 20000) (k : Nat) (hk : s.size + 2 < k) : antecedentref07_Variable.f k s = some (varL s.data.toList) := by
  obtain ⟨k, rfl⟩ : ∃ m, k = m + 1 := ⟨k - 1, by omega⟩
  unfold antecedentref07_Variable.f
  have hT : antecedentref07_Variable.j0 (k + 1) s true = some false := by simp only [antecedentref07_Variable.j0, if_true]
  by_cases h0 : s.size = 0
  · rw [if_pos (by omega), hT]
    have : s.data.toList = [] := List.eq_nil_of_length_eq_zero (by rw [data_length]; exact h0)
    rw [this]; rfl
  · have hp : 0 < s.size := by omega
    obtain ⟨r, hr⟩ := list_head hp
    have hv : varL s.data.toList = (decide (s.size ≤ 40) && (greatN s[0] && decide (runN signB s.data.toList = s.size))) := by
      rw [← data_length s, hr]; rfl
    rw [if_neg (by omega), hv]
    by_cases h40 : s.size ≤ 40
    · rw [if_neg (by omega), if_pos (by omega), decide_eq_true h40, Bool.true_and]
      have hb := bt_nat s 0 hp
      rw [show ((0 : Nat) : Int) = 0 from rfl] at hb
      rw [hb]
      cases hg : greatN s[0] with
      | true =>
        unfold greatN at hg
        rw [decide_eq_true_eq] at hg
        rw [if_neg (by omega), decide_eq_false (by omega)]
        simp only [antecedentref07_Variable.j0, Bool.false_eq_true, if_false]
        have := ref_var_l0 s hs _ 0 k rfl (Nat.zero_le _) (by omega)
        rw [Nat.zero_add, List.drop_zero] at this
        rw [show (0 : Int) = ((0 : Nat) : Int) from rfl, this, Bool.true_and]
      | false =>
        unfold greatN at hg
        rw [decide_eq_false_iff_not] at hg
        rw [Bool.false_and]
        by_cases h1 : ((s[0].toNat : Int)) < 65
        · rw [if_pos h1, hT]
        · rw [if_neg h1, decide_eq_true (by omega), hT]
    · rw [if_pos (by omega), hT, decide_eq_false h40, Bool.false_and]
theorem extract_at (s : ByteArray) (a n : Nat) : (s.extract a (a + n)).data.toList = (s.data.toList.drop a).take n := by rw [extract_list, List.take_drop]
theorem nm_at (s : ByteArray) (a n : Nat) : nmL ((s.data.toList.drop a).take n) = nameB (s.extract a (a + n)) := by
  unfold nmL
  rw [← extract_at, ba_eta]
theorem vl_at (s : ByteArray) (a n : Nat) : vlL ((s.data.toList.drop a).take n) = ((readR (s.extract a (a + n))).2.2.2 == 0) := by
  unfold vlL
  rw [← extract_at, ba_eta]
/-- what the reference's next answers. -/
def NextR2 (s : ByteArray) (a : Nat) (r : Option (Int × ByteArray × Int × Bool)) (o : Option (Nat × Nat)) : Prop := ∃ kk txt ok, r = some (kk, txt, (a : Int), ok) ∧ (∀ k' n, o = some (k', n) → kk = (k' : Int) ∧ txt = s.extract a (a + n) ∧ ok = true) ∧ (o = none → ok = false)
theorem NextR2.yes {s : ByteArray} {a k n : Nat} {r : Option (Int × ByteArray × Int × Bool)} {ok : Bool} (h : r = some ((k : Int), s.extract a (a + n), (a : Int), ok)) {o : Option (Nat × Nat)} (ho : o = if ok then some (k, n) else none) : NextR2 s a r o := by
  refine ⟨_, _, _, h, ?_, ?_⟩
  · intro k' n' he
    subst ho
    cases ok with
    | true => injection he with he; injection he with e1 e2; subst e1; subst e2; exact ⟨rfl, rfl, rfl⟩
    | false => cases he
  · intro he
    subst ho
    cases ok with
    | true => cases he
    | false => rfl
/-- the walk's cut: s[a : m]. -/
theorem cut_to (s : ByteArray) (a m : Nat) (y : Int) (hy : y = (m : Int)) (h1 : a ≤ m) (h2 : m ≤ s.size) {α : Type} (f : ByteArray → Option α) :
    (if 0 ≤ (a : Int) then (if (a : Int) ≤ y then (if y ≤ (s.size : Int) then f (s.extract (a : Int).toNat (y : Int).toNat) else none) else none) else none) = f (s.extract a m) := by
  subst hy
  rw [if_pos (by omega), if_pos (by omega), if_pos (by omega), Int.toNat_natCast, Int.toNat_natCast]
theorem ref_j2 (s : ByteArray) (hs : s.size ≤ 20000) (a : Nat) (ha : a < s.size) (k : Nat) (hk : s.size + 60 ≤ k) (b : Bool) :
    NextR2 s a (antecedentref07_next.j2 (k + 1) s (a : Int) b) (if b then (if vlL ((s.data.toList.drop a).take (1 + runN signB (s.data.toList.drop (a + 1)))) then some (3, 1 + runN signB (s.data.toList.drop (a + 1))) else none) else if twoB (s.data.toList.drop a) then some (4, 2) else if oneB s[a] then some (4, 1) else none) := by
  simp only [antecedentref07_next.j2]
  cases b with
  | true =>
    simp only [if_true]
    rw [show wrap64 ((a : Int) + 1) = ((a + 1 : Nat) : Int) by unfold wrap64; omega, ref_run_eq s hs (a + 1) (by omega) false k (by omega), runN_congr pB_false]
    have h1 := runN_le signB (s.data.toList.drop (a + 1))
    rw [List.length_drop, data_length] at h1
    generalize hn : runN signB (s.data.toList.drop (a + 1)) = n at h1
    rw [Option.bind_some]
    rw [cut_to s a (a + (1 + n)) _ (by unfold wrap64; omega) (by omega) (by omega) (fun z => (antecedentref02_Read.f k z).bind fun bt152 => some ((3 : Int), z, (a : Int), (bt152.2.2.2 == 0))), ref02_Read_eq _ k (by omega), refR_eq, vl_at]
    rw [Option.bind_some]
    exact NextR2.yes (k := 3) (n := 1 + n) rfl rfl
  | false =>
    simp only [Bool.false_eq_true, if_false]
    have h2 : twoB (s.data.toList.drop a) = true → a + 2 ≤ s.size := fun ht => by
      rcases Nat.lt_or_ge (a + 1) s.size with h | h
      · omega
      · have hal : a < s.data.toList.length := by rw [data_length]; exact ha
        have : s.data.toList.drop (a + 1) = [] := List.drop_eq_nil_of_le (by rw [data_length]; exact h)
        rw [List.drop_eq_getElem_cons hal, this] at ht
        simp [twoB] at ht
    have hm : ∃ m : Nat, antecedentref07_mark.f k s (a : Int) = some (m : Int) ∧ a + m ≤ s.size ∧ (if twoB (s.data.toList.drop a) then some (4, 2) else if oneB s[a] then some (4, 1) else none) = (if decide ((m : Int) > 0) then some (4, m) else none : Option (Nat × Nat)) := by
      rw [ref_mark_eq s hs a ha k (by omega)]
      cases ht : twoB (s.data.toList.drop a) with
      | true => exact ⟨2, rfl, h2 ht, rfl⟩
      | false =>
        cases ho : oneB s[a] with
        | true => exact ⟨1, rfl, by omega, rfl⟩
        | false => exact ⟨0, rfl, by omega, rfl⟩
    obtain ⟨m, hm1, hm2, hm3⟩ := hm
    rw [hm1, hm3]
    rw [Option.bind_some]
    rw [cut_to s a (a + m) _ (by unfold wrap64; omega) (by omega) hm2 (fun z => some ((4 : Int), z, (a : Int), decide ((m : Int) > 0)))]
    exact NextR2.yes (k := 4) (n := m) rfl rfl
theorem val_test (s : ByteArray) (hs : s.size ≤ 20000) (a : Nat) (ha : a < s.size) {α : Type} (g : Bool → Option α) (c : UInt8) :
    (if (c.toNat : Int) = 35 then g true else if (c.toNat : Int) ≥ 48 then (if (c.toNat : Int) ≤ 57 then g true else (if (c.toNat : Int) = 45 then (if (wrap64 ((a : Int) + 1)) < (s.size : Int) then (if 0 ≤ (wrap64 ((a : Int) + 1)) then (if (bt s (wrap64 ((a : Int) + 1))) ≥ 48 then g (decide ((bt s (wrap64 ((a : Int) + 1))) ≤ 57)) else g false) else none) else g false) else g false)) else (if (c.toNat : Int) = 45 then (if (wrap64 ((a : Int) + 1)) < (s.size : Int) then (if 0 ≤ (wrap64 ((a : Int) + 1)) then (if (bt s (wrap64 ((a : Int) + 1))) ≥ 48 then g (decide ((bt s (wrap64 ((a : Int) + 1))) ≤ 57)) else g false) else none) else g false) else g false)) = g (valB c (s.data.toList.drop (a + 1))) := by
  have e35 : ((c.toNat : Int) = 35) ↔ c = 35 := u8_iff c 35 (by omega)
  have e45 : ((c.toNat : Int) = 45) ↔ c = 45 := u8_iff c 45 (by omega)
  have hm : (if (c.toNat : Int) = 45 then (if (wrap64 ((a : Int) + 1)) < (s.size : Int) then (if 0 ≤ (wrap64 ((a : Int) + 1)) then (if (bt s (wrap64 ((a : Int) + 1))) ≥ 48 then g (decide ((bt s (wrap64 ((a : Int) + 1))) ≤ 57)) else g false) else none) else g false) else g false) = g (c == 45 && headDigit (s.data.toList.drop (a + 1))) := by
    by_cases h45 : c = 45
    · rw [if_pos (e45.2 h45), show wrap64 ((a : Int) + 1) = ((a + 1 : Nat) : Int) by unfold wrap64; omega]
      have : (c == 45) = true := beq_iff_eq.2 h45
      rw [this, Bool.true_and]
      by_cases hz : a + 1 < s.size
      · have hal2 : a + 1 < s.data.toList.length := by rw [data_length]; exact hz
        rw [if_pos (by omega), if_pos (by omega), bt_nat s _ hz, List.drop_eq_getElem_cons hal2, getElem_data s _ hz]
        generalize s[a + 1] = d
        have hd : headDigit (d :: s.data.toList.drop (a + 1 + 1)) = digitN d := rfl
        rw [hd]
        unfold digitN
        by_cases h48 : (d.toNat : Int) ≥ 48
        · rw [if_pos h48]; congr 1; rw [Bool.eq_iff_iff, decide_eq_true_eq, decide_eq_true_eq]; omega
        · rw [if_neg h48]; congr 1; symm; rw [decide_eq_false_iff_not]; omega
      · rw [if_neg (by omega), List.drop_eq_nil_of_le (by rw [data_length]; omega)]
        rfl
    · rw [if_neg (fun h => h45 (e45.1 h))]
      have : (c == 45) = false := beq_eq_false_iff_ne.2 h45
      rw [this, Bool.false_and]
  rw [hm]
  unfold valB
  by_cases h35 : c = 35
  · rw [if_pos (e35.2 h35)]
    have : (c == 35) = true := beq_iff_eq.2 h35
    rw [this]; rfl
  · rw [if_neg (fun h => h35 (e35.1 h))]
    have : (c == 35) = false := beq_eq_false_iff_ne.2 h35
    rw [this, Bool.false_or]
    unfold digitN
    by_cases h48 : (c.toNat : Int) ≥ 48
    · rw [if_pos h48]
      by_cases h57 : (c.toNat : Int) ≤ 57
      · rw [if_pos h57, decide_eq_true (by omega)]; rfl
      · rw [if_neg h57, decide_eq_false (by omega), Bool.false_or]
    · rw [if_neg h48, decide_eq_false (by omega), Bool.false_or]
theorem great_test (c : UInt8) {α : Type} (g : Bool → Option α) : (if (c.toNat : Int) ≥ 65 then g (decide ((c.toNat : Int) ≤ 90)) else g false) = g (greatN c) := by
  unfold greatN
  by_cases h : (c.toNat : Int) ≥ 65
  · rw [if_pos h]; congr 1; rw [Bool.eq_iff_iff, decide_eq_true_eq, decide_eq_true_eq]; omega
  · rw [if_neg h]; congr 1; symm; rw [decide_eq_false_iff_not]; omega
theorem small_test (c : UInt8) {α : Type} (g : Bool → Option α) : (if (c.toNat : Int) ≥ 97 then g (decide ((c.toNat : Int) ≤ 122)) else g false) = g (smallN c) := by
  unfold smallN
  by_cases h : (c.toNat : Int) ≥ 97
  · rw [if_pos h]; congr 1; rw [Bool.eq_iff_iff, decide_eq_true_eq, decide_eq_true_eq]; omega
  · rw [if_neg h]; congr 1; symm; rw [decide_eq_false_iff_not]; omega
theorem ref_j1 (s : ByteArray) (hs : s.size ≤ 20000) (a : Nat) (ha : a < s.size) (k : Nat) (hk : s.size + 62 ≤ k) :
    NextR2 s a (antecedentref07_next.j1 (k + 2) s (a : Int) (s[a].toNat : Int) (greatN s[a])) (if greatN s[a] then (if runN signB (s.data.toList.drop a) ≤ 40 then some (2, runN signB (s.data.toList.drop a)) else none) else if valB s[a] (s.data.toList.drop (a + 1)) then (if vlL ((s.data.toList.drop a).take (1 + runN signB (s.data.toList.drop (a + 1)))) then some (3, 1 + runN signB (s.data.toList.drop (a + 1))) else none) else if twoB (s.data.toList.drop a) then some (4, 2) else if oneB s[a] then some (4, 1) else none) := by
  have hal : a < s.data.toList.length := by rw [data_length]; exact ha
  rw [show k + 2 = (k + 1) + 1 from rfl]
  simp only [antecedentref07_next.j1]
  cases hgr : greatN s[a] with
  | true =>
    simp only [if_true]
    have hst := runN_step signB s.data.toList a hal
    have hd : s.data.toList.drop a = s[a] :: s.data.toList.drop (a + 1) := by rw [List.drop_eq_getElem_cons hal, getElem_data s a ha]
    rw [getElem_data s a ha, great_sign hgr, if_pos rfl] at hst
    have h1 := runN_le signB (s.data.toList.drop a)
    rw [List.length_drop, data_length] at h1
    have hvar : varL ((s.data.toList.drop a).take (runN signB (s.data.toList.drop a))) = decide (runN signB (s.data.toList.drop a) ≤ 40) := by
      have h2 := runN_take signB (s.data.toList.drop a)
      have h4 : ((s.data.toList.drop a).take (runN signB (s.data.toList.drop a))).length = runN signB (s.data.toList.drop a) := by rw [List.length_take, List.length_drop, data_length]; omega
      have h5 : (s.data.toList.drop a).take (runN signB (s.data.toList.drop a)) = s[a] :: (s.data.toList.drop (a + 1)).take (runN signB (s.data.toList.drop (a + 1))) := by rw [hst, hd, List.take_succ_cons]
      rw [h5] at h2 h4 ⊢
      simp only [varL]
      rw [h4, h2, hgr]
      simp
    rw [ref_run_eq s hs a (by omega) false (k + 1) (by omega), runN_congr pB_false]
    generalize hn : runN signB (s.data.toList.drop a) = n at h1 hvar
    rw [Option.bind_some]
    have hsz : (s.extract a (a + n)).size = n := by rw [ByteArray.size_extract]; omega
    rw [cut_to s a (a + n) _ (by unfold wrap64; omega) (by omega) (by omega) (fun z => (antecedentref07_Variable.f (k + 1) z).bind fun t150 => some ((2 : Int), z, (a : Int), t150)), ref_var_eq _ (by omega) (k + 1) (by omega), extract_at, hvar]
    rw [Option.bind_some]
    refine NextR2.yes (k := 2) (n := n) rfl ?_
    by_cases h40 : n ≤ 40
    · rw [if_pos h40, decide_eq_true h40]; rfl
    · rw [if_neg h40, decide_eq_false h40]; rfl
  | false =>
    simp only [Bool.false_eq_true, if_false]
    rw [val_test s hs a ha (fun b => antecedentref07_next.j2 (k + 1) s (a : Int) b) s[a]]
    exact ref_j2 s hs a ha k (by omega) _
theorem ref_next_eq (s : ByteArray) (hs : s.size ≤ 20000) (a : Nat) (ha : a < s.size) (k : Nat) (hk : s.size + 70 ≤ k) : NextR2 s a (antecedentref07_next.f k s (a : Int)) (nextN nmL vlL (s.data.toList.drop a)) := by
  obtain ⟨k, rfl⟩ : ∃ m, k = m + 3 := ⟨k - 3, by omega⟩
  have hal : a < s.data.toList.length := by rw [data_length]; exact ha
  have hd : s.data.toList.drop a = s[a] :: s.data.toList.drop (a + 1) := by rw [List.drop_eq_getElem_cons hal, getElem_data s a ha]
  have key : nextN nmL vlL (s.data.toList.drop a) = (if smallN s[a] then (if nmL ((s.data.toList.drop a).take (runN lowB (s.data.toList.drop a))) then some (1, runN lowB (s.data.toList.drop a)) else none) else (if greatN s[a] then (if runN signB (s.data.toList.drop a) ≤ 40 then some (2, runN signB (s.data.toList.drop a)) else none) else if valB s[a] (s.data.toList.drop (a + 1)) then (if vlL ((s.data.toList.drop a).take (1 + runN signB (s.data.toList.drop (a + 1)))) then some (3, 1 + runN signB (s.data.toList.drop (a + 1))) else none) else if twoB (s.data.toList.drop a) then some (4, 2) else if oneB s[a] then some (4, 1) else none)) := by
    rw [hd]
    simp only [nextN]
  rw [key]
  unfold antecedentref07_next.f
  rw [if_pos (by omega), if_pos (by omega), bt_nat s a ha, small_test s[a] (fun b => antecedentref07_next.j0 (k + 3) s (a : Int) (s[a].toNat : Int) b), show k + 3 = (k + 2) + 1 from rfl]
  simp only [antecedentref07_next.j0]
  cases hsm : smallN s[a] with
  | true =>
    simp only [if_true]
    have h1 := runN_le lowB (s.data.toList.drop a)
    rw [List.length_drop, data_length] at h1
    rw [ref_run_eq s hs a (by omega) true (k + 2) (by omega), runN_congr pB_true]
    generalize hn : runN lowB (s.data.toList.drop a) = n at h1
    rw [Option.bind_some]
    rw [cut_to s a (a + n) _ (by unfold wrap64; omega) (by omega) (by omega) (fun z => (antecedentref02_Name.f z).bind fun t148 => some ((1 : Int), z, (a : Int), t148)), nm_at]
    unfold antecedentref02_Name.f
    rw [Option.bind_some]
    exact NextR2.yes (k := 1) (n := n) rfl rfl
  | false =>
    simp only [Bool.false_eq_true, if_false]
    rw [great_test s[a] (fun b => antecedentref07_next.j1 (k + 2) s (a : Int) (s[a].toNat : Int) b)]
    exact ref_j1 s hs a ha k (by omega)
def tokS2 (s : ByteArray) (x : Nat × Nat × Nat) : S53 := ⟨x.1, s.extract x.2.1 (x.2.1 + x.2.2), x.2.1⟩
def tokRes2 (s : ByteArray) : List S53 × Int × Int := match tokN nmL vlL 0 s.data.toList with
  | .error i => ([], (i : Int), 2)
  | .ok l => (l.map (tokS2 s), 0, 0)
theorem ref_tokens_l0 (s : ByteArray) (hs : s.size ≤ 20000) : ∀ (d a : Nat) (pre : List (Nat × Nat × Nat)) (k : Nat), s.size - a ≤ d → a ≤ s.size → TokInv s.data.toList a pre → pre.length ≤ a → 2 * d + s.size + 72 ≤ k →
    antecedentref07_Tokens.l0 k s (pre.map (tokS2 s)) (a : Int) = some (tokRes2 s)
  | d, a, pre, k, hd, ha, hi, hp, hk => by
    obtain ⟨k, rfl⟩ : ∃ m, k = m + 2 := ⟨k - 2, by omega⟩
    simp only [antecedentref07_Tokens.l0]
    by_cases hlt : a < s.size
    · have hal : a < s.data.toList.length := by rw [data_length]; exact hlt
      have hg := getElem_data s a hlt hal
      have e1 : (if (bt s (a : Int)) = 32 then antecedentref07_Tokens.j1 (k + 1) s (pre.map (tokS2 s)) (a : Int) true else if (bt s (a : Int)) = 9 then antecedentref07_Tokens.j1 (k + 1) s (pre.map (tokS2 s)) (a : Int) true else antecedentref07_Tokens.j1 (k + 1) s (pre.map (tokS2 s)) (a : Int) ((bt s (a : Int)) == 10)) = antecedentref07_Tokens.j1 (k + 1) s (pre.map (tokS2 s)) (a : Int) (blankB s[a]) := by
        rw [bt_nat s a hlt]
        generalize s[a] = c
        have e32 : ((c.toNat : Int) = 32) ↔ c = 32 := u8_iff c 32 (by omega)
        have e9 : ((c.toNat : Int) = 9) ↔ c = 9 := u8_iff c 9 (by omega)
        have e10 : ((c.toNat : Int) == 10) = (c == 10) := u8_eq_nat c 10 (by omega)
        unfold blankB
        by_cases h32 : c = 32
        · rw [if_pos (e32.2 h32)]; simp [h32]
        · rw [if_neg (fun h => h32 (e32.1 h))]
          by_cases h9 : c = 9
          · rw [if_pos (e9.2 h9)]; simp [h9]
          · rw [if_neg (fun h => h9 (e9.1 h)), e10, beq_eq_false_iff_ne.2 h32, beq_eq_false_iff_ne.2 h9, Bool.false_or, Bool.false_or]
      rw [if_pos (by omega), if_pos (by omega), e1]
      simp only [antecedentref07_Tokens.j1]
      cases hb : blankB s[a] with
      | true =>
        rw [if_pos rfl, show wrap64 ((a : Int) + 1) = ((a + 1 : Nat) : Int) by unfold wrap64; omega]
        obtain ⟨d, rfl⟩ : ∃ m, d = m + 1 := ⟨d - 1, by omega⟩
        exact ref_tokens_l0 s hs d (a + 1) pre k (by omega) (by omega) (inv_blank hi hal (by rw [hg]; exact hb)) (by omega) (by omega)
      | false =>
        rw [if_neg (by simp)]
        obtain ⟨kk, txt, ok, hn, hcase, hcase2⟩ := ref_next_eq s hs a hlt k (by omega)
        rw [hn]
        simp only [Option.bind_some]
        cases hm : nextN nmL vlL (s.data.toList.drop a) with
        | none =>
          rw [hcase2 hm, if_neg (by simp)]
          have := inv_wrong hi hal (by rw [hg]; exact hb) hm
          unfold tokRes2
          rw [this]
        | some y =>
          obtain ⟨k', n⟩ := y
          obtain ⟨h1, h2, h3⟩ := hcase k' n hm
          have hpos := next_pos hm
          rw [List.length_drop, data_length] at hpos
          have hsz : txt.size = n := by rw [h2, ByteArray.size_extract]; omega
          rw [h3, if_pos rfl, if_pos (by rw [List.length_map]; omega), hsz, show wrap64 ((a : Int) + (n : Int)) = ((a + n : Nat) : Int) by unfold wrap64; omega]
          have e2 : pre.map (tokS2 s) ++ [(⟨kk, txt, (a : Int)⟩ : S53)] = (pre ++ [(k', a, n)]).map (tokS2 s) := by
            rw [List.map_append, h1, h2]; rfl
          rw [e2]
          obtain ⟨d, rfl⟩ : ∃ m, d = m + 1 := ⟨d - 1, by omega⟩
          exact ref_tokens_l0 s hs d (a + n) _ k (by omega) (by omega) (inv_more hi hal (by rw [hg]; exact hb) k' n hm) (by rw [List.length_append]; simp; omega) (by omega)
    · rw [if_neg (by omega)]
      have := inv_end hi (by rw [data_length]; omega)
      unfold tokRes2
      rw [this]
theorem ref_tokens_eq (s : ByteArray) (hs : s.size ≤ 20000) (k : Nat) (hk : 3 * s.size + 72 ≤ k) : antecedentref07_Tokens.f k s = some (tokRes2 s) := by
  unfold antecedentref07_Tokens.f
  rw [if_neg (by omega)]
  exact ref_tokens_l0 s hs s.size 0 [] k (by omega) (Nat.zero_le _) (inv_start _) (Nat.le_refl _) (by omega)
theorem ref_key_l0 (s : ByteArray) (ws : List ByteArray) (hw : ws.length ≤ 100) : ∀ (d i k : Nat), ws.length - i = d → i ≤ ws.length → d < k → antecedentref07_Key.l0 k s ws (ws.length : Int) (i : Int) = some ((ws.drop i).any fun w => w.data.toList == s.data.toList)
  | 0, i, k, hd, hi, hk => by
    obtain ⟨k, rfl⟩ : ∃ m, k = m + 1 := ⟨k - 1, by omega⟩
    simp only [antecedentref07_Key.l0]
    rw [if_neg (by omega), List.drop_eq_nil_of_le (by omega)]
    rfl
  | d + 1, i, k, hd, hi, hk => by
    obtain ⟨k, rfl⟩ : ∃ m, k = m + 1 := ⟨k - 1, by omega⟩
    have hlt : i < ws.length := by omega
    have ih := ref_key_l0 s ws hw d (i + 1) k (by omega) (by omega) (by omega)
    simp only [antecedentref07_Key.l0]
    have hrd : rdOf ByteArray.empty ws (i : Int) = ws[i] := by simp [rdOf, List.getD, hlt]
    rw [if_pos (by omega), if_pos (by omega), if_pos (by omega), hrd, toList_data, toList_data, show wrap64 ((i : Int) + 1) = ((i + 1 : Nat) : Int) by unfold wrap64; omega, ih, List.drop_eq_getElem_cons hlt, List.any_cons]
    by_cases h : ws[i].data.toList = s.data.toList
    · rw [if_pos h, beq_iff_eq.2 h]; rfl
    · rw [if_neg h, beq_eq_false_iff_ne.2 h, Bool.false_or]
theorem ref_key_eq (s : ByteArray) (k : Nat) (hk : 12 ≤ k) : antecedentref07_Key.f k s = some (keyL s.data.toList) := by
  unfold antecedentref07_Key.f
  simp only [Option.bind_some]
  have := ref_key_l0 s [(⟨#[110, 111, 116]⟩ : ByteArray), ⟨#[105, 115]⟩, ⟨#[112, 108, 117, 115]⟩, ⟨#[109, 105, 110, 117, 115]⟩, ⟨#[116, 105, 109, 101, 115]⟩, ⟨#[119, 97, 108, 107]⟩, ⟨#[99, 111, 117, 110, 116]⟩, ⟨#[115, 117, 109]⟩, ⟨#[109, 105, 110]⟩, ⟨#[109, 97, 120]⟩, ⟨#[109, 101, 97, 110]⟩] (by decide) 11 0 k rfl (by omega) (by omega)
  refine (show _ = _ from this).trans ?_
  congr 1
  unfold keyL keysL
  rw [List.contains_eq_any_beq]
  simp only [List.drop_zero, List.any_cons, List.any_nil]
  have hc : ∀ a b : List UInt8, (a == b) = (b == a) := fun a b => by rw [Bool.eq_iff_iff, beq_iff_eq, beq_iff_eq]; exact eq_comm
  rw [hc s.data.toList [110, 111, 116], hc s.data.toList [105, 115], hc s.data.toList [112, 108, 117, 115], hc s.data.toList [109, 105, 110, 117, 115], hc s.data.toList [116, 105, 109, 101, 115], hc s.data.toList [119, 97, 108, 107], hc s.data.toList [99, 111, 117, 110, 116], hc s.data.toList [115, 117, 109], hc s.data.toList [109, 105, 110], hc s.data.toList [109, 97, 120], hc s.data.toList [109, 101, 97, 110]]
end Go.Proofs.YthebhbomlllpeaaGreatDoor.X
namespace Go.Proofs.YthebhbomlllpeaaGreatDoor.X
set_option linter.unusedVariables false
set_option linter.unusedSimpArgs false
open Go.RowKit Go.Proofs.YthebhbomlllpeaaGreatDoorW.PrintWords Go.Proofs.YthebhbomlllpeaaGreatDoorW.PrintLast Go.Proofs.YthebhbomlllpeaaGreatDoorW.PrintMore
theorem push1_ne {st st' : List Pc} {x : StS} (h : push1 st x = some st') : st' ≠ [] := by
  unfold push1 at h
  split at h
  · cases h
  · split at h
    · split at h
      · cases h
      · injection h with h; subst h; simp
    · split at h
      · cases h
      · cases st with
        | nil => cases h
        | cons b r =>
          simp only at h
          split at h
          · cases r with
            | nil => cases h
            | cons a r =>
              simp only at h
              split at h
              · injection h with h; subst h; simp
              · injection h with h; subst h; simp
          · injection h with h; subst h; simp
/-- a step that may stand: its label, its kind. -/
def stepB (x : StS) : Bool := decide (1 ≤ x.f0 ∧ x.f0 ≤ 7) && (if x.f0 ≤ 2 then predN x.f1 else x.f1.data.toList == ([] : List UInt8))
theorem predN_ne {s : ByteArray} (h : predN s = true) : s.data.toList ≠ [] := fun e => by
  unfold predN nmL at h
  rw [e] at h
  revert h
  decide
theorem labelL_ne {x : StS} (h1 : 1 ≤ x.f0) (h2 : x.f0 ≤ 2) : labelL x = [] ↔ predN x.f1 = false := by
  unfold labelL
  cases hp : predN x.f1 with
  | false => simp
  | true =>
    have := predN_ne hp
    simp only [if_true]
    by_cases h : x.f0 = 2
    · rw [if_pos h]; simp
    · rw [if_neg h, if_pos (by omega)]
      simp [this]
theorem push1_no {st : List Pc} {x : StS} (h : stepB x = false) : push1 st x = none := by
  unfold push1
  by_cases h1 : x.f0 < 1 ∨ 7 < x.f0
  · rw [if_pos h1]
  · rw [if_neg h1]
    unfold stepB at h
    rw [decide_eq_true (by omega), Bool.true_and] at h
    by_cases h2 : x.f0 ≤ 2
    · rw [if_pos h2] at h ⊢
      rw [if_pos ((labelL_ne (by omega) h2).2 h)]
    · rw [if_neg h2] at h ⊢
      rw [if_pos (beq_eq_false_iff_ne.1 h)]
/-- what is pushed by a step that may stand. -/
theorem push1_lab {st : List Pc} {x : StS} (h : stepB x = true) (h2 : x.f0 ≤ 2) : push1 st x = some ((labelL x, 3) :: st) := by
  unfold stepB at h
  rw [Bool.and_eq_true, decide_eq_true_eq, if_pos h2] at h
  unfold push1
  rw [if_neg (by omega), if_pos h2, if_neg]
  rw [labelL_ne h.1.1 h2, h.2]
  simp
theorem push1_m {b : Pc} {r : List Pc} {x : StS} (h : stepB x = true) (h4 : 4 < x.f0) : push1 (b :: r) x = some ((leastL b 3 ++ markL x.f0, 3) :: r) := by
  unfold stepB at h
  rw [Bool.and_eq_true, decide_eq_true_eq, if_neg (by omega), beq_iff_eq] at h
  unfold push1
  rw [if_neg (by omega), if_neg (by omega), if_neg (fun e => e h.2)]
  simp only
  rw [if_neg (by omega)]
/-- two joined. -/
def joinP (k : Int) (a b : Pc) : Pc := if k = 3 then (leastL a 2 ++ (markL 3 ++ leastL b 3), 2) else (a.1 ++ (markL 4 ++ leastL b 2), 1)
theorem push1_j {b a : Pc} {r : List Pc} {x : StS} (h : stepB x = true) (h3 : 2 < x.f0) (h4 : x.f0 ≤ 4) : push1 (b :: a :: r) x = some (joinP x.f0 a b :: r) := by
  unfold stepB at h
  rw [Bool.and_eq_true, decide_eq_true_eq, if_neg (by omega), beq_iff_eq] at h
  unfold push1 joinP
  rw [if_neg (by omega), if_neg (by omega), if_neg (fun e => e h.2)]
  simp only
  rw [if_pos h4]
  split <;> rfl
theorem push1_j1 {b : Pc} {x : StS} (h3 : 2 < x.f0) (h4 : x.f0 ≤ 4) : push1 [b] x = none := by
  unfold push1
  by_cases c1 : x.f0 < 1 ∨ 7 < x.f0
  · rw [if_pos c1]
  · rw [if_neg c1, if_neg (show ¬ x.f0 ≤ 2 by omega)]
    by_cases c2 : x.f1.data.toList ≠ []
    · rw [if_pos c2]
    · rw [if_neg c2]
      simp only [if_pos h4]
theorem push1_nil0 {x : StS} (h3 : 2 < x.f0) : push1 [] x = none := by
  unfold push1
  split
  · rfl
  · rw [if_neg (by omega)]
    split <;> rfl
/-- the steps from .. to .. are one path, whose text and binding are p. -/
def Seg (l : List StS) (f e : Nat) (p : Pc) : Prop := f < e ∧ e ≤ l.length ∧ ∀ st, pushes st ((l.take e).drop f) = some (p :: st)
theorem seg_app {l : List StS} {f m e : Nat} (h1 : f ≤ m) (h2 : m ≤ e) (he : e ≤ l.length) : (l.take e).drop f = (l.take m).drop f ++ (l.take e).drop m := by
  have e1 : l.take e = l.take m ++ (l.take e).drop m := by
    have := List.take_append_drop m (l.take e)
    rw [List.take_take, Nat.min_eq_left h2] at this
    exact this.symm
  conv => lhs; rw [e1]
  rw [List.drop_append_of_le_length (by rw [List.length_take]; omega)]
theorem seg_last {l : List StS} {e : Nat} (he : e < l.length) : (l.take (e + 1)).drop e = [l[e]] := by
  rw [List.take_succ_eq_append_getElem he, List.drop_append_of_le_length (by rw [List.length_take]; omega), List.drop_of_length_le (by rw [List.length_take]; omega)]
  rfl
theorem take_snoc9 {l : List StS} {e : Nat} (he : e < l.length) (st : List Pc) : pushes st (l.take (e + 1)) = (pushes st (l.take e)).bind fun s => push1 s l[e] := by
  rw [List.take_succ_eq_append_getElem he, pushes_app]
  congr 1
  funext s
  simp only [pushes]
  cases push1 s l[e] with
  | none => rfl
  | some y => rfl
/-- the reference's walk, as a function: none where it finds no path. -/
def textR (l : List StS) : Nat → Nat → Option (Nat × Pc)
  | 0, _ => none
  | _ + 1, 0 => none
  | k + 1, e + 1 =>
    match l[e]? with
    | none => none
    | some x =>
      if stepB x = false then none
      else if x.f0 ≤ 2 then some (e, (labelL x, 3))
      else (textR l k e).bind fun b =>
        if 4 < x.f0 then some (b.1, (leastL b.2 3 ++ markL x.f0, 3))
        else (textR l k b.1).bind fun a => some (a.1, joinP x.f0 a.2 b.2)
theorem textR_seg (l : List StS) : ∀ (k e : Nat), e ≤ l.length → ∀ f p, textR l k e = some (f, p) → Seg l f e p
  | 0, e, _, f, p, h => by cases h
  | k + 1, 0, _, f, p, h => by cases h
  | k + 1, e + 1, he, f, p, h => by
    have he' : e < l.length := by omega
    simp only [textR, List.getElem?_eq_getElem he'] at h
    obtain ⟨x, hx⟩ : ∃ x, l[e] = x := ⟨_, rfl⟩
    rw [hx] at h
    split at h
    · cases h
    · rename_i hs
      have hs : stepB x = true := by simpa using hs
      split at h
      · rename_i h2
        injection h with h; injection h with h1 h3
        subst h1 h3
        refine ⟨by omega, he, fun st => ?_⟩
        rw [seg_last he', hx]
        simp only [pushes, push1_lab hs h2, Option.bind_some]
      · rename_i h2
        cases hb : textR l k e with
        | none => rw [hb] at h; cases h
        | some b =>
          obtain ⟨fb, pb⟩ := b
          have ihb := textR_seg l k e (by omega) fb pb hb
          rw [hb] at h
          simp only [Option.bind_some] at h
          split at h
          · rename_i h4
            injection h with h; injection h with h1 h3
            subst h1 h3
            refine ⟨by have := ihb.1; omega, he, fun st => ?_⟩
            rw [seg_app (m := e) (by have := ihb.1; omega) (by omega) he, pushes_app, ihb.2.2 st, seg_last he', hx]
            simp only [pushes, Option.bind_some, push1_m hs h4]
          · rename_i h4
            cases ha : textR l k fb with
            | none => rw [ha] at h; cases h
            | some a =>
              obtain ⟨fa, pa⟩ := a
              have iha := textR_seg l k fb (by have := ihb.1; omega) fa pa ha
              rw [ha] at h
              simp only [Option.bind_some] at h
              injection h with h; injection h with h1 h3
              subst h1 h3
              refine ⟨by have := ihb.1; have := iha.1; omega, he, fun st => ?_⟩
              rw [seg_app (m := e) (by have := ihb.1; have := iha.1; omega) (by omega) he, seg_app (m := fb) (by have := iha.1; omega) (by have := ihb.1; omega) (by omega), pushes_app, pushes_app, iha.2.2 st]
              simp only [Option.bind_some]
              rw [ihb.2.2, seg_last he', hx]
              simp only [pushes, Option.bind_some, push1_j hs (by omega) (by omega)]
/-- where steps make a stack, the reference finds its top. -/
theorem textR_all (l : List StS) : ∀ (k e : Nat), e < k → e ≤ l.length → ∀ p st, pushes [] (l.take e) = some (p :: st) → ∃ f, textR l k e = some (f, p) ∧ f < e ∧ pushes [] (l.take f) = some st
  | 0, e, hk, _, p, st, h => by omega
  | k + 1, 0, _, _, p, st, h => by simp [pushes] at h
  | k + 1, e + 1, hk, he, p, st, h => by
    have he' : e < l.length := by omega
    rw [take_snoc9 he'] at h
    cases hp : pushes [] (l.take e) with
    | none => rw [hp] at h; cases h
    | some s0 =>
      rw [hp] at h
      simp only [Option.bind_some] at h
      simp only [textR, List.getElem?_eq_getElem he']
      obtain ⟨x, hx⟩ : ∃ x, l[e] = x := ⟨_, rfl⟩
      rw [hx] at h ⊢
      cases hs : stepB x with
      | false => rw [push1_no hs] at h; cases h
      | true =>
        rw [if_neg (by simp)]
        by_cases h2 : x.f0 ≤ 2
        · rw [if_pos h2]
          rw [push1_lab hs h2] at h
          injection h with h; injection h with h1 h3
          subst h1 h3
          exact ⟨e, rfl, by omega, hp⟩
        · rw [if_neg h2]
          cases s0 with
          | nil => rw [push1_nil0 (by omega)] at h; cases h
          | cons b s1 =>
            obtain ⟨fb, hb, hlt, hst⟩ := textR_all l k e (by omega) (by omega) b s1 hp
            rw [hb]
            simp only [Option.bind_some]
            by_cases h4 : 4 < x.f0
            · rw [if_pos h4]
              rw [push1_m hs h4] at h
              injection h with h; injection h with h1 h3
              subst h1 h3
              exact ⟨fb, rfl, by omega, hst⟩
            · rw [if_neg h4]
              cases s1 with
              | nil => rw [push1_j1 (by omega) (by omega)] at h; cases h
              | cons a s2 =>
                obtain ⟨fa, ha, hla, hsa⟩ := textR_all l k fb (by omega) (by omega) a s2 hst
                rw [ha]
                rw [push1_j hs (by omega) (by omega)] at h
                injection h with h; injection h with h1 h3
                subst h1 h3
                exact ⟨fa, rfl, by omega, hsa⟩
theorem pushes_nil {l : List StS} (h : pushes [] l = some []) : l = [] := by
  rcases List.eq_nil_or_concat l with rfl | ⟨l', x, rfl⟩
  · rfl
  · rw [List.concat_eq_append, pushes_app] at h
    cases hp : pushes [] l' with
    | none => rw [hp] at h; cases h
    | some s =>
      rw [hp] at h
      simp only [Option.bind_some, pushes] at h
      cases hq : push1 s x with
      | none => rw [hq] at h; cases h
      | some s' =>
        rw [hq] at h
        simp only [Option.bind_some] at h
        injection h with h
        exact absurd h (push1_ne hq)
/-- a path's text by the reference. -/
def pathR (l : List StS) : List UInt8 :=
  if 100 < l.length then [] else match textR l (l.length + 1) l.length with
    | some (0, p) => if 32 < deepS p.1 then [] else p.1
    | _ => []
theorem pathR_eq (l : List StS) : pathR l = pathL l := by
  unfold pathR
  by_cases h100 : 100 < l.length
  · rw [if_pos h100]
    unfold pathL
    rw [if_pos h100]
  · rw [if_neg h100]
    cases hp : pushes [] l with
    | none =>
      have hL : pathL l = [] := by unfold pathL; rw [if_neg h100, hp]
      rw [hL]
      cases ht : textR l (l.length + 1) l.length with
      | none => rfl
      | some r =>
        obtain ⟨f, p⟩ := r
        cases f with
        | zero =>
          have := (textR_seg l _ _ (Nat.le_refl _) 0 p ht).2.2 []
          rw [List.drop_zero, List.take_length, hp] at this
          cases this
        | succ f => rfl
    | some st =>
      rw [pathL_end h100 hp]
      cases st with
      | nil =>
        have := pushes_nil hp
        subst this
        rfl
      | cons p s =>
        obtain ⟨f, ht, hlt, hst⟩ := textR_all l (l.length + 1) l.length (by omega) (Nat.le_refl _) p s (by rw [List.take_length]; exact hp)
        rw [ht]
        cases s with
        | nil =>
          have := pushes_nil hst
          have hf : f = 0 := by
            have := congrArg List.length this
            rw [List.length_take, List.length_nil] at this
            omega
          subst hf
          rfl
        | cons q s =>
          cases f with
          | zero => rw [List.take_zero] at hst; cases hst
          | succ f => rfl
/-- what the reference's text gives: where the path begins, its text, its binding; below 0: there is none. -/
def outT : Option (Nat × Pc) → Int × ByteArray × Int
  | none => (-1, ⟨#[]⟩, 0)
  | some (f, p) => ((f : Int), baL p.1, p.2)
theorem textR_len {l : List StS} {k e f : Nat} {p : Pc} (he : e ≤ l.length) (h : textR l k e = some (f, p)) : p.1.length ≤ 50 * l.length ∧ f < e := by
  have hs := textR_seg l k e he f p h
  have := pushes_wt _ [] [p] (hs.2.2 [])
  simp only [wt, List.length_drop, List.length_take] at this
  exact ⟨by omega, hs.1⟩
end Go.Proofs.YthebhbomlllpeaaGreatDoor.X
