/-
  The statement LexLonger, for every input.
-/
import Derived.Test.YthebhbomlllpeaaDoorCards
import Derived.Test.YthebhbomlllpeaaDoorTie
import Derived.Test.YthebhbomlllpeaaDoorProg
import Derived.Below
import Derived.Deep.Draws
import Derived.Deep.AppendLies
import Derived.Maps.AppendAt
import Derived.OwnWalk
import Derived.Laws.BytesArg
import Derived.Laws.MakeOwn
import Derived.Laws.OwnMore
import Derived.Deep.OwnRows
import Derived.Tactics
import Derived.Lib.ConvBytes
import Derived.Laws.Slices
import Derived.WalkKit
import Derived.KernelRfl
import Derived.RowKit3
import Derived.Deep.LoopGhost
import Derived.Deep.QuietTactic
import Derived.BigQuiet
import Derived.WideLaws
import Derived.Deep.DeepCutAuto
import Derived.Deep.CutBlock
import Derived.Deep.RegionHeld3
import Derived.Laws.Rows
import Derived.Lib.AppendStr
import Derived.ArgAppend
import Derived.Laws.IdiomCopy
import Derived.OrdersHeld
import Derived.Laws.BitsLemmas
import Derived.RowKit
import Derived.Lib.SmallJoins
import Derived.Lib.ItoaMem
import Derived.Test.YthebhbomlllpeaaDoorWWords
import Derived.Test.YthebhbomlllpeaaDoorWLast
import Derived.Test.YthebhbomlllpeaaDoorWTab
import Derived.Test.YthebhbomlllpeaaDoorWFour
import Derived.Test.YthebhbomlllpeaaDoorWQPut
import Derived.Test.YthebhbomlllpeaaDoorWApart
import Derived.Test.YthebhbomlllpeaaDoorWArr
import Derived.Test.YthebhbomlllpeaaDoorWZeros
import Derived.Test.YthebhbomlllpeaaDoorWFoot
import Derived.Test.YthebhbomlllpeaaDoorWKept
import Derived.Test.YthebhbomlllpeaaDoorWShare
import Derived.Test.YthebhbomlllpeaaDoorWN
import Derived.Test.YthebhbomlllpeaaDoorWFootNe
import Derived.Test.YthebhbomlllpeaaDoorWAt
import Derived.Test.YthebhbomlllpeaaDoorWEqStruct
import Derived.Test.YthebhbomlllpeaaDoorWRepsOne
import Derived.Test.YthebhbomlllpeaaDoorWInv
import Derived.Test.YthebhbomlllpeaaDoorWInvWords
import Derived.Test.YthebhbomlllpeaaDoorWGuard
import Derived.Test.YthebhbomlllpeaaDoorWNEv
import Derived.Test.YthebhbomlllpeaaDoorWMore
import Derived.Test.YthebhbomlllpeaaDoorRows
import Derived.Deep.Slices
import Derived.Deep.Fields
import Derived.ChangeSame
import Derived.ProofKit
import Derived.OpenShut
import Derived.Deep.DeepHandedRow
import Derived.Lib.LaidTab
import Derived.LaidMore
import Derived.Stop.LaidErr
import Derived.MakeChecks
import Derived.Shelf.Strings.Builder1
import Derived.Shelf.Strings.Builder2
import Derived.Shelf.Strings.OnBuilder
import Derived.Shelf.Small.Strs
import Derived.Shelf.Small.Wraps
import Derived.Shelf.Strings.BuilderF
import Derived.Shelf.Strings.BuilderK
import Derived.Shelf.Strings.Builder2Cap
import Derived.Shelf.Strconv.Itoa0
import Derived.Shelf.Strconv.Itoa1
import Derived.Shelf.LaysM
import Derived.Shelf.Strconv.Itoa2
import Derived.Shelf.Strconv.Itoa3
import Derived.Shelf.Strconv.Itoa4
import Derived.Shelf.Strconv.ParseIntEmpty
import Derived.Shelf.Strconv.Clone
import Derived.Shelf.Strconv.SyntaxError
import Derived.Shelf.LaysC
import Derived.Shelf.Strconv.ToError
import Derived.Shelf.Strconv.Lower
import Derived.Shelf.Strconv.ParseUint10
import Derived.Shelf.Strconv.ParseUint10Empty
import Derived.Shelf.Strconv.ParseUint10Any
import Derived.Shelf.Strconv.ParseInt10
import Derived.Shelf.Strconv.RangeError
import Derived.Shelf.Strconv.ToErrorRange
import Derived.Shelf.Strconv.ParseUintEmpty
import Derived.Shelf.Strconv.ParseUint10b64
import Derived.Shelf.Strconv.ParseUint10b32
import Derived.Shelf.Strconv.ParseUint10b16
import Derived.Shelf.Strconv.ParseUint10b8
import Derived.Shelf.Strconv.ParseUint10At
import Derived.Shelf.Strconv.ParseInt10At64
import Derived.Shelf.Strconv.ParseInt10At32
import Derived.Shelf.Strconv.ParseInt10At16
import Derived.Shelf.Strconv.ParseInt10At8
import Derived.Shelf.Strconv.ParseInt10All
import Derived.Shelf.Strconv.ParseIntPublic10
import Derived.Shelf.Strconv.ErrVarParseInt
import Derived.Ground.MpProg
import Derived.Shelf.Pu.ParseUintPublic10
import Derived.Shelf.Pu.ErrVarParseUint
import Derived.Shelf.Strings.Search1
import Derived.Shelf.Strings.Prefix
import Derived.Shelf.Bits.Mul64
import Derived.Shelf.Strings.Repeat
import Derived.Shelf.Strings.BuilderCap
import Derived.Laws.NewBlocks
import Derived.Lib.AtoiAllMem
import Derived.Lib.ParseIntB
import Derived.Lib.Hide
import Derived.Laws.Strings3
import Derived.Laws.Closers25
import Derived.Laws.Closers25b
import Derived.BigCall
import Derived.BigGuard
import Derived.Laws.RangeAny
import Derived.Laws.RangeString
import Derived.Lib.ParseIntBTie
import Init
import Derived.Recover
import Derived.WalkLawsBesides
import Derived.Test.YthebhbomlllpeaaDoorZLexLonger2
namespace Go.Proofs.YthebhbomlllpeaaDoor.X
open Go.RowKit Go.Proofs.YthebhbomlllpeaaDoorW.PrintWords Go.Proofs.YthebhbomlllpeaaDoorW.PrintLast Go.Proofs.YthebhbomlllpeaaDoorW.PrintMore
attribute [local go_sem] max2_int min2_int max_two min_two max_three min_three max_four min_four
set_option linter.unusedVariables false
set_option linter.unusedSimpArgs false
attribute [local go_sem high] eqA34
mutual
def antecedentlaw07_LexLonger.j0 : Nat → ByteArray → ByteArray → Bool → Option (Bool)
  | 0, _, _, _ => none
  | k + 1, x0, x1, x25 => if x25 = true then ((antecedentlaw07_awake.f).bind fun t279 => (some t279)) else ((lex_Tokens.f x0).bind fun bt280 => ((lex_Tokens.f x1).bind fun bt285 => (if bt280.2.2 = 0 then (if bt285.2.2 = 0 then (if (bt280.1.length : Int) = 1 then (if (bt285.1.length : Int) = 1 then (if 0 < (bt280.1.length : Int) then (if ((rd_T34 bt280.1 0).f1).toList = x0.toList then (if 0 < (bt285.1.length : Int) then (if ((rd_T34 bt285.1 0).f1).toList = x1.toList then (if ((rd_T34 bt280.1 0).f0) = 4 then (antecedentlaw07_LexLonger.j1 k x0 x1 bt280.1 true) else (if ((rd_T34 bt285.1 0).f0) = 4 then (antecedentlaw07_LexLonger.j1 k x0 x1 bt280.1 true) else (if 0 < (x1.size : Int) then (if (bt x1 0) = 45 then (antecedentlaw07_LexLonger.j1 k x0 x1 bt280.1 true) else (antecedentlaw07_LexLonger.j1 k x0 x1 bt280.1 ((bt x1 0) == 35))) else (none)))) else (antecedentlaw07_LexLonger.j1 k x0 x1 bt280.1 true)) else (none)) else (antecedentlaw07_LexLonger.j1 k x0 x1 bt280.1 true)) else (none)) else (antecedentlaw07_LexLonger.j1 k x0 x1 bt280.1 true)) else (antecedentlaw07_LexLonger.j1 k x0 x1 bt280.1 true)) else (antecedentlaw07_LexLonger.j1 k x0 x1 bt280.1 true)) else (antecedentlaw07_LexLonger.j1 k x0 x1 bt280.1 true))))
def antecedentlaw07_LexLonger.j1 : Nat → ByteArray → ByteArray → List (S34) → Bool → Option (Bool)
  | 0, _, _, _, _ => none
  | k + 1, x0, x1, x5, x94 => if x94 = true then (some true) else (if x0.size + x1.size ≤ 9223372036854775807 then ((lex_Tokens.f (x0 ++ x1)).bind fun bt294 => (if 0 < (x5.length : Int) then (if ((rd_T34 x5 0).f0) = 1 then (if 0 < (x1.size : Int) then (if (bt x1 0) ≥ 65 then (antecedentlaw07_LexLonger.j2 k x0 x1 x5 bt294.1 bt294.2.1 bt294.2.2 (decide ((bt x1 0) ≤ 90))) else (antecedentlaw07_LexLonger.j2 k x0 x1 x5 bt294.1 bt294.2.1 bt294.2.2 false)) else (none)) else (antecedentlaw07_LexLonger.j2 k x0 x1 x5 bt294.1 bt294.2.1 bt294.2.2 false)) else (none))) else (none))
def antecedentlaw07_LexLonger.j2 : Nat → ByteArray → ByteArray → List (S34) → List (S34) → Int → Int → Bool → Option (Bool)
  | 0, _, _, _, _, _, _, _ => none
  | k + 1, x0, x1, x5, x11, x12, x13, x117 => if x117 = true then (if x13 = 0 then (if (x11.length : Int) = 2 then (if 0 < (x11.length : Int) then (if 0 < (x5.length : Int) then (if (((rd_T34 x11 0).f0) == ((rd_T34 x5 0).f0) && ((((rd_T34 x11 0).f1).toList) == (((rd_T34 x5 0).f1).toList) && (((rd_T34 x11 0).f2) == ((rd_T34 x5 0).f2)))) = true then (if 1 < (x11.length : Int) then (some (((rd_T34 x11 1).f1).toList == x1.toList)) else (none)) else (some false)) else (none)) else (none)) else (some false)) else (some false)) else (if x13 = 0 then (if 0 < (x11.length : Int) then (if 0 < (x5.length : Int) then (if ((rd_T34 x11 0).f0) = ((rd_T34 x5 0).f0) then (if (x11.length : Int) = 1 then (if x0.size + x1.size ≤ 9223372036854775807 then (if ((rd_T34 x11 0).f1).toList = (x0 ++ x1).toList then (some true) else (if ((rd_T34 x5 0).f0) = 1 then (some (decide ((x11.length : Int) > 1))) else (some false))) else (none)) else (if ((rd_T34 x5 0).f0) = 1 then (some (decide ((x11.length : Int) > 1))) else (some false))) else (some false)) else (none)) else (none)) else (if x13 = 2 then (some (decide (x12 ≤ (x0.size : Int)))) else (some false)))
end
def antecedentlaw07_LexLonger.f (k : Nat) (a0 : ByteArray) (a1 : ByteArray) : Option (Bool) := (antecedentlaw07_awake.f).bind fun t278 => (if t278 = true then (if (a0.size : Int) > 100 then (antecedentlaw07_LexLonger.j0 k a0 a1 true) else (antecedentlaw07_LexLonger.j0 k a0 a1 (decide ((a1.size : Int) > 100)))) else (antecedentlaw07_LexLonger.j0 k a0 a1 true))
set_option maxHeartbeats 40000000 in
set_option maxRecDepth 100000 in
theorem antecedentlaw07_LexLonger.calls (k : Nat) (a0 : ByteArray) (a1 : ByteArray) (r : Bool) (w : World) (hLW : LaidW w) (h : antecedentlaw07_LexLonger.f k a0 a1 = some r) :
    Calls Tryd.prog 8 #[.string a0, .string a1] w fun e w' => e = .returned (.bool r) ∧ Below w.heap.size w w' := by
  have hu34 := Tryd.underlying34
  have HLW := Aside0.mk hLW
  clear hLW
  have HB := Aside0.mk (Below.refl w.heap.size w)
  have H : ((antecedentlaw07_awake.f).bind fun t278 => (if t278 = true then (if (a0.size : Int) > 100 then (antecedentlaw07_LexLonger.j0 k a0 a1 true) else (antecedentlaw07_LexLonger.j0 k a0 a1 (decide ((a1.size : Int) > 100)))) else (antecedentlaw07_LexLonger.j0 k a0 a1 true))) = some r := h
  clear h
  have HC3 := Aside0.mk H
  clear H
  go_enter Tryd.func8, Tryd.ntmps8
  go_upto_region 1 with (fail)
  repeat (go_quiet (fail); go_upto_region 1 with (fail))
  go_cut [25] (fun v25 wc => ∃ (kq : Nat) (x25_2 : Bool), v25 = .bool x25_2 ∧ Aside0 (antecedentlaw07_LexLonger.j0 kq a0 a1 x25_2 = some r) ∧ Aside0 (kq ≤ k) ∧ Aside0 (Below w.heap.size w wc))
  case first => as_aux_lemma =>
    have H := HC3.out
    clear HC3
    replace H := Option.bind_eq_some_iff.mp H
    obtain ⟨t278, A40, H⟩ := H
    replace H : (if t278 = true then (if (a0.size : Int) > 100 then (antecedentlaw07_LexLonger.j0 k a0 a1 true) else (antecedentlaw07_LexLonger.j0 k a0 a1 (decide ((a1.size : Int) > 100)))) else (antecedentlaw07_LexLonger.j0 k a0 a1 true)) = some r := H
    have A4 := Aside0.mk A40
    clear A40
    by_cases c5 : t278 = true
    · subst c5
      have H1 : (if (a0.size : Int) > 100 then (antecedentlaw07_LexLonger.j0 k a0 a1 true) else (antecedentlaw07_LexLonger.j0 k a0 a1 (decide ((a1.size : Int) > 100)))) = some r := by rw [if_pos rfl] at H; exact H
      clear H
      have H := H1
      clear H1
      by_cases c6 : (a0.size : Int) > 100
      · rw [if_pos c6] at H
        have c6b0 : decide (100 < (a0.size : Int)) = true := decide_eq_true c6
        have c6b1 : decide (100 < a0.size) = true := decide_eq_true (by omega)
        clear c6
        (first | rw [c6b0] | (simp only [i64_w, i32_w]; rw [c6b0]) | skip)
        have H' := Aside0.mk H
        clear H
        go_wp2_with (first | (go_at_call 10; (with_reducible refine (antecedentlaw07_awake.calls  true _ ?side1 A4.out).mono ?_); (case side1 => (first | (refine LaidW.below HLW.out ?_; (repeat (first | (with_reducible first | exact HB.out | apply below_alloc | apply pw_below_drewN | apply below_drew1) | exact HB.out)); done) | (repeat (first | exact HLW.out | apply LaidW.drewN | apply LaidW.drew | apply LaidW.alloc)))); rintro e w7 ⟨rfl, hb⟩; have n0_ := Aside0.mk (below_step (by repeat (first | (with_reducible first | exact HB.out | apply below_alloc | apply pw_below_drewN | apply below_drew1) | exact HB.out)) hb); clear HB; have HB := n0_; clear n0_; (try clear hb); (try clear hb2); (try clear hk); (try clear hi)))
        repeat (go_quiet (first | (go_at_call 10; (with_reducible refine (antecedentlaw07_awake.calls  true _ ?side1 A4.out).mono ?_); (case side1 => (first | (refine LaidW.below HLW.out ?_; (repeat (first | (with_reducible first | exact HB.out | apply below_alloc | apply pw_below_drewN | apply below_drew1) | exact HB.out)); done) | (repeat (first | exact HLW.out | apply LaidW.drewN | apply LaidW.drew | apply LaidW.alloc)))); rintro e w7 ⟨rfl, hb⟩; have n0_ := Aside0.mk (below_step (by repeat (first | (with_reducible first | exact HB.out | apply below_alloc | apply pw_below_drewN | apply below_drew1) | exact HB.out)) hb); clear HB; have HB := n0_; clear n0_; (try clear hb); (try clear hb2); (try clear hk); (try clear hi))); try go_wp2_with (first | (go_at_call 10; (with_reducible refine (antecedentlaw07_awake.calls  true _ ?side1 A4.out).mono ?_); (case side1 => (first | (refine LaidW.below HLW.out ?_; (repeat (first | (with_reducible first | exact HB.out | apply below_alloc | apply pw_below_drewN | apply below_drew1) | exact HB.out)); done) | (repeat (first | exact HLW.out | apply LaidW.drewN | apply LaidW.drew | apply LaidW.alloc)))); rintro e w7 ⟨rfl, hb⟩; have n0_ := Aside0.mk (below_step (by repeat (first | (with_reducible first | exact HB.out | apply below_alloc | apply pw_below_drewN | apply below_drew1) | exact HB.out)) hb); clear HB; have HB := n0_; clear n0_; (try clear hb); (try clear hb2); (try clear hk); (try clear hi))))
        go_meet
        case rel => exact ⟨_, (true), (by first | rfl | (simp; done) | (simp [*]; done)), H', ⟨by first | omega | exact Nat.le_refl _⟩, ⟨by repeat (first | (with_reducible first | exact HB.out | apply below_alloc | apply pw_below_drewN | apply below_drew1) | exact HB.out)⟩⟩
      · rw [if_neg c6] at H
        have c6b0 : decide (100 < (a0.size : Int)) = false := decide_eq_false c6
        have c6b1 : decide (100 < a0.size) = false := decide_eq_false (by omega)
        clear c6
        (first | rw [c6b0] | (simp only [i64_w, i32_w]; rw [c6b0]) | skip)
        have H' := Aside0.mk H
        clear H
        go_wp2_with (first | (go_at_call 10; (with_reducible refine (antecedentlaw07_awake.calls  true _ ?side1 A4.out).mono ?_); (case side1 => (first | (refine LaidW.below HLW.out ?_; (repeat (first | (with_reducible first | exact HB.out | apply below_alloc | apply pw_below_drewN | apply below_drew1) | exact HB.out)); done) | (repeat (first | exact HLW.out | apply LaidW.drewN | apply LaidW.drew | apply LaidW.alloc)))); rintro e w8 ⟨rfl, hb⟩; have n0_ := Aside0.mk (below_step (by repeat (first | (with_reducible first | exact HB.out | apply below_alloc | apply pw_below_drewN | apply below_drew1) | exact HB.out)) hb); clear HB; have HB := n0_; clear n0_; (try clear hb); (try clear hb2); (try clear hk); (try clear hi)))
        repeat (go_quiet (first | (go_at_call 10; (with_reducible refine (antecedentlaw07_awake.calls  true _ ?side1 A4.out).mono ?_); (case side1 => (first | (refine LaidW.below HLW.out ?_; (repeat (first | (with_reducible first | exact HB.out | apply below_alloc | apply pw_below_drewN | apply below_drew1) | exact HB.out)); done) | (repeat (first | exact HLW.out | apply LaidW.drewN | apply LaidW.drew | apply LaidW.alloc)))); rintro e w8 ⟨rfl, hb⟩; have n0_ := Aside0.mk (below_step (by repeat (first | (with_reducible first | exact HB.out | apply below_alloc | apply pw_below_drewN | apply below_drew1) | exact HB.out)) hb); clear HB; have HB := n0_; clear n0_; (try clear hb); (try clear hb2); (try clear hk); (try clear hi))); try go_wp2_with (first | (go_at_call 10; (with_reducible refine (antecedentlaw07_awake.calls  true _ ?side1 A4.out).mono ?_); (case side1 => (first | (refine LaidW.below HLW.out ?_; (repeat (first | (with_reducible first | exact HB.out | apply below_alloc | apply pw_below_drewN | apply below_drew1) | exact HB.out)); done) | (repeat (first | exact HLW.out | apply LaidW.drewN | apply LaidW.drew | apply LaidW.alloc)))); rintro e w8 ⟨rfl, hb⟩; have n0_ := Aside0.mk (below_step (by repeat (first | (with_reducible first | exact HB.out | apply below_alloc | apply pw_below_drewN | apply below_drew1) | exact HB.out)) hb); clear HB; have HB := n0_; clear n0_; (try clear hb); (try clear hb2); (try clear hk); (try clear hi))))
        go_meet
        case rel => exact ⟨_, (decide ((a1.size : Int) > 100)), (by first | rfl | (simp; done) | (simp [*]; done)), H', ⟨by first | omega | exact Nat.le_refl _⟩, ⟨by repeat (first | (with_reducible first | exact HB.out | apply below_alloc | apply pw_below_drewN | apply below_drew1) | exact HB.out)⟩⟩
    · replace c5 := Bool.eq_false_iff.mpr c5
      subst c5
      have H1 : (antecedentlaw07_LexLonger.j0 k a0 a1 true) = some r := by rw [if_neg (show ¬ (false = true) by decide)] at H; exact H
      clear H
      have H := H1
      clear H1
      have H' := Aside0.mk H
      clear H
      go_wp2_with (first | (go_at_call 10; (with_reducible refine (antecedentlaw07_awake.calls  false _ ?side1 A4.out).mono ?_); (case side1 => (first | (refine LaidW.below HLW.out ?_; (repeat (first | (with_reducible first | exact HB.out | apply below_alloc | apply pw_below_drewN | apply below_drew1) | exact HB.out)); done) | (repeat (first | exact HLW.out | apply LaidW.drewN | apply LaidW.drew | apply LaidW.alloc)))); rintro e w9 ⟨rfl, hb⟩; have n0_ := Aside0.mk (below_step (by repeat (first | (with_reducible first | exact HB.out | apply below_alloc | apply pw_below_drewN | apply below_drew1) | exact HB.out)) hb); clear HB; have HB := n0_; clear n0_; (try clear hb); (try clear hb2); (try clear hk); (try clear hi)))
      repeat (go_quiet (first | (go_at_call 10; (with_reducible refine (antecedentlaw07_awake.calls  false _ ?side1 A4.out).mono ?_); (case side1 => (first | (refine LaidW.below HLW.out ?_; (repeat (first | (with_reducible first | exact HB.out | apply below_alloc | apply pw_below_drewN | apply below_drew1) | exact HB.out)); done) | (repeat (first | exact HLW.out | apply LaidW.drewN | apply LaidW.drew | apply LaidW.alloc)))); rintro e w9 ⟨rfl, hb⟩; have n0_ := Aside0.mk (below_step (by repeat (first | (with_reducible first | exact HB.out | apply below_alloc | apply pw_below_drewN | apply below_drew1) | exact HB.out)) hb); clear HB; have HB := n0_; clear n0_; (try clear hb); (try clear hb2); (try clear hk); (try clear hi))); try go_wp2_with (first | (go_at_call 10; (with_reducible refine (antecedentlaw07_awake.calls  false _ ?side1 A4.out).mono ?_); (case side1 => (first | (refine LaidW.below HLW.out ?_; (repeat (first | (with_reducible first | exact HB.out | apply below_alloc | apply pw_below_drewN | apply below_drew1) | exact HB.out)); done) | (repeat (first | exact HLW.out | apply LaidW.drewN | apply LaidW.drew | apply LaidW.alloc)))); rintro e w9 ⟨rfl, hb⟩; have n0_ := Aside0.mk (below_step (by repeat (first | (with_reducible first | exact HB.out | apply below_alloc | apply pw_below_drewN | apply below_drew1) | exact HB.out)) hb); clear HB; have HB := n0_; clear n0_; (try clear hb); (try clear hb2); (try clear hk); (try clear hi))))
      go_meet
      case rel => exact ⟨_, (true), (by first | rfl | (simp; done) | (simp [*]; done)), H', ⟨by first | omega | exact Nat.le_refl _⟩, ⟨by repeat (first | (with_reducible first | exact HB.out | apply below_alloc | apply pw_below_drewN | apply below_drew1) | exact HB.out)⟩⟩
  case rest => as_aux_lemma =>
    clear HC3
    try clear p2
    try clear c5
    try clear c6
    try clear c6b0
    try clear c6b1
    try clear c8
    obtain ⟨kq, x25_2, rfl, HA, HJ2, HB⟩ := hcut
    cases kq with
    | zero => exact absurd HA.out (by simp [antecedentlaw07_LexLonger.j0])
    | succ kj2 =>
      have H := HA.out
      clear HA
      simp only [antecedentlaw07_LexLonger.j0] at H
      by_cases c10 : x25_2 = true
      · subst c10
        have H1 : ((antecedentlaw07_awake.f).bind fun t279 => (some t279)) = some r := by rw [if_pos rfl] at H; exact H
        clear H
        have H := H1
        clear H1
        replace H := Option.bind_eq_some_iff.mp H
        obtain ⟨t279, A110, H⟩ := H
        replace H : (some t279) = some r := H
        have A11 := Aside0.mk A110
        clear A110
        obtain rfl := Option.some.inj H
        go_wp2_with (first | (go_at_call 10; (with_reducible refine (antecedentlaw07_awake.calls  t279 _ ?side1 A11.out).mono ?_); (case side1 => (first | (refine LaidW.below HLW.out ?_; (repeat (first | (with_reducible first | exact HB.out | apply below_alloc | apply pw_below_drewN | apply below_drew1) | exact HB.out)); done) | (repeat (first | exact HLW.out | apply LaidW.drewN | apply LaidW.drew | apply LaidW.alloc)))); rintro e w12 ⟨rfl, hb⟩; have n0_ := Aside0.mk (below_step (by repeat (first | (with_reducible first | exact HB.out | apply below_alloc | apply pw_below_drewN | apply below_drew1) | exact HB.out)) hb); clear HB; have HB := n0_; clear n0_; (try clear hb); (try clear hb2); (try clear hk); (try clear hi)))
        repeat (go_quiet (first | (go_at_call 10; (with_reducible refine (antecedentlaw07_awake.calls  t279 _ ?side1 A11.out).mono ?_); (case side1 => (first | (refine LaidW.below HLW.out ?_; (repeat (first | (with_reducible first | exact HB.out | apply below_alloc | apply pw_below_drewN | apply below_drew1) | exact HB.out)); done) | (repeat (first | exact HLW.out | apply LaidW.drewN | apply LaidW.drew | apply LaidW.alloc)))); rintro e w12 ⟨rfl, hb⟩; have n0_ := Aside0.mk (below_step (by repeat (first | (with_reducible first | exact HB.out | apply below_alloc | apply pw_below_drewN | apply below_drew1) | exact HB.out)) hb); clear HB; have HB := n0_; clear n0_; (try clear hb); (try clear hb2); (try clear hk); (try clear hi))); try go_wp2_with (first | (go_at_call 10; (with_reducible refine (antecedentlaw07_awake.calls  t279 _ ?side1 A11.out).mono ?_); (case side1 => (first | (refine LaidW.below HLW.out ?_; (repeat (first | (with_reducible first | exact HB.out | apply below_alloc | apply pw_below_drewN | apply below_drew1) | exact HB.out)); done) | (repeat (first | exact HLW.out | apply LaidW.drewN | apply LaidW.drew | apply LaidW.alloc)))); rintro e w12 ⟨rfl, hb⟩; have n0_ := Aside0.mk (below_step (by repeat (first | (with_reducible first | exact HB.out | apply below_alloc | apply pw_below_drewN | apply below_drew1) | exact HB.out)) hb); clear HB; have HB := n0_; clear n0_; (try clear hb); (try clear hb2); (try clear hk); (try clear hi))))
        go_ret
        exact ⟨by first | rfl | (simp [errW_none, errW_some] <;> rfl) | (simp [*, errW_none, errW_some] <;> rfl), by repeat (first | (with_reducible first | exact HB.out | apply below_alloc | apply pw_below_drewN | apply below_drew1) | exact HB.out)⟩
      · replace c10 := Bool.eq_false_iff.mpr c10
        subst c10
        have H1 : ((lex_Tokens.f a0).bind fun bt280 => ((lex_Tokens.f a1).bind fun bt285 => (if bt280.2.2 = 0 then (if bt285.2.2 = 0 then (if (bt280.1.length : Int) = 1 then (if (bt285.1.length : Int) = 1 then (if 0 < (bt280.1.length : Int) then (if ((rd_T34 bt280.1 0).f1).toList = a0.toList then (if 0 < (bt285.1.length : Int) then (if ((rd_T34 bt285.1 0).f1).toList = a1.toList then (if ((rd_T34 bt280.1 0).f0) = 4 then (antecedentlaw07_LexLonger.j1 kj2 a0 a1 bt280.1 true) else (if ((rd_T34 bt285.1 0).f0) = 4 then (antecedentlaw07_LexLonger.j1 kj2 a0 a1 bt280.1 true) else (if 0 < (a1.size : Int) then (if (bt a1 0) = 45 then (antecedentlaw07_LexLonger.j1 kj2 a0 a1 bt280.1 true) else (antecedentlaw07_LexLonger.j1 kj2 a0 a1 bt280.1 ((bt a1 0) == 35))) else (none)))) else (antecedentlaw07_LexLonger.j1 kj2 a0 a1 bt280.1 true)) else (none)) else (antecedentlaw07_LexLonger.j1 kj2 a0 a1 bt280.1 true)) else (none)) else (antecedentlaw07_LexLonger.j1 kj2 a0 a1 bt280.1 true)) else (antecedentlaw07_LexLonger.j1 kj2 a0 a1 bt280.1 true)) else (antecedentlaw07_LexLonger.j1 kj2 a0 a1 bt280.1 true)) else (antecedentlaw07_LexLonger.j1 kj2 a0 a1 bt280.1 true)))) = some r := by rw [if_neg (show ¬ (false = true) by decide)] at H; exact H
        clear H
        have H := H1
        clear H1
        replace H := Option.bind_eq_some_iff.mp H
        obtain ⟨⟨t280, t281, t282⟩, A130, H⟩ := H
        replace H : ((lex_Tokens.f a1).bind fun bt285 => (if t282 = 0 then (if bt285.2.2 = 0 then (if (t280.length : Int) = 1 then (if (bt285.1.length : Int) = 1 then (if 0 < (t280.length : Int) then (if ((rd_T34 t280 0).f1).toList = a0.toList then (if 0 < (bt285.1.length : Int) then (if ((rd_T34 bt285.1 0).f1).toList = a1.toList then (if ((rd_T34 t280 0).f0) = 4 then (antecedentlaw07_LexLonger.j1 kj2 a0 a1 t280 true) else (if ((rd_T34 bt285.1 0).f0) = 4 then (antecedentlaw07_LexLonger.j1 kj2 a0 a1 t280 true) else (if 0 < (a1.size : Int) then (if (bt a1 0) = 45 then (antecedentlaw07_LexLonger.j1 kj2 a0 a1 t280 true) else (antecedentlaw07_LexLonger.j1 kj2 a0 a1 t280 ((bt a1 0) == 35))) else (none)))) else (antecedentlaw07_LexLonger.j1 kj2 a0 a1 t280 true)) else (none)) else (antecedentlaw07_LexLonger.j1 kj2 a0 a1 t280 true)) else (none)) else (antecedentlaw07_LexLonger.j1 kj2 a0 a1 t280 true)) else (antecedentlaw07_LexLonger.j1 kj2 a0 a1 t280 true)) else (antecedentlaw07_LexLonger.j1 kj2 a0 a1 t280 true)) else (antecedentlaw07_LexLonger.j1 kj2 a0 a1 t280 true))) = some r := H
        have A13 := Aside0.mk A130
        clear A130
        replace H := Option.bind_eq_some_iff.mp H
        obtain ⟨⟨t285, t286, t287⟩, A140, H⟩ := H
        replace H : (if t282 = 0 then (if t287 = 0 then (if (t280.length : Int) = 1 then (if (t285.length : Int) = 1 then (if 0 < (t280.length : Int) then (if ((rd_T34 t280 0).f1).toList = a0.toList then (if 0 < (t285.length : Int) then (if ((rd_T34 t285 0).f1).toList = a1.toList then (if ((rd_T34 t280 0).f0) = 4 then (antecedentlaw07_LexLonger.j1 kj2 a0 a1 t280 true) else (if ((rd_T34 t285 0).f0) = 4 then (antecedentlaw07_LexLonger.j1 kj2 a0 a1 t280 true) else (if 0 < (a1.size : Int) then (if (bt a1 0) = 45 then (antecedentlaw07_LexLonger.j1 kj2 a0 a1 t280 true) else (antecedentlaw07_LexLonger.j1 kj2 a0 a1 t280 ((bt a1 0) == 35))) else (none)))) else (antecedentlaw07_LexLonger.j1 kj2 a0 a1 t280 true)) else (none)) else (antecedentlaw07_LexLonger.j1 kj2 a0 a1 t280 true)) else (none)) else (antecedentlaw07_LexLonger.j1 kj2 a0 a1 t280 true)) else (antecedentlaw07_LexLonger.j1 kj2 a0 a1 t280 true)) else (antecedentlaw07_LexLonger.j1 kj2 a0 a1 t280 true)) else (antecedentlaw07_LexLonger.j1 kj2 a0 a1 t280 true)) = some r := H
        have A14 := Aside0.mk A140
        clear A140
        have HC15 := Aside0.mk H
        clear H
        go_upto_region 5 with (first | (go_at_call 11; (with_reducible refine (lex_Tokens.calls a0 t280 t281 t282 _ ?side1 A13.out).mono ?_); (case side1 => (first | (refine LaidW.below HLW.out ?_; (repeat (first | (with_reducible first | exact HB.out | apply below_alloc | apply pw_below_drewN | apply below_drew1) | exact HB.out)); done) | (repeat (first | exact HLW.out | apply LaidW.drewN | apply LaidW.drew | apply LaidW.alloc)))); rintro e w16 ⟨v283, rfl, ho0, hb⟩; have n0_ := Aside0.mk (Kd.R_lower ho0 (below_size (by repeat (first | (with_reducible first | exact HB.out | apply below_alloc | apply pw_below_drewN | apply below_drew1) | exact HB.out)))); have n1_ := Aside0.mk (below_step (by repeat (first | (with_reducible first | exact HB.out | apply below_alloc | apply pw_below_drewN | apply below_drew1) | exact HB.out)) hb); clear HB; have HO284 := n0_; have HB := n1_; clear n0_ n1_; (try clear hb); (try clear hb2); (try clear hk); (try clear hi); (try clear ho0)) | (go_at_call 11; (with_reducible refine (lex_Tokens.calls a1 t285 t286 t287 _ ?side1 A14.out).mono ?_); (case side1 => (first | (refine LaidW.below HLW.out ?_; (repeat (first | (with_reducible first | exact HB.out | apply below_alloc | apply pw_below_drewN | apply below_drew1) | exact HB.out)); done) | (repeat (first | exact HLW.out | apply LaidW.drewN | apply LaidW.drew | apply LaidW.alloc)))); rintro e w17 ⟨v288, rfl, ho0, hb⟩; have n0_ := Aside0.mk (Kd.R_elder' (by (with_reducible repeat (first | apply Kd.R_alloc | apply Kd.R_drewN | apply Kd.R_drew)); exact HO284.out) (Kd.R_base ho0) hb); have n1_ := Aside0.mk (Kd.R_lower (Kd.R_new' ho0 (Kd.R_lt (by (with_reducible repeat (first | apply Kd.R_alloc | apply Kd.R_drewN | apply Kd.R_drew)); exact HO284.out))) (below_size (by repeat (first | (with_reducible first | exact HB.out | apply below_alloc | apply pw_below_drewN | apply below_drew1) | exact HB.out)))); have n2_ := Aside0.mk (below_step (by repeat (first | (with_reducible first | exact HB.out | apply below_alloc | apply pw_below_drewN | apply below_drew1) | exact HB.out)) hb); clear HO284; clear HB; have HO284 := n0_; have HO289 := n1_; have HB := n2_; clear n0_ n1_ n2_; (try clear hb); (try clear hb2); (try clear hk); (try clear hi); (try clear ho0)))
        repeat (go_quiet (first | (go_at_call 11; (with_reducible refine (lex_Tokens.calls a0 t280 t281 t282 _ ?side1 A13.out).mono ?_); (case side1 => (first | (refine LaidW.below HLW.out ?_; (repeat (first | (with_reducible first | exact HB.out | apply below_alloc | apply pw_below_drewN | apply below_drew1) | exact HB.out)); done) | (repeat (first | exact HLW.out | apply LaidW.drewN | apply LaidW.drew | apply LaidW.alloc)))); rintro e w16 ⟨v283, rfl, ho0, hb⟩; have n0_ := Aside0.mk (Kd.R_lower ho0 (below_size (by repeat (first | (with_reducible first | exact HB.out | apply below_alloc | apply pw_below_drewN | apply below_drew1) | exact HB.out)))); have n1_ := Aside0.mk (below_step (by repeat (first | (with_reducible first | exact HB.out | apply below_alloc | apply pw_below_drewN | apply below_drew1) | exact HB.out)) hb); clear HB; have HO284 := n0_; have HB := n1_; clear n0_ n1_; (try clear hb); (try clear hb2); (try clear hk); (try clear hi); (try clear ho0)) | (go_at_call 11; (with_reducible refine (lex_Tokens.calls a1 t285 t286 t287 _ ?side1 A14.out).mono ?_); (case side1 => (first | (refine LaidW.below HLW.out ?_; (repeat (first | (with_reducible first | exact HB.out | apply below_alloc | apply pw_below_drewN | apply below_drew1) | exact HB.out)); done) | (repeat (first | exact HLW.out | apply LaidW.drewN | apply LaidW.drew | apply LaidW.alloc)))); rintro e w17 ⟨v288, rfl, ho0, hb⟩; have n0_ := Aside0.mk (Kd.R_elder' (by (with_reducible repeat (first | apply Kd.R_alloc | apply Kd.R_drewN | apply Kd.R_drew)); exact HO284.out) (Kd.R_base ho0) hb); have n1_ := Aside0.mk (Kd.R_lower (Kd.R_new' ho0 (Kd.R_lt (by (with_reducible repeat (first | apply Kd.R_alloc | apply Kd.R_drewN | apply Kd.R_drew)); exact HO284.out))) (below_size (by repeat (first | (with_reducible first | exact HB.out | apply below_alloc | apply pw_below_drewN | apply below_drew1) | exact HB.out)))); have n2_ := Aside0.mk (below_step (by repeat (first | (with_reducible first | exact HB.out | apply below_alloc | apply pw_below_drewN | apply below_drew1) | exact HB.out)) hb); clear HO284; clear HB; have HO284 := n0_; have HO289 := n1_; have HB := n2_; clear n0_ n1_ n2_; (try clear hb); (try clear hb2); (try clear hk); (try clear hi); (try clear ho0))); go_upto_region 5 with (first | (go_at_call 11; (with_reducible refine (lex_Tokens.calls a0 t280 t281 t282 _ ?side1 A13.out).mono ?_); (case side1 => (first | (refine LaidW.below HLW.out ?_; (repeat (first | (with_reducible first | exact HB.out | apply below_alloc | apply pw_below_drewN | apply below_drew1) | exact HB.out)); done) | (repeat (first | exact HLW.out | apply LaidW.drewN | apply LaidW.drew | apply LaidW.alloc)))); rintro e w16 ⟨v283, rfl, ho0, hb⟩; have n0_ := Aside0.mk (Kd.R_lower ho0 (below_size (by repeat (first | (with_reducible first | exact HB.out | apply below_alloc | apply pw_below_drewN | apply below_drew1) | exact HB.out)))); have n1_ := Aside0.mk (below_step (by repeat (first | (with_reducible first | exact HB.out | apply below_alloc | apply pw_below_drewN | apply below_drew1) | exact HB.out)) hb); clear HB; have HO284 := n0_; have HB := n1_; clear n0_ n1_; (try clear hb); (try clear hb2); (try clear hk); (try clear hi); (try clear ho0)) | (go_at_call 11; (with_reducible refine (lex_Tokens.calls a1 t285 t286 t287 _ ?side1 A14.out).mono ?_); (case side1 => (first | (refine LaidW.below HLW.out ?_; (repeat (first | (with_reducible first | exact HB.out | apply below_alloc | apply pw_below_drewN | apply below_drew1) | exact HB.out)); done) | (repeat (first | exact HLW.out | apply LaidW.drewN | apply LaidW.drew | apply LaidW.alloc)))); rintro e w17 ⟨v288, rfl, ho0, hb⟩; have n0_ := Aside0.mk (Kd.R_elder' (by (with_reducible repeat (first | apply Kd.R_alloc | apply Kd.R_drewN | apply Kd.R_drew)); exact HO284.out) (Kd.R_base ho0) hb); have n1_ := Aside0.mk (Kd.R_lower (Kd.R_new' ho0 (Kd.R_lt (by (with_reducible repeat (first | apply Kd.R_alloc | apply Kd.R_drewN | apply Kd.R_drew)); exact HO284.out))) (below_size (by repeat (first | (with_reducible first | exact HB.out | apply below_alloc | apply pw_below_drewN | apply below_drew1) | exact HB.out)))); have n2_ := Aside0.mk (below_step (by repeat (first | (with_reducible first | exact HB.out | apply below_alloc | apply pw_below_drewN | apply below_drew1) | exact HB.out)) hb); clear HO284; clear HB; have HO284 := n0_; have HO289 := n1_; have HB := n2_; clear n0_ n1_ n2_; (try clear hb); (try clear hb2); (try clear hk); (try clear hi); (try clear ho0))))
        (try simp only [Act.put, List.setIfInBounds_toArray, List.set_cons_zero, List.set_cons_succ])
        go_cut [94] (fun v94 wc => ∃ (kq : Nat) (x94_14 : Bool), v94 = .bool x94_14 ∧ Aside0 (antecedentlaw07_LexLonger.j1 kq a0 a1 t280 x94_14 = some r) ∧ Aside0 (kq ≤ kj2) ∧ Aside0 (Kd.R k34 34 wc w.heap.size (fun _ => True) v283 t280) ∧ Aside0 (Below w.heap.size w wc))
        case first => as_aux_lemma =>
          have H := HC15.out
          clear HC15
          by_cases c18 : t282 = 0
          · rw [if_pos c18] at H
            have c18b0 : (t282 == 0) = true := beq_iff_eq.mpr c18
            have c18b1 : (t282 != 0) = false := bne_eq_false_iff_eq.mpr c18
            clear c18
            (first | rw [c18b0] | (simp only [i64_w, i32_w]; rw [c18b0]) | skip)
            by_cases c19 : t287 = 0
            · rw [if_pos c19] at H
              have c19b0 : (t287 == 0) = true := beq_iff_eq.mpr c19
              have c19b1 : (t287 != 0) = false := bne_eq_false_iff_eq.mpr c19
              clear c19
              by_cases c20 : (t280.length : Int) = 1
              · rw [if_pos c20] at H
                have c20b0 : ((t280.length : Int) == 1) = true := beq_iff_eq.mpr c20
                have c20b1 : ((t280.length : Int) != 1) = false := bne_eq_false_iff_eq.mpr c20
                clear c20
                by_cases c21 : (t285.length : Int) = 1
                · rw [if_pos c21] at H
                  have c21b0 : ((t285.length : Int) == 1) = true := beq_iff_eq.mpr c21
                  have c21b1 : ((t285.length : Int) != 1) = false := bne_eq_false_iff_eq.mpr c21
                  clear c21
                  by_cases c22 : 0 < (t280.length : Int)
                  · rw [if_pos c22] at H
                    have c22b0 : decide (0 < (t280.length : Int)) = true := decide_eq_true c22
                    have c22b1 : decide (0 < t280.length) = true := decide_eq_true (by omega)
                    clear c22
                    by_cases c23 : ((rd_T34 t280 0).f1).toList = a0.toList
                    · rw [if_pos c23] at H
                      have c23b0 : (((rd_T34 t280 0).f1).toList == a0.toList) = true := beq_iff_eq.mpr c23
                      have c23b1 : (((rd_T34 t280 0).f1).toList != a0.toList) = false := bne_eq_false_iff_eq.mpr c23
                      clear c23
                      by_cases c24 : 0 < (t285.length : Int)
                      · rw [if_pos c24] at H
                        have c24b0 : decide (0 < (t285.length : Int)) = true := decide_eq_true c24
                        have c24b1 : decide (0 < t285.length) = true := decide_eq_true (by omega)
                        clear c24
                        by_cases c25 : ((rd_T34 t285 0).f1).toList = a1.toList
                        · rw [if_pos c25] at H
                          have c25b0 : (((rd_T34 t285 0).f1).toList == a1.toList) = true := beq_iff_eq.mpr c25
                          have c25b1 : (((rd_T34 t285 0).f1).toList != a1.toList) = false := bne_eq_false_iff_eq.mpr c25
                          clear c25
                          by_cases c26 : ((rd_T34 t280 0).f0) = 4
                          · rw [if_pos c26] at H
                            have c26b0 : (((rd_T34 t280 0).f0) == 4) = true := beq_iff_eq.mpr c26
                            have c26b1 : (((rd_T34 t280 0).f0) != 4) = false := bne_eq_false_iff_eq.mpr c26
                            clear c26
                            have H' := Aside0.mk H
                            clear H
                            obtain ⟨Ao27, co27, eo27⟩ := Kd.R_slice HO284.out
                            subst eo27
                            obtain ⟨Ao28, co28, eo28⟩ := Kd.R_slice HO289.out
                            subst eo28
                            have p290 : 0 ≤ (0 : Int) := (by omega)
                            have q290 : 0 < (t280.length : Int) := of_decide_eq_true (by first | (with_reducible assumption) | assumption)
                            obtain ⟨ad290, e290, hx290_0, hx290_1, hx290_2⟩ := at_T34 (Kd.R_reads' HO284.out).2.2 0 p290 q290
                            cases e290
                            have qi290 : (0 < t280.length) = True := eq_true (by omega)
                            (try rw [show ((0 : Int)).toNat = 0 from rfl] at hx290_0)
                            (try rw [show 0 * 3 = 0 from rfl] at hx290_0)
                            (try rw [Addr.add_zero'] at hx290_0)
                            (try rw [show ((0 : Int)).toNat = 0 from rfl] at hx290_1)
                            (try rw [show 0 * 3 = 0 from rfl] at hx290_1)
                            (try rw [Addr.add_zero'] at hx290_1)
                            (try rw [show ((0 : Int)).toNat = 0 from rfl] at hx290_2)
                            (try rw [show 0 * 3 = 0 from rfl] at hx290_2)
                            (try rw [Addr.add_zero'] at hx290_2)
                            replace p290 := eq_true p290
                            replace q290 := eq_true q290
                            have p291 : 0 ≤ (0 : Int) := (by omega)
                            have q291 : 0 < (t285.length : Int) := of_decide_eq_true (by first | (with_reducible assumption) | assumption)
                            obtain ⟨ad291, e291, hx291_0, hx291_1, hx291_2⟩ := at_T34 (Kd.R_reads' HO289.out).2.2 0 p291 q291
                            cases e291
                            have qi291 : (0 < t285.length) = True := eq_true (by omega)
                            (try rw [show ((0 : Int)).toNat = 0 from rfl] at hx291_0)
                            (try rw [show 0 * 3 = 0 from rfl] at hx291_0)
                            (try rw [Addr.add_zero'] at hx291_0)
                            (try rw [show ((0 : Int)).toNat = 0 from rfl] at hx291_1)
                            (try rw [show 0 * 3 = 0 from rfl] at hx291_1)
                            (try rw [Addr.add_zero'] at hx291_1)
                            (try rw [show ((0 : Int)).toNat = 0 from rfl] at hx291_2)
                            (try rw [show 0 * 3 = 0 from rfl] at hx291_2)
                            (try rw [Addr.add_zero'] at hx291_2)
                            replace p291 := eq_true p291
                            replace q291 := eq_true q291
                            have p292 : 0 ≤ (0 : Int) := (by omega)
                            have q292 : 0 < (t280.length : Int) := of_decide_eq_true (by first | (with_reducible assumption) | assumption)
                            obtain ⟨ad292, e292, hx292_0, hx292_1, hx292_2⟩ := at_T34 (Kd.R_reads' HO284.out).2.2 0 p292 q292
                            obtain rfl : ad290 = ad292 := (by injection e292)
                            have qi292 : (0 < t280.length) = True := eq_true (by omega)
                            (try rw [show ((0 : Int)).toNat = 0 from rfl] at hx292_0)
                            (try rw [show 0 * 3 = 0 from rfl] at hx292_0)
                            (try rw [Addr.add_zero'] at hx292_0)
                            (try rw [show ((0 : Int)).toNat = 0 from rfl] at hx292_1)
                            (try rw [show 0 * 3 = 0 from rfl] at hx292_1)
                            (try rw [Addr.add_zero'] at hx292_1)
                            (try rw [show ((0 : Int)).toNat = 0 from rfl] at hx292_2)
                            (try rw [show 0 * 3 = 0 from rfl] at hx292_2)
                            (try rw [Addr.add_zero'] at hx292_2)
                            replace p292 := eq_true p292
                            replace q292 := eq_true q292
                            go_wp2
                            repeat (go_quiet (fail); try go_wp2)
                            go_meet
                            case rel => exact ⟨_, (true), (by first | rfl | (simp; done) | (simp [*]; done)), H', ⟨by have := HJ2.out; first | omega | exact Nat.le_refl _⟩, ⟨by (with_reducible repeat (first | apply Kd.R_alloc | apply Kd.R_drewN | apply Kd.R_drew)); exact Kd.R_mono HO284.out (fun _ hk => trivial)⟩, ⟨by repeat (first | (with_reducible first | exact HB.out | apply below_alloc | apply pw_below_drewN | apply below_drew1) | exact HB.out)⟩⟩
                          · rw [if_neg c26] at H
                            have c26b0 : (((rd_T34 t280 0).f0) == 4) = false := beq_eq_false_iff_ne.mpr c26
                            have c26b1 : (((rd_T34 t280 0).f0) != 4) = true := bne_iff_ne.mpr c26
                            by_cases c29 : ((rd_T34 t285 0).f0) = 4
                            · rw [if_pos c29] at H
                              have c29b0 : (((rd_T34 t285 0).f0) == 4) = true := beq_iff_eq.mpr c29
                              have c29b1 : (((rd_T34 t285 0).f0) != 4) = false := bne_eq_false_iff_eq.mpr c29
                              clear c29
                              have H' := Aside0.mk H
                              clear H
                              obtain ⟨Ao30, co30, eo30⟩ := Kd.R_slice HO284.out
                              subst eo30
                              obtain ⟨Ao31, co31, eo31⟩ := Kd.R_slice HO289.out
                              subst eo31
                              have p290 : 0 ≤ (0 : Int) := (by omega)
                              have q290 : 0 < (t280.length : Int) := of_decide_eq_true (by first | (with_reducible assumption) | assumption)
                              obtain ⟨ad290, e290, hx290_0, hx290_1, hx290_2⟩ := at_T34 (Kd.R_reads' HO284.out).2.2 0 p290 q290
                              cases e290
                              have qi290 : (0 < t280.length) = True := eq_true (by omega)
                              (try rw [show ((0 : Int)).toNat = 0 from rfl] at hx290_0)
                              (try rw [show 0 * 3 = 0 from rfl] at hx290_0)
                              (try rw [Addr.add_zero'] at hx290_0)
                              (try rw [show ((0 : Int)).toNat = 0 from rfl] at hx290_1)
                              (try rw [show 0 * 3 = 0 from rfl] at hx290_1)
                              (try rw [Addr.add_zero'] at hx290_1)
                              (try rw [show ((0 : Int)).toNat = 0 from rfl] at hx290_2)
                              (try rw [show 0 * 3 = 0 from rfl] at hx290_2)
                              (try rw [Addr.add_zero'] at hx290_2)
                              replace p290 := eq_true p290
                              replace q290 := eq_true q290
                              have p291 : 0 ≤ (0 : Int) := (by omega)
                              have q291 : 0 < (t285.length : Int) := of_decide_eq_true (by first | (with_reducible assumption) | assumption)
                              obtain ⟨ad291, e291, hx291_0, hx291_1, hx291_2⟩ := at_T34 (Kd.R_reads' HO289.out).2.2 0 p291 q291
                              cases e291
                              have qi291 : (0 < t285.length) = True := eq_true (by omega)
                              (try rw [show ((0 : Int)).toNat = 0 from rfl] at hx291_0)
                              (try rw [show 0 * 3 = 0 from rfl] at hx291_0)
                              (try rw [Addr.add_zero'] at hx291_0)
                              (try rw [show ((0 : Int)).toNat = 0 from rfl] at hx291_1)
                              (try rw [show 0 * 3 = 0 from rfl] at hx291_1)
                              (try rw [Addr.add_zero'] at hx291_1)
                              (try rw [show ((0 : Int)).toNat = 0 from rfl] at hx291_2)
                              (try rw [show 0 * 3 = 0 from rfl] at hx291_2)
                              (try rw [Addr.add_zero'] at hx291_2)
                              replace p291 := eq_true p291
                              replace q291 := eq_true q291
                              have p292 : 0 ≤ (0 : Int) := (by omega)
                              have q292 : 0 < (t280.length : Int) := of_decide_eq_true (by first | (with_reducible assumption) | assumption)
                              obtain ⟨ad292, e292, hx292_0, hx292_1, hx292_2⟩ := at_T34 (Kd.R_reads' HO284.out).2.2 0 p292 q292
                              obtain rfl : ad290 = ad292 := (by injection e292)
                              have qi292 : (0 < t280.length) = True := eq_true (by omega)
                              (try rw [show ((0 : Int)).toNat = 0 from rfl] at hx292_0)
                              (try rw [show 0 * 3 = 0 from rfl] at hx292_0)
                              (try rw [Addr.add_zero'] at hx292_0)
                              (try rw [show ((0 : Int)).toNat = 0 from rfl] at hx292_1)
                              (try rw [show 0 * 3 = 0 from rfl] at hx292_1)
                              (try rw [Addr.add_zero'] at hx292_1)
                              (try rw [show ((0 : Int)).toNat = 0 from rfl] at hx292_2)
                              (try rw [show 0 * 3 = 0 from rfl] at hx292_2)
                              (try rw [Addr.add_zero'] at hx292_2)
                              replace p292 := eq_true p292
                              replace q292 := eq_true q292
                              have p293 : 0 ≤ (0 : Int) := (by omega)
                              have q293 : 0 < (t285.length : Int) := of_decide_eq_true (by first | (with_reducible assumption) | assumption)
                              obtain ⟨ad293, e293, hx293_0, hx293_1, hx293_2⟩ := at_T34 (Kd.R_reads' HO289.out).2.2 0 p293 q293
                              obtain rfl : ad291 = ad293 := (by injection e293)
                              have qi293 : (0 < t285.length) = True := eq_true (by omega)
                              (try rw [show ((0 : Int)).toNat = 0 from rfl] at hx293_0)
                              (try rw [show 0 * 3 = 0 from rfl] at hx293_0)
                              (try rw [Addr.add_zero'] at hx293_0)
                              (try rw [show ((0 : Int)).toNat = 0 from rfl] at hx293_1)
                              (try rw [show 0 * 3 = 0 from rfl] at hx293_1)
                              (try rw [Addr.add_zero'] at hx293_1)
                              (try rw [show ((0 : Int)).toNat = 0 from rfl] at hx293_2)
                              (try rw [show 0 * 3 = 0 from rfl] at hx293_2)
                              (try rw [Addr.add_zero'] at hx293_2)
                              replace p293 := eq_true p293
                              replace q293 := eq_true q293
                              go_wp2
                              repeat (go_quiet (fail); try go_wp2)
                              go_meet
                              case rel => exact ⟨_, (true), (by first | rfl | (simp; done) | (simp [*]; done)), H', ⟨by have := HJ2.out; first | omega | exact Nat.le_refl _⟩, ⟨by (with_reducible repeat (first | apply Kd.R_alloc | apply Kd.R_drewN | apply Kd.R_drew)); exact Kd.R_mono HO284.out (fun _ hk => trivial)⟩, ⟨by repeat (first | (with_reducible first | exact HB.out | apply below_alloc | apply pw_below_drewN | apply below_drew1) | exact HB.out)⟩⟩
                            · rw [if_neg c29] at H
                              have c29b0 : (((rd_T34 t285 0).f0) == 4) = false := beq_eq_false_iff_ne.mpr c29
                              have c29b1 : (((rd_T34 t285 0).f0) != 4) = true := bne_iff_ne.mpr c29
                              by_cases c32 : 0 < (a1.size : Int)
                              · rw [if_pos c32] at H
                                have c32b0 : decide (0 < (a1.size : Int)) = true := decide_eq_true c32
                                have c32b1 : decide (0 < a1.size) = true := decide_eq_true (by omega)
                                clear c32
                                by_cases c34 : (bt a1 0) = 45
                                · rw [if_pos c34] at H
                                  have c34b0 : ((bt a1 0) == 45) = true := beq_iff_eq.mpr c34
                                  have c34b1 : ((bt a1 0) != 45) = false := bne_eq_false_iff_eq.mpr c34
                                  clear c34
                                  have H' := Aside0.mk H
                                  clear H
                                  obtain ⟨Ao35, co35, eo35⟩ := Kd.R_slice HO284.out
                                  subst eo35
                                  obtain ⟨Ao36, co36, eo36⟩ := Kd.R_slice HO289.out
                                  subst eo36
                                  have p290 : 0 ≤ (0 : Int) := (by omega)
                                  have q290 : 0 < (t280.length : Int) := of_decide_eq_true (by first | (with_reducible assumption) | assumption)
                                  obtain ⟨ad290, e290, hx290_0, hx290_1, hx290_2⟩ := at_T34 (Kd.R_reads' HO284.out).2.2 0 p290 q290
                                  cases e290
                                  have qi290 : (0 < t280.length) = True := eq_true (by omega)
                                  (try rw [show ((0 : Int)).toNat = 0 from rfl] at hx290_0)
                                  (try rw [show 0 * 3 = 0 from rfl] at hx290_0)
                                  (try rw [Addr.add_zero'] at hx290_0)
                                  (try rw [show ((0 : Int)).toNat = 0 from rfl] at hx290_1)
                                  (try rw [show 0 * 3 = 0 from rfl] at hx290_1)
                                  (try rw [Addr.add_zero'] at hx290_1)
                                  (try rw [show ((0 : Int)).toNat = 0 from rfl] at hx290_2)
                                  (try rw [show 0 * 3 = 0 from rfl] at hx290_2)
                                  (try rw [Addr.add_zero'] at hx290_2)
                                  replace p290 := eq_true p290
                                  replace q290 := eq_true q290
                                  have p291 : 0 ≤ (0 : Int) := (by omega)
                                  have q291 : 0 < (t285.length : Int) := of_decide_eq_true (by first | (with_reducible assumption) | assumption)
                                  obtain ⟨ad291, e291, hx291_0, hx291_1, hx291_2⟩ := at_T34 (Kd.R_reads' HO289.out).2.2 0 p291 q291
                                  cases e291
                                  have qi291 : (0 < t285.length) = True := eq_true (by omega)
                                  (try rw [show ((0 : Int)).toNat = 0 from rfl] at hx291_0)
                                  (try rw [show 0 * 3 = 0 from rfl] at hx291_0)
                                  (try rw [Addr.add_zero'] at hx291_0)
                                  (try rw [show ((0 : Int)).toNat = 0 from rfl] at hx291_1)
                                  (try rw [show 0 * 3 = 0 from rfl] at hx291_1)
                                  (try rw [Addr.add_zero'] at hx291_1)
                                  (try rw [show ((0 : Int)).toNat = 0 from rfl] at hx291_2)
                                  (try rw [show 0 * 3 = 0 from rfl] at hx291_2)
                                  (try rw [Addr.add_zero'] at hx291_2)
                                  replace p291 := eq_true p291
                                  replace q291 := eq_true q291
                                  have p292 : 0 ≤ (0 : Int) := (by omega)
                                  have q292 : 0 < (t280.length : Int) := of_decide_eq_true (by first | (with_reducible assumption) | assumption)
                                  obtain ⟨ad292, e292, hx292_0, hx292_1, hx292_2⟩ := at_T34 (Kd.R_reads' HO284.out).2.2 0 p292 q292
                                  obtain rfl : ad290 = ad292 := (by injection e292)
                                  have qi292 : (0 < t280.length) = True := eq_true (by omega)
                                  (try rw [show ((0 : Int)).toNat = 0 from rfl] at hx292_0)
                                  (try rw [show 0 * 3 = 0 from rfl] at hx292_0)
                                  (try rw [Addr.add_zero'] at hx292_0)
                                  (try rw [show ((0 : Int)).toNat = 0 from rfl] at hx292_1)
                                  (try rw [show 0 * 3 = 0 from rfl] at hx292_1)
                                  (try rw [Addr.add_zero'] at hx292_1)
                                  (try rw [show ((0 : Int)).toNat = 0 from rfl] at hx292_2)
                                  (try rw [show 0 * 3 = 0 from rfl] at hx292_2)
                                  (try rw [Addr.add_zero'] at hx292_2)
                                  replace p292 := eq_true p292
                                  replace q292 := eq_true q292
                                  have p293 : 0 ≤ (0 : Int) := (by omega)
                                  have q293 : 0 < (t285.length : Int) := of_decide_eq_true (by first | (with_reducible assumption) | assumption)
                                  obtain ⟨ad293, e293, hx293_0, hx293_1, hx293_2⟩ := at_T34 (Kd.R_reads' HO289.out).2.2 0 p293 q293
                                  obtain rfl : ad291 = ad293 := (by injection e293)
                                  have qi293 : (0 < t285.length) = True := eq_true (by omega)
                                  (try rw [show ((0 : Int)).toNat = 0 from rfl] at hx293_0)
                                  (try rw [show 0 * 3 = 0 from rfl] at hx293_0)
                                  (try rw [Addr.add_zero'] at hx293_0)
                                  (try rw [show ((0 : Int)).toNat = 0 from rfl] at hx293_1)
                                  (try rw [show 0 * 3 = 0 from rfl] at hx293_1)
                                  (try rw [Addr.add_zero'] at hx293_1)
                                  (try rw [show ((0 : Int)).toNat = 0 from rfl] at hx293_2)
                                  (try rw [show 0 * 3 = 0 from rfl] at hx293_2)
                                  (try rw [Addr.add_zero'] at hx293_2)
                                  replace p293 := eq_true p293
                                  replace q293 := eq_true q293
                                  have p33 : 0 ≤ (0 : Int) := (by omega)
                                  have q33 : 0 < a1.size := (by have : (0 : Int) < (a1.size : Int) := of_decide_eq_true (by first | (with_reducible assumption) | assumption); omega)
                                  have hx33 : ∀ h : 0 < a1.size, ((a1[0]'h).toNat : Int) = bt a1 0 := bt_at a1 0
                                  clear p33
                                  have qi33 : (0 < (a1.size : Int)) = True := eq_true (of_decide_eq_true (by first | (with_reducible assumption) | assumption))
                                  replace q33 := eq_true q33
                                  go_wp2
                                  repeat (go_quiet (fail); try go_wp2)
                                  go_meet
                                  case rel => exact ⟨_, (true), (by first | rfl | (simp; done) | (simp [*]; done)), H', ⟨by have := HJ2.out; first | omega | exact Nat.le_refl _⟩, ⟨by (with_reducible repeat (first | apply Kd.R_alloc | apply Kd.R_drewN | apply Kd.R_drew)); exact Kd.R_mono HO284.out (fun _ hk => trivial)⟩, ⟨by repeat (first | (with_reducible first | exact HB.out | apply below_alloc | apply pw_below_drewN | apply below_drew1) | exact HB.out)⟩⟩
                                · rw [if_neg c34] at H
                                  have c34b0 : ((bt a1 0) == 45) = false := beq_eq_false_iff_ne.mpr c34
                                  have c34b1 : ((bt a1 0) != 45) = true := bne_iff_ne.mpr c34
                                  have H' := Aside0.mk H
                                  clear H
                                  obtain ⟨Ao38, co38, eo38⟩ := Kd.R_slice HO284.out
                                  subst eo38
                                  obtain ⟨Ao39, co39, eo39⟩ := Kd.R_slice HO289.out
                                  subst eo39
                                  have p290 : 0 ≤ (0 : Int) := (by omega)
                                  have q290 : 0 < (t280.length : Int) := of_decide_eq_true (by first | (with_reducible assumption) | assumption)
                                  obtain ⟨ad290, e290, hx290_0, hx290_1, hx290_2⟩ := at_T34 (Kd.R_reads' HO284.out).2.2 0 p290 q290
                                  cases e290
                                  have qi290 : (0 < t280.length) = True := eq_true (by omega)
                                  (try rw [show ((0 : Int)).toNat = 0 from rfl] at hx290_0)
                                  (try rw [show 0 * 3 = 0 from rfl] at hx290_0)
                                  (try rw [Addr.add_zero'] at hx290_0)
                                  (try rw [show ((0 : Int)).toNat = 0 from rfl] at hx290_1)
                                  (try rw [show 0 * 3 = 0 from rfl] at hx290_1)
                                  (try rw [Addr.add_zero'] at hx290_1)
                                  (try rw [show ((0 : Int)).toNat = 0 from rfl] at hx290_2)
                                  (try rw [show 0 * 3 = 0 from rfl] at hx290_2)
                                  (try rw [Addr.add_zero'] at hx290_2)
                                  replace p290 := eq_true p290
                                  replace q290 := eq_true q290
                                  have p291 : 0 ≤ (0 : Int) := (by omega)
                                  have q291 : 0 < (t285.length : Int) := of_decide_eq_true (by first | (with_reducible assumption) | assumption)
                                  obtain ⟨ad291, e291, hx291_0, hx291_1, hx291_2⟩ := at_T34 (Kd.R_reads' HO289.out).2.2 0 p291 q291
                                  cases e291
                                  have qi291 : (0 < t285.length) = True := eq_true (by omega)
                                  (try rw [show ((0 : Int)).toNat = 0 from rfl] at hx291_0)
                                  (try rw [show 0 * 3 = 0 from rfl] at hx291_0)
                                  (try rw [Addr.add_zero'] at hx291_0)
                                  (try rw [show ((0 : Int)).toNat = 0 from rfl] at hx291_1)
                                  (try rw [show 0 * 3 = 0 from rfl] at hx291_1)
                                  (try rw [Addr.add_zero'] at hx291_1)
                                  (try rw [show ((0 : Int)).toNat = 0 from rfl] at hx291_2)
                                  (try rw [show 0 * 3 = 0 from rfl] at hx291_2)
                                  (try rw [Addr.add_zero'] at hx291_2)
                                  replace p291 := eq_true p291
                                  replace q291 := eq_true q291
                                  have p292 : 0 ≤ (0 : Int) := (by omega)
                                  have q292 : 0 < (t280.length : Int) := of_decide_eq_true (by first | (with_reducible assumption) | assumption)
                                  obtain ⟨ad292, e292, hx292_0, hx292_1, hx292_2⟩ := at_T34 (Kd.R_reads' HO284.out).2.2 0 p292 q292
                                  obtain rfl : ad290 = ad292 := (by injection e292)
                                  have qi292 : (0 < t280.length) = True := eq_true (by omega)
                                  (try rw [show ((0 : Int)).toNat = 0 from rfl] at hx292_0)
                                  (try rw [show 0 * 3 = 0 from rfl] at hx292_0)
                                  (try rw [Addr.add_zero'] at hx292_0)
                                  (try rw [show ((0 : Int)).toNat = 0 from rfl] at hx292_1)
                                  (try rw [show 0 * 3 = 0 from rfl] at hx292_1)
                                  (try rw [Addr.add_zero'] at hx292_1)
                                  (try rw [show ((0 : Int)).toNat = 0 from rfl] at hx292_2)
                                  (try rw [show 0 * 3 = 0 from rfl] at hx292_2)
                                  (try rw [Addr.add_zero'] at hx292_2)
                                  replace p292 := eq_true p292
                                  replace q292 := eq_true q292
                                  have p293 : 0 ≤ (0 : Int) := (by omega)
                                  have q293 : 0 < (t285.length : Int) := of_decide_eq_true (by first | (with_reducible assumption) | assumption)
                                  obtain ⟨ad293, e293, hx293_0, hx293_1, hx293_2⟩ := at_T34 (Kd.R_reads' HO289.out).2.2 0 p293 q293
                                  obtain rfl : ad291 = ad293 := (by injection e293)
                                  have qi293 : (0 < t285.length) = True := eq_true (by omega)
                                  (try rw [show ((0 : Int)).toNat = 0 from rfl] at hx293_0)
                                  (try rw [show 0 * 3 = 0 from rfl] at hx293_0)
                                  (try rw [Addr.add_zero'] at hx293_0)
                                  (try rw [show ((0 : Int)).toNat = 0 from rfl] at hx293_1)
                                  (try rw [show 0 * 3 = 0 from rfl] at hx293_1)
                                  (try rw [Addr.add_zero'] at hx293_1)
                                  (try rw [show ((0 : Int)).toNat = 0 from rfl] at hx293_2)
                                  (try rw [show 0 * 3 = 0 from rfl] at hx293_2)
                                  (try rw [Addr.add_zero'] at hx293_2)
                                  replace p293 := eq_true p293
                                  replace q293 := eq_true q293
                                  have p33 : 0 ≤ (0 : Int) := (by omega)
                                  have q33 : 0 < a1.size := (by have : (0 : Int) < (a1.size : Int) := of_decide_eq_true (by first | (with_reducible assumption) | assumption); omega)
                                  have hx33 : ∀ h : 0 < a1.size, ((a1[0]'h).toNat : Int) = bt a1 0 := bt_at a1 0
                                  clear p33
                                  have qi33 : (0 < (a1.size : Int)) = True := eq_true (of_decide_eq_true (by first | (with_reducible assumption) | assumption))
                                  replace q33 := eq_true q33
                                  have p37 : 0 ≤ (0 : Int) := (by omega)
                                  have q37 : 0 < a1.size := (by have : (0 : Int) < (a1.size : Int) := of_decide_eq_true (by first | (with_reducible assumption) | assumption); omega)
                                  have hx37 : ∀ h : 0 < a1.size, ((a1[0]'h).toNat : Int) = bt a1 0 := bt_at a1 0
                                  clear p37
                                  have qi37 : (0 < (a1.size : Int)) = True := eq_true (of_decide_eq_true (by first | (with_reducible assumption) | assumption))
                                  replace q37 := eq_true q37
                                  go_wp2
                                  repeat (go_quiet (fail); try go_wp2)
                                  go_meet
                                  case rel => exact ⟨_, (((bt a1 0) == 35)), (by first | rfl | (simp; done) | (simp [*]; done)), H', ⟨by have := HJ2.out; first | omega | exact Nat.le_refl _⟩, ⟨by (with_reducible repeat (first | apply Kd.R_alloc | apply Kd.R_drewN | apply Kd.R_drew)); exact Kd.R_mono HO284.out (fun _ hk => trivial)⟩, ⟨by repeat (first | (with_reducible first | exact HB.out | apply below_alloc | apply pw_below_drewN | apply below_drew1) | exact HB.out)⟩⟩
                              · rw [if_neg c32] at H
                                exact absurd H (by simp)
                        · rw [if_neg c25] at H
                          have c25b0 : (((rd_T34 t285 0).f1).toList == a1.toList) = false := beq_eq_false_iff_ne.mpr c25
                          have c25b1 : (((rd_T34 t285 0).f1).toList != a1.toList) = true := bne_iff_ne.mpr c25
                          have H' := Aside0.mk H
                          clear H
                          obtain ⟨Ao40, co40, eo40⟩ := Kd.R_slice HO284.out
                          subst eo40
                          obtain ⟨Ao41, co41, eo41⟩ := Kd.R_slice HO289.out
                          subst eo41
                          have p290 : 0 ≤ (0 : Int) := (by omega)
                          have q290 : 0 < (t280.length : Int) := of_decide_eq_true (by first | (with_reducible assumption) | assumption)
                          obtain ⟨ad290, e290, hx290_0, hx290_1, hx290_2⟩ := at_T34 (Kd.R_reads' HO284.out).2.2 0 p290 q290
                          cases e290
                          have qi290 : (0 < t280.length) = True := eq_true (by omega)
                          (try rw [show ((0 : Int)).toNat = 0 from rfl] at hx290_0)
                          (try rw [show 0 * 3 = 0 from rfl] at hx290_0)
                          (try rw [Addr.add_zero'] at hx290_0)
                          (try rw [show ((0 : Int)).toNat = 0 from rfl] at hx290_1)
                          (try rw [show 0 * 3 = 0 from rfl] at hx290_1)
                          (try rw [Addr.add_zero'] at hx290_1)
                          (try rw [show ((0 : Int)).toNat = 0 from rfl] at hx290_2)
                          (try rw [show 0 * 3 = 0 from rfl] at hx290_2)
                          (try rw [Addr.add_zero'] at hx290_2)
                          replace p290 := eq_true p290
                          replace q290 := eq_true q290
                          have p291 : 0 ≤ (0 : Int) := (by omega)
                          have q291 : 0 < (t285.length : Int) := of_decide_eq_true (by first | (with_reducible assumption) | assumption)
                          obtain ⟨ad291, e291, hx291_0, hx291_1, hx291_2⟩ := at_T34 (Kd.R_reads' HO289.out).2.2 0 p291 q291
                          cases e291
                          have qi291 : (0 < t285.length) = True := eq_true (by omega)
                          (try rw [show ((0 : Int)).toNat = 0 from rfl] at hx291_0)
                          (try rw [show 0 * 3 = 0 from rfl] at hx291_0)
                          (try rw [Addr.add_zero'] at hx291_0)
                          (try rw [show ((0 : Int)).toNat = 0 from rfl] at hx291_1)
                          (try rw [show 0 * 3 = 0 from rfl] at hx291_1)
                          (try rw [Addr.add_zero'] at hx291_1)
                          (try rw [show ((0 : Int)).toNat = 0 from rfl] at hx291_2)
                          (try rw [show 0 * 3 = 0 from rfl] at hx291_2)
                          (try rw [Addr.add_zero'] at hx291_2)
                          replace p291 := eq_true p291
                          replace q291 := eq_true q291
                          go_wp2
                          repeat (go_quiet (fail); try go_wp2)
                          go_meet
                          case rel => exact ⟨_, (true), (by first | rfl | (simp; done) | (simp [*]; done)), H', ⟨by have := HJ2.out; first | omega | exact Nat.le_refl _⟩, ⟨by (with_reducible repeat (first | apply Kd.R_alloc | apply Kd.R_drewN | apply Kd.R_drew)); exact Kd.R_mono HO284.out (fun _ hk => trivial)⟩, ⟨by repeat (first | (with_reducible first | exact HB.out | apply below_alloc | apply pw_below_drewN | apply below_drew1) | exact HB.out)⟩⟩
                      · rw [if_neg c24] at H
                        exact absurd H (by simp)
                    · rw [if_neg c23] at H
                      have c23b0 : (((rd_T34 t280 0).f1).toList == a0.toList) = false := beq_eq_false_iff_ne.mpr c23
                      have c23b1 : (((rd_T34 t280 0).f1).toList != a0.toList) = true := bne_iff_ne.mpr c23
                      have H' := Aside0.mk H
                      clear H
                      obtain ⟨Ao42, co42, eo42⟩ := Kd.R_slice HO284.out
                      subst eo42
                      obtain ⟨Ao43, co43, eo43⟩ := Kd.R_slice HO289.out
                      subst eo43
                      have p290 : 0 ≤ (0 : Int) := (by omega)
                      have q290 : 0 < (t280.length : Int) := of_decide_eq_true (by first | (with_reducible assumption) | assumption)
                      obtain ⟨ad290, e290, hx290_0, hx290_1, hx290_2⟩ := at_T34 (Kd.R_reads' HO284.out).2.2 0 p290 q290
                      cases e290
                      have qi290 : (0 < t280.length) = True := eq_true (by omega)
                      (try rw [show ((0 : Int)).toNat = 0 from rfl] at hx290_0)
                      (try rw [show 0 * 3 = 0 from rfl] at hx290_0)
                      (try rw [Addr.add_zero'] at hx290_0)
                      (try rw [show ((0 : Int)).toNat = 0 from rfl] at hx290_1)
                      (try rw [show 0 * 3 = 0 from rfl] at hx290_1)
                      (try rw [Addr.add_zero'] at hx290_1)
                      (try rw [show ((0 : Int)).toNat = 0 from rfl] at hx290_2)
                      (try rw [show 0 * 3 = 0 from rfl] at hx290_2)
                      (try rw [Addr.add_zero'] at hx290_2)
                      replace p290 := eq_true p290
                      replace q290 := eq_true q290
                      go_wp2
                      repeat (go_quiet (fail); try go_wp2)
                      go_meet
                      case rel => exact ⟨_, (true), (by first | rfl | (simp; done) | (simp [*]; done)), H', ⟨by have := HJ2.out; first | omega | exact Nat.le_refl _⟩, ⟨by (with_reducible repeat (first | apply Kd.R_alloc | apply Kd.R_drewN | apply Kd.R_drew)); exact Kd.R_mono HO284.out (fun _ hk => trivial)⟩, ⟨by repeat (first | (with_reducible first | exact HB.out | apply below_alloc | apply pw_below_drewN | apply below_drew1) | exact HB.out)⟩⟩
                  · rw [if_neg c22] at H
                    exact absurd H (by simp)
                · rw [if_neg c21] at H
                  have c21b0 : ((t285.length : Int) == 1) = false := beq_eq_false_iff_ne.mpr c21
                  have c21b1 : ((t285.length : Int) != 1) = true := bne_iff_ne.mpr c21
                  have H' := Aside0.mk H
                  clear H
                  obtain ⟨Ao44, co44, eo44⟩ := Kd.R_slice HO284.out
                  subst eo44
                  obtain ⟨Ao45, co45, eo45⟩ := Kd.R_slice HO289.out
                  subst eo45
                  go_wp2
                  repeat (go_quiet (fail); try go_wp2)
                  go_meet
                  case rel => exact ⟨_, (true), (by first | rfl | (simp; done) | (simp [*]; done)), H', ⟨by have := HJ2.out; first | omega | exact Nat.le_refl _⟩, ⟨by (with_reducible repeat (first | apply Kd.R_alloc | apply Kd.R_drewN | apply Kd.R_drew)); exact Kd.R_mono HO284.out (fun _ hk => trivial)⟩, ⟨by repeat (first | (with_reducible first | exact HB.out | apply below_alloc | apply pw_below_drewN | apply below_drew1) | exact HB.out)⟩⟩
              · rw [if_neg c20] at H
                have c20b0 : ((t280.length : Int) == 1) = false := beq_eq_false_iff_ne.mpr c20
                have c20b1 : ((t280.length : Int) != 1) = true := bne_iff_ne.mpr c20
                have H' := Aside0.mk H
                clear H
                obtain ⟨Ao46, co46, eo46⟩ := Kd.R_slice HO284.out
                subst eo46
                go_wp2
                repeat (go_quiet (fail); try go_wp2)
                go_meet
                case rel => exact ⟨_, (true), (by first | rfl | (simp; done) | (simp [*]; done)), H', ⟨by have := HJ2.out; first | omega | exact Nat.le_refl _⟩, ⟨by (with_reducible repeat (first | apply Kd.R_alloc | apply Kd.R_drewN | apply Kd.R_drew)); exact Kd.R_mono HO284.out (fun _ hk => trivial)⟩, ⟨by repeat (first | (with_reducible first | exact HB.out | apply below_alloc | apply pw_below_drewN | apply below_drew1) | exact HB.out)⟩⟩
            · rw [if_neg c19] at H
              have c19b0 : (t287 == 0) = false := beq_eq_false_iff_ne.mpr c19
              have c19b1 : (t287 != 0) = true := bne_iff_ne.mpr c19
              have H' := Aside0.mk H
              clear H
              go_wp2
              repeat (go_quiet (fail); try go_wp2)
              go_meet
              case rel => exact ⟨_, (true), (by first | rfl | (simp; done) | (simp [*]; done)), H', ⟨by have := HJ2.out; first | omega | exact Nat.le_refl _⟩, ⟨by (with_reducible repeat (first | apply Kd.R_alloc | apply Kd.R_drewN | apply Kd.R_drew)); exact Kd.R_mono HO284.out (fun _ hk => trivial)⟩, ⟨by repeat (first | (with_reducible first | exact HB.out | apply below_alloc | apply pw_below_drewN | apply below_drew1) | exact HB.out)⟩⟩
          · rw [if_neg c18] at H
            have c18b0 : (t282 == 0) = false := beq_eq_false_iff_ne.mpr c18
            have c18b1 : (t282 != 0) = true := bne_iff_ne.mpr c18
            (first | rw [c18b0] | (simp only [i64_w, i32_w]; rw [c18b0]) | skip)
            have H' := Aside0.mk H
            clear H
            go_wp2
            repeat (go_quiet (fail); try go_wp2)
            go_meet
            case rel => exact ⟨_, (true), (by first | rfl | (simp; done) | (simp [*]; done)), H', ⟨by have := HJ2.out; first | omega | exact Nat.le_refl _⟩, ⟨by (with_reducible repeat (first | apply Kd.R_alloc | apply Kd.R_drewN | apply Kd.R_drew)); exact Kd.R_mono HO284.out (fun _ hk => trivial)⟩, ⟨by repeat (first | (with_reducible first | exact HB.out | apply below_alloc | apply pw_below_drewN | apply below_drew1) | exact HB.out)⟩⟩
        case rest => as_aux_lemma =>
          clear HC15
          try clear c1
          try clear c2
          try clear p2
          try clear q2
          try clear hx2
          try clear qi2
          try clear c3
          try clear p3
          try clear q3
          try clear hx3
          try clear qi3
          try clear c5
          try clear c6
          try clear c6b0
          try clear c6b1
          try clear c8
          try clear c10
          try clear c18
          try clear c18b0
          try clear c18b1
          try clear c19
          try clear c19b0
          try clear c19b1
          try clear c20
          try clear c20b0
          try clear c20b1
          try clear c21
          try clear c21b0
          try clear c21b1
          try clear c22
          try clear c22b0
          try clear c22b1
          try clear c23
          try clear c23b0
          try clear c23b1
          try clear c24
          try clear c24b0
          try clear c24b1
          try clear c25
          try clear c25b0
          try clear c25b1
          try clear c26
          try clear c26b0
          try clear c26b1
          try clear c29
          try clear c29b0
          try clear c29b1
          try clear p29
          try clear q29
          try clear hx29
          try clear qi29
          try clear c32
          try clear c32b0
          try clear c32b1
          try clear p33
          try clear q33
          try clear hx33
          try clear qi33
          try clear c34
          try clear c34b0
          try clear c34b1
          try clear p37
          try clear q37
          try clear hx37
          try clear qi37
          try clear hx290_0
          try clear hx290_1
          try clear hx290_2
          try clear hx291_0
          try clear hx291_1
          try clear hx291_2
          try clear hx292_0
          try clear hx292_1
          try clear hx292_2
          try clear hx293_0
          try clear hx293_1
          try clear hx293_2
          try clear p2
          try clear p290
          try clear p291
          try clear p292
          try clear p293
          try clear p33
          try clear p37
          try clear q290
          try clear q291
          try clear q292
          try clear q293
          try clear q33
          try clear q37
          obtain ⟨kq, x94_14, rfl, HA, HJ14, HO_5, HB⟩ := hcut
          cases kq with
          | zero => exact absurd HA.out (by simp [antecedentlaw07_LexLonger.j1])
          | succ kj14 =>
            have H := HA.out
            clear HA
            simp only [antecedentlaw07_LexLonger.j1] at H
            by_cases c47 : x94_14 = true
            · subst c47
              have H1 : (some true) = some r := by rw [if_pos rfl] at H; exact H
              clear H
              have H := H1
              clear H1
              obtain rfl := Option.some.inj H
              go_wp2
              repeat (go_quiet (fail); try go_wp2)
              go_ret
              exact ⟨by first | rfl | (simp [errW_none, errW_some] <;> rfl) | (simp [*, errW_none, errW_some] <;> rfl), by repeat (first | (with_reducible first | exact HB.out | apply below_alloc | apply pw_below_drewN | apply below_drew1) | exact HB.out)⟩
            · replace c47 := Bool.eq_false_iff.mpr c47
              subst c47
              have H1 : (if a0.size + a1.size ≤ 9223372036854775807 then ((lex_Tokens.f (a0 ++ a1)).bind fun bt294 => (if 0 < (t280.length : Int) then (if ((rd_T34 t280 0).f0) = 1 then (if 0 < (a1.size : Int) then (if (bt a1 0) ≥ 65 then (antecedentlaw07_LexLonger.j2 kj14 a0 a1 t280 bt294.1 bt294.2.1 bt294.2.2 (decide ((bt a1 0) ≤ 90))) else (antecedentlaw07_LexLonger.j2 kj14 a0 a1 t280 bt294.1 bt294.2.1 bt294.2.2 false)) else (none)) else (antecedentlaw07_LexLonger.j2 kj14 a0 a1 t280 bt294.1 bt294.2.1 bt294.2.2 false)) else (none))) else (none)) = some r := by rw [if_neg (show ¬ (false = true) by decide)] at H; exact H
              clear H
              have H := H1
              clear H1
              by_cases c48 : a0.size + a1.size ≤ 9223372036854775807
              · rw [if_pos c48] at H
                have c48b0 := eq_true c48
                have c48b1 : decide (a0.size + a1.size ≤ 9223372036854775807) = true := decide_eq_true c48
                try have c48b2 : (9223372036854775807 < a0.size + a1.size) = False := eq_false (Nat.not_lt.2 c48)
                replace H := Option.bind_eq_some_iff.mp H
                obtain ⟨⟨t294, t295, t296⟩, A490, H⟩ := H
                replace H : (if 0 < (t280.length : Int) then (if ((rd_T34 t280 0).f0) = 1 then (if 0 < (a1.size : Int) then (if (bt a1 0) ≥ 65 then (antecedentlaw07_LexLonger.j2 kj14 a0 a1 t280 t294 t295 t296 (decide ((bt a1 0) ≤ 90))) else (antecedentlaw07_LexLonger.j2 kj14 a0 a1 t280 t294 t295 t296 false)) else (none)) else (antecedentlaw07_LexLonger.j2 kj14 a0 a1 t280 t294 t295 t296 false)) else (none)) = some r := H
                have A49 := Aside0.mk A490
                clear A490
                have HC50 := Aside0.mk H
                clear H
                go_upto_region 8 with (first | (go_at_call 11; (with_reducible refine (lex_Tokens.calls (a0 ++ a1) t294 t295 t296 _ ?side1 A49.out).mono ?_); (case side1 => (first | (refine LaidW.below HLW.out ?_; (repeat (first | (with_reducible first | exact HB.out | apply below_alloc | apply pw_below_drewN | apply below_drew1) | exact HB.out)); done) | (repeat (first | exact HLW.out | apply LaidW.drewN | apply LaidW.drew | apply LaidW.alloc)))); rintro e w51 ⟨v297, rfl, ho0, hb⟩; have n0_ := Aside0.mk (Kd.R_elder' (by (with_reducible repeat (first | apply Kd.R_alloc | apply Kd.R_drewN | apply Kd.R_drew)); exact HO_5.out) (Kd.R_base ho0) hb); have n1_ := Aside0.mk (Kd.R_lower (Kd.R_new' ho0 (Kd.R_lt (by (with_reducible repeat (first | apply Kd.R_alloc | apply Kd.R_drewN | apply Kd.R_drew)); exact HO_5.out))) (below_size (by repeat (first | (with_reducible first | exact HB.out | apply below_alloc | apply pw_below_drewN | apply below_drew1) | exact HB.out)))); have n2_ := Aside0.mk (below_step (by repeat (first | (with_reducible first | exact HB.out | apply below_alloc | apply pw_below_drewN | apply below_drew1) | exact HB.out)) hb); clear HO_5; clear HB; have HO_5 := n0_; have HO298 := n1_; have HB := n2_; clear n0_ n1_ n2_; (try clear hb); (try clear hb2); (try clear hk); (try clear hi); (try clear ho0)))
                repeat (go_quiet (first | (go_at_call 11; (with_reducible refine (lex_Tokens.calls (a0 ++ a1) t294 t295 t296 _ ?side1 A49.out).mono ?_); (case side1 => (first | (refine LaidW.below HLW.out ?_; (repeat (first | (with_reducible first | exact HB.out | apply below_alloc | apply pw_below_drewN | apply below_drew1) | exact HB.out)); done) | (repeat (first | exact HLW.out | apply LaidW.drewN | apply LaidW.drew | apply LaidW.alloc)))); rintro e w51 ⟨v297, rfl, ho0, hb⟩; have n0_ := Aside0.mk (Kd.R_elder' (by (with_reducible repeat (first | apply Kd.R_alloc | apply Kd.R_drewN | apply Kd.R_drew)); exact HO_5.out) (Kd.R_base ho0) hb); have n1_ := Aside0.mk (Kd.R_lower (Kd.R_new' ho0 (Kd.R_lt (by (with_reducible repeat (first | apply Kd.R_alloc | apply Kd.R_drewN | apply Kd.R_drew)); exact HO_5.out))) (below_size (by repeat (first | (with_reducible first | exact HB.out | apply below_alloc | apply pw_below_drewN | apply below_drew1) | exact HB.out)))); have n2_ := Aside0.mk (below_step (by repeat (first | (with_reducible first | exact HB.out | apply below_alloc | apply pw_below_drewN | apply below_drew1) | exact HB.out)) hb); clear HO_5; clear HB; have HO_5 := n0_; have HO298 := n1_; have HB := n2_; clear n0_ n1_ n2_; (try clear hb); (try clear hb2); (try clear hk); (try clear hi); (try clear ho0))); go_upto_region 8 with (first | (go_at_call 11; (with_reducible refine (lex_Tokens.calls (a0 ++ a1) t294 t295 t296 _ ?side1 A49.out).mono ?_); (case side1 => (first | (refine LaidW.below HLW.out ?_; (repeat (first | (with_reducible first | exact HB.out | apply below_alloc | apply pw_below_drewN | apply below_drew1) | exact HB.out)); done) | (repeat (first | exact HLW.out | apply LaidW.drewN | apply LaidW.drew | apply LaidW.alloc)))); rintro e w51 ⟨v297, rfl, ho0, hb⟩; have n0_ := Aside0.mk (Kd.R_elder' (by (with_reducible repeat (first | apply Kd.R_alloc | apply Kd.R_drewN | apply Kd.R_drew)); exact HO_5.out) (Kd.R_base ho0) hb); have n1_ := Aside0.mk (Kd.R_lower (Kd.R_new' ho0 (Kd.R_lt (by (with_reducible repeat (first | apply Kd.R_alloc | apply Kd.R_drewN | apply Kd.R_drew)); exact HO_5.out))) (below_size (by repeat (first | (with_reducible first | exact HB.out | apply below_alloc | apply pw_below_drewN | apply below_drew1) | exact HB.out)))); have n2_ := Aside0.mk (below_step (by repeat (first | (with_reducible first | exact HB.out | apply below_alloc | apply pw_below_drewN | apply below_drew1) | exact HB.out)) hb); clear HO_5; clear HB; have HO_5 := n0_; have HO298 := n1_; have HB := n2_; clear n0_ n1_ n2_; (try clear hb); (try clear hb2); (try clear hk); (try clear hi); (try clear ho0))))
                (try simp only [Act.put, List.setIfInBounds_toArray, List.set_cons_zero, List.set_cons_succ])
                go_cut [117] (fun v117 wc => ∃ (kq : Nat) (x117_49 : Bool), v117 = .bool x117_49 ∧ Aside0 (antecedentlaw07_LexLonger.j2 kq a0 a1 t280 t294 t295 t296 x117_49 = some r) ∧ Aside0 (kq ≤ kj14) ∧ Aside0 (Kd.R k34 34 wc w.heap.size (fun k_ => some k_ ≠ (v297 : Value).ownBlock) v283 t280) ∧ Aside0 (Kd.R k34 34 wc w.heap.size (fun k_ => some k_ ≠ (v283 : Value).ownBlock) v297 t294) ∧ Aside0 (Below w.heap.size w wc))
                case first => as_aux_lemma =>
                  have H := HC50.out
                  clear HC50
                  by_cases c52 : 0 < (t280.length : Int)
                  · rw [if_pos c52] at H
                    have c52b0 : decide (0 < (t280.length : Int)) = true := decide_eq_true c52
                    have c52b1 : decide (0 < t280.length) = true := decide_eq_true (by omega)
                    clear c52
                    (first | rw [c52b0] | (simp only [i64_w, i32_w]; rw [c52b0]) | skip)
                    by_cases c53 : ((rd_T34 t280 0).f0) = 1
                    · rw [if_pos c53] at H
                      have c53b0 : (((rd_T34 t280 0).f0) == 1) = true := beq_iff_eq.mpr c53
                      have c53b1 : (((rd_T34 t280 0).f0) != 1) = false := bne_eq_false_iff_eq.mpr c53
                      clear c53
                      by_cases c54 : 0 < (a1.size : Int)
                      · rw [if_pos c54] at H
                        have c54b0 : decide (0 < (a1.size : Int)) = true := decide_eq_true c54
                        have c54b1 : decide (0 < a1.size) = true := decide_eq_true (by omega)
                        clear c54
                        by_cases c56 : (bt a1 0) ≥ 65
                        · rw [if_pos c56] at H
                          have c56b0 : decide (65 ≤ (bt a1 0)) = true := decide_eq_true c56
                          clear c56
                          have H' := Aside0.mk H
                          clear H
                          obtain ⟨Ao58, co58, eo58⟩ := Kd.R_slice HO_5.out
                          subst eo58
                          have p299 : 0 ≤ (0 : Int) := (by omega)
                          have q299 : 0 < (t280.length : Int) := of_decide_eq_true (by first | (with_reducible assumption) | assumption)
                          obtain ⟨ad299, e299, hx299_0, hx299_1, hx299_2⟩ := at_T34 (Kd.R_reads' HO_5.out).2.2 0 p299 q299
                          cases e299
                          have qi299 : (0 < t280.length) = True := eq_true (by omega)
                          (try rw [show ((0 : Int)).toNat = 0 from rfl] at hx299_0)
                          (try rw [show 0 * 3 = 0 from rfl] at hx299_0)
                          (try rw [Addr.add_zero'] at hx299_0)
                          (try rw [show ((0 : Int)).toNat = 0 from rfl] at hx299_1)
                          (try rw [show 0 * 3 = 0 from rfl] at hx299_1)
                          (try rw [Addr.add_zero'] at hx299_1)
                          (try rw [show ((0 : Int)).toNat = 0 from rfl] at hx299_2)
                          (try rw [show 0 * 3 = 0 from rfl] at hx299_2)
                          (try rw [Addr.add_zero'] at hx299_2)
                          replace p299 := eq_true p299
                          replace q299 := eq_true q299
                          have p55 : 0 ≤ (0 : Int) := (by omega)
                          have q55 : 0 < a1.size := (by have : (0 : Int) < (a1.size : Int) := of_decide_eq_true (by first | (with_reducible assumption) | assumption); omega)
                          have hx55 : ∀ h : 0 < a1.size, ((a1[0]'h).toNat : Int) = bt a1 0 := bt_at a1 0
                          clear p55
                          have qi55 : (0 < (a1.size : Int)) = True := eq_true (of_decide_eq_true (by first | (with_reducible assumption) | assumption))
                          replace q55 := eq_true q55
                          have p57 : 0 ≤ (0 : Int) := (by omega)
                          have q57 : 0 < a1.size := (by have : (0 : Int) < (a1.size : Int) := of_decide_eq_true (by first | (with_reducible assumption) | assumption); omega)
                          have hx57 : ∀ h : 0 < a1.size, ((a1[0]'h).toNat : Int) = bt a1 0 := bt_at a1 0
                          clear p57
                          have qi57 : (0 < (a1.size : Int)) = True := eq_true (of_decide_eq_true (by first | (with_reducible assumption) | assumption))
                          replace q57 := eq_true q57
                          go_wp2
                          repeat (go_quiet (fail); try go_wp2)
                          go_meet
                          case rel => exact ⟨_, (decide ((bt a1 0) ≤ 90)), (by first | rfl | (simp; done) | (simp [*]; done)), H', ⟨by have := HJ2.out; have := HJ14.out; first | omega | exact Nat.le_refl _⟩, ⟨by (with_reducible repeat (first | apply Kd.R_alloc | apply Kd.R_drewN | apply Kd.R_drew)); exact Kd.R_mono HO_5.out (fun _ hk => hk.2)⟩, ⟨by (with_reducible repeat (first | apply Kd.R_alloc | apply Kd.R_drewN | apply Kd.R_drew)); exact Kd.R_mono HO298.out (fun _ hk => hk.2)⟩, ⟨by repeat (first | (with_reducible first | exact HB.out | apply below_alloc | apply pw_below_drewN | apply below_drew1) | exact HB.out)⟩⟩
                        · rw [if_neg c56] at H
                          have c56b0 : decide (65 ≤ (bt a1 0)) = false := decide_eq_false c56
                          clear c56
                          have H' := Aside0.mk H
                          clear H
                          obtain ⟨Ao59, co59, eo59⟩ := Kd.R_slice HO_5.out
                          subst eo59
                          have p299 : 0 ≤ (0 : Int) := (by omega)
                          have q299 : 0 < (t280.length : Int) := of_decide_eq_true (by first | (with_reducible assumption) | assumption)
                          obtain ⟨ad299, e299, hx299_0, hx299_1, hx299_2⟩ := at_T34 (Kd.R_reads' HO_5.out).2.2 0 p299 q299
                          cases e299
                          have qi299 : (0 < t280.length) = True := eq_true (by omega)
                          (try rw [show ((0 : Int)).toNat = 0 from rfl] at hx299_0)
                          (try rw [show 0 * 3 = 0 from rfl] at hx299_0)
                          (try rw [Addr.add_zero'] at hx299_0)
                          (try rw [show ((0 : Int)).toNat = 0 from rfl] at hx299_1)
                          (try rw [show 0 * 3 = 0 from rfl] at hx299_1)
                          (try rw [Addr.add_zero'] at hx299_1)
                          (try rw [show ((0 : Int)).toNat = 0 from rfl] at hx299_2)
                          (try rw [show 0 * 3 = 0 from rfl] at hx299_2)
                          (try rw [Addr.add_zero'] at hx299_2)
                          replace p299 := eq_true p299
                          replace q299 := eq_true q299
                          have p55 : 0 ≤ (0 : Int) := (by omega)
                          have q55 : 0 < a1.size := (by have : (0 : Int) < (a1.size : Int) := of_decide_eq_true (by first | (with_reducible assumption) | assumption); omega)
                          have hx55 : ∀ h : 0 < a1.size, ((a1[0]'h).toNat : Int) = bt a1 0 := bt_at a1 0
                          clear p55
                          have qi55 : (0 < (a1.size : Int)) = True := eq_true (of_decide_eq_true (by first | (with_reducible assumption) | assumption))
                          replace q55 := eq_true q55
                          go_wp2
                          repeat (go_quiet (fail); try go_wp2)
                          go_meet
                          case rel => exact ⟨_, (false), (by first | rfl | (simp; done) | (simp [*]; done)), H', ⟨by have := HJ2.out; have := HJ14.out; first | omega | exact Nat.le_refl _⟩, ⟨by (with_reducible repeat (first | apply Kd.R_alloc | apply Kd.R_drewN | apply Kd.R_drew)); exact Kd.R_mono HO_5.out (fun _ hk => hk.2)⟩, ⟨by (with_reducible repeat (first | apply Kd.R_alloc | apply Kd.R_drewN | apply Kd.R_drew)); exact Kd.R_mono HO298.out (fun _ hk => hk.2)⟩, ⟨by repeat (first | (with_reducible first | exact HB.out | apply below_alloc | apply pw_below_drewN | apply below_drew1) | exact HB.out)⟩⟩
                      · rw [if_neg c54] at H
                        exact absurd H (by simp)
                    · rw [if_neg c53] at H
                      have c53b0 : (((rd_T34 t280 0).f0) == 1) = false := beq_eq_false_iff_ne.mpr c53
                      have c53b1 : (((rd_T34 t280 0).f0) != 1) = true := bne_iff_ne.mpr c53
                      have H' := Aside0.mk H
                      clear H
                      obtain ⟨Ao60, co60, eo60⟩ := Kd.R_slice HO_5.out
                      subst eo60
                      have p299 : 0 ≤ (0 : Int) := (by omega)
                      have q299 : 0 < (t280.length : Int) := of_decide_eq_true (by first | (with_reducible assumption) | assumption)
                      obtain ⟨ad299, e299, hx299_0, hx299_1, hx299_2⟩ := at_T34 (Kd.R_reads' HO_5.out).2.2 0 p299 q299
                      cases e299
                      have qi299 : (0 < t280.length) = True := eq_true (by omega)
                      (try rw [show ((0 : Int)).toNat = 0 from rfl] at hx299_0)
                      (try rw [show 0 * 3 = 0 from rfl] at hx299_0)
                      (try rw [Addr.add_zero'] at hx299_0)
                      (try rw [show ((0 : Int)).toNat = 0 from rfl] at hx299_1)
                      (try rw [show 0 * 3 = 0 from rfl] at hx299_1)
                      (try rw [Addr.add_zero'] at hx299_1)
                      (try rw [show ((0 : Int)).toNat = 0 from rfl] at hx299_2)
                      (try rw [show 0 * 3 = 0 from rfl] at hx299_2)
                      (try rw [Addr.add_zero'] at hx299_2)
                      replace p299 := eq_true p299
                      replace q299 := eq_true q299
                      go_wp2
                      repeat (go_quiet (fail); try go_wp2)
                      go_meet
                      case rel => exact ⟨_, (false), (by first | rfl | (simp; done) | (simp [*]; done)), H', ⟨by have := HJ2.out; have := HJ14.out; first | omega | exact Nat.le_refl _⟩, ⟨by (with_reducible repeat (first | apply Kd.R_alloc | apply Kd.R_drewN | apply Kd.R_drew)); exact Kd.R_mono HO_5.out (fun _ hk => hk.2)⟩, ⟨by (with_reducible repeat (first | apply Kd.R_alloc | apply Kd.R_drewN | apply Kd.R_drew)); exact Kd.R_mono HO298.out (fun _ hk => hk.2)⟩, ⟨by repeat (first | (with_reducible first | exact HB.out | apply below_alloc | apply pw_below_drewN | apply below_drew1) | exact HB.out)⟩⟩
                  · rw [if_neg c52] at H
                    exact absurd H (by simp)
                case rest => as_aux_lemma =>
                  clear HC50
                  try clear c1
                  try clear c2
                  try clear p2
                  try clear q2
                  try clear hx2
                  try clear qi2
                  try clear c3
                  try clear p3
                  try clear q3
                  try clear hx3
                  try clear qi3
                  try clear c4
                  try clear c5
                  try clear p5
                  try clear q5
                  try clear hx5
                  try clear qi5
                  try clear c6
                  try clear c6b0
                  try clear c6b1
                  try clear c8
                  try clear c10
                  try clear c18
                  try clear c18b0
                  try clear c18b1
                  try clear c19
                  try clear c19b0
                  try clear c19b1
                  try clear c20
                  try clear c20b0
                  try clear c20b1
                  try clear c21
                  try clear c21b0
                  try clear c21b1
                  try clear c22
                  try clear c22b0
                  try clear c22b1
                  try clear c23
                  try clear c23b0
                  try clear c23b1
                  try clear c24
                  try clear c24b0
                  try clear c24b1
                  try clear c25
                  try clear c25b0
                  try clear c25b1
                  try clear c26
                  try clear c26b0
                  try clear c26b1
                  try clear c29
                  try clear c29b0
                  try clear c29b1
                  try clear p29
                  try clear q29
                  try clear hx29
                  try clear qi29
                  try clear c32
                  try clear c32b0
                  try clear c32b1
                  try clear p33
                  try clear q33
                  try clear hx33
                  try clear qi33
                  try clear c34
                  try clear c34b0
                  try clear c34b1
                  try clear p37
                  try clear q37
                  try clear hx37
                  try clear qi37
                  try clear c47
                  try clear c48
                  try clear c48b0
                  try clear c48b1
                  try clear c48b2
                  try clear c52
                  try clear c52b0
                  try clear c52b1
                  try clear c53
                  try clear c53b0
                  try clear c53b1
                  try clear c54
                  try clear c54b0
                  try clear c54b1
                  try clear p55
                  try clear q55
                  try clear hx55
                  try clear qi55
                  try clear c56
                  try clear c56b0
                  try clear p57
                  try clear q57
                  try clear hx57
                  try clear qi57
                  try clear hx290_0
                  try clear hx290_1
                  try clear hx290_2
                  try clear hx291_0
                  try clear hx291_1
                  try clear hx291_2
                  try clear hx292_0
                  try clear hx292_1
                  try clear hx292_2
                  try clear hx293_0
                  try clear hx293_1
                  try clear hx293_2
                  try clear hx299_0
                  try clear hx299_1
                  try clear hx299_2
                  try clear p2
                  try clear p29
                  try clear p290
                  try clear p291
                  try clear p292
                  try clear p293
                  try clear p299
                  try clear p3
                  try clear p33
                  try clear p37
                  try clear p55
                  try clear p57
                  try clear q2
                  try clear q29
                  try clear q290
                  try clear q291
                  try clear q292
                  try clear q293
                  try clear q299
                  try clear q3
                  try clear q33
                  try clear q37
                  try clear q55
                  try clear q57
                  obtain ⟨kq, x117_49, rfl, HA, HJ49, HO_5, HO_11, HB⟩ := hcut
                  cases kq with
                  | zero => exact absurd HA.out (by simp [antecedentlaw07_LexLonger.j2])
                  | succ kj49 =>
                    have H := HA.out
                    clear HA
                    simp only [antecedentlaw07_LexLonger.j2] at H
                    by_cases c61 : x117_49 = true
                    · subst c61
                      have H1 : (if t296 = 0 then (if (t294.length : Int) = 2 then (if 0 < (t294.length : Int) then (if 0 < (t280.length : Int) then (if (((rd_T34 t294 0).f0) == ((rd_T34 t280 0).f0) && ((((rd_T34 t294 0).f1).toList) == (((rd_T34 t280 0).f1).toList) && (((rd_T34 t294 0).f2) == ((rd_T34 t280 0).f2)))) = true then (if 1 < (t294.length : Int) then (some (((rd_T34 t294 1).f1).toList == a1.toList)) else (none)) else (some false)) else (none)) else (none)) else (some false)) else (some false)) = some r := by rw [if_pos rfl] at H; exact H
                      clear H
                      have H := H1
                      clear H1
                      by_cases c62 : t296 = 0
                      · rw [if_pos c62] at H
                        have c62b0 : (t296 == 0) = true := beq_iff_eq.mpr c62
                        have c62b1 : (t296 != 0) = false := bne_eq_false_iff_eq.mpr c62
                        clear c62
                        by_cases c63 : (t294.length : Int) = 2
                        · rw [if_pos c63] at H
                          have c63b0 : ((t294.length : Int) == 2) = true := beq_iff_eq.mpr c63
                          have c63b1 : ((t294.length : Int) != 2) = false := bne_eq_false_iff_eq.mpr c63
                          clear c63
                          by_cases c64 : 0 < (t294.length : Int)
                          · rw [if_pos c64] at H
                            have c64b0 : decide (0 < (t294.length : Int)) = true := decide_eq_true c64
                            have c64b1 : decide (0 < t294.length) = true := decide_eq_true (by omega)
                            clear c64
                            by_cases c65 : 0 < (t280.length : Int)
                            · rw [if_pos c65] at H
                              have c65b0 : decide (0 < (t280.length : Int)) = true := decide_eq_true c65
                              have c65b1 : decide (0 < t280.length) = true := decide_eq_true (by omega)
                              clear c65
                              by_cases c66 : (((rd_T34 t294 0).f0) == ((rd_T34 t280 0).f0) && ((((rd_T34 t294 0).f1).toList) == (((rd_T34 t280 0).f1).toList) && (((rd_T34 t294 0).f2) == ((rd_T34 t280 0).f2)))) = true
                              · rw [if_pos c66] at H
                                have c66b0 : (((rd_T34 t294 0).f0) == ((rd_T34 t280 0).f0) && ((((rd_T34 t294 0).f1).toList) == (((rd_T34 t280 0).f1).toList) && (((rd_T34 t294 0).f2) == ((rd_T34 t280 0).f2)))) = true := c66
                                (try (have c66b1 : decide (((rd_T34 t294 0).f0) = ((rd_T34 t280 0).f0) && ((((rd_T34 t294 0).f1).toList) == (((rd_T34 t280 0).f1).toList) && (((rd_T34 t294 0).f2) == ((rd_T34 t280 0).f2)))) = true := by simpa using c66))
                                (try (have c66b2 : (((rd_T34 t294 0).f0) == ((rd_T34 t280 0).f0) && ((((rd_T34 t294 0).f1).toList) == (((rd_T34 t280 0).f1).toList) && (((rd_T34 t294 0).f2) == ((rd_T34 t280 0).f2)))) = true := by simpa using c66))
                                clear c66
                                by_cases c67 : 1 < (t294.length : Int)
                                · rw [if_pos c67] at H
                                  have c67b0 : decide (1 < (t294.length : Int)) = true := decide_eq_true c67
                                  have c67b1 : decide (1 < t294.length) = true := decide_eq_true (by omega)
                                  clear c67
                                  obtain rfl := Option.some.inj H
                                  obtain ⟨Ao68, co68, eo68⟩ := Kd.R_slice HO_11.out
                                  subst eo68
                                  have p300 : 0 ≤ (0 : Int) := (by omega)
                                  have q300 : 0 < (t294.length : Int) := of_decide_eq_true (by first | (with_reducible assumption) | assumption)
                                  obtain ⟨ad300, e300, hx300_0, hx300_1, hx300_2⟩ := at_T34 (Kd.R_reads' HO_11.out).2.2 0 p300 q300
                                  cases e300
                                  have qi300 : (0 < t294.length) = True := eq_true (by omega)
                                  (try rw [show ((0 : Int)).toNat = 0 from rfl] at hx300_0)
                                  (try rw [show 0 * 3 = 0 from rfl] at hx300_0)
                                  (try rw [Addr.add_zero'] at hx300_0)
                                  (try rw [show ((0 : Int)).toNat = 0 from rfl] at hx300_1)
                                  (try rw [show 0 * 3 = 0 from rfl] at hx300_1)
                                  (try rw [Addr.add_zero'] at hx300_1)
                                  (try rw [show ((0 : Int)).toNat = 0 from rfl] at hx300_2)
                                  (try rw [show 0 * 3 = 0 from rfl] at hx300_2)
                                  (try rw [Addr.add_zero'] at hx300_2)
                                  replace p300 := eq_true p300
                                  replace q300 := eq_true q300
                                  obtain ⟨Ao69, co69, eo69⟩ := Kd.R_slice HO_5.out
                                  subst eo69
                                  have p301 : 0 ≤ (0 : Int) := (by omega)
                                  have q301 : 0 < (t280.length : Int) := of_decide_eq_true (by first | (with_reducible assumption) | assumption)
                                  obtain ⟨ad301, e301, hx301_0, hx301_1, hx301_2⟩ := at_T34 (Kd.R_reads' HO_5.out).2.2 0 p301 q301
                                  cases e301
                                  have qi301 : (0 < t280.length) = True := eq_true (by omega)
                                  (try rw [show ((0 : Int)).toNat = 0 from rfl] at hx301_0)
                                  (try rw [show 0 * 3 = 0 from rfl] at hx301_0)
                                  (try rw [Addr.add_zero'] at hx301_0)
                                  (try rw [show ((0 : Int)).toNat = 0 from rfl] at hx301_1)
                                  (try rw [show 0 * 3 = 0 from rfl] at hx301_1)
                                  (try rw [Addr.add_zero'] at hx301_1)
                                  (try rw [show ((0 : Int)).toNat = 0 from rfl] at hx301_2)
                                  (try rw [show 0 * 3 = 0 from rfl] at hx301_2)
                                  (try rw [Addr.add_zero'] at hx301_2)
                                  replace p301 := eq_true p301
                                  replace q301 := eq_true q301
                                  have p302 : 0 ≤ (1 : Int) := (by omega)
                                  have q302 : 1 < (t294.length : Int) := of_decide_eq_true (by first | (with_reducible assumption) | assumption)
                                  obtain ⟨ad302, e302, hx302_0, hx302_1, hx302_2⟩ := at_T34 (Kd.R_reads' HO_11.out).2.2 1 p302 q302
                                  obtain rfl : ad300 = ad302 := (by injection e302)
                                  (try simp only [show (1 : Int).toNat = 1 from rfl, Nat.reduceMul, Nat.reduceEqDiff, Go.Addr.add, ↓reduceIte] at hx302_0)
                                  (try simp only [show (1 : Int).toNat = 1 from rfl, Nat.reduceMul, Nat.reduceEqDiff, Go.Addr.add, ↓reduceIte] at hx302_1)
                                  (try simp only [show (1 : Int).toNat = 1 from rfl, Nat.reduceMul, Nat.reduceEqDiff, Go.Addr.add, ↓reduceIte] at hx302_2)
                                  have qi302 : (1 < t294.length) = True := eq_true (by omega)
                                  (try rw [show ((1 : Int)).toNat = 1 from rfl] at hx302_0)
                                  (try rw [show 1 * 3 = 3 from rfl] at hx302_0)
                                  (try rw [show ((1 : Int)).toNat = 1 from rfl] at hx302_1)
                                  (try rw [show 1 * 3 = 3 from rfl] at hx302_1)
                                  (try rw [show ((1 : Int)).toNat = 1 from rfl] at hx302_2)
                                  (try rw [show 1 * 3 = 3 from rfl] at hx302_2)
                                  replace p302 := eq_true p302
                                  replace q302 := eq_true q302
                                  go_wp2
                                  repeat (go_quiet (fail); try go_wp2)
                                  go_ret
                                  exact ⟨by first | rfl | (simp [errW_none, errW_some] <;> rfl) | (simp [*, errW_none, errW_some] <;> rfl), by repeat (first | (with_reducible first | exact HB.out | apply below_alloc | apply pw_below_drewN | apply below_drew1) | exact HB.out)⟩
                                · rw [if_neg c67] at H
                                  exact absurd H (by simp)
                              · rw [if_neg c66] at H
                                have c66b0 : (((rd_T34 t294 0).f0) == ((rd_T34 t280 0).f0) && ((((rd_T34 t294 0).f1).toList) == (((rd_T34 t280 0).f1).toList) && (((rd_T34 t294 0).f2) == ((rd_T34 t280 0).f2)))) = false := by simpa using c66
                                (try (have c66b1 : decide (((rd_T34 t294 0).f0) = ((rd_T34 t280 0).f0) && ((((rd_T34 t294 0).f1).toList) == (((rd_T34 t280 0).f1).toList) && (((rd_T34 t294 0).f2) == ((rd_T34 t280 0).f2)))) = false := by simpa using c66))
                                (try (have c66b2 : (((rd_T34 t294 0).f0) == ((rd_T34 t280 0).f0) && ((((rd_T34 t294 0).f1).toList) == (((rd_T34 t280 0).f1).toList) && (((rd_T34 t294 0).f2) == ((rd_T34 t280 0).f2)))) = false := by simpa using c66))
                                (try (have c66b3 : ¬ (((rd_T34 t294 0).f0) = ((rd_T34 t280 0).f0) && ((((rd_T34 t294 0).f1).toList) == (((rd_T34 t280 0).f1).toList) && (((rd_T34 t294 0).f2) == ((rd_T34 t280 0).f2)))) := by simpa using c66))
                                clear c66
                                obtain rfl := Option.some.inj H
                                obtain ⟨Ao70, co70, eo70⟩ := Kd.R_slice HO_11.out
                                subst eo70
                                have p300 : 0 ≤ (0 : Int) := (by omega)
                                have q300 : 0 < (t294.length : Int) := of_decide_eq_true (by first | (with_reducible assumption) | assumption)
                                obtain ⟨ad300, e300, hx300_0, hx300_1, hx300_2⟩ := at_T34 (Kd.R_reads' HO_11.out).2.2 0 p300 q300
                                cases e300
                                have qi300 : (0 < t294.length) = True := eq_true (by omega)
                                (try rw [show ((0 : Int)).toNat = 0 from rfl] at hx300_0)
                                (try rw [show 0 * 3 = 0 from rfl] at hx300_0)
                                (try rw [Addr.add_zero'] at hx300_0)
                                (try rw [show ((0 : Int)).toNat = 0 from rfl] at hx300_1)
                                (try rw [show 0 * 3 = 0 from rfl] at hx300_1)
                                (try rw [Addr.add_zero'] at hx300_1)
                                (try rw [show ((0 : Int)).toNat = 0 from rfl] at hx300_2)
                                (try rw [show 0 * 3 = 0 from rfl] at hx300_2)
                                (try rw [Addr.add_zero'] at hx300_2)
                                replace p300 := eq_true p300
                                replace q300 := eq_true q300
                                obtain ⟨Ao71, co71, eo71⟩ := Kd.R_slice HO_5.out
                                subst eo71
                                have p301 : 0 ≤ (0 : Int) := (by omega)
                                have q301 : 0 < (t280.length : Int) := of_decide_eq_true (by first | (with_reducible assumption) | assumption)
                                obtain ⟨ad301, e301, hx301_0, hx301_1, hx301_2⟩ := at_T34 (Kd.R_reads' HO_5.out).2.2 0 p301 q301
                                cases e301
                                have qi301 : (0 < t280.length) = True := eq_true (by omega)
                                (try rw [show ((0 : Int)).toNat = 0 from rfl] at hx301_0)
                                (try rw [show 0 * 3 = 0 from rfl] at hx301_0)
                                (try rw [Addr.add_zero'] at hx301_0)
                                (try rw [show ((0 : Int)).toNat = 0 from rfl] at hx301_1)
                                (try rw [show 0 * 3 = 0 from rfl] at hx301_1)
                                (try rw [Addr.add_zero'] at hx301_1)
                                (try rw [show ((0 : Int)).toNat = 0 from rfl] at hx301_2)
                                (try rw [show 0 * 3 = 0 from rfl] at hx301_2)
                                (try rw [Addr.add_zero'] at hx301_2)
                                replace p301 := eq_true p301
                                replace q301 := eq_true q301
                                go_wp2
                                repeat (go_quiet (fail); try go_wp2)
                                go_ret
                                exact ⟨by first | rfl | (simp [errW_none, errW_some] <;> rfl) | (simp [*, errW_none, errW_some] <;> rfl), by repeat (first | (with_reducible first | exact HB.out | apply below_alloc | apply pw_below_drewN | apply below_drew1) | exact HB.out)⟩
                            · rw [if_neg c65] at H
                              exact absurd H (by simp)
                          · rw [if_neg c64] at H
                            exact absurd H (by simp)
                        · rw [if_neg c63] at H
                          have c63b0 : ((t294.length : Int) == 2) = false := beq_eq_false_iff_ne.mpr c63
                          have c63b1 : ((t294.length : Int) != 2) = true := bne_iff_ne.mpr c63
                          obtain rfl := Option.some.inj H
                          obtain ⟨Ao72, co72, eo72⟩ := Kd.R_slice HO_11.out
                          subst eo72
                          go_wp2
                          repeat (go_quiet (fail); try go_wp2)
                          go_ret
                          exact ⟨by first | rfl | (simp [errW_none, errW_some] <;> rfl) | (simp [*, errW_none, errW_some] <;> rfl), by repeat (first | (with_reducible first | exact HB.out | apply below_alloc | apply pw_below_drewN | apply below_drew1) | exact HB.out)⟩
                      · rw [if_neg c62] at H
                        have c62b0 : (t296 == 0) = false := beq_eq_false_iff_ne.mpr c62
                        have c62b1 : (t296 != 0) = true := bne_iff_ne.mpr c62
                        obtain rfl := Option.some.inj H
                        go_wp2
                        repeat (go_quiet (fail); try go_wp2)
                        go_ret
                        exact ⟨by first | rfl | (simp [errW_none, errW_some] <;> rfl) | (simp [*, errW_none, errW_some] <;> rfl), by repeat (first | (with_reducible first | exact HB.out | apply below_alloc | apply pw_below_drewN | apply below_drew1) | exact HB.out)⟩
                    · replace c61 := Bool.eq_false_iff.mpr c61
                      subst c61
                      have H1 : (if t296 = 0 then (if 0 < (t294.length : Int) then (if 0 < (t280.length : Int) then (if ((rd_T34 t294 0).f0) = ((rd_T34 t280 0).f0) then (if (t294.length : Int) = 1 then (if a0.size + a1.size ≤ 9223372036854775807 then (if ((rd_T34 t294 0).f1).toList = (a0 ++ a1).toList then (some true) else (if ((rd_T34 t280 0).f0) = 1 then (some (decide ((t294.length : Int) > 1))) else (some false))) else (none)) else (if ((rd_T34 t280 0).f0) = 1 then (some (decide ((t294.length : Int) > 1))) else (some false))) else (some false)) else (none)) else (none)) else (if t296 = 2 then (some (decide (t295 ≤ (a0.size : Int)))) else (some false))) = some r := by rw [if_neg (show ¬ (false = true) by decide)] at H; exact H
                      clear H
                      have H := H1
                      clear H1
                      by_cases c73 : t296 = 0
                      · rw [if_pos c73] at H
                        have c73b0 : (t296 == 0) = true := beq_iff_eq.mpr c73
                        have c73b1 : (t296 != 0) = false := bne_eq_false_iff_eq.mpr c73
                        clear c73
                        by_cases c74 : 0 < (t294.length : Int)
                        · rw [if_pos c74] at H
                          have c74b0 : decide (0 < (t294.length : Int)) = true := decide_eq_true c74
                          have c74b1 : decide (0 < t294.length) = true := decide_eq_true (by omega)
                          clear c74
                          by_cases c75 : 0 < (t280.length : Int)
                          · rw [if_pos c75] at H
                            have c75b0 : decide (0 < (t280.length : Int)) = true := decide_eq_true c75
                            have c75b1 : decide (0 < t280.length) = true := decide_eq_true (by omega)
                            clear c75
                            by_cases c76 : ((rd_T34 t294 0).f0) = ((rd_T34 t280 0).f0)
                            · rw [if_pos c76] at H
                              have c76b0 : (((rd_T34 t294 0).f0) == ((rd_T34 t280 0).f0)) = true := beq_iff_eq.mpr c76
                              have c76b1 : (((rd_T34 t294 0).f0) != ((rd_T34 t280 0).f0)) = false := bne_eq_false_iff_eq.mpr c76
                              clear c76
                              by_cases c77 : (t294.length : Int) = 1
                              · rw [if_pos c77] at H
                                have c77b0 : ((t294.length : Int) == 1) = true := beq_iff_eq.mpr c77
                                have c77b1 : ((t294.length : Int) != 1) = false := bne_eq_false_iff_eq.mpr c77
                                clear c77
                                by_cases c78 : a0.size + a1.size ≤ 9223372036854775807
                                · rw [if_pos c78] at H
                                  have c78b0 := eq_true c78
                                  have c78b1 : decide (a0.size + a1.size ≤ 9223372036854775807) = true := decide_eq_true c78
                                  try have c78b2 : (9223372036854775807 < a0.size + a1.size) = False := eq_false (Nat.not_lt.2 c78)
                                  by_cases c79 : ((rd_T34 t294 0).f1).toList = (a0 ++ a1).toList
                                  · rw [if_pos c79] at H
                                    have c79b0 : (((rd_T34 t294 0).f1).toList == (a0 ++ a1).toList) = true := beq_iff_eq.mpr c79
                                    have c79b1 : (((rd_T34 t294 0).f1).toList != (a0 ++ a1).toList) = false := bne_eq_false_iff_eq.mpr c79
                                    clear c79
                                    obtain rfl := Option.some.inj H
                                    obtain ⟨Ao80, co80, eo80⟩ := Kd.R_slice HO_11.out
                                    subst eo80
                                    have p303 : 0 ≤ (0 : Int) := (by omega)
                                    have q303 : 0 < (t294.length : Int) := of_decide_eq_true (by first | (with_reducible assumption) | assumption)
                                    obtain ⟨ad303, e303, hx303_0, hx303_1, hx303_2⟩ := at_T34 (Kd.R_reads' HO_11.out).2.2 0 p303 q303
                                    cases e303
                                    have qi303 : (0 < t294.length) = True := eq_true (by omega)
                                    (try rw [show ((0 : Int)).toNat = 0 from rfl] at hx303_0)
                                    (try rw [show 0 * 3 = 0 from rfl] at hx303_0)
                                    (try rw [Addr.add_zero'] at hx303_0)
                                    (try rw [show ((0 : Int)).toNat = 0 from rfl] at hx303_1)
                                    (try rw [show 0 * 3 = 0 from rfl] at hx303_1)
                                    (try rw [Addr.add_zero'] at hx303_1)
                                    (try rw [show ((0 : Int)).toNat = 0 from rfl] at hx303_2)
                                    (try rw [show 0 * 3 = 0 from rfl] at hx303_2)
                                    (try rw [Addr.add_zero'] at hx303_2)
                                    replace p303 := eq_true p303
                                    replace q303 := eq_true q303
                                    obtain ⟨Ao81, co81, eo81⟩ := Kd.R_slice HO_5.out
                                    subst eo81
                                    have p304 : 0 ≤ (0 : Int) := (by omega)
                                    have q304 : 0 < (t280.length : Int) := of_decide_eq_true (by first | (with_reducible assumption) | assumption)
                                    obtain ⟨ad304, e304, hx304_0, hx304_1, hx304_2⟩ := at_T34 (Kd.R_reads' HO_5.out).2.2 0 p304 q304
                                    cases e304
                                    have qi304 : (0 < t280.length) = True := eq_true (by omega)
                                    (try rw [show ((0 : Int)).toNat = 0 from rfl] at hx304_0)
                                    (try rw [show 0 * 3 = 0 from rfl] at hx304_0)
                                    (try rw [Addr.add_zero'] at hx304_0)
                                    (try rw [show ((0 : Int)).toNat = 0 from rfl] at hx304_1)
                                    (try rw [show 0 * 3 = 0 from rfl] at hx304_1)
                                    (try rw [Addr.add_zero'] at hx304_1)
                                    (try rw [show ((0 : Int)).toNat = 0 from rfl] at hx304_2)
                                    (try rw [show 0 * 3 = 0 from rfl] at hx304_2)
                                    (try rw [Addr.add_zero'] at hx304_2)
                                    replace p304 := eq_true p304
                                    replace q304 := eq_true q304
                                    have p305 : 0 ≤ (0 : Int) := (by omega)
                                    have q305 : 0 < (t294.length : Int) := of_decide_eq_true (by first | (with_reducible assumption) | assumption)
                                    obtain ⟨ad305, e305, hx305_0, hx305_1, hx305_2⟩ := at_T34 (Kd.R_reads' HO_11.out).2.2 0 p305 q305
                                    obtain rfl : ad303 = ad305 := (by injection e305)
                                    have qi305 : (0 < t294.length) = True := eq_true (by omega)
                                    (try rw [show ((0 : Int)).toNat = 0 from rfl] at hx305_0)
                                    (try rw [show 0 * 3 = 0 from rfl] at hx305_0)
                                    (try rw [Addr.add_zero'] at hx305_0)
                                    (try rw [show ((0 : Int)).toNat = 0 from rfl] at hx305_1)
                                    (try rw [show 0 * 3 = 0 from rfl] at hx305_1)
                                    (try rw [Addr.add_zero'] at hx305_1)
                                    (try rw [show ((0 : Int)).toNat = 0 from rfl] at hx305_2)
                                    (try rw [show 0 * 3 = 0 from rfl] at hx305_2)
                                    (try rw [Addr.add_zero'] at hx305_2)
                                    replace p305 := eq_true p305
                                    replace q305 := eq_true q305
                                    go_wp2
                                    repeat (go_quiet (fail); try go_wp2)
                                    go_ret
                                    exact ⟨by first | rfl | (simp [errW_none, errW_some] <;> rfl) | (simp [*, errW_none, errW_some] <;> rfl), by repeat (first | (with_reducible first | exact HB.out | apply below_alloc | apply pw_below_drewN | apply below_drew1) | exact HB.out)⟩
                                  · rw [if_neg c79] at H
                                    have c79b0 : (((rd_T34 t294 0).f1).toList == (a0 ++ a1).toList) = false := beq_eq_false_iff_ne.mpr c79
                                    have c79b1 : (((rd_T34 t294 0).f1).toList != (a0 ++ a1).toList) = true := bne_iff_ne.mpr c79
                                    by_cases c82 : ((rd_T34 t280 0).f0) = 1
                                    · rw [if_pos c82] at H
                                      have c82b0 : (((rd_T34 t280 0).f0) == 1) = true := beq_iff_eq.mpr c82
                                      have c82b1 : (((rd_T34 t280 0).f0) != 1) = false := bne_eq_false_iff_eq.mpr c82
                                      clear c82
                                      obtain rfl := Option.some.inj H
                                      obtain ⟨Ao83, co83, eo83⟩ := Kd.R_slice HO_11.out
                                      subst eo83
                                      have p303 : 0 ≤ (0 : Int) := (by omega)
                                      have q303 : 0 < (t294.length : Int) := of_decide_eq_true (by first | (with_reducible assumption) | assumption)
                                      obtain ⟨ad303, e303, hx303_0, hx303_1, hx303_2⟩ := at_T34 (Kd.R_reads' HO_11.out).2.2 0 p303 q303
                                      cases e303
                                      have qi303 : (0 < t294.length) = True := eq_true (by omega)
                                      (try rw [show ((0 : Int)).toNat = 0 from rfl] at hx303_0)
                                      (try rw [show 0 * 3 = 0 from rfl] at hx303_0)
                                      (try rw [Addr.add_zero'] at hx303_0)
                                      (try rw [show ((0 : Int)).toNat = 0 from rfl] at hx303_1)
                                      (try rw [show 0 * 3 = 0 from rfl] at hx303_1)
                                      (try rw [Addr.add_zero'] at hx303_1)
                                      (try rw [show ((0 : Int)).toNat = 0 from rfl] at hx303_2)
                                      (try rw [show 0 * 3 = 0 from rfl] at hx303_2)
                                      (try rw [Addr.add_zero'] at hx303_2)
                                      replace p303 := eq_true p303
                                      replace q303 := eq_true q303
                                      obtain ⟨Ao84, co84, eo84⟩ := Kd.R_slice HO_5.out
                                      subst eo84
                                      have p304 : 0 ≤ (0 : Int) := (by omega)
                                      have q304 : 0 < (t280.length : Int) := of_decide_eq_true (by first | (with_reducible assumption) | assumption)
                                      obtain ⟨ad304, e304, hx304_0, hx304_1, hx304_2⟩ := at_T34 (Kd.R_reads' HO_5.out).2.2 0 p304 q304
                                      cases e304
                                      have qi304 : (0 < t280.length) = True := eq_true (by omega)
                                      (try rw [show ((0 : Int)).toNat = 0 from rfl] at hx304_0)
                                      (try rw [show 0 * 3 = 0 from rfl] at hx304_0)
                                      (try rw [Addr.add_zero'] at hx304_0)
                                      (try rw [show ((0 : Int)).toNat = 0 from rfl] at hx304_1)
                                      (try rw [show 0 * 3 = 0 from rfl] at hx304_1)
                                      (try rw [Addr.add_zero'] at hx304_1)
                                      (try rw [show ((0 : Int)).toNat = 0 from rfl] at hx304_2)
                                      (try rw [show 0 * 3 = 0 from rfl] at hx304_2)
                                      (try rw [Addr.add_zero'] at hx304_2)
                                      replace p304 := eq_true p304
                                      replace q304 := eq_true q304
                                      have p305 : 0 ≤ (0 : Int) := (by omega)
                                      have q305 : 0 < (t294.length : Int) := of_decide_eq_true (by first | (with_reducible assumption) | assumption)
                                      obtain ⟨ad305, e305, hx305_0, hx305_1, hx305_2⟩ := at_T34 (Kd.R_reads' HO_11.out).2.2 0 p305 q305
                                      obtain rfl : ad303 = ad305 := (by injection e305)
                                      have qi305 : (0 < t294.length) = True := eq_true (by omega)
                                      (try rw [show ((0 : Int)).toNat = 0 from rfl] at hx305_0)
                                      (try rw [show 0 * 3 = 0 from rfl] at hx305_0)
                                      (try rw [Addr.add_zero'] at hx305_0)
                                      (try rw [show ((0 : Int)).toNat = 0 from rfl] at hx305_1)
                                      (try rw [show 0 * 3 = 0 from rfl] at hx305_1)
                                      (try rw [Addr.add_zero'] at hx305_1)
                                      (try rw [show ((0 : Int)).toNat = 0 from rfl] at hx305_2)
                                      (try rw [show 0 * 3 = 0 from rfl] at hx305_2)
                                      (try rw [Addr.add_zero'] at hx305_2)
                                      replace p305 := eq_true p305
                                      replace q305 := eq_true q305
                                      have p306 : 0 ≤ (0 : Int) := (by omega)
                                      have q306 : 0 < (t280.length : Int) := of_decide_eq_true (by first | (with_reducible assumption) | assumption)
                                      obtain ⟨ad306, e306, hx306_0, hx306_1, hx306_2⟩ := at_T34 (Kd.R_reads' HO_5.out).2.2 0 p306 q306
                                      obtain rfl : ad304 = ad306 := (by injection e306)
                                      have qi306 : (0 < t280.length) = True := eq_true (by omega)
                                      (try rw [show ((0 : Int)).toNat = 0 from rfl] at hx306_0)
                                      (try rw [show 0 * 3 = 0 from rfl] at hx306_0)
                                      (try rw [Addr.add_zero'] at hx306_0)
                                      (try rw [show ((0 : Int)).toNat = 0 from rfl] at hx306_1)
                                      (try rw [show 0 * 3 = 0 from rfl] at hx306_1)
                                      (try rw [Addr.add_zero'] at hx306_1)
                                      (try rw [show ((0 : Int)).toNat = 0 from rfl] at hx306_2)
                                      (try rw [show 0 * 3 = 0 from rfl] at hx306_2)
                                      (try rw [Addr.add_zero'] at hx306_2)
                                      replace p306 := eq_true p306
                                      replace q306 := eq_true q306
                                      go_wp2
                                      repeat (go_quiet (fail); try go_wp2)
                                      go_ret
                                      exact ⟨by first | rfl | (simp [errW_none, errW_some] <;> rfl) | (simp [*, errW_none, errW_some] <;> rfl), by repeat (first | (with_reducible first | exact HB.out | apply below_alloc | apply pw_below_drewN | apply below_drew1) | exact HB.out)⟩
                                    · rw [if_neg c82] at H
                                      have c82b0 : (((rd_T34 t280 0).f0) == 1) = false := beq_eq_false_iff_ne.mpr c82
                                      have c82b1 : (((rd_T34 t280 0).f0) != 1) = true := bne_iff_ne.mpr c82
                                      obtain rfl := Option.some.inj H
                                      obtain ⟨Ao85, co85, eo85⟩ := Kd.R_slice HO_11.out
                                      subst eo85
                                      have p303 : 0 ≤ (0 : Int) := (by omega)
                                      have q303 : 0 < (t294.length : Int) := of_decide_eq_true (by first | (with_reducible assumption) | assumption)
                                      obtain ⟨ad303, e303, hx303_0, hx303_1, hx303_2⟩ := at_T34 (Kd.R_reads' HO_11.out).2.2 0 p303 q303
                                      cases e303
                                      have qi303 : (0 < t294.length) = True := eq_true (by omega)
                                      (try rw [show ((0 : Int)).toNat = 0 from rfl] at hx303_0)
                                      (try rw [show 0 * 3 = 0 from rfl] at hx303_0)
                                      (try rw [Addr.add_zero'] at hx303_0)
                                      (try rw [show ((0 : Int)).toNat = 0 from rfl] at hx303_1)
                                      (try rw [show 0 * 3 = 0 from rfl] at hx303_1)
                                      (try rw [Addr.add_zero'] at hx303_1)
                                      (try rw [show ((0 : Int)).toNat = 0 from rfl] at hx303_2)
                                      (try rw [show 0 * 3 = 0 from rfl] at hx303_2)
                                      (try rw [Addr.add_zero'] at hx303_2)
                                      replace p303 := eq_true p303
                                      replace q303 := eq_true q303
                                      obtain ⟨Ao86, co86, eo86⟩ := Kd.R_slice HO_5.out
                                      subst eo86
                                      have p304 : 0 ≤ (0 : Int) := (by omega)
                                      have q304 : 0 < (t280.length : Int) := of_decide_eq_true (by first | (with_reducible assumption) | assumption)
                                      obtain ⟨ad304, e304, hx304_0, hx304_1, hx304_2⟩ := at_T34 (Kd.R_reads' HO_5.out).2.2 0 p304 q304
                                      cases e304
                                      have qi304 : (0 < t280.length) = True := eq_true (by omega)
                                      (try rw [show ((0 : Int)).toNat = 0 from rfl] at hx304_0)
                                      (try rw [show 0 * 3 = 0 from rfl] at hx304_0)
                                      (try rw [Addr.add_zero'] at hx304_0)
                                      (try rw [show ((0 : Int)).toNat = 0 from rfl] at hx304_1)
                                      (try rw [show 0 * 3 = 0 from rfl] at hx304_1)
                                      (try rw [Addr.add_zero'] at hx304_1)
                                      (try rw [show ((0 : Int)).toNat = 0 from rfl] at hx304_2)
                                      (try rw [show 0 * 3 = 0 from rfl] at hx304_2)
                                      (try rw [Addr.add_zero'] at hx304_2)
                                      replace p304 := eq_true p304
                                      replace q304 := eq_true q304
                                      have p305 : 0 ≤ (0 : Int) := (by omega)
                                      have q305 : 0 < (t294.length : Int) := of_decide_eq_true (by first | (with_reducible assumption) | assumption)
                                      obtain ⟨ad305, e305, hx305_0, hx305_1, hx305_2⟩ := at_T34 (Kd.R_reads' HO_11.out).2.2 0 p305 q305
                                      obtain rfl : ad303 = ad305 := (by injection e305)
                                      have qi305 : (0 < t294.length) = True := eq_true (by omega)
                                      (try rw [show ((0 : Int)).toNat = 0 from rfl] at hx305_0)
                                      (try rw [show 0 * 3 = 0 from rfl] at hx305_0)
                                      (try rw [Addr.add_zero'] at hx305_0)
                                      (try rw [show ((0 : Int)).toNat = 0 from rfl] at hx305_1)
                                      (try rw [show 0 * 3 = 0 from rfl] at hx305_1)
                                      (try rw [Addr.add_zero'] at hx305_1)
                                      (try rw [show ((0 : Int)).toNat = 0 from rfl] at hx305_2)
                                      (try rw [show 0 * 3 = 0 from rfl] at hx305_2)
                                      (try rw [Addr.add_zero'] at hx305_2)
                                      replace p305 := eq_true p305
                                      replace q305 := eq_true q305
                                      have p306 : 0 ≤ (0 : Int) := (by omega)
                                      have q306 : 0 < (t280.length : Int) := of_decide_eq_true (by first | (with_reducible assumption) | assumption)
                                      obtain ⟨ad306, e306, hx306_0, hx306_1, hx306_2⟩ := at_T34 (Kd.R_reads' HO_5.out).2.2 0 p306 q306
                                      obtain rfl : ad304 = ad306 := (by injection e306)
                                      have qi306 : (0 < t280.length) = True := eq_true (by omega)
                                      (try rw [show ((0 : Int)).toNat = 0 from rfl] at hx306_0)
                                      (try rw [show 0 * 3 = 0 from rfl] at hx306_0)
                                      (try rw [Addr.add_zero'] at hx306_0)
                                      (try rw [show ((0 : Int)).toNat = 0 from rfl] at hx306_1)
                                      (try rw [show 0 * 3 = 0 from rfl] at hx306_1)
                                      (try rw [Addr.add_zero'] at hx306_1)
                                      (try rw [show ((0 : Int)).toNat = 0 from rfl] at hx306_2)
                                      (try rw [show 0 * 3 = 0 from rfl] at hx306_2)
                                      (try rw [Addr.add_zero'] at hx306_2)
                                      replace p306 := eq_true p306
                                      replace q306 := eq_true q306
                                      go_wp2
                                      repeat (go_quiet (fail); try go_wp2)
                                      go_ret
                                      exact ⟨by first | rfl | (simp [errW_none, errW_some] <;> rfl) | (simp [*, errW_none, errW_some] <;> rfl), by repeat (first | (with_reducible first | exact HB.out | apply below_alloc | apply pw_below_drewN | apply below_drew1) | exact HB.out)⟩
                                · rw [if_neg c78] at H
                                  exact absurd H (by simp)
                              · rw [if_neg c77] at H
                                have c77b0 : ((t294.length : Int) == 1) = false := beq_eq_false_iff_ne.mpr c77
                                have c77b1 : ((t294.length : Int) != 1) = true := bne_iff_ne.mpr c77
                                by_cases c87 : ((rd_T34 t280 0).f0) = 1
                                · rw [if_pos c87] at H
                                  have c87b0 : (((rd_T34 t280 0).f0) == 1) = true := beq_iff_eq.mpr c87
                                  have c87b1 : (((rd_T34 t280 0).f0) != 1) = false := bne_eq_false_iff_eq.mpr c87
                                  clear c87
                                  obtain rfl := Option.some.inj H
                                  obtain ⟨Ao88, co88, eo88⟩ := Kd.R_slice HO_11.out
                                  subst eo88
                                  have p303 : 0 ≤ (0 : Int) := (by omega)
                                  have q303 : 0 < (t294.length : Int) := of_decide_eq_true (by first | (with_reducible assumption) | assumption)
                                  obtain ⟨ad303, e303, hx303_0, hx303_1, hx303_2⟩ := at_T34 (Kd.R_reads' HO_11.out).2.2 0 p303 q303
                                  cases e303
                                  have qi303 : (0 < t294.length) = True := eq_true (by omega)
                                  (try rw [show ((0 : Int)).toNat = 0 from rfl] at hx303_0)
                                  (try rw [show 0 * 3 = 0 from rfl] at hx303_0)
                                  (try rw [Addr.add_zero'] at hx303_0)
                                  (try rw [show ((0 : Int)).toNat = 0 from rfl] at hx303_1)
                                  (try rw [show 0 * 3 = 0 from rfl] at hx303_1)
                                  (try rw [Addr.add_zero'] at hx303_1)
                                  (try rw [show ((0 : Int)).toNat = 0 from rfl] at hx303_2)
                                  (try rw [show 0 * 3 = 0 from rfl] at hx303_2)
                                  (try rw [Addr.add_zero'] at hx303_2)
                                  replace p303 := eq_true p303
                                  replace q303 := eq_true q303
                                  obtain ⟨Ao89, co89, eo89⟩ := Kd.R_slice HO_5.out
                                  subst eo89
                                  have p304 : 0 ≤ (0 : Int) := (by omega)
                                  have q304 : 0 < (t280.length : Int) := of_decide_eq_true (by first | (with_reducible assumption) | assumption)
                                  obtain ⟨ad304, e304, hx304_0, hx304_1, hx304_2⟩ := at_T34 (Kd.R_reads' HO_5.out).2.2 0 p304 q304
                                  cases e304
                                  have qi304 : (0 < t280.length) = True := eq_true (by omega)
                                  (try rw [show ((0 : Int)).toNat = 0 from rfl] at hx304_0)
                                  (try rw [show 0 * 3 = 0 from rfl] at hx304_0)
                                  (try rw [Addr.add_zero'] at hx304_0)
                                  (try rw [show ((0 : Int)).toNat = 0 from rfl] at hx304_1)
                                  (try rw [show 0 * 3 = 0 from rfl] at hx304_1)
                                  (try rw [Addr.add_zero'] at hx304_1)
                                  (try rw [show ((0 : Int)).toNat = 0 from rfl] at hx304_2)
                                  (try rw [show 0 * 3 = 0 from rfl] at hx304_2)
                                  (try rw [Addr.add_zero'] at hx304_2)
                                  replace p304 := eq_true p304
                                  replace q304 := eq_true q304
                                  have p307 : 0 ≤ (0 : Int) := (by omega)
                                  have q307 : 0 < (t280.length : Int) := of_decide_eq_true (by first | (with_reducible assumption) | assumption)
                                  obtain ⟨ad307, e307, hx307_0, hx307_1, hx307_2⟩ := at_T34 (Kd.R_reads' HO_5.out).2.2 0 p307 q307
                                  obtain rfl : ad304 = ad307 := (by injection e307)
                                  have qi307 : (0 < t280.length) = True := eq_true (by omega)
                                  (try rw [show ((0 : Int)).toNat = 0 from rfl] at hx307_0)
                                  (try rw [show 0 * 3 = 0 from rfl] at hx307_0)
                                  (try rw [Addr.add_zero'] at hx307_0)
                                  (try rw [show ((0 : Int)).toNat = 0 from rfl] at hx307_1)
                                  (try rw [show 0 * 3 = 0 from rfl] at hx307_1)
                                  (try rw [Addr.add_zero'] at hx307_1)
                                  (try rw [show ((0 : Int)).toNat = 0 from rfl] at hx307_2)
                                  (try rw [show 0 * 3 = 0 from rfl] at hx307_2)
                                  (try rw [Addr.add_zero'] at hx307_2)
                                  replace p307 := eq_true p307
                                  replace q307 := eq_true q307
                                  go_wp2
                                  repeat (go_quiet (fail); try go_wp2)
                                  go_ret
                                  exact ⟨by first | rfl | (simp [errW_none, errW_some] <;> rfl) | (simp [*, errW_none, errW_some] <;> rfl), by repeat (first | (with_reducible first | exact HB.out | apply below_alloc | apply pw_below_drewN | apply below_drew1) | exact HB.out)⟩
                                · rw [if_neg c87] at H
                                  have c87b0 : (((rd_T34 t280 0).f0) == 1) = false := beq_eq_false_iff_ne.mpr c87
                                  have c87b1 : (((rd_T34 t280 0).f0) != 1) = true := bne_iff_ne.mpr c87
                                  obtain rfl := Option.some.inj H
                                  obtain ⟨Ao90, co90, eo90⟩ := Kd.R_slice HO_11.out
                                  subst eo90
                                  have p303 : 0 ≤ (0 : Int) := (by omega)
                                  have q303 : 0 < (t294.length : Int) := of_decide_eq_true (by first | (with_reducible assumption) | assumption)
                                  obtain ⟨ad303, e303, hx303_0, hx303_1, hx303_2⟩ := at_T34 (Kd.R_reads' HO_11.out).2.2 0 p303 q303
                                  cases e303
                                  have qi303 : (0 < t294.length) = True := eq_true (by omega)
                                  (try rw [show ((0 : Int)).toNat = 0 from rfl] at hx303_0)
                                  (try rw [show 0 * 3 = 0 from rfl] at hx303_0)
                                  (try rw [Addr.add_zero'] at hx303_0)
                                  (try rw [show ((0 : Int)).toNat = 0 from rfl] at hx303_1)
                                  (try rw [show 0 * 3 = 0 from rfl] at hx303_1)
                                  (try rw [Addr.add_zero'] at hx303_1)
                                  (try rw [show ((0 : Int)).toNat = 0 from rfl] at hx303_2)
                                  (try rw [show 0 * 3 = 0 from rfl] at hx303_2)
                                  (try rw [Addr.add_zero'] at hx303_2)
                                  replace p303 := eq_true p303
                                  replace q303 := eq_true q303
                                  obtain ⟨Ao91, co91, eo91⟩ := Kd.R_slice HO_5.out
                                  subst eo91
                                  have p304 : 0 ≤ (0 : Int) := (by omega)
                                  have q304 : 0 < (t280.length : Int) := of_decide_eq_true (by first | (with_reducible assumption) | assumption)
                                  obtain ⟨ad304, e304, hx304_0, hx304_1, hx304_2⟩ := at_T34 (Kd.R_reads' HO_5.out).2.2 0 p304 q304
                                  cases e304
                                  have qi304 : (0 < t280.length) = True := eq_true (by omega)
                                  (try rw [show ((0 : Int)).toNat = 0 from rfl] at hx304_0)
                                  (try rw [show 0 * 3 = 0 from rfl] at hx304_0)
                                  (try rw [Addr.add_zero'] at hx304_0)
                                  (try rw [show ((0 : Int)).toNat = 0 from rfl] at hx304_1)
                                  (try rw [show 0 * 3 = 0 from rfl] at hx304_1)
                                  (try rw [Addr.add_zero'] at hx304_1)
                                  (try rw [show ((0 : Int)).toNat = 0 from rfl] at hx304_2)
                                  (try rw [show 0 * 3 = 0 from rfl] at hx304_2)
                                  (try rw [Addr.add_zero'] at hx304_2)
                                  replace p304 := eq_true p304
                                  replace q304 := eq_true q304
                                  have p307 : 0 ≤ (0 : Int) := (by omega)
                                  have q307 : 0 < (t280.length : Int) := of_decide_eq_true (by first | (with_reducible assumption) | assumption)
                                  obtain ⟨ad307, e307, hx307_0, hx307_1, hx307_2⟩ := at_T34 (Kd.R_reads' HO_5.out).2.2 0 p307 q307
                                  obtain rfl : ad304 = ad307 := (by injection e307)
                                  have qi307 : (0 < t280.length) = True := eq_true (by omega)
                                  (try rw [show ((0 : Int)).toNat = 0 from rfl] at hx307_0)
                                  (try rw [show 0 * 3 = 0 from rfl] at hx307_0)
                                  (try rw [Addr.add_zero'] at hx307_0)
                                  (try rw [show ((0 : Int)).toNat = 0 from rfl] at hx307_1)
                                  (try rw [show 0 * 3 = 0 from rfl] at hx307_1)
                                  (try rw [Addr.add_zero'] at hx307_1)
                                  (try rw [show ((0 : Int)).toNat = 0 from rfl] at hx307_2)
                                  (try rw [show 0 * 3 = 0 from rfl] at hx307_2)
                                  (try rw [Addr.add_zero'] at hx307_2)
                                  replace p307 := eq_true p307
                                  replace q307 := eq_true q307
                                  go_wp2
                                  repeat (go_quiet (fail); try go_wp2)
                                  go_ret
                                  exact ⟨by first | rfl | (simp [errW_none, errW_some] <;> rfl) | (simp [*, errW_none, errW_some] <;> rfl), by repeat (first | (with_reducible first | exact HB.out | apply below_alloc | apply pw_below_drewN | apply below_drew1) | exact HB.out)⟩
                            · rw [if_neg c76] at H
                              have c76b0 : (((rd_T34 t294 0).f0) == ((rd_T34 t280 0).f0)) = false := beq_eq_false_iff_ne.mpr c76
                              have c76b1 : (((rd_T34 t294 0).f0) != ((rd_T34 t280 0).f0)) = true := bne_iff_ne.mpr c76
                              obtain rfl := Option.some.inj H
                              obtain ⟨Ao92, co92, eo92⟩ := Kd.R_slice HO_11.out
                              subst eo92
                              have p303 : 0 ≤ (0 : Int) := (by omega)
                              have q303 : 0 < (t294.length : Int) := of_decide_eq_true (by first | (with_reducible assumption) | assumption)
                              obtain ⟨ad303, e303, hx303_0, hx303_1, hx303_2⟩ := at_T34 (Kd.R_reads' HO_11.out).2.2 0 p303 q303
                              cases e303
                              have qi303 : (0 < t294.length) = True := eq_true (by omega)
                              (try rw [show ((0 : Int)).toNat = 0 from rfl] at hx303_0)
                              (try rw [show 0 * 3 = 0 from rfl] at hx303_0)
                              (try rw [Addr.add_zero'] at hx303_0)
                              (try rw [show ((0 : Int)).toNat = 0 from rfl] at hx303_1)
                              (try rw [show 0 * 3 = 0 from rfl] at hx303_1)
                              (try rw [Addr.add_zero'] at hx303_1)
                              (try rw [show ((0 : Int)).toNat = 0 from rfl] at hx303_2)
                              (try rw [show 0 * 3 = 0 from rfl] at hx303_2)
                              (try rw [Addr.add_zero'] at hx303_2)
                              replace p303 := eq_true p303
                              replace q303 := eq_true q303
                              obtain ⟨Ao93, co93, eo93⟩ := Kd.R_slice HO_5.out
                              subst eo93
                              have p304 : 0 ≤ (0 : Int) := (by omega)
                              have q304 : 0 < (t280.length : Int) := of_decide_eq_true (by first | (with_reducible assumption) | assumption)
                              obtain ⟨ad304, e304, hx304_0, hx304_1, hx304_2⟩ := at_T34 (Kd.R_reads' HO_5.out).2.2 0 p304 q304
                              cases e304
                              have qi304 : (0 < t280.length) = True := eq_true (by omega)
                              (try rw [show ((0 : Int)).toNat = 0 from rfl] at hx304_0)
                              (try rw [show 0 * 3 = 0 from rfl] at hx304_0)
                              (try rw [Addr.add_zero'] at hx304_0)
                              (try rw [show ((0 : Int)).toNat = 0 from rfl] at hx304_1)
                              (try rw [show 0 * 3 = 0 from rfl] at hx304_1)
                              (try rw [Addr.add_zero'] at hx304_1)
                              (try rw [show ((0 : Int)).toNat = 0 from rfl] at hx304_2)
                              (try rw [show 0 * 3 = 0 from rfl] at hx304_2)
                              (try rw [Addr.add_zero'] at hx304_2)
                              replace p304 := eq_true p304
                              replace q304 := eq_true q304
                              go_wp2
                              repeat (go_quiet (fail); try go_wp2)
                              go_ret
                              exact ⟨by first | rfl | (simp [errW_none, errW_some] <;> rfl) | (simp [*, errW_none, errW_some] <;> rfl), by repeat (first | (with_reducible first | exact HB.out | apply below_alloc | apply pw_below_drewN | apply below_drew1) | exact HB.out)⟩
                          · rw [if_neg c75] at H
                            exact absurd H (by simp)
                        · rw [if_neg c74] at H
                          exact absurd H (by simp)
                      · rw [if_neg c73] at H
                        have c73b0 : (t296 == 0) = false := beq_eq_false_iff_ne.mpr c73
                        have c73b1 : (t296 != 0) = true := bne_iff_ne.mpr c73
                        by_cases c94 : t296 = 2
                        · rw [if_pos c94] at H
                          have c94b0 : (t296 == 2) = true := beq_iff_eq.mpr c94
                          have c94b1 : (t296 != 2) = false := bne_eq_false_iff_eq.mpr c94
                          clear c94
                          obtain rfl := Option.some.inj H
                          go_wp2
                          repeat (go_quiet (fail); try go_wp2)
                          go_ret
                          exact ⟨by first | rfl | (simp [errW_none, errW_some] <;> rfl) | (simp [*, errW_none, errW_some] <;> rfl), by repeat (first | (with_reducible first | exact HB.out | apply below_alloc | apply pw_below_drewN | apply below_drew1) | exact HB.out)⟩
                        · rw [if_neg c94] at H
                          have c94b0 : (t296 == 2) = false := beq_eq_false_iff_ne.mpr c94
                          have c94b1 : (t296 != 2) = true := bne_iff_ne.mpr c94
                          obtain rfl := Option.some.inj H
                          go_wp2
                          repeat (go_quiet (fail); try go_wp2)
                          go_ret
                          exact ⟨by first | rfl | (simp [errW_none, errW_some] <;> rfl) | (simp [*, errW_none, errW_some] <;> rfl), by repeat (first | (with_reducible first | exact HB.out | apply below_alloc | apply pw_below_drewN | apply below_drew1) | exact HB.out)⟩
              · rw [if_neg c48] at H
                exact absurd H (by simp)
end Go.Proofs.YthebhbomlllpeaaDoor.X
namespace Go.Proofs.YthebhbomlllpeaaDoor.X
set_option linter.unusedVariables false
set_option linter.unusedSimpArgs false
open Go.RowKit Go.Proofs.YthebhbomlllpeaaDoorW.PrintWords Go.Proofs.YthebhbomlllpeaaDoorW.PrintLast Go.Proofs.YthebhbomlllpeaaDoorW.PrintMore
theorem longer_t0 (k : Nat) (a b : ByteArray) : antecedentlaw07_LexLonger.j0 (k + 1) a b true = some true := by
  simp only [antecedentlaw07_LexLonger.j0, if_true, awake_true, Option.bind_some]
theorem longer_t1 (k : Nat) (a b : ByteArray) (l : List S34) : antecedentlaw07_LexLonger.j1 (k + 1) a b l true = some true := by
  simp only [antecedentlaw07_LexLonger.j1, if_true]
/-- one token that is all of the text. -/
theorem one_next {a : ByteArray} {x : Nat × Nat × Nat} (h : tokN nmL vlL 0 a.data.toList = .ok [x]) (ht : (tokS a x).f1.toList = a.toList) :
    nextN nmL vlL a.data.toList = some (x.1, a.data.toList.length) ∧ x.2.1 = 0 ∧ x.1 ≤ 4 ∧ 1 ≤ x.1 := by
  have hc := tok_cov nmL vlL a.data.toList _ 0 [x] (Nat.le_refl _) (by rw [List.drop_zero]; exact h)
  obtain ⟨h1, h2, h3, h4, h5⟩ := cov_all [x] 0 hc x (List.mem_cons_self ..)
  rw [toList_data, toList_data, tokS_txt] at ht
  have hl := congrArg List.length ht
  rw [List.length_take, List.length_drop] at hl
  have h0 : x.2.1 = 0 := by omega
  rw [h0, List.drop_zero] at h1
  have hn : x.2.2 = a.data.toList.length := by rw [h0] at hl; omega
  rw [hn] at h1
  exact ⟨h1, h0, h4, h3⟩
theorem longer_main (k : Nat) (a b : ByteArray) (ha : a.size ≤ 100) (hb : b.size ≤ 100) (x y : Nat × Nat × Nat) (h1 : nextN nmL vlL a.data.toList = some (x.1, a.data.toList.length)) (h2 : nextN nmL vlL b.data.toList = some (y.1, b.data.toList.length))
    (hk1 : x.1 = 1 ∨ x.1 = 2 ∨ x.1 = 3) (hk2 : y.1 = 1 ∨ y.1 = 2 ∨ y.1 = 3) (hx0 : x.2.1 = 0) (ht : (tokS a x).f1.toList = a.toList) (hb1 : bt b 0 ≠ 45) (hb2 : bt b 0 ≠ 35) (hb3 : 0 < b.size) :
    antecedentlaw07_LexLonger.j1 (k + 1 + 1) a b [tokS a x] false = some true := by
  have hab : (a ++ b).size ≤ 200 := by rw [ByteArray.size_append]; omega
  have habl := app_list a b
  obtain ⟨e, t, het⟩ : ∃ e t, b.data.toList = e :: t := by
    cases hl : b.data.toList with
    | nil => rw [hl] at h2; cases h2
    | cons e t => exact ⟨e, t, rfl⟩
  have hbe : bt b 0 = (e.toNat : Int) := by
    have : b = ⟨(e :: t).toArray⟩ := by rw [← het, ba_eta2]
    rw [this]; exact bt_cons e t
  have hh : ∀ c r, b.data.toList = c :: r → c ≠ 35 ∧ c ≠ 45 := by
    intro c r hc
    rw [het] at hc
    injection hc with hc _
    rw [← hc]
    refine ⟨?_, ?_⟩
    · rintro rfl; exact hb2 hbe
    · rintro rfl; exact hb1 hbe
  have hL := longer nmL vlL vl_digits a.data.toList b.data.toList x.1 y.1 h1 h2 hk1 hk2 hh
  rw [← habl] at hL
  have hg : (∀ c r, b.data.toList = c :: r → greatN c = true) ↔ 65 ≤ bt b 0 ∧ bt b 0 ≤ 90 := by
    rw [hbe]
    constructor
    · intro h
      have := h e t het
      unfold greatN at this
      rw [decide_eq_true_eq] at this
      omega
    · intro h c r hc
      rw [het] at hc
      injection hc with hc _
      rw [← hc]
      exact decide_eq_true (by omega)
  rw [hg] at hL
  simp only [antecedentlaw07_LexLonger.j1, Bool.false_eq_true, if_false]
  rw [if_pos (by omega), tok_f _ (by omega)]
  simp only [Option.bind_some]
  have r0 : rd_T34 [tokS a x] 0 = tokS a x := rfl
  have f0 : (tokS a x).f0 = (x.1 : Int) := rfl
  have f2 : (tokS a x).f2 = (x.2.1 : Int) := rfl
  rw [r0, f0, if_pos (by simp)]
  have hal : a.data.toList.length = a.size := data_length a
  have hbl : b.data.toList.length = b.size := data_length b
  have no : ¬ (x.1 = 1 ∧ 65 ≤ bt b 0 ∧ bt b 0 ≤ 90) → antecedentlaw07_LexLonger.j2 (k + 1) a b [tokS a x] (tokRes (a ++ b)).1 (tokRes (a ++ b)).2.1 (tokRes (a ++ b)).2.2 false = some true := fun hno => by
    simp only [antecedentlaw07_LexLonger.j2, Bool.false_eq_true, if_false]
    rcases hL.2 hno with h | h
    · rw [res_ok h]
      have s0 : rd_T34 [tokS (a ++ b) (x.1, 0, (a ++ b).data.toList.length)] 0 = tokS (a ++ b) (x.1, 0, (a ++ b).data.toList.length) := rfl
      have g1 : (tokS (a ++ b) (x.1, 0, (a ++ b).data.toList.length)).f1.toList = (a ++ b).toList := by
        rw [toList_data, toList_data, tokS_txt]
        simp only [List.drop_zero, List.take_length]
      simp only [List.map_cons, List.map_nil]
      rw [s0, r0, g1]
      have q : (tokS (a ++ b) (x.1, 0, (a ++ b).data.toList.length)).f0 = (x.1 : Int) := rfl
      rw [q, f0]
      simp
      omega
    · rw [res_err h]
      rw [if_neg (by decide), if_pos rfl]
      simp
  by_cases c1 : x.1 = 1
  · rw [if_pos (by omega), if_pos (by omega)]
    by_cases c2 : bt b 0 ≥ 65
    · rw [if_pos c2]
      by_cases c3 : bt b 0 ≤ 90
      · rw [decide_eq_true c3]
        have h := hL.1 ⟨c1, c2, c3⟩
        rw [res_ok h]
        simp only [antecedentlaw07_LexLonger.j2, if_true]
        simp only [List.map_cons, List.map_nil]
        have s0 : rd_T34 [tokS (a ++ b) (1, 0, a.data.toList.length), tokS (a ++ b) (y.1, a.data.toList.length, b.data.toList.length)] 0 = tokS (a ++ b) (1, 0, a.data.toList.length) := rfl
        have s1 : rd_T34 [tokS (a ++ b) (1, 0, a.data.toList.length), tokS (a ++ b) (y.1, a.data.toList.length, b.data.toList.length)] 1 = tokS (a ++ b) (y.1, a.data.toList.length, b.data.toList.length) := rfl
        have g0 : (tokS (a ++ b) (1, 0, a.data.toList.length)).f1.toList = a.toList := by
          rw [toList_data, toList_data, tokS_txt, habl]
          simp only [List.drop_zero, List.take_left]
        have g1 : (tokS (a ++ b) (y.1, a.data.toList.length, b.data.toList.length)).f1.toList = b.toList := by
          rw [toList_data, toList_data, tokS_txt, habl]
          simp only [List.drop_left, List.take_length]
        have q0 : (tokS (a ++ b) (1, 0, a.data.toList.length)).f0 = 1 := rfl
        have q2 : (tokS (a ++ b) (1, 0, a.data.toList.length)).f2 = 0 := rfl
        rw [s0, s1, r0, g0, g1, ht, f0, f2, q0, q2, c1, hx0]
        simp
      · rw [decide_eq_false c3]
        exact no (by omega)
    · rw [if_neg c2]
      exact no (by omega)
  · rw [if_neg (by omega)]
    exact no (by omega)
theorem longer_j0 (k : Nat) (a b : ByteArray) (ha : a.size ≤ 100) (hb : b.size ≤ 100) : antecedentlaw07_LexLonger.j0 (k + 1 + 1 + 1) a b false = some true := by
  simp only [antecedentlaw07_LexLonger.j0, Bool.false_eq_true, if_false]
  rw [tok_f a (by omega), tok_f b (by omega)]
  simp only [Option.bind_some]
  cases h1 : tokN nmL vlL 0 a.data.toList with
  | error i => rw [res_err h1, if_neg (by simp), longer_t1]
  | ok l1 =>
    cases h2 : tokN nmL vlL 0 b.data.toList with
    | error i => rw [res_ok h1, res_err h2, if_pos rfl, if_neg (by simp), longer_t1]
    | ok l2 =>
      rw [res_ok h1, res_ok h2, if_pos rfl, if_pos rfl]
      simp only [List.length_map]
      by_cases n1 : (l1.length : Int) = 1
      · rw [if_pos n1]
        by_cases n2 : (l2.length : Int) = 1
        · rw [if_pos n2]
          obtain ⟨x, rfl⟩ : ∃ x, l1 = [x] := List.length_eq_one_iff.1 (by omega)
          obtain ⟨y, rfl⟩ : ∃ y, l2 = [y] := List.length_eq_one_iff.1 (by omega)
          have r1 : rd_T34 (List.map (tokS a) [x]) 0 = tokS a x := rfl
          have r2 : rd_T34 (List.map (tokS b) [y]) 0 = tokS b y := rfl
          have f1 : (tokS a x).f0 = (x.1 : Int) := rfl
          have f2 : (tokS b y).f0 = (y.1 : Int) := rfl
          rw [if_pos (by omega), r1]
          by_cases t1 : (tokS a x).f1.toList = a.toList
          · rw [if_pos t1, if_pos (by omega), r2]
            by_cases t2 : (tokS b y).f1.toList = b.toList
            · rw [if_pos t2, f1, f2]
              obtain ⟨p1, p2, p3, p4⟩ := one_next h1 t1
              obtain ⟨q1, q2, q3, q4⟩ := one_next h2 t2
              by_cases c1 : (x.1 : Int) = 4
              · rw [if_pos c1, longer_t1]
              · rw [if_neg c1]
                by_cases c2 : (y.1 : Int) = 4
                · rw [if_pos c2, longer_t1]
                · rw [if_neg c2]
                  have hb3 : 0 < b.size := by
                    rw [← data_length]
                    cases hl : b.data.toList with
                    | nil => rw [hl] at q1; cases q1
                    | cons e t => simp
                  rw [if_pos (by omega)]
                  by_cases d1 : bt b 0 = 45
                  · rw [if_pos d1, longer_t1]
                  · rw [if_neg d1]
                    by_cases d2 : bt b 0 = 35
                    · rw [beq_iff_eq.2 d2, longer_t1]
                    · rw [beq_eq_false_iff_ne.2 d2]
                      exact longer_main k a b ha hb x y p1 q1 (by omega) (by omega) p2 t1 d1 d2 hb3
            · rw [if_neg t2, longer_t1]
          · rw [if_neg t1, longer_t1]
        · rw [if_neg n2, longer_t1]
      · rw [if_neg n1, longer_t1]
theorem pureLexLonger (a : ByteArray) (ha : a.size ≤ maxLen) (b : ByteArray) (hb : b.size ≤ maxLen) : ∃ k, antecedentlaw07_LexLonger.f k a b = some true := by
  refine ⟨0 + 1 + 1 + 1, ?_⟩
  unfold antecedentlaw07_LexLonger.f
  rw [awake_true]
  simp only [Option.bind_some, if_true]
  by_cases h1 : (a.size : Int) > 100
  · rw [if_pos h1, longer_t0]
  · rw [if_neg h1]
    by_cases h2 : (b.size : Int) > 100
    · rw [decide_eq_true h2, longer_t0]
    · rw [decide_eq_false h2]
      exact longer_j0 0 a b (by omega) (by omega)
end Go.Proofs.YthebhbomlllpeaaDoor.X
namespace Go.Proofs.YthebhbomlllpeaaDoor.lexLonger
set_option linter.unusedVariables false
set_option linter.unusedSimpArgs false
open Go.ChangeShapes Go.WideShapes Go.ChangeAt Go.RowKit Go.Proofs.YthebhbomlllpeaaDoor.X
open Go.ChangeMaps (open_string shut_string)
set_option maxRecDepth 100000 in
/-- WHAT THE WALK AND THE PURE STATEMENT GIVE, FOR EVERY ARGUMENT. -/
theorem contract (H : Type) (enc : TypeId × Value → H) (W : World) (base : Nat) (args : Array Value) (ds gs : List (DataW H)) (before : List MemPlace)
    (hval : ∀ (j : Nat) t v, Tryd.f8.params[j]? = some t → args[j]? = some v → Value.okWide Tryd.prog W .any base t v)
    (hW : DataW.Whole enc Tryd.prog Tryd.f8.params.toList Rows.lexLongerSpec.vars false W args.toList ds gs before) (hL : laidMetH Tryd.prog Rows.lexLongerRow.laid W) :
    Calls Tryd.prog 8 args W fun e W' => ∃ v, e = .returned v ∧ Rows.lexLongerSpec.post enc Tryd.prog Tryd.f8 false true false false W args v W' := by
  have hW' := hW
  obtain ⟨p, q, hA0, hV, rfl, hfz, hnd⟩ := hW
  have hA : DataW.TrodAll enc Tryd.prog W 0 (fun _ => true) true Tryd.f8.params.toList args.toList ds p := hA0
  rw [Tryd.params8] at hA hval
  obtain ⟨v0, vs0, d0, ds0, p0, q0, hargs, rfl, rfl, h0, r0⟩ := trodAll_cons hA
  obtain ⟨v1, vs1, d1, ds1, p1, q1, rfl, rfl, rfl, h1, r1⟩ := trodAll_cons r0
  obtain ⟨rfl, rfl, rfl⟩ := trodAll_nil r1
  obtain rfl : args = #[v0, v1] := by cases args; simp_all
  obtain ⟨rfl, rfl⟩ := trodVars_none hV
  have lt0 : ∀ x ∈ p0, x.block < W.heap.size := by obtain ⟨m, hm⟩ := h0; exact DataW.trod_lt m _ _ _ hm
  have g0 := h0
  obtain ⟨x0, rfl, rfl, rfl, hb0⟩ := open_string Tryd.underlying9 (hval 0 9 v0 rfl rfl) h0
  have lt1 : ∀ x ∈ p1, x.block < W.heap.size := by obtain ⟨m, hm⟩ := h1; exact DataW.trod_lt m _ _ _ hm
  have g1 := h1
  obtain ⟨x1, rfl, rfl, rfl, hb1⟩ := open_string Tryd.underlying9 (hval 1 9 v1 rfl rfl) h1
  clear hA0
  simp only [List.append_nil] at hW'
  obtain ⟨k, hk⟩ := pureLexLonger x0 hb0 x1 hb1
  refine (antecedentlaw07_LexLonger.calls k x0 x1 true W (laidW_of hL)  hk).mono ?_
  rintro e W' ⟨rfl, bel⟩
  exact ⟨_, rfl, _, _, _, [], _, [], hW', trodAll_mk1 (shut_bool Tryd.underlying4 _), (trodAll_cons_mk (shut_string Tryd.underlying9 hb0) (trodAll_cons_mk (shut_string Tryd.underlying9 hb1) trodAll_mk0)), rfl, bel.frame _, fun h => by cases h⟩
theorem reads (os : Os) {H : Type} (enc : TypeId × Value → H) : ∃ places, DataW.whole enc Tryd.prog ((laidWorld os).forCall (fun _ _ => 0) ⟨#[], #[.string ⟨#[]⟩, .string ⟨#[]⟩], []⟩).memory Tryd.f8.params.toList Rows.lexLongerSpec.vars false (#[.string ⟨#[]⟩, .string ⟨#[]⟩] : Array Value).toList 8 = some ([.lit (.string []), .lit (.string [])], [], places) :=
  ⟨[], by kernel_rfl⟩
set_option maxRecDepth 100000 in
theorem lifted (os : Os) (started : os.Started) (H : Type) (enc : TypeId × Value → H) (F : Stop.Interp) :
    ReturnsInHanded {} Tryd.checked os 8 .any ((OpenSpec.ofChange Rows.lexLongerSpec).preRow enc Tryd.prog Tryd.f8 Rows.lexLongerRow.domain false Rows.lexLongerRow.laid) (((OpenSpec.ofChange Rows.lexLongerSpec).at F).post enc Tryd.prog Tryd.f8 false true false false) := by
  obtain ⟨places, hx⟩ := reads os enc
  refine returnsInHanded_of_row (C := Tryd.checked) (s := OpenSpec.ofChange Rows.lexLongerSpec) own started (by kernel_rfl) Tryd.func8
    (witness_row_at (enc := enc) (C := Tryd.checked) false (laidWorld os) #[.string ⟨#[]⟩, .string ⟨#[]⟩] rfl (by kernel_rfl) (by kernel_rfl) (by kernel_rfl)
      (OpenSpec.preRow_of_cond 8 hx (by kernel_rfl) (fun k hk => by cases hk) (by kernel_rfl) (laid_met os _))) ?_
  intro W base args ds gs before hval hW _ _ _ hL _ _
  exact contract H enc W base args ds gs before hval hW hL
theorem said : Rows.LexLongerSaid :=
  OpenClaim.holds_of_cond 8 Tryd.f8 rfl rfl rfl rfl rfl rfl rfl ⟨rfl, rfl, rfl, rfl, rfl⟩ rfl rfl rfl rfl rfl (by kernel_rfl) Tryd.func8 (by kernel_rfl)
    (of_decide_eq_true (by kernel_rfl)) (by unfold Func.isWrapper; first | (rw [if_pos (by decide +kernel)]; kernel_rfl) | (rw [if_neg (by decide +kernel)]; exact ⟨rfl, rfl⟩))
    (fun os started H enc _ F => by rw [OpenClaim.pre_eq_preRow]; exact lifted os started H enc F)
theorem plain (f : FuncId) (fn : Func) (hf : Tryd.pinned.checked.prog.funcNamed "antecedent/antecedentlaw07.LexLonger" = some f) (hfn : Tryd.pinned.checked.prog.funcs[f]? = some fn) :
    true = Tryd.pinned.checked.prog.looks [] ∧ ∀ (j : Nat) t, fn.params[j]? = some t → Tryd.pinned.checked.prog.wantsStandIn t = false := by
  obtain rfl : f = 8 := Option.some.inj ((show Tryd.prog.funcNamed "antecedent/antecedentlaw07.LexLonger" = some 8 by kernel_rfl).symm.trans hf) |>.symm
  obtain rfl : fn = Tryd.f8 := (Option.some.inj (Tryd.func8.symm.trans hfn)).symm
  refine ⟨by kernel_rfl, fun j t ht => ?_⟩
  rw [Tryd.params8] at ht
  have hm : t ∈ [9, 9] := by simpa using Array.mem_of_getElem? ht
  have hall : ([9, 9].all fun u => !Tryd.prog.wantsStandIn u) = true := by kernel_rfl
  exact (show Tryd.prog.wantsStandIn t = false by simpa using List.all_eq_true.1 hall t hm)
theorem card : Rows.LexLongerCardSaid :=
  Claim7.holds_tied_plain_at .later [] _ _ _ _ said (fun _ h => by cases h) (by kernel_rfl) (fun _ h => by cases h) lexLonger_row_tie rfl ⟨rfl, rfl⟩ (by kernel_rfl) rfl plain (by kernel_rfl)
end Go.Proofs.YthebhbomlllpeaaDoor.lexLonger
namespace Go.Proofs.YthebhbomlllpeaaDoor
/-- The card, under a short name, for the claim. -/
theorem lexLonger_holds : Rows.LexLongerCardSaid := lexLonger.card
#print axioms lexLonger_holds
end Go.Proofs.YthebhbomlllpeaaDoor
