/-
  The statement LexTells, for every input.
-/
import Derived.Test.YthebhbomlllpeaaDoorCards
import Derived.Test.YthebhbomlllpeaaDoorTie
import Derived.Test.YthebhbomlllpeaaDoorProg
import Derived.Below
import Derived.Deep.Draws
import Derived.Deep.AppendLies
import Derived.Maps.AppendAt
import Derived.OwnWalk
import Derived.Laws.BytesArg
import Derived.Laws.MakeOwn
import Derived.Laws.OwnMore
import Derived.Deep.OwnRows
import Derived.Tactics
import Derived.Lib.ConvBytes
import Derived.Laws.Slices
import Derived.WalkKit
import Derived.KernelRfl
import Derived.RowKit3
import Derived.Deep.LoopGhost
import Derived.Deep.QuietTactic
import Derived.BigQuiet
import Derived.WideLaws
import Derived.Deep.DeepCutAuto
import Derived.Deep.CutBlock
import Derived.Deep.RegionHeld3
import Derived.Laws.Rows
import Derived.Lib.AppendStr
import Derived.ArgAppend
import Derived.Laws.IdiomCopy
import Derived.OrdersHeld
import Derived.Laws.BitsLemmas
import Derived.RowKit
import Derived.Lib.SmallJoins
import Derived.Lib.ItoaMem
import Derived.Test.YthebhbomlllpeaaDoorWWords
import Derived.Test.YthebhbomlllpeaaDoorWLast
import Derived.Test.YthebhbomlllpeaaDoorWTab
import Derived.Test.YthebhbomlllpeaaDoorWFour
import Derived.Test.YthebhbomlllpeaaDoorWQPut
import Derived.Test.YthebhbomlllpeaaDoorWApart
import Derived.Test.YthebhbomlllpeaaDoorWArr
import Derived.Test.YthebhbomlllpeaaDoorWZeros
import Derived.Test.YthebhbomlllpeaaDoorWFoot
import Derived.Test.YthebhbomlllpeaaDoorWKept
import Derived.Test.YthebhbomlllpeaaDoorWShare
import Derived.Test.YthebhbomlllpeaaDoorWN
import Derived.Test.YthebhbomlllpeaaDoorWFootNe
import Derived.Test.YthebhbomlllpeaaDoorWAt
import Derived.Test.YthebhbomlllpeaaDoorWEqStruct
import Derived.Test.YthebhbomlllpeaaDoorWRepsOne
import Derived.Test.YthebhbomlllpeaaDoorWInv
import Derived.Test.YthebhbomlllpeaaDoorWInvWords
import Derived.Test.YthebhbomlllpeaaDoorWGuard
import Derived.Test.YthebhbomlllpeaaDoorWNEv
import Derived.Test.YthebhbomlllpeaaDoorWMore
import Derived.Test.YthebhbomlllpeaaDoorRows
import Derived.Deep.Slices
import Derived.Deep.Fields
import Derived.ChangeSame
import Derived.ProofKit
import Derived.OpenShut
import Derived.Deep.DeepHandedRow
import Derived.Lib.LaidTab
import Derived.LaidMore
import Derived.Stop.LaidErr
import Derived.MakeChecks
import Derived.Shelf.Strings.Builder1
import Derived.Shelf.Strings.Builder2
import Derived.Shelf.Strings.OnBuilder
import Derived.Shelf.Small.Strs
import Derived.Shelf.Small.Wraps
import Derived.Shelf.Strings.BuilderF
import Derived.Shelf.Strings.BuilderK
import Derived.Shelf.Strings.Builder2Cap
import Derived.Shelf.Strconv.Itoa0
import Derived.Shelf.Strconv.Itoa1
import Derived.Shelf.LaysM
import Derived.Shelf.Strconv.Itoa2
import Derived.Shelf.Strconv.Itoa3
import Derived.Shelf.Strconv.Itoa4
import Derived.Shelf.Strconv.ParseIntEmpty
import Derived.Shelf.Strconv.Clone
import Derived.Shelf.Strconv.SyntaxError
import Derived.Shelf.LaysC
import Derived.Shelf.Strconv.ToError
import Derived.Shelf.Strconv.Lower
import Derived.Shelf.Strconv.ParseUint10
import Derived.Shelf.Strconv.ParseUint10Empty
import Derived.Shelf.Strconv.ParseUint10Any
import Derived.Shelf.Strconv.ParseInt10
import Derived.Shelf.Strconv.RangeError
import Derived.Shelf.Strconv.ToErrorRange
import Derived.Shelf.Strconv.ParseUintEmpty
import Derived.Shelf.Strconv.ParseUint10b64
import Derived.Shelf.Strconv.ParseUint10b32
import Derived.Shelf.Strconv.ParseUint10b16
import Derived.Shelf.Strconv.ParseUint10b8
import Derived.Shelf.Strconv.ParseUint10At
import Derived.Shelf.Strconv.ParseInt10At64
import Derived.Shelf.Strconv.ParseInt10At32
import Derived.Shelf.Strconv.ParseInt10At16
import Derived.Shelf.Strconv.ParseInt10At8
import Derived.Shelf.Strconv.ParseInt10All
import Derived.Shelf.Strconv.ParseIntPublic10
import Derived.Shelf.Strconv.ErrVarParseInt
import Derived.Ground.MpProg
import Derived.Shelf.Pu.ParseUintPublic10
import Derived.Shelf.Pu.ErrVarParseUint
import Derived.Shelf.Strings.Search1
import Derived.Shelf.Strings.Prefix
import Derived.Shelf.Bits.Mul64
import Derived.Shelf.Strings.Repeat
import Derived.Shelf.Strings.BuilderCap
import Derived.Laws.NewBlocks
import Derived.Lib.AtoiAllMem
import Derived.Lib.ParseIntB
import Derived.Lib.Hide
import Derived.Laws.Strings3
import Derived.Laws.Closers25
import Derived.Laws.Closers25b
import Derived.BigCall
import Derived.BigGuard
import Derived.Laws.RangeAny
import Derived.Laws.RangeString
import Derived.Lib.ParseIntBTie
import Init
import Derived.Recover
import Derived.WalkLawsBesides
import Derived.Test.YthebhbomlllpeaaDoorZLexTells3
namespace Go.Proofs.YthebhbomlllpeaaDoor.X
open Go.RowKit Go.Proofs.YthebhbomlllpeaaDoorW.PrintWords Go.Proofs.YthebhbomlllpeaaDoorW.PrintLast Go.Proofs.YthebhbomlllpeaaDoorW.PrintMore
attribute [local go_sem] max2_int min2_int max_two min_two max_three min_three max_four min_four
set_option linter.unusedVariables false
set_option linter.unusedSimpArgs false
attribute [local go_sem high] eqA34
def antecedentlaw07_awake.f  : Option (Bool) := (lex_Tokens.f (⟨#[112, 40, 88, 44, 45, 53, 41, 46]⟩ : ByteArray)).bind fun bt112 => (if bt112.2.2 = 0 then (if (bt112.1.length : Int) = 7 then (if 2 < (bt112.1.length : Int) then (if (((rd_T34 bt112.1 2).f0) == 2 && ((((rd_T34 bt112.1 2).f1).toList) == ([88] : List UInt8) && (((rd_T34 bt112.1 2).f2) == 2))) = true then (if 4 < (bt112.1.length : Int) then (if ((rd_T34 bt112.1 4).f1).toList = ([45, 53] : List UInt8) then ((lex_Variable.f (⟨#[88, 49]⟩ : ByteArray)).bind fun t119 => (if t119 = true then ((lex_Key.f (⟨#[119, 97, 108, 107]⟩ : ByteArray)).bind fun t120 => (some t120)) else (some false))) else (some false)) else (none)) else (some false)) else (none)) else (some false)) else (some false))
set_option maxHeartbeats 8000000 in
set_option maxRecDepth 100000 in
theorem antecedentlaw07_awake.calls  (r : Bool) (w : World) (hLW : LaidW w) (h : antecedentlaw07_awake.f  = some r) :
    Calls Tryd.prog 10 #[] w fun e w' => e = .returned (.bool r) ∧ Below w.heap.size w w' := by
  have hu34 := Tryd.underlying34
  have HLW := Aside0.mk hLW
  clear hLW
  have HB := Aside0.mk (Below.refl w.heap.size w)
  have H : ((lex_Tokens.f (⟨#[112, 40, 88, 44, 45, 53, 41, 46]⟩ : ByteArray)).bind fun bt112 => (if bt112.2.2 = 0 then (if (bt112.1.length : Int) = 7 then (if 2 < (bt112.1.length : Int) then (if (((rd_T34 bt112.1 2).f0) == 2 && ((((rd_T34 bt112.1 2).f1).toList) == ([88] : List UInt8) && (((rd_T34 bt112.1 2).f2) == 2))) = true then (if 4 < (bt112.1.length : Int) then (if ((rd_T34 bt112.1 4).f1).toList = ([45, 53] : List UInt8) then ((lex_Variable.f (⟨#[88, 49]⟩ : ByteArray)).bind fun t119 => (if t119 = true then ((lex_Key.f (⟨#[119, 97, 108, 107]⟩ : ByteArray)).bind fun t120 => (some t120)) else (some false))) else (some false)) else (none)) else (some false)) else (none)) else (some false)) else (some false))) = some r := h
  clear h
  replace H := Option.bind_eq_some_iff.mp H
  obtain ⟨⟨t112, t113, t114⟩, A10, H⟩ := H
  replace H : (if t114 = 0 then (if (t112.length : Int) = 7 then (if 2 < (t112.length : Int) then (if (((rd_T34 t112 2).f0) == 2 && ((((rd_T34 t112 2).f1).toList) == ([88] : List UInt8) && (((rd_T34 t112 2).f2) == 2))) = true then (if 4 < (t112.length : Int) then (if ((rd_T34 t112 4).f1).toList = ([45, 53] : List UInt8) then ((lex_Variable.f (⟨#[88, 49]⟩ : ByteArray)).bind fun t119 => (if t119 = true then ((lex_Key.f (⟨#[119, 97, 108, 107]⟩ : ByteArray)).bind fun t120 => (some t120)) else (some false))) else (some false)) else (none)) else (some false)) else (none)) else (some false)) else (some false)) = some r := H
  have A1 := Aside0.mk A10
  clear A10
  by_cases c2 : t114 = 0
  · rw [if_pos c2] at H
    have c2b0 : (t114 == 0) = true := beq_iff_eq.mpr c2
    have c2b1 : (t114 != 0) = false := bne_eq_false_iff_eq.mpr c2
    clear c2
    by_cases c3 : (t112.length : Int) = 7
    · rw [if_pos c3] at H
      have c3b0 : ((t112.length : Int) == 7) = true := beq_iff_eq.mpr c3
      have c3b1 : ((t112.length : Int) != 7) = false := bne_eq_false_iff_eq.mpr c3
      clear c3
      by_cases c4 : 2 < (t112.length : Int)
      · rw [if_pos c4] at H
        have c4b0 : decide (2 < (t112.length : Int)) = true := decide_eq_true c4
        have c4b1 : decide (2 < t112.length) = true := decide_eq_true (by omega)
        clear c4
        by_cases c5 : (((rd_T34 t112 2).f0) == 2 && ((((rd_T34 t112 2).f1).toList) == ([88] : List UInt8) && (((rd_T34 t112 2).f2) == 2))) = true
        · rw [if_pos c5] at H
          have c5b0 : (((rd_T34 t112 2).f0) == 2 && ((((rd_T34 t112 2).f1).toList) == ([88] : List UInt8) && (((rd_T34 t112 2).f2) == 2))) = true := c5
          (try (have c5b1 : decide (((rd_T34 t112 2).f0) = 2 && ((((rd_T34 t112 2).f1).toList) == ([88] : List UInt8) && (((rd_T34 t112 2).f2) == 2))) = true := by simpa using c5))
          (try (have c5b2 : (((rd_T34 t112 2).f0) == 2 && ((((rd_T34 t112 2).f1).toList) == ([88] : List UInt8) && (((rd_T34 t112 2).f2) == 2))) = true := by simpa using c5))
          clear c5
          by_cases c6 : 4 < (t112.length : Int)
          · rw [if_pos c6] at H
            have c6b0 : decide (4 < (t112.length : Int)) = true := decide_eq_true c6
            have c6b1 : decide (4 < t112.length) = true := decide_eq_true (by omega)
            clear c6
            by_cases c7 : ((rd_T34 t112 4).f1).toList = ([45, 53] : List UInt8)
            · rw [if_pos c7] at H
              have c7b0 : (((rd_T34 t112 4).f1).toList == ([45, 53] : List UInt8)) = true := beq_iff_eq.mpr c7
              have c7b1 : (((rd_T34 t112 4).f1).toList != ([45, 53] : List UInt8)) = false := bne_eq_false_iff_eq.mpr c7
              clear c7
              replace H := Option.bind_eq_some_iff.mp H
              obtain ⟨t119, A80, H⟩ := H
              replace H : (if t119 = true then ((lex_Key.f (⟨#[119, 97, 108, 107]⟩ : ByteArray)).bind fun t120 => (some t120)) else (some false)) = some r := H
              have A8 := Aside0.mk A80
              clear A80
              by_cases c9 : t119 = true
              · subst c9
                have H1 : ((lex_Key.f (⟨#[119, 97, 108, 107]⟩ : ByteArray)).bind fun t120 => (some t120)) = some r := by rw [if_pos rfl] at H; exact H
                clear H
                have H := H1
                clear H1
                replace H := Option.bind_eq_some_iff.mp H
                obtain ⟨t120, A100, H⟩ := H
                replace H : (some t120) = some r := H
                have A10 := Aside0.mk A100
                clear A100
                obtain rfl := Option.some.inj H
                go_enter Tryd.func10, Tryd.ntmps10
                go_wp2_with (first | ((with_reducible refine gate_callee (f := 11) rfl ?_); refine goesL_ (some 5) rfl rfl Tryd.func11 (by kernel_rfl) rfl #[.string (⟨#[112, 40, 88, 44, 45, 53, 41, 46]⟩ : ByteArray)] rfl (by (try simp only [List.map_toArray, List.map_cons, List.map_nil]); first | done | rfl | (simp only [List.length_drop, List.length_take]; rfl)) ?_; (with_reducible refine (lex_Tokens.calls (⟨#[112, 40, 88, 44, 45, 53, 41, 46]⟩ : ByteArray) t112 t113 t114 _ ?side1 A1.out).mono ?_); (case side1 => (first | (refine LaidW.below HLW.out ?_; (repeat (first | (with_reducible first | exact HB.out | apply below_alloc | apply pw_below_drewN | apply below_drew1) | exact HB.out)); done) | (repeat (first | exact HLW.out | apply LaidW.drewN | apply LaidW.drew | apply LaidW.alloc)))); rintro e w11 ⟨v115, rfl, ho0, hb⟩; refine ⟨_, rfl, ?_⟩; have n0_ := Aside0.mk (Kd.R_lower ho0 (below_size (by repeat (first | (with_reducible first | exact HB.out | apply below_alloc | apply pw_below_drewN | apply below_drew1) | exact HB.out)))); have n1_ := Aside0.mk (below_step (by repeat (first | (with_reducible first | exact HB.out | apply below_alloc | apply pw_below_drewN | apply below_drew1) | exact HB.out)) hb); clear HB; have HO116 := n0_; have HB := n1_; clear n0_ n1_; (try clear hb); (try clear hb2); (try clear hk); (try clear hi); (try clear ho0); obtain ⟨Ao12, co12, eo12⟩ := Kd.R_slice HO116.out; subst eo12; have p117 : 0 ≤ (2 : Int) := (by omega); have q117 : 2 < (t112.length : Int) := of_decide_eq_true (by first | (with_reducible assumption) | assumption); obtain ⟨ad117, e117, hx117_0, hx117_1, hx117_2⟩ := at_T34 (Kd.R_reads' HO116.out).2.2 2 p117 q117; cases e117; (try simp only [show (2 : Int).toNat = 2 from rfl, Nat.reduceMul, Nat.reduceEqDiff, Go.Addr.add, ↓reduceIte] at hx117_0); (try simp only [show (2 : Int).toNat = 2 from rfl, Nat.reduceMul, Nat.reduceEqDiff, Go.Addr.add, ↓reduceIte] at hx117_1); (try simp only [show (2 : Int).toNat = 2 from rfl, Nat.reduceMul, Nat.reduceEqDiff, Go.Addr.add, ↓reduceIte] at hx117_2); have qi117 : (2 < t112.length) = True := eq_true (by omega); (try rw [show ((2 : Int)).toNat = 2 from rfl] at hx117_0); (try rw [show 2 * 3 = 6 from rfl] at hx117_0); (try rw [show ((2 : Int)).toNat = 2 from rfl] at hx117_1); (try rw [show 2 * 3 = 6 from rfl] at hx117_1); (try rw [show ((2 : Int)).toNat = 2 from rfl] at hx117_2); (try rw [show 2 * 3 = 6 from rfl] at hx117_2); replace p117 := eq_true p117; replace q117 := eq_true q117; have p118 : 0 ≤ (4 : Int) := (by omega); have q118 : 4 < (t112.length : Int) := of_decide_eq_true (by first | (with_reducible assumption) | assumption); obtain ⟨ad118, e118, hx118_0, hx118_1, hx118_2⟩ := at_T34 (Kd.R_reads' HO116.out).2.2 4 p118 q118; obtain rfl : ad117 = ad118 := (by injection e118); (try simp only [show (4 : Int).toNat = 4 from rfl, Nat.reduceMul, Nat.reduceEqDiff, Go.Addr.add, ↓reduceIte] at hx118_0); (try simp only [show (4 : Int).toNat = 4 from rfl, Nat.reduceMul, Nat.reduceEqDiff, Go.Addr.add, ↓reduceIte] at hx118_1); (try simp only [show (4 : Int).toNat = 4 from rfl, Nat.reduceMul, Nat.reduceEqDiff, Go.Addr.add, ↓reduceIte] at hx118_2); have qi118 : (4 < t112.length) = True := eq_true (by omega); (try rw [show ((4 : Int)).toNat = 4 from rfl] at hx118_0); (try rw [show 4 * 3 = 12 from rfl] at hx118_0); (try rw [show ((4 : Int)).toNat = 4 from rfl] at hx118_1); (try rw [show 4 * 3 = 12 from rfl] at hx118_1); (try rw [show ((4 : Int)).toNat = 4 from rfl] at hx118_2); (try rw [show 4 * 3 = 12 from rfl] at hx118_2); replace p118 := eq_true p118; replace q118 := eq_true q118) | (go_at_call 14; (with_reducible refine (lex_Variable.calls (⟨#[88, 49]⟩ : ByteArray) true _ A8.out).mono ?_); rintro e w' ⟨rfl, ⟨nd, rfl⟩⟩) | (go_at_call 16; (with_reducible refine (lex_Key.calls (⟨#[119, 97, 108, 107]⟩ : ByteArray) t120 _ A10.out).mono ?_); rintro e w' ⟨rfl, ⟨nd, rfl⟩⟩))
                go_ret
                exact ⟨by first | rfl | (simp [errW_none, errW_some] <;> rfl) | (simp [*, errW_none, errW_some] <;> rfl), by repeat (first | (with_reducible first | exact HB.out | apply below_alloc | apply pw_below_drewN | apply below_drew1) | exact HB.out)⟩
              · replace c9 := Bool.eq_false_iff.mpr c9
                subst c9
                have H1 : (some false) = some r := by rw [if_neg (show ¬ (false = true) by decide)] at H; exact H
                clear H
                have H := H1
                clear H1
                obtain rfl := Option.some.inj H
                go_enter Tryd.func10, Tryd.ntmps10
                go_wp2_with (first | ((with_reducible refine gate_callee (f := 11) rfl ?_); refine goesL_ (some 5) rfl rfl Tryd.func11 (by kernel_rfl) rfl #[.string (⟨#[112, 40, 88, 44, 45, 53, 41, 46]⟩ : ByteArray)] rfl (by (try simp only [List.map_toArray, List.map_cons, List.map_nil]); first | done | rfl | (simp only [List.length_drop, List.length_take]; rfl)) ?_; (with_reducible refine (lex_Tokens.calls (⟨#[112, 40, 88, 44, 45, 53, 41, 46]⟩ : ByteArray) t112 t113 t114 _ ?side1 A1.out).mono ?_); (case side1 => (first | (refine LaidW.below HLW.out ?_; (repeat (first | (with_reducible first | exact HB.out | apply below_alloc | apply pw_below_drewN | apply below_drew1) | exact HB.out)); done) | (repeat (first | exact HLW.out | apply LaidW.drewN | apply LaidW.drew | apply LaidW.alloc)))); rintro e w13 ⟨v115, rfl, ho0, hb⟩; refine ⟨_, rfl, ?_⟩; have n0_ := Aside0.mk (Kd.R_lower ho0 (below_size (by repeat (first | (with_reducible first | exact HB.out | apply below_alloc | apply pw_below_drewN | apply below_drew1) | exact HB.out)))); have n1_ := Aside0.mk (below_step (by repeat (first | (with_reducible first | exact HB.out | apply below_alloc | apply pw_below_drewN | apply below_drew1) | exact HB.out)) hb); clear HB; have HO116 := n0_; have HB := n1_; clear n0_ n1_; (try clear hb); (try clear hb2); (try clear hk); (try clear hi); (try clear ho0); obtain ⟨Ao14, co14, eo14⟩ := Kd.R_slice HO116.out; subst eo14; have p117 : 0 ≤ (2 : Int) := (by omega); have q117 : 2 < (t112.length : Int) := of_decide_eq_true (by first | (with_reducible assumption) | assumption); obtain ⟨ad117, e117, hx117_0, hx117_1, hx117_2⟩ := at_T34 (Kd.R_reads' HO116.out).2.2 2 p117 q117; cases e117; (try simp only [show (2 : Int).toNat = 2 from rfl, Nat.reduceMul, Nat.reduceEqDiff, Go.Addr.add, ↓reduceIte] at hx117_0); (try simp only [show (2 : Int).toNat = 2 from rfl, Nat.reduceMul, Nat.reduceEqDiff, Go.Addr.add, ↓reduceIte] at hx117_1); (try simp only [show (2 : Int).toNat = 2 from rfl, Nat.reduceMul, Nat.reduceEqDiff, Go.Addr.add, ↓reduceIte] at hx117_2); have qi117 : (2 < t112.length) = True := eq_true (by omega); (try rw [show ((2 : Int)).toNat = 2 from rfl] at hx117_0); (try rw [show 2 * 3 = 6 from rfl] at hx117_0); (try rw [show ((2 : Int)).toNat = 2 from rfl] at hx117_1); (try rw [show 2 * 3 = 6 from rfl] at hx117_1); (try rw [show ((2 : Int)).toNat = 2 from rfl] at hx117_2); (try rw [show 2 * 3 = 6 from rfl] at hx117_2); replace p117 := eq_true p117; replace q117 := eq_true q117; have p118 : 0 ≤ (4 : Int) := (by omega); have q118 : 4 < (t112.length : Int) := of_decide_eq_true (by first | (with_reducible assumption) | assumption); obtain ⟨ad118, e118, hx118_0, hx118_1, hx118_2⟩ := at_T34 (Kd.R_reads' HO116.out).2.2 4 p118 q118; obtain rfl : ad117 = ad118 := (by injection e118); (try simp only [show (4 : Int).toNat = 4 from rfl, Nat.reduceMul, Nat.reduceEqDiff, Go.Addr.add, ↓reduceIte] at hx118_0); (try simp only [show (4 : Int).toNat = 4 from rfl, Nat.reduceMul, Nat.reduceEqDiff, Go.Addr.add, ↓reduceIte] at hx118_1); (try simp only [show (4 : Int).toNat = 4 from rfl, Nat.reduceMul, Nat.reduceEqDiff, Go.Addr.add, ↓reduceIte] at hx118_2); have qi118 : (4 < t112.length) = True := eq_true (by omega); (try rw [show ((4 : Int)).toNat = 4 from rfl] at hx118_0); (try rw [show 4 * 3 = 12 from rfl] at hx118_0); (try rw [show ((4 : Int)).toNat = 4 from rfl] at hx118_1); (try rw [show 4 * 3 = 12 from rfl] at hx118_1); (try rw [show ((4 : Int)).toNat = 4 from rfl] at hx118_2); (try rw [show 4 * 3 = 12 from rfl] at hx118_2); replace p118 := eq_true p118; replace q118 := eq_true q118) | (go_at_call 14; (with_reducible refine (lex_Variable.calls (⟨#[88, 49]⟩ : ByteArray) false _ A8.out).mono ?_); rintro e w' ⟨rfl, ⟨nd, rfl⟩⟩))
                go_ret
                exact ⟨by first | rfl | (simp [errW_none, errW_some] <;> rfl) | (simp [*, errW_none, errW_some] <;> rfl), by repeat (first | (with_reducible first | exact HB.out | apply below_alloc | apply pw_below_drewN | apply below_drew1) | exact HB.out)⟩
            · rw [if_neg c7] at H
              have c7b0 : (((rd_T34 t112 4).f1).toList == ([45, 53] : List UInt8)) = false := beq_eq_false_iff_ne.mpr c7
              have c7b1 : (((rd_T34 t112 4).f1).toList != ([45, 53] : List UInt8)) = true := bne_iff_ne.mpr c7
              obtain rfl := Option.some.inj H
              go_enter Tryd.func10, Tryd.ntmps10
              go_wp2_with (first | ((with_reducible refine gate_callee (f := 11) rfl ?_); refine goesL_ (some 5) rfl rfl Tryd.func11 (by kernel_rfl) rfl #[.string (⟨#[112, 40, 88, 44, 45, 53, 41, 46]⟩ : ByteArray)] rfl (by (try simp only [List.map_toArray, List.map_cons, List.map_nil]); first | done | rfl | (simp only [List.length_drop, List.length_take]; rfl)) ?_; (with_reducible refine (lex_Tokens.calls (⟨#[112, 40, 88, 44, 45, 53, 41, 46]⟩ : ByteArray) t112 t113 t114 _ ?side1 A1.out).mono ?_); (case side1 => (first | (refine LaidW.below HLW.out ?_; (repeat (first | (with_reducible first | exact HB.out | apply below_alloc | apply pw_below_drewN | apply below_drew1) | exact HB.out)); done) | (repeat (first | exact HLW.out | apply LaidW.drewN | apply LaidW.drew | apply LaidW.alloc)))); rintro e w15 ⟨v115, rfl, ho0, hb⟩; refine ⟨_, rfl, ?_⟩; have n0_ := Aside0.mk (Kd.R_lower ho0 (below_size (by repeat (first | (with_reducible first | exact HB.out | apply below_alloc | apply pw_below_drewN | apply below_drew1) | exact HB.out)))); have n1_ := Aside0.mk (below_step (by repeat (first | (with_reducible first | exact HB.out | apply below_alloc | apply pw_below_drewN | apply below_drew1) | exact HB.out)) hb); clear HB; have HO116 := n0_; have HB := n1_; clear n0_ n1_; (try clear hb); (try clear hb2); (try clear hk); (try clear hi); (try clear ho0); obtain ⟨Ao16, co16, eo16⟩ := Kd.R_slice HO116.out; subst eo16; have p117 : 0 ≤ (2 : Int) := (by omega); have q117 : 2 < (t112.length : Int) := of_decide_eq_true (by first | (with_reducible assumption) | assumption); obtain ⟨ad117, e117, hx117_0, hx117_1, hx117_2⟩ := at_T34 (Kd.R_reads' HO116.out).2.2 2 p117 q117; cases e117; (try simp only [show (2 : Int).toNat = 2 from rfl, Nat.reduceMul, Nat.reduceEqDiff, Go.Addr.add, ↓reduceIte] at hx117_0); (try simp only [show (2 : Int).toNat = 2 from rfl, Nat.reduceMul, Nat.reduceEqDiff, Go.Addr.add, ↓reduceIte] at hx117_1); (try simp only [show (2 : Int).toNat = 2 from rfl, Nat.reduceMul, Nat.reduceEqDiff, Go.Addr.add, ↓reduceIte] at hx117_2); have qi117 : (2 < t112.length) = True := eq_true (by omega); (try rw [show ((2 : Int)).toNat = 2 from rfl] at hx117_0); (try rw [show 2 * 3 = 6 from rfl] at hx117_0); (try rw [show ((2 : Int)).toNat = 2 from rfl] at hx117_1); (try rw [show 2 * 3 = 6 from rfl] at hx117_1); (try rw [show ((2 : Int)).toNat = 2 from rfl] at hx117_2); (try rw [show 2 * 3 = 6 from rfl] at hx117_2); replace p117 := eq_true p117; replace q117 := eq_true q117; have p118 : 0 ≤ (4 : Int) := (by omega); have q118 : 4 < (t112.length : Int) := of_decide_eq_true (by first | (with_reducible assumption) | assumption); obtain ⟨ad118, e118, hx118_0, hx118_1, hx118_2⟩ := at_T34 (Kd.R_reads' HO116.out).2.2 4 p118 q118; obtain rfl : ad117 = ad118 := (by injection e118); (try simp only [show (4 : Int).toNat = 4 from rfl, Nat.reduceMul, Nat.reduceEqDiff, Go.Addr.add, ↓reduceIte] at hx118_0); (try simp only [show (4 : Int).toNat = 4 from rfl, Nat.reduceMul, Nat.reduceEqDiff, Go.Addr.add, ↓reduceIte] at hx118_1); (try simp only [show (4 : Int).toNat = 4 from rfl, Nat.reduceMul, Nat.reduceEqDiff, Go.Addr.add, ↓reduceIte] at hx118_2); have qi118 : (4 < t112.length) = True := eq_true (by omega); (try rw [show ((4 : Int)).toNat = 4 from rfl] at hx118_0); (try rw [show 4 * 3 = 12 from rfl] at hx118_0); (try rw [show ((4 : Int)).toNat = 4 from rfl] at hx118_1); (try rw [show 4 * 3 = 12 from rfl] at hx118_1); (try rw [show ((4 : Int)).toNat = 4 from rfl] at hx118_2); (try rw [show 4 * 3 = 12 from rfl] at hx118_2); replace p118 := eq_true p118; replace q118 := eq_true q118))
              go_ret
              exact ⟨by first | rfl | (simp [errW_none, errW_some] <;> rfl) | (simp [*, errW_none, errW_some] <;> rfl), by repeat (first | (with_reducible first | exact HB.out | apply below_alloc | apply pw_below_drewN | apply below_drew1) | exact HB.out)⟩
          · rw [if_neg c6] at H
            exact absurd H (by simp)
        · rw [if_neg c5] at H
          have c5b0 : (((rd_T34 t112 2).f0) == 2 && ((((rd_T34 t112 2).f1).toList) == ([88] : List UInt8) && (((rd_T34 t112 2).f2) == 2))) = false := by simpa using c5
          (try (have c5b1 : decide (((rd_T34 t112 2).f0) = 2 && ((((rd_T34 t112 2).f1).toList) == ([88] : List UInt8) && (((rd_T34 t112 2).f2) == 2))) = false := by simpa using c5))
          (try (have c5b2 : (((rd_T34 t112 2).f0) == 2 && ((((rd_T34 t112 2).f1).toList) == ([88] : List UInt8) && (((rd_T34 t112 2).f2) == 2))) = false := by simpa using c5))
          (try (have c5b3 : ¬ (((rd_T34 t112 2).f0) = 2 && ((((rd_T34 t112 2).f1).toList) == ([88] : List UInt8) && (((rd_T34 t112 2).f2) == 2))) := by simpa using c5))
          clear c5
          obtain rfl := Option.some.inj H
          go_enter Tryd.func10, Tryd.ntmps10
          go_wp2_with (first | ((with_reducible refine gate_callee (f := 11) rfl ?_); refine goesL_ (some 5) rfl rfl Tryd.func11 (by kernel_rfl) rfl #[.string (⟨#[112, 40, 88, 44, 45, 53, 41, 46]⟩ : ByteArray)] rfl (by (try simp only [List.map_toArray, List.map_cons, List.map_nil]); first | done | rfl | (simp only [List.length_drop, List.length_take]; rfl)) ?_; (with_reducible refine (lex_Tokens.calls (⟨#[112, 40, 88, 44, 45, 53, 41, 46]⟩ : ByteArray) t112 t113 t114 _ ?side1 A1.out).mono ?_); (case side1 => (first | (refine LaidW.below HLW.out ?_; (repeat (first | (with_reducible first | exact HB.out | apply below_alloc | apply pw_below_drewN | apply below_drew1) | exact HB.out)); done) | (repeat (first | exact HLW.out | apply LaidW.drewN | apply LaidW.drew | apply LaidW.alloc)))); rintro e w17 ⟨v115, rfl, ho0, hb⟩; refine ⟨_, rfl, ?_⟩; have n0_ := Aside0.mk (Kd.R_lower ho0 (below_size (by repeat (first | (with_reducible first | exact HB.out | apply below_alloc | apply pw_below_drewN | apply below_drew1) | exact HB.out)))); have n1_ := Aside0.mk (below_step (by repeat (first | (with_reducible first | exact HB.out | apply below_alloc | apply pw_below_drewN | apply below_drew1) | exact HB.out)) hb); clear HB; have HO116 := n0_; have HB := n1_; clear n0_ n1_; (try clear hb); (try clear hb2); (try clear hk); (try clear hi); (try clear ho0); obtain ⟨Ao18, co18, eo18⟩ := Kd.R_slice HO116.out; subst eo18; have p117 : 0 ≤ (2 : Int) := (by omega); have q117 : 2 < (t112.length : Int) := of_decide_eq_true (by first | (with_reducible assumption) | assumption); obtain ⟨ad117, e117, hx117_0, hx117_1, hx117_2⟩ := at_T34 (Kd.R_reads' HO116.out).2.2 2 p117 q117; cases e117; (try simp only [show (2 : Int).toNat = 2 from rfl, Nat.reduceMul, Nat.reduceEqDiff, Go.Addr.add, ↓reduceIte] at hx117_0); (try simp only [show (2 : Int).toNat = 2 from rfl, Nat.reduceMul, Nat.reduceEqDiff, Go.Addr.add, ↓reduceIte] at hx117_1); (try simp only [show (2 : Int).toNat = 2 from rfl, Nat.reduceMul, Nat.reduceEqDiff, Go.Addr.add, ↓reduceIte] at hx117_2); have qi117 : (2 < t112.length) = True := eq_true (by omega); (try rw [show ((2 : Int)).toNat = 2 from rfl] at hx117_0); (try rw [show 2 * 3 = 6 from rfl] at hx117_0); (try rw [show ((2 : Int)).toNat = 2 from rfl] at hx117_1); (try rw [show 2 * 3 = 6 from rfl] at hx117_1); (try rw [show ((2 : Int)).toNat = 2 from rfl] at hx117_2); (try rw [show 2 * 3 = 6 from rfl] at hx117_2); replace p117 := eq_true p117; replace q117 := eq_true q117))
          go_ret
          exact ⟨by first | rfl | (simp [errW_none, errW_some] <;> rfl) | (simp [*, errW_none, errW_some] <;> rfl), by repeat (first | (with_reducible first | exact HB.out | apply below_alloc | apply pw_below_drewN | apply below_drew1) | exact HB.out)⟩
      · rw [if_neg c4] at H
        exact absurd H (by simp)
    · rw [if_neg c3] at H
      have c3b0 : ((t112.length : Int) == 7) = false := beq_eq_false_iff_ne.mpr c3
      have c3b1 : ((t112.length : Int) != 7) = true := bne_iff_ne.mpr c3
      obtain rfl := Option.some.inj H
      go_enter Tryd.func10, Tryd.ntmps10
      go_wp2_with (first | ((with_reducible refine gate_callee (f := 11) rfl ?_); refine goesL_ (some 5) rfl rfl Tryd.func11 (by kernel_rfl) rfl #[.string (⟨#[112, 40, 88, 44, 45, 53, 41, 46]⟩ : ByteArray)] rfl (by (try simp only [List.map_toArray, List.map_cons, List.map_nil]); first | done | rfl | (simp only [List.length_drop, List.length_take]; rfl)) ?_; (with_reducible refine (lex_Tokens.calls (⟨#[112, 40, 88, 44, 45, 53, 41, 46]⟩ : ByteArray) t112 t113 t114 _ ?side1 A1.out).mono ?_); (case side1 => (first | (refine LaidW.below HLW.out ?_; (repeat (first | (with_reducible first | exact HB.out | apply below_alloc | apply pw_below_drewN | apply below_drew1) | exact HB.out)); done) | (repeat (first | exact HLW.out | apply LaidW.drewN | apply LaidW.drew | apply LaidW.alloc)))); rintro e w19 ⟨v115, rfl, ho0, hb⟩; refine ⟨_, rfl, ?_⟩; have n0_ := Aside0.mk (Kd.R_lower ho0 (below_size (by repeat (first | (with_reducible first | exact HB.out | apply below_alloc | apply pw_below_drewN | apply below_drew1) | exact HB.out)))); have n1_ := Aside0.mk (below_step (by repeat (first | (with_reducible first | exact HB.out | apply below_alloc | apply pw_below_drewN | apply below_drew1) | exact HB.out)) hb); clear HB; have HO116 := n0_; have HB := n1_; clear n0_ n1_; (try clear hb); (try clear hb2); (try clear hk); (try clear hi); (try clear ho0); obtain ⟨Ao20, co20, eo20⟩ := Kd.R_slice HO116.out; subst eo20))
      go_ret
      exact ⟨by first | rfl | (simp [errW_none, errW_some] <;> rfl) | (simp [*, errW_none, errW_some] <;> rfl), by repeat (first | (with_reducible first | exact HB.out | apply below_alloc | apply pw_below_drewN | apply below_drew1) | exact HB.out)⟩
  · rw [if_neg c2] at H
    have c2b0 : (t114 == 0) = false := beq_eq_false_iff_ne.mpr c2
    have c2b1 : (t114 != 0) = true := bne_iff_ne.mpr c2
    obtain rfl := Option.some.inj H
    go_enter Tryd.func10, Tryd.ntmps10
    go_wp2_with (first | ((with_reducible refine gate_callee (f := 11) rfl ?_); refine goesL_ (some 5) rfl rfl Tryd.func11 (by kernel_rfl) rfl #[.string (⟨#[112, 40, 88, 44, 45, 53, 41, 46]⟩ : ByteArray)] rfl (by (try simp only [List.map_toArray, List.map_cons, List.map_nil]); first | done | rfl | (simp only [List.length_drop, List.length_take]; rfl)) ?_; (with_reducible refine (lex_Tokens.calls (⟨#[112, 40, 88, 44, 45, 53, 41, 46]⟩ : ByteArray) t112 t113 t114 _ ?side1 A1.out).mono ?_); (case side1 => (first | (refine LaidW.below HLW.out ?_; (repeat (first | (with_reducible first | exact HB.out | apply below_alloc | apply pw_below_drewN | apply below_drew1) | exact HB.out)); done) | (repeat (first | exact HLW.out | apply LaidW.drewN | apply LaidW.drew | apply LaidW.alloc)))); rintro e w21 ⟨v115, rfl, ho0, hb⟩; refine ⟨_, rfl, ?_⟩; have n0_ := Aside0.mk (Kd.R_lower ho0 (below_size (by repeat (first | (with_reducible first | exact HB.out | apply below_alloc | apply pw_below_drewN | apply below_drew1) | exact HB.out)))); have n1_ := Aside0.mk (below_step (by repeat (first | (with_reducible first | exact HB.out | apply below_alloc | apply pw_below_drewN | apply below_drew1) | exact HB.out)) hb); clear HB; have HO116 := n0_; have HB := n1_; clear n0_ n1_; (try clear hb); (try clear hb2); (try clear hk); (try clear hi); (try clear ho0)))
    go_ret
    exact ⟨by first | rfl | (simp [errW_none, errW_some] <;> rfl) | (simp [*, errW_none, errW_some] <;> rfl), by repeat (first | (with_reducible first | exact HB.out | apply below_alloc | apply pw_below_drewN | apply below_drew1) | exact HB.out)⟩
def antecedentlaw07_LexTells.j0 : Nat → ByteArray → ByteArray → Bool → Option (Bool)
  | 0, _, _, _ => none
  | k + 1, x0, x1, x32 => if x32 = true then ((antecedentlaw07_awake.f).bind fun t173 => (some t173)) else ((lex_Tokens.f x0).bind fun bt174 => ((antecedentref07_Tokens.f k x0).bind fun bt179 => ((antecedentlaw07_same.f k bt174.1 bt179.1).bind fun t184 => (if t184 = true then (if bt174.2.1 = bt179.2.1 then (if bt174.2.2 = bt179.2.2 then ((lex_Variable.f x1).bind fun t185 => ((antecedentref07_Variable.f k x1).bind fun t186 => (if (t185 == t186) = true then ((lex_Key.f x1).bind fun t187 => ((antecedentref07_Key.f k x1).bind fun t188 => (some (t187 == t188)))) else (some false)))) else (some false)) else (some false)) else (some false)))))
def antecedentlaw07_LexTells.f (k : Nat) (a0 : ByteArray) (a1 : ByteArray) : Option (Bool) := (antecedentlaw07_awake.f).bind fun t172 => (if t172 = true then (if (a0.size : Int) > 400 then (if (a0.size : Int) ≤ 20000 then (antecedentlaw07_LexTells.j0 k a0 a1 true) else (if (a0.size : Int) > 40000 then (antecedentlaw07_LexTells.j0 k a0 a1 true) else (antecedentlaw07_LexTells.j0 k a0 a1 (decide ((a1.size : Int) > 100))))) else (if (a0.size : Int) > 40000 then (antecedentlaw07_LexTells.j0 k a0 a1 true) else (antecedentlaw07_LexTells.j0 k a0 a1 (decide ((a1.size : Int) > 100))))) else (antecedentlaw07_LexTells.j0 k a0 a1 true))
set_option maxHeartbeats 8000000 in
set_option maxRecDepth 100000 in
theorem antecedentlaw07_LexTells.calls (k : Nat) (a0 : ByteArray) (a1 : ByteArray) (r : Bool) (w : World) (hLW : LaidW w) (h : antecedentlaw07_LexTells.f k a0 a1 = some r) :
    Calls Tryd.prog 3 #[.string a0, .string a1] w fun e w' => e = .returned (.bool r) ∧ Below w.heap.size w w' := by
  have HLW := Aside0.mk hLW
  clear hLW
  have HB := Aside0.mk (Below.refl w.heap.size w)
  have H : ((antecedentlaw07_awake.f).bind fun t172 => (if t172 = true then (if (a0.size : Int) > 400 then (if (a0.size : Int) ≤ 20000 then (antecedentlaw07_LexTells.j0 k a0 a1 true) else (if (a0.size : Int) > 40000 then (antecedentlaw07_LexTells.j0 k a0 a1 true) else (antecedentlaw07_LexTells.j0 k a0 a1 (decide ((a1.size : Int) > 100))))) else (if (a0.size : Int) > 40000 then (antecedentlaw07_LexTells.j0 k a0 a1 true) else (antecedentlaw07_LexTells.j0 k a0 a1 (decide ((a1.size : Int) > 100))))) else (antecedentlaw07_LexTells.j0 k a0 a1 true))) = some r := h
  clear h
  have HC3 := Aside0.mk H
  clear H
  go_enter Tryd.func3, Tryd.ntmps3
  go_upto_region 1 with (fail)
  go_cut [32] (fun v32 wc => ∃ (kq : Nat) (x32_2 : Bool), v32 = .bool x32_2 ∧ Aside0 (antecedentlaw07_LexTells.j0 kq a0 a1 x32_2 = some r) ∧ Aside0 (kq ≤ k) ∧ Aside0 (Below w.heap.size w wc))
  case first =>
    have H := HC3.out
    clear HC3
    replace H := Option.bind_eq_some_iff.mp H
    obtain ⟨t172, A40, H⟩ := H
    replace H : (if t172 = true then (if (a0.size : Int) > 400 then (if (a0.size : Int) ≤ 20000 then (antecedentlaw07_LexTells.j0 k a0 a1 true) else (if (a0.size : Int) > 40000 then (antecedentlaw07_LexTells.j0 k a0 a1 true) else (antecedentlaw07_LexTells.j0 k a0 a1 (decide ((a1.size : Int) > 100))))) else (if (a0.size : Int) > 40000 then (antecedentlaw07_LexTells.j0 k a0 a1 true) else (antecedentlaw07_LexTells.j0 k a0 a1 (decide ((a1.size : Int) > 100))))) else (antecedentlaw07_LexTells.j0 k a0 a1 true)) = some r := H
    have A4 := Aside0.mk A40
    clear A40
    by_cases c5 : t172 = true
    · subst c5
      have H1 : (if (a0.size : Int) > 400 then (if (a0.size : Int) ≤ 20000 then (antecedentlaw07_LexTells.j0 k a0 a1 true) else (if (a0.size : Int) > 40000 then (antecedentlaw07_LexTells.j0 k a0 a1 true) else (antecedentlaw07_LexTells.j0 k a0 a1 (decide ((a1.size : Int) > 100))))) else (if (a0.size : Int) > 40000 then (antecedentlaw07_LexTells.j0 k a0 a1 true) else (antecedentlaw07_LexTells.j0 k a0 a1 (decide ((a1.size : Int) > 100))))) = some r := by rw [if_pos rfl] at H; exact H
      clear H
      have H := H1
      clear H1
      by_cases c6 : (a0.size : Int) > 400
      · rw [if_pos c6] at H
        have c6b0 : decide (400 < (a0.size : Int)) = true := decide_eq_true c6
        have c6b1 : decide (400 < a0.size) = true := decide_eq_true (by omega)
        clear c6
        (first | rw [c6b0] | (simp only [i64_w, i32_w]; rw [c6b0]) | skip)
        by_cases c7 : (a0.size : Int) ≤ 20000
        · rw [if_pos c7] at H
          have c7b0 : decide ((a0.size : Int) ≤ 20000) = true := decide_eq_true c7
          have c7b1 : decide (a0.size ≤ 20000) = true := decide_eq_true (by omega)
          clear c7
          have H' := Aside0.mk H
          clear H
          go_wp2_with (first | ((with_reducible refine gate_callee (f := 10) rfl ?_); refine goesL_ (some 11) rfl rfl Tryd.func10 (by kernel_rfl) rfl #[] rfl (by (try simp only [List.map_toArray, List.map_cons, List.map_nil]); first | done | rfl | (simp only [List.length_drop, List.length_take]; rfl)) ?_; (with_reducible refine (antecedentlaw07_awake.calls  true _ ?side1 A4.out).mono ?_); (case side1 => (first | (refine LaidW.below HLW.out ?_; (repeat (first | (with_reducible first | exact HB.out | apply below_alloc | apply pw_below_drewN | apply below_drew1) | exact HB.out)); done) | (repeat (first | exact HLW.out | apply LaidW.drewN | apply LaidW.drew | apply LaidW.alloc)))); rintro e w8 ⟨rfl, hb⟩; refine ⟨_, rfl, ?_⟩; have n0_ := Aside0.mk (below_step (by repeat (first | (with_reducible first | exact HB.out | apply below_alloc | apply pw_below_drewN | apply below_drew1) | exact HB.out)) hb); clear HB; have HB := n0_; clear n0_; (try clear hb); (try clear hb2); (try clear hk); (try clear hi)))
          go_meet
          case rel => exact ⟨_, (true), (by first | rfl | (simp; done) | (simp [*]; done)), H', ⟨by first | omega | exact Nat.le_refl _⟩, ⟨by repeat (first | (with_reducible first | exact HB.out | apply below_alloc | apply pw_below_drewN | apply below_drew1) | exact HB.out)⟩⟩
        · rw [if_neg c7] at H
          have c7b0 : decide ((a0.size : Int) ≤ 20000) = false := decide_eq_false c7
          have c7b1 : decide (a0.size ≤ 20000) = false := decide_eq_false (by omega)
          clear c7
          by_cases c9 : (a0.size : Int) > 40000
          · rw [if_pos c9] at H
            have c9b0 : decide (40000 < (a0.size : Int)) = true := decide_eq_true c9
            have c9b1 : decide (40000 < a0.size) = true := decide_eq_true (by omega)
            clear c9
            have H' := Aside0.mk H
            clear H
            go_wp2_with (first | ((with_reducible refine gate_callee (f := 10) rfl ?_); refine goesL_ (some 11) rfl rfl Tryd.func10 (by kernel_rfl) rfl #[] rfl (by (try simp only [List.map_toArray, List.map_cons, List.map_nil]); first | done | rfl | (simp only [List.length_drop, List.length_take]; rfl)) ?_; (with_reducible refine (antecedentlaw07_awake.calls  true _ ?side1 A4.out).mono ?_); (case side1 => (first | (refine LaidW.below HLW.out ?_; (repeat (first | (with_reducible first | exact HB.out | apply below_alloc | apply pw_below_drewN | apply below_drew1) | exact HB.out)); done) | (repeat (first | exact HLW.out | apply LaidW.drewN | apply LaidW.drew | apply LaidW.alloc)))); rintro e w10 ⟨rfl, hb⟩; refine ⟨_, rfl, ?_⟩; have n0_ := Aside0.mk (below_step (by repeat (first | (with_reducible first | exact HB.out | apply below_alloc | apply pw_below_drewN | apply below_drew1) | exact HB.out)) hb); clear HB; have HB := n0_; clear n0_; (try clear hb); (try clear hb2); (try clear hk); (try clear hi)))
            go_meet
            case rel => exact ⟨_, (true), (by first | rfl | (simp; done) | (simp [*]; done)), H', ⟨by first | omega | exact Nat.le_refl _⟩, ⟨by repeat (first | (with_reducible first | exact HB.out | apply below_alloc | apply pw_below_drewN | apply below_drew1) | exact HB.out)⟩⟩
          · rw [if_neg c9] at H
            have c9b0 : decide (40000 < (a0.size : Int)) = false := decide_eq_false c9
            have c9b1 : decide (40000 < a0.size) = false := decide_eq_false (by omega)
            clear c9
            have H' := Aside0.mk H
            clear H
            go_wp2_with (first | ((with_reducible refine gate_callee (f := 10) rfl ?_); refine goesL_ (some 11) rfl rfl Tryd.func10 (by kernel_rfl) rfl #[] rfl (by (try simp only [List.map_toArray, List.map_cons, List.map_nil]); first | done | rfl | (simp only [List.length_drop, List.length_take]; rfl)) ?_; (with_reducible refine (antecedentlaw07_awake.calls  true _ ?side1 A4.out).mono ?_); (case side1 => (first | (refine LaidW.below HLW.out ?_; (repeat (first | (with_reducible first | exact HB.out | apply below_alloc | apply pw_below_drewN | apply below_drew1) | exact HB.out)); done) | (repeat (first | exact HLW.out | apply LaidW.drewN | apply LaidW.drew | apply LaidW.alloc)))); rintro e w11 ⟨rfl, hb⟩; refine ⟨_, rfl, ?_⟩; have n0_ := Aside0.mk (below_step (by repeat (first | (with_reducible first | exact HB.out | apply below_alloc | apply pw_below_drewN | apply below_drew1) | exact HB.out)) hb); clear HB; have HB := n0_; clear n0_; (try clear hb); (try clear hb2); (try clear hk); (try clear hi)))
            go_meet
            case rel => exact ⟨_, (decide ((a1.size : Int) > 100)), (by first | rfl | (simp; done) | (simp [*]; done)), H', ⟨by first | omega | exact Nat.le_refl _⟩, ⟨by repeat (first | (with_reducible first | exact HB.out | apply below_alloc | apply pw_below_drewN | apply below_drew1) | exact HB.out)⟩⟩
      · rw [if_neg c6] at H
        have c6b0 : decide (400 < (a0.size : Int)) = false := decide_eq_false c6
        have c6b1 : decide (400 < a0.size) = false := decide_eq_false (by omega)
        clear c6
        (first | rw [c6b0] | (simp only [i64_w, i32_w]; rw [c6b0]) | skip)
        by_cases c12 : (a0.size : Int) > 40000
        · rw [if_pos c12] at H
          have c12b0 : decide (40000 < (a0.size : Int)) = true := decide_eq_true c12
          have c12b1 : decide (40000 < a0.size) = true := decide_eq_true (by omega)
          clear c12
          have H' := Aside0.mk H
          clear H
          go_wp2_with (first | ((with_reducible refine gate_callee (f := 10) rfl ?_); refine goesL_ (some 11) rfl rfl Tryd.func10 (by kernel_rfl) rfl #[] rfl (by (try simp only [List.map_toArray, List.map_cons, List.map_nil]); first | done | rfl | (simp only [List.length_drop, List.length_take]; rfl)) ?_; (with_reducible refine (antecedentlaw07_awake.calls  true _ ?side1 A4.out).mono ?_); (case side1 => (first | (refine LaidW.below HLW.out ?_; (repeat (first | (with_reducible first | exact HB.out | apply below_alloc | apply pw_below_drewN | apply below_drew1) | exact HB.out)); done) | (repeat (first | exact HLW.out | apply LaidW.drewN | apply LaidW.drew | apply LaidW.alloc)))); rintro e w13 ⟨rfl, hb⟩; refine ⟨_, rfl, ?_⟩; have n0_ := Aside0.mk (below_step (by repeat (first | (with_reducible first | exact HB.out | apply below_alloc | apply pw_below_drewN | apply below_drew1) | exact HB.out)) hb); clear HB; have HB := n0_; clear n0_; (try clear hb); (try clear hb2); (try clear hk); (try clear hi)))
          go_meet
          case rel => exact ⟨_, (true), (by first | rfl | (simp; done) | (simp [*]; done)), H', ⟨by first | omega | exact Nat.le_refl _⟩, ⟨by repeat (first | (with_reducible first | exact HB.out | apply below_alloc | apply pw_below_drewN | apply below_drew1) | exact HB.out)⟩⟩
        · rw [if_neg c12] at H
          have c12b0 : decide (40000 < (a0.size : Int)) = false := decide_eq_false c12
          have c12b1 : decide (40000 < a0.size) = false := decide_eq_false (by omega)
          clear c12
          have H' := Aside0.mk H
          clear H
          go_wp2_with (first | ((with_reducible refine gate_callee (f := 10) rfl ?_); refine goesL_ (some 11) rfl rfl Tryd.func10 (by kernel_rfl) rfl #[] rfl (by (try simp only [List.map_toArray, List.map_cons, List.map_nil]); first | done | rfl | (simp only [List.length_drop, List.length_take]; rfl)) ?_; (with_reducible refine (antecedentlaw07_awake.calls  true _ ?side1 A4.out).mono ?_); (case side1 => (first | (refine LaidW.below HLW.out ?_; (repeat (first | (with_reducible first | exact HB.out | apply below_alloc | apply pw_below_drewN | apply below_drew1) | exact HB.out)); done) | (repeat (first | exact HLW.out | apply LaidW.drewN | apply LaidW.drew | apply LaidW.alloc)))); rintro e w14 ⟨rfl, hb⟩; refine ⟨_, rfl, ?_⟩; have n0_ := Aside0.mk (below_step (by repeat (first | (with_reducible first | exact HB.out | apply below_alloc | apply pw_below_drewN | apply below_drew1) | exact HB.out)) hb); clear HB; have HB := n0_; clear n0_; (try clear hb); (try clear hb2); (try clear hk); (try clear hi)))
          go_meet
          case rel => exact ⟨_, (decide ((a1.size : Int) > 100)), (by first | rfl | (simp; done) | (simp [*]; done)), H', ⟨by first | omega | exact Nat.le_refl _⟩, ⟨by repeat (first | (with_reducible first | exact HB.out | apply below_alloc | apply pw_below_drewN | apply below_drew1) | exact HB.out)⟩⟩
    · replace c5 := Bool.eq_false_iff.mpr c5
      subst c5
      have H1 : (antecedentlaw07_LexTells.j0 k a0 a1 true) = some r := by rw [if_neg (show ¬ (false = true) by decide)] at H; exact H
      clear H
      have H := H1
      clear H1
      have H' := Aside0.mk H
      clear H
      go_wp2_with (first | ((with_reducible refine gate_callee (f := 10) rfl ?_); refine goesL_ (some 11) rfl rfl Tryd.func10 (by kernel_rfl) rfl #[] rfl (by (try simp only [List.map_toArray, List.map_cons, List.map_nil]); first | done | rfl | (simp only [List.length_drop, List.length_take]; rfl)) ?_; (with_reducible refine (antecedentlaw07_awake.calls  false _ ?side1 A4.out).mono ?_); (case side1 => (first | (refine LaidW.below HLW.out ?_; (repeat (first | (with_reducible first | exact HB.out | apply below_alloc | apply pw_below_drewN | apply below_drew1) | exact HB.out)); done) | (repeat (first | exact HLW.out | apply LaidW.drewN | apply LaidW.drew | apply LaidW.alloc)))); rintro e w15 ⟨rfl, hb⟩; refine ⟨_, rfl, ?_⟩; have n0_ := Aside0.mk (below_step (by repeat (first | (with_reducible first | exact HB.out | apply below_alloc | apply pw_below_drewN | apply below_drew1) | exact HB.out)) hb); clear HB; have HB := n0_; clear n0_; (try clear hb); (try clear hb2); (try clear hk); (try clear hi)))
      go_meet
      case rel => exact ⟨_, (true), (by first | rfl | (simp; done) | (simp [*]; done)), H', ⟨by first | omega | exact Nat.le_refl _⟩, ⟨by repeat (first | (with_reducible first | exact HB.out | apply below_alloc | apply pw_below_drewN | apply below_drew1) | exact HB.out)⟩⟩
  case rest =>
    clear HC3
    try clear c1
    try clear p2
    try clear c3
    try clear c5
    try clear c6
    try clear c6b0
    try clear c6b1
    try clear c7
    try clear c7b0
    try clear c7b1
    try clear c9
    try clear c9b0
    try clear c9b1
    try clear c10
    try clear c12
    try clear c12b0
    try clear c12b1
    obtain ⟨kq, x32_2, rfl, HA, HJ2, HB⟩ := hcut
    cases kq with
    | zero => exact absurd HA.out (by simp [antecedentlaw07_LexTells.j0])
    | succ kj2 =>
      have H := HA.out
      clear HA
      simp only [antecedentlaw07_LexTells.j0] at H
      by_cases c16 : x32_2 = true
      · subst c16
        have H1 : ((antecedentlaw07_awake.f).bind fun t173 => (some t173)) = some r := by rw [if_pos rfl] at H; exact H
        clear H
        have H := H1
        clear H1
        replace H := Option.bind_eq_some_iff.mp H
        obtain ⟨t173, A170, H⟩ := H
        replace H : (some t173) = some r := H
        have A17 := Aside0.mk A170
        clear A170
        obtain rfl := Option.some.inj H
        go_wp2_with (first | ((with_reducible refine gate_callee (f := 10) rfl ?_); refine goesL_ (some 33) rfl rfl Tryd.func10 (by kernel_rfl) rfl #[] rfl (by (try simp only [List.map_toArray, List.map_cons, List.map_nil]); first | done | rfl | (simp only [List.length_drop, List.length_take]; rfl)) ?_; (with_reducible refine (antecedentlaw07_awake.calls  t173 _ ?side1 A17.out).mono ?_); (case side1 => (first | (refine LaidW.below HLW.out ?_; (repeat (first | (with_reducible first | exact HB.out | apply below_alloc | apply pw_below_drewN | apply below_drew1) | exact HB.out)); done) | (repeat (first | exact HLW.out | apply LaidW.drewN | apply LaidW.drew | apply LaidW.alloc)))); rintro e w18 ⟨rfl, hb⟩; refine ⟨_, rfl, ?_⟩; have n0_ := Aside0.mk (below_step (by repeat (first | (with_reducible first | exact HB.out | apply below_alloc | apply pw_below_drewN | apply below_drew1) | exact HB.out)) hb); clear HB; have HB := n0_; clear n0_; (try clear hb); (try clear hb2); (try clear hk); (try clear hi)))
        go_ret
        exact ⟨by first | rfl | (simp [errW_none, errW_some] <;> rfl) | (simp [*, errW_none, errW_some] <;> rfl), by repeat (first | (with_reducible first | exact HB.out | apply below_alloc | apply pw_below_drewN | apply below_drew1) | exact HB.out)⟩
      · replace c16 := Bool.eq_false_iff.mpr c16
        subst c16
        have H1 : ((lex_Tokens.f a0).bind fun bt174 => ((antecedentref07_Tokens.f kj2 a0).bind fun bt179 => ((antecedentlaw07_same.f kj2 bt174.1 bt179.1).bind fun t184 => (if t184 = true then (if bt174.2.1 = bt179.2.1 then (if bt174.2.2 = bt179.2.2 then ((lex_Variable.f a1).bind fun t185 => ((antecedentref07_Variable.f kj2 a1).bind fun t186 => (if (t185 == t186) = true then ((lex_Key.f a1).bind fun t187 => ((antecedentref07_Key.f kj2 a1).bind fun t188 => (some (t187 == t188)))) else (some false)))) else (some false)) else (some false)) else (some false))))) = some r := by rw [if_neg (show ¬ (false = true) by decide)] at H; exact H
        clear H
        have H := H1
        clear H1
        replace H := Option.bind_eq_some_iff.mp H
        obtain ⟨⟨t174, t175, t176⟩, A190, H⟩ := H
        replace H : ((antecedentref07_Tokens.f kj2 a0).bind fun bt179 => ((antecedentlaw07_same.f kj2 t174 bt179.1).bind fun t184 => (if t184 = true then (if t175 = bt179.2.1 then (if t176 = bt179.2.2 then ((lex_Variable.f a1).bind fun t185 => ((antecedentref07_Variable.f kj2 a1).bind fun t186 => (if (t185 == t186) = true then ((lex_Key.f a1).bind fun t187 => ((antecedentref07_Key.f kj2 a1).bind fun t188 => (some (t187 == t188)))) else (some false)))) else (some false)) else (some false)) else (some false)))) = some r := H
        have A19 := Aside0.mk A190
        clear A190
        replace H := Option.bind_eq_some_iff.mp H
        obtain ⟨⟨t179, t180, t181⟩, A200, H⟩ := H
        replace H : ((antecedentlaw07_same.f kj2 t174 t179).bind fun t184 => (if t184 = true then (if t175 = t180 then (if t176 = t181 then ((lex_Variable.f a1).bind fun t185 => ((antecedentref07_Variable.f kj2 a1).bind fun t186 => (if (t185 == t186) = true then ((lex_Key.f a1).bind fun t187 => ((antecedentref07_Key.f kj2 a1).bind fun t188 => (some (t187 == t188)))) else (some false)))) else (some false)) else (some false)) else (some false))) = some r := H
        have A20 := Aside0.mk A200
        clear A200
        replace H := Option.bind_eq_some_iff.mp H
        obtain ⟨t184, A210, H⟩ := H
        replace H : (if t184 = true then (if t175 = t180 then (if t176 = t181 then ((lex_Variable.f a1).bind fun t185 => ((antecedentref07_Variable.f kj2 a1).bind fun t186 => (if (t185 == t186) = true then ((lex_Key.f a1).bind fun t187 => ((antecedentref07_Key.f kj2 a1).bind fun t188 => (some (t187 == t188)))) else (some false)))) else (some false)) else (some false)) else (some false)) = some r := H
        have A21 := Aside0.mk A210
        clear A210
        by_cases c22 : t184 = true
        · subst c22
          have H1 : (if t175 = t180 then (if t176 = t181 then ((lex_Variable.f a1).bind fun t185 => ((antecedentref07_Variable.f kj2 a1).bind fun t186 => (if (t185 == t186) = true then ((lex_Key.f a1).bind fun t187 => ((antecedentref07_Key.f kj2 a1).bind fun t188 => (some (t187 == t188)))) else (some false)))) else (some false)) else (some false)) = some r := by rw [if_pos rfl] at H; exact H
          clear H
          have H := H1
          clear H1
          by_cases c23 : t175 = t180
          · rw [if_pos c23] at H
            have c23b0 : (t175 == t180) = true := beq_iff_eq.mpr c23
            have c23b1 : (t175 != t180) = false := bne_eq_false_iff_eq.mpr c23
            clear c23
            by_cases c24 : t176 = t181
            · rw [if_pos c24] at H
              have c24b0 : (t176 == t181) = true := beq_iff_eq.mpr c24
              have c24b1 : (t176 != t181) = false := bne_eq_false_iff_eq.mpr c24
              clear c24
              replace H := Option.bind_eq_some_iff.mp H
              obtain ⟨t185, A250, H⟩ := H
              replace H : ((antecedentref07_Variable.f kj2 a1).bind fun t186 => (if (t185 == t186) = true then ((lex_Key.f a1).bind fun t187 => ((antecedentref07_Key.f kj2 a1).bind fun t188 => (some (t187 == t188)))) else (some false))) = some r := H
              have A25 := Aside0.mk A250
              clear A250
              replace H := Option.bind_eq_some_iff.mp H
              obtain ⟨t186, A260, H⟩ := H
              replace H : (if (t185 == t186) = true then ((lex_Key.f a1).bind fun t187 => ((antecedentref07_Key.f kj2 a1).bind fun t188 => (some (t187 == t188)))) else (some false)) = some r := H
              have A26 := Aside0.mk A260
              clear A260
              by_cases c27 : (t185 == t186) = true
              · rw [if_pos c27] at H
                have c27b0 : (t185 == t186) = true := c27
                (try (have c27b1 : decide (t185 = t186) = true := by simpa using c27))
                (try (have c27b2 : (t185 == t186) = true := by simpa using c27))
                clear c27
                replace H := Option.bind_eq_some_iff.mp H
                obtain ⟨t187, A280, H⟩ := H
                replace H : ((antecedentref07_Key.f kj2 a1).bind fun t188 => (some (t187 == t188))) = some r := H
                have A28 := Aside0.mk A280
                clear A280
                replace H := Option.bind_eq_some_iff.mp H
                obtain ⟨t188, A290, H⟩ := H
                replace H : (some (t187 == t188)) = some r := H
                have A29 := Aside0.mk A290
                clear A290
                obtain rfl := Option.some.inj H
                go_wp2_with (first | ((with_reducible refine gate_callee (f := 11) rfl ?_); refine goesL_ (some 36) rfl rfl Tryd.func11 (by kernel_rfl) rfl #[.string a0] rfl (by (try simp only [List.map_toArray, List.map_cons, List.map_nil]); first | done | rfl | (simp only [List.length_drop, List.length_take]; rfl)) ?_; (with_reducible refine (lex_Tokens.calls a0 t174 t175 t176 _ ?side1 A19.out).mono ?_); (case side1 => (first | (refine LaidW.below HLW.out ?_; (repeat (first | (with_reducible first | exact HB.out | apply below_alloc | apply pw_below_drewN | apply below_drew1) | exact HB.out)); done) | (repeat (first | exact HLW.out | apply LaidW.drewN | apply LaidW.drew | apply LaidW.alloc)))); rintro e w30 ⟨v177, rfl, ho0, hb⟩; refine ⟨_, rfl, ?_⟩; have n0_ := Aside0.mk (Kd.R_lower ho0 (below_size (by repeat (first | (with_reducible first | exact HB.out | apply below_alloc | apply pw_below_drewN | apply below_drew1) | exact HB.out)))); have n1_ := Aside0.mk (below_step (by repeat (first | (with_reducible first | exact HB.out | apply below_alloc | apply pw_below_drewN | apply below_drew1) | exact HB.out)) hb); clear HB; have HO178 := n0_; have HB := n1_; clear n0_ n1_; (try clear hb); (try clear hb2); (try clear hk); (try clear hi); (try clear ho0)) | ((with_reducible refine gate_callee (f := 12) rfl ?_); refine goesL_ (some 42) rfl rfl Tryd.func12 (by kernel_rfl) rfl #[.string a0] rfl (by (try simp only [List.map_toArray, List.map_cons, List.map_nil]); first | done | rfl | (simp only [List.length_drop, List.length_take]; rfl)) ?_; (with_reducible refine (antecedentref07_Tokens.calls kj2 a0 t179 t180 t181 _ A20.out).mono ?_); rintro e w31 ⟨v182, rfl, ho0, hb⟩; refine ⟨_, rfl, ?_⟩; have n0_ := Aside0.mk (Kd.R_below (by (with_reducible repeat (first | apply Kd.R_alloc | apply Kd.R_drewN | apply Kd.R_drew)); exact HO178.out) hb); have n1_ := Aside0.mk (Kd.R_lower ho0 (below_size (by repeat (first | (with_reducible first | exact HB.out | apply below_alloc | apply pw_below_drewN | apply below_drew1) | exact HB.out)))); have n2_ := Aside0.mk (below_step (by repeat (first | (with_reducible first | exact HB.out | apply below_alloc | apply pw_below_drewN | apply below_drew1) | exact HB.out)) hb); clear HO178; clear HB; have HO178 := n0_; have HO183 := n1_; have HB := n2_; clear n0_ n1_ n2_; (try clear hb); (try clear hb2); (try clear hk); (try clear hi); (try clear ho0); obtain ⟨Ao32, co32, eo32⟩ := Kd.R_slice HO178.out; subst eo32; obtain ⟨Ao33, co33, eo33⟩ := Kd.R_slice HO183.out; subst eo33) | ((with_reducible refine gate_callee (f := 13) rfl ?_); refine goesL_ (some 48) rfl rfl Tryd.func13 (by kernel_rfl) rfl #[.slice Ao32 t174.length co32, .slice Ao33 t179.length co33] rfl (by (try simp only [List.map_toArray, List.map_cons, List.map_nil]); first | done | rfl | (simp only [List.length_drop, List.length_take]; rfl)) ?_; (with_reducible refine (antecedentlaw07_same.calls kj2 _ _ t174 _ _ t179 true _ ?side1 ?side2 ?side3 ?side4 A21.out).mono ?_); (case side1 => repeat (first | exact (Kd.R_reads' HO178.out).2.2 | (with_reducible refine Kd.C_alloc ?_ _) | (with_reducible refine Kd.C_drewN ?_ _) | (with_reducible refine Kd.C_drew ?_))); (case side2 => exact (Kd.R_reads' HO178.out).2.1); (case side3 => repeat (first | exact (Kd.R_reads' HO183.out).2.2 | (with_reducible refine Kd.C_alloc ?_ _) | (with_reducible refine Kd.C_drewN ?_ _) | (with_reducible refine Kd.C_drew ?_))); (case side4 => exact (Kd.R_reads' HO183.out).2.1); rintro e w' ⟨rfl, ⟨nd, rfl⟩⟩; refine ⟨_, rfl, ?_⟩) | (go_at_call 14; (with_reducible refine (lex_Variable.calls a1 t185 _ A25.out).mono ?_); rintro e w' ⟨rfl, ⟨nd, rfl⟩⟩) | (go_at_call 15; (with_reducible refine (antecedentref07_Variable.calls kj2 a1 t186 _ A26.out).mono ?_); rintro e w' ⟨rfl, ⟨nd, rfl⟩⟩) | (go_at_call 16; (with_reducible refine (lex_Key.calls a1 t187 _ A28.out).mono ?_); rintro e w' ⟨rfl, ⟨nd, rfl⟩⟩) | (go_at_call 17; (with_reducible refine (antecedentref07_Key.calls kj2 a1 t188 _ A29.out).mono ?_); rintro e w34 ⟨rfl, hb⟩; have n0_ := Aside0.mk (Kd.R_below (by (with_reducible repeat (first | apply Kd.R_alloc | apply Kd.R_drewN | apply Kd.R_drew)); exact HO178.out) hb); have n1_ := Aside0.mk (Kd.R_below (by (with_reducible repeat (first | apply Kd.R_alloc | apply Kd.R_drewN | apply Kd.R_drew)); exact HO183.out) hb); have n2_ := Aside0.mk (below_step (by repeat (first | (with_reducible first | exact HB.out | apply below_alloc | apply pw_below_drewN | apply below_drew1) | exact HB.out)) hb); clear HO178; clear HO183; clear HB; have HO178 := n0_; have HO183 := n1_; have HB := n2_; clear n0_ n1_ n2_; (try clear hb); (try clear hb2); (try clear hk); (try clear hi)))
                go_ret
                exact ⟨by first | rfl | (simp [errW_none, errW_some] <;> rfl) | (simp [*, errW_none, errW_some] <;> rfl), by repeat (first | (with_reducible first | exact HB.out | apply below_alloc | apply pw_below_drewN | apply below_drew1) | exact HB.out)⟩
              · rw [if_neg c27] at H
                have c27b0 : (t185 == t186) = false := by simpa using c27
                (try (have c27b1 : decide (t185 = t186) = false := by simpa using c27))
                (try (have c27b2 : (t185 == t186) = false := by simpa using c27))
                (try (have c27b3 : ¬ (t185 = t186) := by simpa using c27))
                clear c27
                obtain rfl := Option.some.inj H
                go_wp2_with (first | ((with_reducible refine gate_callee (f := 11) rfl ?_); refine goesL_ (some 36) rfl rfl Tryd.func11 (by kernel_rfl) rfl #[.string a0] rfl (by (try simp only [List.map_toArray, List.map_cons, List.map_nil]); first | done | rfl | (simp only [List.length_drop, List.length_take]; rfl)) ?_; (with_reducible refine (lex_Tokens.calls a0 t174 t175 t176 _ ?side1 A19.out).mono ?_); (case side1 => (first | (refine LaidW.below HLW.out ?_; (repeat (first | (with_reducible first | exact HB.out | apply below_alloc | apply pw_below_drewN | apply below_drew1) | exact HB.out)); done) | (repeat (first | exact HLW.out | apply LaidW.drewN | apply LaidW.drew | apply LaidW.alloc)))); rintro e w35 ⟨v177, rfl, ho0, hb⟩; refine ⟨_, rfl, ?_⟩; have n0_ := Aside0.mk (Kd.R_lower ho0 (below_size (by repeat (first | (with_reducible first | exact HB.out | apply below_alloc | apply pw_below_drewN | apply below_drew1) | exact HB.out)))); have n1_ := Aside0.mk (below_step (by repeat (first | (with_reducible first | exact HB.out | apply below_alloc | apply pw_below_drewN | apply below_drew1) | exact HB.out)) hb); clear HB; have HO178 := n0_; have HB := n1_; clear n0_ n1_; (try clear hb); (try clear hb2); (try clear hk); (try clear hi); (try clear ho0)) | ((with_reducible refine gate_callee (f := 12) rfl ?_); refine goesL_ (some 42) rfl rfl Tryd.func12 (by kernel_rfl) rfl #[.string a0] rfl (by (try simp only [List.map_toArray, List.map_cons, List.map_nil]); first | done | rfl | (simp only [List.length_drop, List.length_take]; rfl)) ?_; (with_reducible refine (antecedentref07_Tokens.calls kj2 a0 t179 t180 t181 _ A20.out).mono ?_); rintro e w36 ⟨v182, rfl, ho0, hb⟩; refine ⟨_, rfl, ?_⟩; have n0_ := Aside0.mk (Kd.R_below (by (with_reducible repeat (first | apply Kd.R_alloc | apply Kd.R_drewN | apply Kd.R_drew)); exact HO178.out) hb); have n1_ := Aside0.mk (Kd.R_lower ho0 (below_size (by repeat (first | (with_reducible first | exact HB.out | apply below_alloc | apply pw_below_drewN | apply below_drew1) | exact HB.out)))); have n2_ := Aside0.mk (below_step (by repeat (first | (with_reducible first | exact HB.out | apply below_alloc | apply pw_below_drewN | apply below_drew1) | exact HB.out)) hb); clear HO178; clear HB; have HO178 := n0_; have HO183 := n1_; have HB := n2_; clear n0_ n1_ n2_; (try clear hb); (try clear hb2); (try clear hk); (try clear hi); (try clear ho0); obtain ⟨Ao37, co37, eo37⟩ := Kd.R_slice HO178.out; subst eo37; obtain ⟨Ao38, co38, eo38⟩ := Kd.R_slice HO183.out; subst eo38) | ((with_reducible refine gate_callee (f := 13) rfl ?_); refine goesL_ (some 48) rfl rfl Tryd.func13 (by kernel_rfl) rfl #[.slice Ao37 t174.length co37, .slice Ao38 t179.length co38] rfl (by (try simp only [List.map_toArray, List.map_cons, List.map_nil]); first | done | rfl | (simp only [List.length_drop, List.length_take]; rfl)) ?_; (with_reducible refine (antecedentlaw07_same.calls kj2 _ _ t174 _ _ t179 true _ ?side1 ?side2 ?side3 ?side4 A21.out).mono ?_); (case side1 => repeat (first | exact (Kd.R_reads' HO178.out).2.2 | (with_reducible refine Kd.C_alloc ?_ _) | (with_reducible refine Kd.C_drewN ?_ _) | (with_reducible refine Kd.C_drew ?_))); (case side2 => exact (Kd.R_reads' HO178.out).2.1); (case side3 => repeat (first | exact (Kd.R_reads' HO183.out).2.2 | (with_reducible refine Kd.C_alloc ?_ _) | (with_reducible refine Kd.C_drewN ?_ _) | (with_reducible refine Kd.C_drew ?_))); (case side4 => exact (Kd.R_reads' HO183.out).2.1); rintro e w' ⟨rfl, ⟨nd, rfl⟩⟩; refine ⟨_, rfl, ?_⟩) | (go_at_call 14; (with_reducible refine (lex_Variable.calls a1 t185 _ A25.out).mono ?_); rintro e w' ⟨rfl, ⟨nd, rfl⟩⟩) | (go_at_call 15; (with_reducible refine (antecedentref07_Variable.calls kj2 a1 t186 _ A26.out).mono ?_); rintro e w' ⟨rfl, ⟨nd, rfl⟩⟩))
                go_ret
                exact ⟨by first | rfl | (simp [errW_none, errW_some] <;> rfl) | (simp [*, errW_none, errW_some] <;> rfl), by repeat (first | (with_reducible first | exact HB.out | apply below_alloc | apply pw_below_drewN | apply below_drew1) | exact HB.out)⟩
            · rw [if_neg c24] at H
              have c24b0 : (t176 == t181) = false := beq_eq_false_iff_ne.mpr c24
              have c24b1 : (t176 != t181) = true := bne_iff_ne.mpr c24
              obtain rfl := Option.some.inj H
              go_wp2_with (first | ((with_reducible refine gate_callee (f := 11) rfl ?_); refine goesL_ (some 36) rfl rfl Tryd.func11 (by kernel_rfl) rfl #[.string a0] rfl (by (try simp only [List.map_toArray, List.map_cons, List.map_nil]); first | done | rfl | (simp only [List.length_drop, List.length_take]; rfl)) ?_; (with_reducible refine (lex_Tokens.calls a0 t174 t175 t176 _ ?side1 A19.out).mono ?_); (case side1 => (first | (refine LaidW.below HLW.out ?_; (repeat (first | (with_reducible first | exact HB.out | apply below_alloc | apply pw_below_drewN | apply below_drew1) | exact HB.out)); done) | (repeat (first | exact HLW.out | apply LaidW.drewN | apply LaidW.drew | apply LaidW.alloc)))); rintro e w39 ⟨v177, rfl, ho0, hb⟩; refine ⟨_, rfl, ?_⟩; have n0_ := Aside0.mk (Kd.R_lower ho0 (below_size (by repeat (first | (with_reducible first | exact HB.out | apply below_alloc | apply pw_below_drewN | apply below_drew1) | exact HB.out)))); have n1_ := Aside0.mk (below_step (by repeat (first | (with_reducible first | exact HB.out | apply below_alloc | apply pw_below_drewN | apply below_drew1) | exact HB.out)) hb); clear HB; have HO178 := n0_; have HB := n1_; clear n0_ n1_; (try clear hb); (try clear hb2); (try clear hk); (try clear hi); (try clear ho0)) | ((with_reducible refine gate_callee (f := 12) rfl ?_); refine goesL_ (some 42) rfl rfl Tryd.func12 (by kernel_rfl) rfl #[.string a0] rfl (by (try simp only [List.map_toArray, List.map_cons, List.map_nil]); first | done | rfl | (simp only [List.length_drop, List.length_take]; rfl)) ?_; (with_reducible refine (antecedentref07_Tokens.calls kj2 a0 t179 t180 t181 _ A20.out).mono ?_); rintro e w40 ⟨v182, rfl, ho0, hb⟩; refine ⟨_, rfl, ?_⟩; have n0_ := Aside0.mk (Kd.R_below (by (with_reducible repeat (first | apply Kd.R_alloc | apply Kd.R_drewN | apply Kd.R_drew)); exact HO178.out) hb); have n1_ := Aside0.mk (Kd.R_lower ho0 (below_size (by repeat (first | (with_reducible first | exact HB.out | apply below_alloc | apply pw_below_drewN | apply below_drew1) | exact HB.out)))); have n2_ := Aside0.mk (below_step (by repeat (first | (with_reducible first | exact HB.out | apply below_alloc | apply pw_below_drewN | apply below_drew1) | exact HB.out)) hb); clear HO178; clear HB; have HO178 := n0_; have HO183 := n1_; have HB := n2_; clear n0_ n1_ n2_; (try clear hb); (try clear hb2); (try clear hk); (try clear hi); (try clear ho0); obtain ⟨Ao41, co41, eo41⟩ := Kd.R_slice HO178.out; subst eo41; obtain ⟨Ao42, co42, eo42⟩ := Kd.R_slice HO183.out; subst eo42) | ((with_reducible refine gate_callee (f := 13) rfl ?_); refine goesL_ (some 48) rfl rfl Tryd.func13 (by kernel_rfl) rfl #[.slice Ao41 t174.length co41, .slice Ao42 t179.length co42] rfl (by (try simp only [List.map_toArray, List.map_cons, List.map_nil]); first | done | rfl | (simp only [List.length_drop, List.length_take]; rfl)) ?_; (with_reducible refine (antecedentlaw07_same.calls kj2 _ _ t174 _ _ t179 true _ ?side1 ?side2 ?side3 ?side4 A21.out).mono ?_); (case side1 => repeat (first | exact (Kd.R_reads' HO178.out).2.2 | (with_reducible refine Kd.C_alloc ?_ _) | (with_reducible refine Kd.C_drewN ?_ _) | (with_reducible refine Kd.C_drew ?_))); (case side2 => exact (Kd.R_reads' HO178.out).2.1); (case side3 => repeat (first | exact (Kd.R_reads' HO183.out).2.2 | (with_reducible refine Kd.C_alloc ?_ _) | (with_reducible refine Kd.C_drewN ?_ _) | (with_reducible refine Kd.C_drew ?_))); (case side4 => exact (Kd.R_reads' HO183.out).2.1); rintro e w' ⟨rfl, ⟨nd, rfl⟩⟩; refine ⟨_, rfl, ?_⟩))
              go_ret
              exact ⟨by first | rfl | (simp [errW_none, errW_some] <;> rfl) | (simp [*, errW_none, errW_some] <;> rfl), by repeat (first | (with_reducible first | exact HB.out | apply below_alloc | apply pw_below_drewN | apply below_drew1) | exact HB.out)⟩
          · rw [if_neg c23] at H
            have c23b0 : (t175 == t180) = false := beq_eq_false_iff_ne.mpr c23
            have c23b1 : (t175 != t180) = true := bne_iff_ne.mpr c23
            obtain rfl := Option.some.inj H
            go_wp2_with (first | ((with_reducible refine gate_callee (f := 11) rfl ?_); refine goesL_ (some 36) rfl rfl Tryd.func11 (by kernel_rfl) rfl #[.string a0] rfl (by (try simp only [List.map_toArray, List.map_cons, List.map_nil]); first | done | rfl | (simp only [List.length_drop, List.length_take]; rfl)) ?_; (with_reducible refine (lex_Tokens.calls a0 t174 t175 t176 _ ?side1 A19.out).mono ?_); (case side1 => (first | (refine LaidW.below HLW.out ?_; (repeat (first | (with_reducible first | exact HB.out | apply below_alloc | apply pw_below_drewN | apply below_drew1) | exact HB.out)); done) | (repeat (first | exact HLW.out | apply LaidW.drewN | apply LaidW.drew | apply LaidW.alloc)))); rintro e w43 ⟨v177, rfl, ho0, hb⟩; refine ⟨_, rfl, ?_⟩; have n0_ := Aside0.mk (Kd.R_lower ho0 (below_size (by repeat (first | (with_reducible first | exact HB.out | apply below_alloc | apply pw_below_drewN | apply below_drew1) | exact HB.out)))); have n1_ := Aside0.mk (below_step (by repeat (first | (with_reducible first | exact HB.out | apply below_alloc | apply pw_below_drewN | apply below_drew1) | exact HB.out)) hb); clear HB; have HO178 := n0_; have HB := n1_; clear n0_ n1_; (try clear hb); (try clear hb2); (try clear hk); (try clear hi); (try clear ho0)) | ((with_reducible refine gate_callee (f := 12) rfl ?_); refine goesL_ (some 42) rfl rfl Tryd.func12 (by kernel_rfl) rfl #[.string a0] rfl (by (try simp only [List.map_toArray, List.map_cons, List.map_nil]); first | done | rfl | (simp only [List.length_drop, List.length_take]; rfl)) ?_; (with_reducible refine (antecedentref07_Tokens.calls kj2 a0 t179 t180 t181 _ A20.out).mono ?_); rintro e w44 ⟨v182, rfl, ho0, hb⟩; refine ⟨_, rfl, ?_⟩; have n0_ := Aside0.mk (Kd.R_below (by (with_reducible repeat (first | apply Kd.R_alloc | apply Kd.R_drewN | apply Kd.R_drew)); exact HO178.out) hb); have n1_ := Aside0.mk (Kd.R_lower ho0 (below_size (by repeat (first | (with_reducible first | exact HB.out | apply below_alloc | apply pw_below_drewN | apply below_drew1) | exact HB.out)))); have n2_ := Aside0.mk (below_step (by repeat (first | (with_reducible first | exact HB.out | apply below_alloc | apply pw_below_drewN | apply below_drew1) | exact HB.out)) hb); clear HO178; clear HB; have HO178 := n0_; have HO183 := n1_; have HB := n2_; clear n0_ n1_ n2_; (try clear hb); (try clear hb2); (try clear hk); (try clear hi); (try clear ho0); obtain ⟨Ao45, co45, eo45⟩ := Kd.R_slice HO178.out; subst eo45; obtain ⟨Ao46, co46, eo46⟩ := Kd.R_slice HO183.out; subst eo46) | ((with_reducible refine gate_callee (f := 13) rfl ?_); refine goesL_ (some 48) rfl rfl Tryd.func13 (by kernel_rfl) rfl #[.slice Ao45 t174.length co45, .slice Ao46 t179.length co46] rfl (by (try simp only [List.map_toArray, List.map_cons, List.map_nil]); first | done | rfl | (simp only [List.length_drop, List.length_take]; rfl)) ?_; (with_reducible refine (antecedentlaw07_same.calls kj2 _ _ t174 _ _ t179 true _ ?side1 ?side2 ?side3 ?side4 A21.out).mono ?_); (case side1 => repeat (first | exact (Kd.R_reads' HO178.out).2.2 | (with_reducible refine Kd.C_alloc ?_ _) | (with_reducible refine Kd.C_drewN ?_ _) | (with_reducible refine Kd.C_drew ?_))); (case side2 => exact (Kd.R_reads' HO178.out).2.1); (case side3 => repeat (first | exact (Kd.R_reads' HO183.out).2.2 | (with_reducible refine Kd.C_alloc ?_ _) | (with_reducible refine Kd.C_drewN ?_ _) | (with_reducible refine Kd.C_drew ?_))); (case side4 => exact (Kd.R_reads' HO183.out).2.1); rintro e w' ⟨rfl, ⟨nd, rfl⟩⟩; refine ⟨_, rfl, ?_⟩))
            go_ret
            exact ⟨by first | rfl | (simp [errW_none, errW_some] <;> rfl) | (simp [*, errW_none, errW_some] <;> rfl), by repeat (first | (with_reducible first | exact HB.out | apply below_alloc | apply pw_below_drewN | apply below_drew1) | exact HB.out)⟩
        · replace c22 := Bool.eq_false_iff.mpr c22
          subst c22
          have H1 : (some false) = some r := by rw [if_neg (show ¬ (false = true) by decide)] at H; exact H
          clear H
          have H := H1
          clear H1
          obtain rfl := Option.some.inj H
          go_wp2_with (first | ((with_reducible refine gate_callee (f := 11) rfl ?_); refine goesL_ (some 36) rfl rfl Tryd.func11 (by kernel_rfl) rfl #[.string a0] rfl (by (try simp only [List.map_toArray, List.map_cons, List.map_nil]); first | done | rfl | (simp only [List.length_drop, List.length_take]; rfl)) ?_; (with_reducible refine (lex_Tokens.calls a0 t174 t175 t176 _ ?side1 A19.out).mono ?_); (case side1 => (first | (refine LaidW.below HLW.out ?_; (repeat (first | (with_reducible first | exact HB.out | apply below_alloc | apply pw_below_drewN | apply below_drew1) | exact HB.out)); done) | (repeat (first | exact HLW.out | apply LaidW.drewN | apply LaidW.drew | apply LaidW.alloc)))); rintro e w47 ⟨v177, rfl, ho0, hb⟩; refine ⟨_, rfl, ?_⟩; have n0_ := Aside0.mk (Kd.R_lower ho0 (below_size (by repeat (first | (with_reducible first | exact HB.out | apply below_alloc | apply pw_below_drewN | apply below_drew1) | exact HB.out)))); have n1_ := Aside0.mk (below_step (by repeat (first | (with_reducible first | exact HB.out | apply below_alloc | apply pw_below_drewN | apply below_drew1) | exact HB.out)) hb); clear HB; have HO178 := n0_; have HB := n1_; clear n0_ n1_; (try clear hb); (try clear hb2); (try clear hk); (try clear hi); (try clear ho0)) | ((with_reducible refine gate_callee (f := 12) rfl ?_); refine goesL_ (some 42) rfl rfl Tryd.func12 (by kernel_rfl) rfl #[.string a0] rfl (by (try simp only [List.map_toArray, List.map_cons, List.map_nil]); first | done | rfl | (simp only [List.length_drop, List.length_take]; rfl)) ?_; (with_reducible refine (antecedentref07_Tokens.calls kj2 a0 t179 t180 t181 _ A20.out).mono ?_); rintro e w48 ⟨v182, rfl, ho0, hb⟩; refine ⟨_, rfl, ?_⟩; have n0_ := Aside0.mk (Kd.R_below (by (with_reducible repeat (first | apply Kd.R_alloc | apply Kd.R_drewN | apply Kd.R_drew)); exact HO178.out) hb); have n1_ := Aside0.mk (Kd.R_lower ho0 (below_size (by repeat (first | (with_reducible first | exact HB.out | apply below_alloc | apply pw_below_drewN | apply below_drew1) | exact HB.out)))); have n2_ := Aside0.mk (below_step (by repeat (first | (with_reducible first | exact HB.out | apply below_alloc | apply pw_below_drewN | apply below_drew1) | exact HB.out)) hb); clear HO178; clear HB; have HO178 := n0_; have HO183 := n1_; have HB := n2_; clear n0_ n1_ n2_; (try clear hb); (try clear hb2); (try clear hk); (try clear hi); (try clear ho0); obtain ⟨Ao49, co49, eo49⟩ := Kd.R_slice HO178.out; subst eo49; obtain ⟨Ao50, co50, eo50⟩ := Kd.R_slice HO183.out; subst eo50) | ((with_reducible refine gate_callee (f := 13) rfl ?_); refine goesL_ (some 48) rfl rfl Tryd.func13 (by kernel_rfl) rfl #[.slice Ao49 t174.length co49, .slice Ao50 t179.length co50] rfl (by (try simp only [List.map_toArray, List.map_cons, List.map_nil]); first | done | rfl | (simp only [List.length_drop, List.length_take]; rfl)) ?_; (with_reducible refine (antecedentlaw07_same.calls kj2 _ _ t174 _ _ t179 false _ ?side1 ?side2 ?side3 ?side4 A21.out).mono ?_); (case side1 => repeat (first | exact (Kd.R_reads' HO178.out).2.2 | (with_reducible refine Kd.C_alloc ?_ _) | (with_reducible refine Kd.C_drewN ?_ _) | (with_reducible refine Kd.C_drew ?_))); (case side2 => exact (Kd.R_reads' HO178.out).2.1); (case side3 => repeat (first | exact (Kd.R_reads' HO183.out).2.2 | (with_reducible refine Kd.C_alloc ?_ _) | (with_reducible refine Kd.C_drewN ?_ _) | (with_reducible refine Kd.C_drew ?_))); (case side4 => exact (Kd.R_reads' HO183.out).2.1); rintro e w' ⟨rfl, ⟨nd, rfl⟩⟩; refine ⟨_, rfl, ?_⟩))
          go_ret
          exact ⟨by first | rfl | (simp [errW_none, errW_some] <;> rfl) | (simp [*, errW_none, errW_some] <;> rfl), by repeat (first | (with_reducible first | exact HB.out | apply below_alloc | apply pw_below_drewN | apply below_drew1) | exact HB.out)⟩
end Go.Proofs.YthebhbomlllpeaaDoor.X
namespace Go.Proofs.YthebhbomlllpeaaDoor.X
set_option linter.unusedVariables false
set_option linter.unusedSimpArgs false
open Go.RowKit Go.Proofs.YthebhbomlllpeaaDoorW.PrintWords Go.Proofs.YthebhbomlllpeaaDoorW.PrintLast Go.Proofs.YthebhbomlllpeaaDoorW.PrintMore
theorem tok_f (s : ByteArray) (h : s.size ≤ 20000) : lex_Tokens.f s = some (tokRes s) := by
  unfold lex_Tokens.f
  rw [if_pos (by omega), if_neg (by omega)]
theorem var_f (s : ByteArray) (h : s.size ≤ 20000) : lex_Variable.f s = some (varL s.data.toList) := by
  unfold lex_Variable.f
  rw [if_pos (by omega)]
theorem res_ok {s : ByteArray} {l : List (Nat × Nat × Nat)} (h : tokN nmL vlL 0 s.data.toList = .ok l) : tokRes s = (l.map (tokS s), 0, 0) := by unfold tokRes; rw [h]
theorem vl_m5 : vlL [45, 53] = true := by
  have := vl_text (k := 1) (n := -5) (s := ⟨#[]⟩) (by decide) (by omega)
  have h : textL 1 (-5) ⟨#[]⟩ = [45, 53] := by
    rw [text_of_right (by decide), if_pos rfl]
    unfold Lib.itoa
    rw [if_pos (by omega)]
    have : (-5 : Int).natAbs = 5 := rfl
    rw [this, Lib.decDigits_one (by omega)]
    rfl
  rwa [h] at this
theorem nm_p : nmL [112] = true := by decide
theorem tok_awake : tokN nmL vlL 0 [112, 40, 88, 44, 45, 53, 41, 46] = .ok [(1, 0, 1), (4, 1, 1), (2, 2, 1), (4, 3, 1), (3, 4, 2), (4, 6, 1), (4, 7, 1)] := by
  have step : ∀ (a : Nat) (c : UInt8) (r : List UInt8) (k n : Nat) (l : List (Nat × Nat × Nat)), blankB c = false → nextN nmL vlL (c :: r) = some (k, n) → tokN nmL vlL (a + n) ((c :: r).drop n) = .ok l → tokN nmL vlL a (c :: r) = .ok ((k, a, n) :: l) := fun a c r k n l hb hn hl => by
    rw [tok_more nmL vlL a c r hb k n hn, hl]
  have h5 : nextN nmL vlL [45, 53, 41, 46] = some (3, 2) := by
    have e : runN signB [53, 41, 46] = 1 := by decide
    have e1 : smallN 45 = false := by decide
    have e2 : greatN 45 = false := by decide
    have e3 : valB 45 [53, 41, 46] = true := by decide
    simp only [nextN, e, e1, e2, e3, Bool.false_eq_true, if_false, if_true]
    have e4 : ([45, 53, 41, 46] : List UInt8).take (1 + 1) = [45, 53] := rfl
    rw [e4, vl_m5]
    rfl
  have h1 : nextN nmL vlL [112, 40, 88, 44, 45, 53, 41, 46] = some (1, 1) := by
    have e : runN lowB [112, 40, 88, 44, 45, 53, 41, 46] = 1 := by decide
    have e1 : smallN 112 = true := by decide
    simp only [nextN, e, e1, if_true]
    have e4 : ([112, 40, 88, 44, 45, 53, 41, 46] : List UInt8).take 1 = [112] := rfl
    rw [e4, nm_p]
    rfl
  have h3 : nextN nmL vlL [88, 44, 45, 53, 41, 46] = some (2, 1) := by
    have e : runN signB [88, 44, 45, 53, 41, 46] = 1 := by decide
    have e1 : smallN 88 = false := by decide
    have e2 : greatN 88 = true := by decide
    simp only [nextN, e, e1, e2, Bool.false_eq_true, if_false, if_true]
    rfl
  have hm : ∀ (c : UInt8) (r : List UInt8), smallN c = false → greatN c = false → valB c r = false → twoB (c :: r) = false → oneB c = true → nextN nmL vlL (c :: r) = some (4, 1) := fun c r e1 e2 e3 e4 e5 => by
    simp only [nextN, e1, e2, e3, e4, e5, Bool.false_eq_true, if_false, if_true]
  refine step 0 _ _ _ _ _ (by decide) h1 (step 1 _ _ _ _ _ (by decide) (hm _ _ (by decide) (by decide) (by decide) (by decide) (by decide)) (step 2 _ _ _ _ _ (by decide) h3 (step 3 _ _ _ _ _ (by decide) (hm _ _ (by decide) (by decide) (by decide) (by decide) (by decide)) (step 4 _ _ _ _ _ (by decide) h5 (step 6 _ _ _ _ _ (by decide) (hm _ _ (by decide) (by decide) (by decide) (by decide) (by decide)) (step 7 _ _ _ _ _ (by decide) (hm _ _ (by decide) (by decide) (by decide) (by decide) (by decide)) rfl))))))
theorem awake_true : antecedentlaw07_awake.f = some true := by
  unfold antecedentlaw07_awake.f
  rw [tok_f _ (by decide), res_ok tok_awake, var_f _ (by decide)]
  have h1 : (tokS ⟨#[112, 40, 88, 44, 45, 53, 41, 46]⟩ (2, 2, 1)).f1.toList = [88] := by
    rw [toList_data]; simp only [tokS]; rw [extract_list, extract_rest]; rfl
  have h2 : (tokS ⟨#[112, 40, 88, 44, 45, 53, 41, 46]⟩ (3, 4, 2)).f1.toList = [45, 53] := by
    rw [toList_data]; simp only [tokS]; rw [extract_list, extract_rest]; rfl
  have h3 : varL (⟨#[88, 49]⟩ : ByteArray).data.toList = true := by decide
  have h4 : lex_Key.f (⟨#[119, 97, 108, 107]⟩ : ByteArray) = some true := by
    unfold lex_Key.f
    rw [toList_data]
    rfl
  have r2 : ∀ a b c d e f g : S34, rd_T34 [a, b, c, d, e, f, g] 2 = c := fun _ _ _ _ _ _ _ => rfl
  have r4 : ∀ a b c d e f g : S34, rd_T34 [a, b, c, d, e, f, g] 4 = e := fun _ _ _ _ _ _ _ => rfl
  have f0 : (tokS ⟨#[112, 40, 88, 44, 45, 53, 41, 46]⟩ (2, 2, 1)).f0 = 2 := rfl
  have f2 : (tokS ⟨#[112, 40, 88, 44, 45, 53, 41, 46]⟩ (2, 2, 1)).f2 = 2 := rfl
  simp only [Option.bind_some, List.map_cons, List.map_nil, List.length_cons, List.length_nil, r2, r4, h1, h2, h3, h4, f0, f2]
  rfl
end Go.Proofs.YthebhbomlllpeaaDoor.X
namespace Go.Proofs.YthebhbomlllpeaaDoor.X
set_option linter.unusedVariables false
set_option linter.unusedSimpArgs false
open Go.RowKit Go.Proofs.YthebhbomlllpeaaDoorW.PrintWords Go.Proofs.YthebhbomlllpeaaDoorW.PrintLast Go.Proofs.YthebhbomlllpeaaDoorW.PrintMore
theorem str1 (x : Int) (c : UInt8) (h : UInt8.ofNat x.toNat = c) : strOfNums [x] = ⟨#[c]⟩ := by
  subst h; rfl
theorem digits_step (b : Nat) (l : Nat → List UInt8) (hT : TellsBase b l) (k u : Nat) (acc : ByteArray) (hu : u < 18446744073709551616) (ha : acc.size ≤ 1000) :
    antecedentref02_Digits.j1 (k + 1) (u : Int) (b : Int) acc true = antecedentref02_Digits.l0 k ((u / b : Nat) : Int) (b : Int) (⟨#[hexc (u % b)]⟩ ++ acc) := by
  have hb := hT.two
  have hb2 := hT.most
  have hm : Int.tmod (u : Int) (b : Int) = ((u % b : Nat) : Int) := by rw [Int.tmod_eq_emod_of_nonneg (by omega)]; rfl
  have hd : IntKind.u64.wrap (Int.tdiv (u : Int) (b : Int)) = ((u / b : Nat) : Int) := by
    rw [Int.tdiv_eq_ediv_of_nonneg (by omega), IntKind.wrap_u64]
    have h1 : (u : Int) / (b : Int) = ((u / b : Nat) : Int) := rfl
    have h2 : u / b ≤ u := Nat.div_le_self _ _
    rw [h1]
    generalize u / b = q at h2
    omega
  have hlt : u % b < b := Nat.mod_lt _ (by omega)
  simp only [antecedentref02_Digits.j1, if_true, hm, hd]
  rw [if_neg (by omega)]
  generalize hr : u % b = r at hlt ⊢
  split
  · rename_i h
    simp only [Option.bind_some]
    rw [str1 _ (hexc r) (by
      have h1 : ((97 + (r : Int) % 256) % 256 - 10) % 256 = ((87 + r : Nat) : Int) := by omega
      rw [h1, Int.toNat_natCast]; unfold hexc; rw [if_neg (by omega)])]
    rw [if_pos (by show 1 + acc.size ≤ _; omega)]
  · rename_i h
    simp only [Option.bind_some]
    rw [str1 _ (hexc r) (by
      have h1 : ((48 : Int) + (r : Int) % 256) % 256 = ((48 + r : Nat) : Int) := by omega
      rw [h1, Int.toNat_natCast]; unfold hexc; rw [if_pos (by omega)])]
    rw [if_pos (by show 1 + acc.size ≤ _; omega)]
theorem digits_loop (b : Nat) (l : Nat → List UInt8) (hT : TellsBase b l) : ∀ (d u k : Nat) (acc : ByteArray), u < b ^ (d + 1) → d ≤ 70 → acc.size + d ≤ 900 → u < 18446744073709551616 → (0 < u ∨ acc.size = 0) → 2 * d + 6 ≤ k →
    antecedentref02_Digits.l0 k (u : Int) (b : Int) acc = some (⟨(l u).toArray⟩ ++ acc) := by
  intro d
  induction d with
  | zero =>
    intro u k acc hu hd ha hu2 h0 hk
    obtain ⟨k, rfl⟩ : ∃ j, k = j + 4 := ⟨k - 4, by omega⟩
    have hb := hT.two
    have e : antecedentref02_Digits.l0 (k + 4) (u : Int) (b : Int) acc = antecedentref02_Digits.j1 (k + 3) (u : Int) (b : Int) acc true := by
      rw [show k + 4 = (k + 3) + 1 from rfl]
      simp only [antecedentref02_Digits.l0]
      rcases h0 with h0 | h0
      · rw [if_pos (by omega)]
      · split
        · rfl
        · rw [show (acc.toList == ([] : List UInt8)) = true from by rw [beq_iff_eq]; exact (toList_nil acc).2 h0]
    rw [e, show k + 3 = (k + 2) + 1 from rfl, digits_step b l hT (k + 2) u acc hu2 (by omega)]
    have hu' : u < b := by simpa using hu
    rw [Nat.div_eq_of_lt hu', Nat.mod_eq_of_lt hu', show k + 2 = (k + 1) + 1 from rfl]
    simp only [antecedentref02_Digits.l0]
    rw [if_neg (by omega), show ((⟨#[hexc u]⟩ ++ acc : ByteArray).toList == ([] : List UInt8)) = false from by
      rw [beq_eq_false_iff_ne]; intro h
      have := (toList_nil _).1 h
      rw [ByteArray.size_append] at this
      change 1 + acc.size = 0 at this; omega]
    simp only [antecedentref02_Digits.j1, Bool.false_eq_true, if_false]
    rw [hT.one u hu']
  | succ d ih =>
    intro u k acc hu hd ha hu2 h0 hk
    obtain ⟨k, rfl⟩ : ∃ j, k = j + 2 := ⟨k - 2, by omega⟩
    have hb := hT.two
    have e : antecedentref02_Digits.l0 (k + 2) (u : Int) (b : Int) acc = antecedentref02_Digits.j1 (k + 1) (u : Int) (b : Int) acc true := by
      rw [show k + 2 = (k + 1) + 1 from rfl]
      simp only [antecedentref02_Digits.l0]
      rcases h0 with h0 | h0
      · rw [if_pos (by omega)]
      · split
        · rfl
        · rw [show (acc.toList == ([] : List UInt8)) = true from by rw [beq_iff_eq]; exact (toList_nil acc).2 h0]
    rw [e, digits_step b l hT k u acc hu2 (by omega)]
    have hs : (⟨#[hexc (u % b)]⟩ ++ acc : ByteArray).size = 1 + acc.size := by rw [ByteArray.size_append]; rfl
    by_cases hz : b ≤ u
    · have hp : 0 < u / b := Nat.div_pos hz (by omega)
      have h2 : u / b ≤ u := Nat.div_le_self _ _
      rw [ih (u / b) k _ (by rw [Nat.pow_succ] at hu; exact Nat.div_lt_of_lt_mul (by rw [Nat.mul_comm]; exact hu)) (by omega) (by omega) (by omega) (Or.inl hp) (by omega)]
      rw [hT.more u hz]
      congr 1
      apply ba_eq
      simp
    · obtain ⟨k, rfl⟩ : ∃ j, k = j + 2 := ⟨k - 2, by omega⟩
      have hu' : u < b := by omega
      rw [Nat.div_eq_of_lt hu', Nat.mod_eq_of_lt hu', show k + 2 = (k + 1) + 1 from rfl]
      simp only [antecedentref02_Digits.l0]
      rw [if_neg (by omega), show ((⟨#[hexc u]⟩ ++ acc : ByteArray).toList == ([] : List UInt8)) = false from by
        rw [beq_eq_false_iff_ne]; intro h
        have := (toList_nil _).1 h
        rw [ByteArray.size_append] at this
        change 1 + acc.size = 0 at this; omega]
      simp only [antecedentref02_Digits.j1, Bool.false_eq_true, if_false]
      rw [hT.one u hu']
theorem ba_nil (a : ByteArray) : a ++ (⟨#[]⟩ : ByteArray) = a := by apply ba_eq; simp
theorem ref02_Digits_10 (u k : Nat) (hu : u < 18446744073709551616) (hk : 46 ≤ k) : antecedentref02_Digits.f k (u : Int) 10 = some ⟨(Lib.decDigits u).toArray⟩ := by
  unfold antecedentref02_Digits.f
  have := digits_loop 10 _ tells10 19 u k ⟨#[]⟩ (Nat.lt_of_lt_of_le hu (by decide)) (by omega) (by show 0 + 19 ≤ 900; omega) hu (Or.inr rfl) (by omega)
  rw [ba_nil] at this
  exact this
theorem ref02_Digits_16 (u k : Nat) (hu : u < 18446744073709551616) (hk : 46 ≤ k) : antecedentref02_Digits.f k (u : Int) 16 = some ⟨(hexL u).toArray⟩ := by
  unfold antecedentref02_Digits.f
  have := digits_loop 16 _ tells16 19 u k ⟨#[]⟩ (Nat.lt_of_lt_of_le hu (by decide)) (by omega) (by show 0 + 19 ≤ 900; omega) hu (Or.inr rfl) (by omega)
  rw [ba_nil] at this
  exact this
theorem pad_loop (l : List UInt8) : ∀ (d k : Nat), 16 - l.length = d → l.length ≤ 16 → d < k →
    antecedentref02_Text.l0 k ⟨l.toArray⟩ = some ⟨(35 :: (List.replicate (16 - l.length) 48 ++ l)).toArray⟩ := by
  intro d
  induction d generalizing l with
  | zero =>
    intro k h1 h2 hk
    obtain ⟨k, rfl⟩ : ∃ j, k = j + 1 := ⟨k - 1, by omega⟩
    have hl : l.length = 16 := by omega
    simp only [antecedentref02_Text.l0]
    have hs : (⟨l.toArray⟩ : ByteArray).size = 16 := by simp [ByteArray.size, hl]
    rw [hs, if_neg (by omega), if_pos (by omega), hl]
    rfl
  | succ d ih =>
    intro k h1 h2 hk
    obtain ⟨k, rfl⟩ : ∃ j, k = j + 1 := ⟨k - 1, by omega⟩
    simp only [antecedentref02_Text.l0]
    have hs : (⟨l.toArray⟩ : ByteArray).size = l.length := by simp [ByteArray.size]
    rw [hs, if_pos (by omega), if_pos (by omega)]
    have e : (⟨#[48]⟩ : ByteArray) ++ ⟨l.toArray⟩ = ⟨(48 :: l).toArray⟩ := by apply ba_eq; simp
    rw [e, ih (48 :: l) k (by simp; omega) (by simp; omega) (by omega)]
    have e2 : List.replicate (16 - l.length) (48 : UInt8) ++ l = List.replicate (16 - (48 :: l).length) 48 ++ 48 :: l := by
      rw [show 16 - l.length = (16 - (48 :: l).length) + 1 from by simp; omega, List.replicate_succ']
      simp
    rw [e2]
theorem ref01_Right_eq (n : Int) : antecedentref01_Right.f n = some (floB n) := by
  unfold antecedentref01_Right.f floB
  by_cases h : n = 9221120237041090561
  · rw [if_pos h]; simp [h]
  · rw [if_neg h]
    by_cases h1 : n ≤ 9218868437227405312
    · rw [if_pos h1]; congr 1; simp [h, h1]
    · rw [if_neg h1]; congr 1; symm; simp [h]; omega
theorem ref02_Right_eq (a b : Int) (s : ByteArray) : antecedentref02_Right.f a b s = some (rightB a b s) := by
  unfold antecedentref02_Right.f rightB
  by_cases h1 : a = 1
  · rw [if_pos h1, if_pos h1]
    congr 1
    rw [Bool.eq_iff_iff, beq_iff_eq, decide_eq_true_iff, toList_nil]
  · rw [if_neg h1, if_neg h1]
    by_cases h2 : a = 2
    · rw [if_pos h2, if_pos h2]
      by_cases h3 : s.size = 0
      · rw [if_pos ((toList_nil s).2 h3), ref01_Right_eq]; simp [h3]
      · rw [if_neg (fun h => h3 ((toList_nil s).1 h))]; simp [h3]
    · rw [if_neg h2, if_neg h2]
      by_cases h3 : a = 3
      · rw [if_pos h3, if_pos h3]
        by_cases h4 : b = 0
        · rw [if_pos h4]; unfold antecedentref02_Name.f; simp [h4]
        · rw [if_neg h4]; simp [h4]
      · rw [if_neg h3, if_neg h3]
theorem ref02_Text_eq (a b : Int) (s : ByteArray) (k : Nat) (hk : 46 ≤ k) (hb : -9223372036854775808 ≤ b ∧ b ≤ 9223372036854775807) :
    antecedentref02_Text.f k a b s = some ⟨(textL a b s).toArray⟩ := by
  unfold antecedentref02_Text.f textL
  rw [ref02_Right_eq]
  simp only [Option.bind_some]
  by_cases hr : rightB a b s = true
  · rw [if_pos hr, if_pos hr]
    by_cases h1 : a = 1
    · rw [if_pos h1, if_pos h1]
      unfold Lib.itoa
      by_cases h2 : b < 0
      · rw [if_pos h2, if_pos h2]
        have e : IntKind.u64.wrap (-(IntKind.u64.wrap b)) = ((b.natAbs : Nat) : Int) := by simp only [IntKind.wrap_u64]; omega
        rw [e, ref02_Digits_10 _ k (by omega) hk]
        have hl : (Lib.decDigits b.natAbs).length ≤ 9223372036854775806 := by
          rw [Lib.decDigits_length]
          have := nDigits_20 b.natAbs (by omega)
          omega
        simp only [Option.bind_some]
        rw [if_pos (by simp only [ByteArray.size, List.size_toArray]; omega)]
        rfl
      · rw [if_neg h2, if_neg h2]
        have e : IntKind.u64.wrap b = ((b.toNat : Nat) : Int) := by rw [IntKind.wrap_u64]; omega
        rw [e, ref02_Digits_10 _ k (by omega) hk]
        rfl
    · rw [if_neg h1, if_neg h1]
      by_cases h2 : a = 2
      · rw [if_pos h2, if_pos h2]
        have hw := wrap_u64 b
        obtain ⟨u, hu⟩ : ∃ u : Nat, IntKind.u64.wrap b = (u : Int) := ⟨_, (Int.toNat_of_nonneg hw.1).symm⟩
        rw [hu, ref02_Digits_16 _ k (by omega) hk]
        simp only [Option.bind_some]
        have := hexL_length u 16 (by omega) (by omega)
        rw [pad_loop _ _ k rfl this.2 (by omega)]
        rfl
      · rw [if_neg h2, if_neg h2, ba_eta]
  · rw [if_neg hr, if_neg hr]
end Go.Proofs.YthebhbomlllpeaaDoor.X
namespace Go.Proofs.YthebhbomlllpeaaDoor.X
set_option linter.unusedVariables false
set_option linter.unusedSimpArgs false
open Go.RowKit Go.Proofs.YthebhbomlllpeaaDoorW.PrintWords Go.Proofs.YthebhbomlllpeaaDoorW.PrintLast Go.Proofs.YthebhbomlllpeaaDoorW.PrintMore
theorem numFrom_ascii (s : ByteArray) (b : Int) (hA : ∀ c ∈ s.data.toList, c.toNat < 128) : ∀ (d pos : Nat) (n : Int), s.size - pos ≤ d →
    numFrom s b d pos n = (s.data.toList.drop pos).foldl (fun n (c : UInt8) => numStep b n (c.toNat : Int)) n := by
  have hlen : s.data.toList.length = s.size := rfl
  intro d
  induction d with
  | zero =>
    intro pos n h
    rw [List.drop_eq_nil_of_le (by omega)]; rfl
  | succ d ih =>
    intro pos n h
    simp only [numFrom]
    by_cases hp : pos < s.size
    · have hc : (s[pos]'hp).toNat < 128 := hA _ (Array.mem_toList_iff.2 (Array.getElem_mem hp))
      rw [if_pos hp, decode_ascii s pos hp hc, ih _ _ (by omega), List.drop_eq_getElem_cons (by omega : pos < s.data.toList.length), List.foldl_cons, bt_nat s pos hp]
      rfl
    · rw [if_neg hp, List.drop_eq_nil_of_le (by omega)]; rfl
theorem number_ascii (l : List UInt8) (b : Int) (hA : ∀ c ∈ l, c.toNat < 128) : antecedentref02_number.f ⟨l.toArray⟩ b = some (l.foldl (fun n (c : UInt8) => numStep b n (c.toNat : Int)) 0) := by
  unfold antecedentref02_number.f
  rw [numFrom_ascii ⟨l.toArray⟩ b (by simpa using hA) _ _ _ (by omega)]
  rfl
theorem numDig_hexc (d : Nat) (h : d < 16) : numDig ((hexc d).toNat : Int) = (d : Int) := by
  have h1 := hexc_toNat d h
  unfold numDig
  split at h1
  · rw [if_neg (by omega), h1]; omega
  · rw [if_pos (by omega), h1]; omega
theorem hexc_lt (d : Nat) (h : d < 16) : (hexc d).toNat < 128 := by
  have h1 := hexc_toNat d h
  split at h1 <;> omega
theorem tells_ascii {b : Nat} {l : Nat → List UInt8} (hT : TellsBase b l) (u : Nat) : ∀ c ∈ l u, c.toNat < 128 := by
  have hb := hT.two
  have hb2 := hT.most
  induction u using Nat.strongRecOn with
  | _ u ih =>
    intro c hc
    by_cases h : u < b
    · rw [hT.one u h, List.mem_singleton] at hc
      subst hc; exact hexc_lt u (by omega)
    · rw [hT.more u (by omega)] at hc
      have hm : u % b < b := Nat.mod_lt _ (by omega)
      rcases List.mem_append.1 hc with hc | hc
      · exact ih (u / b) (Nat.div_lt_self (by omega) (by omega)) c hc
      · rw [List.mem_singleton] at hc
        subst hc; exact hexc_lt _ (by omega)
theorem tells_fold {b : Nat} {l : Nat → List UInt8} (hT : TellsBase b l) (u : Nat) (hu : u < 18446744073709551616) :
    (l u).foldl (fun n (c : UInt8) => numStep (b : Int) n (c.toNat : Int)) 0 = (u : Int) := by
  have hb := hT.two
  have hb2 := hT.most
  induction u using Nat.strongRecOn with
  | _ u ih =>
    by_cases h : u < b
    · rw [hT.one u h]
      simp only [List.foldl_cons, List.foldl_nil, numStep, Int.zero_mul, IntKind.wrap_u64]
      rw [numDig_hexc u (by omega)]
      omega
    · have hm : u % b < b := Nat.mod_lt _ (by omega)
      have hd := Nat.div_add_mod u b
      have hle : u / b ≤ u := Nat.div_le_self _ _
      rw [hT.more u (by omega), List.foldl_append, ih (u / b) (Nat.div_lt_self (by omega) (by omega)) (by omega)]
      simp only [List.foldl_cons, List.foldl_nil, numStep, IntKind.wrap_u64]
      rw [numDig_hexc _ (by omega)]
      have e : ((u / b : Nat) : Int) * (b : Int) = ((b * (u / b) : Nat) : Int) := by rw [Nat.mul_comm]; rfl
      rw [e]
      generalize b * (u / b) = q at hd
      generalize u % b = r at hd hm
      omega
theorem zeros_fold : ∀ (n : Nat) (l : List UInt8), (List.replicate n 48 ++ l).foldl (fun n (c : UInt8) => numStep 16 n (c.toNat : Int)) 0 = l.foldl (fun n (c : UInt8) => numStep 16 n (c.toNat : Int)) 0
  | 0, l => rfl
  | n + 1, l => by
    rw [List.replicate_succ, List.cons_append, List.foldl_cons]
    have e : numStep 16 0 ((48 : UInt8).toNat : Int) = 0 := by decide +kernel
    rw [e]
    exact zeros_fold n l
theorem number_dec (u : Nat) (hu : u < 18446744073709551616) : antecedentref02_number.f ⟨(Lib.decDigits u).toArray⟩ 10 = some (u : Int) := by
  rw [number_ascii _ _ (tells_ascii tells10 u)]
  have := tells_fold tells10 u hu
  rw [show ((10 : Nat) : Int) = 10 from rfl] at this
  rw [this]
theorem number_hex16 (u : Nat) (hu : u < 18446744073709551616) : antecedentref02_number.f ⟨(hex16 u).toArray⟩ 16 = some (u : Int) := by
  unfold hex16
  rw [number_ascii _ _ (fun c hc => by
    rcases List.mem_append.1 hc with hc | hc
    · rw [(List.mem_replicate.1 hc).2]; decide
    · exact tells_ascii tells16 u c hc), zeros_fold]
  have := tells_fold tells16 u hu
  rw [show ((16 : Nat) : Int) = 16 from rfl] at this
  rw [this]
def numOf (s : ByteArray) (b : Int) : Int := numFrom s b s.size 0 0
def refCand (t : ByteArray) : Int × Int × ByteArray :=
  if bt t 0 = 35 then (2, wrap64 (numOf (t.extract 1 t.size) 16), ⟨#[]⟩)
  else if bt t 0 = 45 then (1, wrap64 (IntKind.u64.wrap (-numOf (t.extract 1 t.size) 10)), ⟨#[]⟩)
  else if 48 ≤ bt t 0 ∧ bt t 0 ≤ 57 then (1, wrap64 (numOf t 10), ⟨#[]⟩)
  else (3, 0, t)
def refR (t : ByteArray) : Int × Int × ByteArray × Int :=
  if t.size = 0 ∨ textL (refCand t).1 (refCand t).2.1 (refCand t).2.2 ≠ t.data.toList then (0, 0, ⟨#[]⟩, 2) else ((refCand t).1, (refCand t).2.1, (refCand t).2.2, 0)
theorem number_some (s : ByteArray) (b : Int) : antecedentref02_number.f s b = some (numOf s b) := rfl
theorem ref_fin (t : ByteArray) (h0 : t.size ≠ 0) (a b : Int) (s : ByteArray) (hc : refCand t = (a, b, s)) :
    (if (⟨(textL a b s).toArray⟩ : ByteArray).toList = t.toList then some (a, b, s, (0 : Int)) else some (0, 0, (⟨#[]⟩ : ByteArray), 2)) = some (refR t) := by
  unfold refR
  rw [hc, toList_data, toList_data]
  by_cases h : textL a b s = t.data.toList
  · rw [if_pos h, if_neg (by rintro (h1 | h1); exact h0 h1; exact h1 h)]
  · rw [if_neg h, if_pos (Or.inr h)]
theorem ref02_Read_eq (t : ByteArray) (k : Nat) (hk : 60 ≤ k) : antecedentref02_Read.f k t = some (refR t) := by
  obtain ⟨k, rfl⟩ : ∃ j, k = j + 1 := ⟨k - 1, by omega⟩
  unfold antecedentref02_Read.f
  by_cases h0 : t.size = 0
  · rw [if_pos ((toList_nil t).2 h0)]
    unfold refR
    rw [if_pos (Or.inl h0)]
  · rw [if_neg (fun h => h0 ((toList_nil t).1 h)), if_pos (by omega)]
    by_cases h1 : bt t 0 = 35
    · have hc : refCand t = (2, wrap64 (numOf (t.extract 1 t.size) 16), ⟨#[]⟩) := by unfold refCand; rw [if_pos h1]
      rw [if_pos h1, if_pos (by omega), number_some]
      simp only [Option.bind_some]
      rw [ref02_Text_eq _ _ _ (k + 1) (by omega) (wrap64_rng _)]
      exact ref_fin t h0 _ _ _ hc
    · rw [if_neg h1]
      by_cases h2 : bt t 0 = 45
      · have hc : refCand t = (1, wrap64 (IntKind.u64.wrap (-numOf (t.extract 1 t.size) 10)), ⟨#[]⟩) := by unfold refCand; rw [if_neg h1, if_pos h2]
        rw [if_pos h2, if_pos (by omega), number_some]
        simp only [Option.bind_some]
        rw [ref02_Text_eq _ _ _ (k + 1) (by omega) (wrap64_rng _)]
        exact ref_fin t h0 _ _ _ hc
      · rw [if_neg h2]
        have hsym : ¬ (48 ≤ bt t 0 ∧ bt t 0 ≤ 57) → antecedentref02_Read.j0 (k + 1) t false 3 0 t = some (refR t) := fun h3 => by
          have hc : refCand t = (3, 0, t) := by unfold refCand; rw [if_neg h1, if_neg h2, if_neg h3]
          simp only [antecedentref02_Read.j0, Bool.false_eq_true, if_false]
          rw [ref02_Text_eq _ _ _ k (by omega) (by omega)]
          exact ref_fin t h0 _ _ _ hc
        by_cases h3 : bt t 0 ≥ 48
        · rw [if_pos h3]
          by_cases h4 : bt t 0 ≤ 57
          · have hc : refCand t = (1, wrap64 (numOf t 10), ⟨#[]⟩) := by unfold refCand; rw [if_neg h1, if_neg h2, if_pos ⟨h3, h4⟩]
            rw [decide_eq_true h4]
            simp only [antecedentref02_Read.j0, if_true]
            rw [number_some]
            simp only [Option.bind_some]
            rw [ref02_Text_eq _ _ _ k (by omega) (wrap64_rng _)]
            exact ref_fin t h0 _ _ _ hc
          · rw [decide_eq_false h4]; exact hsym (by omega)
        · rw [if_neg h3]; exact hsym (by omega)
theorem numOf_dec (u : Nat) (hu : u < 18446744073709551616) : numOf ⟨(Lib.decDigits u).toArray⟩ 10 = (u : Int) := Option.some.inj (number_dec u hu)
theorem numOf_hex16 (u : Nat) (hu : u < 18446744073709551616) : numOf ⟨(hex16 u).toArray⟩ 16 = (u : Int) := Option.some.inj (number_hex16 u hu)
theorem cand_ref (k n : Int) (s : ByteArray) (hr : rightB k n s = true) (hn : -9223372036854775808 ≤ n ∧ n ≤ 9223372036854775807) :
    refCand (txt k n s) = (k, n, s) := by
  have ht : textL k n s = if k = 1 then Lib.itoa n else if k = 2 then 35 :: hex16 (IntKind.u64.wrap n).toNat else s.data.toList := by unfold textL; rw [if_pos hr]
  unfold txt
  rcases right_cases hr with ⟨rfl, rfl⟩ | ⟨rfl, rfl, hf⟩ | ⟨rfl, rfl, hN⟩
  · rw [if_pos rfl] at ht
    rw [ht]
    obtain ⟨c, l, he, hc⟩ := itoa_head n
    have hp := parseInt_itoa n hn
    rw [he] at hp ⊢
    unfold refCand
    rw [bt_cons]
    rcases hc with ⟨h1, h2, h3⟩ | ⟨h1, h2, h3, h4⟩
    · rw [if_neg (by omega), if_pos (by omega), extract_cons, h3, numOf_dec _ (by omega)]
      have e : (-((n.natAbs : Nat) : Int)) = n := by omega
      rw [e, wrap_back n hn]
    · rw [if_neg (by omega), if_neg (by omega), if_pos (by omega), h4, numOf_dec _ (by omega)]
      have e : ((n.toNat : Nat) : Int) = n := by omega
      rw [e]
      have : wrap64 n = n := by unfold wrap64; omega
      rw [this]
  · rw [if_neg (by omega), if_pos rfl] at ht
    rw [ht]
    have hw := wrap_u64 n
    obtain ⟨u, hu⟩ : ∃ u : Nat, IntKind.u64.wrap n = (u : Int) := ⟨_, (Int.toNat_of_nonneg hw.1).symm⟩
    rw [hu, Int.toNat_natCast]
    have hu2 : u < 18446744073709551616 := by omega
    have hb := wrap_back n hn
    rw [hu] at hb
    unfold refCand
    rw [bt_cons, if_pos (by rfl), extract_cons, numOf_hex16 u hu2, hb]
  · rw [if_neg (by omega), if_neg (by omega)] at ht
    obtain ⟨c, l, he, h1, h2⟩ := name_head hN
    rw [ht, ba_eta]
    have hs : s = ⟨(c :: l).toArray⟩ := by rw [← he, ba_eta]
    unfold refCand
    have hb : bt s 0 = (c.toNat : Int) := by rw [hs, bt_cons]
    rw [hb, if_neg (by omega), if_neg (by omega), if_neg (by omega)]
theorem refCand_rng (t : ByteArray) : -9223372036854775808 ≤ (refCand t).2.1 ∧ (refCand t).2.1 ≤ 9223372036854775807 := by
  unfold refCand
  split
  · exact wrap64_rng _
  · split
    · exact wrap64_rng _
    · split
      · exact wrap64_rng _
      · show -9223372036854775808 ≤ (0 : Int) ∧ (0 : Int) ≤ 9223372036854775807
        omega
/-- the code and the reference read alike. -/
theorem refR_eq (t : ByteArray) : refR t = readR t := by
  unfold refR readR
  by_cases h0 : t.size = 0
  · rw [if_pos (Or.inl h0), if_pos (Or.inl h0)]
  · have hd := data_ne h0
    have key : ∀ k n s, textL k n s = t.data.toList → -9223372036854775808 ≤ n ∧ n ≤ 9223372036854775807 → candR t = (k, n, s) ∧ refCand t = (k, n, s) := fun k n s h hr => by
      have h1 := (cand_code k n s (text_right (by rw [h]; exact hd)) hr).1
      have h2 := cand_ref k n s (text_right (by rw [h]; exact hd)) hr
      unfold txt at h1 h2
      rw [h, ba_eta] at h1 h2
      exact ⟨h1, h2⟩
    by_cases h1 : textL (candR t).1 (candR t).2.1 (candR t).2.2 = t.data.toList
    · obtain ⟨e1, e2⟩ := key _ _ _ h1 (candR_rng t)
      rw [e2, if_neg (by rintro (h | h); exact h0 h; exact h h1)]
    · by_cases h2 : textL (refCand t).1 (refCand t).2.1 (refCand t).2.2 = t.data.toList
      · obtain ⟨e1, e2⟩ := key _ _ _ h2 (refCand_rng t)
        rw [e1] at h1
        exact absurd h2 h1
      · rw [if_pos (Or.inr h2), if_pos (Or.inr h1)]
end Go.Proofs.YthebhbomlllpeaaDoor.X
namespace Go.Proofs.YthebhbomlllpeaaDoor.X
set_option linter.unusedVariables false
set_option linter.unusedSimpArgs false
open Go.RowKit Go.Proofs.YthebhbomlllpeaaDoorW.PrintWords Go.Proofs.YthebhbomlllpeaaDoorW.PrintLast Go.Proofs.YthebhbomlllpeaaDoorW.PrintMore
theorem u8_iff (c : UInt8) (n : Nat) (hn : n < 256) : ((c.toNat : Int) = (n : Int)) ↔ c = UInt8.ofNat n := by
  have := u8_eq_nat c n hn
  rw [← beq_iff_eq, this, beq_iff_eq]
theorem ref_sign_all : ∀ c : Fin 256, antecedentref07_sign.f (c.val : Int) = some (signB (UInt8.ofNat c.val)) := by decide +kernel
theorem ref_sign_eq (c : UInt8) : antecedentref07_sign.f (c.toNat : Int) = some (signB c) := by
  have := ref_sign_all ⟨c.toNat, c.toNat_lt⟩
  simpa using this
/-- the signs that count: small ones alone, or all. -/
def pB (b : Bool) (c : UInt8) : Bool := signB c && !(b && greatN c)
theorem runN_congr {p q : UInt8 → Bool} (h : ∀ c, p c = q c) : ∀ l, runN p l = runN q l
  | [] => rfl
  | c :: r => by simp only [runN, h c, runN_congr h r]
theorem pB_true (c : UInt8) : pB true c = lowB c := by
  unfold pB signB
  cases hl : lowB c with
  | true =>
    cases hg : greatN c with
    | true => have := great_not_low hg; rw [hl] at this; cases this
    | false => rfl
  | false => cases greatN c <;> rfl
theorem pB_false (c : UInt8) : pB false c = signB c := by unfold pB; simp
theorem ref_run_l0 (s : ByteArray) (hs : s.size ≤ 20000) (at_ : Nat) (b : Bool) : ∀ (d n k : Nat), s.size - (at_ + n) = d → at_ + n ≤ s.size → d < k → antecedentref07_run.l0 k s (at_ : Int) b (n : Int) = some ((n + runN (pB b) (s.data.toList.drop (at_ + n)) : Nat) : Int)
  | 0, n, k, hd, hn, hk => by
    obtain ⟨k, rfl⟩ : ∃ m, k = m + 1 := ⟨k - 1, by omega⟩
    simp only [antecedentref07_run.l0]
    rw [show wrap64 ((at_ : Int) + (n : Int)) = ((at_ + n : Nat) : Int) by unfold wrap64; omega, if_neg (by omega), runN_end _ _ _ (by rw [data_length]; omega)]
    rfl
  | d + 1, n, k, hd, hn, hk => by
    obtain ⟨k, rfl⟩ : ∃ m, k = m + 1 := ⟨k - 1, by omega⟩
    have hlt : at_ + n < s.size := by omega
    have ih := ref_run_l0 s hs at_ b d (n + 1) k (by omega) (by omega) (by omega)
    have hst := runN_step (pB b) s.data.toList (at_ + n) (by rw [data_length]; exact hlt)
    rw [getElem_data s _ hlt] at hst
    simp only [antecedentref07_run.l0]
    rw [show wrap64 ((at_ : Int) + (n : Int)) = ((at_ + n : Nat) : Int) by unfold wrap64; omega, if_pos (by omega), if_pos (by omega), bt_nat s _ hlt, ref_sign_eq]
    simp only [Option.bind_some]
    rw [show wrap64 ((n : Int) + 1) = ((n + 1 : Nat) : Int) by unfold wrap64; omega, ih, hst]
    generalize hc : s[at_ + n] = c
    have hstep : some (((n + 1 + runN (pB b) (s.data.toList.drop (at_ + (n + 1))) : Nat) : Int)) = some (((n + (runN (pB b) (s.data.toList.drop (at_ + n + 1)) + 1) : Nat) : Int)) := by
      rw [show at_ + (n + 1) = at_ + n + 1 by omega]; congr 1; omega
    cases hs1 : signB c with
    | false =>
      have : pB b c = false := by unfold pB; rw [hs1]; rfl
      rw [this]; simp
    | true =>
      rw [if_pos rfl]
      cases b with
      | false =>
        rw [if_neg (by simp)]
        have : pB false c = true := by rw [pB_false]; exact hs1
        rw [this, if_pos rfl]
        exact hstep
      | true =>
        rw [if_pos rfl]
        cases hg : greatN c with
        | true =>
          have h2 := hg
          unfold greatN at h2
          rw [decide_eq_true_eq] at h2
          have : pB true c = false := by unfold pB; rw [hs1, hg]; rfl
          rw [if_pos (by omega), if_pos (by omega), this]
          simp
        | false =>
          have h2 := hg
          unfold greatN at h2
          rw [decide_eq_false_iff_not] at h2
          have : pB true c = true := by unfold pB; rw [hs1, hg]; rfl
          rw [this, if_pos rfl]
          by_cases h3 : ((c.toNat : Int)) ≥ 65
          · rw [if_pos h3, if_neg (by omega)]; exact hstep
          · rw [if_neg h3]; exact hstep
theorem ref_run_eq (s : ByteArray) (hs : s.size ≤ 20000) (a : Nat) (ha : a ≤ s.size) (b : Bool) (k : Nat) (hk : s.size < k) : antecedentref07_run.f k s (a : Int) b = some ((runN (pB b) (s.data.toList.drop a) : Nat) : Int) := by
  unfold antecedentref07_run.f
  have := ref_run_l0 s hs a b _ 0 k rfl (by omega) (by omega)
  rw [Nat.zero_add] at this
  exact this
theorem ref_mark_eq (s : ByteArray) (hs : s.size ≤ 20000) (a : Nat) (ha : a < s.size) (k : Nat) (hk : 5 ≤ k) : antecedentref07_mark.f k s (a : Int) = some (if twoB (s.data.toList.drop a) then 2 else if oneB s[a] then 1 else 0) := by
  obtain ⟨k, rfl⟩ : ∃ m, k = m + 2 := ⟨k - 2, by omega⟩
  have hj1 : ∀ b : Bool, antecedentref07_mark.j1 (k + 1) s (a : Int) b = some (if b then 2 else if oneB s[a] then 1 else 0) := fun b => by
    simp only [antecedentref07_mark.j1]
    cases b with
    | true => rfl
    | false =>
      rw [if_neg (by simp), if_pos (by omega), if_pos (by omega), bt_nat s a ha]
      generalize s[a] = c
      have h : ∀ n : Nat, n < 256 → (((c.toNat : Int) = (n : Int)) ↔ c = UInt8.ofNat n) := fun n hn => by
        have := u8_eq_nat c n hn
        rw [← beq_iff_eq, this, beq_iff_eq]
      have e40 : (c.toNat : Int) = 40 ↔ c = 40 := h 40 (by omega); have e41 : (c.toNat : Int) = 41 ↔ c = 41 := h 41 (by omega); have e44 : (c.toNat : Int) = 44 ↔ c = 44 := h 44 (by omega); have e46 : (c.toNat : Int) = 46 ↔ c = 46 := h 46 (by omega); have e60 : (c.toNat : Int) = 60 ↔ c = 60 := h 60 (by omega); have e61 : (c.toNat : Int) = 61 ↔ c = 61 := h 61 (by omega); have e47 : (c.toNat : Int) = 47 ↔ c = 47 := h 47 (by omega)
      have e124 : (c.toNat : Int) = 124 ↔ c = 124 := h 124 (by omega); have e42 : (c.toNat : Int) = 42 ↔ c = 42 := h 42 (by omega); have e43 : (c.toNat : Int) = 43 ↔ c = 43 := h 43 (by omega); have e63 : (c.toNat : Int) = 63 ↔ c = 63 := h 63 (by omega); have e94 : (c.toNat : Int) = 94 ↔ c = 94 := h 94 (by omega)
      unfold oneB
      have hall : ∀ c : UInt8, ([40, 41, 44, 46, 60, 61, 47, 124, 42, 43, 63, 94] : List UInt8).contains c = decide (c = 40 ∨ c = 41 ∨ c = 44 ∨ c = 46 ∨ c = 60 ∨ c = 61 ∨ c = 47 ∨ c = 124 ∨ c = 42 ∨ c = 43 ∨ c = 63 ∨ c = 94) := fun c => by
        rw [Bool.eq_iff_iff]
        simp
      rw [hall]
      by_cases q40 : c = 40
      · rw [if_pos (e40.2 q40)]; simp [q40]
      rw [if_neg (fun z => q40 (e40.1 z))]
      by_cases q41 : c = 41
      · rw [if_pos (e41.2 q41)]; simp [q41]
      rw [if_neg (fun z => q41 (e41.1 z))]
      by_cases q44 : c = 44
      · rw [if_pos (e44.2 q44)]; simp [q44]
      rw [if_neg (fun z => q44 (e44.1 z))]
      by_cases q46 : c = 46
      · rw [if_pos (e46.2 q46)]; simp [q46]
      rw [if_neg (fun z => q46 (e46.1 z))]
      by_cases q60 : c = 60
      · rw [if_pos (e60.2 q60)]; simp [q60]
      rw [if_neg (fun z => q60 (e60.1 z))]
      by_cases q61 : c = 61
      · rw [if_pos (e61.2 q61)]; simp [q61]
      rw [if_neg (fun z => q61 (e61.1 z))]
      by_cases q47 : c = 47
      · rw [if_pos (e47.2 q47)]; simp [q47]
      rw [if_neg (fun z => q47 (e47.1 z))]
      by_cases q124 : c = 124
      · rw [if_pos (e124.2 q124)]; simp [q124]
      rw [if_neg (fun z => q124 (e124.1 z))]
      by_cases q42 : c = 42
      · rw [if_pos (e42.2 q42)]; simp [q42]
      rw [if_neg (fun z => q42 (e42.1 z))]
      by_cases q43 : c = 43
      · rw [if_pos (e43.2 q43)]; simp [q43]
      rw [if_neg (fun z => q43 (e43.1 z))]
      by_cases q63 : c = 63
      · rw [if_pos (e63.2 q63)]; simp [q63]
      rw [if_neg (fun z => q63 (e63.1 z))]
      by_cases q94 : c = 94
      · rw [if_pos (e94.2 q94)]; simp [q94]
      rw [if_neg (fun z => q94 (e94.1 z))]
      simp [q40, q41, q44, q46, q60, q61, q47, q124, q42, q43, q63, q94]
  have hj0 : ∀ z : ByteArray, antecedentref07_mark.j0 (k + 2) s (a : Int) z = some (if (z.data.toList == [60, 61] || z.data.toList == [33, 61] || z.data.toList == [58, 45] || z.data.toList == [63, 45]) then 2 else if oneB s[a] then 1 else 0) := fun z => by
    simp only [antecedentref07_mark.j0, hj1, toList_data]
    by_cases q0 : z.data.toList = [60, 61]
    · rw [if_pos q0]; simp [q0]
    rw [if_neg q0]
    by_cases q1 : z.data.toList = [33, 61]
    · rw [if_pos q1]; simp [q1]
    rw [if_neg q1]
    by_cases q2 : z.data.toList = [58, 45]
    · rw [if_pos q2]; simp [q2]
    rw [if_neg q2]
    have h0 : (z.data.toList == [60, 61]) = false := beq_eq_false_iff_ne.2 q0
    have h1 : (z.data.toList == [33, 61]) = false := beq_eq_false_iff_ne.2 q1
    have h2 : (z.data.toList == [58, 45]) = false := beq_eq_false_iff_ne.2 q2
    rw [h0, h1, h2]
    simp
  unfold antecedentref07_mark.f
  rw [show wrap64 ((a : Int) + 2) = ((a + 2 : Nat) : Int) by unfold wrap64; omega]
  by_cases h2 : a + 2 ≤ s.size
  · rw [if_pos (by omega), if_pos (by omega), if_pos (by omega), hj0, Int.toNat_natCast, Int.toNat_natCast]
    have e : (s.extract a (a + 2)).data.toList = (s.data.toList.drop a).take 2 := by
      rw [extract_list, List.take_drop, Nat.add_comm]
    rw [e]
    rfl
  · rw [if_neg (by omega), hj0]
    have e : ∀ p : List UInt8, p.length = 2 → ((s.data.toList.drop a).take 2 == p) = false := fun p hp => by
      rw [beq_eq_false_iff_ne]
      intro h
      have := congrArg List.length h
      rw [List.length_take, List.length_drop, data_length, hp] at this
      omega
    have h3 : twoB (s.data.toList.drop a) = false := by
      unfold twoB
      rw [e _ rfl, e _ rfl, e _ rfl, e _ rfl]
      rfl
    rw [h3]
    rfl
theorem ref_var_l0 (s : ByteArray) (hs : s.size ≤ 20000) : ∀ (d i k : Nat), s.size - i = d → i ≤ s.size → d < k → antecedentref07_Variable.l0 k s (i : Int) = some (decide (i + runN signB (s.data.toList.drop i) = s.size))
  | 0, i, k, hd, hi, hk => by
    obtain ⟨k, rfl⟩ : ∃ m, k = m + 1 := ⟨k - 1, by omega⟩
    simp only [antecedentref07_Variable.l0]
    rw [if_neg (by omega), runN_end _ _ _ (by rw [data_length]; omega), decide_eq_true (by omega)]
  | d + 1, i, k, hd, hi, hk => by
    obtain ⟨k, rfl⟩ : ∃ m, k = m + 1 := ⟨k - 1, by omega⟩
    have hlt : i < s.size := by omega
    have ih := ref_var_l0 s hs d (i + 1) k (by omega) (by omega) (by omega)
    have hst := runN_step signB s.data.toList i (by rw [data_length]; exact hlt)
    rw [getElem_data s _ hlt] at hst
    simp only [antecedentref07_Variable.l0]
    rw [if_pos (by omega), if_pos (by omega), bt_nat s _ hlt, ref_sign_eq, hst]
    simp only [Option.bind_some]
    cases signB s[i] with
    | true =>
      rw [if_pos rfl, if_pos rfl, show wrap64 ((i : Int) + 1) = ((i + 1 : Nat) : Int) by unfold wrap64; omega, ih]
      congr 1
      rw [Bool.eq_iff_iff, decide_eq_true_eq, decide_eq_true_eq]
      omega
    | false =>
      rw [if_neg (by simp), if_neg (by simp), decide_eq_false (by omega)]
theorem ref_var_eq (s : ByteArray) (hs : s.size ≤ 20000) (k : Nat) (hk : s.size + 2 < k) : antecedentref07_Variable.f k s = some (varL s.data.toList) := by
  obtain ⟨k, rfl⟩ : ∃ m, k = m + 1 := ⟨k - 1, by omega⟩
  unfold antecedentref07_Variable.f
  have hT : antecedentref07_Variable.j0 (k + 1) s true = some false := by simp only [antecedentref07_Variable.j0, if_true]
  by_cases h0 : s.size = 0
  · rw [if_pos (by omega), hT]
    have : s.data.toList = [] := List.eq_nil_of_length_eq_zero (by rw [data_length]; exact h0)
    rw [this]; rfl
  · have hp : 0 < s.size := by omega
    obtain ⟨r, hr⟩ := list_head hp
    have hv : varL s.data.toList = (decide (s.size ≤ 40) && (greatN s[0] && decide (runN signB s.data.toList = s.size))) := by
      rw [← data_length s, hr]; rfl
    rw [if_neg (by omega), hv]
    by_cases h40 : s.size ≤ 40
    · rw [if_neg (by omega), if_pos (by omega), decide_eq_true h40, Bool.true_and]
      have hb := bt_nat s 0 hp
      rw [show ((0 : Nat) : Int) = 0 from rfl] at hb
      rw [hb]
      cases hg : greatN s[0] with
      | true =>
        unfold greatN at hg
        rw [decide_eq_true_eq] at hg
        rw [if_neg (by omega), decide_eq_false (by omega)]
        simp only [antecedentref07_Variable.j0, Bool.false_eq_true, if_false]
        have := ref_var_l0 s hs _ 0 k rfl (Nat.zero_le _) (by omega)
        rw [Nat.zero_add, List.drop_zero] at this
        rw [show (0 : Int) = ((0 : Nat) : Int) from rfl, this, Bool.true_and]
      | false =>
        unfold greatN at hg
        rw [decide_eq_false_iff_not] at hg
        rw [Bool.false_and]
        by_cases h1 : ((s[0].toNat : Int)) < 65
        · rw [if_pos h1, hT]
        · rw [if_neg h1, decide_eq_true (by omega), hT]
    · rw [if_pos (by omega), hT, decide_eq_false h40, Bool.false_and]
theorem extract_at (s : ByteArray) (a n : Nat) : (s.extract a (a + n)).data.toList = (s.data.toList.drop a).take n := by rw [extract_list, List.take_drop]
theorem nm_at (s : ByteArray) (a n : Nat) : nmL ((s.data.toList.drop a).take n) = nameB (s.extract a (a + n)) := by
  unfold nmL
  rw [← extract_at, ba_eta]
theorem vl_at (s : ByteArray) (a n : Nat) : vlL ((s.data.toList.drop a).take n) = ((readR (s.extract a (a + n))).2.2.2 == 0) := by
  unfold vlL
  rw [← extract_at, ba_eta]
/-- what the reference's next answers. -/
def NextR2 (s : ByteArray) (a : Nat) (r : Option (Int × ByteArray × Int × Bool)) (o : Option (Nat × Nat)) : Prop := ∃ kk txt ok, r = some (kk, txt, (a : Int), ok) ∧ (∀ k' n, o = some (k', n) → kk = (k' : Int) ∧ txt = s.extract a (a + n) ∧ ok = true) ∧ (o = none → ok = false)
theorem NextR2.yes {s : ByteArray} {a k n : Nat} {r : Option (Int × ByteArray × Int × Bool)} {ok : Bool} (h : r = some ((k : Int), s.extract a (a + n), (a : Int), ok)) {o : Option (Nat × Nat)} (ho : o = if ok then some (k, n) else none) : NextR2 s a r o := by
  refine ⟨_, _, _, h, ?_, ?_⟩
  · intro k' n' he
    subst ho
    cases ok with
    | true => injection he with he; injection he with e1 e2; subst e1; subst e2; exact ⟨rfl, rfl, rfl⟩
    | false => cases he
  · intro he
    subst ho
    cases ok with
    | true => cases he
    | false => rfl
/-- the walk's cut: s[a : m]. -/
theorem cut_to (s : ByteArray) (a m : Nat) (y : Int) (hy : y = (m : Int)) (h1 : a ≤ m) (h2 : m ≤ s.size) {α : Type} (f : ByteArray → Option α) :
    (if 0 ≤ (a : Int) then (if (a : Int) ≤ y then (if y ≤ (s.size : Int) then f (s.extract (a : Int).toNat (y : Int).toNat) else none) else none) else none) = f (s.extract a m) := by
  subst hy
  rw [if_pos (by omega), if_pos (by omega), if_pos (by omega), Int.toNat_natCast, Int.toNat_natCast]
theorem ref_j2 (s : ByteArray) (hs : s.size ≤ 20000) (a : Nat) (ha : a < s.size) (k : Nat) (hk : s.size + 60 ≤ k) (b : Bool) :
    NextR2 s a (antecedentref07_next.j2 (k + 1) s (a : Int) b) (if b then (if vlL ((s.data.toList.drop a).take (1 + runN signB (s.data.toList.drop (a + 1)))) then some (3, 1 + runN signB (s.data.toList.drop (a + 1))) else none) else if twoB (s.data.toList.drop a) then some (4, 2) else if oneB s[a] then some (4, 1) else none) := by
  simp only [antecedentref07_next.j2]
  cases b with
  | true =>
    simp only [if_true]
    rw [show wrap64 ((a : Int) + 1) = ((a + 1 : Nat) : Int) by unfold wrap64; omega, ref_run_eq s hs (a + 1) (by omega) false k (by omega), runN_congr pB_false]
    have h1 := runN_le signB (s.data.toList.drop (a + 1))
    rw [List.length_drop, data_length] at h1
    generalize hn : runN signB (s.data.toList.drop (a + 1)) = n at h1
    rw [Option.bind_some]
    rw [cut_to s a (a + (1 + n)) _ (by unfold wrap64; omega) (by omega) (by omega) (fun z => (antecedentref02_Read.f k z).bind fun bt152 => some ((3 : Int), z, (a : Int), (bt152.2.2.2 == 0))), ref02_Read_eq _ k (by omega), refR_eq, vl_at]
    rw [Option.bind_some]
    exact NextR2.yes (k := 3) (n := 1 + n) rfl rfl
  | false =>
    simp only [Bool.false_eq_true, if_false]
    have h2 : twoB (s.data.toList.drop a) = true → a + 2 ≤ s.size := fun ht => by
      rcases Nat.lt_or_ge (a + 1) s.size with h | h
      · omega
      · have hal : a < s.data.toList.length := by rw [data_length]; exact ha
        have : s.data.toList.drop (a + 1) = [] := List.drop_eq_nil_of_le (by rw [data_length]; exact h)
        rw [List.drop_eq_getElem_cons hal, this] at ht
        simp [twoB] at ht
    have hm : ∃ m : Nat, antecedentref07_mark.f k s (a : Int) = some (m : Int) ∧ a + m ≤ s.size ∧ (if twoB (s.data.toList.drop a) then some (4, 2) else if oneB s[a] then some (4, 1) else none) = (if decide ((m : Int) > 0) then some (4, m) else none : Option (Nat × Nat)) := by
      rw [ref_mark_eq s hs a ha k (by omega)]
      cases ht : twoB (s.data.toList.drop a) with
      | true => exact ⟨2, rfl, h2 ht, rfl⟩
      | false =>
        cases ho : oneB s[a] with
        | true => exact ⟨1, rfl, by omega, rfl⟩
        | false => exact ⟨0, rfl, by omega, rfl⟩
    obtain ⟨m, hm1, hm2, hm3⟩ := hm
    rw [hm1, hm3]
    rw [Option.bind_some]
    rw [cut_to s a (a + m) _ (by unfold wrap64; omega) (by omega) hm2 (fun z => some ((4 : Int), z, (a : Int), decide ((m : Int) > 0)))]
    exact NextR2.yes (k := 4) (n := m) rfl rfl
theorem val_test (s : ByteArray) (hs : s.size ≤ 20000) (a : Nat) (ha : a < s.size) {α : Type} (g : Bool → Option α) (c : UInt8) :
    (if (c.toNat : Int) = 35 then g true else if (c.toNat : Int) ≥ 48 then (if (c.toNat : Int) ≤ 57 then g true else (if (c.toNat : Int) = 45 then (if (wrap64 ((a : Int) + 1)) < (s.size : Int) then (if 0 ≤ (wrap64 ((a : Int) + 1)) then (if (bt s (wrap64 ((a : Int) + 1))) ≥ 48 then g (decide ((bt s (wrap64 ((a : Int) + 1))) ≤ 57)) else g false) else none) else g false) else g false)) else (if (c.toNat : Int) = 45 then (if (wrap64 ((a : Int) + 1)) < (s.size : Int) then (if 0 ≤ (wrap64 ((a : Int) + 1)) then (if (bt s (wrap64 ((a : Int) + 1))) ≥ 48 then g (decide ((bt s (wrap64 ((a : Int) + 1))) ≤ 57)) else g false) else none) else g false) else g false)) = g (valB c (s.data.toList.drop (a + 1))) := by
  have e35 : ((c.toNat : Int) = 35) ↔ c = 35 := u8_iff c 35 (by omega)
  have e45 : ((c.toNat : Int) = 45) ↔ c = 45 := u8_iff c 45 (by omega)
  have hm : (if (c.toNat : Int) = 45 then (if (wrap64 ((a : Int) + 1)) < (s.size : Int) then (if 0 ≤ (wrap64 ((a : Int) + 1)) then (if (bt s (wrap64 ((a : Int) + 1))) ≥ 48 then g (decide ((bt s (wrap64 ((a : Int) + 1))) ≤ 57)) else g false) else none) else g false) else g false) = g (c == 45 && headDigit (s.data.toList.drop (a + 1))) := by
    by_cases h45 : c = 45
    · rw [if_pos (e45.2 h45), show wrap64 ((a : Int) + 1) = ((a + 1 : Nat) : Int) by unfold wrap64; omega]
      have : (c == 45) = true := beq_iff_eq.2 h45
      rw [this, Bool.true_and]
      by_cases hz : a + 1 < s.size
      · have hal2 : a + 1 < s.data.toList.length := by rw [data_length]; exact hz
        rw [if_pos (by omega), if_pos (by omega), bt_nat s _ hz, List.drop_eq_getElem_cons hal2, getElem_data s _ hz]
        generalize s[a + 1] = d
        have hd : headDigit (d :: s.data.toList.drop (a + 1 + 1)) = digitN d := rfl
        rw [hd]
        unfold digitN
        by_cases h48 : (d.toNat : Int) ≥ 48
        · rw [if_pos h48]; congr 1; rw [Bool.eq_iff_iff, decide_eq_true_eq, decide_eq_true_eq]; omega
        · rw [if_neg h48]; congr 1; symm; rw [decide_eq_false_iff_not]; omega
      · rw [if_neg (by omega), List.drop_eq_nil_of_le (by rw [data_length]; omega)]
        rfl
    · rw [if_neg (fun h => h45 (e45.1 h))]
      have : (c == 45) = false := beq_eq_false_iff_ne.2 h45
      rw [this, Bool.false_and]
  rw [hm]
  unfold valB
  by_cases h35 : c = 35
  · rw [if_pos (e35.2 h35)]
    have : (c == 35) = true := beq_iff_eq.2 h35
    rw [this]; rfl
  · rw [if_neg (fun h => h35 (e35.1 h))]
    have : (c == 35) = false := beq_eq_false_iff_ne.2 h35
    rw [this, Bool.false_or]
    unfold digitN
    by_cases h48 : (c.toNat : Int) ≥ 48
    · rw [if_pos h48]
      by_cases h57 : (c.toNat : Int) ≤ 57
      · rw [if_pos h57, decide_eq_true (by omega)]; rfl
      · rw [if_neg h57, decide_eq_false (by omega), Bool.false_or]
    · rw [if_neg h48, decide_eq_false (by omega), Bool.false_or]
theorem great_test (c : UInt8) {α : Type} (g : Bool → Option α) : (if (c.toNat : Int) ≥ 65 then g (decide ((c.toNat : Int) ≤ 90)) else g false) = g (greatN c) := by
  unfold greatN
  by_cases h : (c.toNat : Int) ≥ 65
  · rw [if_pos h]; congr 1; rw [Bool.eq_iff_iff, decide_eq_true_eq, decide_eq_true_eq]; omega
  · rw [if_neg h]; congr 1; symm; rw [decide_eq_false_iff_not]; omega
theorem small_test (c : UInt8) {α : Type} (g : Bool → Option α) : (if (c.toNat : Int) ≥ 97 then g (decide ((c.toNat : Int) ≤ 122)) else g false) = g (smallN c) := by
  unfold smallN
  by_cases h : (c.toNat : Int) ≥ 97
  · rw [if_pos h]; congr 1; rw [Bool.eq_iff_iff, decide_eq_true_eq, decide_eq_true_eq]; omega
  · rw [if_neg h]; congr 1; symm; rw [decide_eq_false_iff_not]; omega
theorem ref_j1 (s : ByteArray) (hs : s.size ≤ 20000) (a : Nat) (ha : a < s.size) (k : Nat) (hk : s.size + 62 ≤ k) :
    NextR2 s a (antecedentref07_next.j1 (k + 2) s (a : Int) (s[a].toNat : Int) (greatN s[a])) (if greatN s[a] then (if runN signB (s.data.toList.drop a) ≤ 40 then some (2, runN signB (s.data.toList.drop a)) else none) else if valB s[a] (s.data.toList.drop (a + 1)) then (if vlL ((s.data.toList.drop a).take (1 + runN signB (s.data.toList.drop (a + 1)))) then some (3, 1 + runN signB (s.data.toList.drop (a + 1))) else none) else if twoB (s.data.toList.drop a) then some (4, 2) else if oneB s[a] then some (4, 1) else none) := by
  have hal : a < s.data.toList.length := by rw [data_length]; exact ha
  rw [show k + 2 = (k + 1) + 1 from rfl]
  simp only [antecedentref07_next.j1]
  cases hgr : greatN s[a] with
  | true =>
    simp only [if_true]
    have hst := runN_step signB s.data.toList a hal
    have hd : s.data.toList.drop a = s[a] :: s.data.toList.drop (a + 1) := by rw [List.drop_eq_getElem_cons hal, getElem_data s a ha]
    rw [getElem_data s a ha, great_sign hgr, if_pos rfl] at hst
    have h1 := runN_le signB (s.data.toList.drop a)
    rw [List.length_drop, data_length] at h1
    have hvar : varL ((s.data.toList.drop a).take (runN signB (s.data.toList.drop a))) = decide (runN signB (s.data.toList.drop a) ≤ 40) := by
      have h2 := runN_take signB (s.data.toList.drop a)
      have h4 : ((s.data.toList.drop a).take (runN signB (s.data.toList.drop a))).length = runN signB (s.data.toList.drop a) := by rw [List.length_take, List.length_drop, data_length]; omega
      have h5 : (s.data.toList.drop a).take (runN signB (s.data.toList.drop a)) = s[a] :: (s.data.toList.drop (a + 1)).take (runN signB (s.data.toList.drop (a + 1))) := by rw [hst, hd, List.take_succ_cons]
      rw [h5] at h2 h4 ⊢
      simp only [varL]
      rw [h4, h2, hgr]
      simp
    rw [ref_run_eq s hs a (by omega) false (k + 1) (by omega), runN_congr pB_false]
    generalize hn : runN signB (s.data.toList.drop a) = n at h1 hvar
    rw [Option.bind_some]
    have hsz : (s.extract a (a + n)).size = n := by rw [ByteArray.size_extract]; omega
    rw [cut_to s a (a + n) _ (by unfold wrap64; omega) (by omega) (by omega) (fun z => (antecedentref07_Variable.f (k + 1) z).bind fun t150 => some ((2 : Int), z, (a : Int), t150)), ref_var_eq _ (by omega) (k + 1) (by omega), extract_at, hvar]
    rw [Option.bind_some]
    refine NextR2.yes (k := 2) (n := n) rfl ?_
    by_cases h40 : n ≤ 40
    · rw [if_pos h40, decide_eq_true h40]; rfl
    · rw [if_neg h40, decide_eq_false h40]; rfl
  | false =>
    simp only [Bool.false_eq_true, if_false]
    rw [val_test s hs a ha (fun b => antecedentref07_next.j2 (k + 1) s (a : Int) b) s[a]]
    exact ref_j2 s hs a ha k (by omega) _
theorem ref_next_eq (s : ByteArray) (hs : s.size ≤ 20000) (a : Nat) (ha : a < s.size) (k : Nat) (hk : s.size + 70 ≤ k) : NextR2 s a (antecedentref07_next.f k s (a : Int)) (nextN nmL vlL (s.data.toList.drop a)) := by
  obtain ⟨k, rfl⟩ : ∃ m, k = m + 3 := ⟨k - 3, by omega⟩
  have hal : a < s.data.toList.length := by rw [data_length]; exact ha
  have hd : s.data.toList.drop a = s[a] :: s.data.toList.drop (a + 1) := by rw [List.drop_eq_getElem_cons hal, getElem_data s a ha]
  have key : nextN nmL vlL (s.data.toList.drop a) = (if smallN s[a] then (if nmL ((s.data.toList.drop a).take (runN lowB (s.data.toList.drop a))) then some (1, runN lowB (s.data.toList.drop a)) else none) else (if greatN s[a] then (if runN signB (s.data.toList.drop a) ≤ 40 then some (2, runN signB (s.data.toList.drop a)) else none) else if valB s[a] (s.data.toList.drop (a + 1)) then (if vlL ((s.data.toList.drop a).take (1 + runN signB (s.data.toList.drop (a + 1)))) then some (3, 1 + runN signB (s.data.toList.drop (a + 1))) else none) else if twoB (s.data.toList.drop a) then some (4, 2) else if oneB s[a] then some (4, 1) else none)) := by
    rw [hd]
    simp only [nextN]
  rw [key]
  unfold antecedentref07_next.f
  rw [if_pos (by omega), if_pos (by omega), bt_nat s a ha, small_test s[a] (fun b => antecedentref07_next.j0 (k + 3) s (a : Int) (s[a].toNat : Int) b), show k + 3 = (k + 2) + 1 from rfl]
  simp only [antecedentref07_next.j0]
  cases hsm : smallN s[a] with
  | true =>
    simp only [if_true]
    have h1 := runN_le lowB (s.data.toList.drop a)
    rw [List.length_drop, data_length] at h1
    rw [ref_run_eq s hs a (by omega) true (k + 2) (by omega), runN_congr pB_true]
    generalize hn : runN lowB (s.data.toList.drop a) = n at h1
    rw [Option.bind_some]
    rw [cut_to s a (a + n) _ (by unfold wrap64; omega) (by omega) (by omega) (fun z => (antecedentref02_Name.f z).bind fun t148 => some ((1 : Int), z, (a : Int), t148)), nm_at]
    unfold antecedentref02_Name.f
    rw [Option.bind_some]
    exact NextR2.yes (k := 1) (n := n) rfl rfl
  | false =>
    simp only [Bool.false_eq_true, if_false]
    rw [great_test s[a] (fun b => antecedentref07_next.j1 (k + 2) s (a : Int) (s[a].toNat : Int) b)]
    exact ref_j1 s hs a ha k (by omega)
def tokS2 (s : ByteArray) (x : Nat × Nat × Nat) : S52 := ⟨x.1, s.extract x.2.1 (x.2.1 + x.2.2), x.2.1⟩
def tokRes2 (s : ByteArray) : List S52 × Int × Int := match tokN nmL vlL 0 s.data.toList with
  | .error i => ([], (i : Int), 2)
  | .ok l => (l.map (tokS2 s), 0, 0)
theorem ref_tokens_l0 (s : ByteArray) (hs : s.size ≤ 20000) : ∀ (d a : Nat) (pre : List (Nat × Nat × Nat)) (k : Nat), s.size - a ≤ d → a ≤ s.size → TokInv s.data.toList a pre → pre.length ≤ a → 2 * d + s.size + 72 ≤ k →
    antecedentref07_Tokens.l0 k s (pre.map (tokS2 s)) (a : Int) = some (tokRes2 s)
  | d, a, pre, k, hd, ha, hi, hp, hk => by
    obtain ⟨k, rfl⟩ : ∃ m, k = m + 2 := ⟨k - 2, by omega⟩
    simp only [antecedentref07_Tokens.l0]
    by_cases hlt : a < s.size
    · have hal : a < s.data.toList.length := by rw [data_length]; exact hlt
      have hg := getElem_data s a hlt hal
      have e1 : (if (bt s (a : Int)) = 32 then antecedentref07_Tokens.j1 (k + 1) s (pre.map (tokS2 s)) (a : Int) true else if (bt s (a : Int)) = 9 then antecedentref07_Tokens.j1 (k + 1) s (pre.map (tokS2 s)) (a : Int) true else antecedentref07_Tokens.j1 (k + 1) s (pre.map (tokS2 s)) (a : Int) ((bt s (a : Int)) == 10)) = antecedentref07_Tokens.j1 (k + 1) s (pre.map (tokS2 s)) (a : Int) (blankB s[a]) := by
        rw [bt_nat s a hlt]
        generalize s[a] = c
        have e32 : ((c.toNat : Int) = 32) ↔ c = 32 := u8_iff c 32 (by omega)
        have e9 : ((c.toNat : Int) = 9) ↔ c = 9 := u8_iff c 9 (by omega)
        have e10 : ((c.toNat : Int) == 10) = (c == 10) := u8_eq_nat c 10 (by omega)
        unfold blankB
        by_cases h32 : c = 32
        · rw [if_pos (e32.2 h32)]; simp [h32]
        · rw [if_neg (fun h => h32 (e32.1 h))]
          by_cases h9 : c = 9
          · rw [if_pos (e9.2 h9)]; simp [h9]
          · rw [if_neg (fun h => h9 (e9.1 h)), e10, beq_eq_false_iff_ne.2 h32, beq_eq_false_iff_ne.2 h9, Bool.false_or, Bool.false_or]
      rw [if_pos (by omega), if_pos (by omega), e1]
      simp only [antecedentref07_Tokens.j1]
      cases hb : blankB s[a] with
      | true =>
        rw [if_pos rfl, show wrap64 ((a : Int) + 1) = ((a + 1 : Nat) : Int) by unfold wrap64; omega]
        obtain ⟨d, rfl⟩ : ∃ m, d = m + 1 := ⟨d - 1, by omega⟩
        exact ref_tokens_l0 s hs d (a + 1) pre k (by omega) (by omega) (inv_blank hi hal (by rw [hg]; exact hb)) (by omega) (by omega)
      | false =>
        rw [if_neg (by simp)]
        obtain ⟨kk, txt, ok, hn, hcase, hcase2⟩ := ref_next_eq s hs a hlt k (by omega)
        rw [hn]
        simp only [Option.bind_some]
        cases hm : nextN nmL vlL (s.data.toList.drop a) with
        | none =>
          rw [hcase2 hm, if_neg (by simp)]
          have := inv_wrong hi hal (by rw [hg]; exact hb) hm
          unfold tokRes2
          rw [this]
        | some y =>
          obtain ⟨k', n⟩ := y
          obtain ⟨h1, h2, h3⟩ := hcase k' n hm
          have hpos := next_pos hm
          rw [List.length_drop, data_length] at hpos
          have hsz : txt.size = n := by rw [h2, ByteArray.size_extract]; omega
          rw [h3, if_pos rfl, if_pos (by rw [List.length_map]; omega), hsz, show wrap64 ((a : Int) + (n : Int)) = ((a + n : Nat) : Int) by unfold wrap64; omega]
          have e2 : pre.map (tokS2 s) ++ [(⟨kk, txt, (a : Int)⟩ : S52)] = (pre ++ [(k', a, n)]).map (tokS2 s) := by
            rw [List.map_append, h1, h2]; rfl
          rw [e2]
          obtain ⟨d, rfl⟩ : ∃ m, d = m + 1 := ⟨d - 1, by omega⟩
          exact ref_tokens_l0 s hs d (a + n) _ k (by omega) (by omega) (inv_more hi hal (by rw [hg]; exact hb) k' n hm) (by rw [List.length_append]; simp; omega) (by omega)
    · rw [if_neg (by omega)]
      have := inv_end hi (by rw [data_length]; omega)
      unfold tokRes2
      rw [this]
theorem ref_tokens_eq (s : ByteArray) (hs : s.size ≤ 20000) (k : Nat) (hk : 3 * s.size + 72 ≤ k) : antecedentref07_Tokens.f k s = some (tokRes2 s) := by
  unfold antecedentref07_Tokens.f
  rw [if_neg (by omega)]
  exact ref_tokens_l0 s hs s.size 0 [] k (by omega) (Nat.zero_le _) (inv_start _) (Nat.le_refl _) (by omega)
theorem lex_Key_eq (s : ByteArray) : lex_Key.f s = some (keyL s.data.toList) := by
  unfold lex_Key.f
  rw [toList_data]
  generalize s.data.toList = l
  by_cases h : l = [110, 111, 116]
  · subst h; rfl
  rw [if_neg h]
  have n0 := h
  clear h
  by_cases h : l = [105, 115]
  · subst h; rfl
  rw [if_neg h]
  have n1 := h
  clear h
  by_cases h : l = [112, 108, 117, 115]
  · subst h; rfl
  rw [if_neg h]
  have n2 := h
  clear h
  by_cases h : l = [109, 105, 110, 117, 115]
  · subst h; rfl
  rw [if_neg h]
  have n3 := h
  clear h
  by_cases h : l = [116, 105, 109, 101, 115]
  · subst h; rfl
  rw [if_neg h]
  have n4 := h
  clear h
  by_cases h : l = [119, 97, 108, 107]
  · subst h; rfl
  rw [if_neg h]
  have n5 := h
  clear h
  by_cases h : l = [99, 111, 117, 110, 116]
  · subst h; rfl
  rw [if_neg h]
  have n6 := h
  clear h
  by_cases h : l = [115, 117, 109]
  · subst h; rfl
  rw [if_neg h]
  have n7 := h
  clear h
  by_cases h : l = [109, 105, 110]
  · subst h; rfl
  rw [if_neg h]
  have n8 := h
  clear h
  by_cases h : l = [109, 97, 120]
  · subst h; rfl
  rw [if_neg h]
  have n9 := h
  clear h
  have hlast : (if l = ([109, 101, 97, 110] : List UInt8) then (some true) else (some false)) = some (l == [109, 101, 97, 110]) := by
    by_cases h : l = [109, 101, 97, 110]
    · rw [if_pos h, beq_iff_eq.2 h]
    · rw [if_neg h, beq_eq_false_iff_ne.2 h]
  rw [hlast]
  unfold keyL keysL
  simp only [List.contains_cons, List.contains_nil, Bool.or_false]
  rw [beq_eq_false_iff_ne.2 n0, beq_eq_false_iff_ne.2 n1, beq_eq_false_iff_ne.2 n2, beq_eq_false_iff_ne.2 n3, beq_eq_false_iff_ne.2 n4, beq_eq_false_iff_ne.2 n5, beq_eq_false_iff_ne.2 n6, beq_eq_false_iff_ne.2 n7, beq_eq_false_iff_ne.2 n8, beq_eq_false_iff_ne.2 n9]
  rfl
theorem ref_key_l0 (s : ByteArray) (ws : List ByteArray) (hw : ws.length ≤ 100) : ∀ (d i k : Nat), ws.length - i = d → i ≤ ws.length → d < k → antecedentref07_Key.l0 k s ws (ws.length : Int) (i : Int) = some ((ws.drop i).any fun w => w.data.toList == s.data.toList)
  | 0, i, k, hd, hi, hk => by
    obtain ⟨k, rfl⟩ : ∃ m, k = m + 1 := ⟨k - 1, by omega⟩
    simp only [antecedentref07_Key.l0]
    rw [if_neg (by omega), List.drop_eq_nil_of_le (by omega)]
    rfl
  | d + 1, i, k, hd, hi, hk => by
    obtain ⟨k, rfl⟩ : ∃ m, k = m + 1 := ⟨k - 1, by omega⟩
    have hlt : i < ws.length := by omega
    have ih := ref_key_l0 s ws hw d (i + 1) k (by omega) (by omega) (by omega)
    simp only [antecedentref07_Key.l0]
    have hrd : rdOf ByteArray.empty ws (i : Int) = ws[i] := by simp [rdOf, List.getD, hlt]
    rw [if_pos (by omega), if_pos (by omega), if_pos (by omega), hrd, toList_data, toList_data, show wrap64 ((i : Int) + 1) = ((i + 1 : Nat) : Int) by unfold wrap64; omega, ih, List.drop_eq_getElem_cons hlt, List.any_cons]
    by_cases h : ws[i].data.toList = s.data.toList
    · rw [if_pos h, beq_iff_eq.2 h]; rfl
    · rw [if_neg h, beq_eq_false_iff_ne.2 h, Bool.false_or]
theorem ref_key_eq (s : ByteArray) (k : Nat) (hk : 12 ≤ k) : antecedentref07_Key.f k s = some (keyL s.data.toList) := by
  unfold antecedentref07_Key.f
  simp only [Option.bind_some]
  have := ref_key_l0 s [(⟨#[110, 111, 116]⟩ : ByteArray), ⟨#[105, 115]⟩, ⟨#[112, 108, 117, 115]⟩, ⟨#[109, 105, 110, 117, 115]⟩, ⟨#[116, 105, 109, 101, 115]⟩, ⟨#[119, 97, 108, 107]⟩, ⟨#[99, 111, 117, 110, 116]⟩, ⟨#[115, 117, 109]⟩, ⟨#[109, 105, 110]⟩, ⟨#[109, 97, 120]⟩, ⟨#[109, 101, 97, 110]⟩] (by decide) 11 0 k rfl (by omega) (by omega)
  refine (show _ = _ from this).trans ?_
  congr 1
  unfold keyL keysL
  rw [List.contains_eq_any_beq]
  simp only [List.drop_zero, List.any_cons, List.any_nil]
  have hc : ∀ a b : List UInt8, (a == b) = (b == a) := fun a b => by rw [Bool.eq_iff_iff, beq_iff_eq, beq_iff_eq]; exact eq_comm
  rw [hc s.data.toList [110, 111, 116], hc s.data.toList [105, 115], hc s.data.toList [112, 108, 117, 115], hc s.data.toList [109, 105, 110, 117, 115], hc s.data.toList [116, 105, 109, 101, 115], hc s.data.toList [119, 97, 108, 107], hc s.data.toList [99, 111, 117, 110, 116], hc s.data.toList [115, 117, 109], hc s.data.toList [109, 105, 110], hc s.data.toList [109, 97, 120], hc s.data.toList [109, 101, 97, 110]]
end Go.Proofs.YthebhbomlllpeaaDoor.X
namespace Go.Proofs.YthebhbomlllpeaaDoor.X
set_option linter.unusedVariables false
set_option linter.unusedSimpArgs false
open Go.RowKit Go.Proofs.YthebhbomlllpeaaDoorW.PrintWords Go.Proofs.YthebhbomlllpeaaDoorW.PrintLast Go.Proofs.YthebhbomlllpeaaDoorW.PrintMore
theorem j0_true_tells (k : Nat) (a b : ByteArray) : antecedentlaw07_LexTells.j0 (k + 1) a b true = some true := by
  simp only [antecedentlaw07_LexTells.j0, if_true, awake_true, Option.bind_some]
theorem tells_rd1 (s : ByteArray) (l : List (Nat × Nat × Nat)) (i : Nat) (h : i < l.length) : rd_T34 (l.map (tokS s)) (i : Int) = tokS s l[i] := by
  unfold rd_T34
  rw [Int.toNat_natCast, List.getD_eq_getElem?_getD, List.getElem?_map, List.getElem?_eq_getElem h]
  rfl
theorem tells_rd2 (s : ByteArray) (l : List (Nat × Nat × Nat)) (i : Nat) (h : i < l.length) : rd_T52 (l.map (tokS2 s)) (i : Int) = tokS2 s l[i] := by
  unfold rd_T52
  rw [Int.toNat_natCast, List.getD_eq_getElem?_getD, List.getElem?_map, List.getElem?_eq_getElem h]
  rfl
theorem tells_same_l0 (s : ByteArray) (l : List (Nat × Nat × Nat)) (hl : l.length ≤ 20000) : ∀ (d i k : Nat), l.length - i = d → i ≤ l.length → d < k → antecedentlaw07_same.l0 k (l.map (tokS s)) (l.map (tokS2 s)) (l.length : Int) (i : Int) = some true
  | 0, i, k, hd, hi, hk => by
    obtain ⟨k, rfl⟩ : ∃ m, k = m + 1 := ⟨k - 1, by omega⟩
    simp only [antecedentlaw07_same.l0]
    rw [if_neg (by omega)]
  | d + 1, i, k, hd, hi, hk => by
    obtain ⟨k, rfl⟩ : ∃ m, k = m + 1 := ⟨k - 1, by omega⟩
    have ih := tells_same_l0 s l hl d (i + 1) k (by omega) (by omega) (by omega)
    have hil : i < l.length := by omega
    simp only [antecedentlaw07_same.l0]
    rw [if_pos (by omega), if_pos (by omega), if_pos (by rw [List.length_map]; omega), if_pos (by rw [List.length_map]; omega), tells_rd1 s l i hil, tells_rd2 s l i hil, show wrap64 ((i : Int) + 1) = ((i + 1 : Nat) : Int) by unfold wrap64; omega, ih]
    have e1 : (tokS s l[i]).f1.toList = (tokS2 s l[i]).f1.toList := by
      rw [toList_data, toList_data]
      simp only [tokS, tokS2]
      rw [extract_at, extract_list, extract_rest, List.drop_zero]
    have e0 : (tokS s l[i]).f0 = (tokS2 s l[i]).f0 := rfl
    have e2 : (tokS s l[i]).f2 = (tokS2 s l[i]).f2 := rfl
    rw [e0, e1, e2]
    simp
theorem tells_same (s : ByteArray) (hs : s.size ≤ 20000) (k : Nat) (hk : s.size + 1 ≤ k) : antecedentlaw07_same.f k (tokRes s).1 (tokRes2 s).1 = some true := by
  unfold antecedentlaw07_same.f tokRes tokRes2
  cases h : tokN nmL vlL 0 s.data.toList with
  | error i =>
    obtain ⟨k, rfl⟩ : ∃ m, k = m + 1 := ⟨k - 1, by omega⟩
    simp only [List.length_nil, if_true]
    simp only [antecedentlaw07_same.l0]
    rw [if_neg (by simp)]
  | ok l =>
    have hn := tok_count nmL vlL _ s.data.toList 0 l (Nat.le_refl _) h
    rw [data_length] at hn
    simp only [List.length_map, if_true]
    exact tells_same_l0 s l (by omega) _ 0 k rfl (Nat.zero_le _) (by omega)
theorem same_nil (k : Nat) : antecedentlaw07_same.f (k + 1) [] [] = some true := by
  unfold antecedentlaw07_same.f
  simp only [List.length_nil, if_true]
  simp only [antecedentlaw07_same.l0]
  rw [if_neg (by simp)]
theorem pureLexTells (a : ByteArray) (ha : a.size ≤ maxLen) (b : ByteArray) (hb : b.size ≤ maxLen) : ∃ k, antecedentlaw07_LexTells.f k a b = some true := by
  refine ⟨70000 + 1, ?_⟩
  unfold antecedentlaw07_LexTells.f
  rw [awake_true]
  simp only [Option.bind_some, if_true]
  have hrest : b.size ≤ 100 → (a.size ≤ 400 ∨ 20000 < a.size ∧ a.size ≤ 40000) → antecedentlaw07_LexTells.j0 (70000 + 1) a b false = some true := fun hb1 ha1 => by
    simp only [antecedentlaw07_LexTells.j0, Bool.false_eq_true, if_false]
    have hv1 := var_f b (by omega)
    have hv2 := ref_var_eq b (by omega) 70000 (by omega)
    have hk1 := lex_Key_eq b
    have hk2 := ref_key_eq b 70000 (by omega)
    have main : ∃ r r2, lex_Tokens.f a = some r ∧ antecedentref07_Tokens.f 70000 a = some r2 ∧ antecedentlaw07_same.f 70000 r.1 r2.1 = some true ∧ r.2.1 = r2.2.1 ∧ r.2.2 = r2.2.2 := by
      rcases ha1 with h | ⟨h, h'⟩
      · refine ⟨_, _, tok_f a (by omega), ref_tokens_eq a (by omega) 70000 (by omega), tells_same a (by omega) 70000 (by omega), ?_, ?_⟩
        · unfold tokRes tokRes2
          cases tokN nmL vlL 0 a.data.toList <;> rfl
        · unfold tokRes tokRes2
          cases tokN nmL vlL 0 a.data.toList <;> rfl
      · refine ⟨([], 0, 4), ([], 0, 4), by unfold lex_Tokens.f; rw [if_pos (by omega), if_pos h], by unfold antecedentref07_Tokens.f; rw [if_pos (by omega)], ?_, rfl, rfl⟩
        exact same_nil 69999
    obtain ⟨r, r2, h1, h2, h3, h4, h5⟩ := main
    rw [h1, h2]
    simp only [Option.bind_some]
    rw [h3]
    simp only [Option.bind_some, if_true]
    rw [if_pos h4, if_pos h5, hv1, hv2, hk1, hk2]
    simp
  by_cases h1 : (a.size : Int) > 400
  · rw [if_pos h1]
    by_cases h2 : (a.size : Int) ≤ 20000
    · rw [if_pos h2, j0_true_tells]
    · rw [if_neg h2]
      by_cases h3 : (a.size : Int) > 40000
      · rw [if_pos h3, j0_true_tells]
      · rw [if_neg h3]
        by_cases h4 : (b.size : Int) > 100
        · rw [decide_eq_true h4, j0_true_tells]
        · rw [decide_eq_false h4]
          exact hrest (by omega) (by omega)
  · rw [if_neg h1, if_neg (by omega)]
    by_cases h4 : (b.size : Int) > 100
    · rw [decide_eq_true h4, j0_true_tells]
    · rw [decide_eq_false h4]
      exact hrest (by omega) (by omega)
end Go.Proofs.YthebhbomlllpeaaDoor.X
namespace Go.Proofs.YthebhbomlllpeaaDoor.lexTells
set_option linter.unusedVariables false
set_option linter.unusedSimpArgs false
open Go.ChangeShapes Go.WideShapes Go.ChangeAt Go.RowKit Go.Proofs.YthebhbomlllpeaaDoor.X
open Go.ChangeMaps (open_string shut_string)
set_option maxRecDepth 100000 in
/-- WHAT THE WALK AND THE PURE STATEMENT GIVE, FOR EVERY ARGUMENT. -/
theorem contract (H : Type) (enc : TypeId × Value → H) (W : World) (base : Nat) (args : Array Value) (ds gs : List (DataW H)) (before : List MemPlace)
    (hval : ∀ (j : Nat) t v, Tryd.f3.params[j]? = some t → args[j]? = some v → Value.okWide Tryd.prog W .any base t v)
    (hW : DataW.Whole enc Tryd.prog Tryd.f3.params.toList Rows.lexTellsSpec.vars false W args.toList ds gs before) (hL : laidMetH Tryd.prog Rows.lexTellsRow.laid W) :
    Calls Tryd.prog 3 args W fun e W' => ∃ v, e = .returned v ∧ Rows.lexTellsSpec.post enc Tryd.prog Tryd.f3 false true false false W args v W' := by
  have hW' := hW
  obtain ⟨p, q, hA0, hV, rfl, hfz, hnd⟩ := hW
  have hA : DataW.TrodAll enc Tryd.prog W 0 (fun _ => true) true Tryd.f3.params.toList args.toList ds p := hA0
  rw [Tryd.params3] at hA hval
  obtain ⟨v0, vs0, d0, ds0, p0, q0, hargs, rfl, rfl, h0, r0⟩ := trodAll_cons hA
  obtain ⟨v1, vs1, d1, ds1, p1, q1, rfl, rfl, rfl, h1, r1⟩ := trodAll_cons r0
  obtain ⟨rfl, rfl, rfl⟩ := trodAll_nil r1
  obtain rfl : args = #[v0, v1] := by cases args; simp_all
  obtain ⟨rfl, rfl⟩ := trodVars_none hV
  have lt0 : ∀ x ∈ p0, x.block < W.heap.size := by obtain ⟨m, hm⟩ := h0; exact DataW.trod_lt m _ _ _ hm
  have g0 := h0
  obtain ⟨x0, rfl, rfl, rfl, hb0⟩ := open_string Tryd.underlying9 (hval 0 9 v0 rfl rfl) h0
  have lt1 : ∀ x ∈ p1, x.block < W.heap.size := by obtain ⟨m, hm⟩ := h1; exact DataW.trod_lt m _ _ _ hm
  have g1 := h1
  obtain ⟨x1, rfl, rfl, rfl, hb1⟩ := open_string Tryd.underlying9 (hval 1 9 v1 rfl rfl) h1
  clear hA0
  simp only [List.append_nil] at hW'
  obtain ⟨k, hk⟩ := pureLexTells x0 hb0 x1 hb1
  refine (antecedentlaw07_LexTells.calls k x0 x1 true W (laidW_of hL)  hk).mono ?_
  rintro e W' ⟨rfl, bel⟩
  exact ⟨_, rfl, _, _, _, [], _, [], hW', trodAll_mk1 (shut_bool Tryd.underlying4 _), (trodAll_cons_mk (shut_string Tryd.underlying9 hb0) (trodAll_cons_mk (shut_string Tryd.underlying9 hb1) trodAll_mk0)), rfl, bel.frame _, fun h => by cases h⟩
theorem reads (os : Os) {H : Type} (enc : TypeId × Value → H) : ∃ places, DataW.whole enc Tryd.prog ((laidWorld os).forCall (fun _ _ => 0) ⟨#[], #[.string ⟨#[]⟩, .string ⟨#[]⟩], []⟩).memory Tryd.f3.params.toList Rows.lexTellsSpec.vars false (#[.string ⟨#[]⟩, .string ⟨#[]⟩] : Array Value).toList 8 = some ([.lit (.string []), .lit (.string [])], [], places) :=
  ⟨[], by kernel_rfl⟩
set_option maxRecDepth 100000 in
theorem lifted (os : Os) (started : os.Started) (H : Type) (enc : TypeId × Value → H) (F : Stop.Interp) :
    ReturnsInHanded {} Tryd.checked os 3 .any ((OpenSpec.ofChange Rows.lexTellsSpec).preRow enc Tryd.prog Tryd.f3 Rows.lexTellsRow.domain false Rows.lexTellsRow.laid) (((OpenSpec.ofChange Rows.lexTellsSpec).at F).post enc Tryd.prog Tryd.f3 false true false false) := by
  obtain ⟨places, hx⟩ := reads os enc
  refine returnsInHanded_of_row (C := Tryd.checked) (s := OpenSpec.ofChange Rows.lexTellsSpec) own started (by kernel_rfl) Tryd.func3
    (witness_row_at (enc := enc) (C := Tryd.checked) false (laidWorld os) #[.string ⟨#[]⟩, .string ⟨#[]⟩] rfl (by kernel_rfl) (by kernel_rfl) (by kernel_rfl)
      (OpenSpec.preRow_of_cond 8 hx (by kernel_rfl) (fun k hk => by cases hk) (by kernel_rfl) (laid_met os _))) ?_
  intro W base args ds gs before hval hW _ _ _ hL _ _
  exact contract H enc W base args ds gs before hval hW hL
theorem said : Rows.LexTellsSaid :=
  OpenClaim.holds_of_cond 3 Tryd.f3 rfl rfl rfl rfl rfl rfl rfl ⟨rfl, rfl, rfl, rfl, rfl⟩ rfl rfl rfl rfl rfl (by kernel_rfl) Tryd.func3 (by kernel_rfl)
    (of_decide_eq_true (by kernel_rfl)) (by unfold Func.isWrapper; first | (rw [if_pos (by decide +kernel)]; kernel_rfl) | (rw [if_neg (by decide +kernel)]; exact ⟨rfl, rfl⟩))
    (fun os started H enc _ F => by rw [OpenClaim.pre_eq_preRow]; exact lifted os started H enc F)
theorem plain (f : FuncId) (fn : Func) (hf : Tryd.pinned.checked.prog.funcNamed "antecedent/antecedentlaw07.LexTells" = some f) (hfn : Tryd.pinned.checked.prog.funcs[f]? = some fn) :
    true = Tryd.pinned.checked.prog.looks [] ∧ ∀ (j : Nat) t, fn.params[j]? = some t → Tryd.pinned.checked.prog.wantsStandIn t = false := by
  obtain rfl : f = 3 := Option.some.inj ((show Tryd.prog.funcNamed "antecedent/antecedentlaw07.LexTells" = some 3 by kernel_rfl).symm.trans hf) |>.symm
  obtain rfl : fn = Tryd.f3 := (Option.some.inj (Tryd.func3.symm.trans hfn)).symm
  refine ⟨by kernel_rfl, fun j t ht => ?_⟩
  rw [Tryd.params3] at ht
  have hm : t ∈ [9, 9] := by simpa using Array.mem_of_getElem? ht
  have hall : ([9, 9].all fun u => !Tryd.prog.wantsStandIn u) = true := by kernel_rfl
  exact (show Tryd.prog.wantsStandIn t = false by simpa using List.all_eq_true.1 hall t hm)
theorem card : Rows.LexTellsCardSaid :=
  Claim7.holds_tied_plain_at .later [] _ _ _ _ said (fun _ h => by cases h) (by kernel_rfl) (fun _ h => by cases h) lexTells_row_tie rfl ⟨rfl, rfl⟩ (by kernel_rfl) rfl plain (by kernel_rfl)
end Go.Proofs.YthebhbomlllpeaaDoor.lexTells
namespace Go.Proofs.YthebhbomlllpeaaDoor
/-- The card, under a short name, for the claim. -/
theorem lexTells_holds : Rows.LexTellsCardSaid := lexTells.card
#print axioms lexTells_holds
end Go.Proofs.YthebhbomlllpeaaDoor
