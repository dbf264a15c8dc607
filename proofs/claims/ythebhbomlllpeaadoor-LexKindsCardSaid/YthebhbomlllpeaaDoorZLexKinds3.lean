/-
  The statement LexKinds, for every input.
-/
import Derived.Test.YthebhbomlllpeaaDoorCards
import Derived.Test.YthebhbomlllpeaaDoorTie
import Derived.Test.YthebhbomlllpeaaDoorProg
import Derived.Below
import Derived.Deep.Draws
import Derived.Deep.AppendLies
import Derived.Maps.AppendAt
import Derived.OwnWalk
import Derived.Laws.BytesArg
import Derived.Laws.MakeOwn
import Derived.Laws.OwnMore
import Derived.Deep.OwnRows
import Derived.Tactics
import Derived.Lib.ConvBytes
import Derived.Laws.Slices
import Derived.WalkKit
import Derived.KernelRfl
import Derived.RowKit3
import Derived.Deep.LoopGhost
import Derived.Deep.QuietTactic
import Derived.BigQuiet
import Derived.WideLaws
import Derived.Deep.DeepCutAuto
import Derived.Deep.CutBlock
import Derived.Deep.RegionHeld3
import Derived.Laws.Rows
import Derived.Lib.AppendStr
import Derived.ArgAppend
import Derived.Laws.IdiomCopy
import Derived.OrdersHeld
import Derived.Laws.BitsLemmas
import Derived.RowKit
import Derived.Lib.SmallJoins
import Derived.Lib.ItoaMem
import Derived.Test.YthebhbomlllpeaaDoorWWords
import Derived.Test.YthebhbomlllpeaaDoorWLast
import Derived.Test.YthebhbomlllpeaaDoorWTab
import Derived.Test.YthebhbomlllpeaaDoorWFour
import Derived.Test.YthebhbomlllpeaaDoorWQPut
import Derived.Test.YthebhbomlllpeaaDoorWApart
import Derived.Test.YthebhbomlllpeaaDoorWArr
import Derived.Test.YthebhbomlllpeaaDoorWZeros
import Derived.Test.YthebhbomlllpeaaDoorWFoot
import Derived.Test.YthebhbomlllpeaaDoorWKept
import Derived.Test.YthebhbomlllpeaaDoorWShare
import Derived.Test.YthebhbomlllpeaaDoorWN
import Derived.Test.YthebhbomlllpeaaDoorWFootNe
import Derived.Test.YthebhbomlllpeaaDoorWAt
import Derived.Test.YthebhbomlllpeaaDoorWEqStruct
import Derived.Test.YthebhbomlllpeaaDoorWRepsOne
import Derived.Test.YthebhbomlllpeaaDoorWInv
import Derived.Test.YthebhbomlllpeaaDoorWInvWords
import Derived.Test.YthebhbomlllpeaaDoorWGuard
import Derived.Test.YthebhbomlllpeaaDoorWNEv
import Derived.Test.YthebhbomlllpeaaDoorWMore
import Derived.Test.YthebhbomlllpeaaDoorRows
import Derived.Deep.Slices
import Derived.Deep.Fields
import Derived.ChangeSame
import Derived.ProofKit
import Derived.OpenShut
import Derived.Deep.DeepHandedRow
import Derived.Lib.LaidTab
import Derived.LaidMore
import Derived.Stop.LaidErr
import Derived.MakeChecks
import Derived.Shelf.Strings.Builder1
import Derived.Shelf.Strings.Builder2
import Derived.Shelf.Strings.OnBuilder
import Derived.Shelf.Small.Strs
import Derived.Shelf.Small.Wraps
import Derived.Shelf.Strings.BuilderF
import Derived.Shelf.Strings.BuilderK
import Derived.Shelf.Strings.Builder2Cap
import Derived.Shelf.Strconv.Itoa0
import Derived.Shelf.Strconv.Itoa1
import Derived.Shelf.LaysM
import Derived.Shelf.Strconv.Itoa2
import Derived.Shelf.Strconv.Itoa3
import Derived.Shelf.Strconv.Itoa4
import Derived.Shelf.Strconv.ParseIntEmpty
import Derived.Shelf.Strconv.Clone
import Derived.Shelf.Strconv.SyntaxError
import Derived.Shelf.LaysC
import Derived.Shelf.Strconv.ToError
import Derived.Shelf.Strconv.Lower
import Derived.Shelf.Strconv.ParseUint10
import Derived.Shelf.Strconv.ParseUint10Empty
import Derived.Shelf.Strconv.ParseUint10Any
import Derived.Shelf.Strconv.ParseInt10
import Derived.Shelf.Strconv.RangeError
import Derived.Shelf.Strconv.ToErrorRange
import Derived.Shelf.Strconv.ParseUintEmpty
import Derived.Shelf.Strconv.ParseUint10b64
import Derived.Shelf.Strconv.ParseUint10b32
import Derived.Shelf.Strconv.ParseUint10b16
import Derived.Shelf.Strconv.ParseUint10b8
import Derived.Shelf.Strconv.ParseUint10At
import Derived.Shelf.Strconv.ParseInt10At64
import Derived.Shelf.Strconv.ParseInt10At32
import Derived.Shelf.Strconv.ParseInt10At16
import Derived.Shelf.Strconv.ParseInt10At8
import Derived.Shelf.Strconv.ParseInt10All
import Derived.Shelf.Strconv.ParseIntPublic10
import Derived.Shelf.Strconv.ErrVarParseInt
import Derived.Ground.MpProg
import Derived.Shelf.Pu.ParseUintPublic10
import Derived.Shelf.Pu.ErrVarParseUint
import Derived.Shelf.Strings.Search1
import Derived.Shelf.Strings.Prefix
import Derived.Shelf.Bits.Mul64
import Derived.Shelf.Strings.Repeat
import Derived.Shelf.Strings.BuilderCap
import Derived.Laws.NewBlocks
import Derived.Lib.AtoiAllMem
import Derived.Lib.ParseIntB
import Derived.Lib.Hide
import Derived.Laws.Strings3
import Derived.Laws.Closers25
import Derived.Laws.Closers25b
import Derived.BigCall
import Derived.BigGuard
import Derived.Laws.RangeAny
import Derived.Laws.RangeString
import Derived.Lib.ParseIntBTie
import Init
import Derived.Recover
import Derived.WalkLawsBesides
import Derived.Test.YthebhbomlllpeaaDoorZLexKinds2
namespace Go.Proofs.YthebhbomlllpeaaDoor.X
open Go.RowKit Go.Proofs.YthebhbomlllpeaaDoorW.PrintWords Go.Proofs.YthebhbomlllpeaaDoorW.PrintLast Go.Proofs.YthebhbomlllpeaaDoorW.PrintMore
attribute [local go_sem] max2_int min2_int max_two min_two max_three min_three max_four min_four
set_option linter.unusedVariables false
set_option linter.unusedSimpArgs false
mutual
def antecedentlaw07_LexKinds.j0 : Nat → ByteArray → ByteArray → Bool → Int → Int → ByteArray → Option (Bool)
  | 0, _, _, _, _, _, _ => none
  | k + 1, x0, x2, x30, x228000, x228001, x228002 => if x30 = true then ((antecedentlaw07_awake.f).bind fun t229 => (some t229)) else ((lex_Tokens.f x0).bind fun bt230 => (antecedentlaw07_LexKinds.l0 k x2 bt230.1 bt230.2.2 (bt230.1.length : Int) 0 x228000 x228001 x228002))
def antecedentlaw07_LexKinds.l0 : Nat → ByteArray → List (S34) → Int → Int → Int → Int → Int → ByteArray → Option (Bool)
  | 0, _, _, _, _, _, _, _, _ => none
  | k + 1, x2, x7, x9, x39, x40, x228000, x228001, x228002 => if x40 < x39 then (if 0 ≤ x40 then (if x40 < (x7.length : Int) then ((value_Read.f ((rd_T34 x7 x40).f1)).bind fun bt236 => (if ((rd_T34 x7 x40).f0) = 1 then ((value_Name.f k ((rd_T34 x7 x40).f1)).bind fun t243 => (if t243 = true then (antecedentlaw07_LexKinds.l0 k x2 x7 x9 x39 (wrap64 (x40 + 1)) x228000 x228001 x228002) else (some false))) else (if ((rd_T34 x7 x40).f0) = 2 then ((lex_Variable.f ((rd_T34 x7 x40).f1)).bind fun t245 => (if t245 = true then (antecedentlaw07_LexKinds.l0 k x2 x7 x9 x39 (wrap64 (x40 + 1)) x228000 x228001 x228002) else (some false))) else (if ((rd_T34 x7 x40).f0) = 3 then (if bt236.2.2.2 = 0 then (if bt236.1 = 3 then (some false) else (antecedentlaw07_LexKinds.l0 k x2 x7 x9 x39 (wrap64 (x40 + 1)) x228000 x228001 x228002)) else (some false)) else (antecedentlaw07_LexKinds.l0 k x2 x7 x9 x39 (wrap64 (x40 + 1)) x228000 x228001 x228002))))) else (none)) else (none)) else (if x9 = 0 then (antecedentlaw07_LexKinds.j2 k x2 false x228000 x228001 x228002) else (antecedentlaw07_LexKinds.j2 k x2 (decide ((x7.length : Int) > 0)) x228000 x228001 x228002))
def antecedentlaw07_LexKinds.j2 : Nat → ByteArray → Bool → Int → Int → ByteArray → Option (Bool)
  | 0, _, _, _, _, _ => none
  | k + 1, x2, x91, x228000, x228001, x228002 => if x91 = true then (some false) else ((value_Text.f x228000 x228001 x228002).bind fun t246 => ((lex_Tokens.f t246).bind fun bt247 => ((value_Right.f k x228000 x228001 x228002).bind fun t252 => (if t252 = true then (if bt247.2.2 = 0 then (if (bt247.1.length : Int) = 1 then (if 0 < (bt247.1.length : Int) then (antecedentlaw07_LexKinds.j3 k x2 ((((rd_T34 bt247.1 0).f0) == 1) != (x228000 == 3))) else (none)) else (antecedentlaw07_LexKinds.j3 k x2 true)) else (antecedentlaw07_LexKinds.j3 k x2 true)) else (antecedentlaw07_LexKinds.j3 k x2 false)))))
def antecedentlaw07_LexKinds.j3 : Nat → ByteArray → Bool → Option (Bool)
  | 0, _, _ => none
  | k + 1, x2, x120 => if x120 = true then (some false) else ((lex_Tokens.f x2).bind fun bt254 => ((lex_Variable.f x2).bind fun t259 => (if t259 = true then (if bt254.2.2 = 0 then (if (bt254.1.length : Int) = 1 then (if 0 < (bt254.1.length : Int) then (some (((rd_T34 bt254.1 0).f0) == 2)) else (none)) else (some false)) else (some false)) else (some true))))
end
def antecedentlaw07_LexKinds.f (k : Nat) (a0 : ByteArray) (a1_0 : Int) (a1_1 : Int) (a1_2 : ByteArray) (a2 : ByteArray) : Option (Bool) := (antecedentlaw07_awake.f).bind fun t228 => (if t228 = true then (if (a0.size : Int) > 400 then (antecedentlaw07_LexKinds.j0 k a0 a2 true a1_0 a1_1 a1_2) else (antecedentlaw07_LexKinds.j0 k a0 a2 (decide ((a2.size : Int) > 100)) a1_0 a1_1 a1_2)) else (antecedentlaw07_LexKinds.j0 k a0 a2 true a1_0 a1_1 a1_2))
def antecedentlaw07_LexKinds.T22 : Bool × List (List Nat × List Nat) := (true, [([], []), ([0], [0]), ([1, 1], [1]), ([2], [2]), ([3, 2], [2, 3]), ([4, 2, 2], [2, 4]), ([5], [5]), ([6, 5], [5, 6]), ([7, 5], [5, 7]), ([5, 8, 2], [2, 5, 8]), ([9, 5, 2], [2, 9]), ([10], [10]), ([11, 10], [10, 11]), ([12, 10], [10, 12]), ([13, 10], [10, 13]), ([14, 10], [10, 14]), ([10], [10]), ([16, 10], [10, 16]), ([17, 10], [10, 17]), ([15, 18, 10], [10, 15, 18]), ([10, 19, 2], [2, 10, 19]), ([2, 20], [2, 20])])
def antecedentlaw07_LexKinds.B22 : List Nat := [0, 1, 3, 7, 15, 31, 63, 127, 255, 511, 1023, 2047, 4095, 8191, 16383, 32767, 2047, 67583, 198655, 524287, 1048575, 2097151]
theorem antecedentlaw07_LexKinds.tab22 : rtab .any (opsOf Tryd.f6 22) = antecedentlaw07_LexKinds.T22 := by kernel_rfl
theorem antecedentlaw07_LexKinds.bits22 : waitsOk antecedentlaw07_LexKinds.T22.2 antecedentlaw07_LexKinds.B22 = true := by kernel_rfl
set_option maxHeartbeats 8000000 in
set_option maxRecDepth 100000 in
theorem antecedentlaw07_LexKinds.calls (k : Nat) (a0 : ByteArray) (a1_0 : Int) (a1_1 : Int) (a1_2 : ByteArray) (a2 : ByteArray) (r : Bool) (w : World) (hLW : LaidW w) (h : antecedentlaw07_LexKinds.f k a0 a1_0 a1_1 a1_2 a2 = some r) :
    Calls Tryd.prog 6 #[.string a0, .agg #[.int .i64 a1_0, .int .i64 a1_1, .string a1_2], .string a2] w fun e w' => e = .returned (.bool r) ∧ Below w.heap.size w w' := by
  have hu36 := Tryd.underlying36
  have HLW := Aside0.mk hLW
  clear hLW
  have HB := Aside0.mk (Below.refl w.heap.size w)
  have H : ((antecedentlaw07_awake.f).bind fun t228 => (if t228 = true then (if (a0.size : Int) > 400 then (antecedentlaw07_LexKinds.j0 k a0 a2 true a1_0 a1_1 a1_2) else (antecedentlaw07_LexKinds.j0 k a0 a2 (decide ((a2.size : Int) > 100)) a1_0 a1_1 a1_2)) else (antecedentlaw07_LexKinds.j0 k a0 a2 true a1_0 a1_1 a1_2))) = some r := h
  clear h
  have HC4 := Aside0.mk H
  clear H
  go_enter Tryd.func6, Tryd.ntmps6
  go_upto_region 1 with (first | ((with_reducible refine gate_dst (N := 4) rfl ?_); (try (refine gate_guard (by rfl) ?_; dsimp only)); refine box_event ?hg (N := 4) ?hd (cs := #[.int .i64 a1_0, .int .i64 a1_1, .string a1_2]) (t := 36) ?hr ?_; (case hd => rfl); (case hg => rfl); (case hr => first | (go_simp; done) | (go_simp; rfl)); intro gb227 hg w5 hbox hb; have n0_ := Aside0.mk (below_step (by repeat (first | (with_reducible first | exact HB.out | apply below_alloc | apply pw_below_drewN | apply below_drew1) | exact HB.out)) hb); have n1_ := Aside0.mk (hbox); have n2_ := Aside0.mk ((by rw [hg]; exact (below_size (by repeat (first | (with_reducible first | exact HB.out | apply below_alloc | apply pw_below_drewN | apply below_drew1) | exact HB.out))) : w.heap.size ≤ gb227)); have n3_ := Aside0.mk ((by rw [hg]; exact (below_size (by repeat (first | (with_reducible first | exact HB.out | apply below_alloc | apply pw_below_drewN | apply below_drew1) | exact HB.out))) : w.heap.size ≤ gb227)); clear HB; have HB := n0_; have BK227 := n1_; have GW227 := n2_; have GE227 := n3_; clear n0_ n1_ n2_ n3_; clear hb hbox hg))
  (try simp only [Act.put, List.setIfInBounds_toArray, List.set_cons_zero, List.set_cons_succ])
  go_cut [30] (fun v30 wc => ∃ (kq : Nat) (x30_3 : Bool), v30 = .bool x30_3 ∧ Aside0 (antecedentlaw07_LexKinds.j0 kq a0 a2 x30_3 a1_0 a1_1 a1_2 = some r) ∧ Aside0 (kq ≤ k) ∧ Aside0 (wc.heap[gb227]? = some (.cells #[.int .i64 a1_0, .int .i64 a1_1, .string a1_2] 36 (0, 0))) ∧ Aside0 (Below w.heap.size w wc))
  case first =>
    have H := HC4.out
    clear HC4
    replace H := Option.bind_eq_some_iff.mp H
    obtain ⟨t228, A60, H⟩ := H
    replace H : (if t228 = true then (if (a0.size : Int) > 400 then (antecedentlaw07_LexKinds.j0 k a0 a2 true a1_0 a1_1 a1_2) else (antecedentlaw07_LexKinds.j0 k a0 a2 (decide ((a2.size : Int) > 100)) a1_0 a1_1 a1_2)) else (antecedentlaw07_LexKinds.j0 k a0 a2 true a1_0 a1_1 a1_2)) = some r := H
    have A6 := Aside0.mk A60
    clear A60
    by_cases c7 : t228 = true
    · subst c7
      have H1 : (if (a0.size : Int) > 400 then (antecedentlaw07_LexKinds.j0 k a0 a2 true a1_0 a1_1 a1_2) else (antecedentlaw07_LexKinds.j0 k a0 a2 (decide ((a2.size : Int) > 100)) a1_0 a1_1 a1_2)) = some r := by rw [if_pos rfl] at H; exact H
      clear H
      have H := H1
      clear H1
      by_cases c8 : (a0.size : Int) > 400
      · rw [if_pos c8] at H
        have c8b0 : decide (400 < (a0.size : Int)) = true := decide_eq_true c8
        have c8b1 : decide (400 < a0.size) = true := decide_eq_true (by omega)
        clear c8
        (first | rw [c8b0] | (simp only [i64_w, i32_w]; rw [c8b0]) | skip)
        have H' := Aside0.mk H
        clear H
        go_wp2_with (first | ((with_reducible refine gate_callee (f := 10) rfl ?_); refine goesL_ (some 19) rfl rfl Tryd.func10 (by kernel_rfl) rfl #[] rfl (by (try simp only [List.map_toArray, List.map_cons, List.map_nil]); first | done | rfl | (simp only [List.length_drop, List.length_take]; rfl)) ?_; (with_reducible refine (antecedentlaw07_awake.calls  true _ ?side1 A6.out).mono ?_); (case side1 => (first | (refine LaidW.below HLW.out ?_; (repeat (first | (with_reducible first | exact HB.out | apply below_alloc | apply pw_below_drewN | apply below_drew1 | refine below_set ?_ GE227.out) | exact HB.out)); done) | (repeat (first | exact HLW.out | apply LaidW.drewN | apply LaidW.drew | apply LaidW.alloc)))); rintro e w9 ⟨rfl, hb⟩; refine ⟨_, rfl, ?_⟩; have n0_ := Aside0.mk (blk_below (g := gb227) (o := .cells #[.int .i64 a1_0, .int .i64 a1_1, .string a1_2] 36 (0, 0)) (by (with_reducible repeat (first | refine blk_drewN ?_ _ | refine blk_drew ?_ | refine blk_alloc ?_ _)); exact BK227.out) hb); have n1_ := Aside0.mk (below_step (by repeat (first | (with_reducible first | exact HB.out | apply below_alloc | apply pw_below_drewN | apply below_drew1 | refine below_set ?_ GE227.out) | exact HB.out)) hb); clear BK227; clear HB; have BK227 := n0_; have HB := n1_; clear n0_ n1_; (try clear hb); (try clear hb2); (try clear hk); (try clear hi)))
        go_meet
        case rel => exact ⟨_, (true), (by first | rfl | (simp; done) | (simp [*]; done)), H', ⟨by first | omega | exact Nat.le_refl _⟩, ⟨by (with_reducible repeat (first | refine blk_drewN ?_ _ | refine blk_drew ?_ | refine blk_alloc ?_ _)); exact BK227.out⟩, ⟨by repeat (first | (with_reducible first | exact HB.out | apply below_alloc | apply pw_below_drewN | apply below_drew1 | refine below_set ?_ GE227.out) | exact HB.out)⟩⟩
      · rw [if_neg c8] at H
        have c8b0 : decide (400 < (a0.size : Int)) = false := decide_eq_false c8
        have c8b1 : decide (400 < a0.size) = false := decide_eq_false (by omega)
        clear c8
        (first | rw [c8b0] | (simp only [i64_w, i32_w]; rw [c8b0]) | skip)
        have H' := Aside0.mk H
        clear H
        go_wp2_with (first | ((with_reducible refine gate_callee (f := 10) rfl ?_); refine goesL_ (some 19) rfl rfl Tryd.func10 (by kernel_rfl) rfl #[] rfl (by (try simp only [List.map_toArray, List.map_cons, List.map_nil]); first | done | rfl | (simp only [List.length_drop, List.length_take]; rfl)) ?_; (with_reducible refine (antecedentlaw07_awake.calls  true _ ?side1 A6.out).mono ?_); (case side1 => (first | (refine LaidW.below HLW.out ?_; (repeat (first | (with_reducible first | exact HB.out | apply below_alloc | apply pw_below_drewN | apply below_drew1 | refine below_set ?_ GE227.out) | exact HB.out)); done) | (repeat (first | exact HLW.out | apply LaidW.drewN | apply LaidW.drew | apply LaidW.alloc)))); rintro e w10 ⟨rfl, hb⟩; refine ⟨_, rfl, ?_⟩; have n0_ := Aside0.mk (blk_below (g := gb227) (o := .cells #[.int .i64 a1_0, .int .i64 a1_1, .string a1_2] 36 (0, 0)) (by (with_reducible repeat (first | refine blk_drewN ?_ _ | refine blk_drew ?_ | refine blk_alloc ?_ _)); exact BK227.out) hb); have n1_ := Aside0.mk (below_step (by repeat (first | (with_reducible first | exact HB.out | apply below_alloc | apply pw_below_drewN | apply below_drew1 | refine below_set ?_ GE227.out) | exact HB.out)) hb); clear BK227; clear HB; have BK227 := n0_; have HB := n1_; clear n0_ n1_; (try clear hb); (try clear hb2); (try clear hk); (try clear hi)))
        go_meet
        case rel => exact ⟨_, (decide ((a2.size : Int) > 100)), (by first | rfl | (simp; done) | (simp [*]; done)), H', ⟨by first | omega | exact Nat.le_refl _⟩, ⟨by (with_reducible repeat (first | refine blk_drewN ?_ _ | refine blk_drew ?_ | refine blk_alloc ?_ _)); exact BK227.out⟩, ⟨by repeat (first | (with_reducible first | exact HB.out | apply below_alloc | apply pw_below_drewN | apply below_drew1 | refine below_set ?_ GE227.out) | exact HB.out)⟩⟩
    · replace c7 := Bool.eq_false_iff.mpr c7
      subst c7
      have H1 : (antecedentlaw07_LexKinds.j0 k a0 a2 true a1_0 a1_1 a1_2) = some r := by rw [if_neg (show ¬ (false = true) by decide)] at H; exact H
      clear H
      have H := H1
      clear H1
      have H' := Aside0.mk H
      clear H
      go_wp2_with (first | ((with_reducible refine gate_callee (f := 10) rfl ?_); refine goesL_ (some 19) rfl rfl Tryd.func10 (by kernel_rfl) rfl #[] rfl (by (try simp only [List.map_toArray, List.map_cons, List.map_nil]); first | done | rfl | (simp only [List.length_drop, List.length_take]; rfl)) ?_; (with_reducible refine (antecedentlaw07_awake.calls  false _ ?side1 A6.out).mono ?_); (case side1 => (first | (refine LaidW.below HLW.out ?_; (repeat (first | (with_reducible first | exact HB.out | apply below_alloc | apply pw_below_drewN | apply below_drew1 | refine below_set ?_ GE227.out) | exact HB.out)); done) | (repeat (first | exact HLW.out | apply LaidW.drewN | apply LaidW.drew | apply LaidW.alloc)))); rintro e w11 ⟨rfl, hb⟩; refine ⟨_, rfl, ?_⟩; have n0_ := Aside0.mk (blk_below (g := gb227) (o := .cells #[.int .i64 a1_0, .int .i64 a1_1, .string a1_2] 36 (0, 0)) (by (with_reducible repeat (first | refine blk_drewN ?_ _ | refine blk_drew ?_ | refine blk_alloc ?_ _)); exact BK227.out) hb); have n1_ := Aside0.mk (below_step (by repeat (first | (with_reducible first | exact HB.out | apply below_alloc | apply pw_below_drewN | apply below_drew1 | refine below_set ?_ GE227.out) | exact HB.out)) hb); clear BK227; clear HB; have BK227 := n0_; have HB := n1_; clear n0_ n1_; (try clear hb); (try clear hb2); (try clear hk); (try clear hi)))
      go_meet
      case rel => exact ⟨_, (true), (by first | rfl | (simp; done) | (simp [*]; done)), H', ⟨by first | omega | exact Nat.le_refl _⟩, ⟨by (with_reducible repeat (first | refine blk_drewN ?_ _ | refine blk_drew ?_ | refine blk_alloc ?_ _)); exact BK227.out⟩, ⟨by repeat (first | (with_reducible first | exact HB.out | apply below_alloc | apply pw_below_drewN | apply below_drew1 | refine below_set ?_ GE227.out) | exact HB.out)⟩⟩
  case rest =>
    clear HC4
    try clear c1
    try clear p2
    try clear c6
    try clear c7
    try clear c8
    try clear c8b0
    try clear c8b1
    try clear c10
    obtain ⟨kq, x30_3, rfl, HA, HJ3, BK227, HB⟩ := hcut
    cases kq with
    | zero => exact absurd HA.out (by simp [antecedentlaw07_LexKinds.j0])
    | succ kj3 =>
      have H := HA.out
      clear HA
      simp only [antecedentlaw07_LexKinds.j0] at H
      by_cases c12 : x30_3 = true
      · subst c12
        have H1 : ((antecedentlaw07_awake.f).bind fun t229 => (some t229)) = some r := by rw [if_pos rfl] at H; exact H
        clear H
        have H := H1
        clear H1
        replace H := Option.bind_eq_some_iff.mp H
        obtain ⟨t229, A130, H⟩ := H
        replace H : (some t229) = some r := H
        have A13 := Aside0.mk A130
        clear A130
        obtain rfl := Option.some.inj H
        go_wp2_with (first | ((with_reducible refine gate_callee (f := 10) rfl ?_); refine goesL_ (some 31) rfl rfl Tryd.func10 (by kernel_rfl) rfl #[] rfl (by (try simp only [List.map_toArray, List.map_cons, List.map_nil]); first | done | rfl | (simp only [List.length_drop, List.length_take]; rfl)) ?_; (with_reducible refine (antecedentlaw07_awake.calls  t229 _ ?side1 A13.out).mono ?_); (case side1 => (first | (refine LaidW.below HLW.out ?_; (repeat (first | (with_reducible first | exact HB.out | apply below_alloc | apply pw_below_drewN | apply below_drew1 | refine below_set ?_ GE227.out) | exact HB.out)); done) | (repeat (first | exact HLW.out | apply LaidW.drewN | apply LaidW.drew | apply LaidW.alloc)))); rintro e w14 ⟨rfl, hb⟩; refine ⟨_, rfl, ?_⟩; have n0_ := Aside0.mk (blk_below (g := gb227) (o := .cells #[.int .i64 a1_0, .int .i64 a1_1, .string a1_2] 36 (0, 0)) (by (with_reducible repeat (first | refine blk_drewN ?_ _ | refine blk_drew ?_ | refine blk_alloc ?_ _)); exact BK227.out) hb); have n1_ := Aside0.mk (below_step (by repeat (first | (with_reducible first | exact HB.out | apply below_alloc | apply pw_below_drewN | apply below_drew1 | refine below_set ?_ GE227.out) | exact HB.out)) hb); clear BK227; clear HB; have BK227 := n0_; have HB := n1_; clear n0_ n1_; (try clear hb); (try clear hb2); (try clear hk); (try clear hi)))
        go_ret
        exact ⟨by first | rfl | (simp [errW_none, errW_some] <;> rfl) | (simp [*, errW_none, errW_some] <;> rfl), by repeat (first | (with_reducible first | exact HB.out | apply below_alloc | apply pw_below_drewN | apply below_drew1 | refine below_set ?_ GE227.out) | exact HB.out)⟩
      · replace c12 := Bool.eq_false_iff.mpr c12
        subst c12
        have H1 : ((lex_Tokens.f a0).bind fun bt230 => (antecedentlaw07_LexKinds.l0 kj3 a2 bt230.1 bt230.2.2 (bt230.1.length : Int) 0 a1_0 a1_1 a1_2)) = some r := by rw [if_neg (show ¬ (false = true) by decide)] at H; exact H
        clear H
        have H := H1
        clear H1
        replace H := Option.bind_eq_some_iff.mp H
        obtain ⟨⟨t230, t231, t232⟩, A150, H⟩ := H
        replace H : (antecedentlaw07_LexKinds.l0 kj3 a2 t230 t232 (t230.length : Int) 0 a1_0 a1_1 a1_2) = some r := H
        have A15 := Aside0.mk A150
        clear A150
        have H' := Aside0.mk H
        clear H
        go_wp2_with (first | ((with_reducible refine gate_callee (f := 11) rfl ?_); refine goesL_ (some 34) rfl rfl Tryd.func11 (by kernel_rfl) rfl #[.string a0] rfl (by (try simp only [List.map_toArray, List.map_cons, List.map_nil]); first | done | rfl | (simp only [List.length_drop, List.length_take]; rfl)) ?_; (with_reducible refine (lex_Tokens.calls a0 t230 t231 t232 _ ?side1 A15.out).mono ?_); (case side1 => (first | (refine LaidW.below HLW.out ?_; (repeat (first | (with_reducible first | exact HB.out | apply below_alloc | apply pw_below_drewN | apply below_drew1 | refine below_set ?_ GE227.out) | exact HB.out)); done) | (repeat (first | exact HLW.out | apply LaidW.drewN | apply LaidW.drew | apply LaidW.alloc)))); rintro e w16 ⟨v233, rfl, ho0, hb⟩; refine ⟨_, rfl, ?_⟩; have n0_ := Aside0.mk (Kd.R_lower ho0 (below_size (by repeat (first | (with_reducible first | exact HB.out | apply below_alloc | apply pw_below_drewN | apply below_drew1 | refine below_set ?_ GE227.out) | exact HB.out)))); have n1_ := Aside0.mk (blk_below (g := gb227) (o := .cells #[.int .i64 a1_0, .int .i64 a1_1, .string a1_2] 36 (0, 0)) (by (with_reducible repeat (first | refine blk_drewN ?_ _ | refine blk_drew ?_ | refine blk_alloc ?_ _)); exact BK227.out) hb); have n2_ := Aside0.mk (below_step (by repeat (first | (with_reducible first | exact HB.out | apply below_alloc | apply pw_below_drewN | apply below_drew1 | refine below_set ?_ GE227.out) | exact HB.out)) hb); clear BK227; clear HB; have HO234 := n0_; have BK227 := n1_; have HB := n2_; clear n0_ n1_ n2_; (try clear hb); (try clear hb2); (try clear hk); (try clear hi); (try clear ho0); obtain ⟨Ao17, co17, eo17⟩ := Kd.R_slice HO234.out; subst eo17))
        go_loopg [40] kj3 (fun kq v40 w' => ∃ (x40_2 : Int), v40 = .int .i64 x40_2 ∧ Aside0 (antecedentlaw07_LexKinds.l0 kq a2 t230 t232 (t230.length : Int) x40_2 a1_0 a1_1 a1_2 = some r) ∧ Aside0 (kq ≤ kj3) ∧ Aside0 (Kd.R k34 34 w' w.heap.size (fun _ => True) (.slice Ao17 t230.length co17) t230) ∧ Aside0 (w'.heap[gb227]? = some (.cells #[.int .i64 a1_0, .int .i64 a1_1, .string a1_2] 36 (0, 0))) ∧ Aside0 (Below w.heap.size w w'))
        case atStart => exact ⟨(0), (by first | rfl | (simp; done) | (simp [*]; done)), H', ⟨Nat.le_refl _⟩, ⟨by (with_reducible repeat (first | apply Kd.R_alloc | apply Kd.R_drewN | apply Kd.R_drew)); exact HO234.out⟩, ⟨by (with_reducible repeat (first | refine blk_drewN ?_ _ | refine blk_drew ?_ | refine blk_alloc ?_ _)); exact BK227.out⟩, ⟨by repeat (first | (with_reducible first | exact HB.out | apply below_alloc | apply pw_below_drewN | apply below_drew1 | refine below_set ?_ GE227.out) | exact HB.out)⟩⟩
        case round =>
          clear H'
          try clear c1
          try clear p2
          try clear c6
          try clear c7
          try clear c8
          try clear c8b0
          try clear c8b1
          try clear c10
          try clear c11
          try clear c12
          try clear p2
          obtain ⟨x40_2, rfl, HA, HK2, HO_7, BK227, HB⟩ := hrel
          cases gk with
          | zero => exact absurd HA.out (by simp [antecedentlaw07_LexKinds.l0])
          | succ k2 =>
            have H := HA.out
            clear HA
            simp only [antecedentlaw07_LexKinds.l0] at H
            by_cases c18 : x40_2 < (t230.length : Int)
            · rw [if_pos c18] at H
              have c18b0 : decide (x40_2 < (t230.length : Int)) = true := decide_eq_true c18
              clear c18
              by_cases c19 : 0 ≤ x40_2
              · rw [if_pos c19] at H
                have c19b0 : decide (0 ≤ x40_2) = true := decide_eq_true c19
                clear c19
                by_cases c20 : x40_2 < (t230.length : Int)
                · rw [if_pos c20] at H
                  have c20b0 : decide (x40_2 < (t230.length : Int)) = true := decide_eq_true c20
                  clear c20
                  replace H := Option.bind_eq_some_iff.mp H
                  obtain ⟨⟨t236, t237, t238, t239⟩, A210, H⟩ := H
                  replace H : (if ((rd_T34 t230 x40_2).f0) = 1 then ((value_Name.f k2 ((rd_T34 t230 x40_2).f1)).bind fun t243 => (if t243 = true then (antecedentlaw07_LexKinds.l0 k2 a2 t230 t232 (t230.length : Int) (wrap64 (x40_2 + 1)) a1_0 a1_1 a1_2) else (some false))) else (if ((rd_T34 t230 x40_2).f0) = 2 then ((lex_Variable.f ((rd_T34 t230 x40_2).f1)).bind fun t245 => (if t245 = true then (antecedentlaw07_LexKinds.l0 k2 a2 t230 t232 (t230.length : Int) (wrap64 (x40_2 + 1)) a1_0 a1_1 a1_2) else (some false))) else (if ((rd_T34 t230 x40_2).f0) = 3 then (if t239 = 0 then (if t236 = 3 then (some false) else (antecedentlaw07_LexKinds.l0 k2 a2 t230 t232 (t230.length : Int) (wrap64 (x40_2 + 1)) a1_0 a1_1 a1_2)) else (some false)) else (antecedentlaw07_LexKinds.l0 k2 a2 t230 t232 (t230.length : Int) (wrap64 (x40_2 + 1)) a1_0 a1_1 a1_2)))) = some r := H
                  have A21 := Aside0.mk A210
                  clear A210
                  by_cases c22 : ((rd_T34 t230 x40_2).f0) = 1
                  · rw [if_pos c22] at H
                    have c22b0 : (((rd_T34 t230 x40_2).f0) == 1) = true := beq_iff_eq.mpr c22
                    have c22b1 : (((rd_T34 t230 x40_2).f0) != 1) = false := bne_eq_false_iff_eq.mpr c22
                    clear c22
                    replace H := Option.bind_eq_some_iff.mp H
                    obtain ⟨t243, A230, H⟩ := H
                    replace H : (if t243 = true then (antecedentlaw07_LexKinds.l0 k2 a2 t230 t232 (t230.length : Int) (wrap64 (x40_2 + 1)) a1_0 a1_1 a1_2) else (some false)) = some r := H
                    have A23 := Aside0.mk A230
                    clear A230
                    by_cases c24 : t243 = true
                    · subst c24
                      have H1 : (antecedentlaw07_LexKinds.l0 k2 a2 t230 t232 (t230.length : Int) (wrap64 (x40_2 + 1)) a1_0 a1_1 a1_2) = some r := by rw [if_pos rfl] at H; exact H
                      clear H
                      have H := H1
                      clear H1
                      have H' := Aside0.mk H
                      clear H
                      have p235 : 0 ≤ (x40_2 : Int) := of_decide_eq_true (by first | (with_reducible assumption) | assumption)
                      have q235 : x40_2 < (t230.length : Int) := of_decide_eq_true (by first | (with_reducible assumption) | assumption)
                      obtain ⟨ad235, e235, hx235_0, hx235_1, hx235_2⟩ := at_T34 (Kd.R_reads' HO_7.out).2.2 x40_2 p235 q235
                      cases e235
                      replace p235 := eq_true p235
                      replace q235 := eq_true q235
                      go_wp2_with (first | ((with_reducible refine gate_callee (f := 18) rfl ?_); refine goesL_ (some 49) rfl rfl Tryd.func18 (by kernel_rfl) rfl #[.string ((rd_T34 t230 x40_2).f1)] rfl (by (try simp only [List.map_toArray, List.map_cons, List.map_nil]); first | done | rfl | (simp only [List.length_drop, List.length_take]; rfl)) ?_; (with_reducible refine (value_Read.calls ((rd_T34 t230 x40_2).f1) t236 t237 t238 t239 _ ?side1 A21.out).mono ?_); (case side1 => (first | (refine LaidW.below HLW.out ?_; (repeat (first | (with_reducible first | exact HB.out | apply below_alloc | apply pw_below_drewN | apply below_drew1 | refine below_set ?_ GE227.out) | exact HB.out)); done) | (repeat (first | exact HLW.out | apply LaidW.drewN | apply LaidW.drew | apply LaidW.alloc)))); rintro e w25 ⟨rfl, hb⟩; refine ⟨_, rfl, ?_⟩; have n0_ := Aside0.mk (Kd.R_below (by (with_reducible repeat (first | apply Kd.R_alloc | apply Kd.R_drewN | apply Kd.R_drew)); exact HO_7.out) hb); have n1_ := Aside0.mk (blk_below (g := gb227) (o := .cells #[.int .i64 a1_0, .int .i64 a1_1, .string a1_2] 36 (0, 0)) (by (with_reducible repeat (first | refine blk_drewN ?_ _ | refine blk_drew ?_ | refine blk_alloc ?_ _)); exact BK227.out) hb); have n2_ := Aside0.mk (below_step (by repeat (first | (with_reducible first | exact HB.out | apply below_alloc | apply pw_below_drewN | apply below_drew1 | refine below_set ?_ GE227.out) | exact HB.out)) hb); clear HO_7; clear BK227; clear HB; have HO_7 := n0_; have BK227 := n1_; have HB := n2_; clear n0_ n1_ n2_; (try clear hb); (try clear hb2); (try clear hk); (try clear hi)) | ((with_reducible refine gate_dst (N := 11) rfl ?_); (try (refine gate_guard (by rfl) ?_; dsimp only)); refine box_event ?hg (N := 11) ?hd (cs := #[.int .i64 0, .int .i64 0, .string (⟨#[]⟩ : ByteArray)]) (t := 36) ?hr ?_; (case hd => rfl); (case hg => rfl); (case hr => first | (go_simp; done) | (go_simp; rfl)); intro gb240 hg w26 hbox hb; have n0_ := Aside0.mk (Kd.R_below (by (with_reducible repeat (first | apply Kd.R_alloc | apply Kd.R_drewN | apply Kd.R_drew)); exact HO_7.out) hb); have n1_ := Aside0.mk (blk_below (g := gb227) (o := .cells #[.int .i64 a1_0, .int .i64 a1_1, .string a1_2] 36 (0, 0)) (by (with_reducible repeat (first | refine blk_drewN ?_ _ | refine blk_drew ?_ | refine blk_alloc ?_ _)); exact BK227.out) hb); have n2_ := Aside0.mk (below_step (by repeat (first | (with_reducible first | exact HB.out | apply below_alloc | apply pw_below_drewN | apply below_drew1 | refine below_set ?_ GE227.out) | exact HB.out)) hb); have n3_ := Aside0.mk (hbox); have n4_ := Aside0.mk ((by rw [hg]; exact (below_size (by repeat (first | (with_reducible first | exact HB.out | apply below_alloc | apply pw_below_drewN | apply below_drew1 | refine below_set ?_ GE227.out) | exact HB.out))) : w.heap.size ≤ gb240)); have n5_ := Aside0.mk ((by rw [hg]; exact (below_size (by repeat (first | (with_reducible first | exact HB.out | apply below_alloc | apply pw_below_drewN | apply below_drew1 | refine below_set ?_ GE227.out) | exact HB.out))) : w.heap.size ≤ gb240)); have n6_ := Aside0.mk ((by rw [hg]; exact Nat.ne_of_lt (blk_lt (g := gb227) (o := .cells #[.int .i64 a1_0, .int .i64 a1_1, .string a1_2] 36 (0, 0)) (by (with_reducible repeat (first | refine blk_drewN ?_ _ | refine blk_drew ?_ | refine blk_alloc ?_ _)); exact BK227.out)) : gb227 ≠ gb240)); have n7_ := Aside0.mk ((by rw [hg]; exact Nat.ne_of_gt (blk_lt (g := gb227) (o := .cells #[.int .i64 a1_0, .int .i64 a1_1, .string a1_2] 36 (0, 0)) (by (with_reducible repeat (first | refine blk_drewN ?_ _ | refine blk_drew ?_ | refine blk_alloc ?_ _)); exact BK227.out)) : gb240 ≠ gb227)); clear HO_7; clear BK227; clear HB; have HO_7 := n0_; have BK227 := n1_; have HB := n2_; have BK240 := n3_; have GW240 := n4_; have GE240 := n5_; have NB227_240 := n6_; have NB240_227 := n7_; clear n0_ n1_ n2_ n3_ n4_ n5_ n6_ n7_; clear hb hbox hg; have hnb27 := NB240_227.out; have hnc27 := NB227_240.out; have hcz28_0 : w26.cell? ⟨gb240, 0, none⟩ = some (.int .i64 0) := (blk_cell BK240.out 0).trans rfl; have hcz28_1 : w26.cell? ⟨gb240, 1, none⟩ = some (.int .i64 0) := (blk_cell BK240.out 1).trans rfl; have hcz28_2 : w26.cell? ⟨gb240, 2, none⟩ = some (.string (⟨#[]⟩ : ByteArray)) := (blk_cell BK240.out 2).trans rfl; have hfz28_0 := blk_frozen BK240.out 0; have hfz28_1 := blk_frozen BK240.out 1; have hfz28_2 := blk_frozen BK240.out 2; have p241 : 0 ≤ (x40_2 : Int) := of_decide_eq_true (by first | (with_reducible assumption) | assumption); have q241 : x40_2 < (t230.length : Int) := of_decide_eq_true (by first | (with_reducible assumption) | assumption); obtain ⟨ad241, e241, hx241_0, hx241_1, hx241_2⟩ := at_T34 (Kd.R_reads' HO_7.out).2.2 x40_2 p241 q241; obtain rfl : ad235 = ad241 := (by injection e241); have hn241_0 : ad235.block ≠ gb240 := Kd.own_blk (Kd.R_ne HO_7.out BK240.out (by decide)); have hn241_1 : ad235.block ≠ gb240 := Kd.own_blk (Kd.R_ne HO_7.out BK240.out (by decide)); have hn241_2 : ad235.block ≠ gb240 := Kd.own_blk (Kd.R_ne HO_7.out BK240.out (by decide)); replace hx241_0 := (cell_far (p := ⟨gb240, 0, none⟩) (by first | (rw [add_block]; exact hn241_0) | (show (Addr.add _ _).block ≠ _; rw [add_block]; exact hn241_0) | exact hn241_0) (.int .i64 t236)).trans hx241_0; replace hx241_1 := (cell_far (p := ⟨gb240, 0, none⟩) (by first | (rw [add_block]; exact hn241_0) | (show (Addr.add _ _).block ≠ _; rw [add_block]; exact hn241_0) | exact hn241_0) (.int .i64 t236)).trans hx241_1; replace hx241_2 := (cell_far (p := ⟨gb240, 0, none⟩) (by first | (rw [add_block]; exact hn241_0) | (show (Addr.add _ _).block ≠ _; rw [add_block]; exact hn241_0) | exact hn241_0) (.int .i64 t236)).trans hx241_2; replace hx241_0 := (cell_far (p := ⟨gb240, 1, none⟩) (by first | (rw [add_block]; exact hn241_1) | (show (Addr.add _ _).block ≠ _; rw [add_block]; exact hn241_1) | exact hn241_1) (.int .i64 t237)).trans hx241_0; replace hx241_1 := (cell_far (p := ⟨gb240, 1, none⟩) (by first | (rw [add_block]; exact hn241_1) | (show (Addr.add _ _).block ≠ _; rw [add_block]; exact hn241_1) | exact hn241_1) (.int .i64 t237)).trans hx241_1; replace hx241_2 := (cell_far (p := ⟨gb240, 1, none⟩) (by first | (rw [add_block]; exact hn241_1) | (show (Addr.add _ _).block ≠ _; rw [add_block]; exact hn241_1) | exact hn241_1) (.int .i64 t237)).trans hx241_2; replace hx241_0 := (cell_far (p := ⟨gb240, 2, none⟩) (by first | (rw [add_block]; exact hn241_2) | (show (Addr.add _ _).block ≠ _; rw [add_block]; exact hn241_2) | exact hn241_2) (.string t238)).trans hx241_0; replace hx241_1 := (cell_far (p := ⟨gb240, 2, none⟩) (by first | (rw [add_block]; exact hn241_2) | (show (Addr.add _ _).block ≠ _; rw [add_block]; exact hn241_2) | exact hn241_2) (.string t238)).trans hx241_1; replace hx241_2 := (cell_far (p := ⟨gb240, 2, none⟩) (by first | (rw [add_block]; exact hn241_2) | (show (Addr.add _ _).block ≠ _; rw [add_block]; exact hn241_2) | exact hn241_2) (.string t238)).trans hx241_2; clear hn241_0; clear hn241_1; clear hn241_2; replace p241 := eq_true p241; replace q241 := eq_true q241; have p242 : 0 ≤ (x40_2 : Int) := of_decide_eq_true (by first | (with_reducible assumption) | assumption); have q242 : x40_2 < (t230.length : Int) := of_decide_eq_true (by first | (with_reducible assumption) | assumption); obtain ⟨ad242, e242, hx242_0, hx242_1, hx242_2⟩ := at_T34 (Kd.R_reads' HO_7.out).2.2 x40_2 p242 q242; obtain rfl : ad235 = ad242 := (by injection e242); have hn242_0 : ad235.block ≠ gb240 := Kd.own_blk (Kd.R_ne HO_7.out BK240.out (by decide)); have hn242_1 : ad235.block ≠ gb240 := Kd.own_blk (Kd.R_ne HO_7.out BK240.out (by decide)); have hn242_2 : ad235.block ≠ gb240 := Kd.own_blk (Kd.R_ne HO_7.out BK240.out (by decide)); replace hx242_0 := (cell_far (p := ⟨gb240, 0, none⟩) (by first | (rw [add_block]; exact hn242_0) | (show (Addr.add _ _).block ≠ _; rw [add_block]; exact hn242_0) | exact hn242_0) (.int .i64 t236)).trans hx242_0; replace hx242_1 := (cell_far (p := ⟨gb240, 0, none⟩) (by first | (rw [add_block]; exact hn242_0) | (show (Addr.add _ _).block ≠ _; rw [add_block]; exact hn242_0) | exact hn242_0) (.int .i64 t236)).trans hx242_1; replace hx242_2 := (cell_far (p := ⟨gb240, 0, none⟩) (by first | (rw [add_block]; exact hn242_0) | (show (Addr.add _ _).block ≠ _; rw [add_block]; exact hn242_0) | exact hn242_0) (.int .i64 t236)).trans hx242_2; replace hx242_0 := (cell_far (p := ⟨gb240, 1, none⟩) (by first | (rw [add_block]; exact hn242_1) | (show (Addr.add _ _).block ≠ _; rw [add_block]; exact hn242_1) | exact hn242_1) (.int .i64 t237)).trans hx242_0; replace hx242_1 := (cell_far (p := ⟨gb240, 1, none⟩) (by first | (rw [add_block]; exact hn242_1) | (show (Addr.add _ _).block ≠ _; rw [add_block]; exact hn242_1) | exact hn242_1) (.int .i64 t237)).trans hx242_1; replace hx242_2 := (cell_far (p := ⟨gb240, 1, none⟩) (by first | (rw [add_block]; exact hn242_1) | (show (Addr.add _ _).block ≠ _; rw [add_block]; exact hn242_1) | exact hn242_1) (.int .i64 t237)).trans hx242_2; replace hx242_0 := (cell_far (p := ⟨gb240, 2, none⟩) (by first | (rw [add_block]; exact hn242_2) | (show (Addr.add _ _).block ≠ _; rw [add_block]; exact hn242_2) | exact hn242_2) (.string t238)).trans hx242_0; replace hx242_1 := (cell_far (p := ⟨gb240, 2, none⟩) (by first | (rw [add_block]; exact hn242_2) | (show (Addr.add _ _).block ≠ _; rw [add_block]; exact hn242_2) | exact hn242_2) (.string t238)).trans hx242_1; replace hx242_2 := (cell_far (p := ⟨gb240, 2, none⟩) (by first | (rw [add_block]; exact hn242_2) | (show (Addr.add _ _).block ≠ _; rw [add_block]; exact hn242_2) | exact hn242_2) (.string t238)).trans hx242_2; clear hn242_0; clear hn242_1; clear hn242_2; replace p242 := eq_true p242; replace q242 := eq_true q242) | ((with_reducible refine gate_callee (f := 19) rfl ?_); refine goesL_ (some 64) rfl rfl Tryd.func19 (by kernel_rfl) rfl #[.string ((rd_T34 t230 x40_2).f1)] rfl (by (try simp only [List.map_toArray, List.map_cons, List.map_nil]); first | done | rfl | (simp only [List.length_drop, List.length_take]; rfl)) ?_; (with_reducible refine (value_Name.calls k2 ((rd_T34 t230 x40_2).f1) true _ A23.out).mono ?_); rintro e w' ⟨rfl, ⟨nd, rfl⟩⟩; refine ⟨_, rfl, ?_⟩))
                      go_roundg k2
                      case measure => have := HJ3.out; have := HK2.out; omega
                      case rel => exact ⟨(wrap64 (x40_2 + 1)), (by first | rfl | (simp; done) | (simp [*]; done)), H', ⟨by have := HJ3.out; have := HK2.out; omega⟩, ⟨by (with_reducible repeat (first | apply Kd.R_alloc | apply Kd.R_drewN | apply Kd.R_drew)); exact Kd.R_mono (Kd.R_far (p := ⟨gb240, 2, none⟩) (Kd.R_far (p := ⟨gb240, 1, none⟩) (Kd.R_far (p := ⟨gb240, 0, none⟩) (Kd.R_types HO_7.out BK240.out (by decide)) (fun _ hk => hk.2) (.int .i64 t236)) (fun _ hk => hk.2) (.int .i64 t237)) (fun _ hk => hk.2) (.string t238)) (fun _ hk => trivial)⟩, ⟨by (with_reducible repeat (first | refine blk_drewN ?_ _ | refine blk_drew ?_ | refine blk_alloc ?_ _)); refine blk_far ?_ NB227_240.out _; (with_reducible repeat (first | refine blk_drewN ?_ _ | refine blk_drew ?_ | refine blk_alloc ?_ _)); refine blk_far ?_ NB227_240.out _; (with_reducible repeat (first | refine blk_drewN ?_ _ | refine blk_drew ?_ | refine blk_alloc ?_ _)); refine blk_far ?_ NB227_240.out _; (with_reducible repeat (first | refine blk_drewN ?_ _ | refine blk_drew ?_ | refine blk_alloc ?_ _)); exact BK227.out⟩, ⟨by repeat (first | (with_reducible first | exact HB.out | apply below_alloc | apply pw_below_drewN | apply below_drew1 | refine below_set ?_ GE227.out | refine below_set ?_ GE240.out) | exact HB.out)⟩⟩
                    · replace c24 := Bool.eq_false_iff.mpr c24
                      subst c24
                      have H1 : (some false) = some r := by rw [if_neg (show ¬ (false = true) by decide)] at H; exact H
                      clear H
                      have H := H1
                      clear H1
                      obtain rfl := Option.some.inj H
                      have p235 : 0 ≤ (x40_2 : Int) := of_decide_eq_true (by first | (with_reducible assumption) | assumption)
                      have q235 : x40_2 < (t230.length : Int) := of_decide_eq_true (by first | (with_reducible assumption) | assumption)
                      obtain ⟨ad235, e235, hx235_0, hx235_1, hx235_2⟩ := at_T34 (Kd.R_reads' HO_7.out).2.2 x40_2 p235 q235
                      cases e235
                      replace p235 := eq_true p235
                      replace q235 := eq_true q235
                      go_wp2_with (first | ((with_reducible refine gate_callee (f := 18) rfl ?_); refine goesL_ (some 49) rfl rfl Tryd.func18 (by kernel_rfl) rfl #[.string ((rd_T34 t230 x40_2).f1)] rfl (by (try simp only [List.map_toArray, List.map_cons, List.map_nil]); first | done | rfl | (simp only [List.length_drop, List.length_take]; rfl)) ?_; (with_reducible refine (value_Read.calls ((rd_T34 t230 x40_2).f1) t236 t237 t238 t239 _ ?side1 A21.out).mono ?_); (case side1 => (first | (refine LaidW.below HLW.out ?_; (repeat (first | (with_reducible first | exact HB.out | apply below_alloc | apply pw_below_drewN | apply below_drew1 | refine below_set ?_ GE227.out) | exact HB.out)); done) | (repeat (first | exact HLW.out | apply LaidW.drewN | apply LaidW.drew | apply LaidW.alloc)))); rintro e w29 ⟨rfl, hb⟩; refine ⟨_, rfl, ?_⟩; have n0_ := Aside0.mk (Kd.R_below (by (with_reducible repeat (first | apply Kd.R_alloc | apply Kd.R_drewN | apply Kd.R_drew)); exact HO_7.out) hb); have n1_ := Aside0.mk (blk_below (g := gb227) (o := .cells #[.int .i64 a1_0, .int .i64 a1_1, .string a1_2] 36 (0, 0)) (by (with_reducible repeat (first | refine blk_drewN ?_ _ | refine blk_drew ?_ | refine blk_alloc ?_ _)); exact BK227.out) hb); have n2_ := Aside0.mk (below_step (by repeat (first | (with_reducible first | exact HB.out | apply below_alloc | apply pw_below_drewN | apply below_drew1 | refine below_set ?_ GE227.out) | exact HB.out)) hb); clear HO_7; clear BK227; clear HB; have HO_7 := n0_; have BK227 := n1_; have HB := n2_; clear n0_ n1_ n2_; (try clear hb); (try clear hb2); (try clear hk); (try clear hi)) | ((with_reducible refine gate_dst (N := 11) rfl ?_); (try (refine gate_guard (by rfl) ?_; dsimp only)); refine box_event ?hg (N := 11) ?hd (cs := #[.int .i64 0, .int .i64 0, .string (⟨#[]⟩ : ByteArray)]) (t := 36) ?hr ?_; (case hd => rfl); (case hg => rfl); (case hr => first | (go_simp; done) | (go_simp; rfl)); intro gb240 hg w30 hbox hb; have n0_ := Aside0.mk (Kd.R_below (by (with_reducible repeat (first | apply Kd.R_alloc | apply Kd.R_drewN | apply Kd.R_drew)); exact HO_7.out) hb); have n1_ := Aside0.mk (blk_below (g := gb227) (o := .cells #[.int .i64 a1_0, .int .i64 a1_1, .string a1_2] 36 (0, 0)) (by (with_reducible repeat (first | refine blk_drewN ?_ _ | refine blk_drew ?_ | refine blk_alloc ?_ _)); exact BK227.out) hb); have n2_ := Aside0.mk (below_step (by repeat (first | (with_reducible first | exact HB.out | apply below_alloc | apply pw_below_drewN | apply below_drew1 | refine below_set ?_ GE227.out) | exact HB.out)) hb); have n3_ := Aside0.mk (hbox); have n4_ := Aside0.mk ((by rw [hg]; exact (below_size (by repeat (first | (with_reducible first | exact HB.out | apply below_alloc | apply pw_below_drewN | apply below_drew1 | refine below_set ?_ GE227.out) | exact HB.out))) : w.heap.size ≤ gb240)); have n5_ := Aside0.mk ((by rw [hg]; exact (below_size (by repeat (first | (with_reducible first | exact HB.out | apply below_alloc | apply pw_below_drewN | apply below_drew1 | refine below_set ?_ GE227.out) | exact HB.out))) : w.heap.size ≤ gb240)); have n6_ := Aside0.mk ((by rw [hg]; exact Nat.ne_of_lt (blk_lt (g := gb227) (o := .cells #[.int .i64 a1_0, .int .i64 a1_1, .string a1_2] 36 (0, 0)) (by (with_reducible repeat (first | refine blk_drewN ?_ _ | refine blk_drew ?_ | refine blk_alloc ?_ _)); exact BK227.out)) : gb227 ≠ gb240)); have n7_ := Aside0.mk ((by rw [hg]; exact Nat.ne_of_gt (blk_lt (g := gb227) (o := .cells #[.int .i64 a1_0, .int .i64 a1_1, .string a1_2] 36 (0, 0)) (by (with_reducible repeat (first | refine blk_drewN ?_ _ | refine blk_drew ?_ | refine blk_alloc ?_ _)); exact BK227.out)) : gb240 ≠ gb227)); clear HO_7; clear BK227; clear HB; have HO_7 := n0_; have BK227 := n1_; have HB := n2_; have BK240 := n3_; have GW240 := n4_; have GE240 := n5_; have NB227_240 := n6_; have NB240_227 := n7_; clear n0_ n1_ n2_ n3_ n4_ n5_ n6_ n7_; clear hb hbox hg; have hnb31 := NB240_227.out; have hnc31 := NB227_240.out; have hcz32_0 : w30.cell? ⟨gb240, 0, none⟩ = some (.int .i64 0) := (blk_cell BK240.out 0).trans rfl; have hcz32_1 : w30.cell? ⟨gb240, 1, none⟩ = some (.int .i64 0) := (blk_cell BK240.out 1).trans rfl; have hcz32_2 : w30.cell? ⟨gb240, 2, none⟩ = some (.string (⟨#[]⟩ : ByteArray)) := (blk_cell BK240.out 2).trans rfl; have hfz32_0 := blk_frozen BK240.out 0; have hfz32_1 := blk_frozen BK240.out 1; have hfz32_2 := blk_frozen BK240.out 2; have p241 : 0 ≤ (x40_2 : Int) := of_decide_eq_true (by first | (with_reducible assumption) | assumption); have q241 : x40_2 < (t230.length : Int) := of_decide_eq_true (by first | (with_reducible assumption) | assumption); obtain ⟨ad241, e241, hx241_0, hx241_1, hx241_2⟩ := at_T34 (Kd.R_reads' HO_7.out).2.2 x40_2 p241 q241; obtain rfl : ad235 = ad241 := (by injection e241); have hn241_0 : ad235.block ≠ gb240 := Kd.own_blk (Kd.R_ne HO_7.out BK240.out (by decide)); have hn241_1 : ad235.block ≠ gb240 := Kd.own_blk (Kd.R_ne HO_7.out BK240.out (by decide)); have hn241_2 : ad235.block ≠ gb240 := Kd.own_blk (Kd.R_ne HO_7.out BK240.out (by decide)); replace hx241_0 := (cell_far (p := ⟨gb240, 0, none⟩) (by first | (rw [add_block]; exact hn241_0) | (show (Addr.add _ _).block ≠ _; rw [add_block]; exact hn241_0) | exact hn241_0) (.int .i64 t236)).trans hx241_0; replace hx241_1 := (cell_far (p := ⟨gb240, 0, none⟩) (by first | (rw [add_block]; exact hn241_0) | (show (Addr.add _ _).block ≠ _; rw [add_block]; exact hn241_0) | exact hn241_0) (.int .i64 t236)).trans hx241_1; replace hx241_2 := (cell_far (p := ⟨gb240, 0, none⟩) (by first | (rw [add_block]; exact hn241_0) | (show (Addr.add _ _).block ≠ _; rw [add_block]; exact hn241_0) | exact hn241_0) (.int .i64 t236)).trans hx241_2; replace hx241_0 := (cell_far (p := ⟨gb240, 1, none⟩) (by first | (rw [add_block]; exact hn241_1) | (show (Addr.add _ _).block ≠ _; rw [add_block]; exact hn241_1) | exact hn241_1) (.int .i64 t237)).trans hx241_0; replace hx241_1 := (cell_far (p := ⟨gb240, 1, none⟩) (by first | (rw [add_block]; exact hn241_1) | (show (Addr.add _ _).block ≠ _; rw [add_block]; exact hn241_1) | exact hn241_1) (.int .i64 t237)).trans hx241_1; replace hx241_2 := (cell_far (p := ⟨gb240, 1, none⟩) (by first | (rw [add_block]; exact hn241_1) | (show (Addr.add _ _).block ≠ _; rw [add_block]; exact hn241_1) | exact hn241_1) (.int .i64 t237)).trans hx241_2; replace hx241_0 := (cell_far (p := ⟨gb240, 2, none⟩) (by first | (rw [add_block]; exact hn241_2) | (show (Addr.add _ _).block ≠ _; rw [add_block]; exact hn241_2) | exact hn241_2) (.string t238)).trans hx241_0; replace hx241_1 := (cell_far (p := ⟨gb240, 2, none⟩) (by first | (rw [add_block]; exact hn241_2) | (show (Addr.add _ _).block ≠ _; rw [add_block]; exact hn241_2) | exact hn241_2) (.string t238)).trans hx241_1; replace hx241_2 := (cell_far (p := ⟨gb240, 2, none⟩) (by first | (rw [add_block]; exact hn241_2) | (show (Addr.add _ _).block ≠ _; rw [add_block]; exact hn241_2) | exact hn241_2) (.string t238)).trans hx241_2; clear hn241_0; clear hn241_1; clear hn241_2; replace p241 := eq_true p241; replace q241 := eq_true q241; have p242 : 0 ≤ (x40_2 : Int) := of_decide_eq_true (by first | (with_reducible assumption) | assumption); have q242 : x40_2 < (t230.length : Int) := of_decide_eq_true (by first | (with_reducible assumption) | assumption); obtain ⟨ad242, e242, hx242_0, hx242_1, hx242_2⟩ := at_T34 (Kd.R_reads' HO_7.out).2.2 x40_2 p242 q242; obtain rfl : ad235 = ad242 := (by injection e242); have hn242_0 : ad235.block ≠ gb240 := Kd.own_blk (Kd.R_ne HO_7.out BK240.out (by decide)); have hn242_1 : ad235.block ≠ gb240 := Kd.own_blk (Kd.R_ne HO_7.out BK240.out (by decide)); have hn242_2 : ad235.block ≠ gb240 := Kd.own_blk (Kd.R_ne HO_7.out BK240.out (by decide)); replace hx242_0 := (cell_far (p := ⟨gb240, 0, none⟩) (by first | (rw [add_block]; exact hn242_0) | (show (Addr.add _ _).block ≠ _; rw [add_block]; exact hn242_0) | exact hn242_0) (.int .i64 t236)).trans hx242_0; replace hx242_1 := (cell_far (p := ⟨gb240, 0, none⟩) (by first | (rw [add_block]; exact hn242_0) | (show (Addr.add _ _).block ≠ _; rw [add_block]; exact hn242_0) | exact hn242_0) (.int .i64 t236)).trans hx242_1; replace hx242_2 := (cell_far (p := ⟨gb240, 0, none⟩) (by first | (rw [add_block]; exact hn242_0) | (show (Addr.add _ _).block ≠ _; rw [add_block]; exact hn242_0) | exact hn242_0) (.int .i64 t236)).trans hx242_2; replace hx242_0 := (cell_far (p := ⟨gb240, 1, none⟩) (by first | (rw [add_block]; exact hn242_1) | (show (Addr.add _ _).block ≠ _; rw [add_block]; exact hn242_1) | exact hn242_1) (.int .i64 t237)).trans hx242_0; replace hx242_1 := (cell_far (p := ⟨gb240, 1, none⟩) (by first | (rw [add_block]; exact hn242_1) | (show (Addr.add _ _).block ≠ _; rw [add_block]; exact hn242_1) | exact hn242_1) (.int .i64 t237)).trans hx242_1; replace hx242_2 := (cell_far (p := ⟨gb240, 1, none⟩) (by first | (rw [add_block]; exact hn242_1) | (show (Addr.add _ _).block ≠ _; rw [add_block]; exact hn242_1) | exact hn242_1) (.int .i64 t237)).trans hx242_2; replace hx242_0 := (cell_far (p := ⟨gb240, 2, none⟩) (by first | (rw [add_block]; exact hn242_2) | (show (Addr.add _ _).block ≠ _; rw [add_block]; exact hn242_2) | exact hn242_2) (.string t238)).trans hx242_0; replace hx242_1 := (cell_far (p := ⟨gb240, 2, none⟩) (by first | (rw [add_block]; exact hn242_2) | (show (Addr.add _ _).block ≠ _; rw [add_block]; exact hn242_2) | exact hn242_2) (.string t238)).trans hx242_1; replace hx242_2 := (cell_far (p := ⟨gb240, 2, none⟩) (by first | (rw [add_block]; exact hn242_2) | (show (Addr.add _ _).block ≠ _; rw [add_block]; exact hn242_2) | exact hn242_2) (.string t238)).trans hx242_2; clear hn242_0; clear hn242_1; clear hn242_2; replace p242 := eq_true p242; replace q242 := eq_true q242) | ((with_reducible refine gate_callee (f := 19) rfl ?_); refine goesL_ (some 64) rfl rfl Tryd.func19 (by kernel_rfl) rfl #[.string ((rd_T34 t230 x40_2).f1)] rfl (by (try simp only [List.map_toArray, List.map_cons, List.map_nil]); first | done | rfl | (simp only [List.length_drop, List.length_take]; rfl)) ?_; (with_reducible refine (value_Name.calls k2 ((rd_T34 t230 x40_2).f1) false _ A23.out).mono ?_); rintro e w' ⟨rfl, ⟨nd, rfl⟩⟩; refine ⟨_, rfl, ?_⟩))
                      go_ret
                      exact ⟨by first | rfl | (simp [errW_none, errW_some] <;> rfl) | (simp [*, errW_none, errW_some] <;> rfl), by repeat (first | (with_reducible first | exact HB.out | apply below_alloc | apply pw_below_drewN | apply below_drew1 | refine below_set ?_ GE227.out | refine below_set ?_ GE240.out) | exact HB.out)⟩
                  · rw [if_neg c22] at H
                    have c22b0 : (((rd_T34 t230 x40_2).f0) == 1) = false := beq_eq_false_iff_ne.mpr c22
                    have c22b1 : (((rd_T34 t230 x40_2).f0) != 1) = true := bne_iff_ne.mpr c22
                    by_cases c33 : ((rd_T34 t230 x40_2).f0) = 2
                    · rw [if_pos c33] at H
                      have c33b0 : (((rd_T34 t230 x40_2).f0) == 2) = true := beq_iff_eq.mpr c33
                      have c33b1 : (((rd_T34 t230 x40_2).f0) != 2) = false := bne_eq_false_iff_eq.mpr c33
                      clear c33
                      replace H := Option.bind_eq_some_iff.mp H
                      obtain ⟨t245, A340, H⟩ := H
                      replace H : (if t245 = true then (antecedentlaw07_LexKinds.l0 k2 a2 t230 t232 (t230.length : Int) (wrap64 (x40_2 + 1)) a1_0 a1_1 a1_2) else (some false)) = some r := H
                      have A34 := Aside0.mk A340
                      clear A340
                      by_cases c35 : t245 = true
                      · subst c35
                        have H1 : (antecedentlaw07_LexKinds.l0 k2 a2 t230 t232 (t230.length : Int) (wrap64 (x40_2 + 1)) a1_0 a1_1 a1_2) = some r := by rw [if_pos rfl] at H; exact H
                        clear H
                        have H := H1
                        clear H1
                        have H' := Aside0.mk H
                        clear H
                        have p235 : 0 ≤ (x40_2 : Int) := of_decide_eq_true (by first | (with_reducible assumption) | assumption)
                        have q235 : x40_2 < (t230.length : Int) := of_decide_eq_true (by first | (with_reducible assumption) | assumption)
                        obtain ⟨ad235, e235, hx235_0, hx235_1, hx235_2⟩ := at_T34 (Kd.R_reads' HO_7.out).2.2 x40_2 p235 q235
                        cases e235
                        replace p235 := eq_true p235
                        replace q235 := eq_true q235
                        go_wp2_with (first | ((with_reducible refine gate_callee (f := 18) rfl ?_); refine goesL_ (some 49) rfl rfl Tryd.func18 (by kernel_rfl) rfl #[.string ((rd_T34 t230 x40_2).f1)] rfl (by (try simp only [List.map_toArray, List.map_cons, List.map_nil]); first | done | rfl | (simp only [List.length_drop, List.length_take]; rfl)) ?_; (with_reducible refine (value_Read.calls ((rd_T34 t230 x40_2).f1) t236 t237 t238 t239 _ ?side1 A21.out).mono ?_); (case side1 => (first | (refine LaidW.below HLW.out ?_; (repeat (first | (with_reducible first | exact HB.out | apply below_alloc | apply pw_below_drewN | apply below_drew1 | refine below_set ?_ GE227.out) | exact HB.out)); done) | (repeat (first | exact HLW.out | apply LaidW.drewN | apply LaidW.drew | apply LaidW.alloc)))); rintro e w36 ⟨rfl, hb⟩; refine ⟨_, rfl, ?_⟩; have n0_ := Aside0.mk (Kd.R_below (by (with_reducible repeat (first | apply Kd.R_alloc | apply Kd.R_drewN | apply Kd.R_drew)); exact HO_7.out) hb); have n1_ := Aside0.mk (blk_below (g := gb227) (o := .cells #[.int .i64 a1_0, .int .i64 a1_1, .string a1_2] 36 (0, 0)) (by (with_reducible repeat (first | refine blk_drewN ?_ _ | refine blk_drew ?_ | refine blk_alloc ?_ _)); exact BK227.out) hb); have n2_ := Aside0.mk (below_step (by repeat (first | (with_reducible first | exact HB.out | apply below_alloc | apply pw_below_drewN | apply below_drew1 | refine below_set ?_ GE227.out) | exact HB.out)) hb); clear HO_7; clear BK227; clear HB; have HO_7 := n0_; have BK227 := n1_; have HB := n2_; clear n0_ n1_ n2_; (try clear hb); (try clear hb2); (try clear hk); (try clear hi)) | ((with_reducible refine gate_dst (N := 11) rfl ?_); (try (refine gate_guard (by rfl) ?_; dsimp only)); refine box_event ?hg (N := 11) ?hd (cs := #[.int .i64 0, .int .i64 0, .string (⟨#[]⟩ : ByteArray)]) (t := 36) ?hr ?_; (case hd => rfl); (case hg => rfl); (case hr => first | (go_simp; done) | (go_simp; rfl)); intro gb240 hg w37 hbox hb; have n0_ := Aside0.mk (Kd.R_below (by (with_reducible repeat (first | apply Kd.R_alloc | apply Kd.R_drewN | apply Kd.R_drew)); exact HO_7.out) hb); have n1_ := Aside0.mk (blk_below (g := gb227) (o := .cells #[.int .i64 a1_0, .int .i64 a1_1, .string a1_2] 36 (0, 0)) (by (with_reducible repeat (first | refine blk_drewN ?_ _ | refine blk_drew ?_ | refine blk_alloc ?_ _)); exact BK227.out) hb); have n2_ := Aside0.mk (below_step (by repeat (first | (with_reducible first | exact HB.out | apply below_alloc | apply pw_below_drewN | apply below_drew1 | refine below_set ?_ GE227.out) | exact HB.out)) hb); have n3_ := Aside0.mk (hbox); have n4_ := Aside0.mk ((by rw [hg]; exact (below_size (by repeat (first | (with_reducible first | exact HB.out | apply below_alloc | apply pw_below_drewN | apply below_drew1 | refine below_set ?_ GE227.out) | exact HB.out))) : w.heap.size ≤ gb240)); have n5_ := Aside0.mk ((by rw [hg]; exact (below_size (by repeat (first | (with_reducible first | exact HB.out | apply below_alloc | apply pw_below_drewN | apply below_drew1 | refine below_set ?_ GE227.out) | exact HB.out))) : w.heap.size ≤ gb240)); have n6_ := Aside0.mk ((by rw [hg]; exact Nat.ne_of_lt (blk_lt (g := gb227) (o := .cells #[.int .i64 a1_0, .int .i64 a1_1, .string a1_2] 36 (0, 0)) (by (with_reducible repeat (first | refine blk_drewN ?_ _ | refine blk_drew ?_ | refine blk_alloc ?_ _)); exact BK227.out)) : gb227 ≠ gb240)); have n7_ := Aside0.mk ((by rw [hg]; exact Nat.ne_of_gt (blk_lt (g := gb227) (o := .cells #[.int .i64 a1_0, .int .i64 a1_1, .string a1_2] 36 (0, 0)) (by (with_reducible repeat (first | refine blk_drewN ?_ _ | refine blk_drew ?_ | refine blk_alloc ?_ _)); exact BK227.out)) : gb240 ≠ gb227)); clear HO_7; clear BK227; clear HB; have HO_7 := n0_; have BK227 := n1_; have HB := n2_; have BK240 := n3_; have GW240 := n4_; have GE240 := n5_; have NB227_240 := n6_; have NB240_227 := n7_; clear n0_ n1_ n2_ n3_ n4_ n5_ n6_ n7_; clear hb hbox hg; have hnb38 := NB240_227.out; have hnc38 := NB227_240.out; have hcz39_0 : w37.cell? ⟨gb240, 0, none⟩ = some (.int .i64 0) := (blk_cell BK240.out 0).trans rfl; have hcz39_1 : w37.cell? ⟨gb240, 1, none⟩ = some (.int .i64 0) := (blk_cell BK240.out 1).trans rfl; have hcz39_2 : w37.cell? ⟨gb240, 2, none⟩ = some (.string (⟨#[]⟩ : ByteArray)) := (blk_cell BK240.out 2).trans rfl; have hfz39_0 := blk_frozen BK240.out 0; have hfz39_1 := blk_frozen BK240.out 1; have hfz39_2 := blk_frozen BK240.out 2; have p241 : 0 ≤ (x40_2 : Int) := of_decide_eq_true (by first | (with_reducible assumption) | assumption); have q241 : x40_2 < (t230.length : Int) := of_decide_eq_true (by first | (with_reducible assumption) | assumption); obtain ⟨ad241, e241, hx241_0, hx241_1, hx241_2⟩ := at_T34 (Kd.R_reads' HO_7.out).2.2 x40_2 p241 q241; obtain rfl : ad235 = ad241 := (by injection e241); have hn241_0 : ad235.block ≠ gb240 := Kd.own_blk (Kd.R_ne HO_7.out BK240.out (by decide)); have hn241_1 : ad235.block ≠ gb240 := Kd.own_blk (Kd.R_ne HO_7.out BK240.out (by decide)); have hn241_2 : ad235.block ≠ gb240 := Kd.own_blk (Kd.R_ne HO_7.out BK240.out (by decide)); replace hx241_0 := (cell_far (p := ⟨gb240, 0, none⟩) (by first | (rw [add_block]; exact hn241_0) | (show (Addr.add _ _).block ≠ _; rw [add_block]; exact hn241_0) | exact hn241_0) (.int .i64 t236)).trans hx241_0; replace hx241_1 := (cell_far (p := ⟨gb240, 0, none⟩) (by first | (rw [add_block]; exact hn241_0) | (show (Addr.add _ _).block ≠ _; rw [add_block]; exact hn241_0) | exact hn241_0) (.int .i64 t236)).trans hx241_1; replace hx241_2 := (cell_far (p := ⟨gb240, 0, none⟩) (by first | (rw [add_block]; exact hn241_0) | (show (Addr.add _ _).block ≠ _; rw [add_block]; exact hn241_0) | exact hn241_0) (.int .i64 t236)).trans hx241_2; replace hx241_0 := (cell_far (p := ⟨gb240, 1, none⟩) (by first | (rw [add_block]; exact hn241_1) | (show (Addr.add _ _).block ≠ _; rw [add_block]; exact hn241_1) | exact hn241_1) (.int .i64 t237)).trans hx241_0; replace hx241_1 := (cell_far (p := ⟨gb240, 1, none⟩) (by first | (rw [add_block]; exact hn241_1) | (show (Addr.add _ _).block ≠ _; rw [add_block]; exact hn241_1) | exact hn241_1) (.int .i64 t237)).trans hx241_1; replace hx241_2 := (cell_far (p := ⟨gb240, 1, none⟩) (by first | (rw [add_block]; exact hn241_1) | (show (Addr.add _ _).block ≠ _; rw [add_block]; exact hn241_1) | exact hn241_1) (.int .i64 t237)).trans hx241_2; replace hx241_0 := (cell_far (p := ⟨gb240, 2, none⟩) (by first | (rw [add_block]; exact hn241_2) | (show (Addr.add _ _).block ≠ _; rw [add_block]; exact hn241_2) | exact hn241_2) (.string t238)).trans hx241_0; replace hx241_1 := (cell_far (p := ⟨gb240, 2, none⟩) (by first | (rw [add_block]; exact hn241_2) | (show (Addr.add _ _).block ≠ _; rw [add_block]; exact hn241_2) | exact hn241_2) (.string t238)).trans hx241_1; replace hx241_2 := (cell_far (p := ⟨gb240, 2, none⟩) (by first | (rw [add_block]; exact hn241_2) | (show (Addr.add _ _).block ≠ _; rw [add_block]; exact hn241_2) | exact hn241_2) (.string t238)).trans hx241_2; clear hn241_0; clear hn241_1; clear hn241_2; replace p241 := eq_true p241; replace q241 := eq_true q241; have p244 : 0 ≤ (x40_2 : Int) := of_decide_eq_true (by first | (with_reducible assumption) | assumption); have q244 : x40_2 < (t230.length : Int) := of_decide_eq_true (by first | (with_reducible assumption) | assumption); obtain ⟨ad244, e244, hx244_0, hx244_1, hx244_2⟩ := at_T34 (Kd.R_reads' HO_7.out).2.2 x40_2 p244 q244; obtain rfl : ad235 = ad244 := (by injection e244); have hn244_0 : ad235.block ≠ gb240 := Kd.own_blk (Kd.R_ne HO_7.out BK240.out (by decide)); have hn244_1 : ad235.block ≠ gb240 := Kd.own_blk (Kd.R_ne HO_7.out BK240.out (by decide)); have hn244_2 : ad235.block ≠ gb240 := Kd.own_blk (Kd.R_ne HO_7.out BK240.out (by decide)); replace hx244_0 := (cell_far (p := ⟨gb240, 0, none⟩) (by first | (rw [add_block]; exact hn244_0) | (show (Addr.add _ _).block ≠ _; rw [add_block]; exact hn244_0) | exact hn244_0) (.int .i64 t236)).trans hx244_0; replace hx244_1 := (cell_far (p := ⟨gb240, 0, none⟩) (by first | (rw [add_block]; exact hn244_0) | (show (Addr.add _ _).block ≠ _; rw [add_block]; exact hn244_0) | exact hn244_0) (.int .i64 t236)).trans hx244_1; replace hx244_2 := (cell_far (p := ⟨gb240, 0, none⟩) (by first | (rw [add_block]; exact hn244_0) | (show (Addr.add _ _).block ≠ _; rw [add_block]; exact hn244_0) | exact hn244_0) (.int .i64 t236)).trans hx244_2; replace hx244_0 := (cell_far (p := ⟨gb240, 1, none⟩) (by first | (rw [add_block]; exact hn244_1) | (show (Addr.add _ _).block ≠ _; rw [add_block]; exact hn244_1) | exact hn244_1) (.int .i64 t237)).trans hx244_0; replace hx244_1 := (cell_far (p := ⟨gb240, 1, none⟩) (by first | (rw [add_block]; exact hn244_1) | (show (Addr.add _ _).block ≠ _; rw [add_block]; exact hn244_1) | exact hn244_1) (.int .i64 t237)).trans hx244_1; replace hx244_2 := (cell_far (p := ⟨gb240, 1, none⟩) (by first | (rw [add_block]; exact hn244_1) | (show (Addr.add _ _).block ≠ _; rw [add_block]; exact hn244_1) | exact hn244_1) (.int .i64 t237)).trans hx244_2; replace hx244_0 := (cell_far (p := ⟨gb240, 2, none⟩) (by first | (rw [add_block]; exact hn244_2) | (show (Addr.add _ _).block ≠ _; rw [add_block]; exact hn244_2) | exact hn244_2) (.string t238)).trans hx244_0; replace hx244_1 := (cell_far (p := ⟨gb240, 2, none⟩) (by first | (rw [add_block]; exact hn244_2) | (show (Addr.add _ _).block ≠ _; rw [add_block]; exact hn244_2) | exact hn244_2) (.string t238)).trans hx244_1; replace hx244_2 := (cell_far (p := ⟨gb240, 2, none⟩) (by first | (rw [add_block]; exact hn244_2) | (show (Addr.add _ _).block ≠ _; rw [add_block]; exact hn244_2) | exact hn244_2) (.string t238)).trans hx244_2; clear hn244_0; clear hn244_1; clear hn244_2; replace p244 := eq_true p244; replace q244 := eq_true q244) | ((with_reducible refine gate_callee (f := 14) rfl ?_); refine goesL_ (some 73) rfl rfl Tryd.func14 (by kernel_rfl) rfl #[.string ((rd_T34 t230 x40_2).f1)] rfl (by (try simp only [List.map_toArray, List.map_cons, List.map_nil]); first | done | rfl | (simp only [List.length_drop, List.length_take]; rfl)) ?_; (with_reducible refine (lex_Variable.calls ((rd_T34 t230 x40_2).f1) true _ A34.out).mono ?_); rintro e w' ⟨rfl, ⟨nd, rfl⟩⟩; refine ⟨_, rfl, ?_⟩))
                        go_roundg k2
                        case measure => have := HJ3.out; have := HK2.out; omega
                        case rel => exact ⟨(wrap64 (x40_2 + 1)), (by first | rfl | (simp; done) | (simp [*]; done)), H', ⟨by have := HJ3.out; have := HK2.out; omega⟩, ⟨by (with_reducible repeat (first | apply Kd.R_alloc | apply Kd.R_drewN | apply Kd.R_drew)); exact Kd.R_mono (Kd.R_far (p := ⟨gb240, 2, none⟩) (Kd.R_far (p := ⟨gb240, 1, none⟩) (Kd.R_far (p := ⟨gb240, 0, none⟩) (Kd.R_types HO_7.out BK240.out (by decide)) (fun _ hk => hk.2) (.int .i64 t236)) (fun _ hk => hk.2) (.int .i64 t237)) (fun _ hk => hk.2) (.string t238)) (fun _ hk => trivial)⟩, ⟨by (with_reducible repeat (first | refine blk_drewN ?_ _ | refine blk_drew ?_ | refine blk_alloc ?_ _)); refine blk_far ?_ NB227_240.out _; (with_reducible repeat (first | refine blk_drewN ?_ _ | refine blk_drew ?_ | refine blk_alloc ?_ _)); refine blk_far ?_ NB227_240.out _; (with_reducible repeat (first | refine blk_drewN ?_ _ | refine blk_drew ?_ | refine blk_alloc ?_ _)); refine blk_far ?_ NB227_240.out _; (with_reducible repeat (first | refine blk_drewN ?_ _ | refine blk_drew ?_ | refine blk_alloc ?_ _)); exact BK227.out⟩, ⟨by repeat (first | (with_reducible first | exact HB.out | apply below_alloc | apply pw_below_drewN | apply below_drew1 | refine below_set ?_ GE227.out | refine below_set ?_ GE240.out) | exact HB.out)⟩⟩
                      · replace c35 := Bool.eq_false_iff.mpr c35
                        subst c35
                        have H1 : (some false) = some r := by rw [if_neg (show ¬ (false = true) by decide)] at H; exact H
                        clear H
                        have H := H1
                        clear H1
                        obtain rfl := Option.some.inj H
                        have p235 : 0 ≤ (x40_2 : Int) := of_decide_eq_true (by first | (with_reducible assumption) | assumption)
                        have q235 : x40_2 < (t230.length : Int) := of_decide_eq_true (by first | (with_reducible assumption) | assumption)
                        obtain ⟨ad235, e235, hx235_0, hx235_1, hx235_2⟩ := at_T34 (Kd.R_reads' HO_7.out).2.2 x40_2 p235 q235
                        cases e235
                        replace p235 := eq_true p235
                        replace q235 := eq_true q235
                        go_wp2_with (first | ((with_reducible refine gate_callee (f := 18) rfl ?_); refine goesL_ (some 49) rfl rfl Tryd.func18 (by kernel_rfl) rfl #[.string ((rd_T34 t230 x40_2).f1)] rfl (by (try simp only [List.map_toArray, List.map_cons, List.map_nil]); first | done | rfl | (simp only [List.length_drop, List.length_take]; rfl)) ?_; (with_reducible refine (value_Read.calls ((rd_T34 t230 x40_2).f1) t236 t237 t238 t239 _ ?side1 A21.out).mono ?_); (case side1 => (first | (refine LaidW.below HLW.out ?_; (repeat (first | (with_reducible first | exact HB.out | apply below_alloc | apply pw_below_drewN | apply below_drew1 | refine below_set ?_ GE227.out) | exact HB.out)); done) | (repeat (first | exact HLW.out | apply LaidW.drewN | apply LaidW.drew | apply LaidW.alloc)))); rintro e w40 ⟨rfl, hb⟩; refine ⟨_, rfl, ?_⟩; have n0_ := Aside0.mk (Kd.R_below (by (with_reducible repeat (first | apply Kd.R_alloc | apply Kd.R_drewN | apply Kd.R_drew)); exact HO_7.out) hb); have n1_ := Aside0.mk (blk_below (g := gb227) (o := .cells #[.int .i64 a1_0, .int .i64 a1_1, .string a1_2] 36 (0, 0)) (by (with_reducible repeat (first | refine blk_drewN ?_ _ | refine blk_drew ?_ | refine blk_alloc ?_ _)); exact BK227.out) hb); have n2_ := Aside0.mk (below_step (by repeat (first | (with_reducible first | exact HB.out | apply below_alloc | apply pw_below_drewN | apply below_drew1 | refine below_set ?_ GE227.out) | exact HB.out)) hb); clear HO_7; clear BK227; clear HB; have HO_7 := n0_; have BK227 := n1_; have HB := n2_; clear n0_ n1_ n2_; (try clear hb); (try clear hb2); (try clear hk); (try clear hi)) | ((with_reducible refine gate_dst (N := 11) rfl ?_); (try (refine gate_guard (by rfl) ?_; dsimp only)); refine box_event ?hg (N := 11) ?hd (cs := #[.int .i64 0, .int .i64 0, .string (⟨#[]⟩ : ByteArray)]) (t := 36) ?hr ?_; (case hd => rfl); (case hg => rfl); (case hr => first | (go_simp; done) | (go_simp; rfl)); intro gb240 hg w41 hbox hb; have n0_ := Aside0.mk (Kd.R_below (by (with_reducible repeat (first | apply Kd.R_alloc | apply Kd.R_drewN | apply Kd.R_drew)); exact HO_7.out) hb); have n1_ := Aside0.mk (blk_below (g := gb227) (o := .cells #[.int .i64 a1_0, .int .i64 a1_1, .string a1_2] 36 (0, 0)) (by (with_reducible repeat (first | refine blk_drewN ?_ _ | refine blk_drew ?_ | refine blk_alloc ?_ _)); exact BK227.out) hb); have n2_ := Aside0.mk (below_step (by repeat (first | (with_reducible first | exact HB.out | apply below_alloc | apply pw_below_drewN | apply below_drew1 | refine below_set ?_ GE227.out) | exact HB.out)) hb); have n3_ := Aside0.mk (hbox); have n4_ := Aside0.mk ((by rw [hg]; exact (below_size (by repeat (first | (with_reducible first | exact HB.out | apply below_alloc | apply pw_below_drewN | apply below_drew1 | refine below_set ?_ GE227.out) | exact HB.out))) : w.heap.size ≤ gb240)); have n5_ := Aside0.mk ((by rw [hg]; exact (below_size (by repeat (first | (with_reducible first | exact HB.out | apply below_alloc | apply pw_below_drewN | apply below_drew1 | refine below_set ?_ GE227.out) | exact HB.out))) : w.heap.size ≤ gb240)); have n6_ := Aside0.mk ((by rw [hg]; exact Nat.ne_of_lt (blk_lt (g := gb227) (o := .cells #[.int .i64 a1_0, .int .i64 a1_1, .string a1_2] 36 (0, 0)) (by (with_reducible repeat (first | refine blk_drewN ?_ _ | refine blk_drew ?_ | refine blk_alloc ?_ _)); exact BK227.out)) : gb227 ≠ gb240)); have n7_ := Aside0.mk ((by rw [hg]; exact Nat.ne_of_gt (blk_lt (g := gb227) (o := .cells #[.int .i64 a1_0, .int .i64 a1_1, .string a1_2] 36 (0, 0)) (by (with_reducible repeat (first | refine blk_drewN ?_ _ | refine blk_drew ?_ | refine blk_alloc ?_ _)); exact BK227.out)) : gb240 ≠ gb227)); clear HO_7; clear BK227; clear HB; have HO_7 := n0_; have BK227 := n1_; have HB := n2_; have BK240 := n3_; have GW240 := n4_; have GE240 := n5_; have NB227_240 := n6_; have NB240_227 := n7_; clear n0_ n1_ n2_ n3_ n4_ n5_ n6_ n7_; clear hb hbox hg; have hnb42 := NB240_227.out; have hnc42 := NB227_240.out; have hcz43_0 : w41.cell? ⟨gb240, 0, none⟩ = some (.int .i64 0) := (blk_cell BK240.out 0).trans rfl; have hcz43_1 : w41.cell? ⟨gb240, 1, none⟩ = some (.int .i64 0) := (blk_cell BK240.out 1).trans rfl; have hcz43_2 : w41.cell? ⟨gb240, 2, none⟩ = some (.string (⟨#[]⟩ : ByteArray)) := (blk_cell BK240.out 2).trans rfl; have hfz43_0 := blk_frozen BK240.out 0; have hfz43_1 := blk_frozen BK240.out 1; have hfz43_2 := blk_frozen BK240.out 2; have p241 : 0 ≤ (x40_2 : Int) := of_decide_eq_true (by first | (with_reducible assumption) | assumption); have q241 : x40_2 < (t230.length : Int) := of_decide_eq_true (by first | (with_reducible assumption) | assumption); obtain ⟨ad241, e241, hx241_0, hx241_1, hx241_2⟩ := at_T34 (Kd.R_reads' HO_7.out).2.2 x40_2 p241 q241; obtain rfl : ad235 = ad241 := (by injection e241); have hn241_0 : ad235.block ≠ gb240 := Kd.own_blk (Kd.R_ne HO_7.out BK240.out (by decide)); have hn241_1 : ad235.block ≠ gb240 := Kd.own_blk (Kd.R_ne HO_7.out BK240.out (by decide)); have hn241_2 : ad235.block ≠ gb240 := Kd.own_blk (Kd.R_ne HO_7.out BK240.out (by decide)); replace hx241_0 := (cell_far (p := ⟨gb240, 0, none⟩) (by first | (rw [add_block]; exact hn241_0) | (show (Addr.add _ _).block ≠ _; rw [add_block]; exact hn241_0) | exact hn241_0) (.int .i64 t236)).trans hx241_0; replace hx241_1 := (cell_far (p := ⟨gb240, 0, none⟩) (by first | (rw [add_block]; exact hn241_0) | (show (Addr.add _ _).block ≠ _; rw [add_block]; exact hn241_0) | exact hn241_0) (.int .i64 t236)).trans hx241_1; replace hx241_2 := (cell_far (p := ⟨gb240, 0, none⟩) (by first | (rw [add_block]; exact hn241_0) | (show (Addr.add _ _).block ≠ _; rw [add_block]; exact hn241_0) | exact hn241_0) (.int .i64 t236)).trans hx241_2; replace hx241_0 := (cell_far (p := ⟨gb240, 1, none⟩) (by first | (rw [add_block]; exact hn241_1) | (show (Addr.add _ _).block ≠ _; rw [add_block]; exact hn241_1) | exact hn241_1) (.int .i64 t237)).trans hx241_0; replace hx241_1 := (cell_far (p := ⟨gb240, 1, none⟩) (by first | (rw [add_block]; exact hn241_1) | (show (Addr.add _ _).block ≠ _; rw [add_block]; exact hn241_1) | exact hn241_1) (.int .i64 t237)).trans hx241_1; replace hx241_2 := (cell_far (p := ⟨gb240, 1, none⟩) (by first | (rw [add_block]; exact hn241_1) | (show (Addr.add _ _).block ≠ _; rw [add_block]; exact hn241_1) | exact hn241_1) (.int .i64 t237)).trans hx241_2; replace hx241_0 := (cell_far (p := ⟨gb240, 2, none⟩) (by first | (rw [add_block]; exact hn241_2) | (show (Addr.add _ _).block ≠ _; rw [add_block]; exact hn241_2) | exact hn241_2) (.string t238)).trans hx241_0; replace hx241_1 := (cell_far (p := ⟨gb240, 2, none⟩) (by first | (rw [add_block]; exact hn241_2) | (show (Addr.add _ _).block ≠ _; rw [add_block]; exact hn241_2) | exact hn241_2) (.string t238)).trans hx241_1; replace hx241_2 := (cell_far (p := ⟨gb240, 2, none⟩) (by first | (rw [add_block]; exact hn241_2) | (show (Addr.add _ _).block ≠ _; rw [add_block]; exact hn241_2) | exact hn241_2) (.string t238)).trans hx241_2; clear hn241_0; clear hn241_1; clear hn241_2; replace p241 := eq_true p241; replace q241 := eq_true q241; have p244 : 0 ≤ (x40_2 : Int) := of_decide_eq_true (by first | (with_reducible assumption) | assumption); have q244 : x40_2 < (t230.length : Int) := of_decide_eq_true (by first | (with_reducible assumption) | assumption); obtain ⟨ad244, e244, hx244_0, hx244_1, hx244_2⟩ := at_T34 (Kd.R_reads' HO_7.out).2.2 x40_2 p244 q244; obtain rfl : ad235 = ad244 := (by injection e244); have hn244_0 : ad235.block ≠ gb240 := Kd.own_blk (Kd.R_ne HO_7.out BK240.out (by decide)); have hn244_1 : ad235.block ≠ gb240 := Kd.own_blk (Kd.R_ne HO_7.out BK240.out (by decide)); have hn244_2 : ad235.block ≠ gb240 := Kd.own_blk (Kd.R_ne HO_7.out BK240.out (by decide)); replace hx244_0 := (cell_far (p := ⟨gb240, 0, none⟩) (by first | (rw [add_block]; exact hn244_0) | (show (Addr.add _ _).block ≠ _; rw [add_block]; exact hn244_0) | exact hn244_0) (.int .i64 t236)).trans hx244_0; replace hx244_1 := (cell_far (p := ⟨gb240, 0, none⟩) (by first | (rw [add_block]; exact hn244_0) | (show (Addr.add _ _).block ≠ _; rw [add_block]; exact hn244_0) | exact hn244_0) (.int .i64 t236)).trans hx244_1; replace hx244_2 := (cell_far (p := ⟨gb240, 0, none⟩) (by first | (rw [add_block]; exact hn244_0) | (show (Addr.add _ _).block ≠ _; rw [add_block]; exact hn244_0) | exact hn244_0) (.int .i64 t236)).trans hx244_2; replace hx244_0 := (cell_far (p := ⟨gb240, 1, none⟩) (by first | (rw [add_block]; exact hn244_1) | (show (Addr.add _ _).block ≠ _; rw [add_block]; exact hn244_1) | exact hn244_1) (.int .i64 t237)).trans hx244_0; replace hx244_1 := (cell_far (p := ⟨gb240, 1, none⟩) (by first | (rw [add_block]; exact hn244_1) | (show (Addr.add _ _).block ≠ _; rw [add_block]; exact hn244_1) | exact hn244_1) (.int .i64 t237)).trans hx244_1; replace hx244_2 := (cell_far (p := ⟨gb240, 1, none⟩) (by first | (rw [add_block]; exact hn244_1) | (show (Addr.add _ _).block ≠ _; rw [add_block]; exact hn244_1) | exact hn244_1) (.int .i64 t237)).trans hx244_2; replace hx244_0 := (cell_far (p := ⟨gb240, 2, none⟩) (by first | (rw [add_block]; exact hn244_2) | (show (Addr.add _ _).block ≠ _; rw [add_block]; exact hn244_2) | exact hn244_2) (.string t238)).trans hx244_0; replace hx244_1 := (cell_far (p := ⟨gb240, 2, none⟩) (by first | (rw [add_block]; exact hn244_2) | (show (Addr.add _ _).block ≠ _; rw [add_block]; exact hn244_2) | exact hn244_2) (.string t238)).trans hx244_1; replace hx244_2 := (cell_far (p := ⟨gb240, 2, none⟩) (by first | (rw [add_block]; exact hn244_2) | (show (Addr.add _ _).block ≠ _; rw [add_block]; exact hn244_2) | exact hn244_2) (.string t238)).trans hx244_2; clear hn244_0; clear hn244_1; clear hn244_2; replace p244 := eq_true p244; replace q244 := eq_true q244) | ((with_reducible refine gate_callee (f := 14) rfl ?_); refine goesL_ (some 73) rfl rfl Tryd.func14 (by kernel_rfl) rfl #[.string ((rd_T34 t230 x40_2).f1)] rfl (by (try simp only [List.map_toArray, List.map_cons, List.map_nil]); first | done | rfl | (simp only [List.length_drop, List.length_take]; rfl)) ?_; (with_reducible refine (lex_Variable.calls ((rd_T34 t230 x40_2).f1) false _ A34.out).mono ?_); rintro e w' ⟨rfl, ⟨nd, rfl⟩⟩; refine ⟨_, rfl, ?_⟩))
                        go_ret
                        exact ⟨by first | rfl | (simp [errW_none, errW_some] <;> rfl) | (simp [*, errW_none, errW_some] <;> rfl), by repeat (first | (with_reducible first | exact HB.out | apply below_alloc | apply pw_below_drewN | apply below_drew1 | refine below_set ?_ GE227.out | refine below_set ?_ GE240.out) | exact HB.out)⟩
                    · rw [if_neg c33] at H
                      have c33b0 : (((rd_T34 t230 x40_2).f0) == 2) = false := beq_eq_false_iff_ne.mpr c33
                      have c33b1 : (((rd_T34 t230 x40_2).f0) != 2) = true := bne_iff_ne.mpr c33
                      by_cases c44 : ((rd_T34 t230 x40_2).f0) = 3
                      · rw [if_pos c44] at H
                        have c44b0 : (((rd_T34 t230 x40_2).f0) == 3) = true := beq_iff_eq.mpr c44
                        have c44b1 : (((rd_T34 t230 x40_2).f0) != 3) = false := bne_eq_false_iff_eq.mpr c44
                        clear c44
                        by_cases c45 : t239 = 0
                        · rw [if_pos c45] at H
                          have c45b0 : (t239 == 0) = true := beq_iff_eq.mpr c45
                          have c45b1 : (t239 != 0) = false := bne_eq_false_iff_eq.mpr c45
                          clear c45
                          by_cases c46 : t236 = 3
                          · rw [if_pos c46] at H
                            have c46b0 : (t236 == 3) = true := beq_iff_eq.mpr c46
                            have c46b1 : (t236 != 3) = false := bne_eq_false_iff_eq.mpr c46
                            clear c46
                            obtain rfl := Option.some.inj H
                            have p235 : 0 ≤ (x40_2 : Int) := of_decide_eq_true (by first | (with_reducible assumption) | assumption)
                            have q235 : x40_2 < (t230.length : Int) := of_decide_eq_true (by first | (with_reducible assumption) | assumption)
                            obtain ⟨ad235, e235, hx235_0, hx235_1, hx235_2⟩ := at_T34 (Kd.R_reads' HO_7.out).2.2 x40_2 p235 q235
                            cases e235
                            replace p235 := eq_true p235
                            replace q235 := eq_true q235
                            go_wp2_with (first | ((with_reducible refine gate_callee (f := 18) rfl ?_); refine goesL_ (some 49) rfl rfl Tryd.func18 (by kernel_rfl) rfl #[.string ((rd_T34 t230 x40_2).f1)] rfl (by (try simp only [List.map_toArray, List.map_cons, List.map_nil]); first | done | rfl | (simp only [List.length_drop, List.length_take]; rfl)) ?_; (with_reducible refine (value_Read.calls ((rd_T34 t230 x40_2).f1) t236 t237 t238 t239 _ ?side1 A21.out).mono ?_); (case side1 => (first | (refine LaidW.below HLW.out ?_; (repeat (first | (with_reducible first | exact HB.out | apply below_alloc | apply pw_below_drewN | apply below_drew1 | refine below_set ?_ GE227.out) | exact HB.out)); done) | (repeat (first | exact HLW.out | apply LaidW.drewN | apply LaidW.drew | apply LaidW.alloc)))); rintro e w47 ⟨rfl, hb⟩; refine ⟨_, rfl, ?_⟩; have n0_ := Aside0.mk (Kd.R_below (by (with_reducible repeat (first | apply Kd.R_alloc | apply Kd.R_drewN | apply Kd.R_drew)); exact HO_7.out) hb); have n1_ := Aside0.mk (blk_below (g := gb227) (o := .cells #[.int .i64 a1_0, .int .i64 a1_1, .string a1_2] 36 (0, 0)) (by (with_reducible repeat (first | refine blk_drewN ?_ _ | refine blk_drew ?_ | refine blk_alloc ?_ _)); exact BK227.out) hb); have n2_ := Aside0.mk (below_step (by repeat (first | (with_reducible first | exact HB.out | apply below_alloc | apply pw_below_drewN | apply below_drew1 | refine below_set ?_ GE227.out) | exact HB.out)) hb); clear HO_7; clear BK227; clear HB; have HO_7 := n0_; have BK227 := n1_; have HB := n2_; clear n0_ n1_ n2_; (try clear hb); (try clear hb2); (try clear hk); (try clear hi)) | ((with_reducible refine gate_dst (N := 11) rfl ?_); (try (refine gate_guard (by rfl) ?_; dsimp only)); refine box_event ?hg (N := 11) ?hd (cs := #[.int .i64 0, .int .i64 0, .string (⟨#[]⟩ : ByteArray)]) (t := 36) ?hr ?_; (case hd => rfl); (case hg => rfl); (case hr => first | (go_simp; done) | (go_simp; rfl)); intro gb240 hg w48 hbox hb; have n0_ := Aside0.mk (Kd.R_below (by (with_reducible repeat (first | apply Kd.R_alloc | apply Kd.R_drewN | apply Kd.R_drew)); exact HO_7.out) hb); have n1_ := Aside0.mk (blk_below (g := gb227) (o := .cells #[.int .i64 a1_0, .int .i64 a1_1, .string a1_2] 36 (0, 0)) (by (with_reducible repeat (first | refine blk_drewN ?_ _ | refine blk_drew ?_ | refine blk_alloc ?_ _)); exact BK227.out) hb); have n2_ := Aside0.mk (below_step (by repeat (first | (with_reducible first | exact HB.out | apply below_alloc | apply pw_below_drewN | apply below_drew1 | refine below_set ?_ GE227.out) | exact HB.out)) hb); have n3_ := Aside0.mk (hbox); have n4_ := Aside0.mk ((by rw [hg]; exact (below_size (by repeat (first | (with_reducible first | exact HB.out | apply below_alloc | apply pw_below_drewN | apply below_drew1 | refine below_set ?_ GE227.out) | exact HB.out))) : w.heap.size ≤ gb240)); have n5_ := Aside0.mk ((by rw [hg]; exact (below_size (by repeat (first | (with_reducible first | exact HB.out | apply below_alloc | apply pw_below_drewN | apply below_drew1 | refine below_set ?_ GE227.out) | exact HB.out))) : w.heap.size ≤ gb240)); have n6_ := Aside0.mk ((by rw [hg]; exact Nat.ne_of_lt (blk_lt (g := gb227) (o := .cells #[.int .i64 a1_0, .int .i64 a1_1, .string a1_2] 36 (0, 0)) (by (with_reducible repeat (first | refine blk_drewN ?_ _ | refine blk_drew ?_ | refine blk_alloc ?_ _)); exact BK227.out)) : gb227 ≠ gb240)); have n7_ := Aside0.mk ((by rw [hg]; exact Nat.ne_of_gt (blk_lt (g := gb227) (o := .cells #[.int .i64 a1_0, .int .i64 a1_1, .string a1_2] 36 (0, 0)) (by (with_reducible repeat (first | refine blk_drewN ?_ _ | refine blk_drew ?_ | refine blk_alloc ?_ _)); exact BK227.out)) : gb240 ≠ gb227)); clear HO_7; clear BK227; clear HB; have HO_7 := n0_; have BK227 := n1_; have HB := n2_; have BK240 := n3_; have GW240 := n4_; have GE240 := n5_; have NB227_240 := n6_; have NB240_227 := n7_; clear n0_ n1_ n2_ n3_ n4_ n5_ n6_ n7_; clear hb hbox hg; have hnb49 := NB240_227.out; have hnc49 := NB227_240.out; have hcz50_0 : w48.cell? ⟨gb240, 0, none⟩ = some (.int .i64 0) := (blk_cell BK240.out 0).trans rfl; have hcz50_1 : w48.cell? ⟨gb240, 1, none⟩ = some (.int .i64 0) := (blk_cell BK240.out 1).trans rfl; have hcz50_2 : w48.cell? ⟨gb240, 2, none⟩ = some (.string (⟨#[]⟩ : ByteArray)) := (blk_cell BK240.out 2).trans rfl; have hfz50_0 := blk_frozen BK240.out 0; have hfz50_1 := blk_frozen BK240.out 1; have hfz50_2 := blk_frozen BK240.out 2; have p241 : 0 ≤ (x40_2 : Int) := of_decide_eq_true (by first | (with_reducible assumption) | assumption); have q241 : x40_2 < (t230.length : Int) := of_decide_eq_true (by first | (with_reducible assumption) | assumption); obtain ⟨ad241, e241, hx241_0, hx241_1, hx241_2⟩ := at_T34 (Kd.R_reads' HO_7.out).2.2 x40_2 p241 q241; obtain rfl : ad235 = ad241 := (by injection e241); have hn241_0 : ad235.block ≠ gb240 := Kd.own_blk (Kd.R_ne HO_7.out BK240.out (by decide)); have hn241_1 : ad235.block ≠ gb240 := Kd.own_blk (Kd.R_ne HO_7.out BK240.out (by decide)); have hn241_2 : ad235.block ≠ gb240 := Kd.own_blk (Kd.R_ne HO_7.out BK240.out (by decide)); replace hx241_0 := (cell_far (p := ⟨gb240, 0, none⟩) (by first | (rw [add_block]; exact hn241_0) | (show (Addr.add _ _).block ≠ _; rw [add_block]; exact hn241_0) | exact hn241_0) (.int .i64 t236)).trans hx241_0; replace hx241_1 := (cell_far (p := ⟨gb240, 0, none⟩) (by first | (rw [add_block]; exact hn241_0) | (show (Addr.add _ _).block ≠ _; rw [add_block]; exact hn241_0) | exact hn241_0) (.int .i64 t236)).trans hx241_1; replace hx241_2 := (cell_far (p := ⟨gb240, 0, none⟩) (by first | (rw [add_block]; exact hn241_0) | (show (Addr.add _ _).block ≠ _; rw [add_block]; exact hn241_0) | exact hn241_0) (.int .i64 t236)).trans hx241_2; replace hx241_0 := (cell_far (p := ⟨gb240, 1, none⟩) (by first | (rw [add_block]; exact hn241_1) | (show (Addr.add _ _).block ≠ _; rw [add_block]; exact hn241_1) | exact hn241_1) (.int .i64 t237)).trans hx241_0; replace hx241_1 := (cell_far (p := ⟨gb240, 1, none⟩) (by first | (rw [add_block]; exact hn241_1) | (show (Addr.add _ _).block ≠ _; rw [add_block]; exact hn241_1) | exact hn241_1) (.int .i64 t237)).trans hx241_1; replace hx241_2 := (cell_far (p := ⟨gb240, 1, none⟩) (by first | (rw [add_block]; exact hn241_1) | (show (Addr.add _ _).block ≠ _; rw [add_block]; exact hn241_1) | exact hn241_1) (.int .i64 t237)).trans hx241_2; replace hx241_0 := (cell_far (p := ⟨gb240, 2, none⟩) (by first | (rw [add_block]; exact hn241_2) | (show (Addr.add _ _).block ≠ _; rw [add_block]; exact hn241_2) | exact hn241_2) (.string t238)).trans hx241_0; replace hx241_1 := (cell_far (p := ⟨gb240, 2, none⟩) (by first | (rw [add_block]; exact hn241_2) | (show (Addr.add _ _).block ≠ _; rw [add_block]; exact hn241_2) | exact hn241_2) (.string t238)).trans hx241_1; replace hx241_2 := (cell_far (p := ⟨gb240, 2, none⟩) (by first | (rw [add_block]; exact hn241_2) | (show (Addr.add _ _).block ≠ _; rw [add_block]; exact hn241_2) | exact hn241_2) (.string t238)).trans hx241_2; clear hn241_0; clear hn241_1; clear hn241_2; replace p241 := eq_true p241; replace q241 := eq_true q241))
                            go_ret
                            exact ⟨by first | rfl | (simp [errW_none, errW_some] <;> rfl) | (simp [*, errW_none, errW_some] <;> rfl), by repeat (first | (with_reducible first | exact HB.out | apply below_alloc | apply pw_below_drewN | apply below_drew1 | refine below_set ?_ GE227.out | refine below_set ?_ GE240.out) | exact HB.out)⟩
                          · rw [if_neg c46] at H
                            have c46b0 : (t236 == 3) = false := beq_eq_false_iff_ne.mpr c46
                            have c46b1 : (t236 != 3) = true := bne_iff_ne.mpr c46
                            have H' := Aside0.mk H
                            clear H
                            have p235 : 0 ≤ (x40_2 : Int) := of_decide_eq_true (by first | (with_reducible assumption) | assumption)
                            have q235 : x40_2 < (t230.length : Int) := of_decide_eq_true (by first | (with_reducible assumption) | assumption)
                            obtain ⟨ad235, e235, hx235_0, hx235_1, hx235_2⟩ := at_T34 (Kd.R_reads' HO_7.out).2.2 x40_2 p235 q235
                            cases e235
                            replace p235 := eq_true p235
                            replace q235 := eq_true q235
                            go_wp2_with (first | ((with_reducible refine gate_callee (f := 18) rfl ?_); refine goesL_ (some 49) rfl rfl Tryd.func18 (by kernel_rfl) rfl #[.string ((rd_T34 t230 x40_2).f1)] rfl (by (try simp only [List.map_toArray, List.map_cons, List.map_nil]); first | done | rfl | (simp only [List.length_drop, List.length_take]; rfl)) ?_; (with_reducible refine (value_Read.calls ((rd_T34 t230 x40_2).f1) t236 t237 t238 t239 _ ?side1 A21.out).mono ?_); (case side1 => (first | (refine LaidW.below HLW.out ?_; (repeat (first | (with_reducible first | exact HB.out | apply below_alloc | apply pw_below_drewN | apply below_drew1 | refine below_set ?_ GE227.out) | exact HB.out)); done) | (repeat (first | exact HLW.out | apply LaidW.drewN | apply LaidW.drew | apply LaidW.alloc)))); rintro e w51 ⟨rfl, hb⟩; refine ⟨_, rfl, ?_⟩; have n0_ := Aside0.mk (Kd.R_below (by (with_reducible repeat (first | apply Kd.R_alloc | apply Kd.R_drewN | apply Kd.R_drew)); exact HO_7.out) hb); have n1_ := Aside0.mk (blk_below (g := gb227) (o := .cells #[.int .i64 a1_0, .int .i64 a1_1, .string a1_2] 36 (0, 0)) (by (with_reducible repeat (first | refine blk_drewN ?_ _ | refine blk_drew ?_ | refine blk_alloc ?_ _)); exact BK227.out) hb); have n2_ := Aside0.mk (below_step (by repeat (first | (with_reducible first | exact HB.out | apply below_alloc | apply pw_below_drewN | apply below_drew1 | refine below_set ?_ GE227.out) | exact HB.out)) hb); clear HO_7; clear BK227; clear HB; have HO_7 := n0_; have BK227 := n1_; have HB := n2_; clear n0_ n1_ n2_; (try clear hb); (try clear hb2); (try clear hk); (try clear hi)) | ((with_reducible refine gate_dst (N := 11) rfl ?_); (try (refine gate_guard (by rfl) ?_; dsimp only)); refine box_event ?hg (N := 11) ?hd (cs := #[.int .i64 0, .int .i64 0, .string (⟨#[]⟩ : ByteArray)]) (t := 36) ?hr ?_; (case hd => rfl); (case hg => rfl); (case hr => first | (go_simp; done) | (go_simp; rfl)); intro gb240 hg w52 hbox hb; have n0_ := Aside0.mk (Kd.R_below (by (with_reducible repeat (first | apply Kd.R_alloc | apply Kd.R_drewN | apply Kd.R_drew)); exact HO_7.out) hb); have n1_ := Aside0.mk (blk_below (g := gb227) (o := .cells #[.int .i64 a1_0, .int .i64 a1_1, .string a1_2] 36 (0, 0)) (by (with_reducible repeat (first | refine blk_drewN ?_ _ | refine blk_drew ?_ | refine blk_alloc ?_ _)); exact BK227.out) hb); have n2_ := Aside0.mk (below_step (by repeat (first | (with_reducible first | exact HB.out | apply below_alloc | apply pw_below_drewN | apply below_drew1 | refine below_set ?_ GE227.out) | exact HB.out)) hb); have n3_ := Aside0.mk (hbox); have n4_ := Aside0.mk ((by rw [hg]; exact (below_size (by repeat (first | (with_reducible first | exact HB.out | apply below_alloc | apply pw_below_drewN | apply below_drew1 | refine below_set ?_ GE227.out) | exact HB.out))) : w.heap.size ≤ gb240)); have n5_ := Aside0.mk ((by rw [hg]; exact (below_size (by repeat (first | (with_reducible first | exact HB.out | apply below_alloc | apply pw_below_drewN | apply below_drew1 | refine below_set ?_ GE227.out) | exact HB.out))) : w.heap.size ≤ gb240)); have n6_ := Aside0.mk ((by rw [hg]; exact Nat.ne_of_lt (blk_lt (g := gb227) (o := .cells #[.int .i64 a1_0, .int .i64 a1_1, .string a1_2] 36 (0, 0)) (by (with_reducible repeat (first | refine blk_drewN ?_ _ | refine blk_drew ?_ | refine blk_alloc ?_ _)); exact BK227.out)) : gb227 ≠ gb240)); have n7_ := Aside0.mk ((by rw [hg]; exact Nat.ne_of_gt (blk_lt (g := gb227) (o := .cells #[.int .i64 a1_0, .int .i64 a1_1, .string a1_2] 36 (0, 0)) (by (with_reducible repeat (first | refine blk_drewN ?_ _ | refine blk_drew ?_ | refine blk_alloc ?_ _)); exact BK227.out)) : gb240 ≠ gb227)); clear HO_7; clear BK227; clear HB; have HO_7 := n0_; have BK227 := n1_; have HB := n2_; have BK240 := n3_; have GW240 := n4_; have GE240 := n5_; have NB227_240 := n6_; have NB240_227 := n7_; clear n0_ n1_ n2_ n3_ n4_ n5_ n6_ n7_; clear hb hbox hg; have hnb53 := NB240_227.out; have hnc53 := NB227_240.out; have hcz54_0 : w52.cell? ⟨gb240, 0, none⟩ = some (.int .i64 0) := (blk_cell BK240.out 0).trans rfl; have hcz54_1 : w52.cell? ⟨gb240, 1, none⟩ = some (.int .i64 0) := (blk_cell BK240.out 1).trans rfl; have hcz54_2 : w52.cell? ⟨gb240, 2, none⟩ = some (.string (⟨#[]⟩ : ByteArray)) := (blk_cell BK240.out 2).trans rfl; have hfz54_0 := blk_frozen BK240.out 0; have hfz54_1 := blk_frozen BK240.out 1; have hfz54_2 := blk_frozen BK240.out 2; have p241 : 0 ≤ (x40_2 : Int) := of_decide_eq_true (by first | (with_reducible assumption) | assumption); have q241 : x40_2 < (t230.length : Int) := of_decide_eq_true (by first | (with_reducible assumption) | assumption); obtain ⟨ad241, e241, hx241_0, hx241_1, hx241_2⟩ := at_T34 (Kd.R_reads' HO_7.out).2.2 x40_2 p241 q241; obtain rfl : ad235 = ad241 := (by injection e241); have hn241_0 : ad235.block ≠ gb240 := Kd.own_blk (Kd.R_ne HO_7.out BK240.out (by decide)); have hn241_1 : ad235.block ≠ gb240 := Kd.own_blk (Kd.R_ne HO_7.out BK240.out (by decide)); have hn241_2 : ad235.block ≠ gb240 := Kd.own_blk (Kd.R_ne HO_7.out BK240.out (by decide)); replace hx241_0 := (cell_far (p := ⟨gb240, 0, none⟩) (by first | (rw [add_block]; exact hn241_0) | (show (Addr.add _ _).block ≠ _; rw [add_block]; exact hn241_0) | exact hn241_0) (.int .i64 t236)).trans hx241_0; replace hx241_1 := (cell_far (p := ⟨gb240, 0, none⟩) (by first | (rw [add_block]; exact hn241_0) | (show (Addr.add _ _).block ≠ _; rw [add_block]; exact hn241_0) | exact hn241_0) (.int .i64 t236)).trans hx241_1; replace hx241_2 := (cell_far (p := ⟨gb240, 0, none⟩) (by first | (rw [add_block]; exact hn241_0) | (show (Addr.add _ _).block ≠ _; rw [add_block]; exact hn241_0) | exact hn241_0) (.int .i64 t236)).trans hx241_2; replace hx241_0 := (cell_far (p := ⟨gb240, 1, none⟩) (by first | (rw [add_block]; exact hn241_1) | (show (Addr.add _ _).block ≠ _; rw [add_block]; exact hn241_1) | exact hn241_1) (.int .i64 t237)).trans hx241_0; replace hx241_1 := (cell_far (p := ⟨gb240, 1, none⟩) (by first | (rw [add_block]; exact hn241_1) | (show (Addr.add _ _).block ≠ _; rw [add_block]; exact hn241_1) | exact hn241_1) (.int .i64 t237)).trans hx241_1; replace hx241_2 := (cell_far (p := ⟨gb240, 1, none⟩) (by first | (rw [add_block]; exact hn241_1) | (show (Addr.add _ _).block ≠ _; rw [add_block]; exact hn241_1) | exact hn241_1) (.int .i64 t237)).trans hx241_2; replace hx241_0 := (cell_far (p := ⟨gb240, 2, none⟩) (by first | (rw [add_block]; exact hn241_2) | (show (Addr.add _ _).block ≠ _; rw [add_block]; exact hn241_2) | exact hn241_2) (.string t238)).trans hx241_0; replace hx241_1 := (cell_far (p := ⟨gb240, 2, none⟩) (by first | (rw [add_block]; exact hn241_2) | (show (Addr.add _ _).block ≠ _; rw [add_block]; exact hn241_2) | exact hn241_2) (.string t238)).trans hx241_1; replace hx241_2 := (cell_far (p := ⟨gb240, 2, none⟩) (by first | (rw [add_block]; exact hn241_2) | (show (Addr.add _ _).block ≠ _; rw [add_block]; exact hn241_2) | exact hn241_2) (.string t238)).trans hx241_2; clear hn241_0; clear hn241_1; clear hn241_2; replace p241 := eq_true p241; replace q241 := eq_true q241))
                            go_roundg k2
                            case measure => have := HJ3.out; have := HK2.out; omega
                            case rel => exact ⟨(wrap64 (x40_2 + 1)), (by first | rfl | (simp; done) | (simp [*]; done)), H', ⟨by have := HJ3.out; have := HK2.out; omega⟩, ⟨by (with_reducible repeat (first | apply Kd.R_alloc | apply Kd.R_drewN | apply Kd.R_drew)); exact Kd.R_mono (Kd.R_far (p := ⟨gb240, 2, none⟩) (Kd.R_far (p := ⟨gb240, 1, none⟩) (Kd.R_far (p := ⟨gb240, 0, none⟩) (Kd.R_types HO_7.out BK240.out (by decide)) (fun _ hk => hk.2) (.int .i64 t236)) (fun _ hk => hk.2) (.int .i64 t237)) (fun _ hk => hk.2) (.string t238)) (fun _ hk => trivial)⟩, ⟨by (with_reducible repeat (first | refine blk_drewN ?_ _ | refine blk_drew ?_ | refine blk_alloc ?_ _)); refine blk_far ?_ NB227_240.out _; (with_reducible repeat (first | refine blk_drewN ?_ _ | refine blk_drew ?_ | refine blk_alloc ?_ _)); refine blk_far ?_ NB227_240.out _; (with_reducible repeat (first | refine blk_drewN ?_ _ | refine blk_drew ?_ | refine blk_alloc ?_ _)); refine blk_far ?_ NB227_240.out _; (with_reducible repeat (first | refine blk_drewN ?_ _ | refine blk_drew ?_ | refine blk_alloc ?_ _)); exact BK227.out⟩, ⟨by repeat (first | (with_reducible first | exact HB.out | apply below_alloc | apply pw_below_drewN | apply below_drew1 | refine below_set ?_ GE227.out | refine below_set ?_ GE240.out) | exact HB.out)⟩⟩
                        · rw [if_neg c45] at H
                          have c45b0 : (t239 == 0) = false := beq_eq_false_iff_ne.mpr c45
                          have c45b1 : (t239 != 0) = true := bne_iff_ne.mpr c45
                          obtain rfl := Option.some.inj H
                          have p235 : 0 ≤ (x40_2 : Int) := of_decide_eq_true (by first | (with_reducible assumption) | assumption)
                          have q235 : x40_2 < (t230.length : Int) := of_decide_eq_true (by first | (with_reducible assumption) | assumption)
                          obtain ⟨ad235, e235, hx235_0, hx235_1, hx235_2⟩ := at_T34 (Kd.R_reads' HO_7.out).2.2 x40_2 p235 q235
                          cases e235
                          replace p235 := eq_true p235
                          replace q235 := eq_true q235
                          go_wp2_with (first | ((with_reducible refine gate_callee (f := 18) rfl ?_); refine goesL_ (some 49) rfl rfl Tryd.func18 (by kernel_rfl) rfl #[.string ((rd_T34 t230 x40_2).f1)] rfl (by (try simp only [List.map_toArray, List.map_cons, List.map_nil]); first | done | rfl | (simp only [List.length_drop, List.length_take]; rfl)) ?_; (with_reducible refine (value_Read.calls ((rd_T34 t230 x40_2).f1) t236 t237 t238 t239 _ ?side1 A21.out).mono ?_); (case side1 => (first | (refine LaidW.below HLW.out ?_; (repeat (first | (with_reducible first | exact HB.out | apply below_alloc | apply pw_below_drewN | apply below_drew1 | refine below_set ?_ GE227.out) | exact HB.out)); done) | (repeat (first | exact HLW.out | apply LaidW.drewN | apply LaidW.drew | apply LaidW.alloc)))); rintro e w55 ⟨rfl, hb⟩; refine ⟨_, rfl, ?_⟩; have n0_ := Aside0.mk (Kd.R_below (by (with_reducible repeat (first | apply Kd.R_alloc | apply Kd.R_drewN | apply Kd.R_drew)); exact HO_7.out) hb); have n1_ := Aside0.mk (blk_below (g := gb227) (o := .cells #[.int .i64 a1_0, .int .i64 a1_1, .string a1_2] 36 (0, 0)) (by (with_reducible repeat (first | refine blk_drewN ?_ _ | refine blk_drew ?_ | refine blk_alloc ?_ _)); exact BK227.out) hb); have n2_ := Aside0.mk (below_step (by repeat (first | (with_reducible first | exact HB.out | apply below_alloc | apply pw_below_drewN | apply below_drew1 | refine below_set ?_ GE227.out) | exact HB.out)) hb); clear HO_7; clear BK227; clear HB; have HO_7 := n0_; have BK227 := n1_; have HB := n2_; clear n0_ n1_ n2_; (try clear hb); (try clear hb2); (try clear hk); (try clear hi)) | ((with_reducible refine gate_dst (N := 11) rfl ?_); (try (refine gate_guard (by rfl) ?_; dsimp only)); refine box_event ?hg (N := 11) ?hd (cs := #[.int .i64 0, .int .i64 0, .string (⟨#[]⟩ : ByteArray)]) (t := 36) ?hr ?_; (case hd => rfl); (case hg => rfl); (case hr => first | (go_simp; done) | (go_simp; rfl)); intro gb240 hg w56 hbox hb; have n0_ := Aside0.mk (Kd.R_below (by (with_reducible repeat (first | apply Kd.R_alloc | apply Kd.R_drewN | apply Kd.R_drew)); exact HO_7.out) hb); have n1_ := Aside0.mk (blk_below (g := gb227) (o := .cells #[.int .i64 a1_0, .int .i64 a1_1, .string a1_2] 36 (0, 0)) (by (with_reducible repeat (first | refine blk_drewN ?_ _ | refine blk_drew ?_ | refine blk_alloc ?_ _)); exact BK227.out) hb); have n2_ := Aside0.mk (below_step (by repeat (first | (with_reducible first | exact HB.out | apply below_alloc | apply pw_below_drewN | apply below_drew1 | refine below_set ?_ GE227.out) | exact HB.out)) hb); have n3_ := Aside0.mk (hbox); have n4_ := Aside0.mk ((by rw [hg]; exact (below_size (by repeat (first | (with_reducible first | exact HB.out | apply below_alloc | apply pw_below_drewN | apply below_drew1 | refine below_set ?_ GE227.out) | exact HB.out))) : w.heap.size ≤ gb240)); have n5_ := Aside0.mk ((by rw [hg]; exact (below_size (by repeat (first | (with_reducible first | exact HB.out | apply below_alloc | apply pw_below_drewN | apply below_drew1 | refine below_set ?_ GE227.out) | exact HB.out))) : w.heap.size ≤ gb240)); have n6_ := Aside0.mk ((by rw [hg]; exact Nat.ne_of_lt (blk_lt (g := gb227) (o := .cells #[.int .i64 a1_0, .int .i64 a1_1, .string a1_2] 36 (0, 0)) (by (with_reducible repeat (first | refine blk_drewN ?_ _ | refine blk_drew ?_ | refine blk_alloc ?_ _)); exact BK227.out)) : gb227 ≠ gb240)); have n7_ := Aside0.mk ((by rw [hg]; exact Nat.ne_of_gt (blk_lt (g := gb227) (o := .cells #[.int .i64 a1_0, .int .i64 a1_1, .string a1_2] 36 (0, 0)) (by (with_reducible repeat (first | refine blk_drewN ?_ _ | refine blk_drew ?_ | refine blk_alloc ?_ _)); exact BK227.out)) : gb240 ≠ gb227)); clear HO_7; clear BK227; clear HB; have HO_7 := n0_; have BK227 := n1_; have HB := n2_; have BK240 := n3_; have GW240 := n4_; have GE240 := n5_; have NB227_240 := n6_; have NB240_227 := n7_; clear n0_ n1_ n2_ n3_ n4_ n5_ n6_ n7_; clear hb hbox hg; have hnb57 := NB240_227.out; have hnc57 := NB227_240.out; have hcz58_0 : w56.cell? ⟨gb240, 0, none⟩ = some (.int .i64 0) := (blk_cell BK240.out 0).trans rfl; have hcz58_1 : w56.cell? ⟨gb240, 1, none⟩ = some (.int .i64 0) := (blk_cell BK240.out 1).trans rfl; have hcz58_2 : w56.cell? ⟨gb240, 2, none⟩ = some (.string (⟨#[]⟩ : ByteArray)) := (blk_cell BK240.out 2).trans rfl; have hfz58_0 := blk_frozen BK240.out 0; have hfz58_1 := blk_frozen BK240.out 1; have hfz58_2 := blk_frozen BK240.out 2; have p241 : 0 ≤ (x40_2 : Int) := of_decide_eq_true (by first | (with_reducible assumption) | assumption); have q241 : x40_2 < (t230.length : Int) := of_decide_eq_true (by first | (with_reducible assumption) | assumption); obtain ⟨ad241, e241, hx241_0, hx241_1, hx241_2⟩ := at_T34 (Kd.R_reads' HO_7.out).2.2 x40_2 p241 q241; obtain rfl : ad235 = ad241 := (by injection e241); have hn241_0 : ad235.block ≠ gb240 := Kd.own_blk (Kd.R_ne HO_7.out BK240.out (by decide)); have hn241_1 : ad235.block ≠ gb240 := Kd.own_blk (Kd.R_ne HO_7.out BK240.out (by decide)); have hn241_2 : ad235.block ≠ gb240 := Kd.own_blk (Kd.R_ne HO_7.out BK240.out (by decide)); replace hx241_0 := (cell_far (p := ⟨gb240, 0, none⟩) (by first | (rw [add_block]; exact hn241_0) | (show (Addr.add _ _).block ≠ _; rw [add_block]; exact hn241_0) | exact hn241_0) (.int .i64 t236)).trans hx241_0; replace hx241_1 := (cell_far (p := ⟨gb240, 0, none⟩) (by first | (rw [add_block]; exact hn241_0) | (show (Addr.add _ _).block ≠ _; rw [add_block]; exact hn241_0) | exact hn241_0) (.int .i64 t236)).trans hx241_1; replace hx241_2 := (cell_far (p := ⟨gb240, 0, none⟩) (by first | (rw [add_block]; exact hn241_0) | (show (Addr.add _ _).block ≠ _; rw [add_block]; exact hn241_0) | exact hn241_0) (.int .i64 t236)).trans hx241_2; replace hx241_0 := (cell_far (p := ⟨gb240, 1, none⟩) (by first | (rw [add_block]; exact hn241_1) | (show (Addr.add _ _).block ≠ _; rw [add_block]; exact hn241_1) | exact hn241_1) (.int .i64 t237)).trans hx241_0; replace hx241_1 := (cell_far (p := ⟨gb240, 1, none⟩) (by first | (rw [add_block]; exact hn241_1) | (show (Addr.add _ _).block ≠ _; rw [add_block]; exact hn241_1) | exact hn241_1) (.int .i64 t237)).trans hx241_1; replace hx241_2 := (cell_far (p := ⟨gb240, 1, none⟩) (by first | (rw [add_block]; exact hn241_1) | (show (Addr.add _ _).block ≠ _; rw [add_block]; exact hn241_1) | exact hn241_1) (.int .i64 t237)).trans hx241_2; replace hx241_0 := (cell_far (p := ⟨gb240, 2, none⟩) (by first | (rw [add_block]; exact hn241_2) | (show (Addr.add _ _).block ≠ _; rw [add_block]; exact hn241_2) | exact hn241_2) (.string t238)).trans hx241_0; replace hx241_1 := (cell_far (p := ⟨gb240, 2, none⟩) (by first | (rw [add_block]; exact hn241_2) | (show (Addr.add _ _).block ≠ _; rw [add_block]; exact hn241_2) | exact hn241_2) (.string t238)).trans hx241_1; replace hx241_2 := (cell_far (p := ⟨gb240, 2, none⟩) (by first | (rw [add_block]; exact hn241_2) | (show (Addr.add _ _).block ≠ _; rw [add_block]; exact hn241_2) | exact hn241_2) (.string t238)).trans hx241_2; clear hn241_0; clear hn241_1; clear hn241_2; replace p241 := eq_true p241; replace q241 := eq_true q241))
                          go_ret
                          exact ⟨by first | rfl | (simp [errW_none, errW_some] <;> rfl) | (simp [*, errW_none, errW_some] <;> rfl), by repeat (first | (with_reducible first | exact HB.out | apply below_alloc | apply pw_below_drewN | apply below_drew1 | refine below_set ?_ GE227.out | refine below_set ?_ GE240.out) | exact HB.out)⟩
                      · rw [if_neg c44] at H
                        have c44b0 : (((rd_T34 t230 x40_2).f0) == 3) = false := beq_eq_false_iff_ne.mpr c44
                        have c44b1 : (((rd_T34 t230 x40_2).f0) != 3) = true := bne_iff_ne.mpr c44
                        have H' := Aside0.mk H
                        clear H
                        have p235 : 0 ≤ (x40_2 : Int) := of_decide_eq_true (by first | (with_reducible assumption) | assumption)
                        have q235 : x40_2 < (t230.length : Int) := of_decide_eq_true (by first | (with_reducible assumption) | assumption)
                        obtain ⟨ad235, e235, hx235_0, hx235_1, hx235_2⟩ := at_T34 (Kd.R_reads' HO_7.out).2.2 x40_2 p235 q235
                        cases e235
                        replace p235 := eq_true p235
                        replace q235 := eq_true q235
                        go_wp2_with (first | ((with_reducible refine gate_callee (f := 18) rfl ?_); refine goesL_ (some 49) rfl rfl Tryd.func18 (by kernel_rfl) rfl #[.string ((rd_T34 t230 x40_2).f1)] rfl (by (try simp only [List.map_toArray, List.map_cons, List.map_nil]); first | done | rfl | (simp only [List.length_drop, List.length_take]; rfl)) ?_; (with_reducible refine (value_Read.calls ((rd_T34 t230 x40_2).f1) t236 t237 t238 t239 _ ?side1 A21.out).mono ?_); (case side1 => (first | (refine LaidW.below HLW.out ?_; (repeat (first | (with_reducible first | exact HB.out | apply below_alloc | apply pw_below_drewN | apply below_drew1 | refine below_set ?_ GE227.out) | exact HB.out)); done) | (repeat (first | exact HLW.out | apply LaidW.drewN | apply LaidW.drew | apply LaidW.alloc)))); rintro e w59 ⟨rfl, hb⟩; refine ⟨_, rfl, ?_⟩; have n0_ := Aside0.mk (Kd.R_below (by (with_reducible repeat (first | apply Kd.R_alloc | apply Kd.R_drewN | apply Kd.R_drew)); exact HO_7.out) hb); have n1_ := Aside0.mk (blk_below (g := gb227) (o := .cells #[.int .i64 a1_0, .int .i64 a1_1, .string a1_2] 36 (0, 0)) (by (with_reducible repeat (first | refine blk_drewN ?_ _ | refine blk_drew ?_ | refine blk_alloc ?_ _)); exact BK227.out) hb); have n2_ := Aside0.mk (below_step (by repeat (first | (with_reducible first | exact HB.out | apply below_alloc | apply pw_below_drewN | apply below_drew1 | refine below_set ?_ GE227.out) | exact HB.out)) hb); clear HO_7; clear BK227; clear HB; have HO_7 := n0_; have BK227 := n1_; have HB := n2_; clear n0_ n1_ n2_; (try clear hb); (try clear hb2); (try clear hk); (try clear hi)) | ((with_reducible refine gate_dst (N := 11) rfl ?_); (try (refine gate_guard (by rfl) ?_; dsimp only)); refine box_event ?hg (N := 11) ?hd (cs := #[.int .i64 0, .int .i64 0, .string (⟨#[]⟩ : ByteArray)]) (t := 36) ?hr ?_; (case hd => rfl); (case hg => rfl); (case hr => first | (go_simp; done) | (go_simp; rfl)); intro gb240 hg w60 hbox hb; have n0_ := Aside0.mk (Kd.R_below (by (with_reducible repeat (first | apply Kd.R_alloc | apply Kd.R_drewN | apply Kd.R_drew)); exact HO_7.out) hb); have n1_ := Aside0.mk (blk_below (g := gb227) (o := .cells #[.int .i64 a1_0, .int .i64 a1_1, .string a1_2] 36 (0, 0)) (by (with_reducible repeat (first | refine blk_drewN ?_ _ | refine blk_drew ?_ | refine blk_alloc ?_ _)); exact BK227.out) hb); have n2_ := Aside0.mk (below_step (by repeat (first | (with_reducible first | exact HB.out | apply below_alloc | apply pw_below_drewN | apply below_drew1 | refine below_set ?_ GE227.out) | exact HB.out)) hb); have n3_ := Aside0.mk (hbox); have n4_ := Aside0.mk ((by rw [hg]; exact (below_size (by repeat (first | (with_reducible first | exact HB.out | apply below_alloc | apply pw_below_drewN | apply below_drew1 | refine below_set ?_ GE227.out) | exact HB.out))) : w.heap.size ≤ gb240)); have n5_ := Aside0.mk ((by rw [hg]; exact (below_size (by repeat (first | (with_reducible first | exact HB.out | apply below_alloc | apply pw_below_drewN | apply below_drew1 | refine below_set ?_ GE227.out) | exact HB.out))) : w.heap.size ≤ gb240)); have n6_ := Aside0.mk ((by rw [hg]; exact Nat.ne_of_lt (blk_lt (g := gb227) (o := .cells #[.int .i64 a1_0, .int .i64 a1_1, .string a1_2] 36 (0, 0)) (by (with_reducible repeat (first | refine blk_drewN ?_ _ | refine blk_drew ?_ | refine blk_alloc ?_ _)); exact BK227.out)) : gb227 ≠ gb240)); have n7_ := Aside0.mk ((by rw [hg]; exact Nat.ne_of_gt (blk_lt (g := gb227) (o := .cells #[.int .i64 a1_0, .int .i64 a1_1, .string a1_2] 36 (0, 0)) (by (with_reducible repeat (first | refine blk_drewN ?_ _ | refine blk_drew ?_ | refine blk_alloc ?_ _)); exact BK227.out)) : gb240 ≠ gb227)); clear HO_7; clear BK227; clear HB; have HO_7 := n0_; have BK227 := n1_; have HB := n2_; have BK240 := n3_; have GW240 := n4_; have GE240 := n5_; have NB227_240 := n6_; have NB240_227 := n7_; clear n0_ n1_ n2_ n3_ n4_ n5_ n6_ n7_; clear hb hbox hg; have hnb61 := NB240_227.out; have hnc61 := NB227_240.out; have hcz62_0 : w60.cell? ⟨gb240, 0, none⟩ = some (.int .i64 0) := (blk_cell BK240.out 0).trans rfl; have hcz62_1 : w60.cell? ⟨gb240, 1, none⟩ = some (.int .i64 0) := (blk_cell BK240.out 1).trans rfl; have hcz62_2 : w60.cell? ⟨gb240, 2, none⟩ = some (.string (⟨#[]⟩ : ByteArray)) := (blk_cell BK240.out 2).trans rfl; have hfz62_0 := blk_frozen BK240.out 0; have hfz62_1 := blk_frozen BK240.out 1; have hfz62_2 := blk_frozen BK240.out 2; have p241 : 0 ≤ (x40_2 : Int) := of_decide_eq_true (by first | (with_reducible assumption) | assumption); have q241 : x40_2 < (t230.length : Int) := of_decide_eq_true (by first | (with_reducible assumption) | assumption); obtain ⟨ad241, e241, hx241_0, hx241_1, hx241_2⟩ := at_T34 (Kd.R_reads' HO_7.out).2.2 x40_2 p241 q241; obtain rfl : ad235 = ad241 := (by injection e241); have hn241_0 : ad235.block ≠ gb240 := Kd.own_blk (Kd.R_ne HO_7.out BK240.out (by decide)); have hn241_1 : ad235.block ≠ gb240 := Kd.own_blk (Kd.R_ne HO_7.out BK240.out (by decide)); have hn241_2 : ad235.block ≠ gb240 := Kd.own_blk (Kd.R_ne HO_7.out BK240.out (by decide)); replace hx241_0 := (cell_far (p := ⟨gb240, 0, none⟩) (by first | (rw [add_block]; exact hn241_0) | (show (Addr.add _ _).block ≠ _; rw [add_block]; exact hn241_0) | exact hn241_0) (.int .i64 t236)).trans hx241_0; replace hx241_1 := (cell_far (p := ⟨gb240, 0, none⟩) (by first | (rw [add_block]; exact hn241_0) | (show (Addr.add _ _).block ≠ _; rw [add_block]; exact hn241_0) | exact hn241_0) (.int .i64 t236)).trans hx241_1; replace hx241_2 := (cell_far (p := ⟨gb240, 0, none⟩) (by first | (rw [add_block]; exact hn241_0) | (show (Addr.add _ _).block ≠ _; rw [add_block]; exact hn241_0) | exact hn241_0) (.int .i64 t236)).trans hx241_2; replace hx241_0 := (cell_far (p := ⟨gb240, 1, none⟩) (by first | (rw [add_block]; exact hn241_1) | (show (Addr.add _ _).block ≠ _; rw [add_block]; exact hn241_1) | exact hn241_1) (.int .i64 t237)).trans hx241_0; replace hx241_1 := (cell_far (p := ⟨gb240, 1, none⟩) (by first | (rw [add_block]; exact hn241_1) | (show (Addr.add _ _).block ≠ _; rw [add_block]; exact hn241_1) | exact hn241_1) (.int .i64 t237)).trans hx241_1; replace hx241_2 := (cell_far (p := ⟨gb240, 1, none⟩) (by first | (rw [add_block]; exact hn241_1) | (show (Addr.add _ _).block ≠ _; rw [add_block]; exact hn241_1) | exact hn241_1) (.int .i64 t237)).trans hx241_2; replace hx241_0 := (cell_far (p := ⟨gb240, 2, none⟩) (by first | (rw [add_block]; exact hn241_2) | (show (Addr.add _ _).block ≠ _; rw [add_block]; exact hn241_2) | exact hn241_2) (.string t238)).trans hx241_0; replace hx241_1 := (cell_far (p := ⟨gb240, 2, none⟩) (by first | (rw [add_block]; exact hn241_2) | (show (Addr.add _ _).block ≠ _; rw [add_block]; exact hn241_2) | exact hn241_2) (.string t238)).trans hx241_1; replace hx241_2 := (cell_far (p := ⟨gb240, 2, none⟩) (by first | (rw [add_block]; exact hn241_2) | (show (Addr.add _ _).block ≠ _; rw [add_block]; exact hn241_2) | exact hn241_2) (.string t238)).trans hx241_2; clear hn241_0; clear hn241_1; clear hn241_2; replace p241 := eq_true p241; replace q241 := eq_true q241))
                        go_roundg k2
                        case measure => have := HJ3.out; have := HK2.out; omega
                        case rel => exact ⟨(wrap64 (x40_2 + 1)), (by first | rfl | (simp; done) | (simp [*]; done)), H', ⟨by have := HJ3.out; have := HK2.out; omega⟩, ⟨by (with_reducible repeat (first | apply Kd.R_alloc | apply Kd.R_drewN | apply Kd.R_drew)); exact Kd.R_mono (Kd.R_far (p := ⟨gb240, 2, none⟩) (Kd.R_far (p := ⟨gb240, 1, none⟩) (Kd.R_far (p := ⟨gb240, 0, none⟩) (Kd.R_types HO_7.out BK240.out (by decide)) (fun _ hk => hk.2) (.int .i64 t236)) (fun _ hk => hk.2) (.int .i64 t237)) (fun _ hk => hk.2) (.string t238)) (fun _ hk => trivial)⟩, ⟨by (with_reducible repeat (first | refine blk_drewN ?_ _ | refine blk_drew ?_ | refine blk_alloc ?_ _)); refine blk_far ?_ NB227_240.out _; (with_reducible repeat (first | refine blk_drewN ?_ _ | refine blk_drew ?_ | refine blk_alloc ?_ _)); refine blk_far ?_ NB227_240.out _; (with_reducible repeat (first | refine blk_drewN ?_ _ | refine blk_drew ?_ | refine blk_alloc ?_ _)); refine blk_far ?_ NB227_240.out _; (with_reducible repeat (first | refine blk_drewN ?_ _ | refine blk_drew ?_ | refine blk_alloc ?_ _)); exact BK227.out⟩, ⟨by repeat (first | (with_reducible first | exact HB.out | apply below_alloc | apply pw_below_drewN | apply below_drew1 | refine below_set ?_ GE227.out | refine below_set ?_ GE240.out) | exact HB.out)⟩⟩
                · rw [if_neg c20] at H
                  exact absurd H (by simp)
              · rw [if_neg c19] at H
                exact absurd H (by simp)
            · rw [if_neg c18] at H
              have c18b0 : decide (x40_2 < (t230.length : Int)) = false := decide_eq_false c18
              clear c18
              have HC63 := Aside0.mk H
              clear H
              go_upto_region 19 with (fail)
              go_cut [91] (fun v91 wc => ∃ (kq : Nat) (x91_62 : Bool), v91 = .bool x91_62 ∧ Aside0 (antecedentlaw07_LexKinds.j2 kq a2 x91_62 a1_0 a1_1 a1_2 = some r) ∧ Aside0 (kq ≤ k2) ∧ Aside0 (wc.heap[gb227]? = some (.cells #[.int .i64 a1_0, .int .i64 a1_1, .string a1_2] 36 (0, 0))) ∧ Aside0 (Below w.heap.size w wc))
              case first =>
                have H := HC63.out
                clear HC63
                by_cases c64 : t232 = 0
                · rw [if_pos c64] at H
                  have c64b0 : (t232 == 0) = true := beq_iff_eq.mpr c64
                  have c64b1 : (t232 != 0) = false := bne_eq_false_iff_eq.mpr c64
                  clear c64
                  (first | rw [c64b0] | (simp only [i64_w, i32_w]; rw [c64b0]) | skip)
                  have H' := Aside0.mk H
                  clear H
                  go_wp2
                  go_meet
                  case rel => exact ⟨_, (false), (by first | rfl | (simp; done) | (simp [*]; done)), H', ⟨by have := HJ3.out; have := HK2.out; first | omega | exact Nat.le_refl _⟩, ⟨by (with_reducible repeat (first | refine blk_drewN ?_ _ | refine blk_drew ?_ | refine blk_alloc ?_ _)); exact BK227.out⟩, ⟨by repeat (first | (with_reducible first | exact HB.out | apply below_alloc | apply pw_below_drewN | apply below_drew1 | refine below_set ?_ GE227.out) | exact HB.out)⟩⟩
                · rw [if_neg c64] at H
                  have c64b0 : (t232 == 0) = false := beq_eq_false_iff_ne.mpr c64
                  have c64b1 : (t232 != 0) = true := bne_iff_ne.mpr c64
                  (first | rw [c64b0] | (simp only [i64_w, i32_w]; rw [c64b0]) | skip)
                  have H' := Aside0.mk H
                  clear H
                  go_wp2
                  go_meet
                  case rel => exact ⟨_, (decide ((t230.length : Int) > 0)), (by first | rfl | (simp; done) | (simp [*]; done)), H', ⟨by have := HJ3.out; have := HK2.out; first | omega | exact Nat.le_refl _⟩, ⟨by (with_reducible repeat (first | refine blk_drewN ?_ _ | refine blk_drew ?_ | refine blk_alloc ?_ _)); exact BK227.out⟩, ⟨by repeat (first | (with_reducible first | exact HB.out | apply below_alloc | apply pw_below_drewN | apply below_drew1 | refine below_set ?_ GE227.out) | exact HB.out)⟩⟩
              case rest =>
                clear HC63
                try clear c1
                try clear c2
                try clear p2
                try clear q2
                try clear hx2
                try clear c3
                try clear c4
                try clear c5
                try clear c6
                try clear p6
                try clear c7
                try clear c8
                try clear c8b0
                try clear c8b1
                try clear c10
                try clear c11
                try clear c12
                try clear c14
                try clear c18
                try clear c18b0
                try clear c19
                try clear c19b0
                try clear c20
                try clear c20b0
                try clear c22
                try clear c22b0
                try clear c22b1
                try clear p23
                try clear q23
                try clear hx23
                try clear c24
                try clear p24
                try clear q24
                try clear hx24
                try clear c27
                try clear c31
                try clear c33
                try clear c33b0
                try clear c33b1
                try clear c35
                try clear c38
                try clear c42
                try clear c44
                try clear c44b0
                try clear c44b1
                try clear c45
                try clear c45b0
                try clear c45b1
                try clear c46
                try clear c46b0
                try clear c46b1
                try clear c49
                try clear c53
                try clear c57
                try clear c61
                try clear c64
                try clear c64b0
                try clear c64b1
                try clear p64
                try clear hcz28_0
                try clear hcz28_1
                try clear hcz28_2
                try clear hcz32_0
                try clear hcz32_1
                try clear hcz32_2
                try clear hcz39_0
                try clear hcz39_1
                try clear hcz39_2
                try clear hcz43_0
                try clear hcz43_1
                try clear hcz43_2
                try clear hcz50_0
                try clear hcz50_1
                try clear hcz50_2
                try clear hcz54_0
                try clear hcz54_1
                try clear hcz54_2
                try clear hcz58_0
                try clear hcz58_1
                try clear hcz58_2
                try clear hcz62_0
                try clear hcz62_1
                try clear hcz62_2
                try clear hfz28_0
                try clear hfz28_1
                try clear hfz28_2
                try clear hfz32_0
                try clear hfz32_1
                try clear hfz32_2
                try clear hfz39_0
                try clear hfz39_1
                try clear hfz39_2
                try clear hfz43_0
                try clear hfz43_1
                try clear hfz43_2
                try clear hfz50_0
                try clear hfz50_1
                try clear hfz50_2
                try clear hfz54_0
                try clear hfz54_1
                try clear hfz54_2
                try clear hfz58_0
                try clear hfz58_1
                try clear hfz58_2
                try clear hfz62_0
                try clear hfz62_1
                try clear hfz62_2
                try clear hx235_0
                try clear hx235_1
                try clear hx235_2
                try clear hx241_0
                try clear hx241_1
                try clear hx241_2
                try clear hx242_0
                try clear hx242_1
                try clear hx242_2
                try clear hx244_0
                try clear hx244_1
                try clear hx244_2
                try clear p2
                try clear p235
                try clear p241
                try clear p242
                try clear p244
                try clear q235
                try clear q241
                try clear q242
                try clear q244
                obtain ⟨kq, x91_62, rfl, HA, HJ62, BK227, HB⟩ := hcut
                cases kq with
                | zero => exact absurd HA.out (by simp [antecedentlaw07_LexKinds.j2])
                | succ kj62 =>
                  have H := HA.out
                  clear HA
                  simp only [antecedentlaw07_LexKinds.j2] at H
                  by_cases c65 : x91_62 = true
                  · subst c65
                    have H1 : (some false) = some r := by rw [if_pos rfl] at H; exact H
                    clear H
                    have H := H1
                    clear H1
                    obtain rfl := Option.some.inj H
                    go_wp2
                    go_ret
                    exact ⟨by first | rfl | (simp [errW_none, errW_some] <;> rfl) | (simp [*, errW_none, errW_some] <;> rfl), by repeat (first | (with_reducible first | exact HB.out | apply below_alloc | apply pw_below_drewN | apply below_drew1 | refine below_set ?_ GE227.out) | exact HB.out)⟩
                  · replace c65 := Bool.eq_false_iff.mpr c65
                    subst c65
                    have H1 : ((value_Text.f a1_0 a1_1 a1_2).bind fun t246 => ((lex_Tokens.f t246).bind fun bt247 => ((value_Right.f kj62 a1_0 a1_1 a1_2).bind fun t252 => (if t252 = true then (if bt247.2.2 = 0 then (if (bt247.1.length : Int) = 1 then (if 0 < (bt247.1.length : Int) then (antecedentlaw07_LexKinds.j3 kj62 a2 ((((rd_T34 bt247.1 0).f0) == 1) != (a1_0 == 3))) else (none)) else (antecedentlaw07_LexKinds.j3 kj62 a2 true)) else (antecedentlaw07_LexKinds.j3 kj62 a2 true)) else (antecedentlaw07_LexKinds.j3 kj62 a2 false))))) = some r := by rw [if_neg (show ¬ (false = true) by decide)] at H; exact H
                    clear H
                    have H := H1
                    clear H1
                    replace H := Option.bind_eq_some_iff.mp H
                    obtain ⟨t246, A660, H⟩ := H
                    replace H : ((lex_Tokens.f t246).bind fun bt247 => ((value_Right.f kj62 a1_0 a1_1 a1_2).bind fun t252 => (if t252 = true then (if bt247.2.2 = 0 then (if (bt247.1.length : Int) = 1 then (if 0 < (bt247.1.length : Int) then (antecedentlaw07_LexKinds.j3 kj62 a2 ((((rd_T34 bt247.1 0).f0) == 1) != (a1_0 == 3))) else (none)) else (antecedentlaw07_LexKinds.j3 kj62 a2 true)) else (antecedentlaw07_LexKinds.j3 kj62 a2 true)) else (antecedentlaw07_LexKinds.j3 kj62 a2 false)))) = some r := H
                    have A66 := Aside0.mk A660
                    clear A660
                    replace H := Option.bind_eq_some_iff.mp H
                    obtain ⟨⟨t247, t248, t249⟩, A670, H⟩ := H
                    replace H : ((value_Right.f kj62 a1_0 a1_1 a1_2).bind fun t252 => (if t252 = true then (if t249 = 0 then (if (t247.length : Int) = 1 then (if 0 < (t247.length : Int) then (antecedentlaw07_LexKinds.j3 kj62 a2 ((((rd_T34 t247 0).f0) == 1) != (a1_0 == 3))) else (none)) else (antecedentlaw07_LexKinds.j3 kj62 a2 true)) else (antecedentlaw07_LexKinds.j3 kj62 a2 true)) else (antecedentlaw07_LexKinds.j3 kj62 a2 false))) = some r := H
                    have A67 := Aside0.mk A670
                    clear A670
                    have HC68 := Aside0.mk H
                    clear H
                    have hcz69_0 : wc.cell? ⟨gb227, 0, none⟩ = some (.int .i64 a1_0) := (blk_cell BK227.out 0).trans rfl
                    have hcz69_1 : wc.cell? ⟨gb227, 1, none⟩ = some (.int .i64 a1_1) := (blk_cell BK227.out 1).trans rfl
                    have hcz69_2 : wc.cell? ⟨gb227, 2, none⟩ = some (.string a1_2) := (blk_cell BK227.out 2).trans rfl
                    have hfz69_0 := blk_frozen BK227.out 0
                    have hfz69_1 := blk_frozen BK227.out 1
                    have hfz69_2 := blk_frozen BK227.out 2
                    go_upto_region 22 with (first | ((with_reducible refine gate_callee (f := 20) rfl ?_); refine goesL_ (some 94) rfl rfl Tryd.func20 (by kernel_rfl) rfl #[.agg #[.int .i64 a1_0, .int .i64 a1_1, .string a1_2]] rfl (by (try simp only [List.map_toArray, List.map_cons, List.map_nil]); first | done | rfl | (simp only [List.length_drop, List.length_take]; rfl)) ?_; (with_reducible refine (value_Text.calls a1_0 a1_1 a1_2 t246 _ ?side1 A66.out).mono ?_); (case side1 => (first | (refine LaidW.below HLW.out ?_; (repeat (first | (with_reducible first | exact HB.out | apply below_alloc | apply pw_below_drewN | apply below_drew1 | refine below_set ?_ GE227.out) | exact HB.out)); done) | (repeat (first | exact HLW.out | apply LaidW.drewN | apply LaidW.drew | apply LaidW.alloc)))); rintro e w70 ⟨rfl, hb⟩; refine ⟨_, rfl, ?_⟩; have n0_ := Aside0.mk (blk_below (g := gb227) (o := .cells #[.int .i64 a1_0, .int .i64 a1_1, .string a1_2] 36 (0, 0)) (by (with_reducible repeat (first | refine blk_drewN ?_ _ | refine blk_drew ?_ | refine blk_alloc ?_ _)); exact BK227.out) hb); have n1_ := Aside0.mk (below_step (by repeat (first | (with_reducible first | exact HB.out | apply below_alloc | apply pw_below_drewN | apply below_drew1 | refine below_set ?_ GE227.out) | exact HB.out)) hb); clear BK227; clear HB; have BK227 := n0_; have HB := n1_; clear n0_ n1_; (try clear hb); (try clear hb2); (try clear hk); (try clear hi)) | ((with_reducible refine gate_callee (f := 11) rfl ?_); refine goesL_ (some 95) rfl rfl Tryd.func11 (by kernel_rfl) rfl #[.string t246] rfl (by (try simp only [List.map_toArray, List.map_cons, List.map_nil]); first | done | rfl | (simp only [List.length_drop, List.length_take]; rfl)) ?_; (with_reducible refine (lex_Tokens.calls t246 t247 t248 t249 _ ?side1 A67.out).mono ?_); (case side1 => (first | (refine LaidW.below HLW.out ?_; (repeat (first | (with_reducible first | exact HB.out | apply below_alloc | apply pw_below_drewN | apply below_drew1 | refine below_set ?_ GE227.out) | exact HB.out)); done) | (repeat (first | exact HLW.out | apply LaidW.drewN | apply LaidW.drew | apply LaidW.alloc)))); rintro e w71 ⟨v250, rfl, ho0, hb⟩; refine ⟨_, rfl, ?_⟩; have n0_ := Aside0.mk (Kd.R_lower ho0 (below_size (by repeat (first | (with_reducible first | exact HB.out | apply below_alloc | apply pw_below_drewN | apply below_drew1 | refine below_set ?_ GE227.out) | exact HB.out)))); have n1_ := Aside0.mk (blk_below (g := gb227) (o := .cells #[.int .i64 a1_0, .int .i64 a1_1, .string a1_2] 36 (0, 0)) (by (with_reducible repeat (first | refine blk_drewN ?_ _ | refine blk_drew ?_ | refine blk_alloc ?_ _)); exact BK227.out) hb); have n2_ := Aside0.mk (below_step (by repeat (first | (with_reducible first | exact HB.out | apply below_alloc | apply pw_below_drewN | apply below_drew1 | refine below_set ?_ GE227.out) | exact HB.out)) hb); clear BK227; clear HB; have HO251 := n0_; have BK227 := n1_; have HB := n2_; clear n0_ n1_ n2_; (try clear hb); (try clear hb2); (try clear hk); (try clear hi); (try clear ho0)))
                    (try simp only [Act.put, List.setIfInBounds_toArray, List.set_cons_zero, List.set_cons_succ])
                    go_cut [120] (fun v120 wc => ∃ (kq : Nat) (x120_67 : Bool), v120 = .bool x120_67 ∧ Aside0 (antecedentlaw07_LexKinds.j3 kq a2 x120_67 = some r) ∧ Aside0 (kq ≤ kj62) ∧ Aside0 (wc.heap[gb227]? = some (.cells #[.int .i64 a1_0, .int .i64 a1_1, .string a1_2] 36 (0, 0))) ∧ Aside0 (Below w.heap.size w wc))
                    case first =>
                      have H := HC68.out
                      clear HC68
                      replace H := Option.bind_eq_some_iff.mp H
                      obtain ⟨t252, A720, H⟩ := H
                      replace H : (if t252 = true then (if t249 = 0 then (if (t247.length : Int) = 1 then (if 0 < (t247.length : Int) then (antecedentlaw07_LexKinds.j3 kj62 a2 ((((rd_T34 t247 0).f0) == 1) != (a1_0 == 3))) else (none)) else (antecedentlaw07_LexKinds.j3 kj62 a2 true)) else (antecedentlaw07_LexKinds.j3 kj62 a2 true)) else (antecedentlaw07_LexKinds.j3 kj62 a2 false)) = some r := H
                      have A72 := Aside0.mk A720
                      clear A720
                      by_cases c73 : t252 = true
                      · subst c73
                        have H1 : (if t249 = 0 then (if (t247.length : Int) = 1 then (if 0 < (t247.length : Int) then (antecedentlaw07_LexKinds.j3 kj62 a2 ((((rd_T34 t247 0).f0) == 1) != (a1_0 == 3))) else (none)) else (antecedentlaw07_LexKinds.j3 kj62 a2 true)) else (antecedentlaw07_LexKinds.j3 kj62 a2 true)) = some r := by rw [if_pos rfl] at H; exact H
                        clear H
                        have H := H1
                        clear H1
                        by_cases c74 : t249 = 0
                        · rw [if_pos c74] at H
                          have c74b0 : (t249 == 0) = true := beq_iff_eq.mpr c74
                          have c74b1 : (t249 != 0) = false := bne_eq_false_iff_eq.mpr c74
                          clear c74
                          (first | rw [c74b0] | (simp only [i64_w, i32_w]; rw [c74b0]) | skip)
                          by_cases c75 : (t247.length : Int) = 1
                          · rw [if_pos c75] at H
                            have c75b0 : ((t247.length : Int) == 1) = true := beq_iff_eq.mpr c75
                            have c75b1 : ((t247.length : Int) != 1) = false := bne_eq_false_iff_eq.mpr c75
                            clear c75
                            by_cases c76 : 0 < (t247.length : Int)
                            · rw [if_pos c76] at H
                              have c76b0 : decide (0 < (t247.length : Int)) = true := decide_eq_true c76
                              have c76b1 : decide (0 < t247.length) = true := decide_eq_true (by omega)
                              clear c76
                              have H' := Aside0.mk H
                              clear H
                              try go_wp2
                              have n0_ := Aside0.mk (Kd.R_drew HO251.out)
                              have n1_ := Aside0.mk (blk_drew BK227.out)
                              have n2_ := Aside0.mk (below_drew1 HB.out)
                              clear HO251
                              clear BK227
                              clear HB
                              have HO251 := n0_
                              have BK227 := n1_
                              have HB := n2_
                              clear n0_ n1_ n2_
                              have p253 : 0 ≤ (0 : Int) := (by omega)
                              have q253 : 0 < (t247.length : Int) := of_decide_eq_true (by first | (with_reducible assumption) | assumption)
                              (try (obtain ⟨Ao_, co_, eo_⟩ := Kd.R_slice HO251.out; subst eo_))
                              obtain ⟨ad253, e253, hx253_0, hx253_1, hx253_2⟩ := at_T34 (Kd.R_reads' HO251.out).2.2 0 p253 q253
                              cases e253
                              have qi253 : (0 < t247.length) = True := eq_true (by omega)
                              (try rw [show ((0 : Int)).toNat = 0 from rfl] at hx253_0)
                              (try rw [show 0 * 3 = 0 from rfl] at hx253_0)
                              (try rw [Addr.add_zero'] at hx253_0)
                              (try rw [show ((0 : Int)).toNat = 0 from rfl] at hx253_1)
                              (try rw [show 0 * 3 = 0 from rfl] at hx253_1)
                              (try rw [Addr.add_zero'] at hx253_1)
                              (try rw [show ((0 : Int)).toNat = 0 from rfl] at hx253_2)
                              (try rw [show 0 * 3 = 0 from rfl] at hx253_2)
                              (try rw [Addr.add_zero'] at hx253_2)
                              replace p253 := eq_true p253
                              replace q253 := eq_true q253
                              refine start_ (n := 22) (S := fun w' => w'.cell? ⟨gb227, 0, none⟩ = some (.int .i64 a1_0) ∧ w'.cell? ⟨gb227, 1, none⟩ = some (.int .i64 a1_1) ∧ w'.cell? ⟨gb227, 2, none⟩ = some (.string a1_2) ∧ w'.cell? ad253 = some (.int .i64 ((rd_T34 t247 0).f0)) ∧ w'.cell? ⟨ad253.block, ad253.off + 1, none⟩ = some (.string ((rd_T34 t247 0).f1)) ∧ w'.cell? ⟨ad253.block, ad253.off + 2, none⟩ = some (.int .i64 ((rd_T34 t247 0).f2))) (ds := []) #[false, false, false, false, false, false, false, false, false, false, false, false, false, false, false, false, false, false, false, false, false, false] (by kernel_rfl) rfl rfl ⟨(blk_cell BK227.out 0).trans rfl, (blk_cell BK227.out 1).trans rfl, (blk_cell BK227.out 2).trans rfl, hx253_0, hx253_1, hx253_2⟩ (fun hHeld => ?_); refine with_tabW antecedentlaw07_LexKinds.tab22 antecedentlaw07_LexKinds.bits22 (fun HT_ HW_ => ?_)
                              generalize w71.drew = w77 at HO251 BK227 HB hx253_0 hx253_1 hx253_2 hHeld ⊢
                              refine take_ (i := 0) (N := some 99) (v := ?_) (a' := ?_) #[true, false, false, false, false, false, false, false, false, false, false, false, false, false, false, false, false, false, false, false, false, false] rfl rfl (take_ofW HT_.out HW_.out (by kernel_rfl)) (fun _ _ _ h => h) (Or.inl ⟨by rfl, ?_⟩) hHeld ?_ ?_
                              rotate_left
                              · rintro w' ⟨s0, s1, s2, s3, s4, s5⟩
                                go_simp
                                with_reducible rfl
                              rotate_left
                              · simp only [Act.put, List.setIfInBounds_toArray, List.set_cons_zero, List.set_cons_succ, i64_w, i32_w]
                                rfl
                              refine one_ (i := 1) (N := some 100) #[true, true, false, false, false, false, false, false, false, false, false, false, false, false, false, false, false, false, false, false, false, false] rfl rfl (one_of HT_.out (by kernel_rfl)) (by decide) (fun K hK => ?_)
                              refine goes_ Tryd.func21 (by kernel_rfl) rfl #[.agg #[.int .i64 a1_0, .int .i64 a1_1, .string a1_2]] (by rfl) rfl rfl (by (try simp only [List.map_toArray, List.map_cons, List.map_nil]); first | done | rfl | (simp only [List.length_drop, List.length_take]; rfl)) ?_
                              with_reducible refine (value_Right.calls kj62 a1_0 a1_1 a1_2 true _ A72.out).mono ?_
                              rintro e w78 ⟨rfl, hb⟩
                              have HS3_ := (hb.cell (World.block_lt_of_cell? _ _ (hHeld.2.2.2.1))).trans (hHeld.2.2.2.1)
                              have HS4_ := (hb.cell (World.block_lt_of_cell? _ _ (hHeld.2.2.2.2.1))).trans (hHeld.2.2.2.2.1)
                              have HS5_ := (hb.cell (World.block_lt_of_cell? _ _ (hHeld.2.2.2.2.2))).trans (hHeld.2.2.2.2.2)
                              refine ⟨_, rfl, ?_⟩
                              have n0_ := Aside0.mk (Kd.R_below (by (with_reducible repeat (first | apply Kd.R_alloc | apply Kd.R_drewN | apply Kd.R_drew)); exact HO251.out) hb)
                              have n1_ := Aside0.mk (blk_below (g := gb227) (o := .cells #[.int .i64 a1_0, .int .i64 a1_1, .string a1_2] 36 (0, 0)) (by (with_reducible repeat (first | refine blk_drewN ?_ _ | refine blk_drew ?_ | refine blk_alloc ?_ _)); exact BK227.out) hb)
                              have n2_ := Aside0.mk (below_step (by repeat (first | (with_reducible first | exact HB.out | apply below_alloc | apply pw_below_drewN | apply below_drew1 | refine below_set ?_ GE227.out) | exact HB.out)) hb)
                              clear HO251
                              clear BK227
                              clear HB
                              have HO251 := n0_
                              have BK227 := n1_
                              have HB := n2_
                              clear n0_ n1_ n2_
                              (try clear hb)
                              (try clear hb2)
                              (try clear hk)
                              (try clear hi)
                              obtain ⟨Ao79, co79, eo79⟩ := Kd.R_slice HO251.out
                              (first | subst eo79 | (injection eo79 with f1_ f2_ f3_; have f4_ := f1_.symm; have f5_ := f3_.symm; clear f1_ f2_ f3_; subst f4_; subst f5_))
                              refine hK.out _ _ ⟨(blk_cell BK227.out 0).trans rfl, (blk_cell BK227.out 1).trans rfl, (blk_cell BK227.out 2).trans rfl, HS3_, HS4_, HS5_⟩ (fun hHeld => ?_)
                              clear hK K
                              refine norm_ (a' := ?_) ?_ ?_
                              rotate_left
                              · show Act.put _ (some 100) _ = _
                                simp only [Act.put, List.setIfInBounds_toArray, List.set_cons_zero, List.set_cons_succ, i64_w, i32_w]
                                rfl
                              refine pure_ (i := 2) (N := some 101) (v := ?_) (a' := ?_) #[true, true, true, false, false, false, false, false, false, false, false, false, false, false, false, false, false, false, false, false, false, false] rfl rfl (any_of HT_.out (by kernel_rfl)) (fun _ _ _ h => h) (Or.inl ⟨by rfl, ?_⟩) ?_ ?_
                              rotate_left
                              · intro w'
                                go_simp
                                with_reducible rfl
                              rotate_left
                              · simp only [Act.put, List.setIfInBounds_toArray, List.set_cons_zero, List.set_cons_succ, i64_w, i32_w]
                                rfl
                              refine pure_ (i := 3) (N := some 102) (v := ?_) (a' := ?_) #[true, true, true, true, false, false, false, false, false, false, false, false, false, false, false, false, false, false, false, false, false, false] rfl rfl (any_of HT_.out (by kernel_rfl)) (fun _ _ _ h => h) (Or.inl ⟨by rfl, ?_⟩) ?_ ?_
                              rotate_left
                              · intro w'
                                go_simp
                                with_reducible rfl
                              rotate_left
                              · simp only [Act.put, List.setIfInBounds_toArray, List.set_cons_zero, List.set_cons_succ, i64_w, i32_w]
                                rfl
                              refine pure_ (i := 4) (N := some 103) (v := ?_) (a' := ?_) #[true, true, true, true, true, false, false, false, false, false, false, false, false, false, false, false, false, false, false, false, false, false] rfl rfl (any_of HT_.out (by kernel_rfl)) (fun _ _ _ h => h) (Or.inl ⟨by rfl, ?_⟩) ?_ ?_
                              rotate_left
                              · intro w'
                                go_simp
                                with_reducible rfl
                              rotate_left
                              · simp only [Act.put, List.setIfInBounds_toArray, List.set_cons_zero, List.set_cons_succ, i64_w, i32_w]
                                rfl
                              refine pure_ (i := 5) (N := some 104) (v := ?_) (a' := ?_) #[true, true, true, true, true, true, false, false, false, false, false, false, false, false, false, false, false, false, false, false, false, false] rfl rfl (any_of HT_.out (by kernel_rfl)) (fun _ _ _ h => h) (Or.inl ⟨by rfl, ?_⟩) ?_ ?_
                              rotate_left
                              · intro w'
                                go_simp
                                with_reducible rfl
                              rotate_left
                              · simp only [Act.put, List.setIfInBounds_toArray, List.set_cons_zero, List.set_cons_succ, i64_w, i32_w]
                                rfl
                              refine pure_ (i := 6) (N := some 105) (v := ?_) (a' := ?_) #[true, true, true, true, true, true, true, false, false, false, false, false, false, false, false, false, false, false, false, false, false, false] rfl rfl (any_of HT_.out (by kernel_rfl)) (fun _ _ _ h => h) (Or.inl ⟨by rfl, ?_⟩) ?_ ?_
                              rotate_left
                              · intro w'
                                go_simp
                                with_reducible rfl
                              rotate_left
                              · simp only [Act.put, List.setIfInBounds_toArray, List.set_cons_zero, List.set_cons_succ, i64_w, i32_w]
                                rfl
                              refine pure_ (i := 7) (N := some 106) (v := ?_) (a' := ?_) #[true, true, true, true, true, true, true, true, false, false, false, false, false, false, false, false, false, false, false, false, false, false] rfl rfl (any_of HT_.out (by kernel_rfl)) (fun _ _ _ h => h) (Or.inl ⟨by rfl, ?_⟩) ?_ ?_
                              rotate_left
                              · intro w'
                                go_simp
                                with_reducible rfl
                              rotate_left
                              · simp only [Act.put, List.setIfInBounds_toArray, List.set_cons_zero, List.set_cons_succ, i64_w, i32_w]
                                rfl
                              refine pure_ (i := 8) (N := some 107) (v := ?_) (a' := ?_) #[true, true, true, true, true, true, true, true, true, false, false, false, false, false, false, false, false, false, false, false, false, false] rfl rfl (any_of HT_.out (by kernel_rfl)) (fun _ _ _ h => h) (Or.inl ⟨by rfl, ?_⟩) ?_ ?_
                              rotate_left
                              · intro w'
                                go_simp
                                with_reducible rfl
                              rotate_left
                              · simp only [Act.put, List.setIfInBounds_toArray, List.set_cons_zero, List.set_cons_succ, i64_w, i32_w]
                                rfl
                              refine pure_ (i := 9) (N := some 108) (v := ?_) (a' := ?_) #[true, true, true, true, true, true, true, true, true, true, false, false, false, false, false, false, false, false, false, false, false, false] rfl rfl (any_of HT_.out (by kernel_rfl)) (fun _ _ _ h => h) (Or.inl ⟨by rfl, ?_⟩) ?_ ?_
                              rotate_left
                              · intro w'
                                go_simp
                                with_reducible rfl
                              rotate_left
                              · simp only [Act.put, List.setIfInBounds_toArray, List.set_cons_zero, List.set_cons_succ, i64_w, i32_w]
                                rfl
                              refine pure_ (i := 10) (N := some 109) (v := ?_) (a' := ?_) #[true, true, true, true, true, true, true, true, true, true, true, false, false, false, false, false, false, false, false, false, false, false] rfl rfl (any_of HT_.out (by kernel_rfl)) (fun _ _ _ h => h) (Or.inl ⟨by rfl, ?_⟩) ?_ ?_
                              rotate_left
                              · intro w'
                                go_simp
                                with_reducible rfl
                              rotate_left
                              · simp only [Act.put, List.setIfInBounds_toArray, List.set_cons_zero, List.set_cons_succ, i64_w, i32_w]
                                rfl
                              refine pure_ (i := 11) (N := some 110) (v := ?_) (a' := ?_) #[true, true, true, true, true, true, true, true, true, true, true, true, false, false, false, false, false, false, false, false, false, false] rfl rfl (any_of HT_.out (by kernel_rfl)) (fun _ _ _ h => h) (Or.inl ⟨by rfl, ?_⟩) ?_ ?_
                              rotate_left
                              · intro w'
                                go_simp
                                with_reducible rfl
                              rotate_left
                              · simp only [Act.put, List.setIfInBounds_toArray, List.set_cons_zero, List.set_cons_succ, i64_w, i32_w]
                                rfl
                              refine pure_ (i := 12) (N := some 111) (v := ?_) (a' := ?_) #[true, true, true, true, true, true, true, true, true, true, true, true, true, false, false, false, false, false, false, false, false, false] rfl rfl (any_of HT_.out (by kernel_rfl)) (fun _ _ _ h => h) (Or.inl ⟨by rfl, ?_⟩) ?_ ?_
                              rotate_left
                              · intro w'
                                go_simp
                                with_reducible rfl
                              rotate_left
                              · simp only [Act.put, List.setIfInBounds_toArray, List.set_cons_zero, List.set_cons_succ, i64_w, i32_w]
                                rfl
                              refine pure_ (i := 13) (N := some 112) (v := ?_) (a' := ?_) #[true, true, true, true, true, true, true, true, true, true, true, true, true, true, false, false, false, false, false, false, false, false] rfl rfl (any_of HT_.out (by kernel_rfl)) (fun _ _ _ h => h) (Or.inl ⟨by rfl, ?_⟩) ?_ ?_
                              rotate_left
                              · intro w'
                                go_simp
                                with_reducible rfl
                              rotate_left
                              · simp only [Act.put, List.setIfInBounds_toArray, List.set_cons_zero, List.set_cons_succ, i64_w, i32_w]
                                rfl
                              refine pure_ (i := 16) (N := some 115) (v := ?_) (a' := ?_) #[true, true, true, true, true, true, true, true, true, true, true, true, true, true, false, false, true, false, false, false, false, false] rfl rfl (any_of HT_.out (by kernel_rfl)) (fun _ _ _ h => h) (Or.inl ⟨by rfl, ?_⟩) ?_ ?_
                              rotate_left
                              · intro w'
                                go_simp
                                with_reducible rfl
                              rotate_left
                              · simp only [Act.put, List.setIfInBounds_toArray, List.set_cons_zero, List.set_cons_succ, i64_w, i32_w]
                                rfl
                              refine take_ (i := 14) (N := some 113) (v := ?_) (a' := ?_) #[true, true, true, true, true, true, true, true, true, true, true, true, true, true, true, false, true, false, false, false, false, false] rfl rfl (take_ofW HT_.out HW_.out (by kernel_rfl)) (fun _ _ _ h => h) (Or.inl ⟨by rfl, ?_⟩) hHeld ?_ ?_
                              rotate_left
                              · rintro w' ⟨s0, s1, s2, s3, s4, s5⟩
                                go_simp
                                with_reducible rfl
                              rotate_left
                              · simp only [Act.put, List.setIfInBounds_toArray, List.set_cons_zero, List.set_cons_succ, i64_w, i32_w]
                                rfl
                              refine pure_ (i := 15) (N := some 114) (v := ?_) (a' := ?_) #[true, true, true, true, true, true, true, true, true, true, true, true, true, true, true, true, true, false, false, false, false, false] rfl rfl (any_of HT_.out (by kernel_rfl)) (fun _ _ _ h => h) (Or.inl ⟨by rfl, ?_⟩) ?_ ?_
                              rotate_left
                              · intro w'
                                go_simp
                                with_reducible rfl
                              rotate_left
                              · simp only [Act.put, List.setIfInBounds_toArray, List.set_cons_zero, List.set_cons_succ, i64_w, i32_w]
                                rfl
                              refine take_ (i := 17) (N := some 116) (v := ?_) (a' := ?_) #[true, true, true, true, true, true, true, true, true, true, true, true, true, true, true, true, true, true, false, false, false, false] rfl rfl (take_ofW HT_.out HW_.out (by kernel_rfl)) (fun _ _ _ h => h) (Or.inl ⟨by rfl, ?_⟩) hHeld ?_ ?_
                              rotate_left
                              · rintro w' ⟨s0, s1, s2, s3, s4, s5⟩
                                go_simp
                                with_reducible rfl
                              rotate_left
                              · simp only [Act.put, List.setIfInBounds_toArray, List.set_cons_zero, List.set_cons_succ, i64_w, i32_w]
                                rfl
                              refine pure_ (i := 18) (N := some 117) (v := ?_) (a' := ?_) #[true, true, true, true, true, true, true, true, true, true, true, true, true, true, true, true, true, true, true, false, false, false] rfl rfl (any_of HT_.out (by kernel_rfl)) (fun _ _ _ h => h) (Or.inl ⟨by rfl, ?_⟩) ?_ ?_
                              rotate_left
                              · intro w'
                                go_simp
                                with_reducible rfl
                              rotate_left
                              · simp only [Act.put, List.setIfInBounds_toArray, List.set_cons_zero, List.set_cons_succ, i64_w, i32_w]
                                rfl
                              refine pure_ (i := 19) (N := some 118) (v := ?_) (a' := ?_) #[true, true, true, true, true, true, true, true, true, true, true, true, true, true, true, true, true, true, true, true, false, false] rfl rfl (any_of HT_.out (by kernel_rfl)) (fun _ _ _ h => h) (Or.inl ⟨by rfl, ?_⟩) ?_ ?_
                              rotate_left
                              · intro w'
                                go_simp
                                with_reducible rfl
                              rotate_left
                              · simp only [Act.put, List.setIfInBounds_toArray, List.set_cons_zero, List.set_cons_succ, i64_w, i32_w]
                                rfl
                              refine pure_ (i := 20) (N := some 119) (v := ?_) (a' := ?_) #[true, true, true, true, true, true, true, true, true, true, true, true, true, true, true, true, true, true, true, true, true, false] rfl rfl (any_of HT_.out (by kernel_rfl)) (fun _ _ _ h => h) (Or.inl ⟨by rfl, ?_⟩) ?_ ?_
                              rotate_left
                              · intro w'
                                go_simp
                                with_reducible rfl
                              rotate_left
                              · simp only [Act.put, List.setIfInBounds_toArray, List.set_cons_zero, List.set_cons_succ, i64_w, i32_w]
                                rfl
                              refine pure_ (i := 21) (N := some 120) (v := ?_) (a' := ?_) #[true, true, true, true, true, true, true, true, true, true, true, true, true, true, true, true, true, true, true, true, true, true] rfl rfl (any_of HT_.out (by kernel_rfl)) (fun _ _ _ h => h) (Or.inl ⟨by rfl, ?_⟩) ?_ ?_
                              rotate_left
                              · intro w'
                                go_simp
                                with_reducible rfl
                              rotate_left
                              · simp only [Act.put, List.setIfInBounds_toArray, List.set_cons_zero, List.set_cons_succ, i64_w, i32_w]
                                rfl
                              refine done_ (done_of HT_.out (by kernel_rfl)) ?_
                              try go_wp2
                              go_meet
                              case rel => exact ⟨_, (((((rd_T34 t247 0).f0) == 1) != (a1_0 == 3))), (by first | rfl | (simp; done) | (simp [*]; done)), H', ⟨by have := HJ3.out; have := HK2.out; have := HJ62.out; first | omega | exact Nat.le_refl _⟩, ⟨by (with_reducible repeat (first | refine blk_drewN ?_ _ | refine blk_drew ?_ | refine blk_alloc ?_ _)); exact BK227.out⟩, ⟨by repeat (first | (with_reducible first | exact HB.out | apply below_alloc | apply pw_below_drewN | apply below_drew1 | refine below_set ?_ GE227.out) | exact HB.out)⟩⟩
                            · rw [if_neg c76] at H
                              exact absurd H (by simp)
                          · rw [if_neg c75] at H
                            have c75b0 : ((t247.length : Int) == 1) = false := beq_eq_false_iff_ne.mpr c75
                            have c75b1 : ((t247.length : Int) != 1) = true := bne_iff_ne.mpr c75
                            have H' := Aside0.mk H
                            clear H
                            try go_wp2
                            have n0_ := Aside0.mk (Kd.R_drew HO251.out)
                            have n1_ := Aside0.mk (blk_drew BK227.out)
                            have n2_ := Aside0.mk (below_drew1 HB.out)
                            clear HO251
                            clear BK227
                            clear HB
                            have HO251 := n0_
                            have BK227 := n1_
                            have HB := n2_
                            clear n0_ n1_ n2_
                            refine start_ (n := 22) (S := fun w' => w'.cell? ⟨gb227, 0, none⟩ = some (.int .i64 a1_0) ∧ w'.cell? ⟨gb227, 1, none⟩ = some (.int .i64 a1_1) ∧ w'.cell? ⟨gb227, 2, none⟩ = some (.string a1_2)) (ds := []) #[false, false, false, false, false, false, false, false, false, false, false, false, false, false, false, false, false, false, false, false, false, false] (by kernel_rfl) rfl rfl ⟨(blk_cell BK227.out 0).trans rfl, (blk_cell BK227.out 1).trans rfl, (blk_cell BK227.out 2).trans rfl⟩ (fun hHeld => ?_); refine with_tabW antecedentlaw07_LexKinds.tab22 antecedentlaw07_LexKinds.bits22 (fun HT_ HW_ => ?_)
                            generalize w71.drew = w80 at HO251 BK227 HB hHeld ⊢
                            refine take_ (i := 0) (N := some 99) (v := ?_) (a' := ?_) #[true, false, false, false, false, false, false, false, false, false, false, false, false, false, false, false, false, false, false, false, false, false] rfl rfl (take_ofW HT_.out HW_.out (by kernel_rfl)) (fun _ _ _ h => h) (Or.inl ⟨by rfl, ?_⟩) hHeld ?_ ?_
                            rotate_left
                            · rintro w' ⟨s0, s1, s2⟩
                              go_simp
                              with_reducible rfl
                            rotate_left
                            · simp only [Act.put, List.setIfInBounds_toArray, List.set_cons_zero, List.set_cons_succ, i64_w, i32_w]
                              rfl
                            refine one_ (i := 1) (N := some 100) #[true, true, false, false, false, false, false, false, false, false, false, false, false, false, false, false, false, false, false, false, false, false] rfl rfl (one_of HT_.out (by kernel_rfl)) (by decide) (fun K hK => ?_)
                            refine goes_ Tryd.func21 (by kernel_rfl) rfl #[.agg #[.int .i64 a1_0, .int .i64 a1_1, .string a1_2]] (by rfl) rfl rfl (by (try simp only [List.map_toArray, List.map_cons, List.map_nil]); first | done | rfl | (simp only [List.length_drop, List.length_take]; rfl)) ?_
                            with_reducible refine (value_Right.calls kj62 a1_0 a1_1 a1_2 true _ A72.out).mono ?_
                            rintro e w81 ⟨rfl, hb⟩
                            refine ⟨_, rfl, ?_⟩
                            have n0_ := Aside0.mk (Kd.R_below (by (with_reducible repeat (first | apply Kd.R_alloc | apply Kd.R_drewN | apply Kd.R_drew)); exact HO251.out) hb)
                            have n1_ := Aside0.mk (blk_below (g := gb227) (o := .cells #[.int .i64 a1_0, .int .i64 a1_1, .string a1_2] 36 (0, 0)) (by (with_reducible repeat (first | refine blk_drewN ?_ _ | refine blk_drew ?_ | refine blk_alloc ?_ _)); exact BK227.out) hb)
                            have n2_ := Aside0.mk (below_step (by repeat (first | (with_reducible first | exact HB.out | apply below_alloc | apply pw_below_drewN | apply below_drew1 | refine below_set ?_ GE227.out) | exact HB.out)) hb)
                            clear HO251
                            clear BK227
                            clear HB
                            have HO251 := n0_
                            have BK227 := n1_
                            have HB := n2_
                            clear n0_ n1_ n2_
                            (try clear hb)
                            (try clear hb2)
                            (try clear hk)
                            (try clear hi)
                            obtain ⟨Ao82, co82, eo82⟩ := Kd.R_slice HO251.out
                            (first | subst eo82 | (injection eo82 with f1_ f2_ f3_; have f4_ := f1_.symm; have f5_ := f3_.symm; clear f1_ f2_ f3_; subst f4_; subst f5_))
                            refine hK.out _ _ ⟨(blk_cell BK227.out 0).trans rfl, (blk_cell BK227.out 1).trans rfl, (blk_cell BK227.out 2).trans rfl⟩ (fun hHeld => ?_)
                            clear hK K
                            refine norm_ (a' := ?_) ?_ ?_
                            rotate_left
                            · show Act.put _ (some 100) _ = _
                              simp only [Act.put, List.setIfInBounds_toArray, List.set_cons_zero, List.set_cons_succ, i64_w, i32_w]
                              rfl
                            refine pure_ (i := 2) (N := some 101) (v := ?_) (a' := ?_) #[true, true, true, false, false, false, false, false, false, false, false, false, false, false, false, false, false, false, false, false, false, false] rfl rfl (any_of HT_.out (by kernel_rfl)) (fun _ _ _ h => h) (Or.inl ⟨by rfl, ?_⟩) ?_ ?_
                            rotate_left
                            · intro w'
                              go_simp
                              with_reducible rfl
                            rotate_left
                            · simp only [Act.put, List.setIfInBounds_toArray, List.set_cons_zero, List.set_cons_succ, i64_w, i32_w]
                              rfl
                            refine pure_ (i := 3) (N := some 102) (v := ?_) (a' := ?_) #[true, true, true, true, false, false, false, false, false, false, false, false, false, false, false, false, false, false, false, false, false, false] rfl rfl (any_of HT_.out (by kernel_rfl)) (fun _ _ _ h => h) (Or.inl ⟨by rfl, ?_⟩) ?_ ?_
                            rotate_left
                            · intro w'
                              go_simp
                              with_reducible rfl
                            rotate_left
                            · simp only [Act.put, List.setIfInBounds_toArray, List.set_cons_zero, List.set_cons_succ, i64_w, i32_w]
                              rfl
                            refine pure_ (i := 4) (N := some 103) (v := ?_) (a' := ?_) #[true, true, true, true, true, false, false, false, false, false, false, false, false, false, false, false, false, false, false, false, false, false] rfl rfl (any_of HT_.out (by kernel_rfl)) (fun _ _ _ h => h) (Or.inl ⟨by rfl, ?_⟩) ?_ ?_
                            rotate_left
                            · intro w'
                              go_simp
                              with_reducible rfl
                            rotate_left
                            · simp only [Act.put, List.setIfInBounds_toArray, List.set_cons_zero, List.set_cons_succ, i64_w, i32_w]
                              rfl
                            refine pure_ (i := 5) (N := some 104) (v := ?_) (a' := ?_) #[true, true, true, true, true, true, false, false, false, false, false, false, false, false, false, false, false, false, false, false, false, false] rfl rfl (any_of HT_.out (by kernel_rfl)) (fun _ _ _ h => h) (Or.inl ⟨by rfl, ?_⟩) ?_ ?_
                            rotate_left
                            · intro w'
                              go_simp
                              with_reducible rfl
                            rotate_left
                            · simp only [Act.put, List.setIfInBounds_toArray, List.set_cons_zero, List.set_cons_succ, i64_w, i32_w]
                              rfl
                            refine pure_ (i := 6) (N := some 105) (v := ?_) (a' := ?_) #[true, true, true, true, true, true, true, false, false, false, false, false, false, false, false, false, false, false, false, false, false, false] rfl rfl (any_of HT_.out (by kernel_rfl)) (fun _ _ _ h => h) (Or.inl ⟨by rfl, ?_⟩) ?_ ?_
                            rotate_left
                            · intro w'
                              go_simp
                              with_reducible rfl
                            rotate_left
                            · simp only [Act.put, List.setIfInBounds_toArray, List.set_cons_zero, List.set_cons_succ, i64_w, i32_w]
                              rfl
                            refine pure_ (i := 7) (N := some 106) (v := ?_) (a' := ?_) #[true, true, true, true, true, true, true, true, false, false, false, false, false, false, false, false, false, false, false, false, false, false] rfl rfl (any_of HT_.out (by kernel_rfl)) (fun _ _ _ h => h) (Or.inl ⟨by rfl, ?_⟩) ?_ ?_
                            rotate_left
                            · intro w'
                              go_simp
                              with_reducible rfl
                            rotate_left
                            · simp only [Act.put, List.setIfInBounds_toArray, List.set_cons_zero, List.set_cons_succ, i64_w, i32_w]
                              rfl
                            refine pure_ (i := 8) (N := some 107) (v := ?_) (a' := ?_) #[true, true, true, true, true, true, true, true, true, false, false, false, false, false, false, false, false, false, false, false, false, false] rfl rfl (any_of HT_.out (by kernel_rfl)) (fun _ _ _ h => h) (Or.inl ⟨by rfl, ?_⟩) ?_ ?_
                            rotate_left
                            · intro w'
                              go_simp
                              with_reducible rfl
                            rotate_left
                            · simp only [Act.put, List.setIfInBounds_toArray, List.set_cons_zero, List.set_cons_succ, i64_w, i32_w]
                              rfl
                            refine pure_ (i := 9) (N := some 108) (v := ?_) (a' := ?_) #[true, true, true, true, true, true, true, true, true, true, false, false, false, false, false, false, false, false, false, false, false, false] rfl rfl (any_of HT_.out (by kernel_rfl)) (fun _ _ _ h => h) (Or.inl ⟨by rfl, ?_⟩) ?_ ?_
                            rotate_left
                            · intro w'
                              go_simp
                              with_reducible rfl
                            rotate_left
                            · simp only [Act.put, List.setIfInBounds_toArray, List.set_cons_zero, List.set_cons_succ, i64_w, i32_w]
                              rfl
                            refine pure_ (i := 10) (N := some 109) (v := ?_) (a' := ?_) #[true, true, true, true, true, true, true, true, true, true, true, false, false, false, false, false, false, false, false, false, false, false] rfl rfl (any_of HT_.out (by kernel_rfl)) (fun _ _ _ h => h) (Or.inl ⟨by rfl, ?_⟩) ?_ ?_
                            rotate_left
                            · intro w'
                              go_simp
                              with_reducible rfl
                            rotate_left
                            · simp only [Act.put, List.setIfInBounds_toArray, List.set_cons_zero, List.set_cons_succ, i64_w, i32_w]
                              rfl
                            refine pure_ (i := 11) (N := some 110) (v := undef) (a' := ?_) #[true, true, true, true, true, true, true, true, true, true, true, true, false, false, false, false, false, false, false, false, false, false] rfl rfl (any_of HT_.out (by kernel_rfl)) (fun _ _ _ h => h) (Or.inr ⟨by rfl, rfl⟩) ?_ ?_
                            rotate_left
                            · simp only [Act.put, List.setIfInBounds_toArray, List.set_cons_zero, List.set_cons_succ, i64_w, i32_w]
                              rfl
                            refine pure_ (i := 12) (N := some 111) (v := undef) (a' := ?_) #[true, true, true, true, true, true, true, true, true, true, true, true, true, false, false, false, false, false, false, false, false, false] rfl rfl (any_of HT_.out (by kernel_rfl)) (fun _ _ _ h => h) (Or.inr ⟨by rfl, rfl⟩) ?_ ?_
                            rotate_left
                            · simp only [Act.put, List.setIfInBounds_toArray, List.set_cons_zero, List.set_cons_succ, i64_w, i32_w]
                              rfl
                            refine pure_ (i := 13) (N := some 112) (v := undef) (a' := ?_) #[true, true, true, true, true, true, true, true, true, true, true, true, true, true, false, false, false, false, false, false, false, false] rfl rfl (any_of HT_.out (by kernel_rfl)) (fun _ _ _ h => h) (Or.inr ⟨by rfl, rfl⟩) ?_ ?_
                            rotate_left
                            · simp only [Act.put, List.setIfInBounds_toArray, List.set_cons_zero, List.set_cons_succ, i64_w, i32_w]
                              rfl
                            refine pure_ (i := 14) (N := some 113) (v := undef) (a' := ?_) #[true, true, true, true, true, true, true, true, true, true, true, true, true, true, true, false, false, false, false, false, false, false] rfl rfl (any_of HT_.out (by kernel_rfl)) (fun _ _ _ h => h) (Or.inr ⟨by rfl, rfl⟩) ?_ ?_
                            rotate_left
                            · simp only [Act.put, List.setIfInBounds_toArray, List.set_cons_zero, List.set_cons_succ, i64_w, i32_w]
                              rfl
                            refine pure_ (i := 15) (N := some 114) (v := undef) (a' := ?_) #[true, true, true, true, true, true, true, true, true, true, true, true, true, true, true, true, false, false, false, false, false, false] rfl rfl (any_of HT_.out (by kernel_rfl)) (fun _ _ _ h => h) (Or.inr ⟨by rfl, rfl⟩) ?_ ?_
                            rotate_left
                            · simp only [Act.put, List.setIfInBounds_toArray, List.set_cons_zero, List.set_cons_succ, i64_w, i32_w]
                              rfl
                            refine pure_ (i := 16) (N := some 115) (v := undef) (a' := ?_) #[true, true, true, true, true, true, true, true, true, true, true, true, true, true, true, true, true, false, false, false, false, false] rfl rfl (any_of HT_.out (by kernel_rfl)) (fun _ _ _ h => h) (Or.inr ⟨by rfl, rfl⟩) ?_ ?_
                            rotate_left
                            · simp only [Act.put, List.setIfInBounds_toArray, List.set_cons_zero, List.set_cons_succ, i64_w, i32_w]
                              rfl
                            refine pure_ (i := 17) (N := some 116) (v := undef) (a' := ?_) #[true, true, true, true, true, true, true, true, true, true, true, true, true, true, true, true, true, true, false, false, false, false] rfl rfl (any_of HT_.out (by kernel_rfl)) (fun _ _ _ h => h) (Or.inr ⟨by rfl, rfl⟩) ?_ ?_
                            rotate_left
                            · simp only [Act.put, List.setIfInBounds_toArray, List.set_cons_zero, List.set_cons_succ, i64_w, i32_w]
                              rfl
                            refine pure_ (i := 18) (N := some 117) (v := undef) (a' := ?_) #[true, true, true, true, true, true, true, true, true, true, true, true, true, true, true, true, true, true, true, false, false, false] rfl rfl (any_of HT_.out (by kernel_rfl)) (fun _ _ _ h => h) (Or.inr ⟨by rfl, rfl⟩) ?_ ?_
                            rotate_left
                            · simp only [Act.put, List.setIfInBounds_toArray, List.set_cons_zero, List.set_cons_succ, i64_w, i32_w]
                              rfl
                            refine pure_ (i := 19) (N := some 118) (v := undef) (a' := ?_) #[true, true, true, true, true, true, true, true, true, true, true, true, true, true, true, true, true, true, true, true, false, false] rfl rfl (any_of HT_.out (by kernel_rfl)) (fun _ _ _ h => h) (Or.inr ⟨by rfl, rfl⟩) ?_ ?_
                            rotate_left
                            · simp only [Act.put, List.setIfInBounds_toArray, List.set_cons_zero, List.set_cons_succ, i64_w, i32_w]
                              rfl
                            refine pure_ (i := 20) (N := some 119) (v := ?_) (a' := ?_) #[true, true, true, true, true, true, true, true, true, true, true, true, true, true, true, true, true, true, true, true, true, false] rfl rfl (any_of HT_.out (by kernel_rfl)) (fun _ _ _ h => h) (Or.inl ⟨by rfl, ?_⟩) ?_ ?_
                            rotate_left
                            · intro w'
                              go_simp
                              with_reducible rfl
                            rotate_left
                            · simp only [Act.put, List.setIfInBounds_toArray, List.set_cons_zero, List.set_cons_succ, i64_w, i32_w]
                              rfl
                            refine pure_ (i := 21) (N := some 120) (v := ?_) (a' := ?_) #[true, true, true, true, true, true, true, true, true, true, true, true, true, true, true, true, true, true, true, true, true, true] rfl rfl (any_of HT_.out (by kernel_rfl)) (fun _ _ _ h => h) (Or.inl ⟨by rfl, ?_⟩) ?_ ?_
                            rotate_left
                            · intro w'
                              go_simp
                              with_reducible rfl
                            rotate_left
                            · simp only [Act.put, List.setIfInBounds_toArray, List.set_cons_zero, List.set_cons_succ, i64_w, i32_w]
                              rfl
                            refine done_ (done_of HT_.out (by kernel_rfl)) ?_
                            try go_wp2
                            go_meet
                            case rel => exact ⟨_, (true), (by first | rfl | (simp; done) | (simp [*]; done)), H', ⟨by have := HJ3.out; have := HK2.out; have := HJ62.out; first | omega | exact Nat.le_refl _⟩, ⟨by (with_reducible repeat (first | refine blk_drewN ?_ _ | refine blk_drew ?_ | refine blk_alloc ?_ _)); exact BK227.out⟩, ⟨by repeat (first | (with_reducible first | exact HB.out | apply below_alloc | apply pw_below_drewN | apply below_drew1 | refine below_set ?_ GE227.out) | exact HB.out)⟩⟩
                        · rw [if_neg c74] at H
                          have c74b0 : (t249 == 0) = false := beq_eq_false_iff_ne.mpr c74
                          have c74b1 : (t249 != 0) = true := bne_iff_ne.mpr c74
                          (first | rw [c74b0] | (simp only [i64_w, i32_w]; rw [c74b0]) | skip)
                          have H' := Aside0.mk H
                          clear H
                          try go_wp2
                          have n0_ := Aside0.mk (Kd.R_drew HO251.out)
                          have n1_ := Aside0.mk (blk_drew BK227.out)
                          have n2_ := Aside0.mk (below_drew1 HB.out)
                          clear HO251
                          clear BK227
                          clear HB
                          have HO251 := n0_
                          have BK227 := n1_
                          have HB := n2_
                          clear n0_ n1_ n2_
                          refine start_ (n := 22) (S := fun w' => w'.cell? ⟨gb227, 0, none⟩ = some (.int .i64 a1_0) ∧ w'.cell? ⟨gb227, 1, none⟩ = some (.int .i64 a1_1) ∧ w'.cell? ⟨gb227, 2, none⟩ = some (.string a1_2)) (ds := []) #[false, false, false, false, false, false, false, false, false, false, false, false, false, false, false, false, false, false, false, false, false, false] (by kernel_rfl) rfl rfl ⟨(blk_cell BK227.out 0).trans rfl, (blk_cell BK227.out 1).trans rfl, (blk_cell BK227.out 2).trans rfl⟩ (fun hHeld => ?_); refine with_tabW antecedentlaw07_LexKinds.tab22 antecedentlaw07_LexKinds.bits22 (fun HT_ HW_ => ?_)
                          generalize w71.drew = w83 at HO251 BK227 HB hHeld ⊢
                          refine take_ (i := 0) (N := some 99) (v := ?_) (a' := ?_) #[true, false, false, false, false, false, false, false, false, false, false, false, false, false, false, false, false, false, false, false, false, false] rfl rfl (take_ofW HT_.out HW_.out (by kernel_rfl)) (fun _ _ _ h => h) (Or.inl ⟨by rfl, ?_⟩) hHeld ?_ ?_
                          rotate_left
                          · rintro w' ⟨s0, s1, s2⟩
                            go_simp
                            with_reducible rfl
                          rotate_left
                          · simp only [Act.put, List.setIfInBounds_toArray, List.set_cons_zero, List.set_cons_succ, i64_w, i32_w]
                            rfl
                          refine one_ (i := 1) (N := some 100) #[true, true, false, false, false, false, false, false, false, false, false, false, false, false, false, false, false, false, false, false, false, false] rfl rfl (one_of HT_.out (by kernel_rfl)) (by decide) (fun K hK => ?_)
                          refine goes_ Tryd.func21 (by kernel_rfl) rfl #[.agg #[.int .i64 a1_0, .int .i64 a1_1, .string a1_2]] (by rfl) rfl rfl (by (try simp only [List.map_toArray, List.map_cons, List.map_nil]); first | done | rfl | (simp only [List.length_drop, List.length_take]; rfl)) ?_
                          with_reducible refine (value_Right.calls kj62 a1_0 a1_1 a1_2 true _ A72.out).mono ?_
                          rintro e w84 ⟨rfl, hb⟩
                          refine ⟨_, rfl, ?_⟩
                          have n0_ := Aside0.mk (Kd.R_below (by (with_reducible repeat (first | apply Kd.R_alloc | apply Kd.R_drewN | apply Kd.R_drew)); exact HO251.out) hb)
                          have n1_ := Aside0.mk (blk_below (g := gb227) (o := .cells #[.int .i64 a1_0, .int .i64 a1_1, .string a1_2] 36 (0, 0)) (by (with_reducible repeat (first | refine blk_drewN ?_ _ | refine blk_drew ?_ | refine blk_alloc ?_ _)); exact BK227.out) hb)
                          have n2_ := Aside0.mk (below_step (by repeat (first | (with_reducible first | exact HB.out | apply below_alloc | apply pw_below_drewN | apply below_drew1 | refine below_set ?_ GE227.out) | exact HB.out)) hb)
                          clear HO251
                          clear BK227
                          clear HB
                          have HO251 := n0_
                          have BK227 := n1_
                          have HB := n2_
                          clear n0_ n1_ n2_
                          (try clear hb)
                          (try clear hb2)
                          (try clear hk)
                          (try clear hi)
                          refine hK.out _ _ ⟨(blk_cell BK227.out 0).trans rfl, (blk_cell BK227.out 1).trans rfl, (blk_cell BK227.out 2).trans rfl⟩ (fun hHeld => ?_)
                          clear hK K
                          refine norm_ (a' := ?_) ?_ ?_
                          rotate_left
                          · show Act.put _ (some 100) _ = _
                            simp only [Act.put, List.setIfInBounds_toArray, List.set_cons_zero, List.set_cons_succ, i64_w, i32_w]
                            rfl
                          refine pure_ (i := 2) (N := some 101) (v := ?_) (a' := ?_) #[true, true, true, false, false, false, false, false, false, false, false, false, false, false, false, false, false, false, false, false, false, false] rfl rfl (any_of HT_.out (by kernel_rfl)) (fun _ _ _ h => h) (Or.inl ⟨by rfl, ?_⟩) ?_ ?_
                          rotate_left
                          · intro w'
                            go_simp
                            with_reducible rfl
                          rotate_left
                          · simp only [Act.put, List.setIfInBounds_toArray, List.set_cons_zero, List.set_cons_succ, i64_w, i32_w]
                            rfl
                          refine pure_ (i := 3) (N := some 102) (v := ?_) (a' := ?_) #[true, true, true, true, false, false, false, false, false, false, false, false, false, false, false, false, false, false, false, false, false, false] rfl rfl (any_of HT_.out (by kernel_rfl)) (fun _ _ _ h => h) (Or.inl ⟨by rfl, ?_⟩) ?_ ?_
                          rotate_left
                          · intro w'
                            go_simp
                            with_reducible rfl
                          rotate_left
                          · simp only [Act.put, List.setIfInBounds_toArray, List.set_cons_zero, List.set_cons_succ, i64_w, i32_w]
                            rfl
                          refine pure_ (i := 4) (N := some 103) (v := ?_) (a' := ?_) #[true, true, true, true, true, false, false, false, false, false, false, false, false, false, false, false, false, false, false, false, false, false] rfl rfl (any_of HT_.out (by kernel_rfl)) (fun _ _ _ h => h) (Or.inl ⟨by rfl, ?_⟩) ?_ ?_
                          rotate_left
                          · intro w'
                            go_simp
                            with_reducible rfl
                          rotate_left
                          · simp only [Act.put, List.setIfInBounds_toArray, List.set_cons_zero, List.set_cons_succ, i64_w, i32_w]
                            rfl
                          refine pure_ (i := 5) (N := some 104) (v := ?_) (a' := ?_) #[true, true, true, true, true, true, false, false, false, false, false, false, false, false, false, false, false, false, false, false, false, false] rfl rfl (any_of HT_.out (by kernel_rfl)) (fun _ _ _ h => h) (Or.inl ⟨by rfl, ?_⟩) ?_ ?_
                          rotate_left
                          · intro w'
                            go_simp
                            with_reducible rfl
                          rotate_left
                          · simp only [Act.put, List.setIfInBounds_toArray, List.set_cons_zero, List.set_cons_succ, i64_w, i32_w]
                            rfl
                          refine pure_ (i := 6) (N := some 105) (v := undef) (a' := ?_) #[true, true, true, true, true, true, true, false, false, false, false, false, false, false, false, false, false, false, false, false, false, false] rfl rfl (any_of HT_.out (by kernel_rfl)) (fun _ _ _ h => h) (Or.inr ⟨by rfl, rfl⟩) ?_ ?_
                          rotate_left
                          · simp only [Act.put, List.setIfInBounds_toArray, List.set_cons_zero, List.set_cons_succ, i64_w, i32_w]
                            rfl
                          refine pure_ (i := 7) (N := some 106) (v := undef) (a' := ?_) #[true, true, true, true, true, true, true, true, false, false, false, false, false, false, false, false, false, false, false, false, false, false] rfl rfl (any_of HT_.out (by kernel_rfl)) (fun _ _ _ h => h) (Or.inr ⟨by rfl, rfl⟩) ?_ ?_
                          rotate_left
                          · simp only [Act.put, List.setIfInBounds_toArray, List.set_cons_zero, List.set_cons_succ, i64_w, i32_w]
                            rfl
                          refine pure_ (i := 8) (N := some 107) (v := undef) (a' := ?_) #[true, true, true, true, true, true, true, true, true, false, false, false, false, false, false, false, false, false, false, false, false, false] rfl rfl (any_of HT_.out (by kernel_rfl)) (fun _ _ _ h => h) (Or.inr ⟨by rfl, rfl⟩) ?_ ?_
                          rotate_left
                          · simp only [Act.put, List.setIfInBounds_toArray, List.set_cons_zero, List.set_cons_succ, i64_w, i32_w]
                            rfl
                          refine pure_ (i := 9) (N := some 108) (v := ?_) (a' := ?_) #[true, true, true, true, true, true, true, true, true, true, false, false, false, false, false, false, false, false, false, false, false, false] rfl rfl (any_of HT_.out (by kernel_rfl)) (fun _ _ _ h => h) (Or.inl ⟨by rfl, ?_⟩) ?_ ?_
                          rotate_left
                          · intro w'
                            go_simp
                            with_reducible rfl
                          rotate_left
                          · simp only [Act.put, List.setIfInBounds_toArray, List.set_cons_zero, List.set_cons_succ, i64_w, i32_w]
                            rfl
                          refine pure_ (i := 10) (N := some 109) (v := ?_) (a' := ?_) #[true, true, true, true, true, true, true, true, true, true, true, false, false, false, false, false, false, false, false, false, false, false] rfl rfl (any_of HT_.out (by kernel_rfl)) (fun _ _ _ h => h) (Or.inl ⟨by rfl, ?_⟩) ?_ ?_
                          rotate_left
                          · intro w'
                            go_simp
                            with_reducible rfl
                          rotate_left
                          · simp only [Act.put, List.setIfInBounds_toArray, List.set_cons_zero, List.set_cons_succ, i64_w, i32_w]
                            rfl
                          refine pure_ (i := 11) (N := some 110) (v := undef) (a' := ?_) #[true, true, true, true, true, true, true, true, true, true, true, true, false, false, false, false, false, false, false, false, false, false] rfl rfl (any_of HT_.out (by kernel_rfl)) (fun _ _ _ h => h) (Or.inr ⟨by rfl, rfl⟩) ?_ ?_
                          rotate_left
                          · simp only [Act.put, List.setIfInBounds_toArray, List.set_cons_zero, List.set_cons_succ, i64_w, i32_w]
                            rfl
                          refine pure_ (i := 12) (N := some 111) (v := undef) (a' := ?_) #[true, true, true, true, true, true, true, true, true, true, true, true, true, false, false, false, false, false, false, false, false, false] rfl rfl (any_of HT_.out (by kernel_rfl)) (fun _ _ _ h => h) (Or.inr ⟨by rfl, rfl⟩) ?_ ?_
                          rotate_left
                          · simp only [Act.put, List.setIfInBounds_toArray, List.set_cons_zero, List.set_cons_succ, i64_w, i32_w]
                            rfl
                          refine pure_ (i := 13) (N := some 112) (v := undef) (a' := ?_) #[true, true, true, true, true, true, true, true, true, true, true, true, true, true, false, false, false, false, false, false, false, false] rfl rfl (any_of HT_.out (by kernel_rfl)) (fun _ _ _ h => h) (Or.inr ⟨by rfl, rfl⟩) ?_ ?_
                          rotate_left
                          · simp only [Act.put, List.setIfInBounds_toArray, List.set_cons_zero, List.set_cons_succ, i64_w, i32_w]
                            rfl
                          refine pure_ (i := 14) (N := some 113) (v := undef) (a' := ?_) #[true, true, true, true, true, true, true, true, true, true, true, true, true, true, true, false, false, false, false, false, false, false] rfl rfl (any_of HT_.out (by kernel_rfl)) (fun _ _ _ h => h) (Or.inr ⟨by rfl, rfl⟩) ?_ ?_
                          rotate_left
                          · simp only [Act.put, List.setIfInBounds_toArray, List.set_cons_zero, List.set_cons_succ, i64_w, i32_w]
                            rfl
                          refine pure_ (i := 15) (N := some 114) (v := undef) (a' := ?_) #[true, true, true, true, true, true, true, true, true, true, true, true, true, true, true, true, false, false, false, false, false, false] rfl rfl (any_of HT_.out (by kernel_rfl)) (fun _ _ _ h => h) (Or.inr ⟨by rfl, rfl⟩) ?_ ?_
                          rotate_left
                          · simp only [Act.put, List.setIfInBounds_toArray, List.set_cons_zero, List.set_cons_succ, i64_w, i32_w]
                            rfl
                          refine pure_ (i := 16) (N := some 115) (v := undef) (a' := ?_) #[true, true, true, true, true, true, true, true, true, true, true, true, true, true, true, true, true, false, false, false, false, false] rfl rfl (any_of HT_.out (by kernel_rfl)) (fun _ _ _ h => h) (Or.inr ⟨by rfl, rfl⟩) ?_ ?_
                          rotate_left
                          · simp only [Act.put, List.setIfInBounds_toArray, List.set_cons_zero, List.set_cons_succ, i64_w, i32_w]
                            rfl
                          refine pure_ (i := 17) (N := some 116) (v := undef) (a' := ?_) #[true, true, true, true, true, true, true, true, true, true, true, true, true, true, true, true, true, true, false, false, false, false] rfl rfl (any_of HT_.out (by kernel_rfl)) (fun _ _ _ h => h) (Or.inr ⟨by rfl, rfl⟩) ?_ ?_
                          rotate_left
                          · simp only [Act.put, List.setIfInBounds_toArray, List.set_cons_zero, List.set_cons_succ, i64_w, i32_w]
                            rfl
                          refine pure_ (i := 18) (N := some 117) (v := undef) (a' := ?_) #[true, true, true, true, true, true, true, true, true, true, true, true, true, true, true, true, true, true, true, false, false, false] rfl rfl (any_of HT_.out (by kernel_rfl)) (fun _ _ _ h => h) (Or.inr ⟨by rfl, rfl⟩) ?_ ?_
                          rotate_left
                          · simp only [Act.put, List.setIfInBounds_toArray, List.set_cons_zero, List.set_cons_succ, i64_w, i32_w]
                            rfl
                          refine pure_ (i := 19) (N := some 118) (v := undef) (a' := ?_) #[true, true, true, true, true, true, true, true, true, true, true, true, true, true, true, true, true, true, true, true, false, false] rfl rfl (any_of HT_.out (by kernel_rfl)) (fun _ _ _ h => h) (Or.inr ⟨by rfl, rfl⟩) ?_ ?_
                          rotate_left
                          · simp only [Act.put, List.setIfInBounds_toArray, List.set_cons_zero, List.set_cons_succ, i64_w, i32_w]
                            rfl
                          refine pure_ (i := 20) (N := some 119) (v := ?_) (a' := ?_) #[true, true, true, true, true, true, true, true, true, true, true, true, true, true, true, true, true, true, true, true, true, false] rfl rfl (any_of HT_.out (by kernel_rfl)) (fun _ _ _ h => h) (Or.inl ⟨by rfl, ?_⟩) ?_ ?_
                          rotate_left
                          · intro w'
                            go_simp
                            with_reducible rfl
                          rotate_left
                          · simp only [Act.put, List.setIfInBounds_toArray, List.set_cons_zero, List.set_cons_succ, i64_w, i32_w]
                            rfl
                          refine pure_ (i := 21) (N := some 120) (v := ?_) (a' := ?_) #[true, true, true, true, true, true, true, true, true, true, true, true, true, true, true, true, true, true, true, true, true, true] rfl rfl (any_of HT_.out (by kernel_rfl)) (fun _ _ _ h => h) (Or.inl ⟨by rfl, ?_⟩) ?_ ?_
                          rotate_left
                          · intro w'
                            go_simp
                            with_reducible rfl
                          rotate_left
                          · simp only [Act.put, List.setIfInBounds_toArray, List.set_cons_zero, List.set_cons_succ, i64_w, i32_w]
                            rfl
                          refine done_ (done_of HT_.out (by kernel_rfl)) ?_
                          try go_wp2
                          go_meet
                          case rel => exact ⟨_, (true), (by first | rfl | (simp; done) | (simp [*]; done)), H', ⟨by have := HJ3.out; have := HK2.out; have := HJ62.out; first | omega | exact Nat.le_refl _⟩, ⟨by (with_reducible repeat (first | refine blk_drewN ?_ _ | refine blk_drew ?_ | refine blk_alloc ?_ _)); exact BK227.out⟩, ⟨by repeat (first | (with_reducible first | exact HB.out | apply below_alloc | apply pw_below_drewN | apply below_drew1 | refine below_set ?_ GE227.out) | exact HB.out)⟩⟩
                      · replace c73 := Bool.eq_false_iff.mpr c73
                        subst c73
                        have H1 : (antecedentlaw07_LexKinds.j3 kj62 a2 false) = some r := by rw [if_neg (show ¬ (false = true) by decide)] at H; exact H
                        clear H
                        have H := H1
                        clear H1
                        have H' := Aside0.mk H
                        clear H
                        try go_wp2
                        have n0_ := Aside0.mk (Kd.R_drew HO251.out)
                        have n1_ := Aside0.mk (blk_drew BK227.out)
                        have n2_ := Aside0.mk (below_drew1 HB.out)
                        clear HO251
                        clear BK227
                        clear HB
                        have HO251 := n0_
                        have BK227 := n1_
                        have HB := n2_
                        clear n0_ n1_ n2_
                        refine start_ (n := 22) (S := fun w' => w'.cell? ⟨gb227, 0, none⟩ = some (.int .i64 a1_0) ∧ w'.cell? ⟨gb227, 1, none⟩ = some (.int .i64 a1_1) ∧ w'.cell? ⟨gb227, 2, none⟩ = some (.string a1_2)) (ds := []) #[false, false, false, false, false, false, false, false, false, false, false, false, false, false, false, false, false, false, false, false, false, false] (by kernel_rfl) rfl rfl ⟨(blk_cell BK227.out 0).trans rfl, (blk_cell BK227.out 1).trans rfl, (blk_cell BK227.out 2).trans rfl⟩ (fun hHeld => ?_); refine with_tabW antecedentlaw07_LexKinds.tab22 antecedentlaw07_LexKinds.bits22 (fun HT_ HW_ => ?_)
                        generalize w71.drew = w85 at HO251 BK227 HB hHeld ⊢
                        refine take_ (i := 0) (N := some 99) (v := ?_) (a' := ?_) #[true, false, false, false, false, false, false, false, false, false, false, false, false, false, false, false, false, false, false, false, false, false] rfl rfl (take_ofW HT_.out HW_.out (by kernel_rfl)) (fun _ _ _ h => h) (Or.inl ⟨by rfl, ?_⟩) hHeld ?_ ?_
                        rotate_left
                        · rintro w' ⟨s0, s1, s2⟩
                          go_simp
                          with_reducible rfl
                        rotate_left
                        · simp only [Act.put, List.setIfInBounds_toArray, List.set_cons_zero, List.set_cons_succ, i64_w, i32_w]
                          rfl
                        refine one_ (i := 1) (N := some 100) #[true, true, false, false, false, false, false, false, false, false, false, false, false, false, false, false, false, false, false, false, false, false] rfl rfl (one_of HT_.out (by kernel_rfl)) (by decide) (fun K hK => ?_)
                        refine goes_ Tryd.func21 (by kernel_rfl) rfl #[.agg #[.int .i64 a1_0, .int .i64 a1_1, .string a1_2]] (by rfl) rfl rfl (by (try simp only [List.map_toArray, List.map_cons, List.map_nil]); first | done | rfl | (simp only [List.length_drop, List.length_take]; rfl)) ?_
                        with_reducible refine (value_Right.calls kj62 a1_0 a1_1 a1_2 false _ A72.out).mono ?_
                        rintro e w86 ⟨rfl, hb⟩
                        refine ⟨_, rfl, ?_⟩
                        have n0_ := Aside0.mk (Kd.R_below (by (with_reducible repeat (first | apply Kd.R_alloc | apply Kd.R_drewN | apply Kd.R_drew)); exact HO251.out) hb)
                        have n1_ := Aside0.mk (blk_below (g := gb227) (o := .cells #[.int .i64 a1_0, .int .i64 a1_1, .string a1_2] 36 (0, 0)) (by (with_reducible repeat (first | refine blk_drewN ?_ _ | refine blk_drew ?_ | refine blk_alloc ?_ _)); exact BK227.out) hb)
                        have n2_ := Aside0.mk (below_step (by repeat (first | (with_reducible first | exact HB.out | apply below_alloc | apply pw_below_drewN | apply below_drew1 | refine below_set ?_ GE227.out) | exact HB.out)) hb)
                        clear HO251
                        clear BK227
                        clear HB
                        have HO251 := n0_
                        have BK227 := n1_
                        have HB := n2_
                        clear n0_ n1_ n2_
                        (try clear hb)
                        (try clear hb2)
                        (try clear hk)
                        (try clear hi)
                        refine hK.out _ _ ⟨(blk_cell BK227.out 0).trans rfl, (blk_cell BK227.out 1).trans rfl, (blk_cell BK227.out 2).trans rfl⟩ (fun hHeld => ?_)
                        clear hK K
                        refine norm_ (a' := ?_) ?_ ?_
                        rotate_left
                        · show Act.put _ (some 100) _ = _
                          simp only [Act.put, List.setIfInBounds_toArray, List.set_cons_zero, List.set_cons_succ, i64_w, i32_w]
                          rfl
                        refine pure_ (i := 2) (N := some 101) (v := ?_) (a' := ?_) #[true, true, true, false, false, false, false, false, false, false, false, false, false, false, false, false, false, false, false, false, false, false] rfl rfl (any_of HT_.out (by kernel_rfl)) (fun _ _ _ h => h) (Or.inl ⟨by rfl, ?_⟩) ?_ ?_
                        rotate_left
                        · intro w'
                          go_simp
                          with_reducible rfl
                        rotate_left
                        · simp only [Act.put, List.setIfInBounds_toArray, List.set_cons_zero, List.set_cons_succ, i64_w, i32_w]
                          rfl
                        refine pure_ (i := 3) (N := some 102) (v := undef) (a' := ?_) #[true, true, true, true, false, false, false, false, false, false, false, false, false, false, false, false, false, false, false, false, false, false] rfl rfl (any_of HT_.out (by kernel_rfl)) (fun _ _ _ h => h) (Or.inr ⟨by rfl, rfl⟩) ?_ ?_
                        rotate_left
                        · simp only [Act.put, List.setIfInBounds_toArray, List.set_cons_zero, List.set_cons_succ, i64_w, i32_w]
                          rfl
                        refine pure_ (i := 4) (N := some 103) (v := undef) (a' := ?_) #[true, true, true, true, true, false, false, false, false, false, false, false, false, false, false, false, false, false, false, false, false, false] rfl rfl (any_of HT_.out (by kernel_rfl)) (fun _ _ _ h => h) (Or.inr ⟨by rfl, rfl⟩) ?_ ?_
                        rotate_left
                        · simp only [Act.put, List.setIfInBounds_toArray, List.set_cons_zero, List.set_cons_succ, i64_w, i32_w]
                          rfl
                        refine pure_ (i := 5) (N := some 104) (v := undef) (a' := ?_) #[true, true, true, true, true, true, false, false, false, false, false, false, false, false, false, false, false, false, false, false, false, false] rfl rfl (any_of HT_.out (by kernel_rfl)) (fun _ _ _ h => h) (Or.inr ⟨by rfl, rfl⟩) ?_ ?_
                        rotate_left
                        · simp only [Act.put, List.setIfInBounds_toArray, List.set_cons_zero, List.set_cons_succ, i64_w, i32_w]
                          rfl
                        refine pure_ (i := 6) (N := some 105) (v := undef) (a' := ?_) #[true, true, true, true, true, true, true, false, false, false, false, false, false, false, false, false, false, false, false, false, false, false] rfl rfl (any_of HT_.out (by kernel_rfl)) (fun _ _ _ h => h) (Or.inr ⟨by rfl, rfl⟩) ?_ ?_
                        rotate_left
                        · simp only [Act.put, List.setIfInBounds_toArray, List.set_cons_zero, List.set_cons_succ, i64_w, i32_w]
                          rfl
                        refine pure_ (i := 7) (N := some 106) (v := undef) (a' := ?_) #[true, true, true, true, true, true, true, true, false, false, false, false, false, false, false, false, false, false, false, false, false, false] rfl rfl (any_of HT_.out (by kernel_rfl)) (fun _ _ _ h => h) (Or.inr ⟨by rfl, rfl⟩) ?_ ?_
                        rotate_left
                        · simp only [Act.put, List.setIfInBounds_toArray, List.set_cons_zero, List.set_cons_succ, i64_w, i32_w]
                          rfl
                        refine pure_ (i := 8) (N := some 107) (v := undef) (a' := ?_) #[true, true, true, true, true, true, true, true, true, false, false, false, false, false, false, false, false, false, false, false, false, false] rfl rfl (any_of HT_.out (by kernel_rfl)) (fun _ _ _ h => h) (Or.inr ⟨by rfl, rfl⟩) ?_ ?_
                        rotate_left
                        · simp only [Act.put, List.setIfInBounds_toArray, List.set_cons_zero, List.set_cons_succ, i64_w, i32_w]
                          rfl
                        refine pure_ (i := 9) (N := some 108) (v := undef) (a' := ?_) #[true, true, true, true, true, true, true, true, true, true, false, false, false, false, false, false, false, false, false, false, false, false] rfl rfl (any_of HT_.out (by kernel_rfl)) (fun _ _ _ h => h) (Or.inr ⟨by rfl, rfl⟩) ?_ ?_
                        rotate_left
                        · simp only [Act.put, List.setIfInBounds_toArray, List.set_cons_zero, List.set_cons_succ, i64_w, i32_w]
                          rfl
                        refine pure_ (i := 10) (N := some 109) (v := undef) (a' := ?_) #[true, true, true, true, true, true, true, true, true, true, true, false, false, false, false, false, false, false, false, false, false, false] rfl rfl (any_of HT_.out (by kernel_rfl)) (fun _ _ _ h => h) (Or.inr ⟨by rfl, rfl⟩) ?_ ?_
                        rotate_left
                        · simp only [Act.put, List.setIfInBounds_toArray, List.set_cons_zero, List.set_cons_succ, i64_w, i32_w]
                          rfl
                        refine pure_ (i := 11) (N := some 110) (v := undef) (a' := ?_) #[true, true, true, true, true, true, true, true, true, true, true, true, false, false, false, false, false, false, false, false, false, false] rfl rfl (any_of HT_.out (by kernel_rfl)) (fun _ _ _ h => h) (Or.inr ⟨by rfl, rfl⟩) ?_ ?_
                        rotate_left
                        · simp only [Act.put, List.setIfInBounds_toArray, List.set_cons_zero, List.set_cons_succ, i64_w, i32_w]
                          rfl
                        refine pure_ (i := 12) (N := some 111) (v := undef) (a' := ?_) #[true, true, true, true, true, true, true, true, true, true, true, true, true, false, false, false, false, false, false, false, false, false] rfl rfl (any_of HT_.out (by kernel_rfl)) (fun _ _ _ h => h) (Or.inr ⟨by rfl, rfl⟩) ?_ ?_
                        rotate_left
                        · simp only [Act.put, List.setIfInBounds_toArray, List.set_cons_zero, List.set_cons_succ, i64_w, i32_w]
                          rfl
                        refine pure_ (i := 13) (N := some 112) (v := undef) (a' := ?_) #[true, true, true, true, true, true, true, true, true, true, true, true, true, true, false, false, false, false, false, false, false, false] rfl rfl (any_of HT_.out (by kernel_rfl)) (fun _ _ _ h => h) (Or.inr ⟨by rfl, rfl⟩) ?_ ?_
                        rotate_left
                        · simp only [Act.put, List.setIfInBounds_toArray, List.set_cons_zero, List.set_cons_succ, i64_w, i32_w]
                          rfl
                        refine pure_ (i := 14) (N := some 113) (v := undef) (a' := ?_) #[true, true, true, true, true, true, true, true, true, true, true, true, true, true, true, false, false, false, false, false, false, false] rfl rfl (any_of HT_.out (by kernel_rfl)) (fun _ _ _ h => h) (Or.inr ⟨by rfl, rfl⟩) ?_ ?_
                        rotate_left
                        · simp only [Act.put, List.setIfInBounds_toArray, List.set_cons_zero, List.set_cons_succ, i64_w, i32_w]
                          rfl
                        refine pure_ (i := 15) (N := some 114) (v := undef) (a' := ?_) #[true, true, true, true, true, true, true, true, true, true, true, true, true, true, true, true, false, false, false, false, false, false] rfl rfl (any_of HT_.out (by kernel_rfl)) (fun _ _ _ h => h) (Or.inr ⟨by rfl, rfl⟩) ?_ ?_
                        rotate_left
                        · simp only [Act.put, List.setIfInBounds_toArray, List.set_cons_zero, List.set_cons_succ, i64_w, i32_w]
                          rfl
                        refine pure_ (i := 16) (N := some 115) (v := undef) (a' := ?_) #[true, true, true, true, true, true, true, true, true, true, true, true, true, true, true, true, true, false, false, false, false, false] rfl rfl (any_of HT_.out (by kernel_rfl)) (fun _ _ _ h => h) (Or.inr ⟨by rfl, rfl⟩) ?_ ?_
                        rotate_left
                        · simp only [Act.put, List.setIfInBounds_toArray, List.set_cons_zero, List.set_cons_succ, i64_w, i32_w]
                          rfl
                        refine pure_ (i := 17) (N := some 116) (v := undef) (a' := ?_) #[true, true, true, true, true, true, true, true, true, true, true, true, true, true, true, true, true, true, false, false, false, false] rfl rfl (any_of HT_.out (by kernel_rfl)) (fun _ _ _ h => h) (Or.inr ⟨by rfl, rfl⟩) ?_ ?_
                        rotate_left
                        · simp only [Act.put, List.setIfInBounds_toArray, List.set_cons_zero, List.set_cons_succ, i64_w, i32_w]
                          rfl
                        refine pure_ (i := 18) (N := some 117) (v := undef) (a' := ?_) #[true, true, true, true, true, true, true, true, true, true, true, true, true, true, true, true, true, true, true, false, false, false] rfl rfl (any_of HT_.out (by kernel_rfl)) (fun _ _ _ h => h) (Or.inr ⟨by rfl, rfl⟩) ?_ ?_
                        rotate_left
                        · simp only [Act.put, List.setIfInBounds_toArray, List.set_cons_zero, List.set_cons_succ, i64_w, i32_w]
                          rfl
                        refine pure_ (i := 19) (N := some 118) (v := undef) (a' := ?_) #[true, true, true, true, true, true, true, true, true, true, true, true, true, true, true, true, true, true, true, true, false, false] rfl rfl (any_of HT_.out (by kernel_rfl)) (fun _ _ _ h => h) (Or.inr ⟨by rfl, rfl⟩) ?_ ?_
                        rotate_left
                        · simp only [Act.put, List.setIfInBounds_toArray, List.set_cons_zero, List.set_cons_succ, i64_w, i32_w]
                          rfl
                        refine pure_ (i := 20) (N := some 119) (v := undef) (a' := ?_) #[true, true, true, true, true, true, true, true, true, true, true, true, true, true, true, true, true, true, true, true, true, false] rfl rfl (any_of HT_.out (by kernel_rfl)) (fun _ _ _ h => h) (Or.inr ⟨by rfl, rfl⟩) ?_ ?_
                        rotate_left
                        · simp only [Act.put, List.setIfInBounds_toArray, List.set_cons_zero, List.set_cons_succ, i64_w, i32_w]
                          rfl
                        refine pure_ (i := 21) (N := some 120) (v := ?_) (a' := ?_) #[true, true, true, true, true, true, true, true, true, true, true, true, true, true, true, true, true, true, true, true, true, true] rfl rfl (any_of HT_.out (by kernel_rfl)) (fun _ _ _ h => h) (Or.inl ⟨by rfl, ?_⟩) ?_ ?_
                        rotate_left
                        · intro w'
                          go_simp
                          with_reducible rfl
                        rotate_left
                        · simp only [Act.put, List.setIfInBounds_toArray, List.set_cons_zero, List.set_cons_succ, i64_w, i32_w]
                          rfl
                        refine done_ (done_of HT_.out (by kernel_rfl)) ?_
                        try go_wp2
                        go_meet
                        case rel => exact ⟨_, (false), (by first | rfl | (simp; done) | (simp [*]; done)), H', ⟨by have := HJ3.out; have := HK2.out; have := HJ62.out; first | omega | exact Nat.le_refl _⟩, ⟨by (with_reducible repeat (first | refine blk_drewN ?_ _ | refine blk_drew ?_ | refine blk_alloc ?_ _)); exact BK227.out⟩, ⟨by repeat (first | (with_reducible first | exact HB.out | apply below_alloc | apply pw_below_drewN | apply below_drew1 | refine below_set ?_ GE227.out) | exact HB.out)⟩⟩
                    case rest =>
                      clear HC68
                      try clear c2
                      try clear p2
                      try clear c7
                      try clear c21
                      try clear c73
                      try clear c74
                      try clear c74b0
                      try clear c74b1
                      try clear c75
                      try clear c75b0
                      try clear c75b1
                      try clear c76
                      obtain ⟨kq, x120_67, rfl, HA, HJ67, BK227, HB⟩ := hcut
                      cases kq with
                      | zero => exact absurd HA.out (by simp [antecedentlaw07_LexKinds.j3])
                      | succ kj67 =>
                        have H := HA.out
                        clear HA
                        simp only [antecedentlaw07_LexKinds.j3] at H
                        by_cases c87 : x120_67 = true
                        · subst c87
                          have H1 : (some false) = some r := by rw [if_pos rfl] at H; exact H
                          clear H
                          have H := H1
                          clear H1
                          obtain rfl := Option.some.inj H
                          go_wp2
                          go_ret
                          exact ⟨by first | rfl | (simp [errW_none, errW_some] <;> rfl) | (simp [*, errW_none, errW_some] <;> rfl), by repeat (first | (with_reducible first | exact HB.out | apply below_alloc | apply pw_below_drewN | apply below_drew1 | refine below_set ?_ GE227.out) | exact HB.out)⟩
                        · replace c87 := Bool.eq_false_iff.mpr c87
                          subst c87
                          have H1 : ((lex_Tokens.f a2).bind fun bt254 => ((lex_Variable.f a2).bind fun t259 => (if t259 = true then (if bt254.2.2 = 0 then (if (bt254.1.length : Int) = 1 then (if 0 < (bt254.1.length : Int) then (some (((rd_T34 bt254.1 0).f0) == 2)) else (none)) else (some false)) else (some false)) else (some true)))) = some r := by rw [if_neg (show ¬ (false = true) by decide)] at H; exact H
                          clear H
                          have H := H1
                          clear H1
                          replace H := Option.bind_eq_some_iff.mp H
                          obtain ⟨⟨t254, t255, t256⟩, A880, H⟩ := H
                          replace H : ((lex_Variable.f a2).bind fun t259 => (if t259 = true then (if t256 = 0 then (if (t254.length : Int) = 1 then (if 0 < (t254.length : Int) then (some (((rd_T34 t254 0).f0) == 2)) else (none)) else (some false)) else (some false)) else (some true))) = some r := H
                          have A88 := Aside0.mk A880
                          clear A880
                          replace H := Option.bind_eq_some_iff.mp H
                          obtain ⟨t259, A890, H⟩ := H
                          replace H : (if t259 = true then (if t256 = 0 then (if (t254.length : Int) = 1 then (if 0 < (t254.length : Int) then (some (((rd_T34 t254 0).f0) == 2)) else (none)) else (some false)) else (some false)) else (some true)) = some r := H
                          have A89 := Aside0.mk A890
                          clear A890
                          by_cases c90 : t259 = true
                          · subst c90
                            have H1 : (if t256 = 0 then (if (t254.length : Int) = 1 then (if 0 < (t254.length : Int) then (some (((rd_T34 t254 0).f0) == 2)) else (none)) else (some false)) else (some false)) = some r := by rw [if_pos rfl] at H; exact H
                            clear H
                            have H := H1
                            clear H1
                            by_cases c91 : t256 = 0
                            · rw [if_pos c91] at H
                              have c91b0 : (t256 == 0) = true := beq_iff_eq.mpr c91
                              have c91b1 : (t256 != 0) = false := bne_eq_false_iff_eq.mpr c91
                              clear c91
                              by_cases c92 : (t254.length : Int) = 1
                              · rw [if_pos c92] at H
                                have c92b0 : ((t254.length : Int) == 1) = true := beq_iff_eq.mpr c92
                                have c92b1 : ((t254.length : Int) != 1) = false := bne_eq_false_iff_eq.mpr c92
                                clear c92
                                by_cases c93 : 0 < (t254.length : Int)
                                · rw [if_pos c93] at H
                                  have c93b0 : decide (0 < (t254.length : Int)) = true := decide_eq_true c93
                                  have c93b1 : decide (0 < t254.length) = true := decide_eq_true (by omega)
                                  clear c93
                                  obtain rfl := Option.some.inj H
                                  go_wp2_with (first | ((with_reducible refine gate_callee (f := 11) rfl ?_); refine goesL_ (some 123) rfl rfl Tryd.func11 (by kernel_rfl) rfl #[.string a2] rfl (by (try simp only [List.map_toArray, List.map_cons, List.map_nil]); first | done | rfl | (simp only [List.length_drop, List.length_take]; rfl)) ?_; (with_reducible refine (lex_Tokens.calls a2 t254 t255 t256 _ ?side1 A88.out).mono ?_); (case side1 => (first | (refine LaidW.below HLW.out ?_; (repeat (first | (with_reducible first | exact HB.out | apply below_alloc | apply pw_below_drewN | apply below_drew1 | refine below_set ?_ GE227.out) | exact HB.out)); done) | (repeat (first | exact HLW.out | apply LaidW.drewN | apply LaidW.drew | apply LaidW.alloc)))); rintro e w94 ⟨v257, rfl, ho0, hb⟩; refine ⟨_, rfl, ?_⟩; have n0_ := Aside0.mk (Kd.R_lower ho0 (below_size (by repeat (first | (with_reducible first | exact HB.out | apply below_alloc | apply pw_below_drewN | apply below_drew1 | refine below_set ?_ GE227.out) | exact HB.out)))); have n1_ := Aside0.mk (blk_below (g := gb227) (o := .cells #[.int .i64 a1_0, .int .i64 a1_1, .string a1_2] 36 (0, 0)) (by (with_reducible repeat (first | refine blk_drewN ?_ _ | refine blk_drew ?_ | refine blk_alloc ?_ _)); exact BK227.out) hb); have n2_ := Aside0.mk (below_step (by repeat (first | (with_reducible first | exact HB.out | apply below_alloc | apply pw_below_drewN | apply below_drew1 | refine below_set ?_ GE227.out) | exact HB.out)) hb); clear BK227; clear HB; have HO258 := n0_; have BK227 := n1_; have HB := n2_; clear n0_ n1_ n2_; (try clear hb); (try clear hb2); (try clear hk); (try clear hi); (try clear ho0)) | ((with_reducible refine gate_callee (f := 14) rfl ?_); refine goesL_ (some 128) rfl rfl Tryd.func14 (by kernel_rfl) rfl #[.string a2] rfl (by (try simp only [List.map_toArray, List.map_cons, List.map_nil]); first | done | rfl | (simp only [List.length_drop, List.length_take]; rfl)) ?_; (with_reducible refine (lex_Variable.calls a2 true _ A89.out).mono ?_); rintro e w' ⟨rfl, ⟨nd, rfl⟩⟩; refine ⟨_, rfl, ?_⟩; obtain ⟨Ao95, co95, eo95⟩ := Kd.R_slice HO258.out; subst eo95; have p260 : 0 ≤ (0 : Int) := (by omega); have q260 : 0 < (t254.length : Int) := of_decide_eq_true (by first | (with_reducible assumption) | assumption); obtain ⟨ad260, e260, hx260_0, hx260_1, hx260_2⟩ := at_T34 (Kd.R_reads' HO258.out).2.2 0 p260 q260; cases e260; have qi260 : (0 < t254.length) = True := eq_true (by omega); (try rw [show ((0 : Int)).toNat = 0 from rfl] at hx260_0); (try rw [show 0 * 3 = 0 from rfl] at hx260_0); (try rw [Addr.add_zero'] at hx260_0); (try rw [show ((0 : Int)).toNat = 0 from rfl] at hx260_1); (try rw [show 0 * 3 = 0 from rfl] at hx260_1); (try rw [Addr.add_zero'] at hx260_1); (try rw [show ((0 : Int)).toNat = 0 from rfl] at hx260_2); (try rw [show 0 * 3 = 0 from rfl] at hx260_2); (try rw [Addr.add_zero'] at hx260_2); replace p260 := eq_true p260; replace q260 := eq_true q260))
                                  go_ret
                                  exact ⟨by first | rfl | (simp [errW_none, errW_some] <;> rfl) | (simp [*, errW_none, errW_some] <;> rfl), by repeat (first | (with_reducible first | exact HB.out | apply below_alloc | apply pw_below_drewN | apply below_drew1 | refine below_set ?_ GE227.out) | exact HB.out)⟩
                                · rw [if_neg c93] at H
                                  exact absurd H (by simp)
                              · rw [if_neg c92] at H
                                have c92b0 : ((t254.length : Int) == 1) = false := beq_eq_false_iff_ne.mpr c92
                                have c92b1 : ((t254.length : Int) != 1) = true := bne_iff_ne.mpr c92
                                obtain rfl := Option.some.inj H
                                go_wp2_with (first | ((with_reducible refine gate_callee (f := 11) rfl ?_); refine goesL_ (some 123) rfl rfl Tryd.func11 (by kernel_rfl) rfl #[.string a2] rfl (by (try simp only [List.map_toArray, List.map_cons, List.map_nil]); first | done | rfl | (simp only [List.length_drop, List.length_take]; rfl)) ?_; (with_reducible refine (lex_Tokens.calls a2 t254 t255 t256 _ ?side1 A88.out).mono ?_); (case side1 => (first | (refine LaidW.below HLW.out ?_; (repeat (first | (with_reducible first | exact HB.out | apply below_alloc | apply pw_below_drewN | apply below_drew1 | refine below_set ?_ GE227.out) | exact HB.out)); done) | (repeat (first | exact HLW.out | apply LaidW.drewN | apply LaidW.drew | apply LaidW.alloc)))); rintro e w96 ⟨v257, rfl, ho0, hb⟩; refine ⟨_, rfl, ?_⟩; have n0_ := Aside0.mk (Kd.R_lower ho0 (below_size (by repeat (first | (with_reducible first | exact HB.out | apply below_alloc | apply pw_below_drewN | apply below_drew1 | refine below_set ?_ GE227.out) | exact HB.out)))); have n1_ := Aside0.mk (blk_below (g := gb227) (o := .cells #[.int .i64 a1_0, .int .i64 a1_1, .string a1_2] 36 (0, 0)) (by (with_reducible repeat (first | refine blk_drewN ?_ _ | refine blk_drew ?_ | refine blk_alloc ?_ _)); exact BK227.out) hb); have n2_ := Aside0.mk (below_step (by repeat (first | (with_reducible first | exact HB.out | apply below_alloc | apply pw_below_drewN | apply below_drew1 | refine below_set ?_ GE227.out) | exact HB.out)) hb); clear BK227; clear HB; have HO258 := n0_; have BK227 := n1_; have HB := n2_; clear n0_ n1_ n2_; (try clear hb); (try clear hb2); (try clear hk); (try clear hi); (try clear ho0)) | ((with_reducible refine gate_callee (f := 14) rfl ?_); refine goesL_ (some 128) rfl rfl Tryd.func14 (by kernel_rfl) rfl #[.string a2] rfl (by (try simp only [List.map_toArray, List.map_cons, List.map_nil]); first | done | rfl | (simp only [List.length_drop, List.length_take]; rfl)) ?_; (with_reducible refine (lex_Variable.calls a2 true _ A89.out).mono ?_); rintro e w' ⟨rfl, ⟨nd, rfl⟩⟩; refine ⟨_, rfl, ?_⟩; obtain ⟨Ao97, co97, eo97⟩ := Kd.R_slice HO258.out; subst eo97))
                                go_ret
                                exact ⟨by first | rfl | (simp [errW_none, errW_some] <;> rfl) | (simp [*, errW_none, errW_some] <;> rfl), by repeat (first | (with_reducible first | exact HB.out | apply below_alloc | apply pw_below_drewN | apply below_drew1 | refine below_set ?_ GE227.out) | exact HB.out)⟩
                            · rw [if_neg c91] at H
                              have c91b0 : (t256 == 0) = false := beq_eq_false_iff_ne.mpr c91
                              have c91b1 : (t256 != 0) = true := bne_iff_ne.mpr c91
                              obtain rfl := Option.some.inj H
                              go_wp2_with (first | ((with_reducible refine gate_callee (f := 11) rfl ?_); refine goesL_ (some 123) rfl rfl Tryd.func11 (by kernel_rfl) rfl #[.string a2] rfl (by (try simp only [List.map_toArray, List.map_cons, List.map_nil]); first | done | rfl | (simp only [List.length_drop, List.length_take]; rfl)) ?_; (with_reducible refine (lex_Tokens.calls a2 t254 t255 t256 _ ?side1 A88.out).mono ?_); (case side1 => (first | (refine LaidW.below HLW.out ?_; (repeat (first | (with_reducible first | exact HB.out | apply below_alloc | apply pw_below_drewN | apply below_drew1 | refine below_set ?_ GE227.out) | exact HB.out)); done) | (repeat (first | exact HLW.out | apply LaidW.drewN | apply LaidW.drew | apply LaidW.alloc)))); rintro e w98 ⟨v257, rfl, ho0, hb⟩; refine ⟨_, rfl, ?_⟩; have n0_ := Aside0.mk (Kd.R_lower ho0 (below_size (by repeat (first | (with_reducible first | exact HB.out | apply below_alloc | apply pw_below_drewN | apply below_drew1 | refine below_set ?_ GE227.out) | exact HB.out)))); have n1_ := Aside0.mk (blk_below (g := gb227) (o := .cells #[.int .i64 a1_0, .int .i64 a1_1, .string a1_2] 36 (0, 0)) (by (with_reducible repeat (first | refine blk_drewN ?_ _ | refine blk_drew ?_ | refine blk_alloc ?_ _)); exact BK227.out) hb); have n2_ := Aside0.mk (below_step (by repeat (first | (with_reducible first | exact HB.out | apply below_alloc | apply pw_below_drewN | apply below_drew1 | refine below_set ?_ GE227.out) | exact HB.out)) hb); clear BK227; clear HB; have HO258 := n0_; have BK227 := n1_; have HB := n2_; clear n0_ n1_ n2_; (try clear hb); (try clear hb2); (try clear hk); (try clear hi); (try clear ho0)) | ((with_reducible refine gate_callee (f := 14) rfl ?_); refine goesL_ (some 128) rfl rfl Tryd.func14 (by kernel_rfl) rfl #[.string a2] rfl (by (try simp only [List.map_toArray, List.map_cons, List.map_nil]); first | done | rfl | (simp only [List.length_drop, List.length_take]; rfl)) ?_; (with_reducible refine (lex_Variable.calls a2 true _ A89.out).mono ?_); rintro e w' ⟨rfl, ⟨nd, rfl⟩⟩; refine ⟨_, rfl, ?_⟩))
                              go_ret
                              exact ⟨by first | rfl | (simp [errW_none, errW_some] <;> rfl) | (simp [*, errW_none, errW_some] <;> rfl), by repeat (first | (with_reducible first | exact HB.out | apply below_alloc | apply pw_below_drewN | apply below_drew1 | refine below_set ?_ GE227.out) | exact HB.out)⟩
                          · replace c90 := Bool.eq_false_iff.mpr c90
                            subst c90
                            have H1 : (some true) = some r := by rw [if_neg (show ¬ (false = true) by decide)] at H; exact H
                            clear H
                            have H := H1
                            clear H1
                            obtain rfl := Option.some.inj H
                            go_wp2_with (first | ((with_reducible refine gate_callee (f := 11) rfl ?_); refine goesL_ (some 123) rfl rfl Tryd.func11 (by kernel_rfl) rfl #[.string a2] rfl (by (try simp only [List.map_toArray, List.map_cons, List.map_nil]); first | done | rfl | (simp only [List.length_drop, List.length_take]; rfl)) ?_; (with_reducible refine (lex_Tokens.calls a2 t254 t255 t256 _ ?side1 A88.out).mono ?_); (case side1 => (first | (refine LaidW.below HLW.out ?_; (repeat (first | (with_reducible first | exact HB.out | apply below_alloc | apply pw_below_drewN | apply below_drew1 | refine below_set ?_ GE227.out) | exact HB.out)); done) | (repeat (first | exact HLW.out | apply LaidW.drewN | apply LaidW.drew | apply LaidW.alloc)))); rintro e w99 ⟨v257, rfl, ho0, hb⟩; refine ⟨_, rfl, ?_⟩; have n0_ := Aside0.mk (Kd.R_lower ho0 (below_size (by repeat (first | (with_reducible first | exact HB.out | apply below_alloc | apply pw_below_drewN | apply below_drew1 | refine below_set ?_ GE227.out) | exact HB.out)))); have n1_ := Aside0.mk (blk_below (g := gb227) (o := .cells #[.int .i64 a1_0, .int .i64 a1_1, .string a1_2] 36 (0, 0)) (by (with_reducible repeat (first | refine blk_drewN ?_ _ | refine blk_drew ?_ | refine blk_alloc ?_ _)); exact BK227.out) hb); have n2_ := Aside0.mk (below_step (by repeat (first | (with_reducible first | exact HB.out | apply below_alloc | apply pw_below_drewN | apply below_drew1 | refine below_set ?_ GE227.out) | exact HB.out)) hb); clear BK227; clear HB; have HO258 := n0_; have BK227 := n1_; have HB := n2_; clear n0_ n1_ n2_; (try clear hb); (try clear hb2); (try clear hk); (try clear hi); (try clear ho0)) | ((with_reducible refine gate_callee (f := 14) rfl ?_); refine goesL_ (some 128) rfl rfl Tryd.func14 (by kernel_rfl) rfl #[.string a2] rfl (by (try simp only [List.map_toArray, List.map_cons, List.map_nil]); first | done | rfl | (simp only [List.length_drop, List.length_take]; rfl)) ?_; (with_reducible refine (lex_Variable.calls a2 false _ A89.out).mono ?_); rintro e w' ⟨rfl, ⟨nd, rfl⟩⟩; refine ⟨_, rfl, ?_⟩))
                            go_ret
                            exact ⟨by first | rfl | (simp [errW_none, errW_some] <;> rfl) | (simp [*, errW_none, errW_some] <;> rfl), by repeat (first | (with_reducible first | exact HB.out | apply below_alloc | apply pw_below_drewN | apply below_drew1 | refine below_set ?_ GE227.out) | exact HB.out)⟩
end Go.Proofs.YthebhbomlllpeaaDoor.X
namespace Go.Proofs.YthebhbomlllpeaaDoor.X
set_option linter.unusedVariables false
set_option linter.unusedSimpArgs false
open Go.RowKit Go.Proofs.YthebhbomlllpeaaDoorW.PrintWords Go.Proofs.YthebhbomlllpeaaDoorW.PrintLast Go.Proofs.YthebhbomlllpeaaDoorW.PrintMore
theorem kinds_j0 (k : Nat) (a b : ByteArray) (x y : Int) (z : ByteArray) : antecedentlaw07_LexKinds.j0 (k + 1) a b true x y z = some true := by
  simp only [antecedentlaw07_LexKinds.j0, if_true, awake_true, Option.bind_some]
theorem kinds_j3 (k : Nat) (s : ByteArray) (hs : s.size ≤ 100) : antecedentlaw07_LexKinds.j3 (k + 1) s false = some true := by
  simp only [antecedentlaw07_LexKinds.j3, Bool.false_eq_true, if_false]
  rw [tok_f s (by omega), var_f s (by omega)]
  simp only [Option.bind_some]
  cases hv : varL s.data.toList with
  | false => rw [if_neg (by decide)]
  | true =>
    rw [if_pos rfl]
    cases hl : s.data.toList with
    | nil => rw [hl] at hv; cases hv
    | cons c r =>
      have h1 := var_next (by rw [← hl]; exact hv : varL (c :: r) = true)
      rw [← hl] at h1
      have h2 := tok_one h1 0
      rw [res_ok h2]
      rfl
theorem kinds_j2 (k : Nat) (s : ByteArray) (hs : s.size ≤ 100) (x y : Int) (z : ByteArray) (hy : -9223372036854775808 ≤ y ∧ y ≤ 9223372036854775807) (hk : 42 ≤ k) : antecedentlaw07_LexKinds.j2 (k + 1) s false x y z = some true := by
  simp only [antecedentlaw07_LexKinds.j2, Bool.false_eq_true, if_false]
  obtain ⟨k, rfl⟩ : ∃ m, k = m + 1 := ⟨k - 1, by omega⟩
  have ht : value_Text.f x y z = some (txt x y z) := by unfold value_Text.f; rw [if_pos hy]; rfl
  have hl := textL_length x y z hy
  have hd : (txt x y z).data.toList = textL x y z := by simp [txt]
  have hsz : (txt x y z).size = (textL x y z).length := by simp [txt, ByteArray.size]
  rw [ht]
  simp only [Option.bind_some]
  rw [tok_f _ (by omega), value_Right_eq _ hk]
  simp only [Option.bind_some]
  cases hr : rightB x y z with
  | false =>
    rw [if_neg (by decide)]
    exact kinds_j3 k s hs
  | true =>
    have h1 := text_token x y z hr hy
    rw [← hd] at h1
    have h2 := tok_one h1 0
    rw [res_ok h2, if_pos rfl]
    simp only [List.map_cons, List.map_nil, List.length_cons, List.length_nil]
    rw [if_pos trivial, if_pos (by decide), if_pos (by decide)]
    have e0 : (rd_T34 [tokS (txt x y z) (if x = 3 then 1 else 3, 0, (txt x y z).data.toList.length)] 0).f0 = (((if x = 3 then 1 else 3 : Nat)) : Int) := rfl
    rw [e0]
    by_cases hx : x = 3
    · rw [if_pos hx, hx]
      exact kinds_j3 k s hs
    · rw [if_neg hx, beq_eq_false_iff_ne.2 hx]
      exact kinds_j3 k s hs
theorem kinds_l0 (s t : ByteArray) (ht : t.size ≤ 100) (x y : Int) (z : ByteArray) (hy : -9223372036854775808 ≤ y ∧ y ≤ 9223372036854775807) (l : List (Nat × Nat × Nat)) (hs : s.size ≤ 400) (hl : l.length ≤ 400) (hw : ∀ x ∈ l, KindOk (tokS s x)) (e : Int) (he : e = 0 ∨ l = []) : ∀ (d i k : Nat), l.length - i = d → i ≤ l.length → d + 44 < k → antecedentlaw07_LexKinds.l0 k t (l.map (tokS s)) e (l.length : Int) (i : Int) x y z = some true
  | 0, i, k, hd, hi, hk => by
    obtain ⟨k, rfl⟩ : ∃ m, k = m + 1 := ⟨k - 1, by omega⟩
    obtain ⟨k, rfl⟩ : ∃ m, k = m + 1 := ⟨k - 1, by omega⟩
    simp only [antecedentlaw07_LexKinds.l0]
    rw [if_neg (by omega)]
    rcases he with rfl | rfl
    · rw [if_pos rfl]
      exact kinds_j2 k t ht x y z hy (by omega)
    · split
      · exact kinds_j2 k t ht x y z hy (by omega)
      · exact kinds_j2 k t ht x y z hy (by omega)
  | d + 1, i, k, hd, hi, hk => by
    obtain ⟨k, rfl⟩ : ∃ m, k = m + 1 := ⟨k - 1, by omega⟩
    have ih := kinds_l0 s t ht x y z hy l hs hl hw e he d (i + 1) k (by omega) (by omega) (by omega)
    have hil : i < l.length := by omega
    have hx := hw _ (List.getElem_mem hil)
    have hrd : rd_T34 (l.map (tokS s)) (i : Int) = tokS s l[i] := by
      unfold rd_T34
      rw [Int.toNat_natCast, List.getD_eq_getElem?_getD, List.getElem?_map, List.getElem?_eq_getElem hil]
      rfl
    have hsz : (tokS s l[i]).f1.size ≤ 400 := by
      simp only [tokS, ByteArray.size_extract]; omega
    simp only [antecedentlaw07_LexKinds.l0]
    rw [if_pos (by omega), if_pos (by omega), if_pos (by rw [List.length_map]; omega), hrd, show wrap64 ((i : Int) + 1) = ((i + 1 : Nat) : Int) by unfold wrap64; omega, ih]
    unfold value_Read.f
    rw [if_pos (by omega), value_Name_eq _ k (by omega), var_f _ (by omega)]
    simp only [Option.bind_some]
    rcases hx with ⟨h1, h2⟩ | ⟨h1, h2⟩ | ⟨h1, h2, h3⟩ | h1
    · rw [if_pos h1, if_pos h2]
    · rw [if_neg (by omega), if_pos h1, if_pos h2]
    · rw [if_neg (by omega), if_neg (by omega), if_pos h1, if_pos h2, if_neg h3]
    · rw [if_neg (by omega), if_neg (by omega), if_neg (by omega)]
theorem pureLexKinds (a : ByteArray) (ha : a.size ≤ maxLen) (v : S36) (hv : okS v = true) (hvs : v.f2.size ≤ maxLen) (b : ByteArray) (hb : b.size ≤ maxLen) : ∃ k, antecedentlaw07_LexKinds.f k a v.f0 v.f1 v.f2 b = some true := by
  refine ⟨500 + 1, ?_⟩
  have hy : -9223372036854775808 ≤ v.f1 ∧ v.f1 ≤ 9223372036854775807 := by
    unfold okS at hv
    simp only [Bool.and_eq_true, decide_eq_true_eq] at hv
    omega
  unfold antecedentlaw07_LexKinds.f
  rw [awake_true]
  simp only [Option.bind_some, if_true]
  by_cases h1 : (a.size : Int) > 400
  · rw [if_pos h1, kinds_j0]
  · rw [if_neg h1]
    by_cases h2 : (b.size : Int) > 100
    · rw [decide_eq_true h2, kinds_j0]
    · rw [decide_eq_false h2]
      simp only [antecedentlaw07_LexKinds.j0, Bool.false_eq_true, if_false]
      rw [tok_f a (by omega)]
      simp only [Option.bind_some]
      cases h : tokN nmL vlL 0 a.data.toList with
      | error i =>
        rw [res_err h]
        exact kinds_l0 a b (by omega) _ _ _ hy [] (by omega) (by simp) (by simp) 2 (Or.inr rfl) 0 0 500 rfl (by simp) (by omega)
      | ok l =>
        have hn := tok_count nmL vlL _ a.data.toList 0 l (Nat.le_refl _) h
        rw [data_length] at hn
        rw [res_ok h]
        simp only [List.length_map]
        have hc := tok_cov nmL vlL a.data.toList _ 0 l (Nat.le_refl _) (by rw [List.drop_zero]; exact h)
        refine kinds_l0 a b (by omega) _ _ _ hy l (by omega) (by omega) ?_ 0 (Or.inl rfl) _ 0 500 rfl (by simp) (by omega)
        intro x hx
        obtain ⟨g1, g2, g3, g4, g5⟩ := cov_all l 0 hc x hx
        exact kind_ok g1 g3 g4
end Go.Proofs.YthebhbomlllpeaaDoor.X
namespace Go.Proofs.YthebhbomlllpeaaDoor.lexKinds
set_option linter.unusedVariables false
set_option linter.unusedSimpArgs false
open Go.ChangeShapes Go.WideShapes Go.ChangeAt Go.RowKit Go.Proofs.YthebhbomlllpeaaDoor.X
open Go.ChangeMaps (open_string shut_string)
set_option maxRecDepth 100000 in
/-- WHAT THE WALK AND THE PURE STATEMENT GIVE, FOR EVERY ARGUMENT. -/
theorem contract (H : Type) (enc : TypeId × Value → H) (W : World) (base : Nat) (args : Array Value) (ds gs : List (DataW H)) (before : List MemPlace)
    (hval : ∀ (j : Nat) t v, Tryd.f6.params[j]? = some t → args[j]? = some v → Value.okWide Tryd.prog W .any base t v)
    (hW : DataW.Whole enc Tryd.prog Tryd.f6.params.toList Rows.lexKindsSpec.vars false W args.toList ds gs before) (hL : laidMetH Tryd.prog Rows.lexKindsRow.laid W) :
    Calls Tryd.prog 6 args W fun e W' => ∃ v, e = .returned v ∧ Rows.lexKindsSpec.post enc Tryd.prog Tryd.f6 false true false false W args v W' := by
  have hW' := hW
  obtain ⟨p, q, hA0, hV, rfl, hfz, hnd⟩ := hW
  have hA : DataW.TrodAll enc Tryd.prog W 0 (fun _ => true) true Tryd.f6.params.toList args.toList ds p := hA0
  rw [Tryd.params6] at hA hval
  obtain ⟨v0, vs0, d0, ds0, p0, q0, hargs, rfl, rfl, h0, r0⟩ := trodAll_cons hA
  obtain ⟨v1, vs1, d1, ds1, p1, q1, rfl, rfl, rfl, h1, r1⟩ := trodAll_cons r0
  obtain ⟨v2, vs2, d2, ds2, p2, q2, rfl, rfl, rfl, h2, r2⟩ := trodAll_cons r1
  obtain ⟨rfl, rfl, rfl⟩ := trodAll_nil r2
  obtain rfl : args = #[v0, v1, v2] := by cases args; simp_all
  obtain ⟨rfl, rfl⟩ := trodVars_none hV
  have lt0 : ∀ x ∈ p0, x.block < W.heap.size := by obtain ⟨m, hm⟩ := h0; exact DataW.trod_lt m _ _ _ hm
  have g0 := h0
  obtain ⟨x0, rfl, rfl, rfl, hb0⟩ := open_string Tryd.underlying9 (hval 0 9 v0 rfl rfl) h0
  have lt1 : ∀ x ∈ p1, x.block < W.heap.size := by obtain ⟨m, hm⟩ := h1; exact DataW.trod_lt m _ _ _ hm
  obtain ⟨x1, rfl, hb1, hs1⟩ := open_value (hval 1 36 v1 rfl rfl) h1
  have lt2 : ∀ x ∈ p2, x.block < W.heap.size := by obtain ⟨m, hm⟩ := h2; exact DataW.trod_lt m _ _ _ hm
  have g2 := h2
  obtain ⟨x2, rfl, rfl, rfl, hb2⟩ := open_string Tryd.underlying9 (hval 2 9 v2 rfl rfl) h2
  clear hA0
  simp only [List.append_nil] at hW'
  obtain ⟨k, hk⟩ := pureLexKinds x0 hb0 x1 hb1 hs1 x2 hb2
  refine (antecedentlaw07_LexKinds.calls k x0 x1.f0 x1.f1 x1.f2 x2 true W (laidW_of hL)  hk).mono ?_
  rintro e W' ⟨rfl, bel⟩
  exact ⟨_, rfl, _, _, _, [], _, [], hW', trodAll_mk1 (shut_bool Tryd.underlying4 _), (trodAll_cons_mk (shut_string Tryd.underlying9 hb0) (trodAll_cons_mk (Below.trod laidOut (by kernel_rfl) (of_decide_eq_true (by kernel_rfl)) h1 bel lt1) (trodAll_cons_mk (shut_string Tryd.underlying9 hb2) trodAll_mk0))), rfl, bel.frame _, fun h => by cases h⟩
theorem reads (os : Os) {H : Type} (enc : TypeId × Value → H) : ∃ places, DataW.whole enc Tryd.prog ((laidWorld os).forCall (fun _ _ => 0) ⟨#[], #[.string ⟨#[]⟩, .agg #[.int .i64 0, .int .i64 0, .string ⟨#[]⟩], .string ⟨#[]⟩], []⟩).memory Tryd.f6.params.toList Rows.lexKindsSpec.vars false (#[.string ⟨#[]⟩, .agg #[.int .i64 0, .int .i64 0, .string ⟨#[]⟩], .string ⟨#[]⟩] : Array Value).toList 8 = some ([.lit (.string []), .agg [.lit (.int .i64 0), .lit (.int .i64 0), .lit (.string [])], .lit (.string [])], [], places) :=
  ⟨[], by kernel_rfl⟩
set_option maxRecDepth 100000 in
theorem lifted (os : Os) (started : os.Started) (H : Type) (enc : TypeId × Value → H) (F : Stop.Interp) :
    ReturnsInHanded {} Tryd.checked os 6 .any ((OpenSpec.ofChange Rows.lexKindsSpec).preRow enc Tryd.prog Tryd.f6 Rows.lexKindsRow.domain false Rows.lexKindsRow.laid) (((OpenSpec.ofChange Rows.lexKindsSpec).at F).post enc Tryd.prog Tryd.f6 false true false false) := by
  obtain ⟨places, hx⟩ := reads os enc
  refine returnsInHanded_of_row (C := Tryd.checked) (s := OpenSpec.ofChange Rows.lexKindsSpec) own started (by kernel_rfl) Tryd.func6
    (witness_row_at (enc := enc) (C := Tryd.checked) false (laidWorld os) #[.string ⟨#[]⟩, .agg #[.int .i64 0, .int .i64 0, .string ⟨#[]⟩], .string ⟨#[]⟩] rfl (by kernel_rfl) (by kernel_rfl) (by kernel_rfl)
      (OpenSpec.preRow_of_cond 8 hx (by kernel_rfl) (fun k hk => by cases hk) (by kernel_rfl) (laid_met os _))) ?_
  intro W base args ds gs before hval hW _ _ _ hL _ _
  exact contract H enc W base args ds gs before hval hW hL
theorem said : Rows.LexKindsSaid :=
  OpenClaim.holds_of_cond 6 Tryd.f6 rfl rfl rfl rfl rfl rfl rfl ⟨rfl, rfl, rfl, rfl, rfl⟩ rfl rfl rfl rfl rfl (by kernel_rfl) Tryd.func6 (by kernel_rfl)
    (of_decide_eq_true (by kernel_rfl)) (by unfold Func.isWrapper; first | (rw [if_pos (by decide +kernel)]; kernel_rfl) | (rw [if_neg (by decide +kernel)]; exact ⟨rfl, rfl⟩))
    (fun os started H enc _ F => by rw [OpenClaim.pre_eq_preRow]; exact lifted os started H enc F)
theorem plain (f : FuncId) (fn : Func) (hf : Tryd.pinned.checked.prog.funcNamed "antecedent/antecedentlaw07.LexKinds" = some f) (hfn : Tryd.pinned.checked.prog.funcs[f]? = some fn) :
    true = Tryd.pinned.checked.prog.looks [] ∧ ∀ (j : Nat) t, fn.params[j]? = some t → Tryd.pinned.checked.prog.wantsStandIn t = false := by
  obtain rfl : f = 6 := Option.some.inj ((show Tryd.prog.funcNamed "antecedent/antecedentlaw07.LexKinds" = some 6 by kernel_rfl).symm.trans hf) |>.symm
  obtain rfl : fn = Tryd.f6 := (Option.some.inj (Tryd.func6.symm.trans hfn)).symm
  refine ⟨by kernel_rfl, fun j t ht => ?_⟩
  rw [Tryd.params6] at ht
  have hm : t ∈ [9, 36, 9] := by simpa using Array.mem_of_getElem? ht
  have hall : ([9, 36, 9].all fun u => !Tryd.prog.wantsStandIn u) = true := by kernel_rfl
  exact (show Tryd.prog.wantsStandIn t = false by simpa using List.all_eq_true.1 hall t hm)
theorem card : Rows.LexKindsCardSaid :=
  Claim7.holds_tied_plain_at .later [] _ _ _ _ said (fun _ h => by cases h) (by kernel_rfl) (fun _ h => by cases h) lexKinds_row_tie rfl ⟨rfl, rfl⟩ (by kernel_rfl) rfl plain (by kernel_rfl)
end Go.Proofs.YthebhbomlllpeaaDoor.lexKinds
namespace Go.Proofs.YthebhbomlllpeaaDoor
/-- The card, under a short name, for the claim. -/
theorem lexKinds_holds : Rows.LexKindsCardSaid := lexKinds.card
#print axioms lexKinds_holds
end Go.Proofs.YthebhbomlllpeaaDoor
