/-
  The statement LexCovers, for every input.
-/
import Derived.Test.YthebhbomlllpeaaDoorCards
import Derived.Test.YthebhbomlllpeaaDoorTie
import Derived.Test.YthebhbomlllpeaaDoorProg
import Derived.Below
import Derived.Deep.Draws
import Derived.Deep.AppendLies
import Derived.Maps.AppendAt
import Derived.OwnWalk
import Derived.Laws.BytesArg
import Derived.Laws.MakeOwn
import Derived.Laws.OwnMore
import Derived.Deep.OwnRows
import Derived.Tactics
import Derived.Lib.ConvBytes
import Derived.Laws.Slices
import Derived.WalkKit
import Derived.KernelRfl
import Derived.RowKit3
import Derived.Deep.LoopGhost
import Derived.Deep.QuietTactic
import Derived.BigQuiet
import Derived.WideLaws
import Derived.Deep.DeepCutAuto
import Derived.Deep.CutBlock
import Derived.Deep.RegionHeld3
import Derived.Laws.Rows
import Derived.Lib.AppendStr
import Derived.ArgAppend
import Derived.Laws.IdiomCopy
import Derived.OrdersHeld
import Derived.Laws.BitsLemmas
import Derived.RowKit
import Derived.Lib.SmallJoins
import Derived.Lib.ItoaMem
import Derived.Test.YthebhbomlllpeaaDoorWWords
import Derived.Test.YthebhbomlllpeaaDoorWLast
import Derived.Test.YthebhbomlllpeaaDoorWTab
import Derived.Test.YthebhbomlllpeaaDoorWFour
import Derived.Test.YthebhbomlllpeaaDoorWQPut
import Derived.Test.YthebhbomlllpeaaDoorWApart
import Derived.Test.YthebhbomlllpeaaDoorWArr
import Derived.Test.YthebhbomlllpeaaDoorWZeros
import Derived.Test.YthebhbomlllpeaaDoorWFoot
import Derived.Test.YthebhbomlllpeaaDoorWKept
import Derived.Test.YthebhbomlllpeaaDoorWShare
import Derived.Test.YthebhbomlllpeaaDoorWN
import Derived.Test.YthebhbomlllpeaaDoorWFootNe
import Derived.Test.YthebhbomlllpeaaDoorWAt
import Derived.Test.YthebhbomlllpeaaDoorWEqStruct
import Derived.Test.YthebhbomlllpeaaDoorWRepsOne
import Derived.Test.YthebhbomlllpeaaDoorWInv
import Derived.Test.YthebhbomlllpeaaDoorWInvWords
import Derived.Test.YthebhbomlllpeaaDoorWGuard
import Derived.Test.YthebhbomlllpeaaDoorWNEv
import Derived.Test.YthebhbomlllpeaaDoorWMore
import Derived.Test.YthebhbomlllpeaaDoorRows
import Derived.Deep.Slices
import Derived.Deep.Fields
import Derived.ChangeSame
import Derived.ProofKit
import Derived.OpenShut
import Derived.Deep.DeepHandedRow
import Derived.Lib.LaidTab
import Derived.LaidMore
import Derived.Stop.LaidErr
import Derived.MakeChecks
import Derived.Shelf.Strings.Builder1
import Derived.Shelf.Strings.Builder2
import Derived.Shelf.Strings.OnBuilder
import Derived.Shelf.Small.Strs
import Derived.Shelf.Small.Wraps
import Derived.Shelf.Strings.BuilderF
import Derived.Shelf.Strings.BuilderK
import Derived.Shelf.Strings.Builder2Cap
import Derived.Shelf.Strconv.Itoa0
import Derived.Shelf.Strconv.Itoa1
import Derived.Shelf.LaysM
import Derived.Shelf.Strconv.Itoa2
import Derived.Shelf.Strconv.Itoa3
import Derived.Shelf.Strconv.Itoa4
import Derived.Shelf.Strconv.ParseIntEmpty
import Derived.Shelf.Strconv.Clone
import Derived.Shelf.Strconv.SyntaxError
import Derived.Shelf.LaysC
import Derived.Shelf.Strconv.ToError
import Derived.Shelf.Strconv.Lower
import Derived.Shelf.Strconv.ParseUint10
import Derived.Shelf.Strconv.ParseUint10Empty
import Derived.Shelf.Strconv.ParseUint10Any
import Derived.Shelf.Strconv.ParseInt10
import Derived.Shelf.Strconv.RangeError
import Derived.Shelf.Strconv.ToErrorRange
import Derived.Shelf.Strconv.ParseUintEmpty
import Derived.Shelf.Strconv.ParseUint10b64
import Derived.Shelf.Strconv.ParseUint10b32
import Derived.Shelf.Strconv.ParseUint10b16
import Derived.Shelf.Strconv.ParseUint10b8
import Derived.Shelf.Strconv.ParseUint10At
import Derived.Shelf.Strconv.ParseInt10At64
import Derived.Shelf.Strconv.ParseInt10At32
import Derived.Shelf.Strconv.ParseInt10At16
import Derived.Shelf.Strconv.ParseInt10At8
import Derived.Shelf.Strconv.ParseInt10All
import Derived.Shelf.Strconv.ParseIntPublic10
import Derived.Shelf.Strconv.ErrVarParseInt
import Derived.Ground.MpProg
import Derived.Shelf.Pu.ParseUintPublic10
import Derived.Shelf.Pu.ErrVarParseUint
import Derived.Shelf.Strings.Search1
import Derived.Shelf.Strings.Prefix
import Derived.Shelf.Bits.Mul64
import Derived.Shelf.Strings.Repeat
import Derived.Shelf.Strings.BuilderCap
import Derived.Laws.NewBlocks
import Derived.Lib.AtoiAllMem
import Derived.Lib.ParseIntB
import Derived.Lib.Hide
import Derived.Laws.Strings3
import Derived.Laws.Closers25
import Derived.Laws.Closers25b
import Derived.BigCall
import Derived.BigGuard
import Derived.Laws.RangeAny
import Derived.Laws.RangeString
import Derived.Lib.ParseIntBTie
import Init
import Derived.Recover
import Derived.WalkLawsBesides
import Derived.Test.YthebhbomlllpeaaDoorZLexCovers2
namespace Go.Proofs.YthebhbomlllpeaaDoor.X
open Go.RowKit Go.Proofs.YthebhbomlllpeaaDoorW.PrintWords Go.Proofs.YthebhbomlllpeaaDoorW.PrintLast Go.Proofs.YthebhbomlllpeaaDoorW.PrintMore
attribute [local go_sem] max2_int min2_int max_two min_two max_three min_three max_four min_four
set_option linter.unusedVariables false
set_option linter.unusedSimpArgs false
mutual
def antecedentlaw07_LexCovers.j0 : Nat → ByteArray → Bool → Option (Bool)
  | 0, _, _ => none
  | k + 1, x0, x16 => if x16 = true then ((antecedentlaw07_awake.f).bind fun t208 => (some t208)) else ((lex_Tokens.f x0).bind fun bt209 => (if bt209.2.2 = 0 then (antecedentlaw07_LexCovers.l0 k x0 bt209.1 0 (bt209.1.length : Int) 0) else (some true)))
def antecedentlaw07_LexCovers.l0 : Nat → ByteArray → List (S34) → Int → Int → Int → Option (Bool)
  | 0, _, _, _, _, _ => none
  | k + 1, x0, x3, x6, x27, x28 => if x28 < x27 then (if 0 ≤ x28 then (if x28 < (x3.length : Int) then (if ((rd_T34 x3 x28).f2) < x6 then (antecedentlaw07_LexCovers.j2 k x0 x3 x6 x28 x27 x28 true) else (if ((rd_T34 x3 x28).f1).toList = ([] : List UInt8) then (antecedentlaw07_LexCovers.j2 k x0 x3 x6 x28 x27 x28 true) else (if (wrap64 (((rd_T34 x3 x28).f2) + (((rd_T34 x3 x28).f1).size : Int))) > (x0.size : Int) then (antecedentlaw07_LexCovers.j2 k x0 x3 x6 x28 x27 x28 true) else (if 0 ≤ ((rd_T34 x3 x28).f2) then (if ((rd_T34 x3 x28).f2) ≤ (wrap64 (((rd_T34 x3 x28).f2) + (((rd_T34 x3 x28).f1).size : Int))) then (if (wrap64 (((rd_T34 x3 x28).f2) + (((rd_T34 x3 x28).f1).size : Int))) ≤ (x0.size : Int) then (if (x0.extract (((rd_T34 x3 x28).f2) : Int).toNat ((wrap64 (((rd_T34 x3 x28).f2) + (((rd_T34 x3 x28).f1).size : Int))) : Int).toNat).toList = ((rd_T34 x3 x28).f1).toList then (if ((rd_T34 x3 x28).f0) < 1 then (antecedentlaw07_LexCovers.j2 k x0 x3 x6 x28 x27 x28 true) else (antecedentlaw07_LexCovers.j2 k x0 x3 x6 x28 x27 x28 (decide (((rd_T34 x3 x28).f0) > 4)))) else (antecedentlaw07_LexCovers.j2 k x0 x3 x6 x28 x27 x28 true)) else (none)) else (none)) else (none))))) else (none)) else (none)) else (antecedentlaw07_LexCovers.l2 k x0 x6)
def antecedentlaw07_LexCovers.j2 : Nat → ByteArray → List (S34) → Int → Int → Int → Int → Bool → Option (Bool)
  | 0, _, _, _, _, _, _, _ => none
  | k + 1, x0, x3, x6, x7, x27, x28, x105 => if x105 = true then (some false) else (antecedentlaw07_LexCovers.l1 k x0 x3 x7 x6 x27 x28)
def antecedentlaw07_LexCovers.l1 : Nat → ByteArray → List (S34) → Int → Int → Int → Int → Option (Bool)
  | 0, _, _, _, _, _, _ => none
  | k + 1, x0, x3, x7, x8, x27, x28 => if 0 ≤ x7 then (if x7 < (x3.length : Int) then (if x8 < ((rd_T34 x3 x7).f2) then (if 0 ≤ x8 then (if x8 < (x0.size : Int) then (if (bt x0 x8) = 32 then (antecedentlaw07_LexCovers.l1 k x0 x3 x7 (wrap64 (x8 + 1)) x27 x28) else (if (bt x0 x8) = 9 then (antecedentlaw07_LexCovers.l1 k x0 x3 x7 (wrap64 (x8 + 1)) x27 x28) else (if (bt x0 x8) = 10 then (antecedentlaw07_LexCovers.l1 k x0 x3 x7 (wrap64 (x8 + 1)) x27 x28) else (some false)))) else (none)) else (none)) else (antecedentlaw07_LexCovers.l0 k x0 x3 (wrap64 (((rd_T34 x3 x7).f2) + (((rd_T34 x3 x7).f1).size : Int))) x27 (wrap64 (x28 + 1)))) else (none)) else (none)
def antecedentlaw07_LexCovers.l2 : Nat → ByteArray → Int → Option (Bool)
  | 0, _, _ => none
  | k + 1, x0, x9 => if x9 < (x0.size : Int) then (if 0 ≤ x9 then (if (bt x0 x9) = 32 then (antecedentlaw07_LexCovers.l2 k x0 (wrap64 (x9 + 1))) else (if (bt x0 x9) = 9 then (antecedentlaw07_LexCovers.l2 k x0 (wrap64 (x9 + 1))) else (if (bt x0 x9) = 10 then (antecedentlaw07_LexCovers.l2 k x0 (wrap64 (x9 + 1))) else (some false)))) else (none)) else (some true)
end
def antecedentlaw07_LexCovers.f (k : Nat) (a0 : ByteArray) : Option (Bool) := (antecedentlaw07_awake.f).bind fun t207 => (if t207 = true then (antecedentlaw07_LexCovers.j0 k a0 (decide ((a0.size : Int) > 400))) else (antecedentlaw07_LexCovers.j0 k a0 true))
theorem antecedentlaw07_LexCovers.no_j2 : ∀ k y0 y1 y2 y3 y4 y5, ¬ antecedentlaw07_LexCovers.j2 k y0 y1 y2 y3 y4 y5 true = some true
  | 0, _, _, _, _, _, _ => fun h => by simp [antecedentlaw07_LexCovers.j2] at h
  | k + 1, _, _, _, _, _, _ => fun h => by simp [antecedentlaw07_LexCovers.j2] at h
set_option maxHeartbeats 40000000 in
set_option maxRecDepth 100000 in
theorem antecedentlaw07_LexCovers.calls0 (k : Nat) (a0 : ByteArray) (r : Bool) (w : World) (hLW : LaidW w) (h : antecedentlaw07_LexCovers.f k a0 = some r) (hrt : r = true) :
    Calls Tryd.prog 5 #[.string a0] w fun e w' => e = .returned (.bool r) ∧ Below w.heap.size w w' := by
  have HRT := Aside0.mk hrt
  clear hrt
  have HLW := Aside0.mk hLW
  clear hLW
  have HB := Aside0.mk (Below.refl w.heap.size w)
  have H : ((antecedentlaw07_awake.f).bind fun t207 => (if t207 = true then (antecedentlaw07_LexCovers.j0 k a0 (decide ((a0.size : Int) > 400))) else (antecedentlaw07_LexCovers.j0 k a0 true))) = some r := h
  clear h
  have HC2 := Aside0.mk H
  clear H
  go_enter Tryd.func5, Tryd.ntmps5
  go_upto_region 1 with (fail)
  repeat (go_quiet (fail); go_upto_region 1 with (fail))
  go_cut [16] (fun v16 wc => ∃ (kq : Nat) (x16_1 : Bool), v16 = .bool x16_1 ∧ Aside0 (antecedentlaw07_LexCovers.j0 kq a0 x16_1 = some r) ∧ Aside0 (kq ≤ k) ∧ Aside0 (Below w.heap.size w wc))
  case first => as_aux_lemma =>
    have H := HC2.out
    clear HC2
    replace H := Option.bind_eq_some_iff.mp H
    obtain ⟨t207, A30, H⟩ := H
    replace H : (if t207 = true then (antecedentlaw07_LexCovers.j0 k a0 (decide ((a0.size : Int) > 400))) else (antecedentlaw07_LexCovers.j0 k a0 true)) = some r := H
    have A3 := Aside0.mk A30
    clear A30
    by_cases c4 : t207 = true
    · subst c4
      have H1 : (antecedentlaw07_LexCovers.j0 k a0 (decide ((a0.size : Int) > 400))) = some r := by rw [if_pos rfl] at H; exact H
      clear H
      have H := H1
      clear H1
      first
      | exact absurd (H.trans (congrArg some HRT.out)) (antecedentlaw07_LexCovers.no_j2 _ _ _ _ _ _ _)
      | skip
        have H' := Aside0.mk H
        clear H
        go_wp2_with (first | (go_at_call 10; (with_reducible refine (antecedentlaw07_awake.calls  true _ ?side1 A3.out).mono ?_); (case side1 => (first | (refine LaidW.below HLW.out ?_; (repeat (first | (with_reducible first | exact HB.out | apply below_alloc | apply pw_below_drewN | apply below_drew1) | exact HB.out)); done) | (repeat (first | exact HLW.out | apply LaidW.drewN | apply LaidW.drew | apply LaidW.alloc)))); rintro e w5 ⟨rfl, hb⟩; have n0_ := Aside0.mk (below_step (by repeat (first | (with_reducible first | exact HB.out | apply below_alloc | apply pw_below_drewN | apply below_drew1) | exact HB.out)) hb); clear HB; have HB := n0_; clear n0_; (try clear hb); (try clear hb2); (try clear hk); (try clear hi)))
        repeat (go_quiet (first | (go_at_call 10; (with_reducible refine (antecedentlaw07_awake.calls  true _ ?side1 A3.out).mono ?_); (case side1 => (first | (refine LaidW.below HLW.out ?_; (repeat (first | (with_reducible first | exact HB.out | apply below_alloc | apply pw_below_drewN | apply below_drew1) | exact HB.out)); done) | (repeat (first | exact HLW.out | apply LaidW.drewN | apply LaidW.drew | apply LaidW.alloc)))); rintro e w5 ⟨rfl, hb⟩; have n0_ := Aside0.mk (below_step (by repeat (first | (with_reducible first | exact HB.out | apply below_alloc | apply pw_below_drewN | apply below_drew1) | exact HB.out)) hb); clear HB; have HB := n0_; clear n0_; (try clear hb); (try clear hb2); (try clear hk); (try clear hi))); try go_wp2_with (first | (go_at_call 10; (with_reducible refine (antecedentlaw07_awake.calls  true _ ?side1 A3.out).mono ?_); (case side1 => (first | (refine LaidW.below HLW.out ?_; (repeat (first | (with_reducible first | exact HB.out | apply below_alloc | apply pw_below_drewN | apply below_drew1) | exact HB.out)); done) | (repeat (first | exact HLW.out | apply LaidW.drewN | apply LaidW.drew | apply LaidW.alloc)))); rintro e w5 ⟨rfl, hb⟩; have n0_ := Aside0.mk (below_step (by repeat (first | (with_reducible first | exact HB.out | apply below_alloc | apply pw_below_drewN | apply below_drew1) | exact HB.out)) hb); clear HB; have HB := n0_; clear n0_; (try clear hb); (try clear hb2); (try clear hk); (try clear hi))))
        go_meet
        case rel => exact ⟨_, (decide ((a0.size : Int) > 400)), (by first | rfl | (simp; done) | (simp [*]; done)), H', ⟨by first | omega | exact Nat.le_refl _⟩, ⟨by repeat (first | (with_reducible first | exact HB.out | apply below_alloc | apply pw_below_drewN | apply below_drew1) | exact HB.out)⟩⟩
    · replace c4 := Bool.eq_false_iff.mpr c4
      subst c4
      have H1 : (antecedentlaw07_LexCovers.j0 k a0 true) = some r := by rw [if_neg (show ¬ (false = true) by decide)] at H; exact H
      clear H
      have H := H1
      clear H1
      first
      | exact absurd (H.trans (congrArg some HRT.out)) (antecedentlaw07_LexCovers.no_j2 _ _ _ _ _ _ _)
      | skip
        have H' := Aside0.mk H
        clear H
        go_wp2_with (first | (go_at_call 10; (with_reducible refine (antecedentlaw07_awake.calls  false _ ?side1 A3.out).mono ?_); (case side1 => (first | (refine LaidW.below HLW.out ?_; (repeat (first | (with_reducible first | exact HB.out | apply below_alloc | apply pw_below_drewN | apply below_drew1) | exact HB.out)); done) | (repeat (first | exact HLW.out | apply LaidW.drewN | apply LaidW.drew | apply LaidW.alloc)))); rintro e w6 ⟨rfl, hb⟩; have n0_ := Aside0.mk (below_step (by repeat (first | (with_reducible first | exact HB.out | apply below_alloc | apply pw_below_drewN | apply below_drew1) | exact HB.out)) hb); clear HB; have HB := n0_; clear n0_; (try clear hb); (try clear hb2); (try clear hk); (try clear hi)))
        repeat (go_quiet (first | (go_at_call 10; (with_reducible refine (antecedentlaw07_awake.calls  false _ ?side1 A3.out).mono ?_); (case side1 => (first | (refine LaidW.below HLW.out ?_; (repeat (first | (with_reducible first | exact HB.out | apply below_alloc | apply pw_below_drewN | apply below_drew1) | exact HB.out)); done) | (repeat (first | exact HLW.out | apply LaidW.drewN | apply LaidW.drew | apply LaidW.alloc)))); rintro e w6 ⟨rfl, hb⟩; have n0_ := Aside0.mk (below_step (by repeat (first | (with_reducible first | exact HB.out | apply below_alloc | apply pw_below_drewN | apply below_drew1) | exact HB.out)) hb); clear HB; have HB := n0_; clear n0_; (try clear hb); (try clear hb2); (try clear hk); (try clear hi))); try go_wp2_with (first | (go_at_call 10; (with_reducible refine (antecedentlaw07_awake.calls  false _ ?side1 A3.out).mono ?_); (case side1 => (first | (refine LaidW.below HLW.out ?_; (repeat (first | (with_reducible first | exact HB.out | apply below_alloc | apply pw_below_drewN | apply below_drew1) | exact HB.out)); done) | (repeat (first | exact HLW.out | apply LaidW.drewN | apply LaidW.drew | apply LaidW.alloc)))); rintro e w6 ⟨rfl, hb⟩; have n0_ := Aside0.mk (below_step (by repeat (first | (with_reducible first | exact HB.out | apply below_alloc | apply pw_below_drewN | apply below_drew1) | exact HB.out)) hb); clear HB; have HB := n0_; clear n0_; (try clear hb); (try clear hb2); (try clear hk); (try clear hi))))
        go_meet
        case rel => exact ⟨_, (true), (by first | rfl | (simp; done) | (simp [*]; done)), H', ⟨by first | omega | exact Nat.le_refl _⟩, ⟨by repeat (first | (with_reducible first | exact HB.out | apply below_alloc | apply pw_below_drewN | apply below_drew1) | exact HB.out)⟩⟩
  case rest => as_aux_lemma =>
    clear HC2
    try clear p2
    try clear c4
    try clear c5
    obtain ⟨kq, x16_1, rfl, HA, HJ1, HB⟩ := hcut
    cases kq with
    | zero => exact absurd HA.out (by simp [antecedentlaw07_LexCovers.j0])
    | succ kj1 =>
      have H := HA.out
      clear HA
      simp only [antecedentlaw07_LexCovers.j0] at H
      by_cases c7 : x16_1 = true
      · subst c7
        have H1 : ((antecedentlaw07_awake.f).bind fun t208 => (some t208)) = some r := by rw [if_pos rfl] at H; exact H
        clear H
        have H := H1
        clear H1
        replace H := Option.bind_eq_some_iff.mp H
        obtain ⟨t208, A80, H⟩ := H
        replace H : (some t208) = some r := H
        have A8 := Aside0.mk A80
        clear A80
        first
        | exact absurd (Option.some.inj (H.trans (congrArg some HRT.out))) Bool.false_ne_true
        | skip
          obtain rfl := Option.some.inj H
          go_wp2_with (first | (go_at_call 10; (with_reducible refine (antecedentlaw07_awake.calls  t208 _ ?side1 A8.out).mono ?_); (case side1 => (first | (refine LaidW.below HLW.out ?_; (repeat (first | (with_reducible first | exact HB.out | apply below_alloc | apply pw_below_drewN | apply below_drew1) | exact HB.out)); done) | (repeat (first | exact HLW.out | apply LaidW.drewN | apply LaidW.drew | apply LaidW.alloc)))); rintro e w9 ⟨rfl, hb⟩; have n0_ := Aside0.mk (below_step (by repeat (first | (with_reducible first | exact HB.out | apply below_alloc | apply pw_below_drewN | apply below_drew1) | exact HB.out)) hb); clear HB; have HB := n0_; clear n0_; (try clear hb); (try clear hb2); (try clear hk); (try clear hi)))
          repeat (go_quiet (first | (go_at_call 10; (with_reducible refine (antecedentlaw07_awake.calls  t208 _ ?side1 A8.out).mono ?_); (case side1 => (first | (refine LaidW.below HLW.out ?_; (repeat (first | (with_reducible first | exact HB.out | apply below_alloc | apply pw_below_drewN | apply below_drew1) | exact HB.out)); done) | (repeat (first | exact HLW.out | apply LaidW.drewN | apply LaidW.drew | apply LaidW.alloc)))); rintro e w9 ⟨rfl, hb⟩; have n0_ := Aside0.mk (below_step (by repeat (first | (with_reducible first | exact HB.out | apply below_alloc | apply pw_below_drewN | apply below_drew1) | exact HB.out)) hb); clear HB; have HB := n0_; clear n0_; (try clear hb); (try clear hb2); (try clear hk); (try clear hi))); try go_wp2_with (first | (go_at_call 10; (with_reducible refine (antecedentlaw07_awake.calls  t208 _ ?side1 A8.out).mono ?_); (case side1 => (first | (refine LaidW.below HLW.out ?_; (repeat (first | (with_reducible first | exact HB.out | apply below_alloc | apply pw_below_drewN | apply below_drew1) | exact HB.out)); done) | (repeat (first | exact HLW.out | apply LaidW.drewN | apply LaidW.drew | apply LaidW.alloc)))); rintro e w9 ⟨rfl, hb⟩; have n0_ := Aside0.mk (below_step (by repeat (first | (with_reducible first | exact HB.out | apply below_alloc | apply pw_below_drewN | apply below_drew1) | exact HB.out)) hb); clear HB; have HB := n0_; clear n0_; (try clear hb); (try clear hb2); (try clear hk); (try clear hi))))
          go_ret
          exact ⟨by first | rfl | (simp [errW_none, errW_some] <;> rfl) | (simp [*, errW_none, errW_some] <;> rfl), by repeat (first | (with_reducible first | exact HB.out | apply below_alloc | apply pw_below_drewN | apply below_drew1) | exact HB.out)⟩
      · replace c7 := Bool.eq_false_iff.mpr c7
        subst c7
        have H1 : ((lex_Tokens.f a0).bind fun bt209 => (if bt209.2.2 = 0 then (antecedentlaw07_LexCovers.l0 kj1 a0 bt209.1 0 (bt209.1.length : Int) 0) else (some true))) = some r := by rw [if_neg (show ¬ (false = true) by decide)] at H; exact H
        clear H
        have H := H1
        clear H1
        replace H := Option.bind_eq_some_iff.mp H
        obtain ⟨⟨t209, t210, t211⟩, A100, H⟩ := H
        replace H : (if t211 = 0 then (antecedentlaw07_LexCovers.l0 kj1 a0 t209 0 (t209.length : Int) 0) else (some true)) = some r := H
        have A10 := Aside0.mk A100
        clear A100
        by_cases c11 : t211 = 0
        · rw [if_pos c11] at H
          have c11b0 : (t211 == 0) = true := beq_iff_eq.mpr c11
          have c11b1 : (t211 != 0) = false := bne_eq_false_iff_eq.mpr c11
          clear c11
          first
          | exact absurd (H.trans (congrArg some HRT.out)) (antecedentlaw07_LexCovers.no_j2 _ _ _ _ _ _ _)
          | skip
            have H' := Aside0.mk H
            clear H
            go_wp2_with (first | (go_at_call 11; (with_reducible refine (lex_Tokens.calls a0 t209 t210 t211 _ ?side1 A10.out).mono ?_); (case side1 => (first | (refine LaidW.below HLW.out ?_; (repeat (first | (with_reducible first | exact HB.out | apply below_alloc | apply pw_below_drewN | apply below_drew1) | exact HB.out)); done) | (repeat (first | exact HLW.out | apply LaidW.drewN | apply LaidW.drew | apply LaidW.alloc)))); rintro e w12 ⟨v212, rfl, ho0, hb⟩; have n0_ := Aside0.mk (Kd.R_lower ho0 (below_size (by repeat (first | (with_reducible first | exact HB.out | apply below_alloc | apply pw_below_drewN | apply below_drew1) | exact HB.out)))); have n1_ := Aside0.mk (below_step (by repeat (first | (with_reducible first | exact HB.out | apply below_alloc | apply pw_below_drewN | apply below_drew1) | exact HB.out)) hb); clear HB; have HO213 := n0_; have HB := n1_; clear n0_ n1_; (try clear hb); (try clear hb2); (try clear hk); (try clear hi); (try clear ho0); obtain ⟨Ao13, co13, eo13⟩ := Kd.R_slice HO213.out; subst eo13))
            repeat (go_quiet (first | (go_at_call 11; (with_reducible refine (lex_Tokens.calls a0 t209 t210 t211 _ ?side1 A10.out).mono ?_); (case side1 => (first | (refine LaidW.below HLW.out ?_; (repeat (first | (with_reducible first | exact HB.out | apply below_alloc | apply pw_below_drewN | apply below_drew1) | exact HB.out)); done) | (repeat (first | exact HLW.out | apply LaidW.drewN | apply LaidW.drew | apply LaidW.alloc)))); rintro e w12 ⟨v212, rfl, ho0, hb⟩; have n0_ := Aside0.mk (Kd.R_lower ho0 (below_size (by repeat (first | (with_reducible first | exact HB.out | apply below_alloc | apply pw_below_drewN | apply below_drew1) | exact HB.out)))); have n1_ := Aside0.mk (below_step (by repeat (first | (with_reducible first | exact HB.out | apply below_alloc | apply pw_below_drewN | apply below_drew1) | exact HB.out)) hb); clear HB; have HO213 := n0_; have HB := n1_; clear n0_ n1_; (try clear hb); (try clear hb2); (try clear hk); (try clear hi); (try clear ho0); obtain ⟨Ao13, co13, eo13⟩ := Kd.R_slice HO213.out; subst eo13)); try go_wp2_with (first | (go_at_call 11; (with_reducible refine (lex_Tokens.calls a0 t209 t210 t211 _ ?side1 A10.out).mono ?_); (case side1 => (first | (refine LaidW.below HLW.out ?_; (repeat (first | (with_reducible first | exact HB.out | apply below_alloc | apply pw_below_drewN | apply below_drew1) | exact HB.out)); done) | (repeat (first | exact HLW.out | apply LaidW.drewN | apply LaidW.drew | apply LaidW.alloc)))); rintro e w12 ⟨v212, rfl, ho0, hb⟩; have n0_ := Aside0.mk (Kd.R_lower ho0 (below_size (by repeat (first | (with_reducible first | exact HB.out | apply below_alloc | apply pw_below_drewN | apply below_drew1) | exact HB.out)))); have n1_ := Aside0.mk (below_step (by repeat (first | (with_reducible first | exact HB.out | apply below_alloc | apply pw_below_drewN | apply below_drew1) | exact HB.out)) hb); clear HB; have HO213 := n0_; have HB := n1_; clear n0_ n1_; (try clear hb); (try clear hb2); (try clear hk); (try clear hi); (try clear ho0); obtain ⟨Ao13, co13, eo13⟩ := Kd.R_slice HO213.out; subst eo13)))
            go_loopg [6, 28] kj1 (fun kq v6 v28 w' => ∃ (x6_2 : Int) (x28_2 : Int), v6 = .int .i64 x6_2 ∧ v28 = .int .i64 x28_2 ∧ Aside0 (antecedentlaw07_LexCovers.l0 kq a0 t209 x6_2 (t209.length : Int) x28_2 = some r) ∧ Aside0 (kq ≤ kj1) ∧ Aside0 (Kd.R k34 34 w' w.heap.size (fun _ => True) (.slice Ao13 t209.length co13) t209) ∧ Aside0 (Below w.heap.size w w'))
            case atStart => exact ⟨(0), (0), (by first | rfl | (simp; done) | (simp [*]; done)), (by first | rfl | (simp; done) | (simp [*]; done)), H', ⟨Nat.le_refl _⟩, ⟨by (with_reducible repeat (first | apply Kd.R_alloc | apply Kd.R_drewN | apply Kd.R_drew)); exact HO213.out⟩, ⟨by repeat (first | (with_reducible first | exact HB.out | apply below_alloc | apply pw_below_drewN | apply below_drew1) | exact HB.out)⟩⟩
            case round => as_aux_lemma =>
              clear H'
              try clear c1
              try clear p2
              try clear c4
              try clear c5
              try clear c7
              try clear c11
              try clear c11b0
              try clear c11b1
              try clear p2
              obtain ⟨x6_2, x28_2, rfl, rfl, HA, HK2, HO_3, HB⟩ := hrel
              cases gk with
              | zero => exact absurd HA.out (by simp [antecedentlaw07_LexCovers.l0])
              | succ k2 =>
                have H := HA.out
                clear HA
                simp only [antecedentlaw07_LexCovers.l0] at H
                by_cases c14 : x28_2 < (t209.length : Int)
                · rw [if_pos c14] at H
                  have c14b0 : decide (x28_2 < (t209.length : Int)) = true := decide_eq_true c14
                  clear c14
                  have HC15 := Aside0.mk H
                  clear H
                  go_upto_region 10 with (fail)
                  repeat (go_quiet (fail); go_upto_region 10 with (fail))
                  go_cut [105] (fun v105 wc => ∃ (kq : Nat) (x105_14 : Bool), v105 = .bool x105_14 ∧ Aside0 (antecedentlaw07_LexCovers.j2 kq a0 t209 x6_2 x28_2 (t209.length : Int) x28_2 x105_14 = some r) ∧ Aside0 (kq ≤ k2) ∧ Aside0 (Kd.R k34 34 wc w.heap.size (fun _ => True) (.slice Ao13 t209.length co13) t209) ∧ Aside0 (Below w.heap.size w wc))
                  case first => as_aux_lemma =>
                    have H := HC15.out
                    clear HC15
                    by_cases c16 : 0 ≤ x28_2
                    · rw [if_pos c16] at H
                      have c16b0 : decide (0 ≤ x28_2) = true := decide_eq_true c16
                      clear c16
                      (first | rw [c16b0] | (simp only [i64_w, i32_w]; rw [c16b0]) | skip)
                      by_cases c17 : x28_2 < (t209.length : Int)
                      · rw [if_pos c17] at H
                        have c17b0 : decide (x28_2 < (t209.length : Int)) = true := decide_eq_true c17
                        clear c17
                        by_cases c18 : ((rd_T34 t209 x28_2).f2) < x6_2
                        · rw [if_pos c18] at H
                          have c18b0 : decide (((rd_T34 t209 x28_2).f2) < x6_2) = true := decide_eq_true c18
                          clear c18
                          first
                          | exact absurd (H.trans (congrArg some HRT.out)) (antecedentlaw07_LexCovers.no_j2 _ _ _ _ _ _ _)
                          | skip
                            have H' := Aside0.mk H
                            clear H
                            have p214 : 0 ≤ (x28_2 : Int) := of_decide_eq_true (by first | (with_reducible assumption) | assumption)
                            have q214 : x28_2 < (t209.length : Int) := of_decide_eq_true (by first | (with_reducible assumption) | assumption)
                            obtain ⟨ad214, e214, hx214_0, hx214_1, hx214_2⟩ := at_T34 (Kd.R_reads' HO_3.out).2.2 x28_2 p214 q214
                            cases e214
                            replace p214 := eq_true p214
                            replace q214 := eq_true q214
                            go_wp2
                            repeat (go_quiet (fail); try go_wp2)
                            go_meet
                            case rel => exact ⟨_, (true), (by first | rfl | (simp; done) | (simp [*]; done)), H', ⟨by have := HJ1.out; have := HK2.out; first | omega | exact Nat.le_refl _⟩, ⟨by (with_reducible repeat (first | apply Kd.R_alloc | apply Kd.R_drewN | apply Kd.R_drew)); exact HO_3.out⟩, ⟨by repeat (first | (with_reducible first | exact HB.out | apply below_alloc | apply pw_below_drewN | apply below_drew1) | exact HB.out)⟩⟩
                        · rw [if_neg c18] at H
                          have c18b0 : decide (((rd_T34 t209 x28_2).f2) < x6_2) = false := decide_eq_false c18
                          clear c18
                          by_cases c19 : ((rd_T34 t209 x28_2).f1).toList = ([] : List UInt8)
                          · rw [if_pos c19] at H
                            have c19b0 : (((rd_T34 t209 x28_2).f1).toList == ([] : List UInt8)) = true := beq_iff_eq.mpr c19
                            have c19b1 : (((rd_T34 t209 x28_2).f1).toList != ([] : List UInt8)) = false := bne_eq_false_iff_eq.mpr c19
                            clear c19
                            first
                            | exact absurd (H.trans (congrArg some HRT.out)) (antecedentlaw07_LexCovers.no_j2 _ _ _ _ _ _ _)
                            | skip
                              have H' := Aside0.mk H
                              clear H
                              have p214 : 0 ≤ (x28_2 : Int) := of_decide_eq_true (by first | (with_reducible assumption) | assumption)
                              have q214 : x28_2 < (t209.length : Int) := of_decide_eq_true (by first | (with_reducible assumption) | assumption)
                              obtain ⟨ad214, e214, hx214_0, hx214_1, hx214_2⟩ := at_T34 (Kd.R_reads' HO_3.out).2.2 x28_2 p214 q214
                              cases e214
                              replace p214 := eq_true p214
                              replace q214 := eq_true q214
                              have p215 : 0 ≤ (x28_2 : Int) := of_decide_eq_true (by first | (with_reducible assumption) | assumption)
                              have q215 : x28_2 < (t209.length : Int) := of_decide_eq_true (by first | (with_reducible assumption) | assumption)
                              obtain ⟨ad215, e215, hx215_0, hx215_1, hx215_2⟩ := at_T34 (Kd.R_reads' HO_3.out).2.2 x28_2 p215 q215
                              obtain rfl : ad214 = ad215 := (by injection e215)
                              replace p215 := eq_true p215
                              replace q215 := eq_true q215
                              go_wp2
                              repeat (go_quiet (fail); try go_wp2)
                              go_meet
                              case rel => exact ⟨_, (true), (by first | rfl | (simp; done) | (simp [*]; done)), H', ⟨by have := HJ1.out; have := HK2.out; first | omega | exact Nat.le_refl _⟩, ⟨by (with_reducible repeat (first | apply Kd.R_alloc | apply Kd.R_drewN | apply Kd.R_drew)); exact HO_3.out⟩, ⟨by repeat (first | (with_reducible first | exact HB.out | apply below_alloc | apply pw_below_drewN | apply below_drew1) | exact HB.out)⟩⟩
                          · rw [if_neg c19] at H
                            have c19b0 : (((rd_T34 t209 x28_2).f1).toList == ([] : List UInt8)) = false := beq_eq_false_iff_ne.mpr c19
                            have c19b1 : (((rd_T34 t209 x28_2).f1).toList != ([] : List UInt8)) = true := bne_iff_ne.mpr c19
                            by_cases c20 : (wrap64 (((rd_T34 t209 x28_2).f2) + (((rd_T34 t209 x28_2).f1).size : Int))) > (a0.size : Int)
                            · rw [if_pos c20] at H
                              have c20b0 : decide ((a0.size : Int) < (wrap64 (((rd_T34 t209 x28_2).f2) + (((rd_T34 t209 x28_2).f1).size : Int)))) = true := decide_eq_true c20
                              clear c20
                              first
                              | exact absurd (H.trans (congrArg some HRT.out)) (antecedentlaw07_LexCovers.no_j2 _ _ _ _ _ _ _)
                              | skip
                                have H' := Aside0.mk H
                                clear H
                                have p214 : 0 ≤ (x28_2 : Int) := of_decide_eq_true (by first | (with_reducible assumption) | assumption)
                                have q214 : x28_2 < (t209.length : Int) := of_decide_eq_true (by first | (with_reducible assumption) | assumption)
                                obtain ⟨ad214, e214, hx214_0, hx214_1, hx214_2⟩ := at_T34 (Kd.R_reads' HO_3.out).2.2 x28_2 p214 q214
                                cases e214
                                replace p214 := eq_true p214
                                replace q214 := eq_true q214
                                have p215 : 0 ≤ (x28_2 : Int) := of_decide_eq_true (by first | (with_reducible assumption) | assumption)
                                have q215 : x28_2 < (t209.length : Int) := of_decide_eq_true (by first | (with_reducible assumption) | assumption)
                                obtain ⟨ad215, e215, hx215_0, hx215_1, hx215_2⟩ := at_T34 (Kd.R_reads' HO_3.out).2.2 x28_2 p215 q215
                                obtain rfl : ad214 = ad215 := (by injection e215)
                                replace p215 := eq_true p215
                                replace q215 := eq_true q215
                                have p216 : 0 ≤ (x28_2 : Int) := of_decide_eq_true (by first | (with_reducible assumption) | assumption)
                                have q216 : x28_2 < (t209.length : Int) := of_decide_eq_true (by first | (with_reducible assumption) | assumption)
                                obtain ⟨ad216, e216, hx216_0, hx216_1, hx216_2⟩ := at_T34 (Kd.R_reads' HO_3.out).2.2 x28_2 p216 q216
                                obtain rfl : ad214 = ad216 := (by injection e216)
                                replace p216 := eq_true p216
                                replace q216 := eq_true q216
                                have p217 : 0 ≤ (x28_2 : Int) := of_decide_eq_true (by first | (with_reducible assumption) | assumption)
                                have q217 : x28_2 < (t209.length : Int) := of_decide_eq_true (by first | (with_reducible assumption) | assumption)
                                obtain ⟨ad217, e217, hx217_0, hx217_1, hx217_2⟩ := at_T34 (Kd.R_reads' HO_3.out).2.2 x28_2 p217 q217
                                obtain rfl : ad214 = ad217 := (by injection e217)
                                replace p217 := eq_true p217
                                replace q217 := eq_true q217
                                go_wp2
                                repeat (go_quiet (fail); try go_wp2)
                                go_meet
                                case rel => exact ⟨_, (true), (by first | rfl | (simp; done) | (simp [*]; done)), H', ⟨by have := HJ1.out; have := HK2.out; first | omega | exact Nat.le_refl _⟩, ⟨by (with_reducible repeat (first | apply Kd.R_alloc | apply Kd.R_drewN | apply Kd.R_drew)); exact HO_3.out⟩, ⟨by repeat (first | (with_reducible first | exact HB.out | apply below_alloc | apply pw_below_drewN | apply below_drew1) | exact HB.out)⟩⟩
                            · rw [if_neg c20] at H
                              have c20b0 : decide ((a0.size : Int) < (wrap64 (((rd_T34 t209 x28_2).f2) + (((rd_T34 t209 x28_2).f1).size : Int)))) = false := decide_eq_false c20
                              clear c20
                              by_cases c21 : 0 ≤ ((rd_T34 t209 x28_2).f2)
                              · rw [if_pos c21] at H
                                have c21b0 := eq_true c21
                                have c21b1 : decide (0 ≤ ((rd_T34 t209 x28_2).f2)) = true := decide_eq_true c21
                                clear c21
                                by_cases c22 : ((rd_T34 t209 x28_2).f2) ≤ (wrap64 (((rd_T34 t209 x28_2).f2) + (((rd_T34 t209 x28_2).f1).size : Int)))
                                · rw [if_pos c22] at H
                                  have c22b0 := eq_true c22
                                  have c22b1 : decide (((rd_T34 t209 x28_2).f2) ≤ (wrap64 (((rd_T34 t209 x28_2).f2) + (((rd_T34 t209 x28_2).f1).size : Int)))) = true := decide_eq_true c22
                                  by_cases c23 : (wrap64 (((rd_T34 t209 x28_2).f2) + (((rd_T34 t209 x28_2).f1).size : Int))) ≤ (a0.size : Int)
                                  · rw [if_pos c23] at H
                                    have c23b0 := eq_true c23
                                    have c23b1 : decide ((wrap64 (((rd_T34 t209 x28_2).f2) + (((rd_T34 t209 x28_2).f1).size : Int))) ≤ (a0.size : Int)) = true := decide_eq_true c23
                                    by_cases c24 : (a0.extract (((rd_T34 t209 x28_2).f2) : Int).toNat ((wrap64 (((rd_T34 t209 x28_2).f2) + (((rd_T34 t209 x28_2).f1).size : Int))) : Int).toNat).toList = ((rd_T34 t209 x28_2).f1).toList
                                    · rw [if_pos c24] at H
                                      have c24b0 : ((a0.extract (((rd_T34 t209 x28_2).f2) : Int).toNat ((wrap64 (((rd_T34 t209 x28_2).f2) + (((rd_T34 t209 x28_2).f1).size : Int))) : Int).toNat).toList == ((rd_T34 t209 x28_2).f1).toList) = true := beq_iff_eq.mpr c24
                                      have c24b1 : ((a0.extract (((rd_T34 t209 x28_2).f2) : Int).toNat ((wrap64 (((rd_T34 t209 x28_2).f2) + (((rd_T34 t209 x28_2).f1).size : Int))) : Int).toNat).toList != ((rd_T34 t209 x28_2).f1).toList) = false := bne_eq_false_iff_eq.mpr c24
                                      clear c24
                                      by_cases c25 : ((rd_T34 t209 x28_2).f0) < 1
                                      · rw [if_pos c25] at H
                                        have c25b0 : decide (((rd_T34 t209 x28_2).f0) < 1) = true := decide_eq_true c25
                                        clear c25
                                        first
                                        | exact absurd (H.trans (congrArg some HRT.out)) (antecedentlaw07_LexCovers.no_j2 _ _ _ _ _ _ _)
                                        | skip
                                          have H' := Aside0.mk H
                                          clear H
                                          have p214 : 0 ≤ (x28_2 : Int) := of_decide_eq_true (by first | (with_reducible assumption) | assumption)
                                          have q214 : x28_2 < (t209.length : Int) := of_decide_eq_true (by first | (with_reducible assumption) | assumption)
                                          obtain ⟨ad214, e214, hx214_0, hx214_1, hx214_2⟩ := at_T34 (Kd.R_reads' HO_3.out).2.2 x28_2 p214 q214
                                          cases e214
                                          replace p214 := eq_true p214
                                          replace q214 := eq_true q214
                                          have p215 : 0 ≤ (x28_2 : Int) := of_decide_eq_true (by first | (with_reducible assumption) | assumption)
                                          have q215 : x28_2 < (t209.length : Int) := of_decide_eq_true (by first | (with_reducible assumption) | assumption)
                                          obtain ⟨ad215, e215, hx215_0, hx215_1, hx215_2⟩ := at_T34 (Kd.R_reads' HO_3.out).2.2 x28_2 p215 q215
                                          obtain rfl : ad214 = ad215 := (by injection e215)
                                          replace p215 := eq_true p215
                                          replace q215 := eq_true q215
                                          have p216 : 0 ≤ (x28_2 : Int) := of_decide_eq_true (by first | (with_reducible assumption) | assumption)
                                          have q216 : x28_2 < (t209.length : Int) := of_decide_eq_true (by first | (with_reducible assumption) | assumption)
                                          obtain ⟨ad216, e216, hx216_0, hx216_1, hx216_2⟩ := at_T34 (Kd.R_reads' HO_3.out).2.2 x28_2 p216 q216
                                          obtain rfl : ad214 = ad216 := (by injection e216)
                                          replace p216 := eq_true p216
                                          replace q216 := eq_true q216
                                          have p217 : 0 ≤ (x28_2 : Int) := of_decide_eq_true (by first | (with_reducible assumption) | assumption)
                                          have q217 : x28_2 < (t209.length : Int) := of_decide_eq_true (by first | (with_reducible assumption) | assumption)
                                          obtain ⟨ad217, e217, hx217_0, hx217_1, hx217_2⟩ := at_T34 (Kd.R_reads' HO_3.out).2.2 x28_2 p217 q217
                                          obtain rfl : ad214 = ad217 := (by injection e217)
                                          replace p217 := eq_true p217
                                          replace q217 := eq_true q217
                                          have p218 : 0 ≤ (x28_2 : Int) := of_decide_eq_true (by first | (with_reducible assumption) | assumption)
                                          have q218 : x28_2 < (t209.length : Int) := of_decide_eq_true (by first | (with_reducible assumption) | assumption)
                                          obtain ⟨ad218, e218, hx218_0, hx218_1, hx218_2⟩ := at_T34 (Kd.R_reads' HO_3.out).2.2 x28_2 p218 q218
                                          obtain rfl : ad214 = ad218 := (by injection e218)
                                          replace p218 := eq_true p218
                                          replace q218 := eq_true q218
                                          have p219 : 0 ≤ (x28_2 : Int) := of_decide_eq_true (by first | (with_reducible assumption) | assumption)
                                          have q219 : x28_2 < (t209.length : Int) := of_decide_eq_true (by first | (with_reducible assumption) | assumption)
                                          obtain ⟨ad219, e219, hx219_0, hx219_1, hx219_2⟩ := at_T34 (Kd.R_reads' HO_3.out).2.2 x28_2 p219 q219
                                          obtain rfl : ad214 = ad219 := (by injection e219)
                                          replace p219 := eq_true p219
                                          replace q219 := eq_true q219
                                          have p220 : 0 ≤ (x28_2 : Int) := of_decide_eq_true (by first | (with_reducible assumption) | assumption)
                                          have q220 : x28_2 < (t209.length : Int) := of_decide_eq_true (by first | (with_reducible assumption) | assumption)
                                          obtain ⟨ad220, e220, hx220_0, hx220_1, hx220_2⟩ := at_T34 (Kd.R_reads' HO_3.out).2.2 x28_2 p220 q220
                                          obtain rfl : ad214 = ad220 := (by injection e220)
                                          replace p220 := eq_true p220
                                          replace q220 := eq_true q220
                                          have p221 : 0 ≤ (x28_2 : Int) := of_decide_eq_true (by first | (with_reducible assumption) | assumption)
                                          have q221 : x28_2 < (t209.length : Int) := of_decide_eq_true (by first | (with_reducible assumption) | assumption)
                                          obtain ⟨ad221, e221, hx221_0, hx221_1, hx221_2⟩ := at_T34 (Kd.R_reads' HO_3.out).2.2 x28_2 p221 q221
                                          obtain rfl : ad214 = ad221 := (by injection e221)
                                          replace p221 := eq_true p221
                                          replace q221 := eq_true q221
                                          have p222 : 0 ≤ (x28_2 : Int) := of_decide_eq_true (by first | (with_reducible assumption) | assumption)
                                          have q222 : x28_2 < (t209.length : Int) := of_decide_eq_true (by first | (with_reducible assumption) | assumption)
                                          obtain ⟨ad222, e222, hx222_0, hx222_1, hx222_2⟩ := at_T34 (Kd.R_reads' HO_3.out).2.2 x28_2 p222 q222
                                          obtain rfl : ad214 = ad222 := (by injection e222)
                                          replace p222 := eq_true p222
                                          replace q222 := eq_true q222
                                          go_wp2
                                          repeat (go_quiet (fail); try go_wp2)
                                          go_meet
                                          case rel => exact ⟨_, (true), (by first | rfl | (simp; done) | (simp [*]; done)), H', ⟨by have := HJ1.out; have := HK2.out; first | omega | exact Nat.le_refl _⟩, ⟨by (with_reducible repeat (first | apply Kd.R_alloc | apply Kd.R_drewN | apply Kd.R_drew)); exact HO_3.out⟩, ⟨by repeat (first | (with_reducible first | exact HB.out | apply below_alloc | apply pw_below_drewN | apply below_drew1) | exact HB.out)⟩⟩
                                      · rw [if_neg c25] at H
                                        have c25b0 : decide (((rd_T34 t209 x28_2).f0) < 1) = false := decide_eq_false c25
                                        clear c25
                                        first
                                        | exact absurd (H.trans (congrArg some HRT.out)) (antecedentlaw07_LexCovers.no_j2 _ _ _ _ _ _ _)
                                        | skip
                                          have H' := Aside0.mk H
                                          clear H
                                          have p214 : 0 ≤ (x28_2 : Int) := of_decide_eq_true (by first | (with_reducible assumption) | assumption)
                                          have q214 : x28_2 < (t209.length : Int) := of_decide_eq_true (by first | (with_reducible assumption) | assumption)
                                          obtain ⟨ad214, e214, hx214_0, hx214_1, hx214_2⟩ := at_T34 (Kd.R_reads' HO_3.out).2.2 x28_2 p214 q214
                                          cases e214
                                          replace p214 := eq_true p214
                                          replace q214 := eq_true q214
                                          have p215 : 0 ≤ (x28_2 : Int) := of_decide_eq_true (by first | (with_reducible assumption) | assumption)
                                          have q215 : x28_2 < (t209.length : Int) := of_decide_eq_true (by first | (with_reducible assumption) | assumption)
                                          obtain ⟨ad215, e215, hx215_0, hx215_1, hx215_2⟩ := at_T34 (Kd.R_reads' HO_3.out).2.2 x28_2 p215 q215
                                          obtain rfl : ad214 = ad215 := (by injection e215)
                                          replace p215 := eq_true p215
                                          replace q215 := eq_true q215
                                          have p216 : 0 ≤ (x28_2 : Int) := of_decide_eq_true (by first | (with_reducible assumption) | assumption)
                                          have q216 : x28_2 < (t209.length : Int) := of_decide_eq_true (by first | (with_reducible assumption) | assumption)
                                          obtain ⟨ad216, e216, hx216_0, hx216_1, hx216_2⟩ := at_T34 (Kd.R_reads' HO_3.out).2.2 x28_2 p216 q216
                                          obtain rfl : ad214 = ad216 := (by injection e216)
                                          replace p216 := eq_true p216
                                          replace q216 := eq_true q216
                                          have p217 : 0 ≤ (x28_2 : Int) := of_decide_eq_true (by first | (with_reducible assumption) | assumption)
                                          have q217 : x28_2 < (t209.length : Int) := of_decide_eq_true (by first | (with_reducible assumption) | assumption)
                                          obtain ⟨ad217, e217, hx217_0, hx217_1, hx217_2⟩ := at_T34 (Kd.R_reads' HO_3.out).2.2 x28_2 p217 q217
                                          obtain rfl : ad214 = ad217 := (by injection e217)
                                          replace p217 := eq_true p217
                                          replace q217 := eq_true q217
                                          have p218 : 0 ≤ (x28_2 : Int) := of_decide_eq_true (by first | (with_reducible assumption) | assumption)
                                          have q218 : x28_2 < (t209.length : Int) := of_decide_eq_true (by first | (with_reducible assumption) | assumption)
                                          obtain ⟨ad218, e218, hx218_0, hx218_1, hx218_2⟩ := at_T34 (Kd.R_reads' HO_3.out).2.2 x28_2 p218 q218
                                          obtain rfl : ad214 = ad218 := (by injection e218)
                                          replace p218 := eq_true p218
                                          replace q218 := eq_true q218
                                          have p219 : 0 ≤ (x28_2 : Int) := of_decide_eq_true (by first | (with_reducible assumption) | assumption)
                                          have q219 : x28_2 < (t209.length : Int) := of_decide_eq_true (by first | (with_reducible assumption) | assumption)
                                          obtain ⟨ad219, e219, hx219_0, hx219_1, hx219_2⟩ := at_T34 (Kd.R_reads' HO_3.out).2.2 x28_2 p219 q219
                                          obtain rfl : ad214 = ad219 := (by injection e219)
                                          replace p219 := eq_true p219
                                          replace q219 := eq_true q219
                                          have p220 : 0 ≤ (x28_2 : Int) := of_decide_eq_true (by first | (with_reducible assumption) | assumption)
                                          have q220 : x28_2 < (t209.length : Int) := of_decide_eq_true (by first | (with_reducible assumption) | assumption)
                                          obtain ⟨ad220, e220, hx220_0, hx220_1, hx220_2⟩ := at_T34 (Kd.R_reads' HO_3.out).2.2 x28_2 p220 q220
                                          obtain rfl : ad214 = ad220 := (by injection e220)
                                          replace p220 := eq_true p220
                                          replace q220 := eq_true q220
                                          have p221 : 0 ≤ (x28_2 : Int) := of_decide_eq_true (by first | (with_reducible assumption) | assumption)
                                          have q221 : x28_2 < (t209.length : Int) := of_decide_eq_true (by first | (with_reducible assumption) | assumption)
                                          obtain ⟨ad221, e221, hx221_0, hx221_1, hx221_2⟩ := at_T34 (Kd.R_reads' HO_3.out).2.2 x28_2 p221 q221
                                          obtain rfl : ad214 = ad221 := (by injection e221)
                                          replace p221 := eq_true p221
                                          replace q221 := eq_true q221
                                          have p222 : 0 ≤ (x28_2 : Int) := of_decide_eq_true (by first | (with_reducible assumption) | assumption)
                                          have q222 : x28_2 < (t209.length : Int) := of_decide_eq_true (by first | (with_reducible assumption) | assumption)
                                          obtain ⟨ad222, e222, hx222_0, hx222_1, hx222_2⟩ := at_T34 (Kd.R_reads' HO_3.out).2.2 x28_2 p222 q222
                                          obtain rfl : ad214 = ad222 := (by injection e222)
                                          replace p222 := eq_true p222
                                          replace q222 := eq_true q222
                                          have p223 : 0 ≤ (x28_2 : Int) := of_decide_eq_true (by first | (with_reducible assumption) | assumption)
                                          have q223 : x28_2 < (t209.length : Int) := of_decide_eq_true (by first | (with_reducible assumption) | assumption)
                                          obtain ⟨ad223, e223, hx223_0, hx223_1, hx223_2⟩ := at_T34 (Kd.R_reads' HO_3.out).2.2 x28_2 p223 q223
                                          obtain rfl : ad214 = ad223 := (by injection e223)
                                          replace p223 := eq_true p223
                                          replace q223 := eq_true q223
                                          go_wp2
                                          repeat (go_quiet (fail); try go_wp2)
                                          go_meet
                                          case rel => exact ⟨_, (decide (((rd_T34 t209 x28_2).f0) > 4)), (by first | rfl | (simp; done) | (simp [*]; done)), H', ⟨by have := HJ1.out; have := HK2.out; first | omega | exact Nat.le_refl _⟩, ⟨by (with_reducible repeat (first | apply Kd.R_alloc | apply Kd.R_drewN | apply Kd.R_drew)); exact HO_3.out⟩, ⟨by repeat (first | (with_reducible first | exact HB.out | apply below_alloc | apply pw_below_drewN | apply below_drew1) | exact HB.out)⟩⟩
                                    · rw [if_neg c24] at H
                                      have c24b0 : ((a0.extract (((rd_T34 t209 x28_2).f2) : Int).toNat ((wrap64 (((rd_T34 t209 x28_2).f2) + (((rd_T34 t209 x28_2).f1).size : Int))) : Int).toNat).toList == ((rd_T34 t209 x28_2).f1).toList) = false := beq_eq_false_iff_ne.mpr c24
                                      have c24b1 : ((a0.extract (((rd_T34 t209 x28_2).f2) : Int).toNat ((wrap64 (((rd_T34 t209 x28_2).f2) + (((rd_T34 t209 x28_2).f1).size : Int))) : Int).toNat).toList != ((rd_T34 t209 x28_2).f1).toList) = true := bne_iff_ne.mpr c24
                                      first
                                      | exact absurd (H.trans (congrArg some HRT.out)) (antecedentlaw07_LexCovers.no_j2 _ _ _ _ _ _ _)
                                      | skip
                                        have H' := Aside0.mk H
                                        clear H
                                        have p214 : 0 ≤ (x28_2 : Int) := of_decide_eq_true (by first | (with_reducible assumption) | assumption)
                                        have q214 : x28_2 < (t209.length : Int) := of_decide_eq_true (by first | (with_reducible assumption) | assumption)
                                        obtain ⟨ad214, e214, hx214_0, hx214_1, hx214_2⟩ := at_T34 (Kd.R_reads' HO_3.out).2.2 x28_2 p214 q214
                                        cases e214
                                        replace p214 := eq_true p214
                                        replace q214 := eq_true q214
                                        have p215 : 0 ≤ (x28_2 : Int) := of_decide_eq_true (by first | (with_reducible assumption) | assumption)
                                        have q215 : x28_2 < (t209.length : Int) := of_decide_eq_true (by first | (with_reducible assumption) | assumption)
                                        obtain ⟨ad215, e215, hx215_0, hx215_1, hx215_2⟩ := at_T34 (Kd.R_reads' HO_3.out).2.2 x28_2 p215 q215
                                        obtain rfl : ad214 = ad215 := (by injection e215)
                                        replace p215 := eq_true p215
                                        replace q215 := eq_true q215
                                        have p216 : 0 ≤ (x28_2 : Int) := of_decide_eq_true (by first | (with_reducible assumption) | assumption)
                                        have q216 : x28_2 < (t209.length : Int) := of_decide_eq_true (by first | (with_reducible assumption) | assumption)
                                        obtain ⟨ad216, e216, hx216_0, hx216_1, hx216_2⟩ := at_T34 (Kd.R_reads' HO_3.out).2.2 x28_2 p216 q216
                                        obtain rfl : ad214 = ad216 := (by injection e216)
                                        replace p216 := eq_true p216
                                        replace q216 := eq_true q216
                                        have p217 : 0 ≤ (x28_2 : Int) := of_decide_eq_true (by first | (with_reducible assumption) | assumption)
                                        have q217 : x28_2 < (t209.length : Int) := of_decide_eq_true (by first | (with_reducible assumption) | assumption)
                                        obtain ⟨ad217, e217, hx217_0, hx217_1, hx217_2⟩ := at_T34 (Kd.R_reads' HO_3.out).2.2 x28_2 p217 q217
                                        obtain rfl : ad214 = ad217 := (by injection e217)
                                        replace p217 := eq_true p217
                                        replace q217 := eq_true q217
                                        have p218 : 0 ≤ (x28_2 : Int) := of_decide_eq_true (by first | (with_reducible assumption) | assumption)
                                        have q218 : x28_2 < (t209.length : Int) := of_decide_eq_true (by first | (with_reducible assumption) | assumption)
                                        obtain ⟨ad218, e218, hx218_0, hx218_1, hx218_2⟩ := at_T34 (Kd.R_reads' HO_3.out).2.2 x28_2 p218 q218
                                        obtain rfl : ad214 = ad218 := (by injection e218)
                                        replace p218 := eq_true p218
                                        replace q218 := eq_true q218
                                        have p219 : 0 ≤ (x28_2 : Int) := of_decide_eq_true (by first | (with_reducible assumption) | assumption)
                                        have q219 : x28_2 < (t209.length : Int) := of_decide_eq_true (by first | (with_reducible assumption) | assumption)
                                        obtain ⟨ad219, e219, hx219_0, hx219_1, hx219_2⟩ := at_T34 (Kd.R_reads' HO_3.out).2.2 x28_2 p219 q219
                                        obtain rfl : ad214 = ad219 := (by injection e219)
                                        replace p219 := eq_true p219
                                        replace q219 := eq_true q219
                                        have p220 : 0 ≤ (x28_2 : Int) := of_decide_eq_true (by first | (with_reducible assumption) | assumption)
                                        have q220 : x28_2 < (t209.length : Int) := of_decide_eq_true (by first | (with_reducible assumption) | assumption)
                                        obtain ⟨ad220, e220, hx220_0, hx220_1, hx220_2⟩ := at_T34 (Kd.R_reads' HO_3.out).2.2 x28_2 p220 q220
                                        obtain rfl : ad214 = ad220 := (by injection e220)
                                        replace p220 := eq_true p220
                                        replace q220 := eq_true q220
                                        have p221 : 0 ≤ (x28_2 : Int) := of_decide_eq_true (by first | (with_reducible assumption) | assumption)
                                        have q221 : x28_2 < (t209.length : Int) := of_decide_eq_true (by first | (with_reducible assumption) | assumption)
                                        obtain ⟨ad221, e221, hx221_0, hx221_1, hx221_2⟩ := at_T34 (Kd.R_reads' HO_3.out).2.2 x28_2 p221 q221
                                        obtain rfl : ad214 = ad221 := (by injection e221)
                                        replace p221 := eq_true p221
                                        replace q221 := eq_true q221
                                        go_wp2
                                        repeat (go_quiet (fail); try go_wp2)
                                        go_meet
                                        case rel => exact ⟨_, (true), (by first | rfl | (simp; done) | (simp [*]; done)), H', ⟨by have := HJ1.out; have := HK2.out; first | omega | exact Nat.le_refl _⟩, ⟨by (with_reducible repeat (first | apply Kd.R_alloc | apply Kd.R_drewN | apply Kd.R_drew)); exact HO_3.out⟩, ⟨by repeat (first | (with_reducible first | exact HB.out | apply below_alloc | apply pw_below_drewN | apply below_drew1) | exact HB.out)⟩⟩
                                  · rw [if_neg c23] at H
                                    exact absurd H (by simp)
                                · rw [if_neg c22] at H
                                  exact absurd H (by simp)
                              · rw [if_neg c21] at H
                                exact absurd H (by simp)
                      · rw [if_neg c17] at H
                        exact absurd H (by simp)
                    · rw [if_neg c16] at H
                      exact absurd H (by simp)
                  case rest => as_aux_lemma =>
                    clear HC15
                    try clear c1
                    try clear c2
                    try clear p2
                    try clear q2
                    try clear hx2
                    try clear c4
                    try clear c5
                    try clear p6
                    try clear c7
                    try clear c11
                    try clear c11b0
                    try clear c11b1
                    try clear c14
                    try clear c14b0
                    try clear c16
                    try clear c16b0
                    try clear c17
                    try clear c17b0
                    try clear c18
                    try clear c18b0
                    try clear c19
                    try clear c19b0
                    try clear c19b1
                    try clear c20
                    try clear c20b0
                    try clear c21
                    try clear c21b0
                    try clear c21b1
                    try clear p21
                    try clear q21
                    try clear hx21
                    try clear c22
                    try clear c22b0
                    try clear c22b1
                    try clear p22
                    try clear q22
                    try clear hx22
                    try clear c23
                    try clear c23b0
                    try clear c23b1
                    try clear c24
                    try clear c24b0
                    try clear c24b1
                    try clear c25
                    try clear c25b0
                    try clear hx214_0
                    try clear hx214_1
                    try clear hx214_2
                    try clear hx215_0
                    try clear hx215_1
                    try clear hx215_2
                    try clear hx216_0
                    try clear hx216_1
                    try clear hx216_2
                    try clear hx217_0
                    try clear hx217_1
                    try clear hx217_2
                    try clear hx218_0
                    try clear hx218_1
                    try clear hx218_2
                    try clear hx219_0
                    try clear hx219_1
                    try clear hx219_2
                    try clear hx220_0
                    try clear hx220_1
                    try clear hx220_2
                    try clear hx221_0
                    try clear hx221_1
                    try clear hx221_2
                    try clear hx222_0
                    try clear hx222_1
                    try clear hx222_2
                    try clear hx223_0
                    try clear hx223_1
                    try clear hx223_2
                    try clear p2
                    try clear p214
                    try clear p215
                    try clear p216
                    try clear p217
                    try clear p218
                    try clear p219
                    try clear p220
                    try clear p221
                    try clear p222
                    try clear p223
                    try clear q214
                    try clear q215
                    try clear q216
                    try clear q217
                    try clear q218
                    try clear q219
                    try clear q220
                    try clear q221
                    try clear q222
                    try clear q223
                    obtain ⟨kq, x105_14, rfl, HA, HJ14, HO_3, HB⟩ := hcut
                    cases kq with
                    | zero => exact absurd HA.out (by simp [antecedentlaw07_LexCovers.j2])
                    | succ kj14 =>
                      have H := HA.out
                      clear HA
                      simp only [antecedentlaw07_LexCovers.j2] at H
                      by_cases c26 : x105_14 = true
                      · subst c26
                        have H1 : (some false) = some r := by rw [if_pos rfl] at H; exact H
                        clear H
                        have H := H1
                        clear H1
                        first
                        | exact absurd (Option.some.inj (H.trans (congrArg some HRT.out))) Bool.false_ne_true
                        | skip
                          obtain rfl := Option.some.inj H
                          go_wp2
                          repeat (go_quiet (fail); try go_wp2)
                          go_ret
                          exact ⟨by first | rfl | (simp [errW_none, errW_some] <;> rfl) | (simp [*, errW_none, errW_some] <;> rfl), by repeat (first | (with_reducible first | exact HB.out | apply below_alloc | apply pw_below_drewN | apply below_drew1) | exact HB.out)⟩
                      · replace c26 := Bool.eq_false_iff.mpr c26
                        subst c26
                        have H1 : (antecedentlaw07_LexCovers.l1 kj14 a0 t209 x28_2 x6_2 (t209.length : Int) x28_2) = some r := by rw [if_neg (show ¬ (false = true) by decide)] at H; exact H
                        clear H
                        have H := H1
                        clear H1
                        first
                        | exact absurd (H.trans (congrArg some HRT.out)) (antecedentlaw07_LexCovers.no_j2 _ _ _ _ _ _ _)
                        | skip
                          have H' := Aside0.mk H
                          clear H
                          go_wp2
                          repeat (go_quiet (fail); try go_wp2)
                          go_loopg [8] kj14 (fun kq v8 w' => ∃ (x8_4 : Int), v8 = .int .i64 x8_4 ∧ Aside0 (antecedentlaw07_LexCovers.l1 kq a0 t209 x28_2 x8_4 (t209.length : Int) x28_2 = some r) ∧ Aside0 (kq ≤ kj14) ∧ Aside0 (Kd.R k34 34 w' w.heap.size (fun _ => True) (.slice Ao13 t209.length co13) t209) ∧ Aside0 (Below w.heap.size w w'))
                          case atStart => exact ⟨(x6_2), (by first | rfl | (simp; done) | (simp [*]; done)), H', ⟨Nat.le_refl _⟩, ⟨by (with_reducible repeat (first | apply Kd.R_alloc | apply Kd.R_drewN | apply Kd.R_drew)); exact HO_3.out⟩, ⟨by repeat (first | (with_reducible first | exact HB.out | apply below_alloc | apply pw_below_drewN | apply below_drew1) | exact HB.out)⟩⟩
                          case round => as_aux_lemma =>
                            clear H'
                            try clear c1
                            try clear c2
                            try clear p2
                            try clear q2
                            try clear hx2
                            try clear c4
                            try clear c5
                            try clear p6
                            try clear c7
                            try clear c11
                            try clear c11b0
                            try clear c11b1
                            try clear c14
                            try clear c14b0
                            try clear c16
                            try clear c16b0
                            try clear c17
                            try clear c17b0
                            try clear c18
                            try clear c18b0
                            try clear c19
                            try clear c19b0
                            try clear c19b1
                            try clear c20
                            try clear c20b0
                            try clear c21
                            try clear c21b0
                            try clear c21b1
                            try clear p21
                            try clear q21
                            try clear hx21
                            try clear c22
                            try clear c22b0
                            try clear c22b1
                            try clear p22
                            try clear q22
                            try clear hx22
                            try clear c23
                            try clear c23b0
                            try clear c23b1
                            try clear c24
                            try clear c24b0
                            try clear c24b1
                            try clear c25
                            try clear c25b0
                            try clear c26
                            try clear hx214_0
                            try clear hx214_1
                            try clear hx214_2
                            try clear hx215_0
                            try clear hx215_1
                            try clear hx215_2
                            try clear hx216_0
                            try clear hx216_1
                            try clear hx216_2
                            try clear hx217_0
                            try clear hx217_1
                            try clear hx217_2
                            try clear hx218_0
                            try clear hx218_1
                            try clear hx218_2
                            try clear hx219_0
                            try clear hx219_1
                            try clear hx219_2
                            try clear hx220_0
                            try clear hx220_1
                            try clear hx220_2
                            try clear hx221_0
                            try clear hx221_1
                            try clear hx221_2
                            try clear hx222_0
                            try clear hx222_1
                            try clear hx222_2
                            try clear hx223_0
                            try clear hx223_1
                            try clear hx223_2
                            try clear p2
                            try clear p21
                            try clear p214
                            try clear p215
                            try clear p216
                            try clear p217
                            try clear p218
                            try clear p219
                            try clear p22
                            try clear p220
                            try clear p221
                            try clear p222
                            try clear p223
                            try clear p6
                            try clear q2
                            try clear q21
                            try clear q214
                            try clear q215
                            try clear q216
                            try clear q217
                            try clear q218
                            try clear q219
                            try clear q22
                            try clear q220
                            try clear q221
                            try clear q222
                            try clear q223
                            obtain ⟨x8_4, rfl, HA, HK4, HO_3, HB⟩ := hrel
                            cases gk with
                            | zero => exact absurd HA.out (by simp [antecedentlaw07_LexCovers.l1])
                            | succ k4 =>
                              have H := HA.out
                              clear HA
                              simp only [antecedentlaw07_LexCovers.l1] at H
                              by_cases c27 : 0 ≤ x28_2
                              · rw [if_pos c27] at H
                                have c27b0 : decide (0 ≤ x28_2) = true := decide_eq_true c27
                                clear c27
                                by_cases c28 : x28_2 < (t209.length : Int)
                                · rw [if_pos c28] at H
                                  have c28b0 : decide (x28_2 < (t209.length : Int)) = true := decide_eq_true c28
                                  clear c28
                                  by_cases c29 : x8_4 < ((rd_T34 t209 x28_2).f2)
                                  · rw [if_pos c29] at H
                                    have c29b0 : decide (x8_4 < ((rd_T34 t209 x28_2).f2)) = true := decide_eq_true c29
                                    clear c29
                                    by_cases c30 : 0 ≤ x8_4
                                    · rw [if_pos c30] at H
                                      have c30b0 : decide (0 ≤ x8_4) = true := decide_eq_true c30
                                      clear c30
                                      by_cases c31 : x8_4 < (a0.size : Int)
                                      · rw [if_pos c31] at H
                                        have c31b0 : decide (x8_4 < (a0.size : Int)) = true := decide_eq_true c31
                                        clear c31
                                        by_cases c33 : (bt a0 x8_4) = 32
                                        · rw [if_pos c33] at H
                                          have c33b0 : ((bt a0 x8_4) == 32) = true := beq_iff_eq.mpr c33
                                          have c33b1 : ((bt a0 x8_4) != 32) = false := bne_eq_false_iff_eq.mpr c33
                                          clear c33
                                          first
                                          | exact absurd (H.trans (congrArg some HRT.out)) (antecedentlaw07_LexCovers.no_j2 _ _ _ _ _ _ _)
                                          | skip
                                            have H' := Aside0.mk H
                                            clear H
                                            have p224 : 0 ≤ (x28_2 : Int) := of_decide_eq_true (by first | (with_reducible assumption) | assumption)
                                            have q224 : x28_2 < (t209.length : Int) := of_decide_eq_true (by first | (with_reducible assumption) | assumption)
                                            obtain ⟨ad224, e224, hx224_0, hx224_1, hx224_2⟩ := at_T34 (Kd.R_reads' HO_3.out).2.2 x28_2 p224 q224
                                            cases e224
                                            replace p224 := eq_true p224
                                            replace q224 := eq_true q224
                                            have p32 : 0 ≤ (x8_4 : Int) := of_decide_eq_true (by first | (with_reducible assumption) | assumption)
                                            have q32 : x8_4 < (a0.size : Int) := of_decide_eq_true (by first | (with_reducible assumption) | assumption)
                                            have hx32 := bt_at a0 x8_4
                                            replace p32 := eq_true p32
                                            replace q32 := eq_true q32
                                            go_wp2
                                            repeat (go_quiet (fail); try go_wp2)
                                            go_roundg k4
                                            case measure => have := HJ1.out; have := HK2.out; have := HJ14.out; have := HK4.out; omega
                                            case rel => exact ⟨(wrap64 (x8_4 + 1)), (by first | rfl | (simp; done) | (simp [*]; done)), H', ⟨by have := HJ1.out; have := HK2.out; have := HJ14.out; have := HK4.out; omega⟩, ⟨by (with_reducible repeat (first | apply Kd.R_alloc | apply Kd.R_drewN | apply Kd.R_drew)); exact HO_3.out⟩, ⟨by repeat (first | (with_reducible first | exact HB.out | apply below_alloc | apply pw_below_drewN | apply below_drew1) | exact HB.out)⟩⟩
                                        · rw [if_neg c33] at H
                                          have c33b0 : ((bt a0 x8_4) == 32) = false := beq_eq_false_iff_ne.mpr c33
                                          have c33b1 : ((bt a0 x8_4) != 32) = true := bne_iff_ne.mpr c33
                                          by_cases c35 : (bt a0 x8_4) = 9
                                          · rw [if_pos c35] at H
                                            have c35b0 : ((bt a0 x8_4) == 9) = true := beq_iff_eq.mpr c35
                                            have c35b1 : ((bt a0 x8_4) != 9) = false := bne_eq_false_iff_eq.mpr c35
                                            clear c35
                                            first
                                            | exact absurd (H.trans (congrArg some HRT.out)) (antecedentlaw07_LexCovers.no_j2 _ _ _ _ _ _ _)
                                            | skip
                                              have H' := Aside0.mk H
                                              clear H
                                              have p224 : 0 ≤ (x28_2 : Int) := of_decide_eq_true (by first | (with_reducible assumption) | assumption)
                                              have q224 : x28_2 < (t209.length : Int) := of_decide_eq_true (by first | (with_reducible assumption) | assumption)
                                              obtain ⟨ad224, e224, hx224_0, hx224_1, hx224_2⟩ := at_T34 (Kd.R_reads' HO_3.out).2.2 x28_2 p224 q224
                                              cases e224
                                              replace p224 := eq_true p224
                                              replace q224 := eq_true q224
                                              have p32 : 0 ≤ (x8_4 : Int) := of_decide_eq_true (by first | (with_reducible assumption) | assumption)
                                              have q32 : x8_4 < (a0.size : Int) := of_decide_eq_true (by first | (with_reducible assumption) | assumption)
                                              have hx32 := bt_at a0 x8_4
                                              replace p32 := eq_true p32
                                              replace q32 := eq_true q32
                                              have p34 : 0 ≤ (x8_4 : Int) := of_decide_eq_true (by first | (with_reducible assumption) | assumption)
                                              have q34 : x8_4 < (a0.size : Int) := of_decide_eq_true (by first | (with_reducible assumption) | assumption)
                                              have hx34 := bt_at a0 x8_4
                                              replace p34 := eq_true p34
                                              replace q34 := eq_true q34
                                              go_wp2
                                              repeat (go_quiet (fail); try go_wp2)
                                              go_roundg k4
                                              case measure => have := HJ1.out; have := HK2.out; have := HJ14.out; have := HK4.out; omega
                                              case rel => exact ⟨(wrap64 (x8_4 + 1)), (by first | rfl | (simp; done) | (simp [*]; done)), H', ⟨by have := HJ1.out; have := HK2.out; have := HJ14.out; have := HK4.out; omega⟩, ⟨by (with_reducible repeat (first | apply Kd.R_alloc | apply Kd.R_drewN | apply Kd.R_drew)); exact HO_3.out⟩, ⟨by repeat (first | (with_reducible first | exact HB.out | apply below_alloc | apply pw_below_drewN | apply below_drew1) | exact HB.out)⟩⟩
                                          · rw [if_neg c35] at H
                                            have c35b0 : ((bt a0 x8_4) == 9) = false := beq_eq_false_iff_ne.mpr c35
                                            have c35b1 : ((bt a0 x8_4) != 9) = true := bne_iff_ne.mpr c35
                                            by_cases c37 : (bt a0 x8_4) = 10
                                            · rw [if_pos c37] at H
                                              have c37b0 : ((bt a0 x8_4) == 10) = true := beq_iff_eq.mpr c37
                                              have c37b1 : ((bt a0 x8_4) != 10) = false := bne_eq_false_iff_eq.mpr c37
                                              clear c37
                                              first
                                              | exact absurd (H.trans (congrArg some HRT.out)) (antecedentlaw07_LexCovers.no_j2 _ _ _ _ _ _ _)
                                              | skip
                                                have H' := Aside0.mk H
                                                clear H
                                                have p224 : 0 ≤ (x28_2 : Int) := of_decide_eq_true (by first | (with_reducible assumption) | assumption)
                                                have q224 : x28_2 < (t209.length : Int) := of_decide_eq_true (by first | (with_reducible assumption) | assumption)
                                                obtain ⟨ad224, e224, hx224_0, hx224_1, hx224_2⟩ := at_T34 (Kd.R_reads' HO_3.out).2.2 x28_2 p224 q224
                                                cases e224
                                                replace p224 := eq_true p224
                                                replace q224 := eq_true q224
                                                have p32 : 0 ≤ (x8_4 : Int) := of_decide_eq_true (by first | (with_reducible assumption) | assumption)
                                                have q32 : x8_4 < (a0.size : Int) := of_decide_eq_true (by first | (with_reducible assumption) | assumption)
                                                have hx32 := bt_at a0 x8_4
                                                replace p32 := eq_true p32
                                                replace q32 := eq_true q32
                                                have p34 : 0 ≤ (x8_4 : Int) := of_decide_eq_true (by first | (with_reducible assumption) | assumption)
                                                have q34 : x8_4 < (a0.size : Int) := of_decide_eq_true (by first | (with_reducible assumption) | assumption)
                                                have hx34 := bt_at a0 x8_4
                                                replace p34 := eq_true p34
                                                replace q34 := eq_true q34
                                                have p36 : 0 ≤ (x8_4 : Int) := of_decide_eq_true (by first | (with_reducible assumption) | assumption)
                                                have q36 : x8_4 < (a0.size : Int) := of_decide_eq_true (by first | (with_reducible assumption) | assumption)
                                                have hx36 := bt_at a0 x8_4
                                                replace p36 := eq_true p36
                                                replace q36 := eq_true q36
                                                go_wp2
                                                repeat (go_quiet (fail); try go_wp2)
                                                go_roundg k4
                                                case measure => have := HJ1.out; have := HK2.out; have := HJ14.out; have := HK4.out; omega
                                                case rel => exact ⟨(wrap64 (x8_4 + 1)), (by first | rfl | (simp; done) | (simp [*]; done)), H', ⟨by have := HJ1.out; have := HK2.out; have := HJ14.out; have := HK4.out; omega⟩, ⟨by (with_reducible repeat (first | apply Kd.R_alloc | apply Kd.R_drewN | apply Kd.R_drew)); exact HO_3.out⟩, ⟨by repeat (first | (with_reducible first | exact HB.out | apply below_alloc | apply pw_below_drewN | apply below_drew1) | exact HB.out)⟩⟩
                                            · rw [if_neg c37] at H
                                              have c37b0 : ((bt a0 x8_4) == 10) = false := beq_eq_false_iff_ne.mpr c37
                                              have c37b1 : ((bt a0 x8_4) != 10) = true := bne_iff_ne.mpr c37
                                              first
                                              | exact absurd (Option.some.inj (H.trans (congrArg some HRT.out))) Bool.false_ne_true
                                              | skip
                                                obtain rfl := Option.some.inj H
                                                have p224 : 0 ≤ (x28_2 : Int) := of_decide_eq_true (by first | (with_reducible assumption) | assumption)
                                                have q224 : x28_2 < (t209.length : Int) := of_decide_eq_true (by first | (with_reducible assumption) | assumption)
                                                obtain ⟨ad224, e224, hx224_0, hx224_1, hx224_2⟩ := at_T34 (Kd.R_reads' HO_3.out).2.2 x28_2 p224 q224
                                                cases e224
                                                replace p224 := eq_true p224
                                                replace q224 := eq_true q224
                                                have p32 : 0 ≤ (x8_4 : Int) := of_decide_eq_true (by first | (with_reducible assumption) | assumption)
                                                have q32 : x8_4 < (a0.size : Int) := of_decide_eq_true (by first | (with_reducible assumption) | assumption)
                                                have hx32 := bt_at a0 x8_4
                                                replace p32 := eq_true p32
                                                replace q32 := eq_true q32
                                                have p34 : 0 ≤ (x8_4 : Int) := of_decide_eq_true (by first | (with_reducible assumption) | assumption)
                                                have q34 : x8_4 < (a0.size : Int) := of_decide_eq_true (by first | (with_reducible assumption) | assumption)
                                                have hx34 := bt_at a0 x8_4
                                                replace p34 := eq_true p34
                                                replace q34 := eq_true q34
                                                have p36 : 0 ≤ (x8_4 : Int) := of_decide_eq_true (by first | (with_reducible assumption) | assumption)
                                                have q36 : x8_4 < (a0.size : Int) := of_decide_eq_true (by first | (with_reducible assumption) | assumption)
                                                have hx36 := bt_at a0 x8_4
                                                replace p36 := eq_true p36
                                                replace q36 := eq_true q36
                                                go_wp2
                                                repeat (go_quiet (fail); try go_wp2)
                                                go_ret
                                                exact ⟨by first | rfl | (simp [errW_none, errW_some] <;> rfl) | (simp [*, errW_none, errW_some] <;> rfl), by repeat (first | (with_reducible first | exact HB.out | apply below_alloc | apply pw_below_drewN | apply below_drew1) | exact HB.out)⟩
                                      · rw [if_neg c31] at H
                                        exact absurd H (by simp)
                                    · rw [if_neg c30] at H
                                      exact absurd H (by simp)
                                  · rw [if_neg c29] at H
                                    have c29b0 : decide (x8_4 < ((rd_T34 t209 x28_2).f2)) = false := decide_eq_false c29
                                    clear c29
                                    first
                                    | exact absurd (H.trans (congrArg some HRT.out)) (antecedentlaw07_LexCovers.no_j2 _ _ _ _ _ _ _)
                                    | skip
                                      have H' := Aside0.mk H
                                      clear H
                                      have p224 : 0 ≤ (x28_2 : Int) := of_decide_eq_true (by first | (with_reducible assumption) | assumption)
                                      have q224 : x28_2 < (t209.length : Int) := of_decide_eq_true (by first | (with_reducible assumption) | assumption)
                                      obtain ⟨ad224, e224, hx224_0, hx224_1, hx224_2⟩ := at_T34 (Kd.R_reads' HO_3.out).2.2 x28_2 p224 q224
                                      cases e224
                                      replace p224 := eq_true p224
                                      replace q224 := eq_true q224
                                      have p225 : 0 ≤ (x28_2 : Int) := of_decide_eq_true (by first | (with_reducible assumption) | assumption)
                                      have q225 : x28_2 < (t209.length : Int) := of_decide_eq_true (by first | (with_reducible assumption) | assumption)
                                      obtain ⟨ad225, e225, hx225_0, hx225_1, hx225_2⟩ := at_T34 (Kd.R_reads' HO_3.out).2.2 x28_2 p225 q225
                                      obtain rfl : ad224 = ad225 := (by injection e225)
                                      replace p225 := eq_true p225
                                      replace q225 := eq_true q225
                                      have p226 : 0 ≤ (x28_2 : Int) := of_decide_eq_true (by first | (with_reducible assumption) | assumption)
                                      have q226 : x28_2 < (t209.length : Int) := of_decide_eq_true (by first | (with_reducible assumption) | assumption)
                                      obtain ⟨ad226, e226, hx226_0, hx226_1, hx226_2⟩ := at_T34 (Kd.R_reads' HO_3.out).2.2 x28_2 p226 q226
                                      obtain rfl : ad224 = ad226 := (by injection e226)
                                      replace p226 := eq_true p226
                                      replace q226 := eq_true q226
                                      go_wp2
                                      repeat (go_quiet (fail); try go_wp2)
                                      go_roundg k4
                                      case measure => have := HJ1.out; have := HK2.out; have := HJ14.out; have := HK4.out; omega
                                      case rel => exact ⟨(wrap64 (((rd_T34 t209 x28_2).f2) + (((rd_T34 t209 x28_2).f1).size : Int))), (wrap64 (x28_2 + 1)), (by first | rfl | (simp; done) | (simp [*]; done)), (by first | rfl | (simp; done) | (simp [*]; done)), H', ⟨by have := HJ1.out; have := HK2.out; have := HJ14.out; have := HK4.out; omega⟩, ⟨by (with_reducible repeat (first | apply Kd.R_alloc | apply Kd.R_drewN | apply Kd.R_drew)); exact HO_3.out⟩, ⟨by repeat (first | (with_reducible first | exact HB.out | apply below_alloc | apply pw_below_drewN | apply below_drew1) | exact HB.out)⟩⟩
                                · rw [if_neg c28] at H
                                  exact absurd H (by simp)
                              · rw [if_neg c27] at H
                                exact absurd H (by simp)
                · rw [if_neg c14] at H
                  have c14b0 : decide (x28_2 < (t209.length : Int)) = false := decide_eq_false c14
                  clear c14
                  first
                  | exact absurd (H.trans (congrArg some HRT.out)) (antecedentlaw07_LexCovers.no_j2 _ _ _ _ _ _ _)
                  | skip
                    have H' := Aside0.mk H
                    clear H
                    go_wp2
                    repeat (go_quiet (fail); try go_wp2)
                    go_loopg [9] k2 (fun kq v9 w' => ∃ (x9_3 : Int), v9 = .int .i64 x9_3 ∧ Aside0 (antecedentlaw07_LexCovers.l2 kq a0 x9_3 = some r) ∧ Aside0 (kq ≤ k2) ∧ Aside0 (Below w.heap.size w w'))
                    case atStart => exact ⟨(x6_2), (by first | rfl | (simp; done) | (simp [*]; done)), H', ⟨Nat.le_refl _⟩, ⟨by repeat (first | (with_reducible first | exact HB.out | apply below_alloc | apply pw_below_drewN | apply below_drew1) | exact HB.out)⟩⟩
                    case round => as_aux_lemma =>
                      clear H'
                      try clear c1
                      try clear c2
                      try clear p2
                      try clear q2
                      try clear hx2
                      try clear c3
                      try clear p3
                      try clear q3
                      try clear hx3
                      try clear c4
                      try clear c5
                      try clear p6
                      try clear c7
                      try clear c11
                      try clear c11b0
                      try clear c11b1
                      try clear c14
                      try clear c14b0
                      try clear c16
                      try clear c16b0
                      try clear c17
                      try clear c17b0
                      try clear c18
                      try clear c18b0
                      try clear c19
                      try clear c19b0
                      try clear c19b1
                      try clear c20
                      try clear c20b0
                      try clear c21
                      try clear c21b0
                      try clear c21b1
                      try clear p21
                      try clear q21
                      try clear hx21
                      try clear c22
                      try clear c22b0
                      try clear c22b1
                      try clear p22
                      try clear q22
                      try clear hx22
                      try clear c23
                      try clear c23b0
                      try clear c23b1
                      try clear c24
                      try clear c24b0
                      try clear c24b1
                      try clear c25
                      try clear c25b0
                      try clear c26
                      try clear c27
                      try clear c27b0
                      try clear c28
                      try clear c28b0
                      try clear c29
                      try clear c29b0
                      try clear c30
                      try clear c30b0
                      try clear c31
                      try clear c31b0
                      try clear p32
                      try clear q32
                      try clear hx32
                      try clear c33
                      try clear c33b0
                      try clear c33b1
                      try clear p34
                      try clear q34
                      try clear hx34
                      try clear c35
                      try clear c35b0
                      try clear c35b1
                      try clear p36
                      try clear q36
                      try clear hx36
                      try clear c37
                      try clear c37b0
                      try clear c37b1
                      try clear hx214_0
                      try clear hx214_1
                      try clear hx214_2
                      try clear hx215_0
                      try clear hx215_1
                      try clear hx215_2
                      try clear hx216_0
                      try clear hx216_1
                      try clear hx216_2
                      try clear hx217_0
                      try clear hx217_1
                      try clear hx217_2
                      try clear hx218_0
                      try clear hx218_1
                      try clear hx218_2
                      try clear hx219_0
                      try clear hx219_1
                      try clear hx219_2
                      try clear hx220_0
                      try clear hx220_1
                      try clear hx220_2
                      try clear hx221_0
                      try clear hx221_1
                      try clear hx221_2
                      try clear hx222_0
                      try clear hx222_1
                      try clear hx222_2
                      try clear hx223_0
                      try clear hx223_1
                      try clear hx223_2
                      try clear hx224_0
                      try clear hx224_1
                      try clear hx224_2
                      try clear hx225_0
                      try clear hx225_1
                      try clear hx225_2
                      try clear hx226_0
                      try clear hx226_1
                      try clear hx226_2
                      try clear p2
                      try clear p21
                      try clear p214
                      try clear p215
                      try clear p216
                      try clear p217
                      try clear p218
                      try clear p219
                      try clear p22
                      try clear p220
                      try clear p221
                      try clear p222
                      try clear p223
                      try clear p224
                      try clear p225
                      try clear p226
                      try clear p32
                      try clear p34
                      try clear p36
                      try clear p6
                      try clear q2
                      try clear q21
                      try clear q214
                      try clear q215
                      try clear q216
                      try clear q217
                      try clear q218
                      try clear q219
                      try clear q22
                      try clear q220
                      try clear q221
                      try clear q222
                      try clear q223
                      try clear q224
                      try clear q225
                      try clear q226
                      try clear q32
                      try clear q34
                      try clear q36
                      obtain ⟨x9_3, rfl, HA, HK3, HB⟩ := hrel
                      cases gk with
                      | zero => exact absurd HA.out (by simp [antecedentlaw07_LexCovers.l2])
                      | succ k3 =>
                        have H := HA.out
                        clear HA
                        simp only [antecedentlaw07_LexCovers.l2] at H
                        by_cases c38 : x9_3 < (a0.size : Int)
                        · rw [if_pos c38] at H
                          have c38b0 : decide (x9_3 < (a0.size : Int)) = true := decide_eq_true c38
                          clear c38
                          by_cases c39 : 0 ≤ x9_3
                          · rw [if_pos c39] at H
                            have c39b0 : decide (0 ≤ x9_3) = true := decide_eq_true c39
                            clear c39
                            by_cases c41 : (bt a0 x9_3) = 32
                            · rw [if_pos c41] at H
                              have c41b0 : ((bt a0 x9_3) == 32) = true := beq_iff_eq.mpr c41
                              have c41b1 : ((bt a0 x9_3) != 32) = false := bne_eq_false_iff_eq.mpr c41
                              clear c41
                              first
                              | exact absurd (H.trans (congrArg some HRT.out)) (antecedentlaw07_LexCovers.no_j2 _ _ _ _ _ _ _)
                              | skip
                                have H' := Aside0.mk H
                                clear H
                                have p40 : 0 ≤ (x9_3 : Int) := of_decide_eq_true (by first | (with_reducible assumption) | assumption)
                                have q40 : x9_3 < (a0.size : Int) := of_decide_eq_true (by first | (with_reducible assumption) | assumption)
                                have hx40 := bt_at a0 x9_3
                                replace p40 := eq_true p40
                                replace q40 := eq_true q40
                                go_wp2
                                repeat (go_quiet (fail); try go_wp2)
                                go_roundg k3
                                case measure => have := HJ1.out; have := HK2.out; have := HK3.out; omega
                                case rel => exact ⟨(wrap64 (x9_3 + 1)), (by first | rfl | (simp; done) | (simp [*]; done)), H', ⟨by have := HJ1.out; have := HK2.out; have := HK3.out; omega⟩, ⟨by repeat (first | (with_reducible first | exact HB.out | apply below_alloc | apply pw_below_drewN | apply below_drew1) | exact HB.out)⟩⟩
                            · rw [if_neg c41] at H
                              have c41b0 : ((bt a0 x9_3) == 32) = false := beq_eq_false_iff_ne.mpr c41
                              have c41b1 : ((bt a0 x9_3) != 32) = true := bne_iff_ne.mpr c41
                              by_cases c43 : (bt a0 x9_3) = 9
                              · rw [if_pos c43] at H
                                have c43b0 : ((bt a0 x9_3) == 9) = true := beq_iff_eq.mpr c43
                                have c43b1 : ((bt a0 x9_3) != 9) = false := bne_eq_false_iff_eq.mpr c43
                                clear c43
                                first
                                | exact absurd (H.trans (congrArg some HRT.out)) (antecedentlaw07_LexCovers.no_j2 _ _ _ _ _ _ _)
                                | skip
                                  have H' := Aside0.mk H
                                  clear H
                                  have p40 : 0 ≤ (x9_3 : Int) := of_decide_eq_true (by first | (with_reducible assumption) | assumption)
                                  have q40 : x9_3 < (a0.size : Int) := of_decide_eq_true (by first | (with_reducible assumption) | assumption)
                                  have hx40 := bt_at a0 x9_3
                                  replace p40 := eq_true p40
                                  replace q40 := eq_true q40
                                  have p42 : 0 ≤ (x9_3 : Int) := of_decide_eq_true (by first | (with_reducible assumption) | assumption)
                                  have q42 : x9_3 < (a0.size : Int) := of_decide_eq_true (by first | (with_reducible assumption) | assumption)
                                  have hx42 := bt_at a0 x9_3
                                  replace p42 := eq_true p42
                                  replace q42 := eq_true q42
                                  go_wp2
                                  repeat (go_quiet (fail); try go_wp2)
                                  go_roundg k3
                                  case measure => have := HJ1.out; have := HK2.out; have := HK3.out; omega
                                  case rel => exact ⟨(wrap64 (x9_3 + 1)), (by first | rfl | (simp; done) | (simp [*]; done)), H', ⟨by have := HJ1.out; have := HK2.out; have := HK3.out; omega⟩, ⟨by repeat (first | (with_reducible first | exact HB.out | apply below_alloc | apply pw_below_drewN | apply below_drew1) | exact HB.out)⟩⟩
                              · rw [if_neg c43] at H
                                have c43b0 : ((bt a0 x9_3) == 9) = false := beq_eq_false_iff_ne.mpr c43
                                have c43b1 : ((bt a0 x9_3) != 9) = true := bne_iff_ne.mpr c43
                                by_cases c45 : (bt a0 x9_3) = 10
                                · rw [if_pos c45] at H
                                  have c45b0 : ((bt a0 x9_3) == 10) = true := beq_iff_eq.mpr c45
                                  have c45b1 : ((bt a0 x9_3) != 10) = false := bne_eq_false_iff_eq.mpr c45
                                  clear c45
                                  first
                                  | exact absurd (H.trans (congrArg some HRT.out)) (antecedentlaw07_LexCovers.no_j2 _ _ _ _ _ _ _)
                                  | skip
                                    have H' := Aside0.mk H
                                    clear H
                                    have p40 : 0 ≤ (x9_3 : Int) := of_decide_eq_true (by first | (with_reducible assumption) | assumption)
                                    have q40 : x9_3 < (a0.size : Int) := of_decide_eq_true (by first | (with_reducible assumption) | assumption)
                                    have hx40 := bt_at a0 x9_3
                                    replace p40 := eq_true p40
                                    replace q40 := eq_true q40
                                    have p42 : 0 ≤ (x9_3 : Int) := of_decide_eq_true (by first | (with_reducible assumption) | assumption)
                                    have q42 : x9_3 < (a0.size : Int) := of_decide_eq_true (by first | (with_reducible assumption) | assumption)
                                    have hx42 := bt_at a0 x9_3
                                    replace p42 := eq_true p42
                                    replace q42 := eq_true q42
                                    have p44 : 0 ≤ (x9_3 : Int) := of_decide_eq_true (by first | (with_reducible assumption) | assumption)
                                    have q44 : x9_3 < (a0.size : Int) := of_decide_eq_true (by first | (with_reducible assumption) | assumption)
                                    have hx44 := bt_at a0 x9_3
                                    replace p44 := eq_true p44
                                    replace q44 := eq_true q44
                                    go_wp2
                                    repeat (go_quiet (fail); try go_wp2)
                                    go_roundg k3
                                    case measure => have := HJ1.out; have := HK2.out; have := HK3.out; omega
                                    case rel => exact ⟨(wrap64 (x9_3 + 1)), (by first | rfl | (simp; done) | (simp [*]; done)), H', ⟨by have := HJ1.out; have := HK2.out; have := HK3.out; omega⟩, ⟨by repeat (first | (with_reducible first | exact HB.out | apply below_alloc | apply pw_below_drewN | apply below_drew1) | exact HB.out)⟩⟩
                                · rw [if_neg c45] at H
                                  have c45b0 : ((bt a0 x9_3) == 10) = false := beq_eq_false_iff_ne.mpr c45
                                  have c45b1 : ((bt a0 x9_3) != 10) = true := bne_iff_ne.mpr c45
                                  first
                                  | exact absurd (Option.some.inj (H.trans (congrArg some HRT.out))) Bool.false_ne_true
                                  | skip
                                    obtain rfl := Option.some.inj H
                                    have p40 : 0 ≤ (x9_3 : Int) := of_decide_eq_true (by first | (with_reducible assumption) | assumption)
                                    have q40 : x9_3 < (a0.size : Int) := of_decide_eq_true (by first | (with_reducible assumption) | assumption)
                                    have hx40 := bt_at a0 x9_3
                                    replace p40 := eq_true p40
                                    replace q40 := eq_true q40
                                    have p42 : 0 ≤ (x9_3 : Int) := of_decide_eq_true (by first | (with_reducible assumption) | assumption)
                                    have q42 : x9_3 < (a0.size : Int) := of_decide_eq_true (by first | (with_reducible assumption) | assumption)
                                    have hx42 := bt_at a0 x9_3
                                    replace p42 := eq_true p42
                                    replace q42 := eq_true q42
                                    have p44 : 0 ≤ (x9_3 : Int) := of_decide_eq_true (by first | (with_reducible assumption) | assumption)
                                    have q44 : x9_3 < (a0.size : Int) := of_decide_eq_true (by first | (with_reducible assumption) | assumption)
                                    have hx44 := bt_at a0 x9_3
                                    replace p44 := eq_true p44
                                    replace q44 := eq_true q44
                                    go_wp2
                                    repeat (go_quiet (fail); try go_wp2)
                                    go_ret
                                    exact ⟨by first | rfl | (simp [errW_none, errW_some] <;> rfl) | (simp [*, errW_none, errW_some] <;> rfl), by repeat (first | (with_reducible first | exact HB.out | apply below_alloc | apply pw_below_drewN | apply below_drew1) | exact HB.out)⟩
                          · rw [if_neg c39] at H
                            exact absurd H (by simp)
                        · rw [if_neg c38] at H
                          have c38b0 : decide (x9_3 < (a0.size : Int)) = false := decide_eq_false c38
                          clear c38
                          first
                          | exact absurd (Option.some.inj (H.trans (congrArg some HRT.out))) Bool.false_ne_true
                          | skip
                            obtain rfl := Option.some.inj H
                            go_wp2
                            repeat (go_quiet (fail); try go_wp2)
                            go_ret
                            exact ⟨by first | rfl | (simp [errW_none, errW_some] <;> rfl) | (simp [*, errW_none, errW_some] <;> rfl), by repeat (first | (with_reducible first | exact HB.out | apply below_alloc | apply pw_below_drewN | apply below_drew1) | exact HB.out)⟩
        · rw [if_neg c11] at H
          have c11b0 : (t211 == 0) = false := beq_eq_false_iff_ne.mpr c11
          have c11b1 : (t211 != 0) = true := bne_iff_ne.mpr c11
          first
          | exact absurd (Option.some.inj (H.trans (congrArg some HRT.out))) Bool.false_ne_true
          | skip
            obtain rfl := Option.some.inj H
            go_wp2_with (first | (go_at_call 11; (with_reducible refine (lex_Tokens.calls a0 t209 t210 t211 _ ?side1 A10.out).mono ?_); (case side1 => (first | (refine LaidW.below HLW.out ?_; (repeat (first | (with_reducible first | exact HB.out | apply below_alloc | apply pw_below_drewN | apply below_drew1) | exact HB.out)); done) | (repeat (first | exact HLW.out | apply LaidW.drewN | apply LaidW.drew | apply LaidW.alloc)))); rintro e w46 ⟨v212, rfl, ho0, hb⟩; have n0_ := Aside0.mk (Kd.R_lower ho0 (below_size (by repeat (first | (with_reducible first | exact HB.out | apply below_alloc | apply pw_below_drewN | apply below_drew1) | exact HB.out)))); have n1_ := Aside0.mk (below_step (by repeat (first | (with_reducible first | exact HB.out | apply below_alloc | apply pw_below_drewN | apply below_drew1) | exact HB.out)) hb); clear HB; have HO213 := n0_; have HB := n1_; clear n0_ n1_; (try clear hb); (try clear hb2); (try clear hk); (try clear hi); (try clear ho0)))
            repeat (go_quiet (first | (go_at_call 11; (with_reducible refine (lex_Tokens.calls a0 t209 t210 t211 _ ?side1 A10.out).mono ?_); (case side1 => (first | (refine LaidW.below HLW.out ?_; (repeat (first | (with_reducible first | exact HB.out | apply below_alloc | apply pw_below_drewN | apply below_drew1) | exact HB.out)); done) | (repeat (first | exact HLW.out | apply LaidW.drewN | apply LaidW.drew | apply LaidW.alloc)))); rintro e w46 ⟨v212, rfl, ho0, hb⟩; have n0_ := Aside0.mk (Kd.R_lower ho0 (below_size (by repeat (first | (with_reducible first | exact HB.out | apply below_alloc | apply pw_below_drewN | apply below_drew1) | exact HB.out)))); have n1_ := Aside0.mk (below_step (by repeat (first | (with_reducible first | exact HB.out | apply below_alloc | apply pw_below_drewN | apply below_drew1) | exact HB.out)) hb); clear HB; have HO213 := n0_; have HB := n1_; clear n0_ n1_; (try clear hb); (try clear hb2); (try clear hk); (try clear hi); (try clear ho0))); try go_wp2_with (first | (go_at_call 11; (with_reducible refine (lex_Tokens.calls a0 t209 t210 t211 _ ?side1 A10.out).mono ?_); (case side1 => (first | (refine LaidW.below HLW.out ?_; (repeat (first | (with_reducible first | exact HB.out | apply below_alloc | apply pw_below_drewN | apply below_drew1) | exact HB.out)); done) | (repeat (first | exact HLW.out | apply LaidW.drewN | apply LaidW.drew | apply LaidW.alloc)))); rintro e w46 ⟨v212, rfl, ho0, hb⟩; have n0_ := Aside0.mk (Kd.R_lower ho0 (below_size (by repeat (first | (with_reducible first | exact HB.out | apply below_alloc | apply pw_below_drewN | apply below_drew1) | exact HB.out)))); have n1_ := Aside0.mk (below_step (by repeat (first | (with_reducible first | exact HB.out | apply below_alloc | apply pw_below_drewN | apply below_drew1) | exact HB.out)) hb); clear HB; have HO213 := n0_; have HB := n1_; clear n0_ n1_; (try clear hb); (try clear hb2); (try clear hk); (try clear hi); (try clear ho0))))
            go_ret
            exact ⟨by first | rfl | (simp [errW_none, errW_some] <;> rfl) | (simp [*, errW_none, errW_some] <;> rfl), by repeat (first | (with_reducible first | exact HB.out | apply below_alloc | apply pw_below_drewN | apply below_drew1) | exact HB.out)⟩
  
theorem antecedentlaw07_LexCovers.calls (k : Nat) (a0 : ByteArray) (r : Bool) (w : World) (hLW : LaidW w) (h : antecedentlaw07_LexCovers.f k a0 = some true) :
    Calls Tryd.prog 5 #[.string a0] w fun e w' => e = .returned (.bool true) ∧ Below w.heap.size w w' :=
  antecedentlaw07_LexCovers.calls0 k a0 true w hLW h rfl
end Go.Proofs.YthebhbomlllpeaaDoor.X
namespace Go.Proofs.YthebhbomlllpeaaDoor.X
set_option linter.unusedVariables false
set_option linter.unusedSimpArgs false
open Go.RowKit Go.Proofs.YthebhbomlllpeaaDoorW.PrintWords Go.Proofs.YthebhbomlllpeaaDoorW.PrintLast Go.Proofs.YthebhbomlllpeaaDoorW.PrintMore
theorem j0_true_covers (k : Nat) (a : ByteArray) : antecedentlaw07_LexCovers.j0 (k + 1) a true = some true := by
  simp only [antecedentlaw07_LexCovers.j0, if_true, awake_true, Option.bind_some]
theorem bt_blank {s : ByteArray} {a : Nat} (ha : a < s.size) (h : blankB s[a] = true) : bt s (a : Int) = 32 ∨ bt s (a : Int) = 9 ∨ bt s (a : Int) = 10 := by
  rw [bt_nat s a ha]
  rcases blank_is h with h | h | h <;> rw [h]
  · exact .inl rfl
  · exact .inr (.inl rfl)
  · exact .inr (.inr rfl)
theorem wrap_nat1 {i : Nat} (h : i < 9223372036854775807) : wrap64 ((i : Int) + 1) = ((i + 1 : Nat) : Int) := by unfold wrap64; omega
theorem wrap_nat {i j : Nat} (h : i + j ≤ 9223372036854775807) : wrap64 ((i : Int) + (j : Int)) = ((i + j : Nat) : Int) := by unfold wrap64; omega
theorem covers_l2 (s : ByteArray) (hs : s.size ≤ 400) : ∀ (d a k : Nat), s.size - a = d → a ≤ s.size → d < k → (∀ i (h : i < s.size), a ≤ i → blankB s[i] = true) → antecedentlaw07_LexCovers.l2 k s (a : Int) = some true
  | 0, a, k, hd, ha, hk, hb => by
    obtain ⟨k, rfl⟩ : ∃ m, k = m + 1 := ⟨k - 1, by omega⟩
    simp only [antecedentlaw07_LexCovers.l2]
    rw [if_neg (by omega)]
  | d + 1, a, k, hd, ha, hk, hb => by
    obtain ⟨k, rfl⟩ : ∃ m, k = m + 1 := ⟨k - 1, by omega⟩
    have ih := covers_l2 s hs d (a + 1) k (by omega) (by omega) (by omega) (fun i h hi => hb i h (by omega))
    simp only [antecedentlaw07_LexCovers.l2]
    rw [if_pos (by omega), if_pos (by omega), wrap_nat1 (by omega), ih]
    rcases bt_blank (by omega) (hb a (by omega) (Nat.le_refl _)) with h | h | h <;> rw [h] <;> rfl
theorem rd_tok (s : ByteArray) (l : List (Nat × Nat × Nat)) (i : Nat) (h : i < l.length) : rd_T34 (l.map (tokS s)) (i : Int) = tokS s l[i] := by
  unfold rd_T34
  rw [Int.toNat_natCast, List.getD_eq_getElem?_getD, List.getElem?_map, List.getElem?_eq_getElem h]
  rfl
theorem covers_l1 (s : ByteArray) (hs : s.size ≤ 400) (l : List (Nat × Nat × Nat)) (i : Nat) (hi : i < l.length) (hlen : l.length ≤ 400) (hat : l[i].2.1 + l[i].2.2 ≤ s.size) (n : Int) : ∀ (d a k : Nat), l[i].2.1 - a = d → a ≤ l[i].2.1 → d < k → (∀ j (h : j < s.size), a ≤ j → j < l[i].2.1 → blankB s[j] = true) →
    antecedentlaw07_LexCovers.l1 k s (l.map (tokS s)) (i : Int) (a : Int) n (i : Int) = antecedentlaw07_LexCovers.l0 (k - d - 1) s (l.map (tokS s)) ((l[i].2.1 + l[i].2.2 : Nat) : Int) n ((i + 1 : Nat) : Int)
  | 0, a, k, hd, ha, hk, hb => by
    obtain ⟨k, rfl⟩ : ∃ m, k = m + 1 := ⟨k - 1, by omega⟩
    simp only [antecedentlaw07_LexCovers.l1]
    rw [if_pos (by omega), if_pos (by rw [List.length_map]; omega), rd_tok s l i hi]
    have hsz : (tokS s l[i]).f1.size = l[i].2.2 := by simp only [tokS]; rw [ByteArray.size_extract, ByteArray.size_extract]; omega
    rw [hsz]
    have e2 : (tokS s l[i]).f2 = (l[i].2.1 : Int) := rfl
    rw [e2, if_neg (by omega), wrap_nat (by omega), wrap_nat1 (by omega)]
    rfl
  | d + 1, a, k, hd, ha, hk, hb => by
    obtain ⟨k, rfl⟩ : ∃ m, k = m + 1 := ⟨k - 1, by omega⟩
    have ih := covers_l1 s hs l i hi hlen hat n d (a + 1) k (by omega) (by omega) (by omega) (fun j h hj hj2 => hb j h (by omega) hj2)
    simp only [antecedentlaw07_LexCovers.l1]
    rw [if_pos (by omega), if_pos (by rw [List.length_map]; omega), rd_tok s l i hi]
    have e2 : (tokS s l[i]).f2 = (l[i].2.1 : Int) := rfl
    rw [e2, if_pos (by omega), if_pos (by omega), if_pos (by omega), wrap_nat1 (by omega), ih, show k + 1 - (d + 1) - 1 = k - d - 1 by omega]
    rcases bt_blank (by omega) (hb a (by omega) (Nat.le_refl _) (by omega)) with h | h | h <;> rw [h] <;> rfl
theorem covers_l0 (s : ByteArray) (hs : s.size ≤ 400) (l : List (Nat × Nat × Nat)) (hlen : l.length ≤ 400) : ∀ (m pre : List (Nat × Nat × Nat)) (a k : Nat), l = pre ++ m → a ≤ s.size → covT nmL vlL s.data.toList a m → 2 * m.length + (s.size - a) + 3 ≤ k →
    antecedentlaw07_LexCovers.l0 k s (l.map (tokS s)) (a : Int) (l.length : Int) (pre.length : Int) = some true
  | [], pre, a, k, he, ha, hc, hk => by
    obtain ⟨k, rfl⟩ : ∃ m, k = m + 1 := ⟨k - 1, by omega⟩
    simp only [antecedentlaw07_LexCovers.l0]
    rw [List.append_nil] at he
    rw [if_neg (by rw [he]; omega)]
    simp only [List.length_nil] at hk
    exact covers_l2 s hs _ a k rfl ha (by omega) (fun i h hi => by have := hc i (by rw [data_length]; exact h) hi; rwa [getElem_data s i h] at this)
  | x :: m, pre, a, k, he, ha, hc, hk => by
    obtain ⟨k, rfl⟩ : ∃ m, k = m + 2 := ⟨k - 2, by omega⟩
    obtain ⟨h1, h2, h3, h4, h5, h6, h7, h8⟩ := hc
    rw [data_length] at h3
    have hi : pre.length < l.length := by rw [he]; simp
    have hx : l[pre.length] = x := by simp [he]
    simp only [antecedentlaw07_LexCovers.l0]
    rw [if_pos (by omega), if_pos (by omega), if_pos (by rw [List.length_map]; omega), rd_tok s l _ hi, hx]
    have hsz : (tokS s x).f1.size = x.2.2 := by simp only [tokS]; rw [ByteArray.size_extract, ByteArray.size_extract]; omega
    have e2 : (tokS s x).f2 = (x.2.1 : Int) := rfl
    have e0 : (tokS s x).f0 = (x.1 : Int) := rfl
    have e3 : (s.extract x.2.1 (x.2.1 + x.2.2)).toList = (tokS s x).f1.toList := by
      simp only [tokS]
      rw [toList_data, toList_data, extract_list, extract_list, extract_rest, List.drop_zero, List.take_drop]
      try rw [Nat.add_comm]
    rw [e2, hsz, e0, if_neg (by omega), if_neg (by rw [toList_nil]; omega), wrap_nat (by omega), if_neg (by omega), if_pos (by omega), if_pos (by omega), if_pos (by omega), Int.toNat_natCast, Int.toNat_natCast, e3, if_pos rfl, if_neg (by omega)]
    have e4 : decide ((x.1 : Int) > 4) = false := decide_eq_false (by omega)
    rw [e4]
    simp only [antecedentlaw07_LexCovers.j2, Bool.false_eq_true, if_false]
    simp only [List.length_cons] at hk
    have hstep := covers_l1 s hs l pre.length hi hlen (by rw [hx]; omega) (l.length : Int) (x.2.1 - a) a k (by rw [hx]) (by rw [hx]; exact h1) (by omega) (fun j h hj hj2 => by
      rw [hx] at hj2
      have := h7 j (by rw [data_length]; exact h) hj hj2
      rwa [getElem_data s j h] at this)
    rw [hx] at hstep
    rw [hstep]
    have := covers_l0 s hs l hlen m (pre ++ [x]) (x.2.1 + x.2.2) (k - (x.2.1 - a) - 1) (by rw [he]; simp) h3 h8 (by omega)
    rw [List.length_append] at this
    exact this
theorem pureLexCovers (a : ByteArray) (ha : a.size ≤ maxLen) : ∃ k, antecedentlaw07_LexCovers.f k a = some true := by
  refine ⟨2000 + 1, ?_⟩
  unfold antecedentlaw07_LexCovers.f
  rw [awake_true]
  simp only [Option.bind_some, if_true]
  by_cases h1 : (a.size : Int) > 400
  · rw [decide_eq_true h1, j0_true_covers]
  · rw [decide_eq_false h1]
    simp only [antecedentlaw07_LexCovers.j0, Bool.false_eq_true, if_false]
    rw [tok_f a (by omega)]
    simp only [Option.bind_some]
    cases h3 : tokN nmL vlL 0 a.data.toList with
    | error i =>
      rw [res_err h3]
      simp
    | ok l =>
      rw [res_ok h3]
      simp only [if_true, List.length_map]
      have hc := tok_cov nmL vlL a.data.toList _ 0 l (Nat.le_refl _) (by rw [List.drop_zero]; exact h3)
      have hn := tok_count nmL vlL _ a.data.toList 0 l (Nat.le_refl _) h3
      rw [data_length] at hn
      exact covers_l0 a (by omega) l (by omega) l [] 0 2000 rfl (Nat.zero_le _) hc (by omega)
end Go.Proofs.YthebhbomlllpeaaDoor.X
namespace Go.Proofs.YthebhbomlllpeaaDoor.lexCovers
set_option linter.unusedVariables false
set_option linter.unusedSimpArgs false
open Go.ChangeShapes Go.WideShapes Go.ChangeAt Go.RowKit Go.Proofs.YthebhbomlllpeaaDoor.X
open Go.ChangeMaps (open_string shut_string)
set_option maxRecDepth 100000 in
/-- WHAT THE WALK AND THE PURE STATEMENT GIVE, FOR EVERY ARGUMENT. -/
theorem contract (H : Type) (enc : TypeId × Value → H) (W : World) (base : Nat) (args : Array Value) (ds gs : List (DataW H)) (before : List MemPlace)
    (hval : ∀ (j : Nat) t v, Tryd.f5.params[j]? = some t → args[j]? = some v → Value.okWide Tryd.prog W .any base t v)
    (hW : DataW.Whole enc Tryd.prog Tryd.f5.params.toList Rows.lexCoversSpec.vars false W args.toList ds gs before) (hL : laidMetH Tryd.prog Rows.lexCoversRow.laid W) :
    Calls Tryd.prog 5 args W fun e W' => ∃ v, e = .returned v ∧ Rows.lexCoversSpec.post enc Tryd.prog Tryd.f5 false true false false W args v W' := by
  have hW' := hW
  obtain ⟨p, q, hA0, hV, rfl, hfz, hnd⟩ := hW
  have hA : DataW.TrodAll enc Tryd.prog W 0 (fun _ => true) true Tryd.f5.params.toList args.toList ds p := hA0
  rw [Tryd.params5] at hA hval
  obtain ⟨v0, vs0, d0, ds0, p0, q0, hargs, rfl, rfl, h0, r0⟩ := trodAll_cons hA
  obtain ⟨rfl, rfl, rfl⟩ := trodAll_nil r0
  obtain rfl : args = #[v0] := by cases args; simp_all
  obtain ⟨rfl, rfl⟩ := trodVars_none hV
  have lt0 : ∀ x ∈ p0, x.block < W.heap.size := by obtain ⟨m, hm⟩ := h0; exact DataW.trod_lt m _ _ _ hm
  have g0 := h0
  obtain ⟨x0, rfl, rfl, rfl, hb0⟩ := open_string Tryd.underlying9 (hval 0 9 v0 rfl rfl) h0
  clear hA0
  simp only [List.append_nil] at hW'
  obtain ⟨k, hk⟩ := pureLexCovers x0 hb0
  refine (antecedentlaw07_LexCovers.calls k x0 true W (laidW_of hL)  hk).mono ?_
  rintro e W' ⟨rfl, bel⟩
  exact ⟨_, rfl, _, _, _, [], _, [], hW', trodAll_mk1 (shut_bool Tryd.underlying4 _), (trodAll_cons_mk (shut_string Tryd.underlying9 hb0) trodAll_mk0), rfl, bel.frame _, fun h => by cases h⟩
theorem reads (os : Os) {H : Type} (enc : TypeId × Value → H) : ∃ places, DataW.whole enc Tryd.prog ((laidWorld os).forCall (fun _ _ => 0) ⟨#[], #[.string ⟨#[]⟩], []⟩).memory Tryd.f5.params.toList Rows.lexCoversSpec.vars false (#[.string ⟨#[]⟩] : Array Value).toList 8 = some ([.lit (.string [])], [], places) :=
  ⟨[], by kernel_rfl⟩
set_option maxRecDepth 100000 in
theorem lifted (os : Os) (started : os.Started) (H : Type) (enc : TypeId × Value → H) (F : Stop.Interp) :
    ReturnsInHanded {} Tryd.checked os 5 .any ((OpenSpec.ofChange Rows.lexCoversSpec).preRow enc Tryd.prog Tryd.f5 Rows.lexCoversRow.domain false Rows.lexCoversRow.laid) (((OpenSpec.ofChange Rows.lexCoversSpec).at F).post enc Tryd.prog Tryd.f5 false true false false) := by
  obtain ⟨places, hx⟩ := reads os enc
  refine returnsInHanded_of_row (C := Tryd.checked) (s := OpenSpec.ofChange Rows.lexCoversSpec) own started (by kernel_rfl) Tryd.func5
    (witness_row_at (enc := enc) (C := Tryd.checked) false (laidWorld os) #[.string ⟨#[]⟩] rfl (by kernel_rfl) (by kernel_rfl) (by kernel_rfl)
      (OpenSpec.preRow_of_cond 8 hx (by kernel_rfl) (fun k hk => by cases hk) (by kernel_rfl) (laid_met os _))) ?_
  intro W base args ds gs before hval hW _ _ _ hL _ _
  exact contract H enc W base args ds gs before hval hW hL
theorem said : Rows.LexCoversSaid :=
  OpenClaim.holds_of_cond 5 Tryd.f5 rfl rfl rfl rfl rfl rfl rfl ⟨rfl, rfl, rfl, rfl, rfl⟩ rfl rfl rfl rfl rfl (by kernel_rfl) Tryd.func5 (by kernel_rfl)
    (of_decide_eq_true (by kernel_rfl)) (by unfold Func.isWrapper; first | (rw [if_pos (by decide +kernel)]; kernel_rfl) | (rw [if_neg (by decide +kernel)]; exact ⟨rfl, rfl⟩))
    (fun os started H enc _ F => by rw [OpenClaim.pre_eq_preRow]; exact lifted os started H enc F)
theorem plain (f : FuncId) (fn : Func) (hf : Tryd.pinned.checked.prog.funcNamed "antecedent/antecedentlaw07.LexCovers" = some f) (hfn : Tryd.pinned.checked.prog.funcs[f]? = some fn) :
    true = Tryd.pinned.checked.prog.looks [] ∧ ∀ (j : Nat) t, fn.params[j]? = some t → Tryd.pinned.checked.prog.wantsStandIn t = false := by
  obtain rfl : f = 5 := Option.some.inj ((show Tryd.prog.funcNamed "antecedent/antecedentlaw07.LexCovers" = some 5 by kernel_rfl).symm.trans hf) |>.symm
  obtain rfl : fn = Tryd.f5 := (Option.some.inj (Tryd.func5.symm.trans hfn)).symm
  refine ⟨by kernel_rfl, fun j t ht => ?_⟩
  rw [Tryd.params5] at ht
  have hm : t ∈ [9] := by simpa using Array.mem_of_getElem? ht
  have hall : ([9].all fun u => !Tryd.prog.wantsStandIn u) = true := by kernel_rfl
  exact (show Tryd.prog.wantsStandIn t = false by simpa using List.all_eq_true.1 hall t hm)
theorem card : Rows.LexCoversCardSaid :=
  Claim7.holds_tied_plain_at .later [] _ _ _ _ said (fun _ h => by cases h) (by kernel_rfl) (fun _ h => by cases h) lexCovers_row_tie rfl ⟨rfl, rfl⟩ (by kernel_rfl) rfl plain (by kernel_rfl)
end Go.Proofs.YthebhbomlllpeaaDoor.lexCovers
namespace Go.Proofs.YthebhbomlllpeaaDoor
/-- The card, under a short name, for the claim. -/
theorem lexCovers_holds : Rows.LexCoversCardSaid := lexCovers.card
#print axioms lexCovers_holds
end Go.Proofs.YthebhbomlllpeaaDoor
