/-
  ShowJoins: what the proof needs, put together by a program of this session (shake.py), part 5.
-/
import Derived.Test.YthebhbomlllpeaaDoorCards
import Derived.Test.YthebhbomlllpeaaDoorTie
import Derived.Test.YthebhbomlllpeaaDoorProg
import Derived.Below
import Derived.Deep.Draws
import Derived.Deep.AppendLies
import Derived.Maps.AppendAt
import Derived.OwnWalk
import Derived.Laws.BytesArg
import Derived.Laws.MakeOwn
import Derived.Laws.OwnMore
import Derived.Deep.OwnRows
import Derived.Tactics
import Derived.Lib.ConvBytes
import Derived.Laws.Slices
import Derived.WalkKit
import Derived.KernelRfl
import Derived.RowKit3
import Derived.Deep.LoopGhost
import Derived.Deep.QuietTactic
import Derived.BigQuiet
import Derived.WideLaws
import Derived.Deep.DeepCutAuto
import Derived.Deep.CutBlock
import Derived.Deep.RegionHeld3
import Derived.Laws.Rows
import Derived.Lib.AppendStr
import Derived.ArgAppend
import Derived.Laws.IdiomCopy
import Derived.OrdersHeld
import Derived.Laws.BitsLemmas
import Derived.RowKit
import Derived.Lib.SmallJoins
import Derived.Lib.ItoaMem
import Derived.Laws.StructEq
import Derived.Test.YthebhbomlllpeaaDoorRows
import Derived.Deep.Slices
import Derived.Deep.Fields
import Derived.ChangeSame
import Derived.ProofKit
import Derived.OpenShut
import Derived.Deep.DeepHandedRow
import Derived.Lib.LaidTab
import Derived.LaidMore
import Derived.Stop.LaidErr
import Derived.MakeChecks
import Derived.Laws.NewBlocks
import Derived.Shelf.Strings.Builder1
import Derived.Shelf.Strings.Builder2
import Derived.Shelf.Strings.OnBuilder
import Derived.Shelf.Small.Strs
import Derived.Shelf.Small.Wraps
import Derived.Shelf.Strings.BuilderF
import Derived.Shelf.Strings.BuilderK
import Derived.Shelf.Strings.Builder2Cap
import Derived.Shelf.Strconv.Itoa0
import Derived.Shelf.Strconv.Itoa1
import Derived.Shelf.LaysM
import Derived.Shelf.Strconv.Itoa2
import Derived.Shelf.Strconv.Itoa3
import Derived.Shelf.Strconv.Itoa4
import Derived.Shelf.Strconv.ParseIntEmpty
import Derived.Shelf.Strconv.Clone
import Derived.Shelf.Strconv.SyntaxError
import Derived.Shelf.LaysC
import Derived.Shelf.Strconv.ToError
import Derived.Shelf.Strconv.Lower
import Derived.Shelf.Strconv.ParseUint10
import Derived.Shelf.Strconv.ParseUint10Empty
import Derived.Shelf.Strconv.ParseUint10Any
import Derived.Shelf.Strconv.ParseInt10
import Derived.Shelf.Strconv.RangeError
import Derived.Shelf.Strconv.ToErrorRange
import Derived.Shelf.Strconv.ParseUintEmpty
import Derived.Shelf.Strconv.ParseUint10b64
import Derived.Shelf.Strconv.ParseUint10b32
import Derived.Shelf.Strconv.ParseUint10b16
import Derived.Shelf.Strconv.ParseUint10b8
import Derived.Shelf.Strconv.ParseUint10At
import Derived.Shelf.Strconv.ParseInt10At64
import Derived.Shelf.Strconv.ParseInt10At32
import Derived.Shelf.Strconv.ParseInt10At16
import Derived.Shelf.Strconv.ParseInt10At8
import Derived.Shelf.Strconv.ParseInt10All
import Derived.Shelf.Strconv.ParseIntPublic10
import Derived.Shelf.Strconv.ErrVarParseInt
import Derived.Ground.MpProg
import Derived.Shelf.Pu.ParseUintPublic10
import Derived.Shelf.Pu.ErrVarParseUint
import Derived.Shelf.Strings.Search1
import Derived.Shelf.Strings.Prefix
import Derived.Shelf.Bits.Mul64
import Derived.Shelf.Strings.Repeat
import Derived.Shelf.Strings.BuilderCap
import Derived.Lib.AtoiAllMem
import Derived.Lib.ParseIntB
import Derived.Lib.Hide
import Derived.Laws.Strings3
import Derived.Laws.Closers25
import Derived.Laws.Closers25b
import Derived.BigCall
import Derived.BigGuard
import Derived.Laws.RangeAny
import Derived.Laws.RangeString
import Derived.Lib.ParseIntBTie
import Init
import Derived.Recover
import Derived.WalkLawsBesides
import Derived.StillTailTactics
import Derived.Deep.MidRow
import Derived.Deep.DrawnRows
import Derived.Test.YthebhbomlllpeaaDoorZShowJoins4
namespace Go.Proofs.YthebhbomlllpeaaDoor.X
open Go.RowKit Go.Proofs.YthebhbomlllpeaaDoorW.PrintWords Go.Proofs.YthebhbomlllpeaaDoorW.PrintLast Go.Proofs.YthebhbomlllpeaaDoorW.PrintMore
attribute [local go_sem] max2_int min2_int max_two min_two max_three min_three max_four min_four
set_option linter.unusedVariables false
set_option linter.unusedSimpArgs false
mutual
def antecedentlaw09_ShowJoins.j0 : Nat → List (S45) → List (S45) → Bool → Bool → Option (Bool)
  | 0, _, _, _, _ => none
  | k + 1, x0, x1, x2, x27 => if x27 = true then ((antecedentlaw09_awake.f).bind fun t128 => (some t128)) else ((show_Path.f x0).bind fun t129 => ((show_Path.f x1).bind fun t130 => (if x2 = true then (antecedentlaw09_ShowJoins.j1 k x0 x1 t129 t130 4 (⟨#[124]⟩ : ByteArray)) else (antecedentlaw09_ShowJoins.j1 k x0 x1 t129 t130 3 (⟨#[47]⟩ : ByteArray)))))
def antecedentlaw09_ShowJoins.j1 : Nat → List (S45) → List (S45) → ByteArray → ByteArray → Int → ByteArray → Option (Bool)
  | 0, _, _, _, _, _, _ => none
  | k + 1, x0, x1, x7, x8, x9, x10 => (some (([] : List (S45)) : List (S45))).bind fun y131 => (if y131.length + x0.length < 5864062014805 then ((some (y131 ++ x0 : List (S45))).bind fun y134 => (if y134.length + x1.length < 5864062014805 then ((some (y134 ++ x1 : List (S45))).bind fun y137 => (if y137.length < 5864062014805 then ((show_Path.f (y137 ++ [(⟨x9, (⟨#[]⟩ : ByteArray)⟩ : S45)])).bind fun t143 => (if x7.toList = ([] : List UInt8) then (antecedentlaw09_ShowJoins.j2 k x0 x7 x8 x10 t143 true) else (if x8.toList = ([] : List UInt8) then (antecedentlaw09_ShowJoins.j2 k x0 x7 x8 x10 t143 true) else (antecedentlaw09_ShowJoins.j2 k x0 x7 x8 x10 t143 (t143.toList == ([] : List UInt8)))))) else (none))) else (none))) else (none))
def antecedentlaw09_ShowJoins.j2 : Nat → List (S45) → ByteArray → ByteArray → ByteArray → ByteArray → Bool → Option (Bool)
  | 0, _, _, _, _, _, _ => none
  | k + 1, x0, x7, x8, x10, x11, x53 => if x53 = true then ((some (([] : List (S45)) : List (S45))).bind fun y144 => (if y144.length + x0.length < 5864062014805 then ((some (y144 ++ x0 : List (S45))).bind fun y147 => (if y147.length < 5864062014805 then ((show_Path.f (y147 ++ [(⟨3, (⟨#[]⟩ : ByteArray)⟩ : S45)])).bind fun t153 => (if t153.toList = ([] : List UInt8) then (some true) else (some (x7.toList == ([] : List UInt8))))) else (none))) else (none))) else (if 1 + x7.size ≤ 9223372036854775807 then (if 1 + x7.size + 1 ≤ 9223372036854775807 then ((some (([x7, ((⟨#[40]⟩ : ByteArray) ++ x7) ++ (⟨#[41]⟩ : ByteArray)] : List ByteArray) : List ByteArray)).bind fun y154 => (antecedentlaw09_ShowJoins.l0 k x8 x10 x11 y154 (y154.length : Int) 0)) else (none)) else (none))
def antecedentlaw09_ShowJoins.l0 : Nat → ByteArray → ByteArray → ByteArray → List ByteArray → Int → Int → Option (Bool)
  | 0, _, _, _, _, _, _ => none
  | k + 1, x8, x10, x11, x70, x71, x72 => if x72 < x71 then (if 0 ≤ x72 then (if x72 < (x70.length : Int) then (if 1 + x8.size ≤ 9223372036854775807 then (if 1 + x8.size + 1 ≤ 9223372036854775807 then ((some (([x8, ((⟨#[40]⟩ : ByteArray) ++ x8) ++ (⟨#[41]⟩ : ByteArray)] : List ByteArray) : List ByteArray)).bind fun y158 => (antecedentlaw09_ShowJoins.l1 k x8 x10 x11 (rdOf ByteArray.empty x70 x72) x70 x71 x72 y158 (y158.length : Int) 0)) else (none)) else (none)) else (none)) else (none)) else (some false)
def antecedentlaw09_ShowJoins.l1 : Nat → ByteArray → ByteArray → ByteArray → ByteArray → List ByteArray → Int → Int → List ByteArray → Int → Int → Option (Bool)
  | 0, _, _, _, _, _, _, _, _, _, _ => none
  | k + 1, x8, x10, x11, x13, x70, x71, x72, x80, x81, x82 => if x82 < x81 then (if 0 ≤ x82 then (if x82 < (x80.length : Int) then (if x13.size + x10.size ≤ 9223372036854775807 then (if x13.size + x10.size + (rdOf ByteArray.empty x80 x82).size ≤ 9223372036854775807 then (if x11.toList = ((x13 ++ x10) ++ (rdOf ByteArray.empty x80 x82)).toList then (some true) else (antecedentlaw09_ShowJoins.l1 k x8 x10 x11 x13 x70 x71 x72 x80 x81 (wrap64 (x82 + 1)))) else (none)) else (none)) else (none)) else (none)) else (antecedentlaw09_ShowJoins.l0 k x8 x10 x11 x70 x71 (wrap64 (x72 + 1)))
end
def antecedentlaw09_ShowJoins.f (k : Nat) (l0 : List (S45)) (l1 : List (S45)) (a2 : Bool) : Option (Bool) := (antecedentlaw09_awake.f).bind fun t127 => (if t127 = true then (if (l0.length : Int) > 40 then (antecedentlaw09_ShowJoins.j0 k l0 l1 a2 true) else (antecedentlaw09_ShowJoins.j0 k l0 l1 a2 (decide ((l1.length : Int) > 40)))) else (antecedentlaw09_ShowJoins.j0 k l0 l1 a2 true))
set_option maxHeartbeats 8000000 in
set_option maxRecDepth 100000 in
theorem antecedentlaw09_ShowJoins.calls (k : Nat) (A0 : Option Addr) (c0 : Nat) (l0 : List (S45)) (A1 : Option Addr) (c1 : Nat) (l1 : List (S45)) (a2 : Bool) (r : Bool) (w : World) (hLW : LaidW w) (hr0 : Kd.C k45 w A0 l0.length l0) (hc0 : l0.length ≤ c0) (hr1 : Kd.C k45 w A1 l1.length l1) (hc1 : l1.length ≤ c1) (h : antecedentlaw09_ShowJoins.f k l0 l1 a2 = some r) :
    Calls Tryd.prog 9 #[.slice A0 l0.length c0, .slice A1 l1.length c1, .bool a2] w fun e w' => e = .returned (.bool r) ∧ Below w.heap.size w w' := by
  have hu45 := Tryd.underlying45
  have HR0 := Aside0.mk hr0
  have HC0 := Aside0.mk hc0
  clear hr0 hc0
  have HR1 := Aside0.mk hr1
  have HC1 := Aside0.mk hc1
  clear hr1 hc1
  have HLW := Aside0.mk hLW
  clear hLW
  have HB := Aside0.mk (Below.refl w.heap.size w)
  have H : ((antecedentlaw09_awake.f).bind fun t127 => (if t127 = true then (if (l0.length : Int) > 40 then (antecedentlaw09_ShowJoins.j0 k l0 l1 a2 true) else (antecedentlaw09_ShowJoins.j0 k l0 l1 a2 (decide ((l1.length : Int) > 40)))) else (antecedentlaw09_ShowJoins.j0 k l0 l1 a2 true))) = some r := h
  clear h
  have HC4 := Aside0.mk H
  clear H
  go_enter Tryd.func9, Tryd.ntmps9
  go_upto_region 1 with (fail)
  go_cut [27] (fun v27 wc => ∃ (kq : Nat) (x27_3 : Bool), v27 = .bool x27_3 ∧ Aside0 (antecedentlaw09_ShowJoins.j0 kq l0 l1 a2 x27_3 = some r) ∧ Aside0 (kq ≤ k) ∧ Aside0 (Below w.heap.size w wc))
  case first =>
    have H := HC4.out
    clear HC4
    replace H := Option.bind_eq_some_iff.mp H
    obtain ⟨t127, A50, H⟩ := H
    replace H : (if t127 = true then (if (l0.length : Int) > 40 then (antecedentlaw09_ShowJoins.j0 k l0 l1 a2 true) else (antecedentlaw09_ShowJoins.j0 k l0 l1 a2 (decide ((l1.length : Int) > 40)))) else (antecedentlaw09_ShowJoins.j0 k l0 l1 a2 true)) = some r := H
    have A5 := Aside0.mk A50
    clear A50
    by_cases c6 : t127 = true
    · subst c6
      have H1 : (if (l0.length : Int) > 40 then (antecedentlaw09_ShowJoins.j0 k l0 l1 a2 true) else (antecedentlaw09_ShowJoins.j0 k l0 l1 a2 (decide ((l1.length : Int) > 40)))) = some r := by rw [if_pos rfl] at H; exact H
      clear H
      have H := H1
      clear H1
      by_cases c7 : (l0.length : Int) > 40
      · rw [if_pos c7] at H
        have c7b0 : decide (40 < (l0.length : Int)) = true := decide_eq_true c7
        have c7b1 : decide (40 < l0.length) = true := decide_eq_true (by omega)
        clear c7
        (first | rw [c7b0] | (simp only [i64_w, i32_w]; rw [c7b0]) | skip)
        have H' := Aside0.mk H
        clear H
        go_wp2_with (first | ((with_reducible refine gate_callee (f := 22) rfl ?_); refine goesL_ (some 16) rfl rfl Tryd.func22 (by kernel_rfl) rfl #[] rfl (by (try simp only [List.map_toArray, List.map_cons, List.map_nil]); first | done | rfl | (simp only [List.length_drop, List.length_take]; rfl)) ?_; (with_reducible refine (antecedentlaw09_awake.calls  true _ ?side1 A5.out).mono ?_); (case side1 => (first | (refine LaidW.below HLW.out ?_; (repeat (first | (with_reducible first | exact HB.out | apply below_alloc | apply pw_below_drewN | apply below_drew1) | exact HB.out)); done) | (repeat (first | exact HLW.out | apply LaidW.drewN | apply LaidW.drew | apply LaidW.alloc)))); rintro e w8 ⟨rfl, hb⟩; refine ⟨_, rfl, ?_⟩; have n0_ := Aside0.mk (below_step (by repeat (first | (with_reducible first | exact HB.out | apply below_alloc | apply pw_below_drewN | apply below_drew1) | exact HB.out)) hb); clear HB; have HB := n0_; clear n0_; (try clear hb); (try clear hb2); (try clear hk); (try clear hi)))
        go_meet
        case rel => exact ⟨_, (true), (by first | rfl | (simp; done) | (simp [*]; done)), H', ⟨by first | omega | exact Nat.le_refl _⟩, ⟨by repeat (first | (with_reducible first | exact HB.out | apply below_alloc | apply pw_below_drewN | apply below_drew1) | exact HB.out)⟩⟩
      · rw [if_neg c7] at H
        have c7b0 : decide (40 < (l0.length : Int)) = false := decide_eq_false c7
        have c7b1 : decide (40 < l0.length) = false := decide_eq_false (by omega)
        clear c7
        (first | rw [c7b0] | (simp only [i64_w, i32_w]; rw [c7b0]) | skip)
        have H' := Aside0.mk H
        clear H
        go_wp2_with (first | ((with_reducible refine gate_callee (f := 22) rfl ?_); refine goesL_ (some 16) rfl rfl Tryd.func22 (by kernel_rfl) rfl #[] rfl (by (try simp only [List.map_toArray, List.map_cons, List.map_nil]); first | done | rfl | (simp only [List.length_drop, List.length_take]; rfl)) ?_; (with_reducible refine (antecedentlaw09_awake.calls  true _ ?side1 A5.out).mono ?_); (case side1 => (first | (refine LaidW.below HLW.out ?_; (repeat (first | (with_reducible first | exact HB.out | apply below_alloc | apply pw_below_drewN | apply below_drew1) | exact HB.out)); done) | (repeat (first | exact HLW.out | apply LaidW.drewN | apply LaidW.drew | apply LaidW.alloc)))); rintro e w9 ⟨rfl, hb⟩; refine ⟨_, rfl, ?_⟩; have n0_ := Aside0.mk (below_step (by repeat (first | (with_reducible first | exact HB.out | apply below_alloc | apply pw_below_drewN | apply below_drew1) | exact HB.out)) hb); clear HB; have HB := n0_; clear n0_; (try clear hb); (try clear hb2); (try clear hk); (try clear hi)))
        go_meet
        case rel => exact ⟨_, (decide ((l1.length : Int) > 40)), (by first | rfl | (simp; done) | (simp [*]; done)), H', ⟨by first | omega | exact Nat.le_refl _⟩, ⟨by repeat (first | (with_reducible first | exact HB.out | apply below_alloc | apply pw_below_drewN | apply below_drew1) | exact HB.out)⟩⟩
    · replace c6 := Bool.eq_false_iff.mpr c6
      subst c6
      have H1 : (antecedentlaw09_ShowJoins.j0 k l0 l1 a2 true) = some r := by rw [if_neg (show ¬ (false = true) by decide)] at H; exact H
      clear H
      have H := H1
      clear H1
      have H' := Aside0.mk H
      clear H
      go_wp2_with (first | ((with_reducible refine gate_callee (f := 22) rfl ?_); refine goesL_ (some 16) rfl rfl Tryd.func22 (by kernel_rfl) rfl #[] rfl (by (try simp only [List.map_toArray, List.map_cons, List.map_nil]); first | done | rfl | (simp only [List.length_drop, List.length_take]; rfl)) ?_; (with_reducible refine (antecedentlaw09_awake.calls  false _ ?side1 A5.out).mono ?_); (case side1 => (first | (refine LaidW.below HLW.out ?_; (repeat (first | (with_reducible first | exact HB.out | apply below_alloc | apply pw_below_drewN | apply below_drew1) | exact HB.out)); done) | (repeat (first | exact HLW.out | apply LaidW.drewN | apply LaidW.drew | apply LaidW.alloc)))); rintro e w10 ⟨rfl, hb⟩; refine ⟨_, rfl, ?_⟩; have n0_ := Aside0.mk (below_step (by repeat (first | (with_reducible first | exact HB.out | apply below_alloc | apply pw_below_drewN | apply below_drew1) | exact HB.out)) hb); clear HB; have HB := n0_; clear n0_; (try clear hb); (try clear hb2); (try clear hk); (try clear hi)))
      go_meet
      case rel => exact ⟨_, (true), (by first | rfl | (simp; done) | (simp [*]; done)), H', ⟨by first | omega | exact Nat.le_refl _⟩, ⟨by repeat (first | (with_reducible first | exact HB.out | apply below_alloc | apply pw_below_drewN | apply below_drew1) | exact HB.out)⟩⟩
  case rest =>
    clear HC4
    try clear c1
    try clear c2
    try clear p2
    try clear c6
    try clear c7
    try clear c7b0
    try clear c7b1
    try clear c9
    obtain ⟨kq, x27_3, rfl, HA, HJ3, HB⟩ := hcut
    cases kq with
    | zero => exact absurd HA.out (by simp [antecedentlaw09_ShowJoins.j0])
    | succ kj3 =>
      have H := HA.out
      clear HA
      simp only [antecedentlaw09_ShowJoins.j0] at H
      by_cases c11 : x27_3 = true
      · subst c11
        have H1 : ((antecedentlaw09_awake.f).bind fun t128 => (some t128)) = some r := by rw [if_pos rfl] at H; exact H
        clear H
        have H := H1
        clear H1
        replace H := Option.bind_eq_some_iff.mp H
        obtain ⟨t128, A120, H⟩ := H
        replace H : (some t128) = some r := H
        have A12 := Aside0.mk A120
        clear A120
        obtain rfl := Option.some.inj H
        go_wp2_with (first | ((with_reducible refine gate_callee (f := 22) rfl ?_); refine goesL_ (some 28) rfl rfl Tryd.func22 (by kernel_rfl) rfl #[] rfl (by (try simp only [List.map_toArray, List.map_cons, List.map_nil]); first | done | rfl | (simp only [List.length_drop, List.length_take]; rfl)) ?_; (with_reducible refine (antecedentlaw09_awake.calls  t128 _ ?side1 A12.out).mono ?_); (case side1 => (first | (refine LaidW.below HLW.out ?_; (repeat (first | (with_reducible first | exact HB.out | apply below_alloc | apply pw_below_drewN | apply below_drew1) | exact HB.out)); done) | (repeat (first | exact HLW.out | apply LaidW.drewN | apply LaidW.drew | apply LaidW.alloc)))); rintro e w13 ⟨rfl, hb⟩; refine ⟨_, rfl, ?_⟩; have n0_ := Aside0.mk (below_step (by repeat (first | (with_reducible first | exact HB.out | apply below_alloc | apply pw_below_drewN | apply below_drew1) | exact HB.out)) hb); clear HB; have HB := n0_; clear n0_; (try clear hb); (try clear hb2); (try clear hk); (try clear hi)))
        go_ret
        exact ⟨by first | rfl | (simp [errW_none, errW_some] <;> rfl) | (simp [*, errW_none, errW_some] <;> rfl), by repeat (first | (with_reducible first | exact HB.out | apply below_alloc | apply pw_below_drewN | apply below_drew1) | exact HB.out)⟩
      · replace c11 := Bool.eq_false_iff.mpr c11
        subst c11
        have H1 : ((show_Path.f l0).bind fun t129 => ((show_Path.f l1).bind fun t130 => (if a2 = true then (antecedentlaw09_ShowJoins.j1 kj3 l0 l1 t129 t130 4 (⟨#[124]⟩ : ByteArray)) else (antecedentlaw09_ShowJoins.j1 kj3 l0 l1 t129 t130 3 (⟨#[47]⟩ : ByteArray))))) = some r := by rw [if_neg (show ¬ (false = true) by decide)] at H; exact H
        clear H
        have H := H1
        clear H1
        replace H := Option.bind_eq_some_iff.mp H
        obtain ⟨t129, A140, H⟩ := H
        replace H : ((show_Path.f l1).bind fun t130 => (if a2 = true then (antecedentlaw09_ShowJoins.j1 kj3 l0 l1 t129 t130 4 (⟨#[124]⟩ : ByteArray)) else (antecedentlaw09_ShowJoins.j1 kj3 l0 l1 t129 t130 3 (⟨#[47]⟩ : ByteArray)))) = some r := H
        have A14 := Aside0.mk A140
        clear A140
        replace H := Option.bind_eq_some_iff.mp H
        obtain ⟨t130, A150, H⟩ := H
        replace H : (if a2 = true then (antecedentlaw09_ShowJoins.j1 kj3 l0 l1 t129 t130 4 (⟨#[124]⟩ : ByteArray)) else (antecedentlaw09_ShowJoins.j1 kj3 l0 l1 t129 t130 3 (⟨#[47]⟩ : ByteArray))) = some r := H
        have A15 := Aside0.mk A150
        clear A150
        have HC16 := Aside0.mk H
        clear H
        go_upto_if 33 with (first | ((with_reducible refine gate_callee (f := 23) rfl ?_); refine goesL_ (some 30) rfl rfl Tryd.func23 (by kernel_rfl) rfl #[.slice A0 l0.length c0] rfl (by (try simp only [List.map_toArray, List.map_cons, List.map_nil]); first | done | rfl | (simp only [List.length_drop, List.length_take]; rfl)) ?_; (with_reducible refine (show_Path.calls _ _ l0 t129 _ ?side3 ?side1 ?side2 A14.out).mono ?_); (case side1 => repeat (first | exact (Kd.C_below HR0.out HB.out) | (with_reducible refine Kd.C_alloc ?_ _) | (with_reducible refine Kd.C_drewN ?_ _) | (with_reducible refine Kd.C_drew ?_))); (case side2 => exact HC0.out); (case side3 => (first | (refine LaidW.below HLW.out ?_; (repeat (first | (with_reducible first | exact HB.out | apply below_alloc | apply pw_below_drewN | apply below_drew1) | exact HB.out)); done) | (repeat (first | exact HLW.out | apply LaidW.drewN | apply LaidW.drew | apply LaidW.alloc)))); rintro e w17 ⟨rfl, hb⟩; refine ⟨_, rfl, ?_⟩; have n0_ := Aside0.mk (below_step (by repeat (first | (with_reducible first | exact HB.out | apply below_alloc | apply pw_below_drewN | apply below_drew1) | exact HB.out)) hb); clear HB; have HB := n0_; clear n0_; (try clear hb); (try clear hb2); (try clear hk); (try clear hi)) | ((with_reducible refine gate_callee (f := 23) rfl ?_); refine goesL_ (some 32) rfl rfl Tryd.func23 (by kernel_rfl) rfl #[.slice A1 l1.length c1] rfl (by (try simp only [List.map_toArray, List.map_cons, List.map_nil]); first | done | rfl | (simp only [List.length_drop, List.length_take]; rfl)) ?_; (with_reducible refine (show_Path.calls _ _ l1 t130 _ ?side3 ?side1 ?side2 A15.out).mono ?_); (case side1 => repeat (first | exact (Kd.C_below HR1.out HB.out) | (with_reducible refine Kd.C_alloc ?_ _) | (with_reducible refine Kd.C_drewN ?_ _) | (with_reducible refine Kd.C_drew ?_))); (case side2 => exact HC1.out); (case side3 => (first | (refine LaidW.below HLW.out ?_; (repeat (first | (with_reducible first | exact HB.out | apply below_alloc | apply pw_below_drewN | apply below_drew1) | exact HB.out)); done) | (repeat (first | exact HLW.out | apply LaidW.drewN | apply LaidW.drew | apply LaidW.alloc)))); rintro e w18 ⟨rfl, hb⟩; refine ⟨_, rfl, ?_⟩; have n0_ := Aside0.mk (below_step (by repeat (first | (with_reducible first | exact HB.out | apply below_alloc | apply pw_below_drewN | apply below_drew1) | exact HB.out)) hb); clear HB; have HB := n0_; clear n0_; (try clear hb); (try clear hb2); (try clear hk); (try clear hi)))
        (try simp only [Act.put, List.setIfInBounds_toArray, List.set_cons_zero, List.set_cons_succ])
        go_cut [9, 10] (fun v9 v10 wc => ∃ (kq : Nat) (x9_15 : Int) (x10_15 : ByteArray), v9 = .int .i64 x9_15 ∧ v10 = .string x10_15 ∧ Aside0 (antecedentlaw09_ShowJoins.j1 kq l0 l1 t129 t130 x9_15 x10_15 = some r) ∧ Aside0 (kq ≤ kj3) ∧ Aside0 (Below w.heap.size w wc))
        case first =>
          have H := HC16.out
          clear HC16
          by_cases c19 : a2 = true
          · subst c19
            have H1 : (antecedentlaw09_ShowJoins.j1 kj3 l0 l1 t129 t130 4 (⟨#[124]⟩ : ByteArray)) = some r := by rw [if_pos rfl] at H; exact H
            clear H
            have H := H1
            clear H1
            have H' := Aside0.mk H
            clear H
            go_wp2
            go_meet
            case rel => exact ⟨_, (4), ((⟨#[124]⟩ : ByteArray)), (by first | rfl | (simp; done) | (simp [*]; done)), (by first | rfl | (simp; done) | (simp [*]; done)), H', ⟨by have := HJ3.out; first | omega | exact Nat.le_refl _⟩, ⟨by repeat (first | (with_reducible first | exact HB.out | apply below_alloc | apply pw_below_drewN | apply below_drew1) | exact HB.out)⟩⟩
          · replace c19 := Bool.eq_false_iff.mpr c19
            subst c19
            have H1 : (antecedentlaw09_ShowJoins.j1 kj3 l0 l1 t129 t130 3 (⟨#[47]⟩ : ByteArray)) = some r := by rw [if_neg (show ¬ (false = true) by decide)] at H; exact H
            clear H
            have H := H1
            clear H1
            have H' := Aside0.mk H
            clear H
            go_wp2
            go_meet
            case rel => exact ⟨_, (3), ((⟨#[47]⟩ : ByteArray)), (by first | rfl | (simp; done) | (simp [*]; done)), (by first | rfl | (simp; done) | (simp [*]; done)), H', ⟨by have := HJ3.out; first | omega | exact Nat.le_refl _⟩, ⟨by repeat (first | (with_reducible first | exact HB.out | apply below_alloc | apply pw_below_drewN | apply below_drew1) | exact HB.out)⟩⟩
        case rest =>
          clear HC16
          try clear c1
          try clear c2
          try clear p2
          try clear c6
          try clear c7
          try clear c7b0
          try clear c7b1
          try clear c9
          try clear c11
          try clear c19
          try clear p2
          obtain ⟨kq, x9_15, x10_15, rfl, rfl, HA, HJ15, HB⟩ := hcut
          cases kq with
          | zero => exact absurd HA.out (by simp [antecedentlaw09_ShowJoins.j1])
          | succ kj15 =>
            have H := HA.out
            clear HA
            simp only [antecedentlaw09_ShowJoins.j1] at H
            obtain ⟨y131, hy131⟩ : ∃ y_ : List (S45), y_ = (([] : List (S45))) := ⟨_, rfl⟩
            replace H : (if y131.length + l0.length < 5864062014805 then ((some (y131 ++ l0 : List (S45))).bind fun y134 => (if y134.length + l1.length < 5864062014805 then ((some (y134 ++ l1 : List (S45))).bind fun y137 => (if y137.length < 5864062014805 then ((show_Path.f (y137 ++ [(⟨x9_15, (⟨#[]⟩ : ByteArray)⟩ : S45)])).bind fun t143 => (if t129.toList = ([] : List UInt8) then (antecedentlaw09_ShowJoins.j2 kj15 l0 t129 t130 x10_15 t143 true) else (if t130.toList = ([] : List UInt8) then (antecedentlaw09_ShowJoins.j2 kj15 l0 t129 t130 x10_15 t143 true) else (antecedentlaw09_ShowJoins.j2 kj15 l0 t129 t130 x10_15 t143 (t143.toList == ([] : List UInt8)))))) else (none))) else (none))) else (none)) = some r := by first | (rw [hy131]; with_reducible exact H) | (have H2_ := (Option.bind_some _ _).symm.trans H; rw [hy131]; with_reducible exact H2_) | (have H2_ := (Option.bind_some _ _).symm.trans H; with_reducible exact H2_) | with_reducible exact H | (rw [hy131]; exact H) | exact H
            have Ny131 := Aside0.mk hy131
            clear hy131
            by_cases c20 : y131.length + l0.length < 5864062014805
            · rw [if_pos c20] at H
              have LMc20 := Aside0.mk c20
              clear c20
              obtain ⟨y134, hy134⟩ : ∃ y_ : List (S45), y_ = (y131 ++ l0) := ⟨_, rfl⟩
              replace H : (if y134.length + l1.length < 5864062014805 then ((some (y134 ++ l1 : List (S45))).bind fun y137 => (if y137.length < 5864062014805 then ((show_Path.f (y137 ++ [(⟨x9_15, (⟨#[]⟩ : ByteArray)⟩ : S45)])).bind fun t143 => (if t129.toList = ([] : List UInt8) then (antecedentlaw09_ShowJoins.j2 kj15 l0 t129 t130 x10_15 t143 true) else (if t130.toList = ([] : List UInt8) then (antecedentlaw09_ShowJoins.j2 kj15 l0 t129 t130 x10_15 t143 true) else (antecedentlaw09_ShowJoins.j2 kj15 l0 t129 t130 x10_15 t143 (t143.toList == ([] : List UInt8)))))) else (none))) else (none)) = some r := by first | (rw [hy134]; with_reducible exact H) | (have H2_ := (Option.bind_some _ _).symm.trans H; rw [hy134]; with_reducible exact H2_) | (have H2_ := (Option.bind_some _ _).symm.trans H; with_reducible exact H2_) | with_reducible exact H | (rw [hy134]; exact H) | exact H
              have Ny134 := Aside0.mk hy134
              clear hy134
              by_cases c21 : y134.length + l1.length < 5864062014805
              · rw [if_pos c21] at H
                have LMc21 := Aside0.mk c21
                clear c21
                obtain ⟨y137, hy137⟩ : ∃ y_ : List (S45), y_ = (y134 ++ l1) := ⟨_, rfl⟩
                replace H : (if y137.length < 5864062014805 then ((show_Path.f (y137 ++ [(⟨x9_15, (⟨#[]⟩ : ByteArray)⟩ : S45)])).bind fun t143 => (if t129.toList = ([] : List UInt8) then (antecedentlaw09_ShowJoins.j2 kj15 l0 t129 t130 x10_15 t143 true) else (if t130.toList = ([] : List UInt8) then (antecedentlaw09_ShowJoins.j2 kj15 l0 t129 t130 x10_15 t143 true) else (antecedentlaw09_ShowJoins.j2 kj15 l0 t129 t130 x10_15 t143 (t143.toList == ([] : List UInt8)))))) else (none)) = some r := by first | (rw [hy137]; with_reducible exact H) | (have H2_ := (Option.bind_some _ _).symm.trans H; rw [hy137]; with_reducible exact H2_) | (have H2_ := (Option.bind_some _ _).symm.trans H; with_reducible exact H2_) | with_reducible exact H | (rw [hy137]; exact H) | exact H
                have Ny137 := Aside0.mk hy137
                clear hy137
                by_cases c22 : y137.length < 5864062014805
                · rw [if_pos c22] at H
                  have LMc22 := Aside0.mk c22
                  clear c22
                  obtain ⟨y140, hy140⟩ : ∃ y_ : List (S45), y_ = (y137 ++ [(⟨x9_15, (⟨#[]⟩ : ByteArray)⟩ : S45)]) := ⟨_, rfl⟩
                  replace H : ((show_Path.f y140).bind fun t143 => (if t129.toList = ([] : List UInt8) then (antecedentlaw09_ShowJoins.j2 kj15 l0 t129 t130 x10_15 t143 true) else (if t130.toList = ([] : List UInt8) then (antecedentlaw09_ShowJoins.j2 kj15 l0 t129 t130 x10_15 t143 true) else (antecedentlaw09_ShowJoins.j2 kj15 l0 t129 t130 x10_15 t143 (t143.toList == ([] : List UInt8)))))) = some r := by first | (rw [hy140]; with_reducible exact H) | (have H2_ := (Option.bind_some _ _).symm.trans H; rw [hy140]; with_reducible exact H2_) | (have H2_ := (Option.bind_some _ _).symm.trans H; with_reducible exact H2_) | with_reducible exact H | (rw [hy140]; exact H) | exact H
                  have Ny140 := Aside0.mk hy140
                  clear hy140
                  replace H := Option.bind_eq_some_iff.mp H
                  obtain ⟨t143, A230, H⟩ := H
                  replace H : (if t129.toList = ([] : List UInt8) then (antecedentlaw09_ShowJoins.j2 kj15 l0 t129 t130 x10_15 t143 true) else (if t130.toList = ([] : List UInt8) then (antecedentlaw09_ShowJoins.j2 kj15 l0 t129 t130 x10_15 t143 true) else (antecedentlaw09_ShowJoins.j2 kj15 l0 t129 t130 x10_15 t143 (t143.toList == ([] : List UInt8))))) = some r := H
                  have A23 := Aside0.mk A230
                  clear A230
                  have HC24 := Aside0.mk H
                  clear H
                  go_upto_region 8 with (first | ((with_reducible refine gate_dst (N := 34) rfl ?_); (try (refine gate_guard (by rfl) ?_; dsimp only)); refine Kd.R_lit k45 _ 45 ?hg (N := 34) ?hd (xs := ([] : List (S45))) (inner := []) (ok := fun _ => True) (okp := fun _ => True) ?hr ?hp (fun _ hk => hk) trivial (Below.refl _ _) (Nat.le_refl _) (by simp) ?_; (case hd => rfl); (case hg => rfl); (case hr => first | (go_simp; done) | (go_simp; rfl)); (case hp => exact (Reps.none _ _)); intro v132 w25 ho26 hb hg_ hnew_; clear hg_ hnew_; (first | rw [← Ny131.out] at ho26 | (simp only [Int.reduceToNat] at ho26; rw [← Ny131.out] at ho26)); have n0_ := Aside0.mk (Kd.R_lower ho26 (below_size (by repeat (first | (with_reducible first | exact HB.out | apply below_alloc | apply pw_below_drewN | apply below_drew1) | exact HB.out)))); have n1_ := Aside0.mk (below_step (by repeat (first | (with_reducible first | exact HB.out | apply below_alloc | apply pw_below_drewN | apply below_drew1) | exact HB.out)) hb); clear HB; have HO133 := n0_; have HB := n1_; clear n0_ n1_; clear hb ho26) | ((with_reducible refine gate_builtin (b := .append) (xs := #[.tmp 34, .tmp 35]) rfl ?_); (try (refine gate_guard (by rfl) ?_; dsimp only)); at_builtin; refine Kd.R_append_rows k45 (w0 := w) w.heap.size rfl (.tmp 34) (.tmp 35) 42 45 (.agg #[(.int .i64 0), (.string ⟨#[]⟩)]) 24 rfl Tryd.underlying42 info45 rfl (by decide) (by omega) v132 y131 l0 _ _ _ (fun _ => True) (fun _ => False) rfl rfl ?aO ?aR (fun _ _ h => h) (fun _ h => h.elim) ?aF ?aB ?aS ?aL ?_; (case aR => repeat (first | exact (Kd.C_below HR0.out HB.out) | (with_reducible refine Kd.C_alloc ?_ _) | (with_reducible refine Kd.C_drewN ?_ _) | (with_reducible refine Kd.C_drew ?_))); (case aB => exact (by repeat (first | (with_reducible first | exact HB.out | apply below_alloc | apply pw_below_drewN | apply below_drew1) | exact HB.out))); (case aF => exact (fun _ _ => trivial)); (case aO => exact (by (with_reducible repeat (first | apply Kd.R_alloc | apply Kd.R_drewN | apply Kd.R_drew)); exact HO133.out)); (case aS => exact (below_size (by repeat (first | (with_reducible first | exact HB.out | apply below_alloc | apply pw_below_drewN | apply below_drew1) | exact HB.out)))); (case aL => have := LMc20.out; omega); intro v135 w27 ho hb hg hat; rw [← Ny134.out] at ho; have n0_ := Aside0.mk (hb); have n1_ := Aside0.mk (ho); clear HB; clear HO133; have HB := n0_; have HO136 := n1_; clear n0_ n1_; clear ho hb hg hat) | ((with_reducible refine gate_builtin (b := .append) (xs := #[.tmp 36, .tmp 37]) rfl ?_); (try (refine gate_guard (by rfl) ?_; dsimp only)); at_builtin; refine Kd.R_append_rows k45 (w0 := w) w.heap.size rfl (.tmp 36) (.tmp 37) 42 45 (.agg #[(.int .i64 0), (.string ⟨#[]⟩)]) 24 rfl Tryd.underlying42 info45 rfl (by decide) (by omega) v135 y134 l1 _ _ _ (fun _ => True) (fun _ => False) rfl rfl ?aO ?aR (fun _ _ h => h) (fun _ h => h.elim) ?aF ?aB ?aS ?aL ?_; (case aR => repeat (first | exact (Kd.C_below HR1.out HB.out) | (with_reducible refine Kd.C_alloc ?_ _) | (with_reducible refine Kd.C_drewN ?_ _) | (with_reducible refine Kd.C_drew ?_))); (case aB => exact (by repeat (first | (with_reducible first | exact HB.out | apply below_alloc | apply pw_below_drewN | apply below_drew1) | exact HB.out))); (case aF => exact (fun _ _ => trivial)); (case aO => exact (by (with_reducible repeat (first | apply Kd.R_alloc | apply Kd.R_drewN | apply Kd.R_drew)); exact HO136.out)); (case aS => exact (below_size (by repeat (first | (with_reducible first | exact HB.out | apply below_alloc | apply pw_below_drewN | apply below_drew1) | exact HB.out)))); (case aL => have := LMc21.out; omega); intro v138 w28 ho hb hg hat; rw [← Ny137.out] at ho; have n0_ := Aside0.mk (hb); have n1_ := Aside0.mk (ho); clear HB; clear HO136; have HB := n0_; have HO139 := n1_; clear n0_ n1_; clear ho hb hg hat) | ((with_reducible refine gate_builtin (b := .append) (xs := #[.tmp 38, .tmp 41]) rfl ?_); (try (refine gate_guard (by rfl) ?_; dsimp only)); at_builtin; refine Kd.R_append k45 (w0 := w) w.heap.size rfl (.tmp 38) (.tmp 41) 42 45 (.agg #[(.int .i64 0), (.string ⟨#[]⟩)]) 24 rfl Tryd.underlying42 info45 rfl (by decide) (by omega) v138 y137 (⟨x9_15, (⟨#[]⟩ : ByteArray)⟩ : S45) [.int .i64 x9_15, .string (⟨#[]⟩ : ByteArray)] (fun _ => True) (fun _ => False) rfl rfl ?aP (fun _ hk => hk.elim) ?aF ?aO ?aB ?aS ?aL ?_; (case aP => exact k45_mkM _ _ _ (⟨x9_15, (⟨#[]⟩ : ByteArray)⟩ : S45)); (case aB => exact (by repeat (first | (with_reducible first | exact HB.out | apply below_alloc | apply pw_below_drewN | apply below_drew1) | exact HB.out))); (case aF => exact (fun _ _ => trivial)); (case aO => exact (by (with_reducible repeat (first | apply Kd.R_alloc | apply Kd.R_drewN | apply Kd.R_drew)); exact HO139.out)); (case aS => exact (below_size (by repeat (first | (with_reducible first | exact HB.out | apply below_alloc | apply pw_below_drewN | apply below_drew1) | exact HB.out)))); (case aL => have := LMc22.out; omega); intro v141 w29 ho hb hg hat; rw [← Ny140.out] at ho; have n0_ := Aside0.mk (hb); have n1_ := Aside0.mk (ho); clear HB; clear HO139; have HB := n0_; have HO142 := n1_; clear n0_ n1_; clear ho hb hg hat; obtain ⟨Ao30, co30, eo30⟩ := Kd.R_slice HO142.out; subst eo30) | ((with_reducible refine gate_callee (f := 23) rfl ?_); refine goesL_ (some 43) rfl rfl Tryd.func23 (by kernel_rfl) rfl #[.slice Ao30 y140.length co30] rfl (by (try simp only [List.map_toArray, List.map_cons, List.map_nil]); first | done | rfl | (simp only [List.length_drop, List.length_take]; rfl)) ?_; (with_reducible refine (show_Path.calls _ _ y140 t143 _ ?side3 ?side1 ?side2 A23.out).mono ?_); (case side1 => repeat (first | exact (Kd.R_reads' HO142.out).2.2 | (with_reducible refine Kd.C_alloc ?_ _) | (with_reducible refine Kd.C_drewN ?_ _) | (with_reducible refine Kd.C_drew ?_))); (case side2 => exact (Kd.R_reads' HO142.out).2.1); (case side3 => (first | (refine LaidW.below HLW.out ?_; (repeat (first | (with_reducible first | exact HB.out | apply below_alloc | apply pw_below_drewN | apply below_drew1) | exact HB.out)); done) | (repeat (first | exact HLW.out | apply LaidW.drewN | apply LaidW.drew | apply LaidW.alloc)))); rintro e w31 ⟨rfl, hb⟩; refine ⟨_, rfl, ?_⟩; have n0_ := Aside0.mk (Kd.R_below (by (with_reducible repeat (first | apply Kd.R_alloc | apply Kd.R_drewN | apply Kd.R_drew)); exact HO142.out) hb); have n1_ := Aside0.mk (below_step (by repeat (first | (with_reducible first | exact HB.out | apply below_alloc | apply pw_below_drewN | apply below_drew1) | exact HB.out)) hb); clear HO142; clear HB; have HO142 := n0_; have HB := n1_; clear n0_ n1_; (try clear hb); (try clear hb2); (try clear hk); (try clear hi)))
                  (try simp only [Act.put, List.setIfInBounds_toArray, List.set_cons_zero, List.set_cons_succ])
                  go_cut [53] (fun v53 wc => ∃ (kq : Nat) (x53_23 : Bool), v53 = .bool x53_23 ∧ Aside0 (antecedentlaw09_ShowJoins.j2 kq l0 t129 t130 x10_15 t143 x53_23 = some r) ∧ Aside0 (kq ≤ kj15) ∧ Aside0 (Below w.heap.size w wc))
                  case first =>
                    have H := HC24.out
                    clear HC24
                    by_cases c32 : t129.toList = ([] : List UInt8)
                    · rw [if_pos c32] at H
                      have c32b0 : (t129.toList == ([] : List UInt8)) = true := beq_iff_eq.mpr c32
                      have c32b1 : (t129.toList != ([] : List UInt8)) = false := bne_eq_false_iff_eq.mpr c32
                      clear c32
                      (first | rw [c32b0] | (simp only [i64_w, i32_w]; rw [c32b0]) | skip)
                      have H' := Aside0.mk H
                      clear H
                      go_wp2
                      go_meet
                      case rel => exact ⟨_, (true), (by first | rfl | (simp; done) | (simp [*]; done)), H', ⟨by have := HJ3.out; have := HJ15.out; first | omega | exact Nat.le_refl _⟩, ⟨by repeat (first | (with_reducible first | exact HB.out | apply below_alloc | apply pw_below_drewN | apply below_drew1) | exact HB.out)⟩⟩
                    · rw [if_neg c32] at H
                      have c32b0 : (t129.toList == ([] : List UInt8)) = false := beq_eq_false_iff_ne.mpr c32
                      have c32b1 : (t129.toList != ([] : List UInt8)) = true := bne_iff_ne.mpr c32
                      (first | rw [c32b0] | (simp only [i64_w, i32_w]; rw [c32b0]) | skip)
                      by_cases c33 : t130.toList = ([] : List UInt8)
                      · rw [if_pos c33] at H
                        have c33b0 : (t130.toList == ([] : List UInt8)) = true := beq_iff_eq.mpr c33
                        have c33b1 : (t130.toList != ([] : List UInt8)) = false := bne_eq_false_iff_eq.mpr c33
                        clear c33
                        have H' := Aside0.mk H
                        clear H
                        go_wp2
                        go_meet
                        case rel => exact ⟨_, (true), (by first | rfl | (simp; done) | (simp [*]; done)), H', ⟨by have := HJ3.out; have := HJ15.out; first | omega | exact Nat.le_refl _⟩, ⟨by repeat (first | (with_reducible first | exact HB.out | apply below_alloc | apply pw_below_drewN | apply below_drew1) | exact HB.out)⟩⟩
                      · rw [if_neg c33] at H
                        have c33b0 : (t130.toList == ([] : List UInt8)) = false := beq_eq_false_iff_ne.mpr c33
                        have c33b1 : (t130.toList != ([] : List UInt8)) = true := bne_iff_ne.mpr c33
                        have H' := Aside0.mk H
                        clear H
                        go_wp2
                        go_meet
                        case rel => exact ⟨_, ((t143.toList == ([] : List UInt8))), (by first | rfl | (simp; done) | (simp [*]; done)), H', ⟨by have := HJ3.out; have := HJ15.out; first | omega | exact Nat.le_refl _⟩, ⟨by repeat (first | (with_reducible first | exact HB.out | apply below_alloc | apply pw_below_drewN | apply below_drew1) | exact HB.out)⟩⟩
                  case rest =>
                    clear HC24
                    try clear c1
                    try clear c2
                    try clear p2
                    try clear c3
                    try clear c6
                    try clear c7
                    try clear c7b0
                    try clear c7b1
                    try clear c9
                    try clear c11
                    try clear c19
                    try clear c20
                    try clear c21
                    try clear c22
                    try clear c23
                    try clear c32
                    try clear c32b0
                    try clear c32b1
                    try clear c33
                    try clear c33b0
                    try clear c33b1
                    try clear p2
                    obtain ⟨kq, x53_23, rfl, HA, HJ23, HB⟩ := hcut
                    cases kq with
                    | zero => exact absurd HA.out (by simp [antecedentlaw09_ShowJoins.j2])
                    | succ kj23 =>
                      have H := HA.out
                      clear HA
                      simp only [antecedentlaw09_ShowJoins.j2] at H
                      by_cases c34 : x53_23 = true
                      · subst c34
                        have H1 : ((some (([] : List (S45)) : List (S45))).bind fun y144 => (if y144.length + l0.length < 5864062014805 then ((some (y144 ++ l0 : List (S45))).bind fun y147 => (if y147.length < 5864062014805 then ((show_Path.f (y147 ++ [(⟨3, (⟨#[]⟩ : ByteArray)⟩ : S45)])).bind fun t153 => (if t153.toList = ([] : List UInt8) then (some true) else (some (t129.toList == ([] : List UInt8))))) else (none))) else (none))) = some r := by rw [if_pos rfl] at H; exact H
                        clear H
                        have H := H1
                        clear H1
                        obtain ⟨y144, hy144⟩ : ∃ y_ : List (S45), y_ = (([] : List (S45))) := ⟨_, rfl⟩
                        replace H : (if y144.length + l0.length < 5864062014805 then ((some (y144 ++ l0 : List (S45))).bind fun y147 => (if y147.length < 5864062014805 then ((show_Path.f (y147 ++ [(⟨3, (⟨#[]⟩ : ByteArray)⟩ : S45)])).bind fun t153 => (if t153.toList = ([] : List UInt8) then (some true) else (some (t129.toList == ([] : List UInt8))))) else (none))) else (none)) = some r := by first | (rw [hy144]; with_reducible exact H) | (have H2_ := (Option.bind_some _ _).symm.trans H; rw [hy144]; with_reducible exact H2_) | (have H2_ := (Option.bind_some _ _).symm.trans H; with_reducible exact H2_) | with_reducible exact H | (rw [hy144]; exact H) | exact H
                        have Ny144 := Aside0.mk hy144
                        clear hy144
                        by_cases c35 : y144.length + l0.length < 5864062014805
                        · rw [if_pos c35] at H
                          have LMc35 := Aside0.mk c35
                          clear c35
                          obtain ⟨y147, hy147⟩ : ∃ y_ : List (S45), y_ = (y144 ++ l0) := ⟨_, rfl⟩
                          replace H : (if y147.length < 5864062014805 then ((show_Path.f (y147 ++ [(⟨3, (⟨#[]⟩ : ByteArray)⟩ : S45)])).bind fun t153 => (if t153.toList = ([] : List UInt8) then (some true) else (some (t129.toList == ([] : List UInt8))))) else (none)) = some r := by first | (rw [hy147]; with_reducible exact H) | (have H2_ := (Option.bind_some _ _).symm.trans H; rw [hy147]; with_reducible exact H2_) | (have H2_ := (Option.bind_some _ _).symm.trans H; with_reducible exact H2_) | with_reducible exact H | (rw [hy147]; exact H) | exact H
                          have Ny147 := Aside0.mk hy147
                          clear hy147
                          by_cases c36 : y147.length < 5864062014805
                          · rw [if_pos c36] at H
                            have LMc36 := Aside0.mk c36
                            clear c36
                            obtain ⟨y150, hy150⟩ : ∃ y_ : List (S45), y_ = (y147 ++ [(⟨3, (⟨#[]⟩ : ByteArray)⟩ : S45)]) := ⟨_, rfl⟩
                            replace H : ((show_Path.f y150).bind fun t153 => (if t153.toList = ([] : List UInt8) then (some true) else (some (t129.toList == ([] : List UInt8))))) = some r := by first | (rw [hy150]; with_reducible exact H) | (have H2_ := (Option.bind_some _ _).symm.trans H; rw [hy150]; with_reducible exact H2_) | (have H2_ := (Option.bind_some _ _).symm.trans H; with_reducible exact H2_) | with_reducible exact H | (rw [hy150]; exact H) | exact H
                            have Ny150 := Aside0.mk hy150
                            clear hy150
                            replace H := Option.bind_eq_some_iff.mp H
                            obtain ⟨t153, A370, H⟩ := H
                            replace H : (if t153.toList = ([] : List UInt8) then (some true) else (some (t129.toList == ([] : List UInt8)))) = some r := H
                            have A37 := Aside0.mk A370
                            clear A370
                            by_cases c38 : t153.toList = ([] : List UInt8)
                            · rw [if_pos c38] at H
                              have c38b0 : (t153.toList == ([] : List UInt8)) = true := beq_iff_eq.mpr c38
                              have c38b1 : (t153.toList != ([] : List UInt8)) = false := bne_eq_false_iff_eq.mpr c38
                              clear c38
                              obtain rfl := Option.some.inj H
                              go_wp2_with (first | ((with_reducible refine gate_dst (N := 54) rfl ?_); (try (refine gate_guard (by rfl) ?_; dsimp only)); refine Kd.R_lit k45 _ 45 ?hg (N := 54) ?hd (xs := ([] : List (S45))) (inner := []) (ok := fun _ => True) (okp := fun _ => True) ?hr ?hp (fun _ hk => hk) trivial (Below.refl _ _) (Nat.le_refl _) (by simp) ?_; (case hd => rfl); (case hg => rfl); (case hr => first | (go_simp; done) | (go_simp; rfl)); (case hp => exact (Reps.none _ _)); intro v145 w39 ho40 hb hg_ hnew_; clear hg_ hnew_; (first | rw [← Ny144.out] at ho40 | (simp only [Int.reduceToNat] at ho40; rw [← Ny144.out] at ho40)); have n0_ := Aside0.mk (Kd.R_lower ho40 (below_size (by repeat (first | (with_reducible first | exact HB.out | apply below_alloc | apply pw_below_drewN | apply below_drew1) | exact HB.out)))); have n1_ := Aside0.mk (below_step (by repeat (first | (with_reducible first | exact HB.out | apply below_alloc | apply pw_below_drewN | apply below_drew1) | exact HB.out)) hb); clear HB; have HO146 := n0_; have HB := n1_; clear n0_ n1_; clear hb ho40) | ((with_reducible refine gate_builtin (b := .append) (xs := #[.tmp 54, .tmp 55]) rfl ?_); (try (refine gate_guard (by rfl) ?_; dsimp only)); at_builtin; refine Kd.R_append_rows k45 (w0 := w) w.heap.size rfl (.tmp 54) (.tmp 55) 42 45 (.agg #[(.int .i64 0), (.string ⟨#[]⟩)]) 24 rfl Tryd.underlying42 info45 rfl (by decide) (by omega) v145 y144 l0 _ _ _ (fun _ => True) (fun _ => False) rfl rfl ?aO ?aR (fun _ _ h => h) (fun _ h => h.elim) ?aF ?aB ?aS ?aL ?_; (case aR => repeat (first | exact (Kd.C_below HR0.out HB.out) | (with_reducible refine Kd.C_alloc ?_ _) | (with_reducible refine Kd.C_drewN ?_ _) | (with_reducible refine Kd.C_drew ?_))); (case aB => exact (by repeat (first | (with_reducible first | exact HB.out | apply below_alloc | apply pw_below_drewN | apply below_drew1) | exact HB.out))); (case aF => exact (fun _ _ => trivial)); (case aO => exact (by (with_reducible repeat (first | apply Kd.R_alloc | apply Kd.R_drewN | apply Kd.R_drew)); exact HO146.out)); (case aS => exact (below_size (by repeat (first | (with_reducible first | exact HB.out | apply below_alloc | apply pw_below_drewN | apply below_drew1) | exact HB.out)))); (case aL => have := LMc35.out; omega); intro v148 w41 ho hb hg hat; rw [← Ny147.out] at ho; have n0_ := Aside0.mk (hb); have n1_ := Aside0.mk (ho); clear HB; clear HO146; have HB := n0_; have HO149 := n1_; clear n0_ n1_; clear ho hb hg hat) | ((with_reducible refine gate_builtin (b := .append) (xs := #[.tmp 56, .tmp 58]) rfl ?_); (try (refine gate_guard (by rfl) ?_; dsimp only)); at_builtin; refine Kd.R_append k45 (w0 := w) w.heap.size rfl (.tmp 56) (.tmp 58) 42 45 (.agg #[(.int .i64 0), (.string ⟨#[]⟩)]) 24 rfl Tryd.underlying42 info45 rfl (by decide) (by omega) v148 y147 (⟨3, (⟨#[]⟩ : ByteArray)⟩ : S45) [.int .i64 3, .string (⟨#[]⟩ : ByteArray)] (fun _ => True) (fun _ => False) rfl rfl ?aP (fun _ hk => hk.elim) ?aF ?aO ?aB ?aS ?aL ?_; (case aP => exact k45_mkM _ _ _ (⟨3, (⟨#[]⟩ : ByteArray)⟩ : S45)); (case aB => exact (by repeat (first | (with_reducible first | exact HB.out | apply below_alloc | apply pw_below_drewN | apply below_drew1) | exact HB.out))); (case aF => exact (fun _ _ => trivial)); (case aO => exact (by (with_reducible repeat (first | apply Kd.R_alloc | apply Kd.R_drewN | apply Kd.R_drew)); exact HO149.out)); (case aS => exact (below_size (by repeat (first | (with_reducible first | exact HB.out | apply below_alloc | apply pw_below_drewN | apply below_drew1) | exact HB.out)))); (case aL => have := LMc36.out; omega); intro v151 w42 ho hb hg hat; rw [← Ny150.out] at ho; have n0_ := Aside0.mk (hb); have n1_ := Aside0.mk (ho); clear HB; clear HO149; have HB := n0_; have HO152 := n1_; clear n0_ n1_; clear ho hb hg hat; obtain ⟨Ao43, co43, eo43⟩ := Kd.R_slice HO152.out; subst eo43) | ((with_reducible refine gate_callee (f := 23) rfl ?_); refine goesL_ (some 60) rfl rfl Tryd.func23 (by kernel_rfl) rfl #[.slice Ao43 y150.length co43] rfl (by (try simp only [List.map_toArray, List.map_cons, List.map_nil]); first | done | rfl | (simp only [List.length_drop, List.length_take]; rfl)) ?_; (with_reducible refine (show_Path.calls _ _ y150 t153 _ ?side3 ?side1 ?side2 A37.out).mono ?_); (case side1 => repeat (first | exact (Kd.R_reads' HO152.out).2.2 | (with_reducible refine Kd.C_alloc ?_ _) | (with_reducible refine Kd.C_drewN ?_ _) | (with_reducible refine Kd.C_drew ?_))); (case side2 => exact (Kd.R_reads' HO152.out).2.1); (case side3 => (first | (refine LaidW.below HLW.out ?_; (repeat (first | (with_reducible first | exact HB.out | apply below_alloc | apply pw_below_drewN | apply below_drew1) | exact HB.out)); done) | (repeat (first | exact HLW.out | apply LaidW.drewN | apply LaidW.drew | apply LaidW.alloc)))); rintro e w44 ⟨rfl, hb⟩; refine ⟨_, rfl, ?_⟩; have n0_ := Aside0.mk (Kd.R_below (by (with_reducible repeat (first | apply Kd.R_alloc | apply Kd.R_drewN | apply Kd.R_drew)); exact HO152.out) hb); have n1_ := Aside0.mk (below_step (by repeat (first | (with_reducible first | exact HB.out | apply below_alloc | apply pw_below_drewN | apply below_drew1) | exact HB.out)) hb); clear HO152; clear HB; have HO152 := n0_; have HB := n1_; clear n0_ n1_; (try clear hb); (try clear hb2); (try clear hk); (try clear hi)))
                              go_ret
                              exact ⟨by first | rfl | (simp [errW_none, errW_some] <;> rfl) | (simp [*, errW_none, errW_some] <;> rfl), by repeat (first | (with_reducible first | exact HB.out | apply below_alloc | apply pw_below_drewN | apply below_drew1) | exact HB.out)⟩
                            · rw [if_neg c38] at H
                              have c38b0 : (t153.toList == ([] : List UInt8)) = false := beq_eq_false_iff_ne.mpr c38
                              have c38b1 : (t153.toList != ([] : List UInt8)) = true := bne_iff_ne.mpr c38
                              obtain rfl := Option.some.inj H
                              go_wp2_with (first | ((with_reducible refine gate_dst (N := 54) rfl ?_); (try (refine gate_guard (by rfl) ?_; dsimp only)); refine Kd.R_lit k45 _ 45 ?hg (N := 54) ?hd (xs := ([] : List (S45))) (inner := []) (ok := fun _ => True) (okp := fun _ => True) ?hr ?hp (fun _ hk => hk) trivial (Below.refl _ _) (Nat.le_refl _) (by simp) ?_; (case hd => rfl); (case hg => rfl); (case hr => first | (go_simp; done) | (go_simp; rfl)); (case hp => exact (Reps.none _ _)); intro v145 w45 ho46 hb hg_ hnew_; clear hg_ hnew_; (first | rw [← Ny144.out] at ho46 | (simp only [Int.reduceToNat] at ho46; rw [← Ny144.out] at ho46)); have n0_ := Aside0.mk (Kd.R_lower ho46 (below_size (by repeat (first | (with_reducible first | exact HB.out | apply below_alloc | apply pw_below_drewN | apply below_drew1) | exact HB.out)))); have n1_ := Aside0.mk (below_step (by repeat (first | (with_reducible first | exact HB.out | apply below_alloc | apply pw_below_drewN | apply below_drew1) | exact HB.out)) hb); clear HB; have HO146 := n0_; have HB := n1_; clear n0_ n1_; clear hb ho46) | ((with_reducible refine gate_builtin (b := .append) (xs := #[.tmp 54, .tmp 55]) rfl ?_); (try (refine gate_guard (by rfl) ?_; dsimp only)); at_builtin; refine Kd.R_append_rows k45 (w0 := w) w.heap.size rfl (.tmp 54) (.tmp 55) 42 45 (.agg #[(.int .i64 0), (.string ⟨#[]⟩)]) 24 rfl Tryd.underlying42 info45 rfl (by decide) (by omega) v145 y144 l0 _ _ _ (fun _ => True) (fun _ => False) rfl rfl ?aO ?aR (fun _ _ h => h) (fun _ h => h.elim) ?aF ?aB ?aS ?aL ?_; (case aR => repeat (first | exact (Kd.C_below HR0.out HB.out) | (with_reducible refine Kd.C_alloc ?_ _) | (with_reducible refine Kd.C_drewN ?_ _) | (with_reducible refine Kd.C_drew ?_))); (case aB => exact (by repeat (first | (with_reducible first | exact HB.out | apply below_alloc | apply pw_below_drewN | apply below_drew1) | exact HB.out))); (case aF => exact (fun _ _ => trivial)); (case aO => exact (by (with_reducible repeat (first | apply Kd.R_alloc | apply Kd.R_drewN | apply Kd.R_drew)); exact HO146.out)); (case aS => exact (below_size (by repeat (first | (with_reducible first | exact HB.out | apply below_alloc | apply pw_below_drewN | apply below_drew1) | exact HB.out)))); (case aL => have := LMc35.out; omega); intro v148 w47 ho hb hg hat; rw [← Ny147.out] at ho; have n0_ := Aside0.mk (hb); have n1_ := Aside0.mk (ho); clear HB; clear HO146; have HB := n0_; have HO149 := n1_; clear n0_ n1_; clear ho hb hg hat) | ((with_reducible refine gate_builtin (b := .append) (xs := #[.tmp 56, .tmp 58]) rfl ?_); (try (refine gate_guard (by rfl) ?_; dsimp only)); at_builtin; refine Kd.R_append k45 (w0 := w) w.heap.size rfl (.tmp 56) (.tmp 58) 42 45 (.agg #[(.int .i64 0), (.string ⟨#[]⟩)]) 24 rfl Tryd.underlying42 info45 rfl (by decide) (by omega) v148 y147 (⟨3, (⟨#[]⟩ : ByteArray)⟩ : S45) [.int .i64 3, .string (⟨#[]⟩ : ByteArray)] (fun _ => True) (fun _ => False) rfl rfl ?aP (fun _ hk => hk.elim) ?aF ?aO ?aB ?aS ?aL ?_; (case aP => exact k45_mkM _ _ _ (⟨3, (⟨#[]⟩ : ByteArray)⟩ : S45)); (case aB => exact (by repeat (first | (with_reducible first | exact HB.out | apply below_alloc | apply pw_below_drewN | apply below_drew1) | exact HB.out))); (case aF => exact (fun _ _ => trivial)); (case aO => exact (by (with_reducible repeat (first | apply Kd.R_alloc | apply Kd.R_drewN | apply Kd.R_drew)); exact HO149.out)); (case aS => exact (below_size (by repeat (first | (with_reducible first | exact HB.out | apply below_alloc | apply pw_below_drewN | apply below_drew1) | exact HB.out)))); (case aL => have := LMc36.out; omega); intro v151 w48 ho hb hg hat; rw [← Ny150.out] at ho; have n0_ := Aside0.mk (hb); have n1_ := Aside0.mk (ho); clear HB; clear HO149; have HB := n0_; have HO152 := n1_; clear n0_ n1_; clear ho hb hg hat; obtain ⟨Ao49, co49, eo49⟩ := Kd.R_slice HO152.out; subst eo49) | ((with_reducible refine gate_callee (f := 23) rfl ?_); refine goesL_ (some 60) rfl rfl Tryd.func23 (by kernel_rfl) rfl #[.slice Ao49 y150.length co49] rfl (by (try simp only [List.map_toArray, List.map_cons, List.map_nil]); first | done | rfl | (simp only [List.length_drop, List.length_take]; rfl)) ?_; (with_reducible refine (show_Path.calls _ _ y150 t153 _ ?side3 ?side1 ?side2 A37.out).mono ?_); (case side1 => repeat (first | exact (Kd.R_reads' HO152.out).2.2 | (with_reducible refine Kd.C_alloc ?_ _) | (with_reducible refine Kd.C_drewN ?_ _) | (with_reducible refine Kd.C_drew ?_))); (case side2 => exact (Kd.R_reads' HO152.out).2.1); (case side3 => (first | (refine LaidW.below HLW.out ?_; (repeat (first | (with_reducible first | exact HB.out | apply below_alloc | apply pw_below_drewN | apply below_drew1) | exact HB.out)); done) | (repeat (first | exact HLW.out | apply LaidW.drewN | apply LaidW.drew | apply LaidW.alloc)))); rintro e w50 ⟨rfl, hb⟩; refine ⟨_, rfl, ?_⟩; have n0_ := Aside0.mk (Kd.R_below (by (with_reducible repeat (first | apply Kd.R_alloc | apply Kd.R_drewN | apply Kd.R_drew)); exact HO152.out) hb); have n1_ := Aside0.mk (below_step (by repeat (first | (with_reducible first | exact HB.out | apply below_alloc | apply pw_below_drewN | apply below_drew1) | exact HB.out)) hb); clear HO152; clear HB; have HO152 := n0_; have HB := n1_; clear n0_ n1_; (try clear hb); (try clear hb2); (try clear hk); (try clear hi)))
                              go_ret
                              exact ⟨by first | rfl | (simp [errW_none, errW_some] <;> rfl) | (simp [*, errW_none, errW_some] <;> rfl), by repeat (first | (with_reducible first | exact HB.out | apply below_alloc | apply pw_below_drewN | apply below_drew1) | exact HB.out)⟩
                          · rw [if_neg c36] at H
                            exact absurd H (by simp)
                        · rw [if_neg c35] at H
                          exact absurd H (by simp)
                      · replace c34 := Bool.eq_false_iff.mpr c34
                        subst c34
                        have H1 : (if 1 + t129.size ≤ 9223372036854775807 then (if 1 + t129.size + 1 ≤ 9223372036854775807 then ((some (([t129, ((⟨#[40]⟩ : ByteArray) ++ t129) ++ (⟨#[41]⟩ : ByteArray)] : List ByteArray) : List ByteArray)).bind fun y154 => (antecedentlaw09_ShowJoins.l0 kj23 t130 x10_15 t143 y154 (y154.length : Int) 0)) else (none)) else (none)) = some r := by rw [if_neg (show ¬ (false = true) by decide)] at H; exact H
                        clear H
                        have H := H1
                        clear H1
                        by_cases c51 : 1 + t129.size ≤ 9223372036854775807
                        · rw [if_pos c51] at H
                          have c51b0 := eq_true c51
                          have c51b1 : decide (1 + t129.size ≤ 9223372036854775807) = true := decide_eq_true c51
                          try have c51b2 : (9223372036854775807 < 1 + t129.size) = False := eq_false (Nat.not_lt.2 c51)
                          by_cases c52 : 1 + t129.size + 1 ≤ 9223372036854775807
                          · rw [if_pos c52] at H
                            have c52b0 := eq_true c52
                            have c52b1 : decide (1 + t129.size + 1 ≤ 9223372036854775807) = true := decide_eq_true c52
                            try have c52b2 : (9223372036854775807 < 1 + t129.size + 1) = False := eq_false (Nat.not_lt.2 c52)
                            obtain ⟨y154, hy154⟩ : ∃ y_ : List ByteArray, y_ = (([t129, ((⟨#[40]⟩ : ByteArray) ++ t129) ++ (⟨#[41]⟩ : ByteArray)] : List ByteArray)) := ⟨_, rfl⟩
                            replace H : (antecedentlaw09_ShowJoins.l0 kj23 t130 x10_15 t143 y154 (y154.length : Int) 0) = some r := by first | (rw [hy154]; with_reducible exact H) | (have H2_ := (Option.bind_some _ _).symm.trans H; rw [hy154]; with_reducible exact H2_) | (have H2_ := (Option.bind_some _ _).symm.trans H; with_reducible exact H2_) | with_reducible exact H | (rw [hy154]; exact H) | exact H
                            have Ny154 := Aside0.mk hy154
                            clear hy154
                            have H' := Aside0.mk H
                            clear H
                            go_wp2_with (first | ((with_reducible refine gate_dst (N := 70) rfl ?_); (try (refine gate_guard (by rfl) ?_; dsimp only)); refine Kd.R_lit Kd.string _ 9 ?hg (N := 70) ?hd (xs := ([t129, ((⟨#[40]⟩ : ByteArray) ++ t129) ++ (⟨#[41]⟩ : ByteArray)] : List ByteArray)) (inner := [.string t129, .string (((⟨#[40]⟩ : ByteArray) ++ t129) ++ (⟨#[41]⟩ : ByteArray))]) (ok := fun _ => True) (okp := fun _ => True) ?hr ?hp (fun _ hk => hk) trivial (Below.refl _ _) (Nat.le_refl _) (by simp) ?_; (case hd => rfl); (case hg => rfl); (case hr => first | (go_simp; done) | (go_simp; rfl)); (case hp => exact (Reps.one (show Kd.M Kd.string _ _ _ t129 [.string t129] from rfl) (Reps.one (show Kd.M Kd.string _ _ _ (((⟨#[40]⟩ : ByteArray) ++ t129) ++ (⟨#[41]⟩ : ByteArray)) [.string (((⟨#[40]⟩ : ByteArray) ++ t129) ++ (⟨#[41]⟩ : ByteArray))] from rfl) (Reps.none _ _)))); intro v155 w53 ho54 hb hg_ hnew_; clear hg_ hnew_; (first | rw [← Ny154.out] at ho54 | (simp only [Int.reduceToNat] at ho54; rw [← Ny154.out] at ho54)); have n0_ := Aside0.mk (Kd.R_lower ho54 (below_size (by repeat (first | (with_reducible first | exact HB.out | apply below_alloc | apply pw_below_drewN | apply below_drew1) | exact HB.out)))); have n1_ := Aside0.mk (below_step (by repeat (first | (with_reducible first | exact HB.out | apply below_alloc | apply pw_below_drewN | apply below_drew1) | exact HB.out)) hb); clear HB; have HO156 := n0_; have HB := n1_; clear n0_ n1_; clear hb ho54; obtain ⟨Ao55, co55, eo55⟩ := Kd.R_slice HO156.out; subst eo55))
                            go_loopg [72] kj23 (fun kq v72 w' => ∃ (x72_4 : Int), v72 = .int .i64 x72_4 ∧ Aside0 (antecedentlaw09_ShowJoins.l0 kq t130 x10_15 t143 y154 (y154.length : Int) x72_4 = some r) ∧ Aside0 (kq ≤ kj23) ∧ Aside0 (Kd.R Kd.string 9 w' w.heap.size (fun _ => True) (.slice Ao55 y154.length co55) y154) ∧ Aside0 (Below w.heap.size w w'))
                            case atStart => exact ⟨(0), (by first | rfl | (simp; done) | (simp [*]; done)), H', ⟨Nat.le_refl _⟩, ⟨by (with_reducible repeat (first | apply Kd.R_alloc | apply Kd.R_drewN | apply Kd.R_drew)); exact HO156.out⟩, ⟨by repeat (first | (with_reducible first | exact HB.out | apply below_alloc | apply pw_below_drewN | apply below_drew1) | exact HB.out)⟩⟩
                            case round =>
                              clear H'
                              try clear c1
                              try clear c2
                              try clear p2
                              try clear c3
                              try clear c5
                              try clear c6
                              try clear c7
                              try clear c7b0
                              try clear c7b1
                              try clear c9
                              try clear c11
                              try clear c19
                              try clear c20
                              try clear c21
                              try clear c22
                              try clear c23
                              try clear c32
                              try clear c32b0
                              try clear c32b1
                              try clear c33
                              try clear c33b0
                              try clear c33b1
                              try clear c34
                              try clear c35
                              try clear c36
                              try clear c38
                              try clear c38b0
                              try clear c38b1
                              try clear c51
                              try clear c51b0
                              try clear c51b1
                              try clear c51b2
                              try clear c52
                              try clear c52b0
                              try clear c52b1
                              try clear c52b2
                              try clear p2
                              obtain ⟨x72_4, rfl, HA, HK4, HO_70, HB⟩ := hrel
                              cases gk with
                              | zero => exact absurd HA.out (by simp [antecedentlaw09_ShowJoins.l0])
                              | succ k4 =>
                                have H := HA.out
                                clear HA
                                simp only [antecedentlaw09_ShowJoins.l0] at H
                                by_cases c56 : x72_4 < (y154.length : Int)
                                · rw [if_pos c56] at H
                                  have c56b0 : decide (x72_4 < (y154.length : Int)) = true := decide_eq_true c56
                                  clear c56
                                  by_cases c57 : 0 ≤ x72_4
                                  · rw [if_pos c57] at H
                                    have c57b0 : decide (0 ≤ x72_4) = true := decide_eq_true c57
                                    clear c57
                                    by_cases c58 : x72_4 < (y154.length : Int)
                                    · rw [if_pos c58] at H
                                      have c58b0 : decide (x72_4 < (y154.length : Int)) = true := decide_eq_true c58
                                      clear c58
                                      by_cases c59 : 1 + t130.size ≤ 9223372036854775807
                                      · rw [if_pos c59] at H
                                        have c59b0 := eq_true c59
                                        have c59b1 : decide (1 + t130.size ≤ 9223372036854775807) = true := decide_eq_true c59
                                        try have c59b2 : (9223372036854775807 < 1 + t130.size) = False := eq_false (Nat.not_lt.2 c59)
                                        by_cases c60 : 1 + t130.size + 1 ≤ 9223372036854775807
                                        · rw [if_pos c60] at H
                                          have c60b0 := eq_true c60
                                          have c60b1 : decide (1 + t130.size + 1 ≤ 9223372036854775807) = true := decide_eq_true c60
                                          try have c60b2 : (9223372036854775807 < 1 + t130.size + 1) = False := eq_false (Nat.not_lt.2 c60)
                                          obtain ⟨y158, hy158⟩ : ∃ y_ : List ByteArray, y_ = (([t130, ((⟨#[40]⟩ : ByteArray) ++ t130) ++ (⟨#[41]⟩ : ByteArray)] : List ByteArray)) := ⟨_, rfl⟩
                                          replace H : (antecedentlaw09_ShowJoins.l1 k4 t130 x10_15 t143 (rdOf ByteArray.empty y154 x72_4) y154 (y154.length : Int) x72_4 y158 (y158.length : Int) 0) = some r := by first | (rw [hy158]; with_reducible exact H) | (have H2_ := (Option.bind_some _ _).symm.trans H; rw [hy158]; with_reducible exact H2_) | (have H2_ := (Option.bind_some _ _).symm.trans H; with_reducible exact H2_) | with_reducible exact H | (rw [hy158]; exact H) | exact H
                                          have Ny158 := Aside0.mk hy158
                                          clear hy158
                                          have H' := Aside0.mk H
                                          clear H
                                          have p157 : 0 ≤ (x72_4 : Int) := of_decide_eq_true (by first | (with_reducible assumption) | assumption)
                                          have q157 : x72_4 < (y154.length : Int) := of_decide_eq_true (by first | (with_reducible assumption) | assumption)
                                          obtain ⟨ad157, e157, hx157_0⟩ := Kd.at_string (Kd.R_reads' HO_70.out).2.2 x72_4 p157 q157
                                          cases e157
                                          replace p157 := eq_true p157
                                          replace q157 := eq_true q157
                                          go_wp2_with (first | ((with_reducible refine gate_dst (N := 80) rfl ?_); (try (refine gate_guard (by rfl) ?_; dsimp only)); refine Kd.R_lit Kd.string _ 9 ?hg (N := 80) ?hd (xs := ([t130, ((⟨#[40]⟩ : ByteArray) ++ t130) ++ (⟨#[41]⟩ : ByteArray)] : List ByteArray)) (inner := [.string t130, .string (((⟨#[40]⟩ : ByteArray) ++ t130) ++ (⟨#[41]⟩ : ByteArray))]) (ok := fun _ => True) (okp := fun _ => True) ?hr ?hp (fun _ hk => hk) trivial (Below.refl _ _) (Nat.le_refl _) (by simp) ?_; (case hd => rfl); (case hg => rfl); (case hr => first | (go_simp; done) | (go_simp; rfl)); (case hp => exact (Reps.one (show Kd.M Kd.string _ _ _ t130 [.string t130] from rfl) (Reps.one (show Kd.M Kd.string _ _ _ (((⟨#[40]⟩ : ByteArray) ++ t130) ++ (⟨#[41]⟩ : ByteArray)) [.string (((⟨#[40]⟩ : ByteArray) ++ t130) ++ (⟨#[41]⟩ : ByteArray))] from rfl) (Reps.none _ _)))); intro v159 w61 ho62 hb hg_ hnew_; clear hg_ hnew_; (first | rw [← Ny158.out] at ho62 | (simp only [Int.reduceToNat] at ho62; rw [← Ny158.out] at ho62)); have n0_ := Aside0.mk (Kd.R_elder' (by (with_reducible repeat (first | apply Kd.R_alloc | apply Kd.R_drewN | apply Kd.R_drew)); exact HO_70.out) (Kd.R_base ho62) hb); have n1_ := Aside0.mk (Kd.R_lower (Kd.R_new' ho62 (Kd.R_lt (by (with_reducible repeat (first | apply Kd.R_alloc | apply Kd.R_drewN | apply Kd.R_drew)); exact HO_70.out))) (below_size (by repeat (first | (with_reducible first | exact HB.out | apply below_alloc | apply pw_below_drewN | apply below_drew1) | exact HB.out)))); have n2_ := Aside0.mk (below_step (by repeat (first | (with_reducible first | exact HB.out | apply below_alloc | apply pw_below_drewN | apply below_drew1) | exact HB.out)) hb); clear HO_70; clear HB; have HO_70 := n0_; have HO160 := n1_; have HB := n2_; clear n0_ n1_ n2_; clear hb ho62; obtain ⟨Ao63, co63, eo63⟩ := Kd.R_slice HO160.out; subst eo63))
                                          go_loopg [82] k4 (fun kq v82 w' => ∃ (x82_5 : Int), v82 = .int .i64 x82_5 ∧ Aside0 (antecedentlaw09_ShowJoins.l1 kq t130 x10_15 t143 (rdOf ByteArray.empty y154 x72_4) y154 (y154.length : Int) x72_4 y158 (y158.length : Int) x82_5 = some r) ∧ Aside0 (kq ≤ k4) ∧ Aside0 (Kd.R Kd.string 9 w' w.heap.size (fun k_ => some k_ ≠ ((.slice Ao63 y158.length co63) : Value).ownBlock) (.slice (some ad157) y154.length co55) y154) ∧ Aside0 (Kd.R Kd.string 9 w' w.heap.size (fun k_ => some k_ ≠ ((.slice (some ad157) y154.length co55) : Value).ownBlock) (.slice Ao63 y158.length co63) y158) ∧ Aside0 (Below w.heap.size w w'))
                                          case atStart => exact ⟨(0), (by first | rfl | (simp; done) | (simp [*]; done)), H', ⟨Nat.le_refl _⟩, ⟨by (with_reducible repeat (first | apply Kd.R_alloc | apply Kd.R_drewN | apply Kd.R_drew)); exact Kd.R_mono HO_70.out (fun _ hk => hk.2)⟩, ⟨by (with_reducible repeat (first | apply Kd.R_alloc | apply Kd.R_drewN | apply Kd.R_drew)); exact Kd.R_mono HO160.out (fun _ hk => hk.2)⟩, ⟨by repeat (first | (with_reducible first | exact HB.out | apply below_alloc | apply pw_below_drewN | apply below_drew1) | exact HB.out)⟩⟩
                                          case round =>
                                            clear H'
                                            try clear c1
                                            try clear p1
                                            try clear q1
                                            try clear hx1
                                            try clear c2
                                            try clear p2
                                            try clear c3
                                            try clear c5
                                            try clear c6
                                            try clear c7
                                            try clear c7b0
                                            try clear c7b1
                                            try clear c9
                                            try clear c11
                                            try clear p15
                                            try clear q15
                                            try clear hx15
                                            try clear c19
                                            try clear c20
                                            try clear c21
                                            try clear c22
                                            try clear c23
                                            try clear c32
                                            try clear c32b0
                                            try clear c32b1
                                            try clear c33
                                            try clear c33b0
                                            try clear c33b1
                                            try clear c34
                                            try clear c35
                                            try clear c36
                                            try clear c38
                                            try clear c38b0
                                            try clear c38b1
                                            try clear c51
                                            try clear c51b0
                                            try clear c51b1
                                            try clear c51b2
                                            try clear c52
                                            try clear c52b0
                                            try clear c52b1
                                            try clear c52b2
                                            try clear c56
                                            try clear c56b0
                                            try clear c57
                                            try clear c57b0
                                            try clear c58
                                            try clear c58b0
                                            try clear c59
                                            try clear c59b0
                                            try clear c59b1
                                            try clear c59b2
                                            try clear c60
                                            try clear c60b0
                                            try clear c60b1
                                            try clear c60b2
                                            try clear hx157_0
                                            try clear p157
                                            try clear p2
                                            try clear q157
                                            obtain ⟨x82_5, rfl, HA, HK5, HO_70, HO_80, HB⟩ := hrel
                                            cases gk with
                                            | zero => exact absurd HA.out (by simp [antecedentlaw09_ShowJoins.l1])
                                            | succ k5 =>
                                              have H := HA.out
                                              clear HA
                                              simp only [antecedentlaw09_ShowJoins.l1] at H
                                              by_cases c64 : x82_5 < (y158.length : Int)
                                              · rw [if_pos c64] at H
                                                have c64b0 : decide (x82_5 < (y158.length : Int)) = true := decide_eq_true c64
                                                clear c64
                                                by_cases c65 : 0 ≤ x82_5
                                                · rw [if_pos c65] at H
                                                  have c65b0 : decide (0 ≤ x82_5) = true := decide_eq_true c65
                                                  clear c65
                                                  by_cases c66 : x82_5 < (y158.length : Int)
                                                  · rw [if_pos c66] at H
                                                    have c66b0 : decide (x82_5 < (y158.length : Int)) = true := decide_eq_true c66
                                                    clear c66
                                                    by_cases c67 : (rdOf ByteArray.empty y154 x72_4).size + x10_15.size ≤ 9223372036854775807
                                                    · rw [if_pos c67] at H
                                                      have c67b0 := eq_true c67
                                                      have c67b1 : decide ((rdOf ByteArray.empty y154 x72_4).size + x10_15.size ≤ 9223372036854775807) = true := decide_eq_true c67
                                                      try have c67b2 : (9223372036854775807 < (rdOf ByteArray.empty y154 x72_4).size + x10_15.size) = False := eq_false (Nat.not_lt.2 c67)
                                                      by_cases c68 : (rdOf ByteArray.empty y154 x72_4).size + x10_15.size + (rdOf ByteArray.empty y158 x82_5).size ≤ 9223372036854775807
                                                      · rw [if_pos c68] at H
                                                        have c68b0 := eq_true c68
                                                        have c68b1 : decide ((rdOf ByteArray.empty y154 x72_4).size + x10_15.size + (rdOf ByteArray.empty y158 x82_5).size ≤ 9223372036854775807) = true := decide_eq_true c68
                                                        try have c68b2 : (9223372036854775807 < (rdOf ByteArray.empty y154 x72_4).size + x10_15.size + (rdOf ByteArray.empty y158 x82_5).size) = False := eq_false (Nat.not_lt.2 c68)
                                                        by_cases c69 : t143.toList = (((rdOf ByteArray.empty y154 x72_4) ++ x10_15) ++ (rdOf ByteArray.empty y158 x82_5)).toList
                                                        · rw [if_pos c69] at H
                                                          have c69b0 : (t143.toList == (((rdOf ByteArray.empty y154 x72_4) ++ x10_15) ++ (rdOf ByteArray.empty y158 x82_5)).toList) = true := beq_iff_eq.mpr c69
                                                          have c69b1 : (t143.toList != (((rdOf ByteArray.empty y154 x72_4) ++ x10_15) ++ (rdOf ByteArray.empty y158 x82_5)).toList) = false := bne_eq_false_iff_eq.mpr c69
                                                          clear c69
                                                          obtain rfl := Option.some.inj H
                                                          have p161 : 0 ≤ (x82_5 : Int) := of_decide_eq_true (by first | (with_reducible assumption) | assumption)
                                                          have q161 : x82_5 < (y158.length : Int) := of_decide_eq_true (by first | (with_reducible assumption) | assumption)
                                                          obtain ⟨ad161, e161, hx161_0⟩ := Kd.at_string (Kd.R_reads' HO_80.out).2.2 x82_5 p161 q161
                                                          cases e161
                                                          replace p161 := eq_true p161
                                                          replace q161 := eq_true q161
                                                          go_wp2
                                                          go_ret
                                                          exact ⟨by first | rfl | (simp [errW_none, errW_some] <;> rfl) | (simp [*, errW_none, errW_some] <;> rfl), by repeat (first | (with_reducible first | exact HB.out | apply below_alloc | apply pw_below_drewN | apply below_drew1) | exact HB.out)⟩
                                                        · rw [if_neg c69] at H
                                                          have c69b0 : (t143.toList == (((rdOf ByteArray.empty y154 x72_4) ++ x10_15) ++ (rdOf ByteArray.empty y158 x82_5)).toList) = false := beq_eq_false_iff_ne.mpr c69
                                                          have c69b1 : (t143.toList != (((rdOf ByteArray.empty y154 x72_4) ++ x10_15) ++ (rdOf ByteArray.empty y158 x82_5)).toList) = true := bne_iff_ne.mpr c69
                                                          have H' := Aside0.mk H
                                                          clear H
                                                          have p161 : 0 ≤ (x82_5 : Int) := of_decide_eq_true (by first | (with_reducible assumption) | assumption)
                                                          have q161 : x82_5 < (y158.length : Int) := of_decide_eq_true (by first | (with_reducible assumption) | assumption)
                                                          obtain ⟨ad161, e161, hx161_0⟩ := Kd.at_string (Kd.R_reads' HO_80.out).2.2 x82_5 p161 q161
                                                          cases e161
                                                          replace p161 := eq_true p161
                                                          replace q161 := eq_true q161
                                                          go_wp2
                                                          go_roundg k5
                                                          case measure => have := HJ3.out; have := HJ15.out; have := HJ23.out; have := HK4.out; have := HK5.out; omega
                                                          case rel => exact ⟨(wrap64 (x82_5 + 1)), (by first | rfl | (simp; done) | (simp [*]; done)), H', ⟨by have := HJ3.out; have := HJ15.out; have := HJ23.out; have := HK4.out; have := HK5.out; omega⟩, ⟨by (with_reducible repeat (first | apply Kd.R_alloc | apply Kd.R_drewN | apply Kd.R_drew)); exact HO_70.out⟩, ⟨by (with_reducible repeat (first | apply Kd.R_alloc | apply Kd.R_drewN | apply Kd.R_drew)); exact HO_80.out⟩, ⟨by repeat (first | (with_reducible first | exact HB.out | apply below_alloc | apply pw_below_drewN | apply below_drew1) | exact HB.out)⟩⟩
                                                      · rw [if_neg c68] at H
                                                        exact absurd H (by simp)
                                                    · rw [if_neg c67] at H
                                                      exact absurd H (by simp)
                                                  · rw [if_neg c66] at H
                                                    exact absurd H (by simp)
                                                · rw [if_neg c65] at H
                                                  exact absurd H (by simp)
                                              · rw [if_neg c64] at H
                                                have c64b0 : decide (x82_5 < (y158.length : Int)) = false := decide_eq_false c64
                                                clear c64
                                                have H' := Aside0.mk H
                                                clear H
                                                go_wp2
                                                go_roundg k5
                                                case measure => have := HJ3.out; have := HJ15.out; have := HJ23.out; have := HK4.out; have := HK5.out; omega
                                                case rel => exact ⟨(wrap64 (x72_4 + 1)), (by first | rfl | (simp; done) | (simp [*]; done)), H', ⟨by have := HJ3.out; have := HJ15.out; have := HJ23.out; have := HK4.out; have := HK5.out; omega⟩, ⟨by (with_reducible repeat (first | apply Kd.R_alloc | apply Kd.R_drewN | apply Kd.R_drew)); exact Kd.R_mono HO_70.out (fun _ hk => trivial)⟩, ⟨by repeat (first | (with_reducible first | exact HB.out | apply below_alloc | apply pw_below_drewN | apply below_drew1) | exact HB.out)⟩⟩
                                        · rw [if_neg c60] at H
                                          exact absurd H (by simp)
                                      · rw [if_neg c59] at H
                                        exact absurd H (by simp)
                                    · rw [if_neg c58] at H
                                      exact absurd H (by simp)
                                  · rw [if_neg c57] at H
                                    exact absurd H (by simp)
                                · rw [if_neg c56] at H
                                  have c56b0 : decide (x72_4 < (y154.length : Int)) = false := decide_eq_false c56
                                  clear c56
                                  obtain rfl := Option.some.inj H
                                  go_wp2
                                  go_ret
                                  exact ⟨by first | rfl | (simp [errW_none, errW_some] <;> rfl) | (simp [*, errW_none, errW_some] <;> rfl), by repeat (first | (with_reducible first | exact HB.out | apply below_alloc | apply pw_below_drewN | apply below_drew1) | exact HB.out)⟩
                          · rw [if_neg c52] at H
                            exact absurd H (by simp)
                        · rw [if_neg c51] at H
                          exact absurd H (by simp)
                · rw [if_neg c22] at H
                  exact absurd H (by simp)
              · rw [if_neg c21] at H
                exact absurd H (by simp)
            · rw [if_neg c20] at H
              exact absurd H (by simp)
end Go.Proofs.YthebhbomlllpeaaDoor.X
namespace Go.Proofs.YthebhbomlllpeaaDoor.X
set_option linter.unusedVariables false
set_option linter.unusedSimpArgs false
open Go.RowKit Go.Proofs.YthebhbomlllpeaaDoorW.PrintWords Go.Proofs.YthebhbomlllpeaaDoorW.PrintLast Go.Proofs.YthebhbomlllpeaaDoorW.PrintMore
theorem push1_bot {st st' : List Pc} {x : StS} (b : List Pc) (h : push1 st x = some st') : push1 (st ++ b) x = some (st' ++ b) := by
  unfold push1 at h ⊢
  split at h
  · cases h
  rename_i h1
  rw [if_neg h1]
  split at h
  · rename_i h2
    rw [if_pos h2]
    split at h
    · cases h
    rename_i h3
    rw [if_neg h3]
    injection h with h
    subst h; rfl
  · rename_i h2
    rw [if_neg h2]
    split at h
    · cases h
    rename_i h3
    rw [if_neg h3]
    cases st with
    | nil => cases h
    | cons p r =>
      simp only [List.cons_append] at h ⊢
      split at h
      · rename_i h4
        rw [if_pos h4]
        cases r with
        | nil => cases h
        | cons a r =>
          simp only [List.cons_append] at h ⊢
          split at h
          · rename_i h5
            rw [if_pos h5]
            injection h with h
            subst h; rfl
          · rename_i h5
            rw [if_neg h5]
            injection h with h
            subst h; rfl
      · rename_i h4
        rw [if_neg h4]
        injection h with h
        subst h; rfl
theorem pushes_bot (b : List Pc) : ∀ (l : List StS) (st st' : List Pc), pushes st l = some st' → pushes (st ++ b) l = some (st' ++ b)
  | [], st, st', h => by
    injection h with h
    subst h; rfl
  | x :: l, st, st', h => by
    simp only [pushes] at h ⊢
    cases h1 : push1 st x with
    | none => rw [h1] at h; cases h
    | some s =>
      rw [h1, Option.bind_some] at h
      rw [push1_bot b h1, Option.bind_some]
      exact pushes_bot b l s st' h
theorem pathL_one {l : List StS} (h : pathL l ≠ []) : ∃ p, pushes [] l = some [p] ∧ pathL l = p.1 := by
  unfold pathL at h
  split at h
  · exact absurd rfl h
  rename_i h100
  split at h
  · rename_i p hp
    split at h
    · exact absurd rfl h
    rename_i h32
    refine ⟨p, hp, ?_⟩
    unfold pathL
    rw [if_neg h100, hp]
    exact if_neg h32
  · exact absurd rfl h
theorem pathL_of {l : List StS} {p : Pc} (h : pathL l ≠ []) (hp : pushes [] l = some [p]) : pathL l = p.1 := by
  obtain ⟨q, hq, e⟩ := pathL_one h
  rw [hp] at hq
  injection hq with hq
  injection hq with hq
  rw [e, hq]
theorem join_none {p : List StS} (h : pathL p ≠ []) : pathL (p ++ [⟨3, ⟨#[]⟩⟩]) = [] := by
  obtain ⟨x, hx, _⟩ := pathL_one h
  have : pushes [] (p ++ [⟨3, ⟨#[]⟩⟩]) = none := by
    rw [pushes_app, hx, Option.bind_some]
    rfl
  unfold pathL
  rw [this]
  split <;> rfl
theorem join_some {p q : List StS} (hp : pathL p ≠ []) (hq : pathL q ≠ []) (k : Int) (hk : k = 3 ∨ k = 4) (hs : pathL (p ++ q ++ [⟨k, ⟨#[]⟩⟩]) ≠ []) :
    ∃ a b, (a = pathL p ∨ a = [40] ++ (pathL p ++ [41])) ∧ (b = pathL q ∨ b = [40] ++ (pathL q ++ [41])) ∧ pathL (p ++ q ++ [⟨k, ⟨#[]⟩⟩]) = a ++ ((if k = 3 then [47] else [124]) ++ b) := by
  obtain ⟨x, hx, ex⟩ := pathL_one hp
  obtain ⟨y, hy, ey⟩ := pathL_one hq
  have h2 : pushes [x] q = some [y, x] := pushes_bot [x] q [] [y] hy
  have least : ∀ (z : Pc) (n : Int) (w : List UInt8), w = z.1 → leastL z n = w ∨ leastL z n = [40] ++ (w ++ [41]) := fun z n w e => by
    subst e
    unfold leastL
    split
    · exact .inr rfl
    · exact .inl rfl
  rcases hk with rfl | rfl
  · have h3 : pushes [] (p ++ q ++ [⟨3, ⟨#[]⟩⟩]) = some [(leastL x 2 ++ (markL 3 ++ leastL y 3), 2)] := by
      rw [pushes_app, pushes_app, hx, Option.bind_some, h2, Option.bind_some]
      rfl
    exact ⟨leastL x 2, leastL y 3, least x 2 _ ex, least y 3 _ ey, pathL_of hs h3⟩
  · have h3 : pushes [] (p ++ q ++ [⟨4, ⟨#[]⟩⟩]) = some [(x.1 ++ (markL 4 ++ leastL y 2), 1)] := by
      rw [pushes_app, pushes_app, hx, Option.bind_some, h2, Option.bind_some]
      rfl
    exact ⟨x.1, leastL y 2, .inl ex.symm, least y 2 _ ey, pathL_of hs h3⟩
theorem okS_of {l : List StS} (h : ∀ x ∈ l, okStep x = true) (hl : l.length ≤ 1000) : okSB l = true := by
  refine okSB_of.2 ⟨fun x hx => ?_, by omega⟩
  have := h x hx
  unfold okStep at this
  rw [Bool.and_eq_true] at this
  exact of_decide_eq_true this.2
theorem path_f {l : List StS} (h : ∀ x ∈ l, okStep x = true) (hl : l.length ≤ 1000) : show_Path.f l = some (baL (pathL l)) := by
  unfold show_Path.f
  rw [if_pos (okS_of h hl)]
theorem okStep_mark (k : Int) (hk : k = 3 ∨ k = 4) : okStep ⟨k, ⟨#[]⟩⟩ = true := by
  rcases hk with rfl | rfl <;> decide
theorem ok_app {a b : List StS} (ha : ∀ x ∈ a, okStep x = true) (hb : ∀ x ∈ b, okStep x = true) : ∀ x ∈ a ++ b, okStep x = true := fun x hx => by
  rcases List.mem_append.1 hx with h | h
  · exact ha x h
  · exact hb x h
theorem ok_one {k : Int} (hk : k = 3 ∨ k = 4) : ∀ x ∈ ([⟨k, ⟨#[]⟩⟩] : List StS), okStep x = true := fun x hx => by
  rw [List.mem_singleton] at hx
  rw [hx]
  exact okStep_mark k hk
theorem baL_nil (l : List UInt8) : (baL l).toList = [] ↔ l = [] := by rw [baL_toList]
theorem rd_two0 (a b : ByteArray) : rdOf ByteArray.empty [a, b] 0 = a := rfl
theorem rd_two1 (a b : ByteArray) : rdOf ByteArray.empty [a, b] 1 = b := rfl
theorem joins_l1 (k : Nat) (x8 s x10 a b0 b1 : ByteArray) (x70 : List ByteArray) (x71 x72 : Int) (ha : a.size ≤ 10000) (h10 : x10.size ≤ 10) (hb0 : b0.size ≤ 10000) (hb1 : b1.size ≤ 10000) :
    antecedentlaw09_ShowJoins.l1 (k + 3) x8 x10 s a x70 x71 x72 [b0, b1] 2 0 = if s.toList = ((a ++ x10) ++ b0).toList then some true else if s.toList = ((a ++ x10) ++ b1).toList then some true else antecedentlaw09_ShowJoins.l0 k x8 x10 s x70 x71 (wrap64 (x72 + 1)) := by
  have hw0 : wrap64 ((0 : Int) + 1) = 1 := by unfold wrap64; omega
  have hw1 : wrap64 ((1 : Int) + 1) = 2 := by unfold wrap64; omega
  simp only [antecedentlaw09_ShowJoins.l1, rd_two0, hw0, List.length_cons, List.length_nil]
  rw [if_pos (by decide), if_pos (by decide), if_pos (by decide), if_pos (by omega), if_pos (by omega)]
  congr 1
  rw [if_pos (by decide), if_pos (by decide), if_pos (by decide), if_pos (by omega), rd_two1, if_pos (by omega), hw1]
  congr 1
theorem joins_l0 (k : Nat) (a b x10 s : ByteArray) (ha : a.size ≤ 5000) (hb : b.size ≤ 5000) (h10 : x10.size ≤ 10)
    (h : ∃ x y, (x = a ∨ x = ((⟨#[40]⟩ : ByteArray) ++ a) ++ (⟨#[41]⟩ : ByteArray)) ∧ (y = b ∨ y = ((⟨#[40]⟩ : ByteArray) ++ b) ++ (⟨#[41]⟩ : ByteArray)) ∧ s = (x ++ x10) ++ y) :
    antecedentlaw09_ShowJoins.l0 (k + 8) b x10 s [a, ((⟨#[40]⟩ : ByteArray) ++ a) ++ (⟨#[41]⟩ : ByteArray)] 2 0 = some true := by
  have sz : ∀ z : ByteArray, (((⟨#[40]⟩ : ByteArray) ++ z) ++ (⟨#[41]⟩ : ByteArray)).size = z.size + 2 := fun z => by
    simp only [ByteArray.size_append]
    show 1 + z.size + 1 = z.size + 2
    omega
  have hw0 : wrap64 ((0 : Int) + 1) = 1 := by unfold wrap64; omega
  obtain ⟨L, hL⟩ : ∃ L, [a, ((⟨#[40]⟩ : ByteArray) ++ a) ++ (⟨#[41]⟩ : ByteArray)] = L := ⟨_, rfl⟩
  have hlen : (L.length : Int) = 2 := by rw [← hL]; rfl
  have h0 : rdOf ByteArray.empty L 0 = a := by rw [← hL]; rfl
  have h1 : rdOf ByteArray.empty L 1 = ((⟨#[40]⟩ : ByteArray) ++ a) ++ (⟨#[41]⟩ : ByteArray) := by rw [← hL]; rfl
  rw [hL]
  have A : antecedentlaw09_ShowJoins.l0 (k + 8) b x10 s L 2 0 = antecedentlaw09_ShowJoins.l1 (k + 4 + 3) b x10 s a L 2 0 [b, ((⟨#[40]⟩ : ByteArray) ++ b) ++ (⟨#[41]⟩ : ByteArray)] 2 0 := by
    rw [show k + 8 = (k + 4 + 3) + 1 from rfl]
    simp only [antecedentlaw09_ShowJoins.l0, h0, hlen]
    rw [if_pos (by omega), if_pos (by omega), if_pos (by omega), if_pos (by omega), if_pos (by omega)]
    rfl
  have B : antecedentlaw09_ShowJoins.l0 (k + 4) b x10 s L 2 1 = antecedentlaw09_ShowJoins.l1 (k + 3) b x10 s (((⟨#[40]⟩ : ByteArray) ++ a) ++ (⟨#[41]⟩ : ByteArray)) L 2 1 [b, ((⟨#[40]⟩ : ByteArray) ++ b) ++ (⟨#[41]⟩ : ByteArray)] 2 0 := by
    rw [show k + 4 = (k + 3) + 1 from rfl]
    simp only [antecedentlaw09_ShowJoins.l0, h1, hlen]
    rw [if_pos (by omega), if_pos (by omega), if_pos (by omega), if_pos (by omega), if_pos (by omega)]
    rfl
  rw [A, joins_l1 (k + 4) b s x10 a b _ L 2 0 (by omega) h10 (by omega) (by rw [sz]; omega), hw0, B, joins_l1 k b s x10 _ b _ L 2 1 (by rw [sz]; omega) h10 (by omega) (by rw [sz]; omega)]
  clear A B hL hlen h0 h1
  obtain ⟨x, y, hx, hy, rfl⟩ := h
  split
  · rfl
  rename_i n1
  split
  · rfl
  rename_i n2
  split
  · rfl
  rename_i n3
  split
  · rfl
  rename_i n4
  rcases hx with rfl | rfl
  · rcases hy with rfl | rfl
    · exact absurd rfl n1
    · exact absurd rfl n2
  · rcases hy with rfl | rfl
    · exact absurd rfl n3
    · exact absurd rfl n4
theorem joins_j2 (k : Nat) (p : List StS) (hp : ∀ x ∈ p, okStep x = true) (hl : p.length ≤ 40) (x8 x10 s : ByteArray) : antecedentlaw09_ShowJoins.j2 (k + 1) p (baL (pathL p)) x8 x10 s true = some true := by
  simp only [antecedentlaw09_ShowJoins.j2, if_true, Option.bind_some, List.nil_append, List.length_nil]
  rw [if_pos (by omega), if_pos (by omega), path_f (ok_app hp (ok_one (.inl rfl))) (by simp; omega), Option.bind_some]
  by_cases h : pathL p = []
  · rw [h]
    split
    · rfl
    · rw [show ((baL []).toList == ([] : List UInt8)) = true from beq_iff_eq.2 ((baL_nil _).2 rfl)]
  · rw [join_none h, if_pos ((baL_nil _).2 rfl)]
theorem pureShowJoins (p : List S45) (hp : ∀ x ∈ p, okStep x = true) (q : List S45) (hq : ∀ x ∈ q, okStep x = true) (o : Bool) : ∃ k, antecedentlaw09_ShowJoins.f k p q o = some true := by
  refine ⟨30, ?_⟩
  have haw : antecedentlaw09_awake.f = some true := rfl
  have hj0 : antecedentlaw09_ShowJoins.j0 30 p q o true = some true := by
    simp only [antecedentlaw09_ShowJoins.j0, if_true, haw, Option.bind_some]
  unfold antecedentlaw09_ShowJoins.f
  rw [haw, Option.bind_some, if_pos rfl]
  split
  · exact hj0
  rename_i h1
  cases hd : decide ((q.length : Int) > 40) with
  | true => exact hj0
  | false =>
    have h2 := of_decide_eq_false hd
    simp only [antecedentlaw09_ShowJoins.j0, Bool.false_eq_true, if_false]
    rw [path_f hp (by omega), Option.bind_some, path_f hq (by omega), Option.bind_some]
    have main : ∀ (k : Int) (sg : UInt8), (k = 3 ∧ sg = 47) ∨ (k = 4 ∧ sg = 124) → antecedentlaw09_ShowJoins.j1 29 p q (baL (pathL p)) (baL (pathL q)) k ⟨#[sg]⟩ = some true := fun k sg hk => by
      have hk3 : k = 3 ∨ k = 4 := by rcases hk with ⟨h, _⟩ | ⟨h, _⟩ <;> simp [h]
      simp only [antecedentlaw09_ShowJoins.j1, Option.bind_some, List.nil_append, List.length_nil, List.length_append]
      rw [if_pos (by omega), if_pos (by omega), if_pos (by omega), path_f (ok_app (ok_app hp hq) (ok_one hk3)) (by simp; omega), Option.bind_some]
      by_cases ha : pathL p = []
      · rw [if_pos ((baL_nil _).2 ha)]
        exact joins_j2 27 p hp (by omega) _ _ _
      rw [if_neg (fun h => ha ((baL_nil _).1 h))]
      by_cases hb : pathL q = []
      · rw [if_pos ((baL_nil _).2 hb)]
        exact joins_j2 27 p hp (by omega) _ _ _
      rw [if_neg (fun h => hb ((baL_nil _).1 h))]
      by_cases hs : pathL (p ++ q ++ [⟨k, ⟨#[]⟩⟩]) = []
      · rw [show ((baL (pathL (p ++ q ++ [⟨k, ⟨#[]⟩⟩]))).toList == ([] : List UInt8)) = true from beq_iff_eq.2 ((baL_nil _).2 hs)]
        exact joins_j2 27 p hp (by omega) _ _ _
      rw [show ((baL (pathL (p ++ q ++ [⟨k, ⟨#[]⟩⟩]))).toList == ([] : List UInt8)) = false from beq_eq_false_iff_ne.2 (fun h => hs ((baL_nil _).1 h))]
      have la := pathL_len p
      have lb := pathL_len q
      obtain ⟨a, b, h1, h2, e⟩ := join_some ha hb k hk3 hs
      have hsg : (if k = 3 then ([47] : List UInt8) else [124]) = [sg] := by rcases hk with ⟨rfl, rfl⟩ | ⟨rfl, rfl⟩ <;> rfl
      rw [hsg] at e
      simp only [antecedentlaw09_ShowJoins.j2, Bool.false_eq_true, if_false, baL_size]
      rw [if_pos (by omega), if_pos (by omega), Option.bind_some]
      have r40 : ∀ z : List UInt8, ((⟨#[40]⟩ : ByteArray) ++ baL z) ++ (⟨#[41]⟩ : ByteArray) = baL ([40] ++ (z ++ [41])) := fun z => ba_eq (by simp)
      refine joins_l0 19 (baL (pathL p)) (baL (pathL q)) ⟨#[sg]⟩ _ (by rw [baL_size]; exact la) (by rw [baL_size]; exact lb) (by show 1 ≤ 10; omega) ⟨baL a, baL b, ?_, ?_, ?_⟩
      · rcases h1 with rfl | rfl
        · exact .inl rfl
        · exact .inr (r40 _).symm
      · rcases h2 with rfl | rfl
        · exact .inl rfl
        · exact .inr (r40 _).symm
      · rw [e]
        exact ba_eq (by simp)
    cases o with
    | true => exact main 4 124 (.inr ⟨rfl, rfl⟩)
    | false => exact main 3 47 (.inl ⟨rfl, rfl⟩)
end Go.Proofs.YthebhbomlllpeaaDoor.X
