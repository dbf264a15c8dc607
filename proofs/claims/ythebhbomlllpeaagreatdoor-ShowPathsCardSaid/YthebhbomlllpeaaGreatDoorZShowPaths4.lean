/-
  ShowPaths: what the proof needs, put together by a program of this session (shake.py), part 4.
-/
import Derived.Test.YthebhbomlllpeaaGreatDoorCards
import Derived.Test.YthebhbomlllpeaaGreatDoorTie
import Derived.Test.YthebhbomlllpeaaGreatDoorProg
import Derived.Below
import Derived.Deep.Draws
import Derived.Deep.AppendLies
import Derived.Maps.AppendAt
import Derived.OwnWalk
import Derived.Laws.BytesArg
import Derived.Laws.MakeOwn
import Derived.Laws.OwnMore
import Derived.Deep.OwnRows
import Derived.Tactics
import Derived.Lib.ConvBytes
import Derived.Laws.Slices
import Derived.WalkKit
import Derived.KernelRfl
import Derived.RowKit3
import Derived.Deep.LoopGhost
import Derived.Deep.QuietTactic
import Derived.BigQuiet
import Derived.WideLaws
import Derived.Deep.DeepCutAuto
import Derived.Deep.CutBlock
import Derived.Deep.RegionHeld3
import Derived.Laws.Rows
import Derived.Lib.AppendStr
import Derived.ArgAppend
import Derived.Laws.IdiomCopy
import Derived.OrdersHeld
import Derived.Laws.BitsLemmas
import Derived.RowKit
import Derived.Lib.SmallJoins
import Derived.Lib.ItoaMem
import Derived.Laws.StructEq
import Derived.Test.YthebhbomlllpeaaGreatDoorRows
import Derived.Deep.Slices
import Derived.Deep.Fields
import Derived.ChangeSame
import Derived.ProofKit
import Derived.OpenShut
import Derived.Deep.DeepHandedRow
import Derived.Lib.LaidTab
import Derived.LaidMore
import Derived.Stop.LaidErr
import Derived.MakeChecks
import Derived.WalkLawsBesides
import Derived.StillTailTactics
import Derived.Laws.NewBlocks
import Derived.Shelf.Strings.Builder1
import Derived.Shelf.Strings.Builder2
import Derived.Shelf.Strings.OnBuilder
import Derived.Shelf.Small.Strs
import Derived.Shelf.Small.Wraps
import Derived.Shelf.Strings.BuilderF
import Derived.Shelf.Strings.BuilderK
import Derived.Shelf.Strings.Builder2Cap
import Derived.Shelf.Strconv.Itoa0
import Derived.Shelf.Strconv.Itoa1
import Derived.Shelf.LaysM
import Derived.Shelf.Strconv.Itoa2
import Derived.Shelf.Strconv.Itoa3
import Derived.Shelf.Strconv.Itoa4
import Derived.Shelf.Strconv.ParseIntEmpty
import Derived.Shelf.Strconv.Clone
import Derived.Shelf.Strconv.SyntaxError
import Derived.Shelf.LaysC
import Derived.Shelf.Strconv.ToError
import Derived.Shelf.Strconv.Lower
import Derived.Shelf.Strconv.ParseUint10
import Derived.Shelf.Strconv.ParseUint10Empty
import Derived.Shelf.Strconv.ParseUint10Any
import Derived.Shelf.Strconv.ParseInt10
import Derived.Shelf.Strconv.RangeError
import Derived.Shelf.Strconv.ToErrorRange
import Derived.Shelf.Strconv.ParseUintEmpty
import Derived.Shelf.Strconv.ParseUint10b64
import Derived.Shelf.Strconv.ParseUint10b32
import Derived.Shelf.Strconv.ParseUint10b16
import Derived.Shelf.Strconv.ParseUint10b8
import Derived.Shelf.Strconv.ParseUint10At
import Derived.Shelf.Strconv.ParseInt10At64
import Derived.Shelf.Strconv.ParseInt10At32
import Derived.Shelf.Strconv.ParseInt10At16
import Derived.Shelf.Strconv.ParseInt10At8
import Derived.Shelf.Strconv.ParseInt10All
import Derived.Shelf.Strconv.ParseIntPublic10
import Derived.Shelf.Strconv.ErrVarParseInt
import Derived.Ground.MpProg
import Derived.Shelf.Pu.ParseUintPublic10
import Derived.Shelf.Pu.ErrVarParseUint
import Derived.Shelf.Strings.Search1
import Derived.Shelf.Strings.Prefix
import Derived.Shelf.Bits.Mul64
import Derived.Shelf.Strings.Repeat
import Derived.Shelf.Strings.BuilderCap
import Derived.Lib.AtoiAllMem
import Derived.Lib.ParseIntB
import Derived.Lib.Hide
import Derived.Laws.Strings3
import Derived.Laws.Closers25
import Derived.Laws.Closers25b
import Derived.BigCall
import Derived.BigGuard
import Derived.Laws.RangeAny
import Derived.Laws.RangeString
import Derived.Lib.ParseIntBTie
import Init
import Derived.LoopN
import Derived.WalkMore
import Derived.Deep.MidRow
import Derived.Recover
import Derived.Deep.DrawnRows
import Derived.Test.YthebhbomlllpeaaGreatDoorZShowPaths3
namespace Go.Proofs.YthebhbomlllpeaaGreatDoor.X
open Go.RowKit Go.Proofs.YthebhbomlllpeaaGreatDoorW.PrintWords Go.Proofs.YthebhbomlllpeaaGreatDoorW.PrintLast Go.Proofs.YthebhbomlllpeaaGreatDoorW.PrintMore
attribute [local go_sem] max2_int min2_int max_two min_two max_three min_three max_four min_four
set_option linter.unusedVariables false
set_option linter.unusedSimpArgs false
def show_predicate.f (k : Nat) (a0 : ByteArray) : Option (Bool) := (value_Name.f k a0).bind fun t119 => (if t119 = true then ((lex_Key.f a0).bind fun t120 => (some (!t120))) else (some false))
set_option maxHeartbeats 8000000 in
set_option maxRecDepth 100000 in
theorem show_predicate.calls (k : Nat) (a0 : ByteArray) (r : Bool) (w : World) (h : show_predicate.f k a0 = some r) :
    Calls Tryz.prog 72 #[.string a0] w fun e w' => e = .returned (.bool r) ∧ Drawn0 w w' := by
  have H : ((value_Name.f k a0).bind fun t119 => (if t119 = true then ((lex_Key.f a0).bind fun t120 => (some (!t120))) else (some false))) = some r := h
  clear h
  replace H := Option.bind_eq_some_iff.mp H
  obtain ⟨t119, A20, H⟩ := H
  replace H : (if t119 = true then ((lex_Key.f a0).bind fun t120 => (some (!t120))) else (some false)) = some r := H
  have A2 := Aside0.mk A20
  clear A20
  by_cases c3 : t119 = true
  · subst c3
    have H1 : ((lex_Key.f a0).bind fun t120 => (some (!t120))) = some r := by rw [if_pos rfl] at H; exact H
    clear H
    have H := H1
    clear H1
    replace H := Option.bind_eq_some_iff.mp H
    obtain ⟨t120, A40, H⟩ := H
    replace H : (some (!t120)) = some r := H
    have A4 := Aside0.mk A40
    clear A40
    obtain rfl := Option.some.inj H
    go_enter Tryz.func72, Tryz.ntmps72
    go_wp2_with (first | ((with_reducible refine gate_callee (f := 108) rfl ?_); refine goesL_ (some 4) rfl rfl Tryz.func108 (by kernel_rfl) rfl #[.string a0] rfl (by (try simp only [List.map_toArray, List.map_cons, List.map_nil]); first | done | rfl | (simp only [List.length_drop, List.length_take]; rfl)) ?_; (with_reducible refine (value_Name.calls k a0 true _ A2.out).mono ?_); rintro e w' ⟨rfl, ⟨nd, rfl⟩⟩; refine ⟨_, rfl, ?_⟩) | (go_at_call 85; (with_reducible refine (lex_Key.calls a0 t120 _ A4.out).mono ?_); rintro e w' ⟨rfl, ⟨nd, rfl⟩⟩))
    go_ret
    exact ⟨by first | rfl | (simp; done) | (simp [*]; done), by repeat (first | exact Drawn0.refl _ | apply Drawn0.step)⟩
  · replace c3 := Bool.eq_false_iff.mpr c3
    subst c3
    have H1 : (some false) = some r := by rw [if_neg (show ¬ (false = true) by decide)] at H; exact H
    clear H
    have H := H1
    clear H1
    obtain rfl := Option.some.inj H
    go_enter Tryz.func72, Tryz.ntmps72
    go_wp2_with (first | ((with_reducible refine gate_callee (f := 108) rfl ?_); refine goesL_ (some 4) rfl rfl Tryz.func108 (by kernel_rfl) rfl #[.string a0] rfl (by (try simp only [List.map_toArray, List.map_cons, List.map_nil]); first | done | rfl | (simp only [List.length_drop, List.length_take]; rfl)) ?_; (with_reducible refine (value_Name.calls k a0 false _ A2.out).mono ?_); rintro e w' ⟨rfl, ⟨nd, rfl⟩⟩; refine ⟨_, rfl, ?_⟩))
    go_ret
    exact ⟨by first | rfl | (simp; done) | (simp [*]; done), by repeat (first | exact Drawn0.refl _ | apply Drawn0.step)⟩
def show_label.f (k : Nat) (a0_0 : Int) (a0_1 : ByteArray) : Option (ByteArray) := (show_predicate.f k a0_1).bind fun t122 => (if t122 = true then (if a0_0 = 2 then (if 1 + a0_1.size ≤ 9223372036854775807 then (some ((⟨#[94]⟩ : ByteArray) ++ a0_1)) else (none)) else (if a0_0 = 1 then (some a0_1) else (some (⟨#[]⟩ : ByteArray)))) else (some (⟨#[]⟩ : ByteArray)))
set_option maxHeartbeats 8000000 in
set_option maxRecDepth 100000 in
theorem show_label.calls (k : Nat) (a0_0 : Int) (a0_1 : ByteArray) (r : ByteArray) (w : World) (h : show_label.f k a0_0 a0_1 = some r) :
    Calls Tryz.prog 50 #[.agg #[.int .i64 a0_0, .string a0_1]] w fun e w' => e = .returned (.string r) ∧ Below w.heap.size w w' := by
  have hu69 := Tryz.underlying69
  have HB := Aside0.mk (Below.refl w.heap.size w)
  have H : ((show_predicate.f k a0_1).bind fun t122 => (if t122 = true then (if a0_0 = 2 then (if 1 + a0_1.size ≤ 9223372036854775807 then (some ((⟨#[94]⟩ : ByteArray) ++ a0_1)) else (none)) else (if a0_0 = 1 then (some a0_1) else (some (⟨#[]⟩ : ByteArray)))) else (some (⟨#[]⟩ : ByteArray)))) = some r := h
  clear h
  replace H := Option.bind_eq_some_iff.mp H
  obtain ⟨t122, A20, H⟩ := H
  replace H : (if t122 = true then (if a0_0 = 2 then (if 1 + a0_1.size ≤ 9223372036854775807 then (some ((⟨#[94]⟩ : ByteArray) ++ a0_1)) else (none)) else (if a0_0 = 1 then (some a0_1) else (some (⟨#[]⟩ : ByteArray)))) else (some (⟨#[]⟩ : ByteArray))) = some r := H
  have A2 := Aside0.mk A20
  clear A20
  by_cases c3 : t122 = true
  · subst c3
    have H1 : (if a0_0 = 2 then (if 1 + a0_1.size ≤ 9223372036854775807 then (some ((⟨#[94]⟩ : ByteArray) ++ a0_1)) else (none)) else (if a0_0 = 1 then (some a0_1) else (some (⟨#[]⟩ : ByteArray)))) = some r := by rw [if_pos rfl] at H; exact H
    clear H
    have H := H1
    clear H1
    by_cases c4 : a0_0 = 2
    · rw [if_pos c4] at H
      have c4b0 : (a0_0 == 2) = true := beq_iff_eq.mpr c4
      have c4b1 : (a0_0 != 2) = false := bne_eq_false_iff_eq.mpr c4
      clear c4
      by_cases c5 : 1 + a0_1.size ≤ 9223372036854775807
      · rw [if_pos c5] at H
        have c5b0 := eq_true c5
        have c5b1 : decide (1 + a0_1.size ≤ 9223372036854775807) = true := decide_eq_true c5
        try have c5b2 : (9223372036854775807 < 1 + a0_1.size) = False := eq_false (Nat.not_lt.2 c5)
        obtain rfl := Option.some.inj H
        go_enter Tryz.func50, Tryz.ntmps50
        go_wp2_with (first | ((with_reducible refine gate_dst (N := 1) rfl ?_); refine box_event ?hg (N := 1) ?hd (cs := #[.int .i64 a0_0, .string a0_1]) (t := 69) ?hr ?_; (case hd => rfl); (case hg => rfl); (case hr => first | (go_simp; done) | (go_simp; rfl)); intro gb121 hg w6 hbox hb; have n0_ := Aside0.mk (below_step (by repeat (first | (with_reducible first | exact HB.out | apply below_alloc | apply pw_below_drewN | apply below_drew1) | exact HB.out)) hb); have n1_ := Aside0.mk (hbox); have n2_ := Aside0.mk ((by rw [hg]; exact (below_size (by repeat (first | (with_reducible first | exact HB.out | apply below_alloc | apply pw_below_drewN | apply below_drew1) | exact HB.out))) : w.heap.size ≤ gb121)); have n3_ := Aside0.mk ((by rw [hg]; exact (below_size (by repeat (first | (with_reducible first | exact HB.out | apply below_alloc | apply pw_below_drewN | apply below_drew1) | exact HB.out))) : w.heap.size ≤ gb121)); clear HB; have HB := n0_; have BK121 := n1_; have GW121 := n2_; have GE121 := n3_; clear n0_ n1_ n2_ n3_; clear hb hbox hg; have hcz7_0 : w6.cell? ⟨gb121, 0, none⟩ = some (.int .i64 a0_0) := (blk_cell BK121.out 0).trans rfl; have hcz7_1 : w6.cell? ⟨gb121, 1, none⟩ = some (.string a0_1) := (blk_cell BK121.out 1).trans rfl; have hfz7_0 := blk_frozen BK121.out 0; have hfz7_1 := blk_frozen BK121.out 1) | ((with_reducible refine gate_callee (f := 72) rfl ?_); refine goesL_ (some 6) rfl rfl Tryz.func72 (by kernel_rfl) rfl #[.string a0_1] rfl (by (try simp only [List.map_toArray, List.map_cons, List.map_nil]); first | done | rfl | (simp only [List.length_drop, List.length_take]; rfl)) ?_; (with_reducible refine (show_predicate.calls k a0_1 true _ A2.out).mono ?_); rintro e w' ⟨rfl, ⟨nd, rfl⟩⟩; refine ⟨_, rfl, ?_⟩))
        go_ret
        exact ⟨by first | rfl | (simp [errW_none, errW_some] <;> rfl) | (simp [*, errW_none, errW_some] <;> rfl), by repeat (first | (with_reducible first | exact HB.out | apply below_alloc | apply pw_below_drewN | apply below_drew1 | refine below_set ?_ GE121.out) | exact HB.out)⟩
      · rw [if_neg c5] at H
        exact absurd H (by simp)
    · rw [if_neg c4] at H
      have c4b0 : (a0_0 == 2) = false := beq_eq_false_iff_ne.mpr c4
      have c4b1 : (a0_0 != 2) = true := bne_iff_ne.mpr c4
      by_cases c8 : a0_0 = 1
      · rw [if_pos c8] at H
        have c8b0 : (a0_0 == 1) = true := beq_iff_eq.mpr c8
        have c8b1 : (a0_0 != 1) = false := bne_eq_false_iff_eq.mpr c8
        clear c8
        obtain rfl := Option.some.inj H
        go_enter Tryz.func50, Tryz.ntmps50
        go_wp2_with (first | ((with_reducible refine gate_dst (N := 1) rfl ?_); refine box_event ?hg (N := 1) ?hd (cs := #[.int .i64 a0_0, .string a0_1]) (t := 69) ?hr ?_; (case hd => rfl); (case hg => rfl); (case hr => first | (go_simp; done) | (go_simp; rfl)); intro gb121 hg w9 hbox hb; have n0_ := Aside0.mk (below_step (by repeat (first | (with_reducible first | exact HB.out | apply below_alloc | apply pw_below_drewN | apply below_drew1) | exact HB.out)) hb); have n1_ := Aside0.mk (hbox); have n2_ := Aside0.mk ((by rw [hg]; exact (below_size (by repeat (first | (with_reducible first | exact HB.out | apply below_alloc | apply pw_below_drewN | apply below_drew1) | exact HB.out))) : w.heap.size ≤ gb121)); have n3_ := Aside0.mk ((by rw [hg]; exact (below_size (by repeat (first | (with_reducible first | exact HB.out | apply below_alloc | apply pw_below_drewN | apply below_drew1) | exact HB.out))) : w.heap.size ≤ gb121)); clear HB; have HB := n0_; have BK121 := n1_; have GW121 := n2_; have GE121 := n3_; clear n0_ n1_ n2_ n3_; clear hb hbox hg; have hcz10_0 : w9.cell? ⟨gb121, 0, none⟩ = some (.int .i64 a0_0) := (blk_cell BK121.out 0).trans rfl; have hcz10_1 : w9.cell? ⟨gb121, 1, none⟩ = some (.string a0_1) := (blk_cell BK121.out 1).trans rfl; have hfz10_0 := blk_frozen BK121.out 0; have hfz10_1 := blk_frozen BK121.out 1) | ((with_reducible refine gate_callee (f := 72) rfl ?_); refine goesL_ (some 6) rfl rfl Tryz.func72 (by kernel_rfl) rfl #[.string a0_1] rfl (by (try simp only [List.map_toArray, List.map_cons, List.map_nil]); first | done | rfl | (simp only [List.length_drop, List.length_take]; rfl)) ?_; (with_reducible refine (show_predicate.calls k a0_1 true _ A2.out).mono ?_); rintro e w' ⟨rfl, ⟨nd, rfl⟩⟩; refine ⟨_, rfl, ?_⟩))
        go_ret
        exact ⟨by first | rfl | (simp [errW_none, errW_some] <;> rfl) | (simp [*, errW_none, errW_some] <;> rfl), by repeat (first | (with_reducible first | exact HB.out | apply below_alloc | apply pw_below_drewN | apply below_drew1 | refine below_set ?_ GE121.out) | exact HB.out)⟩
      · rw [if_neg c8] at H
        have c8b0 : (a0_0 == 1) = false := beq_eq_false_iff_ne.mpr c8
        have c8b1 : (a0_0 != 1) = true := bne_iff_ne.mpr c8
        obtain rfl := Option.some.inj H
        go_enter Tryz.func50, Tryz.ntmps50
        go_wp2_with (first | ((with_reducible refine gate_dst (N := 1) rfl ?_); refine box_event ?hg (N := 1) ?hd (cs := #[.int .i64 a0_0, .string a0_1]) (t := 69) ?hr ?_; (case hd => rfl); (case hg => rfl); (case hr => first | (go_simp; done) | (go_simp; rfl)); intro gb121 hg w11 hbox hb; have n0_ := Aside0.mk (below_step (by repeat (first | (with_reducible first | exact HB.out | apply below_alloc | apply pw_below_drewN | apply below_drew1) | exact HB.out)) hb); have n1_ := Aside0.mk (hbox); have n2_ := Aside0.mk ((by rw [hg]; exact (below_size (by repeat (first | (with_reducible first | exact HB.out | apply below_alloc | apply pw_below_drewN | apply below_drew1) | exact HB.out))) : w.heap.size ≤ gb121)); have n3_ := Aside0.mk ((by rw [hg]; exact (below_size (by repeat (first | (with_reducible first | exact HB.out | apply below_alloc | apply pw_below_drewN | apply below_drew1) | exact HB.out))) : w.heap.size ≤ gb121)); clear HB; have HB := n0_; have BK121 := n1_; have GW121 := n2_; have GE121 := n3_; clear n0_ n1_ n2_ n3_; clear hb hbox hg; have hcz12_0 : w11.cell? ⟨gb121, 0, none⟩ = some (.int .i64 a0_0) := (blk_cell BK121.out 0).trans rfl; have hcz12_1 : w11.cell? ⟨gb121, 1, none⟩ = some (.string a0_1) := (blk_cell BK121.out 1).trans rfl; have hfz12_0 := blk_frozen BK121.out 0; have hfz12_1 := blk_frozen BK121.out 1) | ((with_reducible refine gate_callee (f := 72) rfl ?_); refine goesL_ (some 6) rfl rfl Tryz.func72 (by kernel_rfl) rfl #[.string a0_1] rfl (by (try simp only [List.map_toArray, List.map_cons, List.map_nil]); first | done | rfl | (simp only [List.length_drop, List.length_take]; rfl)) ?_; (with_reducible refine (show_predicate.calls k a0_1 true _ A2.out).mono ?_); rintro e w' ⟨rfl, ⟨nd, rfl⟩⟩; refine ⟨_, rfl, ?_⟩))
        go_ret
        exact ⟨by first | rfl | (simp [errW_none, errW_some] <;> rfl) | (simp [*, errW_none, errW_some] <;> rfl), by repeat (first | (with_reducible first | exact HB.out | apply below_alloc | apply pw_below_drewN | apply below_drew1 | refine below_set ?_ GE121.out) | exact HB.out)⟩
  · replace c3 := Bool.eq_false_iff.mpr c3
    subst c3
    have H1 : (some (⟨#[]⟩ : ByteArray)) = some r := by rw [if_neg (show ¬ (false = true) by decide)] at H; exact H
    clear H
    have H := H1
    clear H1
    obtain rfl := Option.some.inj H
    go_enter Tryz.func50, Tryz.ntmps50
    go_wp2_with (first | ((with_reducible refine gate_dst (N := 1) rfl ?_); refine box_event ?hg (N := 1) ?hd (cs := #[.int .i64 a0_0, .string a0_1]) (t := 69) ?hr ?_; (case hd => rfl); (case hg => rfl); (case hr => first | (go_simp; done) | (go_simp; rfl)); intro gb121 hg w13 hbox hb; have n0_ := Aside0.mk (below_step (by repeat (first | (with_reducible first | exact HB.out | apply below_alloc | apply pw_below_drewN | apply below_drew1) | exact HB.out)) hb); have n1_ := Aside0.mk (hbox); have n2_ := Aside0.mk ((by rw [hg]; exact (below_size (by repeat (first | (with_reducible first | exact HB.out | apply below_alloc | apply pw_below_drewN | apply below_drew1) | exact HB.out))) : w.heap.size ≤ gb121)); have n3_ := Aside0.mk ((by rw [hg]; exact (below_size (by repeat (first | (with_reducible first | exact HB.out | apply below_alloc | apply pw_below_drewN | apply below_drew1) | exact HB.out))) : w.heap.size ≤ gb121)); clear HB; have HB := n0_; have BK121 := n1_; have GW121 := n2_; have GE121 := n3_; clear n0_ n1_ n2_ n3_; clear hb hbox hg; have hcz14_0 : w13.cell? ⟨gb121, 0, none⟩ = some (.int .i64 a0_0) := (blk_cell BK121.out 0).trans rfl; have hcz14_1 : w13.cell? ⟨gb121, 1, none⟩ = some (.string a0_1) := (blk_cell BK121.out 1).trans rfl; have hfz14_0 := blk_frozen BK121.out 0; have hfz14_1 := blk_frozen BK121.out 1) | ((with_reducible refine gate_callee (f := 72) rfl ?_); refine goesL_ (some 6) rfl rfl Tryz.func72 (by kernel_rfl) rfl #[.string a0_1] rfl (by (try simp only [List.map_toArray, List.map_cons, List.map_nil]); first | done | rfl | (simp only [List.length_drop, List.length_take]; rfl)) ?_; (with_reducible refine (show_predicate.calls k a0_1 false _ A2.out).mono ?_); rintro e w' ⟨rfl, ⟨nd, rfl⟩⟩; refine ⟨_, rfl, ?_⟩))
    go_ret
    exact ⟨by first | rfl | (simp [errW_none, errW_some] <;> rfl) | (simp [*, errW_none, errW_some] <;> rfl), by repeat (first | (with_reducible first | exact HB.out | apply below_alloc | apply pw_below_drewN | apply below_drew1 | refine below_set ?_ GE121.out) | exact HB.out)⟩
def show_piece_least.f (a0_0 : ByteArray) (a0_1 : Int) (a1 : Int) : Option (ByteArray) := if a0_1 < a1 then (if 1 + a0_0.size ≤ 9223372036854775807 then (if 1 + a0_0.size + 1 ≤ 9223372036854775807 then (some (((⟨#[40]⟩ : ByteArray) ++ a0_0) ++ (⟨#[41]⟩ : ByteArray))) else (none)) else (none)) else (some a0_0)
set_option maxHeartbeats 8000000 in
set_option maxRecDepth 100000 in
theorem show_piece_least.calls (a0_0 : ByteArray) (a0_1 : Int) (a1 : Int) (r : ByteArray) (w : World) (h : show_piece_least.f a0_0 a0_1 a1 = some r) :
    Calls Tryz.prog 51 #[.agg #[.string a0_0, .int .i64 a0_1], .int .i64 a1] w fun e w' => e = .returned (.string r) ∧ Below w.heap.size w w' := by
  have hu85 := Tryz.underlying85
  have HB := Aside0.mk (Below.refl w.heap.size w)
  have H : (if a0_1 < a1 then (if 1 + a0_0.size ≤ 9223372036854775807 then (if 1 + a0_0.size + 1 ≤ 9223372036854775807 then (some (((⟨#[40]⟩ : ByteArray) ++ a0_0) ++ (⟨#[41]⟩ : ByteArray))) else (none)) else (none)) else (some a0_0)) = some r := h
  clear h
  by_cases c3 : a0_1 < a1
  · rw [if_pos c3] at H
    have c3b0 : decide (a0_1 < a1) = true := decide_eq_true c3
    clear c3
    by_cases c4 : 1 + a0_0.size ≤ 9223372036854775807
    · rw [if_pos c4] at H
      have c4b0 := eq_true c4
      have c4b1 : decide (1 + a0_0.size ≤ 9223372036854775807) = true := decide_eq_true c4
      try have c4b2 : (9223372036854775807 < 1 + a0_0.size) = False := eq_false (Nat.not_lt.2 c4)
      by_cases c5 : 1 + a0_0.size + 1 ≤ 9223372036854775807
      · rw [if_pos c5] at H
        have c5b0 := eq_true c5
        have c5b1 : decide (1 + a0_0.size + 1 ≤ 9223372036854775807) = true := decide_eq_true c5
        try have c5b2 : (9223372036854775807 < 1 + a0_0.size + 1) = False := eq_false (Nat.not_lt.2 c5)
        obtain rfl := Option.some.inj H
        go_enter Tryz.func51, Tryz.ntmps51
        go_wp2_with (first | ((with_reducible refine gate_dst (N := 2) rfl ?_); refine box_event ?hg (N := 2) ?hd (cs := #[.string a0_0, .int .i64 a0_1]) (t := 85) ?hr ?_; (case hd => rfl); (case hg => rfl); (case hr => first | (go_simp; done) | (go_simp; rfl)); intro gb123 hg w6 hbox hb; have n0_ := Aside0.mk (below_step (by repeat (first | (with_reducible first | exact HB.out | apply below_alloc | apply pw_below_drewN | apply below_drew1) | exact HB.out)) hb); have n1_ := Aside0.mk (hbox); have n2_ := Aside0.mk ((by rw [hg]; exact (below_size (by repeat (first | (with_reducible first | exact HB.out | apply below_alloc | apply pw_below_drewN | apply below_drew1) | exact HB.out))) : w.heap.size ≤ gb123)); have n3_ := Aside0.mk ((by rw [hg]; exact (below_size (by repeat (first | (with_reducible first | exact HB.out | apply below_alloc | apply pw_below_drewN | apply below_drew1) | exact HB.out))) : w.heap.size ≤ gb123)); clear HB; have HB := n0_; have BK123 := n1_; have GW123 := n2_; have GE123 := n3_; clear n0_ n1_ n2_ n3_; clear hb hbox hg; have hcz7_0 : w6.cell? ⟨gb123, 0, none⟩ = some (.string a0_0) := (blk_cell BK123.out 0).trans rfl; have hcz7_1 : w6.cell? ⟨gb123, 1, none⟩ = some (.int .i64 a0_1) := (blk_cell BK123.out 1).trans rfl; have hfz7_0 := blk_frozen BK123.out 0; have hfz7_1 := blk_frozen BK123.out 1))
        go_ret
        exact ⟨by first | rfl | (simp [errW_none, errW_some] <;> rfl) | (simp [*, errW_none, errW_some] <;> rfl), by repeat (first | (with_reducible first | exact HB.out | apply below_alloc | apply pw_below_drewN | apply below_drew1 | refine below_set ?_ GE123.out) | exact HB.out)⟩
      · rw [if_neg c5] at H
        exact absurd H (by simp)
    · rw [if_neg c4] at H
      exact absurd H (by simp)
  · rw [if_neg c3] at H
    have c3b0 : decide (a0_1 < a1) = false := decide_eq_false c3
    clear c3
    obtain rfl := Option.some.inj H
    go_enter Tryz.func51, Tryz.ntmps51
    go_wp2_with (first | ((with_reducible refine gate_dst (N := 2) rfl ?_); refine box_event ?hg (N := 2) ?hd (cs := #[.string a0_0, .int .i64 a0_1]) (t := 85) ?hr ?_; (case hd => rfl); (case hg => rfl); (case hr => first | (go_simp; done) | (go_simp; rfl)); intro gb123 hg w8 hbox hb; have n0_ := Aside0.mk (below_step (by repeat (first | (with_reducible first | exact HB.out | apply below_alloc | apply pw_below_drewN | apply below_drew1) | exact HB.out)) hb); have n1_ := Aside0.mk (hbox); have n2_ := Aside0.mk ((by rw [hg]; exact (below_size (by repeat (first | (with_reducible first | exact HB.out | apply below_alloc | apply pw_below_drewN | apply below_drew1) | exact HB.out))) : w.heap.size ≤ gb123)); have n3_ := Aside0.mk ((by rw [hg]; exact (below_size (by repeat (first | (with_reducible first | exact HB.out | apply below_alloc | apply pw_below_drewN | apply below_drew1) | exact HB.out))) : w.heap.size ≤ gb123)); clear HB; have HB := n0_; have BK123 := n1_; have GW123 := n2_; have GE123 := n3_; clear n0_ n1_ n2_ n3_; clear hb hbox hg; have hcz9_0 : w8.cell? ⟨gb123, 0, none⟩ = some (.string a0_0) := (blk_cell BK123.out 0).trans rfl; have hcz9_1 : w8.cell? ⟨gb123, 1, none⟩ = some (.int .i64 a0_1) := (blk_cell BK123.out 1).trans rfl; have hfz9_0 := blk_frozen BK123.out 0; have hfz9_1 := blk_frozen BK123.out 1))
    go_ret
    exact ⟨by first | rfl | (simp [errW_none, errW_some] <;> rfl) | (simp [*, errW_none, errW_some] <;> rfl), by repeat (first | (with_reducible first | exact HB.out | apply below_alloc | apply pw_below_drewN | apply below_drew1 | refine below_set ?_ GE123.out) | exact HB.out)⟩
def show_word.f (a0 : ByteArray) : Option (ByteArray) := if a0.toList = ([43] : List UInt8) then (some (⟨#[32, 112, 108, 117, 115, 32]⟩ : ByteArray)) else (if a0.toList = ([45] : List UInt8) then (some (⟨#[32, 109, 105, 110, 117, 115, 32]⟩ : ByteArray)) else (if a0.toList = ([42] : List UInt8) then (some (⟨#[32, 116, 105, 109, 101, 115, 32]⟩ : ByteArray)) else (some (⟨#[]⟩ : ByteArray))))
set_option maxHeartbeats 8000000 in
set_option maxRecDepth 100000 in
theorem show_word.calls (a0 : ByteArray) (r : ByteArray) (w : World) (h : show_word.f a0 = some r) :
    Calls Tryz.prog 75 #[.string a0] w fun e w' => e = .returned (.string r) ∧ Drawn0 w w' := by
  have H : (if a0.toList = ([43] : List UInt8) then (some (⟨#[32, 112, 108, 117, 115, 32]⟩ : ByteArray)) else (if a0.toList = ([45] : List UInt8) then (some (⟨#[32, 109, 105, 110, 117, 115, 32]⟩ : ByteArray)) else (if a0.toList = ([42] : List UInt8) then (some (⟨#[32, 116, 105, 109, 101, 115, 32]⟩ : ByteArray)) else (some (⟨#[]⟩ : ByteArray))))) = some r := h
  clear h
  by_cases c2 : a0.toList = ([43] : List UInt8)
  · rw [if_pos c2] at H
    have c2b0 : (a0.toList == ([43] : List UInt8)) = true := beq_iff_eq.mpr c2
    have c2b1 : (a0.toList != ([43] : List UInt8)) = false := bne_eq_false_iff_eq.mpr c2
    clear c2
    obtain rfl := Option.some.inj H
    go_enter Tryz.func75, Tryz.ntmps75
    go_wp2
    go_ret
    exact ⟨by first | rfl | (simp; done) | (simp [*]; done), by repeat (first | exact Drawn0.refl _ | apply Drawn0.step)⟩
  · rw [if_neg c2] at H
    have c2b0 : (a0.toList == ([43] : List UInt8)) = false := beq_eq_false_iff_ne.mpr c2
    have c2b1 : (a0.toList != ([43] : List UInt8)) = true := bne_iff_ne.mpr c2
    by_cases c3 : a0.toList = ([45] : List UInt8)
    · rw [if_pos c3] at H
      have c3b0 : (a0.toList == ([45] : List UInt8)) = true := beq_iff_eq.mpr c3
      have c3b1 : (a0.toList != ([45] : List UInt8)) = false := bne_eq_false_iff_eq.mpr c3
      clear c3
      obtain rfl := Option.some.inj H
      go_enter Tryz.func75, Tryz.ntmps75
      go_wp2
      go_ret
      exact ⟨by first | rfl | (simp; done) | (simp [*]; done), by repeat (first | exact Drawn0.refl _ | apply Drawn0.step)⟩
    · rw [if_neg c3] at H
      have c3b0 : (a0.toList == ([45] : List UInt8)) = false := beq_eq_false_iff_ne.mpr c3
      have c3b1 : (a0.toList != ([45] : List UInt8)) = true := bne_iff_ne.mpr c3
      by_cases c4 : a0.toList = ([42] : List UInt8)
      · rw [if_pos c4] at H
        have c4b0 : (a0.toList == ([42] : List UInt8)) = true := beq_iff_eq.mpr c4
        have c4b1 : (a0.toList != ([42] : List UInt8)) = false := bne_eq_false_iff_eq.mpr c4
        clear c4
        obtain rfl := Option.some.inj H
        go_enter Tryz.func75, Tryz.ntmps75
        go_wp2
        go_ret
        exact ⟨by first | rfl | (simp; done) | (simp [*]; done), by repeat (first | exact Drawn0.refl _ | apply Drawn0.step)⟩
      · rw [if_neg c4] at H
        have c4b0 : (a0.toList == ([42] : List UInt8)) = false := beq_eq_false_iff_ne.mpr c4
        have c4b1 : (a0.toList != ([42] : List UInt8)) = true := bne_iff_ne.mpr c4
        obtain rfl := Option.some.inj H
        go_enter Tryz.func75, Tryz.ntmps75
        go_wp2
        go_ret
        exact ⟨by first | rfl | (simp; done) | (simp [*]; done), by repeat (first | exact Drawn0.refl _ | apply Drawn0.step)⟩
end Go.Proofs.YthebhbomlllpeaaGreatDoor.X
namespace Go.Proofs.YthebhbomlllpeaaGreatDoor.X
open Go.RowKit Go.Proofs.YthebhbomlllpeaaGreatDoorW.PrintWords Go.Proofs.YthebhbomlllpeaaGreatDoorW.PrintLast Go.Proofs.YthebhbomlllpeaaGreatDoorW.PrintMore
attribute [local go_sem] max2_int min2_int max_two min_two max_three min_three max_four min_four
set_option linter.unusedVariables false
set_option linter.unusedSimpArgs false
def antecedentref07_Key.l0 : Nat → ByteArray → List ByteArray → Int → Int → Option (Bool)
  | 0, _, _, _, _ => none
  | k + 1, x0, x3, x7, x8 => if x8 < x7 then (if 0 ≤ x8 then (if x8 < (x3.length : Int) then (if (rdOf ByteArray.empty x3 x8).toList = x0.toList then (some true) else (antecedentref07_Key.l0 k x0 x3 x7 (wrap64 (x8 + 1)))) else (none)) else (none)) else (some false)
def antecedentref07_Key.f (k : Nat) (a0 : ByteArray) : Option (Bool) := (some (([(⟨#[110, 111, 116]⟩ : ByteArray), (⟨#[105, 115]⟩ : ByteArray), (⟨#[112, 108, 117, 115]⟩ : ByteArray), (⟨#[109, 105, 110, 117, 115]⟩ : ByteArray), (⟨#[116, 105, 109, 101, 115]⟩ : ByteArray), (⟨#[119, 97, 108, 107]⟩ : ByteArray), (⟨#[99, 111, 117, 110, 116]⟩ : ByteArray), (⟨#[115, 117, 109]⟩ : ByteArray), (⟨#[109, 105, 110]⟩ : ByteArray), (⟨#[109, 97, 120]⟩ : ByteArray), (⟨#[109, 101, 97, 110]⟩ : ByteArray)] : List ByteArray) : List ByteArray)).bind fun y146 => (antecedentref07_Key.l0 k a0 y146 (y146.length : Int) 0)
set_option maxHeartbeats 8000000 in
set_option maxRecDepth 100000 in
theorem antecedentref07_Key.calls (k : Nat) (a0 : ByteArray) (r : Bool) (w : World) (h : antecedentref07_Key.f k a0 = some r) :
    Calls Tryz.prog 57 #[.string a0] w fun e w' => e = .returned (.bool r) ∧ Below w.heap.size w w' := by
  have HB := Aside0.mk (Below.refl w.heap.size w)
  have H : ((some (([(⟨#[110, 111, 116]⟩ : ByteArray), (⟨#[105, 115]⟩ : ByteArray), (⟨#[112, 108, 117, 115]⟩ : ByteArray), (⟨#[109, 105, 110, 117, 115]⟩ : ByteArray), (⟨#[116, 105, 109, 101, 115]⟩ : ByteArray), (⟨#[119, 97, 108, 107]⟩ : ByteArray), (⟨#[99, 111, 117, 110, 116]⟩ : ByteArray), (⟨#[115, 117, 109]⟩ : ByteArray), (⟨#[109, 105, 110]⟩ : ByteArray), (⟨#[109, 97, 120]⟩ : ByteArray), (⟨#[109, 101, 97, 110]⟩ : ByteArray)] : List ByteArray) : List ByteArray)).bind fun y146 => (antecedentref07_Key.l0 k a0 y146 (y146.length : Int) 0)) = some r := h
  clear h
  obtain ⟨y146, hy146⟩ : ∃ y_ : List ByteArray, y_ = (([(⟨#[110, 111, 116]⟩ : ByteArray), (⟨#[105, 115]⟩ : ByteArray), (⟨#[112, 108, 117, 115]⟩ : ByteArray), (⟨#[109, 105, 110, 117, 115]⟩ : ByteArray), (⟨#[116, 105, 109, 101, 115]⟩ : ByteArray), (⟨#[119, 97, 108, 107]⟩ : ByteArray), (⟨#[99, 111, 117, 110, 116]⟩ : ByteArray), (⟨#[115, 117, 109]⟩ : ByteArray), (⟨#[109, 105, 110]⟩ : ByteArray), (⟨#[109, 97, 120]⟩ : ByteArray), (⟨#[109, 101, 97, 110]⟩ : ByteArray)] : List ByteArray)) := ⟨_, rfl⟩
  replace H : (antecedentref07_Key.l0 k a0 y146 (y146.length : Int) 0) = some r := by first | (rw [hy146]; with_reducible exact H) | (have H2_ := (Option.bind_some _ _).symm.trans H; rw [hy146]; with_reducible exact H2_) | (have H2_ := (Option.bind_some _ _).symm.trans H; with_reducible exact H2_) | with_reducible exact H | (rw [hy146]; exact H) | exact H
  have Ny146 := Aside0.mk hy146
  clear hy146
  have H' := Aside0.mk H
  clear H
  go_enter Tryz.func57, Tryz.ntmps57
  go_wp2_with (first | ((with_reducible refine gate_dst (N := 5) rfl ?_); refine Kd.R_lit Kd.string _ 9 ?hg (N := 5) ?hd (xs := ([(⟨#[110, 111, 116]⟩ : ByteArray), (⟨#[105, 115]⟩ : ByteArray), (⟨#[112, 108, 117, 115]⟩ : ByteArray), (⟨#[109, 105, 110, 117, 115]⟩ : ByteArray), (⟨#[116, 105, 109, 101, 115]⟩ : ByteArray), (⟨#[119, 97, 108, 107]⟩ : ByteArray), (⟨#[99, 111, 117, 110, 116]⟩ : ByteArray), (⟨#[115, 117, 109]⟩ : ByteArray), (⟨#[109, 105, 110]⟩ : ByteArray), (⟨#[109, 97, 120]⟩ : ByteArray), (⟨#[109, 101, 97, 110]⟩ : ByteArray)] : List ByteArray)) (inner := [.string (⟨#[110, 111, 116]⟩ : ByteArray), .string (⟨#[105, 115]⟩ : ByteArray), .string (⟨#[112, 108, 117, 115]⟩ : ByteArray), .string (⟨#[109, 105, 110, 117, 115]⟩ : ByteArray), .string (⟨#[116, 105, 109, 101, 115]⟩ : ByteArray), .string (⟨#[119, 97, 108, 107]⟩ : ByteArray), .string (⟨#[99, 111, 117, 110, 116]⟩ : ByteArray), .string (⟨#[115, 117, 109]⟩ : ByteArray), .string (⟨#[109, 105, 110]⟩ : ByteArray), .string (⟨#[109, 97, 120]⟩ : ByteArray), .string (⟨#[109, 101, 97, 110]⟩ : ByteArray)]) (ok := fun _ => True) (okp := fun _ => True) ?hr ?hp (fun _ hk => hk) trivial (Below.refl _ _) (Nat.le_refl _) (by simp) ?_; (case hd => rfl); (case hg => rfl); (case hr => first | (go_simp; done) | (go_simp; rfl)); (case hp => exact (Reps.one (show Kd.M Kd.string _ _ _ (⟨#[110, 111, 116]⟩ : ByteArray) [.string (⟨#[110, 111, 116]⟩ : ByteArray)] from rfl) (Reps.one (show Kd.M Kd.string _ _ _ (⟨#[105, 115]⟩ : ByteArray) [.string (⟨#[105, 115]⟩ : ByteArray)] from rfl) (Reps.one (show Kd.M Kd.string _ _ _ (⟨#[112, 108, 117, 115]⟩ : ByteArray) [.string (⟨#[112, 108, 117, 115]⟩ : ByteArray)] from rfl) (Reps.one (show Kd.M Kd.string _ _ _ (⟨#[109, 105, 110, 117, 115]⟩ : ByteArray) [.string (⟨#[109, 105, 110, 117, 115]⟩ : ByteArray)] from rfl) (Reps.one (show Kd.M Kd.string _ _ _ (⟨#[116, 105, 109, 101, 115]⟩ : ByteArray) [.string (⟨#[116, 105, 109, 101, 115]⟩ : ByteArray)] from rfl) (Reps.one (show Kd.M Kd.string _ _ _ (⟨#[119, 97, 108, 107]⟩ : ByteArray) [.string (⟨#[119, 97, 108, 107]⟩ : ByteArray)] from rfl) (Reps.one (show Kd.M Kd.string _ _ _ (⟨#[99, 111, 117, 110, 116]⟩ : ByteArray) [.string (⟨#[99, 111, 117, 110, 116]⟩ : ByteArray)] from rfl) (Reps.one (show Kd.M Kd.string _ _ _ (⟨#[115, 117, 109]⟩ : ByteArray) [.string (⟨#[115, 117, 109]⟩ : ByteArray)] from rfl) (Reps.one (show Kd.M Kd.string _ _ _ (⟨#[109, 105, 110]⟩ : ByteArray) [.string (⟨#[109, 105, 110]⟩ : ByteArray)] from rfl) (Reps.one (show Kd.M Kd.string _ _ _ (⟨#[109, 97, 120]⟩ : ByteArray) [.string (⟨#[109, 97, 120]⟩ : ByteArray)] from rfl) (Reps.one (show Kd.M Kd.string _ _ _ (⟨#[109, 101, 97, 110]⟩ : ByteArray) [.string (⟨#[109, 101, 97, 110]⟩ : ByteArray)] from rfl) (Reps.none _ _))))))))))))); intro v147 w2 ho3 hb hg_ hnew_; clear hg_ hnew_; (first | rw [← Ny146.out] at ho3 | (simp only [Int.reduceToNat] at ho3; rw [← Ny146.out] at ho3)); have n0_ := Aside0.mk (Kd.R_lower ho3 (below_size (by repeat (first | (with_reducible first | exact HB.out | apply below_alloc | apply pw_below_drewN | apply below_drew1) | exact HB.out)))); have n1_ := Aside0.mk (below_step (by repeat (first | (with_reducible first | exact HB.out | apply below_alloc | apply pw_below_drewN | apply below_drew1) | exact HB.out)) hb); clear HB; have HO148 := n0_; have HB := n1_; clear n0_ n1_; clear hb ho3; obtain ⟨Ao4, co4, eo4⟩ := Kd.R_slice HO148.out; subst eo4))
  go_loopg [8] k (fun kq v8 w' => ∃ (x8_1 : Int), v8 = .int .i64 x8_1 ∧ Aside0 (antecedentref07_Key.l0 kq a0 y146 (y146.length : Int) x8_1 = some r) ∧ Aside0 (kq ≤ k) ∧ Aside0 (Kd.R Kd.string 9 w' w.heap.size (fun _ => True) (.slice Ao4 y146.length co4) y146) ∧ Aside0 (Below w.heap.size w w'))
  case atStart => exact ⟨(0), (by first | rfl | (simp; done) | (simp [*]; done)), H', ⟨Nat.le_refl _⟩, ⟨by (with_reducible repeat (first | apply Kd.R_alloc | apply Kd.R_drewN | apply Kd.R_drew)); exact HO148.out⟩, ⟨by repeat (first | (with_reducible first | exact HB.out | apply below_alloc | apply pw_below_drewN | apply below_drew1) | exact HB.out)⟩⟩
  case round =>
    clear H'
    try clear p2
    obtain ⟨x8_1, rfl, HA, HK1, HO_3, HB⟩ := hrel
    cases gk with
    | zero => exact absurd HA.out (by simp [antecedentref07_Key.l0])
    | succ k1 =>
      have H := HA.out
      clear HA
      simp only [antecedentref07_Key.l0] at H
      by_cases c5 : x8_1 < (y146.length : Int)
      · rw [if_pos c5] at H
        have c5b0 : decide (x8_1 < (y146.length : Int)) = true := decide_eq_true c5
        clear c5
        by_cases c6 : 0 ≤ x8_1
        · rw [if_pos c6] at H
          have c6b0 : decide (0 ≤ x8_1) = true := decide_eq_true c6
          clear c6
          by_cases c7 : x8_1 < (y146.length : Int)
          · rw [if_pos c7] at H
            have c7b0 : decide (x8_1 < (y146.length : Int)) = true := decide_eq_true c7
            clear c7
            by_cases c8 : (rdOf ByteArray.empty y146 x8_1).toList = a0.toList
            · rw [if_pos c8] at H
              have c8b0 : ((rdOf ByteArray.empty y146 x8_1).toList == a0.toList) = true := beq_iff_eq.mpr c8
              have c8b1 : ((rdOf ByteArray.empty y146 x8_1).toList != a0.toList) = false := bne_eq_false_iff_eq.mpr c8
              clear c8
              obtain rfl := Option.some.inj H
              have p149 : 0 ≤ (x8_1 : Int) := of_decide_eq_true (by first | (with_reducible assumption) | assumption)
              have q149 : x8_1 < (y146.length : Int) := of_decide_eq_true (by first | (with_reducible assumption) | assumption)
              obtain ⟨ad149, e149, hx149_0⟩ := Kd.at_string (Kd.R_reads' HO_3.out).2.2 x8_1 p149 q149
              cases e149
              replace p149 := eq_true p149
              replace q149 := eq_true q149
              go_wp2
              go_ret
              exact ⟨by first | rfl | (simp [errW_none, errW_some] <;> rfl) | (simp [*, errW_none, errW_some] <;> rfl), by repeat (first | (with_reducible first | exact HB.out | apply below_alloc | apply pw_below_drewN | apply below_drew1) | exact HB.out)⟩
            · rw [if_neg c8] at H
              have c8b0 : ((rdOf ByteArray.empty y146 x8_1).toList == a0.toList) = false := beq_eq_false_iff_ne.mpr c8
              have c8b1 : ((rdOf ByteArray.empty y146 x8_1).toList != a0.toList) = true := bne_iff_ne.mpr c8
              have H' := Aside0.mk H
              clear H
              have p149 : 0 ≤ (x8_1 : Int) := of_decide_eq_true (by first | (with_reducible assumption) | assumption)
              have q149 : x8_1 < (y146.length : Int) := of_decide_eq_true (by first | (with_reducible assumption) | assumption)
              obtain ⟨ad149, e149, hx149_0⟩ := Kd.at_string (Kd.R_reads' HO_3.out).2.2 x8_1 p149 q149
              cases e149
              replace p149 := eq_true p149
              replace q149 := eq_true q149
              go_wp2
              go_roundg k1
              case measure => have := HK1.out; omega
              case rel => exact ⟨(wrap64 (x8_1 + 1)), (by first | rfl | (simp; done) | (simp [*]; done)), H', ⟨by have := HK1.out; omega⟩, ⟨by (with_reducible repeat (first | apply Kd.R_alloc | apply Kd.R_drewN | apply Kd.R_drew)); exact HO_3.out⟩, ⟨by repeat (first | (with_reducible first | exact HB.out | apply below_alloc | apply pw_below_drewN | apply below_drew1) | exact HB.out)⟩⟩
          · rw [if_neg c7] at H
            exact absurd H (by simp)
        · rw [if_neg c6] at H
          exact absurd H (by simp)
      · rw [if_neg c5] at H
        have c5b0 : decide (x8_1 < (y146.length : Int)) = false := decide_eq_false c5
        clear c5
        obtain rfl := Option.some.inj H
        go_wp2
        go_ret
        exact ⟨by first | rfl | (simp [errW_none, errW_some] <;> rfl) | (simp [*, errW_none, errW_some] <;> rfl), by repeat (first | (with_reducible first | exact HB.out | apply below_alloc | apply pw_below_drewN | apply below_drew1) | exact HB.out)⟩
def antecedentref07_sign.f (a0 : Int) : Option (Bool) := if a0 ≥ 97 then (if a0 ≤ 122 then (some true) else (if a0 ≥ 65 then (if a0 ≤ 90 then (some true) else (if a0 ≥ 48 then (if a0 ≤ 57 then (some true) else (some (a0 == 95))) else (some (a0 == 95)))) else (if a0 ≥ 48 then (if a0 ≤ 57 then (some true) else (some (a0 == 95))) else (some (a0 == 95))))) else (if a0 ≥ 65 then (if a0 ≤ 90 then (some true) else (if a0 ≥ 48 then (if a0 ≤ 57 then (some true) else (some (a0 == 95))) else (some (a0 == 95)))) else (if a0 ≥ 48 then (if a0 ≤ 57 then (some true) else (some (a0 == 95))) else (some (a0 == 95))))
set_option maxHeartbeats 8000000 in
set_option maxRecDepth 100000 in
theorem antecedentref07_sign.calls (a0 : Int) (r : Bool) (w : World) (h : antecedentref07_sign.f a0 = some r) :
    Calls Tryz.prog 131 #[.int .u8 a0] w fun e w' => e = .returned (.bool r) ∧ Drawn0 w w' := by
  have H : (if a0 ≥ 97 then (if a0 ≤ 122 then (some true) else (if a0 ≥ 65 then (if a0 ≤ 90 then (some true) else (if a0 ≥ 48 then (if a0 ≤ 57 then (some true) else (some (a0 == 95))) else (some (a0 == 95)))) else (if a0 ≥ 48 then (if a0 ≤ 57 then (some true) else (some (a0 == 95))) else (some (a0 == 95))))) else (if a0 ≥ 65 then (if a0 ≤ 90 then (some true) else (if a0 ≥ 48 then (if a0 ≤ 57 then (some true) else (some (a0 == 95))) else (some (a0 == 95)))) else (if a0 ≥ 48 then (if a0 ≤ 57 then (some true) else (some (a0 == 95))) else (some (a0 == 95))))) = some r := h
  clear h
  by_cases c2 : a0 ≥ 97
  · rw [if_pos c2] at H
    have c2b0 : decide (97 ≤ a0) = true := decide_eq_true c2
    clear c2
    by_cases c3 : a0 ≤ 122
    · rw [if_pos c3] at H
      have c3b0 : decide (a0 ≤ 122) = true := decide_eq_true c3
      clear c3
      obtain rfl := Option.some.inj H
      go_enter Tryz.func131, Tryz.ntmps131
      go_wp2
      go_ret
      exact ⟨by first | rfl | (simp; done) | (simp [*]; done), by repeat (first | exact Drawn0.refl _ | apply Drawn0.step)⟩
    · rw [if_neg c3] at H
      have c3b0 : decide (a0 ≤ 122) = false := decide_eq_false c3
      clear c3
      by_cases c4 : a0 ≥ 65
      · rw [if_pos c4] at H
        have c4b0 : decide (65 ≤ a0) = true := decide_eq_true c4
        clear c4
        by_cases c5 : a0 ≤ 90
        · rw [if_pos c5] at H
          have c5b0 : decide (a0 ≤ 90) = true := decide_eq_true c5
          clear c5
          obtain rfl := Option.some.inj H
          go_enter Tryz.func131, Tryz.ntmps131
          go_wp2
          go_ret
          exact ⟨by first | rfl | (simp; done) | (simp [*]; done), by repeat (first | exact Drawn0.refl _ | apply Drawn0.step)⟩
        · rw [if_neg c5] at H
          have c5b0 : decide (a0 ≤ 90) = false := decide_eq_false c5
          clear c5
          by_cases c6 : a0 ≥ 48
          · rw [if_pos c6] at H
            have c6b0 : decide (48 ≤ a0) = true := decide_eq_true c6
            clear c6
            by_cases c7 : a0 ≤ 57
            · rw [if_pos c7] at H
              have c7b0 : decide (a0 ≤ 57) = true := decide_eq_true c7
              clear c7
              obtain rfl := Option.some.inj H
              go_enter Tryz.func131, Tryz.ntmps131
              go_wp2
              go_ret
              exact ⟨by first | rfl | (simp; done) | (simp [*]; done), by repeat (first | exact Drawn0.refl _ | apply Drawn0.step)⟩
            · rw [if_neg c7] at H
              have c7b0 : decide (a0 ≤ 57) = false := decide_eq_false c7
              clear c7
              obtain rfl := Option.some.inj H
              go_enter Tryz.func131, Tryz.ntmps131
              go_wp2
              go_ret
              exact ⟨by first | rfl | (simp; done) | (simp [*]; done), by repeat (first | exact Drawn0.refl _ | apply Drawn0.step)⟩
          · rw [if_neg c6] at H
            have c6b0 : decide (48 ≤ a0) = false := decide_eq_false c6
            clear c6
            obtain rfl := Option.some.inj H
            go_enter Tryz.func131, Tryz.ntmps131
            go_wp2
            go_ret
            exact ⟨by first | rfl | (simp; done) | (simp [*]; done), by repeat (first | exact Drawn0.refl _ | apply Drawn0.step)⟩
      · rw [if_neg c4] at H
        have c4b0 : decide (65 ≤ a0) = false := decide_eq_false c4
        clear c4
        by_cases c8 : a0 ≥ 48
        · rw [if_pos c8] at H
          have c8b0 : decide (48 ≤ a0) = true := decide_eq_true c8
          clear c8
          by_cases c9 : a0 ≤ 57
          · rw [if_pos c9] at H
            have c9b0 : decide (a0 ≤ 57) = true := decide_eq_true c9
            clear c9
            obtain rfl := Option.some.inj H
            go_enter Tryz.func131, Tryz.ntmps131
            go_wp2
            go_ret
            exact ⟨by first | rfl | (simp; done) | (simp [*]; done), by repeat (first | exact Drawn0.refl _ | apply Drawn0.step)⟩
          · rw [if_neg c9] at H
            have c9b0 : decide (a0 ≤ 57) = false := decide_eq_false c9
            clear c9
            obtain rfl := Option.some.inj H
            go_enter Tryz.func131, Tryz.ntmps131
            go_wp2
            go_ret
            exact ⟨by first | rfl | (simp; done) | (simp [*]; done), by repeat (first | exact Drawn0.refl _ | apply Drawn0.step)⟩
        · rw [if_neg c8] at H
          have c8b0 : decide (48 ≤ a0) = false := decide_eq_false c8
          clear c8
          obtain rfl := Option.some.inj H
          go_enter Tryz.func131, Tryz.ntmps131
          go_wp2
          go_ret
          exact ⟨by first | rfl | (simp; done) | (simp [*]; done), by repeat (first | exact Drawn0.refl _ | apply Drawn0.step)⟩
  · rw [if_neg c2] at H
    have c2b0 : decide (97 ≤ a0) = false := decide_eq_false c2
    clear c2
    by_cases c10 : a0 ≥ 65
    · rw [if_pos c10] at H
      have c10b0 : decide (65 ≤ a0) = true := decide_eq_true c10
      clear c10
      by_cases c11 : a0 ≤ 90
      · rw [if_pos c11] at H
        have c11b0 : decide (a0 ≤ 90) = true := decide_eq_true c11
        clear c11
        obtain rfl := Option.some.inj H
        go_enter Tryz.func131, Tryz.ntmps131
        go_wp2
        go_ret
        exact ⟨by first | rfl | (simp; done) | (simp [*]; done), by repeat (first | exact Drawn0.refl _ | apply Drawn0.step)⟩
      · rw [if_neg c11] at H
        have c11b0 : decide (a0 ≤ 90) = false := decide_eq_false c11
        clear c11
        by_cases c12 : a0 ≥ 48
        · rw [if_pos c12] at H
          have c12b0 : decide (48 ≤ a0) = true := decide_eq_true c12
          clear c12
          by_cases c13 : a0 ≤ 57
          · rw [if_pos c13] at H
            have c13b0 : decide (a0 ≤ 57) = true := decide_eq_true c13
            clear c13
            obtain rfl := Option.some.inj H
            go_enter Tryz.func131, Tryz.ntmps131
            go_wp2
            go_ret
            exact ⟨by first | rfl | (simp; done) | (simp [*]; done), by repeat (first | exact Drawn0.refl _ | apply Drawn0.step)⟩
          · rw [if_neg c13] at H
            have c13b0 : decide (a0 ≤ 57) = false := decide_eq_false c13
            clear c13
            obtain rfl := Option.some.inj H
            go_enter Tryz.func131, Tryz.ntmps131
            go_wp2
            go_ret
            exact ⟨by first | rfl | (simp; done) | (simp [*]; done), by repeat (first | exact Drawn0.refl _ | apply Drawn0.step)⟩
        · rw [if_neg c12] at H
          have c12b0 : decide (48 ≤ a0) = false := decide_eq_false c12
          clear c12
          obtain rfl := Option.some.inj H
          go_enter Tryz.func131, Tryz.ntmps131
          go_wp2
          go_ret
          exact ⟨by first | rfl | (simp; done) | (simp [*]; done), by repeat (first | exact Drawn0.refl _ | apply Drawn0.step)⟩
    · rw [if_neg c10] at H
      have c10b0 : decide (65 ≤ a0) = false := decide_eq_false c10
      clear c10
      by_cases c14 : a0 ≥ 48
      · rw [if_pos c14] at H
        have c14b0 : decide (48 ≤ a0) = true := decide_eq_true c14
        clear c14
        by_cases c15 : a0 ≤ 57
        · rw [if_pos c15] at H
          have c15b0 : decide (a0 ≤ 57) = true := decide_eq_true c15
          clear c15
          obtain rfl := Option.some.inj H
          go_enter Tryz.func131, Tryz.ntmps131
          go_wp2
          go_ret
          exact ⟨by first | rfl | (simp; done) | (simp [*]; done), by repeat (first | exact Drawn0.refl _ | apply Drawn0.step)⟩
        · rw [if_neg c15] at H
          have c15b0 : decide (a0 ≤ 57) = false := decide_eq_false c15
          clear c15
          obtain rfl := Option.some.inj H
          go_enter Tryz.func131, Tryz.ntmps131
          go_wp2
          go_ret
          exact ⟨by first | rfl | (simp; done) | (simp [*]; done), by repeat (first | exact Drawn0.refl _ | apply Drawn0.step)⟩
      · rw [if_neg c14] at H
        have c14b0 : decide (48 ≤ a0) = false := decide_eq_false c14
        clear c14
        obtain rfl := Option.some.inj H
        go_enter Tryz.func131, Tryz.ntmps131
        go_wp2
        go_ret
        exact ⟨by first | rfl | (simp; done) | (simp [*]; done), by repeat (first | exact Drawn0.refl _ | apply Drawn0.step)⟩
mutual
def antecedentref07_Variable.j0 : Nat → ByteArray → Bool → Option (Bool)
  | 0, _, _ => none
  | k + 1, x0, x21 => if x21 = true then (some false) else (antecedentref07_Variable.l0 k x0 0)
def antecedentref07_Variable.l0 : Nat → ByteArray → Int → Option (Bool)
  | 0, _, _ => none
  | k + 1, x0, x3 => if x3 < (x0.size : Int) then (if 0 ≤ x3 then ((antecedentref07_sign.f (bt x0 x3)).bind fun t152 => (if t152 = true then (antecedentref07_Variable.l0 k x0 (wrap64 (x3 + 1))) else (some false))) else (none)) else (some true)
end
def antecedentref07_Variable.f (k : Nat) (a0 : ByteArray) : Option (Bool) := if (a0.size : Int) < 1 then (antecedentref07_Variable.j0 k a0 true) else (if (a0.size : Int) > 40 then (antecedentref07_Variable.j0 k a0 true) else (if 0 < (a0.size : Int) then (if (bt a0 0) < 65 then (antecedentref07_Variable.j0 k a0 true) else (antecedentref07_Variable.j0 k a0 (decide ((bt a0 0) > 90)))) else (none)))
set_option maxHeartbeats 8000000 in
set_option maxRecDepth 100000 in
theorem antecedentref07_Variable.calls (k : Nat) (a0 : ByteArray) (r : Bool) (w : World) (h : antecedentref07_Variable.f k a0 = some r) :
    Calls Tryz.prog 100 #[.string a0] w fun e w' => e = .returned (.bool r) ∧ Drawn0 w w' := by
  have H : (if (a0.size : Int) < 1 then (antecedentref07_Variable.j0 k a0 true) else (if (a0.size : Int) > 40 then (antecedentref07_Variable.j0 k a0 true) else (if 0 < (a0.size : Int) then (if (bt a0 0) < 65 then (antecedentref07_Variable.j0 k a0 true) else (antecedentref07_Variable.j0 k a0 (decide ((bt a0 0) > 90)))) else (none)))) = some r := h
  clear h
  have HC2 := Aside0.mk H
  clear H
  go_enter Tryz.func100, Tryz.ntmps100
  go_upto_region 1 with (fail)
  go_cut [21] (fun v21 wc => ∃ (kq : Nat) (x21_1 : Bool), v21 = .bool x21_1 ∧ Aside0 (antecedentref07_Variable.j0 kq a0 x21_1 = some r) ∧ Aside0 (kq ≤ k) ∧ Drawn0 w wc)
  case first =>
    have H := HC2.out
    clear HC2
    by_cases c3 : (a0.size : Int) < 1
    · rw [if_pos c3] at H
      have c3b0 : decide ((a0.size : Int) < 1) = true := decide_eq_true c3
      have c3b1 : decide (a0.size < 1) = true := decide_eq_true (by omega)
      clear c3
      (first | rw [c3b0] | (simp only [i64_w, i32_w]; rw [c3b0]) | skip)
      have H' := Aside0.mk H
      clear H
      go_wp2
      go_meet
      case rel => exact ⟨_, (true), (by first | rfl | (simp; done) | (simp [*]; done)), H', ⟨by first | omega | exact Nat.le_refl _⟩, by repeat (first | exact Drawn0.refl _ | apply Drawn0.step)⟩
    · rw [if_neg c3] at H
      have c3b0 : decide ((a0.size : Int) < 1) = false := decide_eq_false c3
      have c3b1 : decide (a0.size < 1) = false := decide_eq_false (by omega)
      clear c3
      (first | rw [c3b0] | (simp only [i64_w, i32_w]; rw [c3b0]) | skip)
      by_cases c4 : (a0.size : Int) > 40
      · rw [if_pos c4] at H
        have c4b0 : decide (40 < (a0.size : Int)) = true := decide_eq_true c4
        have c4b1 : decide (40 < a0.size) = true := decide_eq_true (by omega)
        clear c4
        have H' := Aside0.mk H
        clear H
        go_wp2
        go_meet
        case rel => exact ⟨_, (true), (by first | rfl | (simp; done) | (simp [*]; done)), H', ⟨by first | omega | exact Nat.le_refl _⟩, by repeat (first | exact Drawn0.refl _ | apply Drawn0.step)⟩
      · rw [if_neg c4] at H
        have c4b0 : decide (40 < (a0.size : Int)) = false := decide_eq_false c4
        have c4b1 : decide (40 < a0.size) = false := decide_eq_false (by omega)
        clear c4
        by_cases c5 : 0 < (a0.size : Int)
        · rw [if_pos c5] at H
          have c5b0 : decide (0 < (a0.size : Int)) = true := decide_eq_true c5
          have c5b1 : decide (0 < a0.size) = true := decide_eq_true (by omega)
          clear c5
          by_cases c7 : (bt a0 0) < 65
          · rw [if_pos c7] at H
            have c7b0 : decide ((bt a0 0) < 65) = true := decide_eq_true c7
            clear c7
            have H' := Aside0.mk H
            clear H
            have p6 : 0 ≤ (0 : Int) := (by omega)
            have q6 : 0 < a0.size := (by have : (0 : Int) < (a0.size : Int) := of_decide_eq_true (by first | (with_reducible assumption) | assumption); omega)
            have hx6 : ∀ h : 0 < a0.size, ((a0[0]'h).toNat : Int) = bt a0 0 := bt_at a0 0
            clear p6
            have qi6 : (0 < (a0.size : Int)) = True := eq_true (of_decide_eq_true (by first | (with_reducible assumption) | assumption))
            replace q6 := eq_true q6
            go_wp2
            go_meet
            case rel => exact ⟨_, (true), (by first | rfl | (simp; done) | (simp [*]; done)), H', ⟨by first | omega | exact Nat.le_refl _⟩, by repeat (first | exact Drawn0.refl _ | apply Drawn0.step)⟩
          · rw [if_neg c7] at H
            have c7b0 : decide ((bt a0 0) < 65) = false := decide_eq_false c7
            clear c7
            have H' := Aside0.mk H
            clear H
            have p6 : 0 ≤ (0 : Int) := (by omega)
            have q6 : 0 < a0.size := (by have : (0 : Int) < (a0.size : Int) := of_decide_eq_true (by first | (with_reducible assumption) | assumption); omega)
            have hx6 : ∀ h : 0 < a0.size, ((a0[0]'h).toNat : Int) = bt a0 0 := bt_at a0 0
            clear p6
            have qi6 : (0 < (a0.size : Int)) = True := eq_true (of_decide_eq_true (by first | (with_reducible assumption) | assumption))
            replace q6 := eq_true q6
            have p8 : 0 ≤ (0 : Int) := (by omega)
            have q8 : 0 < a0.size := (by have : (0 : Int) < (a0.size : Int) := of_decide_eq_true (by first | (with_reducible assumption) | assumption); omega)
            have hx8 : ∀ h : 0 < a0.size, ((a0[0]'h).toNat : Int) = bt a0 0 := bt_at a0 0
            clear p8
            have qi8 : (0 < (a0.size : Int)) = True := eq_true (of_decide_eq_true (by first | (with_reducible assumption) | assumption))
            replace q8 := eq_true q8
            go_wp2
            go_meet
            case rel => exact ⟨_, (decide ((bt a0 0) > 90)), (by first | rfl | (simp; done) | (simp [*]; done)), H', ⟨by first | omega | exact Nat.le_refl _⟩, by repeat (first | exact Drawn0.refl _ | apply Drawn0.step)⟩
        · rw [if_neg c5] at H
          exact absurd H (by simp)
  case rest =>
    clear HC2
    try clear c1
    try clear p2
    try clear c3
    try clear c3b0
    try clear c3b1
    try clear c4
    try clear c4b0
    try clear c4b1
    try clear c5
    try clear c5b0
    try clear c5b1
    try clear p6
    try clear q6
    try clear hx6
    try clear qi6
    try clear c7
    try clear c7b0
    try clear p8
    try clear q8
    try clear hx8
    try clear qi8
    try clear p6
    try clear p8
    try clear q6
    try clear q8
    obtain ⟨kq, x21_1, rfl, HA, HJ1, ⟨mc1, rfl⟩⟩ := hcut
    cases kq with
    | zero => exact absurd HA.out (by simp [antecedentref07_Variable.j0])
    | succ kj1 =>
      have H := HA.out
      clear HA
      simp only [antecedentref07_Variable.j0] at H
      by_cases c9 : x21_1 = true
      · subst c9
        have H1 : (some false) = some r := by rw [if_pos rfl] at H; exact H
        clear H
        have H := H1
        clear H1
        obtain rfl := Option.some.inj H
        go_wp2
        go_ret
        exact ⟨by first | rfl | (simp; done) | (simp [*]; done), by repeat (first | exact Drawn0.refl _ | apply Drawn0.step)⟩
      · replace c9 := Bool.eq_false_iff.mpr c9
        subst c9
        have H1 : (antecedentref07_Variable.l0 kj1 a0 0) = some r := by rw [if_neg (show ¬ (false = true) by decide)] at H; exact H
        clear H
        have H := H1
        clear H1
        have H' := Aside0.mk H
        clear H
        go_wp2
        go_loopg [3] kj1 (fun kq v3 w' => ∃ (x3_2 : Int), v3 = .int .i64 x3_2 ∧ Aside0 (antecedentref07_Variable.l0 kq a0 x3_2 = some r) ∧ Aside0 (kq ≤ kj1) ∧ Drawn0 w w')
        case atStart => exact ⟨(0), (by first | rfl | (simp; done) | (simp [*]; done)), H', ⟨Nat.le_refl _⟩, by repeat (first | exact Drawn0.refl _ | apply Drawn0.step)⟩
        case round =>
          clear H'
          try clear c1
          try clear p2
          try clear c3
          try clear c3b0
          try clear c3b1
          try clear c4
          try clear c4b0
          try clear c4b1
          try clear c5
          try clear c5b0
          try clear c5b1
          try clear p6
          try clear q6
          try clear hx6
          try clear qi6
          try clear c7
          try clear c7b0
          try clear p8
          try clear q8
          try clear hx8
          try clear qi8
          try clear c9
          try clear p2
          try clear p6
          try clear p8
          try clear q6
          try clear q8
          obtain ⟨x3_2, rfl, HA, HK2, ⟨m2, rfl⟩⟩ := hrel
          cases gk with
          | zero => exact absurd HA.out (by simp [antecedentref07_Variable.l0])
          | succ k2 =>
            have H := HA.out
            clear HA
            simp only [antecedentref07_Variable.l0] at H
            by_cases c10 : x3_2 < (a0.size : Int)
            · rw [if_pos c10] at H
              have c10b0 : decide (x3_2 < (a0.size : Int)) = true := decide_eq_true c10
              clear c10
              by_cases c11 : 0 ≤ x3_2
              · rw [if_pos c11] at H
                have c11b0 : decide (0 ≤ x3_2) = true := decide_eq_true c11
                clear c11
                replace H := Option.bind_eq_some_iff.mp H
                obtain ⟨t152, A130, H⟩ := H
                replace H : (if t152 = true then (antecedentref07_Variable.l0 k2 a0 (wrap64 (x3_2 + 1))) else (some false)) = some r := H
                have A13 := Aside0.mk A130
                clear A130
                by_cases c14 : t152 = true
                · subst c14
                  have H1 : (antecedentref07_Variable.l0 k2 a0 (wrap64 (x3_2 + 1))) = some r := by rw [if_pos rfl] at H; exact H
                  clear H
                  have H := H1
                  clear H1
                  have H' := Aside0.mk H
                  clear H
                  have p12 : 0 ≤ (x3_2 : Int) := of_decide_eq_true (by first | (with_reducible assumption) | assumption)
                  have q12 : x3_2 < (a0.size : Int) := of_decide_eq_true (by first | (with_reducible assumption) | assumption)
                  have hx12 := bt_at a0 x3_2
                  replace p12 := eq_true p12
                  replace q12 := eq_true q12
                  go_wp2_with (first | ((with_reducible refine gate_callee (f := 131) rfl ?_); refine goesL_ (some 31) rfl rfl Tryz.func131 (by kernel_rfl) rfl #[.int .u8 (bt a0 x3_2)] rfl (by (try simp only [List.map_toArray, List.map_cons, List.map_nil]); first | done | rfl | (simp only [List.length_drop, List.length_take]; rfl)) ?_; (with_reducible refine (antecedentref07_sign.calls (bt a0 x3_2) true _ A13.out).mono ?_); rintro e w' ⟨rfl, ⟨nd, rfl⟩⟩; refine ⟨_, rfl, ?_⟩))
                  go_roundg k2
                  case measure => have := HJ1.out; have := HK2.out; omega
                  case rel => exact ⟨(wrap64 (x3_2 + 1)), (by first | rfl | (simp; done) | (simp [*]; done)), H', ⟨by have := HJ1.out; have := HK2.out; omega⟩, by repeat (first | exact Drawn0.refl _ | apply Drawn0.step)⟩
                · replace c14 := Bool.eq_false_iff.mpr c14
                  subst c14
                  have H1 : (some false) = some r := by rw [if_neg (show ¬ (false = true) by decide)] at H; exact H
                  clear H
                  have H := H1
                  clear H1
                  obtain rfl := Option.some.inj H
                  have p12 : 0 ≤ (x3_2 : Int) := of_decide_eq_true (by first | (with_reducible assumption) | assumption)
                  have q12 : x3_2 < (a0.size : Int) := of_decide_eq_true (by first | (with_reducible assumption) | assumption)
                  have hx12 := bt_at a0 x3_2
                  replace p12 := eq_true p12
                  replace q12 := eq_true q12
                  go_wp2_with (first | ((with_reducible refine gate_callee (f := 131) rfl ?_); refine goesL_ (some 31) rfl rfl Tryz.func131 (by kernel_rfl) rfl #[.int .u8 (bt a0 x3_2)] rfl (by (try simp only [List.map_toArray, List.map_cons, List.map_nil]); first | done | rfl | (simp only [List.length_drop, List.length_take]; rfl)) ?_; (with_reducible refine (antecedentref07_sign.calls (bt a0 x3_2) false _ A13.out).mono ?_); rintro e w' ⟨rfl, ⟨nd, rfl⟩⟩; refine ⟨_, rfl, ?_⟩))
                  go_ret
                  exact ⟨by first | rfl | (simp; done) | (simp [*]; done), by repeat (first | exact Drawn0.refl _ | apply Drawn0.step)⟩
              · rw [if_neg c11] at H
                exact absurd H (by simp)
            · rw [if_neg c10] at H
              have c10b0 : decide (x3_2 < (a0.size : Int)) = false := decide_eq_false c10
              clear c10
              obtain rfl := Option.some.inj H
              go_wp2
              go_ret
              exact ⟨by first | rfl | (simp; done) | (simp [*]; done), by repeat (first | exact Drawn0.refl _ | apply Drawn0.step)⟩
def antecedentref01_Right.f (a0 : Int) : Option (Bool) := if a0 = 9221120237041090561 then (some true) else (if a0 ≤ 9218868437227405312 then (some (decide (a0 ≥ (-9218868437227405313)))) else (some false))
set_option maxHeartbeats 8000000 in
set_option maxRecDepth 100000 in
theorem antecedentref01_Right.calls (a0 : Int) (r : Bool) (w : World) (h : antecedentref01_Right.f a0 = some r) :
    Calls Tryz.prog 146 #[.int .i64 a0] w fun e w' => e = .returned (.bool r) ∧ Drawn0 w w' := by
  have H : (if a0 = 9221120237041090561 then (some true) else (if a0 ≤ 9218868437227405312 then (some (decide (a0 ≥ (-9218868437227405313)))) else (some false))) = some r := h
  clear h
  by_cases c2 : a0 = 9221120237041090561
  · rw [if_pos c2] at H
    have c2b0 : (a0 == 9221120237041090561) = true := beq_iff_eq.mpr c2
    have c2b1 : (a0 != 9221120237041090561) = false := bne_eq_false_iff_eq.mpr c2
    clear c2
    obtain rfl := Option.some.inj H
    go_enter Tryz.func146, Tryz.ntmps146
    go_wp2
    go_ret
    exact ⟨by first | rfl | (simp; done) | (simp [*]; done), by repeat (first | exact Drawn0.refl _ | apply Drawn0.step)⟩
  · rw [if_neg c2] at H
    have c2b0 : (a0 == 9221120237041090561) = false := beq_eq_false_iff_ne.mpr c2
    have c2b1 : (a0 != 9221120237041090561) = true := bne_iff_ne.mpr c2
    by_cases c3 : a0 ≤ 9218868437227405312
    · rw [if_pos c3] at H
      have c3b0 : decide (a0 ≤ 9218868437227405312) = true := decide_eq_true c3
      clear c3
      obtain rfl := Option.some.inj H
      go_enter Tryz.func146, Tryz.ntmps146
      go_wp2
      go_ret
      exact ⟨by first | rfl | (simp; done) | (simp [*]; done), by repeat (first | exact Drawn0.refl _ | apply Drawn0.step)⟩
    · rw [if_neg c3] at H
      have c3b0 : decide (a0 ≤ 9218868437227405312) = false := decide_eq_false c3
      clear c3
      obtain rfl := Option.some.inj H
      go_enter Tryz.func146, Tryz.ntmps146
      go_wp2
      go_ret
      exact ⟨by first | rfl | (simp; done) | (simp [*]; done), by repeat (first | exact Drawn0.refl _ | apply Drawn0.step)⟩
mutual
def antecedentref02_Digits.l0 : Nat → Int → Int → ByteArray → Option (ByteArray)
  | 0, _, _, _ => none
  | k + 1, x0, x1, x5 => if x0 > 0 then (antecedentref02_Digits.j1 k x0 x1 x5 true) else (antecedentref02_Digits.j1 k x0 x1 x5 (x5.toList == ([] : List UInt8)))
def antecedentref02_Digits.j1 : Nat → Int → Int → ByteArray → Bool → Option (ByteArray)
  | 0, _, _, _, _ => none
  | k + 1, x0, x1, x5, x13 => if x13 = true then (if x1 = 0 then (none) else (if ((Int.tmod x0 x1) % 256) > 9 then ((some (([(((97 + ((Int.tmod x0 x1) % 256)) % 256) - 10) % 256] : List Int) : List Int)).bind fun y163 => (if (strOfNums y163).size + x5.size ≤ 9223372036854775807 then (antecedentref02_Digits.l0 k (IntKind.u64.wrap (Int.tdiv x0 x1)) x1 ((strOfNums y163) ++ x5)) else (none))) else ((some (([(48 + ((Int.tmod x0 x1) % 256)) % 256] : List Int) : List Int)).bind fun y166 => (if (strOfNums y166).size + x5.size ≤ 9223372036854775807 then (antecedentref02_Digits.l0 k (IntKind.u64.wrap (Int.tdiv x0 x1)) x1 ((strOfNums y166) ++ x5)) else (none))))) else (some x5)
end
def antecedentref02_Digits.f (k : Nat) (a0 : Int) (a1 : Int) : Option (ByteArray) := antecedentref02_Digits.l0 k a0 a1 (⟨#[]⟩ : ByteArray)
set_option maxHeartbeats 8000000 in
set_option maxRecDepth 100000 in
theorem antecedentref02_Digits.calls (k : Nat) (a0 : Int) (a1 : Int) (r : ByteArray) (w : World) (h : antecedentref02_Digits.f k a0 a1 = some r) :
    Calls Tryz.prog 147 #[.int .u64 a0, .int .u64 a1] w fun e w' => e = .returned (.string r) ∧ Below w.heap.size w w' := by
  have HB := Aside0.mk (Below.refl w.heap.size w)
  have H : (antecedentref02_Digits.l0 k a0 a1 (⟨#[]⟩ : ByteArray)) = some r := h
  clear h
  have H' := Aside0.mk H
  clear H
  go_enter Tryz.func147, Tryz.ntmps147
  go_wp2
  go_loopg [0, 5] k (fun kq v0 v5 w' => ∃ (x0_1 : Int) (x5_1 : ByteArray), v0 = .int .u64 x0_1 ∧ v5 = .string x5_1 ∧ Aside0 (antecedentref02_Digits.l0 kq x0_1 a1 x5_1 = some r) ∧ Aside0 (kq ≤ k) ∧ Aside0 (Below w.heap.size w w'))
  case atStart => exact ⟨(a0), ((⟨#[]⟩ : ByteArray)), (by first | rfl | (simp; done) | (simp [*]; done)), (by first | rfl | (simp; done) | (simp [*]; done)), H', ⟨Nat.le_refl _⟩, ⟨by repeat (first | (with_reducible first | exact HB.out | apply below_alloc | apply pw_below_drewN | apply below_drew1) | exact HB.out)⟩⟩
  case round =>
    clear H'
    try clear c1
    try clear p2
    obtain ⟨x0_1, x5_1, rfl, rfl, HA, HK1, HB⟩ := hrel
    cases gk with
    | zero => exact absurd HA.out (by simp [antecedentref02_Digits.l0])
    | succ k1 =>
      have H := HA.out
      clear HA
      simp only [antecedentref02_Digits.l0] at H
      have HC3 := Aside0.mk H
      clear H
      go_upto_region 2 with (fail)
      go_cut [13] (fun v13 wc => ∃ (kq : Nat) (x13_2 : Bool), v13 = .bool x13_2 ∧ Aside0 (antecedentref02_Digits.j1 kq x0_1 a1 x5_1 x13_2 = some r) ∧ Aside0 (kq ≤ k1) ∧ Aside0 (Below w.heap.size w wc))
      case first =>
        have H := HC3.out
        clear HC3
        by_cases c4 : x0_1 > 0
        · rw [if_pos c4] at H
          have c4b0 : decide (0 < x0_1) = true := decide_eq_true c4
          clear c4
          (first | rw [c4b0] | (simp only [i64_w, i32_w]; rw [c4b0]) | skip)
          have H' := Aside0.mk H
          clear H
          go_wp2
          go_meet
          case rel => exact ⟨_, (true), (by first | rfl | (simp; done) | (simp [*]; done)), H', ⟨by have := HK1.out; first | omega | exact Nat.le_refl _⟩, ⟨by repeat (first | (with_reducible first | exact HB.out | apply below_alloc | apply pw_below_drewN | apply below_drew1) | exact HB.out)⟩⟩
        · rw [if_neg c4] at H
          have c4b0 : decide (0 < x0_1) = false := decide_eq_false c4
          clear c4
          (first | rw [c4b0] | (simp only [i64_w, i32_w]; rw [c4b0]) | skip)
          have H' := Aside0.mk H
          clear H
          go_wp2
          go_meet
          case rel => exact ⟨_, ((x5_1.toList == ([] : List UInt8))), (by first | rfl | (simp; done) | (simp [*]; done)), H', ⟨by have := HK1.out; first | omega | exact Nat.le_refl _⟩, ⟨by repeat (first | (with_reducible first | exact HB.out | apply below_alloc | apply pw_below_drewN | apply below_drew1) | exact HB.out)⟩⟩
      case rest =>
        clear HC3
        try clear c1
        try clear p2
        try clear c4
        try clear c4b0
        try clear p2
        obtain ⟨kq, x13_2, rfl, HA, HJ2, HB⟩ := hcut
        cases kq with
        | zero => exact absurd HA.out (by simp [antecedentref02_Digits.j1])
        | succ kj2 =>
          have H := HA.out
          clear HA
          simp only [antecedentref02_Digits.j1] at H
          by_cases c5 : x13_2 = true
          · subst c5
            have H1 : (if a1 = 0 then (none) else (if ((Int.tmod x0_1 a1) % 256) > 9 then ((some (([(((97 + ((Int.tmod x0_1 a1) % 256)) % 256) - 10) % 256] : List Int) : List Int)).bind fun y163 => (if (strOfNums y163).size + x5_1.size ≤ 9223372036854775807 then (antecedentref02_Digits.l0 kj2 (IntKind.u64.wrap (Int.tdiv x0_1 a1)) a1 ((strOfNums y163) ++ x5_1)) else (none))) else ((some (([(48 + ((Int.tmod x0_1 a1) % 256)) % 256] : List Int) : List Int)).bind fun y166 => (if (strOfNums y166).size + x5_1.size ≤ 9223372036854775807 then (antecedentref02_Digits.l0 kj2 (IntKind.u64.wrap (Int.tdiv x0_1 a1)) a1 ((strOfNums y166) ++ x5_1)) else (none))))) = some r := by rw [if_pos rfl] at H; exact H
            clear H
            have H := H1
            clear H1
            by_cases c6 : a1 = 0
            · rw [if_pos c6] at H
              exact absurd H (by simp)
            · rw [if_neg c6] at H
              have c6b0 : (a1 == 0) = false := beq_eq_false_iff_ne.mpr c6
              have c6b1 : (a1 != 0) = true := bne_iff_ne.mpr c6
              by_cases c7 : ((Int.tmod x0_1 a1) % 256) > 9
              · rw [if_pos c7] at H
                have c7b0 : decide (9 < ((Int.tmod x0_1 a1) % 256)) = true := decide_eq_true c7
                clear c7
                obtain ⟨y163, hy163⟩ : ∃ y_ : List Int, y_ = (([(((97 + ((Int.tmod x0_1 a1) % 256)) % 256) - 10) % 256] : List Int)) := ⟨_, rfl⟩
                replace H : (if (strOfNums y163).size + x5_1.size ≤ 9223372036854775807 then (antecedentref02_Digits.l0 kj2 (IntKind.u64.wrap (Int.tdiv x0_1 a1)) a1 ((strOfNums y163) ++ x5_1)) else (none)) = some r := by first | (rw [hy163]; with_reducible exact H) | (have H2_ := (Option.bind_some _ _).symm.trans H; rw [hy163]; with_reducible exact H2_) | (have H2_ := (Option.bind_some _ _).symm.trans H; with_reducible exact H2_) | with_reducible exact H | (rw [hy163]; exact H) | exact H
                have Ny163 := Aside0.mk hy163
                clear hy163
                by_cases c8 : (strOfNums y163).size + x5_1.size ≤ 9223372036854775807
                · rw [if_pos c8] at H
                  have c8b0 := eq_true c8
                  have c8b1 : decide ((strOfNums y163).size + x5_1.size ≤ 9223372036854775807) = true := decide_eq_true c8
                  try have c8b2 : (9223372036854775807 < (strOfNums y163).size + x5_1.size) = False := eq_false (Nat.not_lt.2 c8)
                  have H' := Aside0.mk H
                  clear H
                  go_wp2_with (first | ((with_reducible refine gate_dst (N := 26) rfl ?_); refine Kd.R_lit (Kd.int .u8) _ 5 ?hg (N := 26) ?hd (xs := ([(((97 + ((Int.tmod x0_1 a1) % 256)) % 256) - 10) % 256] : List Int)) (inner := [.int .u8 ((((97 + ((Int.tmod x0_1 a1) % 256)) % 256) - 10) % 256)]) (ok := fun _ => True) (okp := fun _ => True) ?hr ?hp (fun _ hk => hk) trivial (Below.refl _ _) (Nat.le_refl _) (by simp) ?_; (case hd => rfl); (case hg => rfl); (case hr => first | (go_simp; done) | (go_simp; rfl)); (case hp => exact (Reps.one (show Kd.M (Kd.int .u8) _ _ _ ((((97 + ((Int.tmod x0_1 a1) % 256)) % 256) - 10) % 256) [.int .u8 ((((97 + ((Int.tmod x0_1 a1) % 256)) % 256) - 10) % 256)] from rfl) (Reps.none _ _))); intro v164 w9 ho10 hb hg_ hnew_; clear hg_ hnew_; (first | rw [← Ny163.out] at ho10 | (simp only [Int.reduceToNat] at ho10; rw [← Ny163.out] at ho10)); have n0_ := Aside0.mk (Kd.R_lower ho10 (below_size (by repeat (first | (with_reducible first | exact HB.out | apply below_alloc | apply pw_below_drewN | apply below_drew1) | exact HB.out)))); have n1_ := Aside0.mk (below_step (by repeat (first | (with_reducible first | exact HB.out | apply below_alloc | apply pw_below_drewN | apply below_drew1) | exact HB.out)) hb); clear HB; have HO165 := n0_; have HB := n1_; clear n0_ n1_; clear hb ho10; have hcv11 := own_string (P := Tryz.prog) Tryz.underlying145 Tryz.underlying5 Tryz.underlying9 (Kd.own_of_R HO165.out)))
                  go_roundg kj2
                  case measure => have := HK1.out; have := HJ2.out; omega
                  case rel => exact ⟨(IntKind.u64.wrap (Int.tdiv x0_1 a1)), ((strOfNums y163) ++ x5_1), (by first | rfl | (simp; done) | (simp [*]; done)), (by first | rfl | (simp; done) | (simp [*]; done)), H', ⟨by have := HK1.out; have := HJ2.out; omega⟩, ⟨by repeat (first | (with_reducible first | exact HB.out | apply below_alloc | apply pw_below_drewN | apply below_drew1) | exact HB.out)⟩⟩
                · rw [if_neg c8] at H
                  exact absurd H (by simp)
              · rw [if_neg c7] at H
                have c7b0 : decide (9 < ((Int.tmod x0_1 a1) % 256)) = false := decide_eq_false c7
                clear c7
                obtain ⟨y166, hy166⟩ : ∃ y_ : List Int, y_ = (([(48 + ((Int.tmod x0_1 a1) % 256)) % 256] : List Int)) := ⟨_, rfl⟩
                replace H : (if (strOfNums y166).size + x5_1.size ≤ 9223372036854775807 then (antecedentref02_Digits.l0 kj2 (IntKind.u64.wrap (Int.tdiv x0_1 a1)) a1 ((strOfNums y166) ++ x5_1)) else (none)) = some r := by first | (rw [hy166]; with_reducible exact H) | (have H2_ := (Option.bind_some _ _).symm.trans H; rw [hy166]; with_reducible exact H2_) | (have H2_ := (Option.bind_some _ _).symm.trans H; with_reducible exact H2_) | with_reducible exact H | (rw [hy166]; exact H) | exact H
                have Ny166 := Aside0.mk hy166
                clear hy166
                by_cases c12 : (strOfNums y166).size + x5_1.size ≤ 9223372036854775807
                · rw [if_pos c12] at H
                  have c12b0 := eq_true c12
                  have c12b1 : decide ((strOfNums y166).size + x5_1.size ≤ 9223372036854775807) = true := decide_eq_true c12
                  try have c12b2 : (9223372036854775807 < (strOfNums y166).size + x5_1.size) = False := eq_false (Nat.not_lt.2 c12)
                  have H' := Aside0.mk H
                  clear H
                  go_wp2_with (first | ((with_reducible refine gate_dst (N := 26) rfl ?_); refine Kd.R_lit (Kd.int .u8) _ 5 ?hg (N := 26) ?hd (xs := ([(48 + ((Int.tmod x0_1 a1) % 256)) % 256] : List Int)) (inner := [.int .u8 ((48 + ((Int.tmod x0_1 a1) % 256)) % 256)]) (ok := fun _ => True) (okp := fun _ => True) ?hr ?hp (fun _ hk => hk) trivial (Below.refl _ _) (Nat.le_refl _) (by simp) ?_; (case hd => rfl); (case hg => rfl); (case hr => first | (go_simp; done) | (go_simp; rfl)); (case hp => exact (Reps.one (show Kd.M (Kd.int .u8) _ _ _ ((48 + ((Int.tmod x0_1 a1) % 256)) % 256) [.int .u8 ((48 + ((Int.tmod x0_1 a1) % 256)) % 256)] from rfl) (Reps.none _ _))); intro v167 w13 ho14 hb hg_ hnew_; clear hg_ hnew_; (first | rw [← Ny166.out] at ho14 | (simp only [Int.reduceToNat] at ho14; rw [← Ny166.out] at ho14)); have n0_ := Aside0.mk (Kd.R_lower ho14 (below_size (by repeat (first | (with_reducible first | exact HB.out | apply below_alloc | apply pw_below_drewN | apply below_drew1) | exact HB.out)))); have n1_ := Aside0.mk (below_step (by repeat (first | (with_reducible first | exact HB.out | apply below_alloc | apply pw_below_drewN | apply below_drew1) | exact HB.out)) hb); clear HB; have HO168 := n0_; have HB := n1_; clear n0_ n1_; clear hb ho14; have hcv15 := own_string (P := Tryz.prog) Tryz.underlying145 Tryz.underlying5 Tryz.underlying9 (Kd.own_of_R HO168.out)))
                  go_roundg kj2
                  case measure => have := HK1.out; have := HJ2.out; omega
                  case rel => exact ⟨(IntKind.u64.wrap (Int.tdiv x0_1 a1)), ((strOfNums y166) ++ x5_1), (by first | rfl | (simp; done) | (simp [*]; done)), (by first | rfl | (simp; done) | (simp [*]; done)), H', ⟨by have := HK1.out; have := HJ2.out; omega⟩, ⟨by repeat (first | (with_reducible first | exact HB.out | apply below_alloc | apply pw_below_drewN | apply below_drew1) | exact HB.out)⟩⟩
                · rw [if_neg c12] at H
                  exact absurd H (by simp)
          · replace c5 := Bool.eq_false_iff.mpr c5
            subst c5
            have H1 : (some x5_1) = some r := by rw [if_neg (show ¬ (false = true) by decide)] at H; exact H
            clear H
            have H := H1
            clear H1
            obtain rfl := Option.some.inj H
            go_wp2
            go_ret
            exact ⟨by first | rfl | (simp [errW_none, errW_some] <;> rfl) | (simp [*, errW_none, errW_some] <;> rfl), by repeat (first | (with_reducible first | exact HB.out | apply below_alloc | apply pw_below_drewN | apply below_drew1) | exact HB.out)⟩
end Go.Proofs.YthebhbomlllpeaaGreatDoor.X
namespace Go.Proofs.YthebhbomlllpeaaGreatDoor.X
open Go.RowKit Go.Proofs.YthebhbomlllpeaaGreatDoorW.PrintWords Go.Proofs.YthebhbomlllpeaaGreatDoorW.PrintLast Go.Proofs.YthebhbomlllpeaaGreatDoorW.PrintMore
attribute [local go_sem] max2_int min2_int max_two min_two max_three min_three max_four min_four
set_option linter.unusedVariables false
set_option linter.unusedSimpArgs false
attribute [local go_sem high] eqA58
def antecedentref09_predicate.f (k : Nat) (a0 : ByteArray) : Option (Bool) := (antecedentref02_Name.f a0).bind fun t150 => (if t150 = true then ((antecedentref07_Key.f k a0).bind fun t151 => (some (!t151))) else (some false))
set_option maxHeartbeats 8000000 in
set_option maxRecDepth 100000 in
theorem antecedentref09_predicate.calls (k : Nat) (a0 : ByteArray) (r : Bool) (w : World) (h : antecedentref09_predicate.f k a0 = some r) :
    Calls Tryz.prog 76 #[.string a0] w fun e w' => e = .returned (.bool r) ∧ Below w.heap.size w w' := by
  have HB := Aside0.mk (Below.refl w.heap.size w)
  have H : ((antecedentref02_Name.f a0).bind fun t150 => (if t150 = true then ((antecedentref07_Key.f k a0).bind fun t151 => (some (!t151))) else (some false))) = some r := h
  clear h
  replace H := Option.bind_eq_some_iff.mp H
  obtain ⟨t150, A20, H⟩ := H
  replace H : (if t150 = true then ((antecedentref07_Key.f k a0).bind fun t151 => (some (!t151))) else (some false)) = some r := H
  have A2 := Aside0.mk A20
  clear A20
  by_cases c3 : t150 = true
  · subst c3
    have H1 : ((antecedentref07_Key.f k a0).bind fun t151 => (some (!t151))) = some r := by rw [if_pos rfl] at H; exact H
    clear H
    have H := H1
    clear H1
    replace H := Option.bind_eq_some_iff.mp H
    obtain ⟨t151, A40, H⟩ := H
    replace H : (some (!t151)) = some r := H
    have A4 := Aside0.mk A40
    clear A40
    obtain rfl := Option.some.inj H
    go_enter Tryz.func76, Tryz.ntmps76
    go_wp2_with (first | ((with_reducible refine gate_callee (f := 99) rfl ?_); refine goesL_ (some 4) rfl rfl Tryz.func99 (by kernel_rfl) rfl #[.string a0] rfl (by (try simp only [List.map_toArray, List.map_cons, List.map_nil]); first | done | rfl | (simp only [List.length_drop, List.length_take]; rfl)) ?_; (with_reducible refine (antecedentref02_Name.calls a0 true _ A2.out).mono ?_); rintro e w5 ⟨rfl, hb⟩; refine ⟨_, rfl, ?_⟩; have n0_ := Aside0.mk (below_step (by repeat (first | (with_reducible first | exact HB.out | apply below_alloc | apply pw_below_drewN | apply below_drew1) | exact HB.out)) hb); clear HB; have HB := n0_; clear n0_; (try clear hb); (try clear hb2); (try clear hk); (try clear hi)) | (go_at_call 57; (with_reducible refine (antecedentref07_Key.calls k a0 t151 _ A4.out).mono ?_); rintro e w6 ⟨rfl, hb⟩; have n0_ := Aside0.mk (below_step (by repeat (first | (with_reducible first | exact HB.out | apply below_alloc | apply pw_below_drewN | apply below_drew1) | exact HB.out)) hb); clear HB; have HB := n0_; clear n0_; (try clear hb); (try clear hb2); (try clear hk); (try clear hi)))
    go_ret
    exact ⟨by first | rfl | (simp [errW_none, errW_some] <;> rfl) | (simp [*, errW_none, errW_some] <;> rfl), by repeat (first | (with_reducible first | exact HB.out | apply below_alloc | apply pw_below_drewN | apply below_drew1) | exact HB.out)⟩
  · replace c3 := Bool.eq_false_iff.mpr c3
    subst c3
    have H1 : (some false) = some r := by rw [if_neg (show ¬ (false = true) by decide)] at H; exact H
    clear H
    have H := H1
    clear H1
    obtain rfl := Option.some.inj H
    go_enter Tryz.func76, Tryz.ntmps76
    go_wp2_with (first | ((with_reducible refine gate_callee (f := 99) rfl ?_); refine goesL_ (some 4) rfl rfl Tryz.func99 (by kernel_rfl) rfl #[.string a0] rfl (by (try simp only [List.map_toArray, List.map_cons, List.map_nil]); first | done | rfl | (simp only [List.length_drop, List.length_take]; rfl)) ?_; (with_reducible refine (antecedentref02_Name.calls a0 false _ A2.out).mono ?_); rintro e w7 ⟨rfl, hb⟩; refine ⟨_, rfl, ?_⟩; have n0_ := Aside0.mk (below_step (by repeat (first | (with_reducible first | exact HB.out | apply below_alloc | apply pw_below_drewN | apply below_drew1) | exact HB.out)) hb); clear HB; have HB := n0_; clear n0_; (try clear hb); (try clear hb2); (try clear hk); (try clear hi)))
    go_ret
    exact ⟨by first | rfl | (simp [errW_none, errW_some] <;> rfl) | (simp [*, errW_none, errW_some] <;> rfl), by repeat (first | (with_reducible first | exact HB.out | apply below_alloc | apply pw_below_drewN | apply below_drew1) | exact HB.out)⟩
def antecedentref02_Right.f (a0_0 : Int) (a0_1 : Int) (a0_2 : ByteArray) : Option (Bool) := if a0_0 = 1 then (some (a0_2.toList == ([] : List UInt8))) else (if a0_0 = 2 then (if a0_2.toList = ([] : List UInt8) then ((antecedentref01_Right.f a0_1).bind fun t154 => (some t154)) else (some false)) else (if a0_0 = 3 then (if a0_1 = 0 then ((antecedentref02_Name.f a0_2).bind fun t155 => (some t155)) else (some false)) else (some false)))
set_option maxHeartbeats 8000000 in
set_option maxRecDepth 100000 in
theorem antecedentref02_Right.calls (a0_0 : Int) (a0_1 : Int) (a0_2 : ByteArray) (r : Bool) (w : World) (h : antecedentref02_Right.f a0_0 a0_1 a0_2 = some r) :
    Calls Tryz.prog 112 #[.agg #[.int .i64 a0_0, .int .i64 a0_1, .string a0_2]] w fun e w' => e = .returned (.bool r) ∧ Below w.heap.size w w' := by
  have hu58 := Tryz.underlying58
  have HB := Aside0.mk (Below.refl w.heap.size w)
  have H : (if a0_0 = 1 then (some (a0_2.toList == ([] : List UInt8))) else (if a0_0 = 2 then (if a0_2.toList = ([] : List UInt8) then ((antecedentref01_Right.f a0_1).bind fun t154 => (some t154)) else (some false)) else (if a0_0 = 3 then (if a0_1 = 0 then ((antecedentref02_Name.f a0_2).bind fun t155 => (some t155)) else (some false)) else (some false)))) = some r := h
  clear h
  by_cases c2 : a0_0 = 1
  · rw [if_pos c2] at H
    have c2b0 : (a0_0 == 1) = true := beq_iff_eq.mpr c2
    have c2b1 : (a0_0 != 1) = false := bne_eq_false_iff_eq.mpr c2
    clear c2
    obtain rfl := Option.some.inj H
    go_enter Tryz.func112, Tryz.ntmps112
    go_wp2_with (first | ((with_reducible refine gate_dst (N := 1) rfl ?_); refine box_event ?hg (N := 1) ?hd (cs := #[.int .i64 a0_0, .int .i64 a0_1, .string a0_2]) (t := 58) ?hr ?_; (case hd => rfl); (case hg => rfl); (case hr => first | (go_simp; done) | (go_simp; rfl)); intro gb153 hg w3 hbox hb; have n0_ := Aside0.mk (below_step (by repeat (first | (with_reducible first | exact HB.out | apply below_alloc | apply pw_below_drewN | apply below_drew1) | exact HB.out)) hb); have n1_ := Aside0.mk (hbox); have n2_ := Aside0.mk ((by rw [hg]; exact (below_size (by repeat (first | (with_reducible first | exact HB.out | apply below_alloc | apply pw_below_drewN | apply below_drew1) | exact HB.out))) : w.heap.size ≤ gb153)); have n3_ := Aside0.mk ((by rw [hg]; exact (below_size (by repeat (first | (with_reducible first | exact HB.out | apply below_alloc | apply pw_below_drewN | apply below_drew1) | exact HB.out))) : w.heap.size ≤ gb153)); clear HB; have HB := n0_; have BK153 := n1_; have GW153 := n2_; have GE153 := n3_; clear n0_ n1_ n2_ n3_; clear hb hbox hg; have hcz4_0 : w3.cell? ⟨gb153, 0, none⟩ = some (.int .i64 a0_0) := (blk_cell BK153.out 0).trans rfl; have hcz4_1 : w3.cell? ⟨gb153, 1, none⟩ = some (.int .i64 a0_1) := (blk_cell BK153.out 1).trans rfl; have hcz4_2 : w3.cell? ⟨gb153, 2, none⟩ = some (.string a0_2) := (blk_cell BK153.out 2).trans rfl; have hfz4_0 := blk_frozen BK153.out 0; have hfz4_1 := blk_frozen BK153.out 1; have hfz4_2 := blk_frozen BK153.out 2))
    go_ret
    exact ⟨by first | rfl | (simp [errW_none, errW_some] <;> rfl) | (simp [*, errW_none, errW_some] <;> rfl), by repeat (first | (with_reducible first | exact HB.out | apply below_alloc | apply pw_below_drewN | apply below_drew1 | refine below_set ?_ GE153.out) | exact HB.out)⟩
  · rw [if_neg c2] at H
    have c2b0 : (a0_0 == 1) = false := beq_eq_false_iff_ne.mpr c2
    have c2b1 : (a0_0 != 1) = true := bne_iff_ne.mpr c2
    by_cases c5 : a0_0 = 2
    · rw [if_pos c5] at H
      have c5b0 : (a0_0 == 2) = true := beq_iff_eq.mpr c5
      have c5b1 : (a0_0 != 2) = false := bne_eq_false_iff_eq.mpr c5
      clear c5
      by_cases c6 : a0_2.toList = ([] : List UInt8)
      · rw [if_pos c6] at H
        have c6b0 : (a0_2.toList == ([] : List UInt8)) = true := beq_iff_eq.mpr c6
        have c6b1 : (a0_2.toList != ([] : List UInt8)) = false := bne_eq_false_iff_eq.mpr c6
        clear c6
        replace H := Option.bind_eq_some_iff.mp H
        obtain ⟨t154, A70, H⟩ := H
        replace H : (some t154) = some r := H
        have A7 := Aside0.mk A70
        clear A70
        obtain rfl := Option.some.inj H
        go_enter Tryz.func112, Tryz.ntmps112
        go_wp2_with (first | ((with_reducible refine gate_dst (N := 1) rfl ?_); refine box_event ?hg (N := 1) ?hd (cs := #[.int .i64 a0_0, .int .i64 a0_1, .string a0_2]) (t := 58) ?hr ?_; (case hd => rfl); (case hg => rfl); (case hr => first | (go_simp; done) | (go_simp; rfl)); intro gb153 hg w8 hbox hb; have n0_ := Aside0.mk (below_step (by repeat (first | (with_reducible first | exact HB.out | apply below_alloc | apply pw_below_drewN | apply below_drew1) | exact HB.out)) hb); have n1_ := Aside0.mk (hbox); have n2_ := Aside0.mk ((by rw [hg]; exact (below_size (by repeat (first | (with_reducible first | exact HB.out | apply below_alloc | apply pw_below_drewN | apply below_drew1) | exact HB.out))) : w.heap.size ≤ gb153)); have n3_ := Aside0.mk ((by rw [hg]; exact (below_size (by repeat (first | (with_reducible first | exact HB.out | apply below_alloc | apply pw_below_drewN | apply below_drew1) | exact HB.out))) : w.heap.size ≤ gb153)); clear HB; have HB := n0_; have BK153 := n1_; have GW153 := n2_; have GE153 := n3_; clear n0_ n1_ n2_ n3_; clear hb hbox hg; have hcz9_0 : w8.cell? ⟨gb153, 0, none⟩ = some (.int .i64 a0_0) := (blk_cell BK153.out 0).trans rfl; have hcz9_1 : w8.cell? ⟨gb153, 1, none⟩ = some (.int .i64 a0_1) := (blk_cell BK153.out 1).trans rfl; have hcz9_2 : w8.cell? ⟨gb153, 2, none⟩ = some (.string a0_2) := (blk_cell BK153.out 2).trans rfl; have hfz9_0 := blk_frozen BK153.out 0; have hfz9_1 := blk_frozen BK153.out 1; have hfz9_2 := blk_frozen BK153.out 2) | (go_at_call 146; (with_reducible refine (antecedentref01_Right.calls a0_1 t154 _ A7.out).mono ?_); rintro e w' ⟨rfl, ⟨nd, rfl⟩⟩))
        go_ret
        exact ⟨by first | rfl | (simp [errW_none, errW_some] <;> rfl) | (simp [*, errW_none, errW_some] <;> rfl), by repeat (first | (with_reducible first | exact HB.out | apply below_alloc | apply pw_below_drewN | apply below_drew1 | refine below_set ?_ GE153.out) | exact HB.out)⟩
      · rw [if_neg c6] at H
        have c6b0 : (a0_2.toList == ([] : List UInt8)) = false := beq_eq_false_iff_ne.mpr c6
        have c6b1 : (a0_2.toList != ([] : List UInt8)) = true := bne_iff_ne.mpr c6
        obtain rfl := Option.some.inj H
        go_enter Tryz.func112, Tryz.ntmps112
        go_wp2_with (first | ((with_reducible refine gate_dst (N := 1) rfl ?_); refine box_event ?hg (N := 1) ?hd (cs := #[.int .i64 a0_0, .int .i64 a0_1, .string a0_2]) (t := 58) ?hr ?_; (case hd => rfl); (case hg => rfl); (case hr => first | (go_simp; done) | (go_simp; rfl)); intro gb153 hg w10 hbox hb; have n0_ := Aside0.mk (below_step (by repeat (first | (with_reducible first | exact HB.out | apply below_alloc | apply pw_below_drewN | apply below_drew1) | exact HB.out)) hb); have n1_ := Aside0.mk (hbox); have n2_ := Aside0.mk ((by rw [hg]; exact (below_size (by repeat (first | (with_reducible first | exact HB.out | apply below_alloc | apply pw_below_drewN | apply below_drew1) | exact HB.out))) : w.heap.size ≤ gb153)); have n3_ := Aside0.mk ((by rw [hg]; exact (below_size (by repeat (first | (with_reducible first | exact HB.out | apply below_alloc | apply pw_below_drewN | apply below_drew1) | exact HB.out))) : w.heap.size ≤ gb153)); clear HB; have HB := n0_; have BK153 := n1_; have GW153 := n2_; have GE153 := n3_; clear n0_ n1_ n2_ n3_; clear hb hbox hg; have hcz11_0 : w10.cell? ⟨gb153, 0, none⟩ = some (.int .i64 a0_0) := (blk_cell BK153.out 0).trans rfl; have hcz11_1 : w10.cell? ⟨gb153, 1, none⟩ = some (.int .i64 a0_1) := (blk_cell BK153.out 1).trans rfl; have hcz11_2 : w10.cell? ⟨gb153, 2, none⟩ = some (.string a0_2) := (blk_cell BK153.out 2).trans rfl; have hfz11_0 := blk_frozen BK153.out 0; have hfz11_1 := blk_frozen BK153.out 1; have hfz11_2 := blk_frozen BK153.out 2))
        go_ret
        exact ⟨by first | rfl | (simp [errW_none, errW_some] <;> rfl) | (simp [*, errW_none, errW_some] <;> rfl), by repeat (first | (with_reducible first | exact HB.out | apply below_alloc | apply pw_below_drewN | apply below_drew1 | refine below_set ?_ GE153.out) | exact HB.out)⟩
    · rw [if_neg c5] at H
      have c5b0 : (a0_0 == 2) = false := beq_eq_false_iff_ne.mpr c5
      have c5b1 : (a0_0 != 2) = true := bne_iff_ne.mpr c5
      by_cases c12 : a0_0 = 3
      · rw [if_pos c12] at H
        have c12b0 : (a0_0 == 3) = true := beq_iff_eq.mpr c12
        have c12b1 : (a0_0 != 3) = false := bne_eq_false_iff_eq.mpr c12
        clear c12
        by_cases c13 : a0_1 = 0
        · rw [if_pos c13] at H
          have c13b0 : (a0_1 == 0) = true := beq_iff_eq.mpr c13
          have c13b1 : (a0_1 != 0) = false := bne_eq_false_iff_eq.mpr c13
          clear c13
          replace H := Option.bind_eq_some_iff.mp H
          obtain ⟨t155, A140, H⟩ := H
          replace H : (some t155) = some r := H
          have A14 := Aside0.mk A140
          clear A140
          obtain rfl := Option.some.inj H
          go_enter Tryz.func112, Tryz.ntmps112
          go_wp2_with (first | ((with_reducible refine gate_dst (N := 1) rfl ?_); refine box_event ?hg (N := 1) ?hd (cs := #[.int .i64 a0_0, .int .i64 a0_1, .string a0_2]) (t := 58) ?hr ?_; (case hd => rfl); (case hg => rfl); (case hr => first | (go_simp; done) | (go_simp; rfl)); intro gb153 hg w15 hbox hb; have n0_ := Aside0.mk (below_step (by repeat (first | (with_reducible first | exact HB.out | apply below_alloc | apply pw_below_drewN | apply below_drew1) | exact HB.out)) hb); have n1_ := Aside0.mk (hbox); have n2_ := Aside0.mk ((by rw [hg]; exact (below_size (by repeat (first | (with_reducible first | exact HB.out | apply below_alloc | apply pw_below_drewN | apply below_drew1) | exact HB.out))) : w.heap.size ≤ gb153)); have n3_ := Aside0.mk ((by rw [hg]; exact (below_size (by repeat (first | (with_reducible first | exact HB.out | apply below_alloc | apply pw_below_drewN | apply below_drew1) | exact HB.out))) : w.heap.size ≤ gb153)); clear HB; have HB := n0_; have BK153 := n1_; have GW153 := n2_; have GE153 := n3_; clear n0_ n1_ n2_ n3_; clear hb hbox hg; have hcz16_0 : w15.cell? ⟨gb153, 0, none⟩ = some (.int .i64 a0_0) := (blk_cell BK153.out 0).trans rfl; have hcz16_1 : w15.cell? ⟨gb153, 1, none⟩ = some (.int .i64 a0_1) := (blk_cell BK153.out 1).trans rfl; have hcz16_2 : w15.cell? ⟨gb153, 2, none⟩ = some (.string a0_2) := (blk_cell BK153.out 2).trans rfl; have hfz16_0 := blk_frozen BK153.out 0; have hfz16_1 := blk_frozen BK153.out 1; have hfz16_2 := blk_frozen BK153.out 2) | (go_at_call 99; (with_reducible refine (antecedentref02_Name.calls a0_2 t155 _ A14.out).mono ?_); rintro e w17 ⟨rfl, hb⟩; have n0_ := Aside0.mk (blk_below (g := gb153) (o := .cells #[.int .i64 a0_0, .int .i64 a0_1, .string a0_2] 58 (0, 0)) (by (with_reducible repeat (first | refine blk_drewN ?_ _ | refine blk_drew ?_ | refine blk_alloc ?_ _)); exact BK153.out) hb); have n1_ := Aside0.mk (below_step (by repeat (first | (with_reducible first | exact HB.out | apply below_alloc | apply pw_below_drewN | apply below_drew1 | refine below_set ?_ GE153.out) | exact HB.out)) hb); clear BK153; clear HB; have BK153 := n0_; have HB := n1_; clear n0_ n1_; (try clear hb); (try clear hb2); (try clear hk); (try clear hi)))
          go_ret
          exact ⟨by first | rfl | (simp [errW_none, errW_some] <;> rfl) | (simp [*, errW_none, errW_some] <;> rfl), by repeat (first | (with_reducible first | exact HB.out | apply below_alloc | apply pw_below_drewN | apply below_drew1 | refine below_set ?_ GE153.out) | exact HB.out)⟩
        · rw [if_neg c13] at H
          have c13b0 : (a0_1 == 0) = false := beq_eq_false_iff_ne.mpr c13
          have c13b1 : (a0_1 != 0) = true := bne_iff_ne.mpr c13
          obtain rfl := Option.some.inj H
          go_enter Tryz.func112, Tryz.ntmps112
          go_wp2_with (first | ((with_reducible refine gate_dst (N := 1) rfl ?_); refine box_event ?hg (N := 1) ?hd (cs := #[.int .i64 a0_0, .int .i64 a0_1, .string a0_2]) (t := 58) ?hr ?_; (case hd => rfl); (case hg => rfl); (case hr => first | (go_simp; done) | (go_simp; rfl)); intro gb153 hg w18 hbox hb; have n0_ := Aside0.mk (below_step (by repeat (first | (with_reducible first | exact HB.out | apply below_alloc | apply pw_below_drewN | apply below_drew1) | exact HB.out)) hb); have n1_ := Aside0.mk (hbox); have n2_ := Aside0.mk ((by rw [hg]; exact (below_size (by repeat (first | (with_reducible first | exact HB.out | apply below_alloc | apply pw_below_drewN | apply below_drew1) | exact HB.out))) : w.heap.size ≤ gb153)); have n3_ := Aside0.mk ((by rw [hg]; exact (below_size (by repeat (first | (with_reducible first | exact HB.out | apply below_alloc | apply pw_below_drewN | apply below_drew1) | exact HB.out))) : w.heap.size ≤ gb153)); clear HB; have HB := n0_; have BK153 := n1_; have GW153 := n2_; have GE153 := n3_; clear n0_ n1_ n2_ n3_; clear hb hbox hg; have hcz19_0 : w18.cell? ⟨gb153, 0, none⟩ = some (.int .i64 a0_0) := (blk_cell BK153.out 0).trans rfl; have hcz19_1 : w18.cell? ⟨gb153, 1, none⟩ = some (.int .i64 a0_1) := (blk_cell BK153.out 1).trans rfl; have hcz19_2 : w18.cell? ⟨gb153, 2, none⟩ = some (.string a0_2) := (blk_cell BK153.out 2).trans rfl; have hfz19_0 := blk_frozen BK153.out 0; have hfz19_1 := blk_frozen BK153.out 1; have hfz19_2 := blk_frozen BK153.out 2))
          go_ret
          exact ⟨by first | rfl | (simp [errW_none, errW_some] <;> rfl) | (simp [*, errW_none, errW_some] <;> rfl), by repeat (first | (with_reducible first | exact HB.out | apply below_alloc | apply pw_below_drewN | apply below_drew1 | refine below_set ?_ GE153.out) | exact HB.out)⟩
      · rw [if_neg c12] at H
        have c12b0 : (a0_0 == 3) = false := beq_eq_false_iff_ne.mpr c12
        have c12b1 : (a0_0 != 3) = true := bne_iff_ne.mpr c12
        obtain rfl := Option.some.inj H
        go_enter Tryz.func112, Tryz.ntmps112
        go_wp2_with (first | ((with_reducible refine gate_dst (N := 1) rfl ?_); refine box_event ?hg (N := 1) ?hd (cs := #[.int .i64 a0_0, .int .i64 a0_1, .string a0_2]) (t := 58) ?hr ?_; (case hd => rfl); (case hg => rfl); (case hr => first | (go_simp; done) | (go_simp; rfl)); intro gb153 hg w20 hbox hb; have n0_ := Aside0.mk (below_step (by repeat (first | (with_reducible first | exact HB.out | apply below_alloc | apply pw_below_drewN | apply below_drew1) | exact HB.out)) hb); have n1_ := Aside0.mk (hbox); have n2_ := Aside0.mk ((by rw [hg]; exact (below_size (by repeat (first | (with_reducible first | exact HB.out | apply below_alloc | apply pw_below_drewN | apply below_drew1) | exact HB.out))) : w.heap.size ≤ gb153)); have n3_ := Aside0.mk ((by rw [hg]; exact (below_size (by repeat (first | (with_reducible first | exact HB.out | apply below_alloc | apply pw_below_drewN | apply below_drew1) | exact HB.out))) : w.heap.size ≤ gb153)); clear HB; have HB := n0_; have BK153 := n1_; have GW153 := n2_; have GE153 := n3_; clear n0_ n1_ n2_ n3_; clear hb hbox hg; have hcz21_0 : w20.cell? ⟨gb153, 0, none⟩ = some (.int .i64 a0_0) := (blk_cell BK153.out 0).trans rfl; have hcz21_1 : w20.cell? ⟨gb153, 1, none⟩ = some (.int .i64 a0_1) := (blk_cell BK153.out 1).trans rfl; have hcz21_2 : w20.cell? ⟨gb153, 2, none⟩ = some (.string a0_2) := (blk_cell BK153.out 2).trans rfl; have hfz21_0 := blk_frozen BK153.out 0; have hfz21_1 := blk_frozen BK153.out 1; have hfz21_2 := blk_frozen BK153.out 2))
        go_ret
        exact ⟨by first | rfl | (simp [errW_none, errW_some] <;> rfl) | (simp [*, errW_none, errW_some] <;> rfl), by repeat (first | (with_reducible first | exact HB.out | apply below_alloc | apply pw_below_drewN | apply below_drew1 | refine below_set ?_ GE153.out) | exact HB.out)⟩
def antecedentref09_Term.f (k : Nat) (a0_0 : ByteArray) (a0_1 : Int) (a0_2 : Int) (a0_3 : ByteArray) : Option (Bool) := if a0_0.toList = ([] : List UInt8) then ((antecedentref02_Right.f a0_1 a0_2 a0_3).bind fun t157 => (some t157)) else ((antecedentref07_Variable.f k a0_0).bind fun t158 => (if t158 = true then (some (a0_1 == 0 && (a0_2 == 0 && (a0_3.toList == ([] : List UInt8))))) else (some false)))
mutual
def antecedentref09_RightAtom.j0 : Nat → Bool → ByteArray → List (S60) → Option (Bool)
  | 0, _, _, _ => none
  | k + 1, x13, x160000, x160001 => if x13 = true then (some false) else (antecedentref09_RightAtom.l0 k (x160001.length : Int) 0 x160000 x160001)
def antecedentref09_RightAtom.l0 : Nat → Int → Int → ByteArray → List (S60) → Option (Bool)
  | 0, _, _, _, _ => none
  | k + 1, x16, x17, x160000, x160001 => if x17 < x16 then (if 0 ≤ x17 then (if x17 < (x160001.length : Int) then ((antecedentref09_Term.f k ((rd_T60 x160001 x17).f0) ((rd_T60 x160001 x17).f1.f0) ((rd_T60 x160001 x17).f1.f1) ((rd_T60 x160001 x17).f1.f2)).bind fun t162 => (if t162 = true then (antecedentref09_RightAtom.l0 k x16 (wrap64 (x17 + 1)) x160000 x160001) else (some false))) else (none)) else (none)) else (some true)
end
def antecedentref02_Text.l0 : Nat → ByteArray → Option (ByteArray)
  | 0, _ => none
  | k + 1, x3 => if (x3.size : Int) < 16 then (if 1 + x3.size ≤ 9223372036854775807 then (antecedentref02_Text.l0 k ((⟨#[48]⟩ : ByteArray) ++ x3)) else (none)) else (if 1 + x3.size ≤ 9223372036854775807 then (some ((⟨#[35]⟩ : ByteArray) ++ x3)) else (none))
def antecedentref02_Text.f (k : Nat) (a0_0 : Int) (a0_1 : Int) (a0_2 : ByteArray) : Option (ByteArray) := (antecedentref02_Right.f a0_0 a0_1 a0_2).bind fun t170 => (if t170 = true then (if a0_0 = 1 then (if a0_1 < 0 then ((antecedentref02_Digits.f k (IntKind.u64.wrap (-(IntKind.u64.wrap (a0_1)))) 10).bind fun t171 => (if 1 + t171.size ≤ 9223372036854775807 then (some ((⟨#[45]⟩ : ByteArray) ++ t171)) else (none))) else ((antecedentref02_Digits.f k (IntKind.u64.wrap (a0_1)) 10).bind fun t172 => (some t172))) else (if a0_0 = 2 then ((antecedentref02_Digits.f k (IntKind.u64.wrap (a0_1)) 16).bind fun t173 => (antecedentref02_Text.l0 k t173)) else (some a0_2))) else (some (⟨#[]⟩ : ByteArray)))
set_option maxHeartbeats 8000000 in
set_option maxRecDepth 100000 in
theorem antecedentref02_Text.calls (k : Nat) (a0_0 : Int) (a0_1 : Int) (a0_2 : ByteArray) (r : ByteArray) (w : World) (h : antecedentref02_Text.f k a0_0 a0_1 a0_2 = some r) :
    Calls Tryz.prog 113 #[.agg #[.int .i64 a0_0, .int .i64 a0_1, .string a0_2]] w fun e w' => e = .returned (.string r) ∧ Below w.heap.size w w' := by
  have hu58 := Tryz.underlying58
  have HB := Aside0.mk (Below.refl w.heap.size w)
  have H : ((antecedentref02_Right.f a0_0 a0_1 a0_2).bind fun t170 => (if t170 = true then (if a0_0 = 1 then (if a0_1 < 0 then ((antecedentref02_Digits.f k (IntKind.u64.wrap (-(IntKind.u64.wrap (a0_1)))) 10).bind fun t171 => (if 1 + t171.size ≤ 9223372036854775807 then (some ((⟨#[45]⟩ : ByteArray) ++ t171)) else (none))) else ((antecedentref02_Digits.f k (IntKind.u64.wrap (a0_1)) 10).bind fun t172 => (some t172))) else (if a0_0 = 2 then ((antecedentref02_Digits.f k (IntKind.u64.wrap (a0_1)) 16).bind fun t173 => (antecedentref02_Text.l0 k t173)) else (some a0_2))) else (some (⟨#[]⟩ : ByteArray)))) = some r := h
  clear h
  replace H := Option.bind_eq_some_iff.mp H
  obtain ⟨t170, A20, H⟩ := H
  replace H : (if t170 = true then (if a0_0 = 1 then (if a0_1 < 0 then ((antecedentref02_Digits.f k (IntKind.u64.wrap (-(IntKind.u64.wrap (a0_1)))) 10).bind fun t171 => (if 1 + t171.size ≤ 9223372036854775807 then (some ((⟨#[45]⟩ : ByteArray) ++ t171)) else (none))) else ((antecedentref02_Digits.f k (IntKind.u64.wrap (a0_1)) 10).bind fun t172 => (some t172))) else (if a0_0 = 2 then ((antecedentref02_Digits.f k (IntKind.u64.wrap (a0_1)) 16).bind fun t173 => (antecedentref02_Text.l0 k t173)) else (some a0_2))) else (some (⟨#[]⟩ : ByteArray))) = some r := H
  have A2 := Aside0.mk A20
  clear A20
  by_cases c3 : t170 = true
  · subst c3
    have H1 : (if a0_0 = 1 then (if a0_1 < 0 then ((antecedentref02_Digits.f k (IntKind.u64.wrap (-(IntKind.u64.wrap (a0_1)))) 10).bind fun t171 => (if 1 + t171.size ≤ 9223372036854775807 then (some ((⟨#[45]⟩ : ByteArray) ++ t171)) else (none))) else ((antecedentref02_Digits.f k (IntKind.u64.wrap (a0_1)) 10).bind fun t172 => (some t172))) else (if a0_0 = 2 then ((antecedentref02_Digits.f k (IntKind.u64.wrap (a0_1)) 16).bind fun t173 => (antecedentref02_Text.l0 k t173)) else (some a0_2))) = some r := by rw [if_pos rfl] at H; exact H
    clear H
    have H := H1
    clear H1
    by_cases c4 : a0_0 = 1
    · rw [if_pos c4] at H
      have c4b0 : (a0_0 == 1) = true := beq_iff_eq.mpr c4
      have c4b1 : (a0_0 != 1) = false := bne_eq_false_iff_eq.mpr c4
      clear c4
      by_cases c5 : a0_1 < 0
      · rw [if_pos c5] at H
        have c5b0 : decide (a0_1 < 0) = true := decide_eq_true c5
        clear c5
        replace H := Option.bind_eq_some_iff.mp H
        obtain ⟨t171, A60, H⟩ := H
        replace H : (if 1 + t171.size ≤ 9223372036854775807 then (some ((⟨#[45]⟩ : ByteArray) ++ t171)) else (none)) = some r := H
        have A6 := Aside0.mk A60
        clear A60
        by_cases c7 : 1 + t171.size ≤ 9223372036854775807
        · rw [if_pos c7] at H
          have c7b0 := eq_true c7
          have c7b1 : decide (1 + t171.size ≤ 9223372036854775807) = true := decide_eq_true c7
          try have c7b2 : (9223372036854775807 < 1 + t171.size) = False := eq_false (Nat.not_lt.2 c7)
          obtain rfl := Option.some.inj H
          go_enter Tryz.func113, Tryz.ntmps113
          go_wp2_with (first | ((with_reducible refine gate_dst (N := 1) rfl ?_); refine box_event ?hg (N := 1) ?hd (cs := #[.int .i64 a0_0, .int .i64 a0_1, .string a0_2]) (t := 58) ?hr ?_; (case hd => rfl); (case hg => rfl); (case hr => first | (go_simp; done) | (go_simp; rfl)); intro gb169 hg w8 hbox hb; have n0_ := Aside0.mk (below_step (by repeat (first | (with_reducible first | exact HB.out | apply below_alloc | apply pw_below_drewN | apply below_drew1) | exact HB.out)) hb); have n1_ := Aside0.mk (hbox); have n2_ := Aside0.mk ((by rw [hg]; exact (below_size (by repeat (first | (with_reducible first | exact HB.out | apply below_alloc | apply pw_below_drewN | apply below_drew1) | exact HB.out))) : w.heap.size ≤ gb169)); have n3_ := Aside0.mk ((by rw [hg]; exact (below_size (by repeat (first | (with_reducible first | exact HB.out | apply below_alloc | apply pw_below_drewN | apply below_drew1) | exact HB.out))) : w.heap.size ≤ gb169)); clear HB; have HB := n0_; have BK169 := n1_; have GW169 := n2_; have GE169 := n3_; clear n0_ n1_ n2_ n3_; clear hb hbox hg; have hcz9_0 : w8.cell? ⟨gb169, 0, none⟩ = some (.int .i64 a0_0) := (blk_cell BK169.out 0).trans rfl; have hcz9_1 : w8.cell? ⟨gb169, 1, none⟩ = some (.int .i64 a0_1) := (blk_cell BK169.out 1).trans rfl; have hcz9_2 : w8.cell? ⟨gb169, 2, none⟩ = some (.string a0_2) := (blk_cell BK169.out 2).trans rfl; have hfz9_0 := blk_frozen BK169.out 0; have hfz9_1 := blk_frozen BK169.out 1; have hfz9_2 := blk_frozen BK169.out 2) | ((with_reducible refine gate_callee (f := 112) rfl ?_); refine goesL_ (some 5) rfl rfl Tryz.func112 (by kernel_rfl) rfl #[.agg #[.int .i64 a0_0, .int .i64 a0_1, .string a0_2]] rfl (by (try simp only [List.map_toArray, List.map_cons, List.map_nil]); first | done | rfl | (simp only [List.length_drop, List.length_take]; rfl)) ?_; (with_reducible refine (antecedentref02_Right.calls a0_0 a0_1 a0_2 true _ A2.out).mono ?_); rintro e w10 ⟨rfl, hb⟩; refine ⟨_, rfl, ?_⟩; have n0_ := Aside0.mk (blk_below (g := gb169) (o := .cells #[.int .i64 a0_0, .int .i64 a0_1, .string a0_2] 58 (0, 0)) (by (with_reducible repeat (first | refine blk_drewN ?_ _ | refine blk_drew ?_ | refine blk_alloc ?_ _)); exact BK169.out) hb); have n1_ := Aside0.mk (below_step (by repeat (first | (with_reducible first | exact HB.out | apply below_alloc | apply pw_below_drewN | apply below_drew1 | refine below_set ?_ GE169.out) | exact HB.out)) hb); clear BK169; clear HB; have BK169 := n0_; have HB := n1_; clear n0_ n1_; (try clear hb); (try clear hb2); (try clear hk); (try clear hi); have hcz11_0 : w10.cell? ⟨gb169, 0, none⟩ = some (.int .i64 a0_0) := (blk_cell BK169.out 0).trans rfl; have hcz11_1 : w10.cell? ⟨gb169, 1, none⟩ = some (.int .i64 a0_1) := (blk_cell BK169.out 1).trans rfl; have hcz11_2 : w10.cell? ⟨gb169, 2, none⟩ = some (.string a0_2) := (blk_cell BK169.out 2).trans rfl; have hfz11_0 := blk_frozen BK169.out 0; have hfz11_1 := blk_frozen BK169.out 1; have hfz11_2 := blk_frozen BK169.out 2) | ((with_reducible refine gate_callee (f := 147) rfl ?_); refine goesL_ (some 18) rfl rfl Tryz.func147 (by kernel_rfl) rfl #[.int .u64 (IntKind.u64.wrap (-(IntKind.u64.wrap (a0_1)))), .int .u64 10] rfl (by (try simp only [List.map_toArray, List.map_cons, List.map_nil]); first | done | rfl | (simp only [List.length_drop, List.length_take]; rfl)) ?_; (with_reducible refine (antecedentref02_Digits.calls k (IntKind.u64.wrap (-(IntKind.u64.wrap (a0_1)))) 10 t171 _ A6.out).mono ?_); rintro e w12 ⟨rfl, hb⟩; refine ⟨_, rfl, ?_⟩; have n0_ := Aside0.mk (blk_below (g := gb169) (o := .cells #[.int .i64 a0_0, .int .i64 a0_1, .string a0_2] 58 (0, 0)) (by (with_reducible repeat (first | refine blk_drewN ?_ _ | refine blk_drew ?_ | refine blk_alloc ?_ _)); exact BK169.out) hb); have n1_ := Aside0.mk (below_step (by repeat (first | (with_reducible first | exact HB.out | apply below_alloc | apply pw_below_drewN | apply below_drew1 | refine below_set ?_ GE169.out) | exact HB.out)) hb); clear BK169; clear HB; have BK169 := n0_; have HB := n1_; clear n0_ n1_; (try clear hb); (try clear hb2); (try clear hk); (try clear hi)))
          go_ret
          exact ⟨by first | rfl | (simp [errW_none, errW_some] <;> rfl) | (simp [*, errW_none, errW_some] <;> rfl), by repeat (first | (with_reducible first | exact HB.out | apply below_alloc | apply pw_below_drewN | apply below_drew1 | refine below_set ?_ GE169.out) | exact HB.out)⟩
        · rw [if_neg c7] at H
          exact absurd H (by simp)
      · rw [if_neg c5] at H
        have c5b0 : decide (a0_1 < 0) = false := decide_eq_false c5
        clear c5
        replace H := Option.bind_eq_some_iff.mp H
        obtain ⟨t172, A130, H⟩ := H
        replace H : (some t172) = some r := H
        have A13 := Aside0.mk A130
        clear A130
        obtain rfl := Option.some.inj H
        go_enter Tryz.func113, Tryz.ntmps113
        go_wp2_with (first | ((with_reducible refine gate_dst (N := 1) rfl ?_); refine box_event ?hg (N := 1) ?hd (cs := #[.int .i64 a0_0, .int .i64 a0_1, .string a0_2]) (t := 58) ?hr ?_; (case hd => rfl); (case hg => rfl); (case hr => first | (go_simp; done) | (go_simp; rfl)); intro gb169 hg w14 hbox hb; have n0_ := Aside0.mk (below_step (by repeat (first | (with_reducible first | exact HB.out | apply below_alloc | apply pw_below_drewN | apply below_drew1) | exact HB.out)) hb); have n1_ := Aside0.mk (hbox); have n2_ := Aside0.mk ((by rw [hg]; exact (below_size (by repeat (first | (with_reducible first | exact HB.out | apply below_alloc | apply pw_below_drewN | apply below_drew1) | exact HB.out))) : w.heap.size ≤ gb169)); have n3_ := Aside0.mk ((by rw [hg]; exact (below_size (by repeat (first | (with_reducible first | exact HB.out | apply below_alloc | apply pw_below_drewN | apply below_drew1) | exact HB.out))) : w.heap.size ≤ gb169)); clear HB; have HB := n0_; have BK169 := n1_; have GW169 := n2_; have GE169 := n3_; clear n0_ n1_ n2_ n3_; clear hb hbox hg; have hcz15_0 : w14.cell? ⟨gb169, 0, none⟩ = some (.int .i64 a0_0) := (blk_cell BK169.out 0).trans rfl; have hcz15_1 : w14.cell? ⟨gb169, 1, none⟩ = some (.int .i64 a0_1) := (blk_cell BK169.out 1).trans rfl; have hcz15_2 : w14.cell? ⟨gb169, 2, none⟩ = some (.string a0_2) := (blk_cell BK169.out 2).trans rfl; have hfz15_0 := blk_frozen BK169.out 0; have hfz15_1 := blk_frozen BK169.out 1; have hfz15_2 := blk_frozen BK169.out 2) | ((with_reducible refine gate_callee (f := 112) rfl ?_); refine goesL_ (some 5) rfl rfl Tryz.func112 (by kernel_rfl) rfl #[.agg #[.int .i64 a0_0, .int .i64 a0_1, .string a0_2]] rfl (by (try simp only [List.map_toArray, List.map_cons, List.map_nil]); first | done | rfl | (simp only [List.length_drop, List.length_take]; rfl)) ?_; (with_reducible refine (antecedentref02_Right.calls a0_0 a0_1 a0_2 true _ A2.out).mono ?_); rintro e w16 ⟨rfl, hb⟩; refine ⟨_, rfl, ?_⟩; have n0_ := Aside0.mk (blk_below (g := gb169) (o := .cells #[.int .i64 a0_0, .int .i64 a0_1, .string a0_2] 58 (0, 0)) (by (with_reducible repeat (first | refine blk_drewN ?_ _ | refine blk_drew ?_ | refine blk_alloc ?_ _)); exact BK169.out) hb); have n1_ := Aside0.mk (below_step (by repeat (first | (with_reducible first | exact HB.out | apply below_alloc | apply pw_below_drewN | apply below_drew1 | refine below_set ?_ GE169.out) | exact HB.out)) hb); clear BK169; clear HB; have BK169 := n0_; have HB := n1_; clear n0_ n1_; (try clear hb); (try clear hb2); (try clear hk); (try clear hi); have hcz17_0 : w16.cell? ⟨gb169, 0, none⟩ = some (.int .i64 a0_0) := (blk_cell BK169.out 0).trans rfl; have hcz17_1 : w16.cell? ⟨gb169, 1, none⟩ = some (.int .i64 a0_1) := (blk_cell BK169.out 1).trans rfl; have hcz17_2 : w16.cell? ⟨gb169, 2, none⟩ = some (.string a0_2) := (blk_cell BK169.out 2).trans rfl; have hfz17_0 := blk_frozen BK169.out 0; have hfz17_1 := blk_frozen BK169.out 1; have hfz17_2 := blk_frozen BK169.out 2) | ((with_reducible refine gate_callee (f := 147) rfl ?_); refine goesL_ (some 23) rfl rfl Tryz.func147 (by kernel_rfl) rfl #[.int .u64 (IntKind.u64.wrap (a0_1)), .int .u64 10] rfl (by (try simp only [List.map_toArray, List.map_cons, List.map_nil]); first | done | rfl | (simp only [List.length_drop, List.length_take]; rfl)) ?_; (with_reducible refine (antecedentref02_Digits.calls k (IntKind.u64.wrap (a0_1)) 10 t172 _ A13.out).mono ?_); rintro e w18 ⟨rfl, hb⟩; refine ⟨_, rfl, ?_⟩; have n0_ := Aside0.mk (blk_below (g := gb169) (o := .cells #[.int .i64 a0_0, .int .i64 a0_1, .string a0_2] 58 (0, 0)) (by (with_reducible repeat (first | refine blk_drewN ?_ _ | refine blk_drew ?_ | refine blk_alloc ?_ _)); exact BK169.out) hb); have n1_ := Aside0.mk (below_step (by repeat (first | (with_reducible first | exact HB.out | apply below_alloc | apply pw_below_drewN | apply below_drew1 | refine below_set ?_ GE169.out) | exact HB.out)) hb); clear BK169; clear HB; have BK169 := n0_; have HB := n1_; clear n0_ n1_; (try clear hb); (try clear hb2); (try clear hk); (try clear hi)))
        go_ret
        exact ⟨by first | rfl | (simp [errW_none, errW_some] <;> rfl) | (simp [*, errW_none, errW_some] <;> rfl), by repeat (first | (with_reducible first | exact HB.out | apply below_alloc | apply pw_below_drewN | apply below_drew1 | refine below_set ?_ GE169.out) | exact HB.out)⟩
    · rw [if_neg c4] at H
      have c4b0 : (a0_0 == 1) = false := beq_eq_false_iff_ne.mpr c4
      have c4b1 : (a0_0 != 1) = true := bne_iff_ne.mpr c4
      by_cases c19 : a0_0 = 2
      · rw [if_pos c19] at H
        have c19b0 : (a0_0 == 2) = true := beq_iff_eq.mpr c19
        have c19b1 : (a0_0 != 2) = false := bne_eq_false_iff_eq.mpr c19
        clear c19
        replace H := Option.bind_eq_some_iff.mp H
        obtain ⟨t173, A200, H⟩ := H
        replace H : (antecedentref02_Text.l0 k t173) = some r := H
        have A20 := Aside0.mk A200
        clear A200
        have H' := Aside0.mk H
        clear H
        go_enter Tryz.func113, Tryz.ntmps113
        go_wp2_with (first | ((with_reducible refine gate_dst (N := 1) rfl ?_); refine box_event ?hg (N := 1) ?hd (cs := #[.int .i64 a0_0, .int .i64 a0_1, .string a0_2]) (t := 58) ?hr ?_; (case hd => rfl); (case hg => rfl); (case hr => first | (go_simp; done) | (go_simp; rfl)); intro gb169 hg w21 hbox hb; have n0_ := Aside0.mk (below_step (by repeat (first | (with_reducible first | exact HB.out | apply below_alloc | apply pw_below_drewN | apply below_drew1) | exact HB.out)) hb); have n1_ := Aside0.mk (hbox); have n2_ := Aside0.mk ((by rw [hg]; exact (below_size (by repeat (first | (with_reducible first | exact HB.out | apply below_alloc | apply pw_below_drewN | apply below_drew1) | exact HB.out))) : w.heap.size ≤ gb169)); have n3_ := Aside0.mk ((by rw [hg]; exact (below_size (by repeat (first | (with_reducible first | exact HB.out | apply below_alloc | apply pw_below_drewN | apply below_drew1) | exact HB.out))) : w.heap.size ≤ gb169)); clear HB; have HB := n0_; have BK169 := n1_; have GW169 := n2_; have GE169 := n3_; clear n0_ n1_ n2_ n3_; clear hb hbox hg; have hcz22_0 : w21.cell? ⟨gb169, 0, none⟩ = some (.int .i64 a0_0) := (blk_cell BK169.out 0).trans rfl; have hcz22_1 : w21.cell? ⟨gb169, 1, none⟩ = some (.int .i64 a0_1) := (blk_cell BK169.out 1).trans rfl; have hcz22_2 : w21.cell? ⟨gb169, 2, none⟩ = some (.string a0_2) := (blk_cell BK169.out 2).trans rfl; have hfz22_0 := blk_frozen BK169.out 0; have hfz22_1 := blk_frozen BK169.out 1; have hfz22_2 := blk_frozen BK169.out 2) | ((with_reducible refine gate_callee (f := 112) rfl ?_); refine goesL_ (some 5) rfl rfl Tryz.func112 (by kernel_rfl) rfl #[.agg #[.int .i64 a0_0, .int .i64 a0_1, .string a0_2]] rfl (by (try simp only [List.map_toArray, List.map_cons, List.map_nil]); first | done | rfl | (simp only [List.length_drop, List.length_take]; rfl)) ?_; (with_reducible refine (antecedentref02_Right.calls a0_0 a0_1 a0_2 true _ A2.out).mono ?_); rintro e w23 ⟨rfl, hb⟩; refine ⟨_, rfl, ?_⟩; have n0_ := Aside0.mk (blk_below (g := gb169) (o := .cells #[.int .i64 a0_0, .int .i64 a0_1, .string a0_2] 58 (0, 0)) (by (with_reducible repeat (first | refine blk_drewN ?_ _ | refine blk_drew ?_ | refine blk_alloc ?_ _)); exact BK169.out) hb); have n1_ := Aside0.mk (below_step (by repeat (first | (with_reducible first | exact HB.out | apply below_alloc | apply pw_below_drewN | apply below_drew1 | refine below_set ?_ GE169.out) | exact HB.out)) hb); clear BK169; clear HB; have BK169 := n0_; have HB := n1_; clear n0_ n1_; (try clear hb); (try clear hb2); (try clear hk); (try clear hi); have hcz24_0 : w23.cell? ⟨gb169, 0, none⟩ = some (.int .i64 a0_0) := (blk_cell BK169.out 0).trans rfl; have hcz24_1 : w23.cell? ⟨gb169, 1, none⟩ = some (.int .i64 a0_1) := (blk_cell BK169.out 1).trans rfl; have hcz24_2 : w23.cell? ⟨gb169, 2, none⟩ = some (.string a0_2) := (blk_cell BK169.out 2).trans rfl; have hfz24_0 := blk_frozen BK169.out 0; have hfz24_1 := blk_frozen BK169.out 1; have hfz24_2 := blk_frozen BK169.out 2) | ((with_reducible refine gate_callee (f := 147) rfl ?_); refine goesL_ (some 29) rfl rfl Tryz.func147 (by kernel_rfl) rfl #[.int .u64 (IntKind.u64.wrap (a0_1)), .int .u64 16] rfl (by (try simp only [List.map_toArray, List.map_cons, List.map_nil]); first | done | rfl | (simp only [List.length_drop, List.length_take]; rfl)) ?_; (with_reducible refine (antecedentref02_Digits.calls k (IntKind.u64.wrap (a0_1)) 16 t173 _ A20.out).mono ?_); rintro e w25 ⟨rfl, hb⟩; refine ⟨_, rfl, ?_⟩; have n0_ := Aside0.mk (blk_below (g := gb169) (o := .cells #[.int .i64 a0_0, .int .i64 a0_1, .string a0_2] 58 (0, 0)) (by (with_reducible repeat (first | refine blk_drewN ?_ _ | refine blk_drew ?_ | refine blk_alloc ?_ _)); exact BK169.out) hb); have n1_ := Aside0.mk (below_step (by repeat (first | (with_reducible first | exact HB.out | apply below_alloc | apply pw_below_drewN | apply below_drew1 | refine below_set ?_ GE169.out) | exact HB.out)) hb); clear BK169; clear HB; have BK169 := n0_; have HB := n1_; clear n0_ n1_; (try clear hb); (try clear hb2); (try clear hk); (try clear hi)))
        go_loopg [3] k (fun kq v3 w' => ∃ (x3_1 : ByteArray), v3 = .string x3_1 ∧ Aside0 (antecedentref02_Text.l0 kq x3_1 = some r) ∧ Aside0 (kq ≤ k) ∧ Aside0 (w'.heap[gb169]? = some (.cells #[.int .i64 a0_0, .int .i64 a0_1, .string a0_2] 58 (0, 0))) ∧ Aside0 (Below w.heap.size w w'))
        case atStart => exact ⟨(t173), (by first | rfl | (simp; done) | (simp [*]; done)), H', ⟨Nat.le_refl _⟩, ⟨by (with_reducible repeat (first | refine blk_drewN ?_ _ | refine blk_drew ?_ | refine blk_alloc ?_ _)); exact BK169.out⟩, ⟨by repeat (first | (with_reducible first | exact HB.out | apply below_alloc | apply pw_below_drewN | apply below_drew1 | refine below_set ?_ GE169.out) | exact HB.out)⟩⟩
        case round =>
          clear H'
          try clear c1
          try clear p2
          try clear c3
          try clear c4
          try clear c4b0
          try clear c4b1
          try clear c5
          try clear c5b0
          try clear c7
          try clear c7b0
          try clear c7b1
          try clear c7b2
          try clear c11
          try clear c14
          try clear c19
          try clear c19b0
          try clear c19b1
          try clear hcz11_0
          try clear hcz11_1
          try clear hcz11_2
          try clear hcz15_0
          try clear hcz15_1
          try clear hcz15_2
          try clear hcz17_0
          try clear hcz17_1
          try clear hcz17_2
          try clear hcz22_0
          try clear hcz22_1
          try clear hcz22_2
          try clear hcz24_0
          try clear hcz24_1
          try clear hcz24_2
          try clear hcz9_0
          try clear hcz9_1
          try clear hcz9_2
          try clear hfz11_0
          try clear hfz11_1
          try clear hfz11_2
          try clear hfz15_0
          try clear hfz15_1
          try clear hfz15_2
          try clear hfz17_0
          try clear hfz17_1
          try clear hfz17_2
          try clear hfz22_0
          try clear hfz22_1
          try clear hfz22_2
          try clear hfz24_0
          try clear hfz24_1
          try clear hfz24_2
          try clear hfz9_0
          try clear hfz9_1
          try clear hfz9_2
          obtain ⟨x3_1, rfl, HA, HK1, BK169, HB⟩ := hrel
          cases gk with
          | zero => exact absurd HA.out (by simp [antecedentref02_Text.l0])
          | succ k1 =>
            have H := HA.out
            clear HA
            simp only [antecedentref02_Text.l0] at H
            by_cases c26 : (x3_1.size : Int) < 16
            · rw [if_pos c26] at H
              have c26b0 : decide ((x3_1.size : Int) < 16) = true := decide_eq_true c26
              have c26b1 : decide (x3_1.size < 16) = true := decide_eq_true (by omega)
              clear c26
              by_cases c27 : 1 + x3_1.size ≤ 9223372036854775807
              · rw [if_pos c27] at H
                have c27b0 := eq_true c27
                have c27b1 : decide (1 + x3_1.size ≤ 9223372036854775807) = true := decide_eq_true c27
                try have c27b2 : (9223372036854775807 < 1 + x3_1.size) = False := eq_false (Nat.not_lt.2 c27)
                have H' := Aside0.mk H
                clear H
                go_wp2
                go_roundg k1
                case measure => have := HK1.out; omega
                case rel => exact ⟨((⟨#[48]⟩ : ByteArray) ++ x3_1), (by first | rfl | (simp; done) | (simp [*]; done)), H', ⟨by have := HK1.out; omega⟩, ⟨by (with_reducible repeat (first | refine blk_drewN ?_ _ | refine blk_drew ?_ | refine blk_alloc ?_ _)); exact BK169.out⟩, ⟨by repeat (first | (with_reducible first | exact HB.out | apply below_alloc | apply pw_below_drewN | apply below_drew1 | refine below_set ?_ GE169.out) | exact HB.out)⟩⟩
              · rw [if_neg c27] at H
                exact absurd H (by simp)
            · rw [if_neg c26] at H
              have c26b0 : decide ((x3_1.size : Int) < 16) = false := decide_eq_false c26
              have c26b1 : decide (x3_1.size < 16) = false := decide_eq_false (by omega)
              clear c26
              by_cases c28 : 1 + x3_1.size ≤ 9223372036854775807
              · rw [if_pos c28] at H
                have c28b0 := eq_true c28
                have c28b1 : decide (1 + x3_1.size ≤ 9223372036854775807) = true := decide_eq_true c28
                try have c28b2 : (9223372036854775807 < 1 + x3_1.size) = False := eq_false (Nat.not_lt.2 c28)
                obtain rfl := Option.some.inj H
                go_wp2
                go_ret
                exact ⟨by first | rfl | (simp [errW_none, errW_some] <;> rfl) | (simp [*, errW_none, errW_some] <;> rfl), by repeat (first | (with_reducible first | exact HB.out | apply below_alloc | apply pw_below_drewN | apply below_drew1 | refine below_set ?_ GE169.out) | exact HB.out)⟩
              · rw [if_neg c28] at H
                exact absurd H (by simp)
      · rw [if_neg c19] at H
        have c19b0 : (a0_0 == 2) = false := beq_eq_false_iff_ne.mpr c19
        have c19b1 : (a0_0 != 2) = true := bne_iff_ne.mpr c19
        obtain rfl := Option.some.inj H
        go_enter Tryz.func113, Tryz.ntmps113
        go_wp2_with (first | ((with_reducible refine gate_dst (N := 1) rfl ?_); refine box_event ?hg (N := 1) ?hd (cs := #[.int .i64 a0_0, .int .i64 a0_1, .string a0_2]) (t := 58) ?hr ?_; (case hd => rfl); (case hg => rfl); (case hr => first | (go_simp; done) | (go_simp; rfl)); intro gb169 hg w29 hbox hb; have n0_ := Aside0.mk (below_step (by repeat (first | (with_reducible first | exact HB.out | apply below_alloc | apply pw_below_drewN | apply below_drew1) | exact HB.out)) hb); have n1_ := Aside0.mk (hbox); have n2_ := Aside0.mk ((by rw [hg]; exact (below_size (by repeat (first | (with_reducible first | exact HB.out | apply below_alloc | apply pw_below_drewN | apply below_drew1) | exact HB.out))) : w.heap.size ≤ gb169)); have n3_ := Aside0.mk ((by rw [hg]; exact (below_size (by repeat (first | (with_reducible first | exact HB.out | apply below_alloc | apply pw_below_drewN | apply below_drew1) | exact HB.out))) : w.heap.size ≤ gb169)); clear HB; have HB := n0_; have BK169 := n1_; have GW169 := n2_; have GE169 := n3_; clear n0_ n1_ n2_ n3_; clear hb hbox hg; have hcz30_0 : w29.cell? ⟨gb169, 0, none⟩ = some (.int .i64 a0_0) := (blk_cell BK169.out 0).trans rfl; have hcz30_1 : w29.cell? ⟨gb169, 1, none⟩ = some (.int .i64 a0_1) := (blk_cell BK169.out 1).trans rfl; have hcz30_2 : w29.cell? ⟨gb169, 2, none⟩ = some (.string a0_2) := (blk_cell BK169.out 2).trans rfl; have hfz30_0 := blk_frozen BK169.out 0; have hfz30_1 := blk_frozen BK169.out 1; have hfz30_2 := blk_frozen BK169.out 2) | ((with_reducible refine gate_callee (f := 112) rfl ?_); refine goesL_ (some 5) rfl rfl Tryz.func112 (by kernel_rfl) rfl #[.agg #[.int .i64 a0_0, .int .i64 a0_1, .string a0_2]] rfl (by (try simp only [List.map_toArray, List.map_cons, List.map_nil]); first | done | rfl | (simp only [List.length_drop, List.length_take]; rfl)) ?_; (with_reducible refine (antecedentref02_Right.calls a0_0 a0_1 a0_2 true _ A2.out).mono ?_); rintro e w31 ⟨rfl, hb⟩; refine ⟨_, rfl, ?_⟩; have n0_ := Aside0.mk (blk_below (g := gb169) (o := .cells #[.int .i64 a0_0, .int .i64 a0_1, .string a0_2] 58 (0, 0)) (by (with_reducible repeat (first | refine blk_drewN ?_ _ | refine blk_drew ?_ | refine blk_alloc ?_ _)); exact BK169.out) hb); have n1_ := Aside0.mk (below_step (by repeat (first | (with_reducible first | exact HB.out | apply below_alloc | apply pw_below_drewN | apply below_drew1 | refine below_set ?_ GE169.out) | exact HB.out)) hb); clear BK169; clear HB; have BK169 := n0_; have HB := n1_; clear n0_ n1_; (try clear hb); (try clear hb2); (try clear hk); (try clear hi); have hcz32_0 : w31.cell? ⟨gb169, 0, none⟩ = some (.int .i64 a0_0) := (blk_cell BK169.out 0).trans rfl; have hcz32_1 : w31.cell? ⟨gb169, 1, none⟩ = some (.int .i64 a0_1) := (blk_cell BK169.out 1).trans rfl; have hcz32_2 : w31.cell? ⟨gb169, 2, none⟩ = some (.string a0_2) := (blk_cell BK169.out 2).trans rfl; have hfz32_0 := blk_frozen BK169.out 0; have hfz32_1 := blk_frozen BK169.out 1; have hfz32_2 := blk_frozen BK169.out 2))
        go_ret
        exact ⟨by first | rfl | (simp [errW_none, errW_some] <;> rfl) | (simp [*, errW_none, errW_some] <;> rfl), by repeat (first | (with_reducible first | exact HB.out | apply below_alloc | apply pw_below_drewN | apply below_drew1 | refine below_set ?_ GE169.out) | exact HB.out)⟩
  · replace c3 := Bool.eq_false_iff.mpr c3
    subst c3
    have H1 : (some (⟨#[]⟩ : ByteArray)) = some r := by rw [if_neg (show ¬ (false = true) by decide)] at H; exact H
    clear H
    have H := H1
    clear H1
    obtain rfl := Option.some.inj H
    go_enter Tryz.func113, Tryz.ntmps113
    go_wp2_with (first | ((with_reducible refine gate_dst (N := 1) rfl ?_); refine box_event ?hg (N := 1) ?hd (cs := #[.int .i64 a0_0, .int .i64 a0_1, .string a0_2]) (t := 58) ?hr ?_; (case hd => rfl); (case hg => rfl); (case hr => first | (go_simp; done) | (go_simp; rfl)); intro gb169 hg w33 hbox hb; have n0_ := Aside0.mk (below_step (by repeat (first | (with_reducible first | exact HB.out | apply below_alloc | apply pw_below_drewN | apply below_drew1) | exact HB.out)) hb); have n1_ := Aside0.mk (hbox); have n2_ := Aside0.mk ((by rw [hg]; exact (below_size (by repeat (first | (with_reducible first | exact HB.out | apply below_alloc | apply pw_below_drewN | apply below_drew1) | exact HB.out))) : w.heap.size ≤ gb169)); have n3_ := Aside0.mk ((by rw [hg]; exact (below_size (by repeat (first | (with_reducible first | exact HB.out | apply below_alloc | apply pw_below_drewN | apply below_drew1) | exact HB.out))) : w.heap.size ≤ gb169)); clear HB; have HB := n0_; have BK169 := n1_; have GW169 := n2_; have GE169 := n3_; clear n0_ n1_ n2_ n3_; clear hb hbox hg; have hcz34_0 : w33.cell? ⟨gb169, 0, none⟩ = some (.int .i64 a0_0) := (blk_cell BK169.out 0).trans rfl; have hcz34_1 : w33.cell? ⟨gb169, 1, none⟩ = some (.int .i64 a0_1) := (blk_cell BK169.out 1).trans rfl; have hcz34_2 : w33.cell? ⟨gb169, 2, none⟩ = some (.string a0_2) := (blk_cell BK169.out 2).trans rfl; have hfz34_0 := blk_frozen BK169.out 0; have hfz34_1 := blk_frozen BK169.out 1; have hfz34_2 := blk_frozen BK169.out 2) | ((with_reducible refine gate_callee (f := 112) rfl ?_); refine goesL_ (some 5) rfl rfl Tryz.func112 (by kernel_rfl) rfl #[.agg #[.int .i64 a0_0, .int .i64 a0_1, .string a0_2]] rfl (by (try simp only [List.map_toArray, List.map_cons, List.map_nil]); first | done | rfl | (simp only [List.length_drop, List.length_take]; rfl)) ?_; (with_reducible refine (antecedentref02_Right.calls a0_0 a0_1 a0_2 false _ A2.out).mono ?_); rintro e w35 ⟨rfl, hb⟩; refine ⟨_, rfl, ?_⟩; have n0_ := Aside0.mk (blk_below (g := gb169) (o := .cells #[.int .i64 a0_0, .int .i64 a0_1, .string a0_2] 58 (0, 0)) (by (with_reducible repeat (first | refine blk_drewN ?_ _ | refine blk_drew ?_ | refine blk_alloc ?_ _)); exact BK169.out) hb); have n1_ := Aside0.mk (below_step (by repeat (first | (with_reducible first | exact HB.out | apply below_alloc | apply pw_below_drewN | apply below_drew1 | refine below_set ?_ GE169.out) | exact HB.out)) hb); clear BK169; clear HB; have BK169 := n0_; have HB := n1_; clear n0_ n1_; (try clear hb); (try clear hb2); (try clear hk); (try clear hi)))
    go_ret
    exact ⟨by first | rfl | (simp [errW_none, errW_some] <;> rfl) | (simp [*, errW_none, errW_some] <;> rfl), by repeat (first | (with_reducible first | exact HB.out | apply below_alloc | apply pw_below_drewN | apply below_drew1 | refine below_set ?_ GE169.out) | exact HB.out)⟩
end Go.Proofs.YthebhbomlllpeaaGreatDoor.X
namespace Go.Proofs.YthebhbomlllpeaaGreatDoor.X
set_option linter.unusedVariables false
set_option linter.unusedSimpArgs false
open Go.RowKit Go.Proofs.YthebhbomlllpeaaGreatDoorW.PrintWords Go.Proofs.YthebhbomlllpeaaGreatDoorW.PrintLast Go.Proofs.YthebhbomlllpeaaGreatDoorW.PrintMore
theorem str1 (x : Int) (c : UInt8) (h : UInt8.ofNat x.toNat = c) : strOfNums [x] = ⟨#[c]⟩ := by
  subst h; rfl
theorem digits_step (b : Nat) (l : Nat → List UInt8) (hT : TellsBase b l) (k u : Nat) (acc : ByteArray) (hu : u < 18446744073709551616) (ha : acc.size ≤ 1000) :
    antecedentref02_Digits.j1 (k + 1) (u : Int) (b : Int) acc true = antecedentref02_Digits.l0 k ((u / b : Nat) : Int) (b : Int) (⟨#[hexc (u % b)]⟩ ++ acc) := by
  have hb := hT.two
  have hb2 := hT.most
  have hm : Int.tmod (u : Int) (b : Int) = ((u % b : Nat) : Int) := by rw [Int.tmod_eq_emod_of_nonneg (by omega)]; rfl
  have hd : IntKind.u64.wrap (Int.tdiv (u : Int) (b : Int)) = ((u / b : Nat) : Int) := by
    rw [Int.tdiv_eq_ediv_of_nonneg (by omega), IntKind.wrap_u64]
    have h1 : (u : Int) / (b : Int) = ((u / b : Nat) : Int) := rfl
    have h2 : u / b ≤ u := Nat.div_le_self _ _
    rw [h1]
    generalize u / b = q at h2
    omega
  have hlt : u % b < b := Nat.mod_lt _ (by omega)
  simp only [antecedentref02_Digits.j1, if_true, hm, hd]
  rw [if_neg (by omega)]
  generalize hr : u % b = r at hlt ⊢
  split
  · rename_i h
    simp only [Option.bind_some]
    rw [str1 _ (hexc r) (by
      have h1 : ((97 + (r : Int) % 256) % 256 - 10) % 256 = ((87 + r : Nat) : Int) := by omega
      rw [h1, Int.toNat_natCast]; unfold hexc; rw [if_neg (by omega)])]
    rw [if_pos (by show 1 + acc.size ≤ _; omega)]
  · rename_i h
    simp only [Option.bind_some]
    rw [str1 _ (hexc r) (by
      have h1 : ((48 : Int) + (r : Int) % 256) % 256 = ((48 + r : Nat) : Int) := by omega
      rw [h1, Int.toNat_natCast]; unfold hexc; rw [if_pos (by omega)])]
    rw [if_pos (by show 1 + acc.size ≤ _; omega)]
theorem digits_loop (b : Nat) (l : Nat → List UInt8) (hT : TellsBase b l) : ∀ (d u k : Nat) (acc : ByteArray), u < b ^ (d + 1) → d ≤ 70 → acc.size + d ≤ 900 → u < 18446744073709551616 → (0 < u ∨ acc.size = 0) → 2 * d + 6 ≤ k →
    antecedentref02_Digits.l0 k (u : Int) (b : Int) acc = some (⟨(l u).toArray⟩ ++ acc) := by
  intro d
  induction d with
  | zero =>
    intro u k acc hu hd ha hu2 h0 hk
    obtain ⟨k, rfl⟩ : ∃ j, k = j + 4 := ⟨k - 4, by omega⟩
    have hb := hT.two
    have e : antecedentref02_Digits.l0 (k + 4) (u : Int) (b : Int) acc = antecedentref02_Digits.j1 (k + 3) (u : Int) (b : Int) acc true := by
      rw [show k + 4 = (k + 3) + 1 from rfl]
      simp only [antecedentref02_Digits.l0]
      rcases h0 with h0 | h0
      · rw [if_pos (by omega)]
      · split
        · rfl
        · rw [show (acc.toList == ([] : List UInt8)) = true from by rw [beq_iff_eq]; exact (toList_nil acc).2 h0]
    rw [e, show k + 3 = (k + 2) + 1 from rfl, digits_step b l hT (k + 2) u acc hu2 (by omega)]
    have hu' : u < b := by simpa using hu
    rw [Nat.div_eq_of_lt hu', Nat.mod_eq_of_lt hu', show k + 2 = (k + 1) + 1 from rfl]
    simp only [antecedentref02_Digits.l0]
    rw [if_neg (by omega), show ((⟨#[hexc u]⟩ ++ acc : ByteArray).toList == ([] : List UInt8)) = false from by
      rw [beq_eq_false_iff_ne]; intro h
      have := (toList_nil _).1 h
      rw [ByteArray.size_append] at this
      change 1 + acc.size = 0 at this; omega]
    simp only [antecedentref02_Digits.j1, Bool.false_eq_true, if_false]
    rw [hT.one u hu']
  | succ d ih =>
    intro u k acc hu hd ha hu2 h0 hk
    obtain ⟨k, rfl⟩ : ∃ j, k = j + 2 := ⟨k - 2, by omega⟩
    have hb := hT.two
    have e : antecedentref02_Digits.l0 (k + 2) (u : Int) (b : Int) acc = antecedentref02_Digits.j1 (k + 1) (u : Int) (b : Int) acc true := by
      rw [show k + 2 = (k + 1) + 1 from rfl]
      simp only [antecedentref02_Digits.l0]
      rcases h0 with h0 | h0
      · rw [if_pos (by omega)]
      · split
        · rfl
        · rw [show (acc.toList == ([] : List UInt8)) = true from by rw [beq_iff_eq]; exact (toList_nil acc).2 h0]
    rw [e, digits_step b l hT k u acc hu2 (by omega)]
    have hs : (⟨#[hexc (u % b)]⟩ ++ acc : ByteArray).size = 1 + acc.size := by rw [ByteArray.size_append]; rfl
    by_cases hz : b ≤ u
    · have hp : 0 < u / b := Nat.div_pos hz (by omega)
      have h2 : u / b ≤ u := Nat.div_le_self _ _
      rw [ih (u / b) k _ (by rw [Nat.pow_succ] at hu; exact Nat.div_lt_of_lt_mul (by rw [Nat.mul_comm]; exact hu)) (by omega) (by omega) (by omega) (Or.inl hp) (by omega)]
      rw [hT.more u hz]
      congr 1
      apply ba_eq
      simp
    · obtain ⟨k, rfl⟩ : ∃ j, k = j + 2 := ⟨k - 2, by omega⟩
      have hu' : u < b := by omega
      rw [Nat.div_eq_of_lt hu', Nat.mod_eq_of_lt hu', show k + 2 = (k + 1) + 1 from rfl]
      simp only [antecedentref02_Digits.l0]
      rw [if_neg (by omega), show ((⟨#[hexc u]⟩ ++ acc : ByteArray).toList == ([] : List UInt8)) = false from by
        rw [beq_eq_false_iff_ne]; intro h
        have := (toList_nil _).1 h
        rw [ByteArray.size_append] at this
        change 1 + acc.size = 0 at this; omega]
      simp only [antecedentref02_Digits.j1, Bool.false_eq_true, if_false]
      rw [hT.one u hu']
theorem ba_nil (a : ByteArray) : a ++ (⟨#[]⟩ : ByteArray) = a := by apply ba_eq; simp
theorem ref02_Digits_10 (u k : Nat) (hu : u < 18446744073709551616) (hk : 46 ≤ k) : antecedentref02_Digits.f k (u : Int) 10 = some ⟨(Lib.decDigits u).toArray⟩ := by
  unfold antecedentref02_Digits.f
  have := digits_loop 10 _ tells10 19 u k ⟨#[]⟩ (Nat.lt_of_lt_of_le hu (by decide)) (by omega) (by show 0 + 19 ≤ 900; omega) hu (Or.inr rfl) (by omega)
  rw [ba_nil] at this
  exact this
theorem ref02_Digits_16 (u k : Nat) (hu : u < 18446744073709551616) (hk : 46 ≤ k) : antecedentref02_Digits.f k (u : Int) 16 = some ⟨(hexL u).toArray⟩ := by
  unfold antecedentref02_Digits.f
  have := digits_loop 16 _ tells16 19 u k ⟨#[]⟩ (Nat.lt_of_lt_of_le hu (by decide)) (by omega) (by show 0 + 19 ≤ 900; omega) hu (Or.inr rfl) (by omega)
  rw [ba_nil] at this
  exact this
theorem pad_loop (l : List UInt8) : ∀ (d k : Nat), 16 - l.length = d → l.length ≤ 16 → d < k →
    antecedentref02_Text.l0 k ⟨l.toArray⟩ = some ⟨(35 :: (List.replicate (16 - l.length) 48 ++ l)).toArray⟩ := by
  intro d
  induction d generalizing l with
  | zero =>
    intro k h1 h2 hk
    obtain ⟨k, rfl⟩ : ∃ j, k = j + 1 := ⟨k - 1, by omega⟩
    have hl : l.length = 16 := by omega
    simp only [antecedentref02_Text.l0]
    have hs : (⟨l.toArray⟩ : ByteArray).size = 16 := by simp [ByteArray.size, hl]
    rw [hs, if_neg (by omega), if_pos (by omega), hl]
    rfl
  | succ d ih =>
    intro k h1 h2 hk
    obtain ⟨k, rfl⟩ : ∃ j, k = j + 1 := ⟨k - 1, by omega⟩
    simp only [antecedentref02_Text.l0]
    have hs : (⟨l.toArray⟩ : ByteArray).size = l.length := by simp [ByteArray.size]
    rw [hs, if_pos (by omega), if_pos (by omega)]
    have e : (⟨#[48]⟩ : ByteArray) ++ ⟨l.toArray⟩ = ⟨(48 :: l).toArray⟩ := by apply ba_eq; simp
    rw [e, ih (48 :: l) k (by simp; omega) (by simp; omega) (by omega)]
    have e2 : List.replicate (16 - l.length) (48 : UInt8) ++ l = List.replicate (16 - (48 :: l).length) 48 ++ 48 :: l := by
      rw [show 16 - l.length = (16 - (48 :: l).length) + 1 from by simp; omega, List.replicate_succ']
      simp
    rw [e2]
theorem ref01_Right_eq (n : Int) : antecedentref01_Right.f n = some (floB n) := by
  unfold antecedentref01_Right.f floB
  by_cases h : n = 9221120237041090561
  · rw [if_pos h]; simp [h]
  · rw [if_neg h]
    by_cases h1 : n ≤ 9218868437227405312
    · rw [if_pos h1]; congr 1; simp [h, h1]
    · rw [if_neg h1]; congr 1; symm; simp [h]; omega
theorem ref02_Right_eq (a b : Int) (s : ByteArray) : antecedentref02_Right.f a b s = some (rightB a b s) := by
  unfold antecedentref02_Right.f rightB
  by_cases h1 : a = 1
  · rw [if_pos h1, if_pos h1]
    congr 1
    rw [Bool.eq_iff_iff, beq_iff_eq, decide_eq_true_iff, toList_nil]
  · rw [if_neg h1, if_neg h1]
    by_cases h2 : a = 2
    · rw [if_pos h2, if_pos h2]
      by_cases h3 : s.size = 0
      · rw [if_pos ((toList_nil s).2 h3), ref01_Right_eq]; simp [h3]
      · rw [if_neg (fun h => h3 ((toList_nil s).1 h))]; simp [h3]
    · rw [if_neg h2, if_neg h2]
      by_cases h3 : a = 3
      · rw [if_pos h3, if_pos h3]
        by_cases h4 : b = 0
        · rw [if_pos h4]; unfold antecedentref02_Name.f; simp [h4]
        · rw [if_neg h4]; simp [h4]
      · rw [if_neg h3, if_neg h3]
theorem ref02_Text_eq (a b : Int) (s : ByteArray) (k : Nat) (hk : 46 ≤ k) (hb : -9223372036854775808 ≤ b ∧ b ≤ 9223372036854775807) :
    antecedentref02_Text.f k a b s = some ⟨(textL a b s).toArray⟩ := by
  unfold antecedentref02_Text.f textL
  rw [ref02_Right_eq]
  simp only [Option.bind_some]
  by_cases hr : rightB a b s = true
  · rw [if_pos hr, if_pos hr]
    by_cases h1 : a = 1
    · rw [if_pos h1, if_pos h1]
      unfold Lib.itoa
      by_cases h2 : b < 0
      · rw [if_pos h2, if_pos h2]
        have e : IntKind.u64.wrap (-(IntKind.u64.wrap b)) = ((b.natAbs : Nat) : Int) := by simp only [IntKind.wrap_u64]; omega
        rw [e, ref02_Digits_10 _ k (by omega) hk]
        have hl : (Lib.decDigits b.natAbs).length ≤ 9223372036854775806 := by
          rw [Lib.decDigits_length]
          have := nDigits_20 b.natAbs (by omega)
          omega
        simp only [Option.bind_some]
        rw [if_pos (by simp only [ByteArray.size, List.size_toArray]; omega)]
        rfl
      · rw [if_neg h2, if_neg h2]
        have e : IntKind.u64.wrap b = ((b.toNat : Nat) : Int) := by rw [IntKind.wrap_u64]; omega
        rw [e, ref02_Digits_10 _ k (by omega) hk]
        rfl
    · rw [if_neg h1, if_neg h1]
      by_cases h2 : a = 2
      · rw [if_pos h2, if_pos h2]
        have hw := wrap_u64 b
        obtain ⟨u, hu⟩ : ∃ u : Nat, IntKind.u64.wrap b = (u : Int) := ⟨_, (Int.toNat_of_nonneg hw.1).symm⟩
        rw [hu, ref02_Digits_16 _ k (by omega) hk]
        simp only [Option.bind_some]
        have := hexL_length u 16 (by omega) (by omega)
        rw [pad_loop _ _ k rfl this.2 (by omega)]
        rfl
      · rw [if_neg h2, if_neg h2, ba_eta]
  · rw [if_neg hr, if_neg hr]
theorem textL_length (a b : Int) (s : ByteArray) (hb : -9223372036854775808 ≤ b ∧ b ≤ 9223372036854775807) : (textL a b s).length ≤ 40 := by
  unfold textL
  by_cases hr : rightB a b s = true
  · rw [if_pos hr]
    by_cases h1 : a = 1
    · rw [if_pos h1]
      unfold Lib.itoa
      split
      · have := nDigits_20 b.natAbs (by omega)
        simp [Lib.decDigits_length]; omega
      · have := nDigits_20 b.toNat (by omega)
        simp [Lib.decDigits_length]; omega
    · rw [if_neg h1]
      by_cases h2 : a = 2
      · rw [if_pos h2]
        have hw := wrap_u64 b
        have := hexL_length (IntKind.u64.wrap b).toNat 16 (by omega) (by omega)
        unfold hex16
        simp; omega
      · rw [if_neg h2]
        unfold rightB at hr
        rw [if_neg h1, if_neg h2] at hr
        by_cases h3 : a = 3
        · rw [if_pos h3] at hr
          simp only [Bool.and_eq_true, nameB, decide_eq_true_eq] at hr
          show s.size ≤ 40
          exact hr.2.1.2
        · rw [if_neg h3] at hr
          cases hr
  · rw [if_neg hr]; simp
end Go.Proofs.YthebhbomlllpeaaGreatDoor.X
namespace Go.Proofs.YthebhbomlllpeaaGreatDoor.X
set_option linter.unusedVariables false
set_option linter.unusedSimpArgs false
open Go.RowKit Go.Proofs.YthebhbomlllpeaaGreatDoorW.PrintWords Go.Proofs.YthebhbomlllpeaaGreatDoorW.PrintLast Go.Proofs.YthebhbomlllpeaaGreatDoorW.PrintMore
attribute [local go_sem high] eqA58
/-- a term that a machine can hold. -/
def okT (t : TmS) : Prop := (-9223372036854775808 ≤ t.f1.f1 ∧ t.f1.f1 ≤ 9223372036854775807) ∧ t.f0.size ≤ 9223372036854775807
theorem toList_iff (s : ByteArray) : s.toList = s.data.toList := ByteArray.toList_eq s
theorem bytes_nil {s : ByteArray} (h : s.data.toList = []) : s = ⟨#[]⟩ := by
  cases s with
  | mk d => have := congrArg List.toArray h; simp at this; rw [this]
theorem term_cells {w1 w0 : World} {n : Nat} {cs : Array Value} {t : TypeId} (hn : w0.heap.size = n) (h : Below (w0.alloc (.cells cs t)).heap.size (w0.alloc (.cells cs t)) w1) : w1.heap[n]? = some (.cells cs t (0, 0)) := by
  have := blk_new w0 (.cells cs t)
  rw [hn] at this
  exact blk_below this h
set_option maxRecDepth 100000 in
theorem variable_any (v : ByteArray) (hv : v.size ≤ 9223372036854775807) (w : World) :
    Calls Tryz.prog 107 #[.string v] w fun e w' => e = .returned (.bool (varL v.data.toList)) ∧ Drawn0 w w' := by
  by_cases h40 : v.size ≤ 40
  · exact lex_Variable.calls v _ w (by unfold lex_Variable.f; exact if_pos (by omega))
  · have hl : varL v.data.toList = false := by
      obtain ⟨r, hr⟩ := list_head (s := v) (by omega)
      have hlen : v.data.toList.length = v.size := data_length v
      rw [hr] at hlen ⊢
      unfold varL
      simp only
      rw [decide_eq_false (by omega)]
      rfl
    have hemp : v.toList.isEmpty = false := by
      obtain ⟨r, hr⟩ := list_head (s := v) (by omega)
      rw [toList_data, hr]; rfl
    have e1 : decide ((v.size : Int) ≤ 40) = false := decide_eq_false (by omega)
    rw [hl]
    clear hl h40 hv
    go_enter Tryz.func107, Tryz.ntmps107
    go_wp2
    go_ret
    exact ⟨rfl, Drawn0.refl _⟩
set_option maxHeartbeats 4000000 in
set_option maxRecDepth 100000 in
theorem term_show (t : TmS) (w : World) (hLW : LaidW w) (h : okT t) :
    Calls Tryz.prog 70 #[.agg #[.string t.f0, .int .i64 t.f1.f0, .int .i64 t.f1.f1, .string t.f1.f2]] w fun e w' => e = .returned (.string (baL (termL t))) ∧ Below w.heap.size w w' := by
  obtain ⟨v, ⟨k, m, s⟩⟩ := t
  have hB := below_alloc (Below.refl w.heap.size w) (.cells #[.string v, .int .i64 k, .int .i64 m, .string s] 60)
  have hN := blk_new w (.cells #[.string v, .int .i64 k, .int .i64 m, .string s] 60)
  obtain ⟨n, en⟩ : ∃ n, w.heap.size = n := ⟨_, rfl⟩
  rw [en] at hN
  by_cases h0 : v.data.toList = []
  · have e1 : (v.toList == ([] : List UInt8)) = true := by rw [beq_iff_eq, toList_iff]; exact h0
    have e2 : (v.toList == (⟨#[]⟩ : ByteArray).toList) = true := by rw [nil_bytes]; exact e1
    have HT := Aside0.mk (fun W (hW : LaidW W) => value_Text.calls k m s (baL (textL k m s)) W hW (by unfold value_Text.f; exact if_pos h.1))
    have HE := Aside0.mk (show termL ⟨v, ⟨k, m, s⟩⟩ = textL k m s from if_pos h0)
    have HB := Aside0.mk hB
    have HLW := Aside0.mk hLW
    clear hB hN h0 h hLW
    go_enter Tryz.func70, Tryz.ntmps70
    go_wp2_with fail
    refine (HT.out _ (HLW.out.below HB.out)).mono ?_
    rintro e w1 ⟨rfl, hb⟩
    have HB1 := Aside0.mk (below_then HB.out HB.out.size hb)
    clear hb
    go_wp2
    go_ret
    exact ⟨by rw [HE.out]; rfl, HB1.out⟩
  · have e1 : (v.toList == ([] : List UInt8)) = false := by rw [beq_eq_false_iff_ne, toList_iff]; exact h0
    have e2 : (v.toList == (⟨#[]⟩ : ByteArray).toList) = false := by rw [nil_bytes]; exact e1
    have HV := Aside0.mk (fun W => variable_any v h.2 W)
    have HE := Aside0.mk (show termL ⟨v, ⟨k, m, s⟩⟩ = if varL v.data.toList = true then (if noneVB ⟨k, m, s⟩ = true then v.data.toList else []) else [] from if_neg h0)
    have HB := Aside0.mk hB
    have HN := Aside0.mk hN
    have HLW := Aside0.mk hLW
    clear hB hN h0 h hLW
    obtain ⟨b, hb⟩ : ∃ b, varL v.data.toList = b := ⟨_, rfl⟩
    rw [hb] at HV HE
    clear hb
    cases b with
    | false =>
      go_enter Tryz.func70, Tryz.ntmps70
      go_wp2_with fail
      refine (HV.out _).mono ?_
      rintro e w1 ⟨rfl, hb⟩
      obtain ⟨nd, rfl⟩ := hb
      go_wp2
      go_ret
      exact ⟨by rw [HE.out]; rfl, pw_below_drewN HB.out nd⟩
    | true =>
      obtain ⟨b2, hb2⟩ : ∃ b2, noneVB ⟨k, m, s⟩ = b2 := ⟨_, rfl⟩
      rw [hb2] at HE
      have hb3 : (k == 0 && (m == 0 && (s.toList == ([] : List UInt8)))) = b2 := hb2
      clear hb2
      cases b2 with
      | true =>
        rw [Bool.and_eq_true, Bool.and_eq_true, beq_iff_eq, beq_iff_eq, beq_iff_eq] at hb3
        obtain ⟨rfl, rfl, hs⟩ := hb3
        rw [toList_iff] at hs
        obtain rfl := bytes_nil hs
        clear hs
        go_enter Tryz.func70, Tryz.ntmps70
        go_wp2_with fail
        refine (HV.out _).mono ?_
        rintro e w1 ⟨rfl, hb⟩
        obtain ⟨nd, rfl⟩ := hb
        have hN2 := blk_drewN HN.out nd
        go_wp2
        go_ret
        exact ⟨by rw [HE.out]; rfl, pw_below_drewN HB.out nd⟩
      | false =>
        have hb4 : (k == 0 && (m == 0 && (s.toList == (⟨#[]⟩ : ByteArray).toList))) = false := by rw [nil_bytes]; exact hb3
        have hb5 : (k == 0 && (m == 0 && s.toList.isEmpty)) = false := by rw [show s.toList.isEmpty = (s.toList == ([] : List UInt8)) by cases s.toList <;> rfl]; exact hb3
        clear hb3
        go_enter Tryz.func70, Tryz.ntmps70
        go_wp2_with fail
        refine (HV.out _).mono ?_
        rintro e w1 ⟨rfl, hb⟩
        obtain ⟨nd, rfl⟩ := hb
        go_wp2
        go_ret
        exact ⟨by rw [HE.out]; rfl, pw_below_drewN HB.out nd⟩
theorem varL_len {l : List UInt8} (h : varL l = true) : l.length ≤ 40 := by
  cases l with
  | nil => simp
  | cons c r =>
    unfold varL at h
    rw [Bool.and_eq_true] at h
    exact of_decide_eq_true h.1
theorem termL_len (t : TmS) (h : okT t) : (termL t).length ≤ 40 := by
  unfold termL
  split
  · exact textL_length _ _ _ h.1
  · split
    · rename_i hv
      split
      · exact varL_len hv
      · simp
    · simp
theorem predN_len {s : ByteArray} (h : predN s = true) : s.size ≤ 40 := by
  unfold predN nmL at h
  rw [Bool.and_eq_true] at h
  have := h.1
  unfold nameB at this
  rw [Bool.and_eq_true] at this
  have := of_decide_eq_true this.1
  exact this.2
theorem predicate_f (s : ByteArray) : show_predicate.f 42 s = some (predN s) := by
  unfold show_predicate.f predN
  rw [value_Name_eq s 42 (Nat.le_refl _), lex_Key_eq2]
  simp only [Option.bind_some]
  have e : nmL s.data.toList = nameB s := rfl
  rw [e]
  cases nameB s <;> rfl
theorem argL_len (f : Int) (b : Bool) (t : TmS) (h : okT t) : (argL f b t).length ≤ 100 := by
  have h1 := termL_len t h
  have h2 : (foldW f).length ≤ 5 := by
    unfold foldW
    repeat' split
    all_goals simp
  unfold argL
  split
  · omega
  · split
    · simp
    · simp only [List.length_append, List.length_cons, List.length_nil]
      omega
theorem rd_ok {xs : List S60} (h : ∀ x ∈ xs, okT x) (i : Int) : okT (rd_T60 xs i) := by
  unfold rd_T60
  rw [List.getD_eq_getElem?_getD]
  cases hg : xs[i.toNat]? with
  | none => exact ⟨⟨by decide, by decide⟩, by decide⟩
  | some y => exact h y (List.mem_of_getElem? hg)
/-- the arguments' texts, by their numbers. -/
def argG (f : Int) (xs : List TmS) (i : Nat) : List UInt8 := argL f (decide ((i : Int) = (xs.length : Int) - 1)) (rd_T60 xs (i : Int))
theorem argsL_get (f : Int) : ∀ (xs : List TmS) (i : Nat), i < xs.length → (argsL f xs)[i]? = some (argG f xs i)
  | [], i, h => by simp at h
  | [t], i, h => by
    have : i = 0 := by simp at h; omega
    subst this
    rfl
  | t :: u :: r, 0, h => by
    show some _ = some _
    congr 1
    unfold argG
    rw [decide_eq_false (by simp; omega)]
    rfl
  | t :: u :: r, i + 1, h => by
    have ih := argsL_get f (u :: r) i (by simpa using h)
    show (argsL f (u :: r))[i]? = _
    rw [ih]
    congr 1
    unfold argG
    have e1 : rd_T60 (t :: u :: r) ((i + 1 : Nat) : Int) = rd_T60 (u :: r) (i : Int) := by
      unfold rd_T60
      rw [show ((i + 1 : Nat) : Int).toNat = i + 1 by omega, show (i : Int).toNat = i by omega]
      rfl
    rw [e1]
    congr 1
    simp only [List.length_cons]
    congr 1
    simp
theorem argsL_length (f : Int) : ∀ xs : List TmS, (argsL f xs).length = xs.length
  | [] => rfl
  | [t] => rfl
  | t :: u :: r => by
    show (argsL f (u :: r)).length + 1 = _
    rw [argsL_length f (u :: r)]
    rfl
theorem argsL_range (f : Int) (xs : List TmS) : (List.range xs.length).map (argG f xs) = argsL f xs := by
  apply List.ext_getElem?
  intro i
  by_cases h : i < xs.length
  · rw [argsL_get f xs i h, List.getElem?_map, List.getElem?_range h]
    rfl
  · rw [List.getElem?_eq_none (by simp; omega), List.getElem?_eq_none (by rw [argsL_length]; omega)]
theorem each_args (f : Int) (xs : List TmS) (sep : List UInt8) : eachG (argG f xs) xs.length sep = eachL (argsL f xs) sep := by unfold eachG; rw [argsL_range]
theorem ret_str {a b : ByteArray} (h : a = b) : Ending.returned (.string a) = .returned (.string b) := by rw [h]
theorem fold_words : ∀ (f : Nat), f ≤ 5 → ∀ w : World, (Instr.index 115 (.agg #[.string ⟨#[]⟩, .string ⟨#[99, 111, 117, 110, 116]⟩, .string ⟨#[115, 117, 109]⟩, .string ⟨#[109, 105, 110]⟩, .string ⟨#[109, 97, 120]⟩, .string ⟨#[109, 101, 97, 110]⟩]) (.int .i64 f)).run Tryz.prog w = .ok (.string (baL (foldW f))) w
  | 0, _ => fun _ => by kernel_rfl
  | 1, _ => fun _ => by kernel_rfl
  | 2, _ => fun _ => by kernel_rfl
  | 3, _ => fun _ => by kernel_rfl
  | 4, _ => fun _ => by kernel_rfl
  | 5, _ => fun _ => by kernel_rfl
  | n + 6, h => by omega
set_option maxHeartbeats 4000000 in
set_option maxRecDepth 100000 in
theorem head1_calls (t : TmS) (f : Nat) (hf : f ≤ 5) (i last : Int) (b3 b5 : Nat) (w : World) (hLW : LaidW w) (ht : okT t) (h3 : w.heap[b3]? = some (.cells #[.int .i64 f] 3 (0, 0))) (h5 : w.heap[b5]? = some (.cells #[.int .i64 last] 3 (0, 0))) :
    Calls Tryz.prog 69 #[.int .i64 i, .agg #[.string t.f0, .int .i64 t.f1.f0, .int .i64 t.f1.f1, .string t.f1.f2], .pointer (some ⟨b3, 0, none⟩), .pointer (some ⟨b5, 0, none⟩)] w fun e w' => e = .returned (.string (baL (argL f (decide (i = last)) t))) ∧ Below w.heap.size w w' := by
  have hl := termL_len t ht
  have HT := Aside0.mk (fun W (hW : LaidW W) => term_show t W hW ht)
  obtain ⟨s, hs⟩ : ∃ s, termL t = s := ⟨_, rfl⟩
  rw [hs] at HT hl
  have HE := Aside0.mk (show argL f (decide (i = last)) t = if (f : Int) = 0 ∨ decide (i = last) = false then s else if t.f0.data.toList = [] ∨ s = [] then [] else foldW f ++ ([40] ++ (s ++ [41])) by unfold argL; rw [hs])
  obtain ⟨d, hd⟩ : ∃ d, decide (i = last) = d := ⟨_, rfl⟩
  rw [hd] at HE ⊢
  have HD := Aside0.mk hd
  clear hd
  obtain ⟨v, ⟨k, m, z⟩⟩ := t
  have hB := below_alloc (Below.refl w.heap.size w) (.cells #[.string v, .int .i64 k, .int .i64 m, .string z] 60)
  obtain ⟨n, en⟩ : ∃ n, w.heap.size = n := ⟨_, rfl⟩
  have hN := fun w1 (h : Below (w.alloc (.cells #[.string v, .int .i64 k, .int .i64 m, .string z] 60)).heap.size (w.alloc (.cells #[.string v, .int .i64 k, .int .i64 m, .string z] 60)) w1) => term_cells en h
  have HN := Aside0.mk hN
  have HB := Aside0.mk hB
  have HLW := Aside0.mk (hLW.below hB)
  have H3 := Aside0.mk (blk_below h3 hB)
  have H5 := Aside0.mk (blk_below h5 hB)
  have hfs : (foldW f).length ≤ 5 := by
    unfold foldW
    repeat' split
    all_goals simp
  have HW := Aside0.mk (fold_words f hf)
  clear hN hB hLW h3 h5 ht hs
  go_enter Tryz.func69, Tryz.ntmps69
  go_wp2_with fail
  refine (HT.out _ HLW.out).mono ?_
  rintro e w1 ⟨rfl, hb⟩
  have HB1 := Aside0.mk (below_then HB.out HB.out.size hb)
  have g3 := blk_below H3.out hb
  have g5 := blk_below H5.out hb
  have hN1 := HN.out w1 hb
  have hc3 : w1.cell? ⟨b3, 0, none⟩ = some (.int .i64 f) := (blk_cell g3 0).trans rfl
  have hc5 : w1.cell? ⟨b5, 0, none⟩ = some (.int .i64 last) := (blk_cell g5 0).trans rfl
  have hv : w1.cell? ⟨n, 0, none⟩ = some (.string v) := (blk_cell hN1 0).trans rfl
  clear hb g3 g5 hN1
  by_cases hf0 : f = 0
  · subst hf0
    have HE2 := Aside0.mk (HE.out.trans (if_pos (Or.inl rfl)))
    clear HE
    go_wp2
    go_ret
    exact ⟨by rw [HE2.out]; rfl, HB1.out⟩
  · have e1 : ((f : Int) == 0) = false := beq_eq_false_iff_ne.2 (by omega)
    have e2 : (f == 0) = false := beq_eq_false_iff_ne.2 hf0
    by_cases hil : i = last
    · obtain rfl : true = d := by rw [← HD.out, decide_eq_true hil]
      have e0 : (i == last) = true := beq_iff_eq.2 hil
      have e01 : (i != last) = false := bne_eq_false_iff_eq.2 hil
      clear hil
      have HE1 := Aside0.mk (HE.out.trans (if_neg (by rintro (h | h); exact hf0 (by omega); cases h)))
      clear HE
      by_cases hv0 : v.data.toList = []
      · have e3 : (v.toList == ([] : List UInt8)) = true := by rw [beq_iff_eq, toList_iff]; exact hv0
        have e4 : (v.toList == (⟨#[]⟩ : ByteArray).toList) = true := by rw [nil_bytes]; exact e3
        have HE2 := Aside0.mk (HE1.out.trans (if_pos (Or.inl hv0)))
        clear HE1 hv0
        go_wp2
        go_ret
        exact ⟨by rw [HE2.out]; rfl, HB1.out⟩
      · have e3 : (v.toList == ([] : List UInt8)) = false := by rw [beq_eq_false_iff_ne, toList_iff]; exact hv0
        have e4 : (v.toList == (⟨#[]⟩ : ByteArray).toList) = false := by rw [nil_bytes]; exact e3
        obtain ⟨b, hbE⟩ : ∃ b, baL s = b := ⟨_, rfl⟩
        rw [hbE]
        by_cases hs0 : s = []
        · have e5 : (b.toList == ([] : List UInt8)) = true := by rw [← hbE, hs0, baL_toList]; exact beq_self_eq_true _
          have e6 : (b.toList == (⟨#[]⟩ : ByteArray).toList) = true := by rw [← hbE, hs0]; exact beq_self_eq_true _
          have HE2 := Aside0.mk (HE1.out.trans (if_pos (Or.inr hs0)))
          clear HE1 hv0 hs0 hbE
          go_wp2
          go_ret
          exact ⟨by rw [HE2.out]; rfl, HB1.out⟩
        · have e5 : (b.toList == ([] : List UInt8)) = false := by rw [beq_eq_false_iff_ne, ← hbE, baL_toList]; exact hs0
          have e6 : (b.toList == (⟨#[]⟩ : ByteArray).toList) = false := by rw [beq_eq_false_iff_ne, ← hbE, baL_toList]; exact fun h => hs0 (h.trans nil_bytes)
          have HE2 := Aside0.mk (HE1.out.trans (if_neg (by rintro (h | h); exact hv0 h; exact hs0 h)))
          have HBE := Aside0.mk hbE
          have hbs : b.size ≤ 40 := by rw [← hbE]; simpa [ByteArray.size] using hl
          obtain ⟨q, hq⟩ : ∃ q, baL (foldW f) = q := ⟨_, rfl⟩
          have hqs : q.size ≤ 5 := by rw [← hq]; simpa [ByteArray.size] using hfs
          have hw := HW.out
          rw [hq] at hw
          have HQ := Aside0.mk hq
          clear HE1 hv0 hs0 hbE hq HW hl hfs
          go_wp2
          go_ret
          exact ⟨by rw [HE2.out, ← HBE.out, ← HQ.out]; exact ret_str (ba_eq (by simp)), HB1.out⟩
    · have e3 : (i == last) = false := beq_eq_false_iff_ne.2 hil
      have e4 : (i != last) = true := bne_iff_ne.2 hil
      obtain rfl : false = d := by rw [← HD.out, decide_eq_false hil]
      have HE1 := Aside0.mk (HE.out.trans (if_pos (Or.inr rfl)))
      clear HE
      go_wp2
      go_ret
      exact ⟨by rw [HE1.out]; rfl, HB1.out⟩
end Go.Proofs.YthebhbomlllpeaaGreatDoor.X
namespace Go.Proofs.YthebhbomlllpeaaGreatDoor.X
set_option linter.unusedVariables false
set_option linter.unusedSimpArgs false
open Go.RowKit Go.Proofs.YthebhbomlllpeaaGreatDoorW.PrintWords Go.Proofs.YthebhbomlllpeaaGreatDoorW.PrintLast Go.Proofs.YthebhbomlllpeaaGreatDoorW.PrintMore
/-- an atom that a machine can hold. -/
def okA (a : AtS) : Prop := (∀ x ∈ a.f1, okT x) ∧ a.f1.length ≤ 1000
theorem blocks3v (w : World) (o0 o1 o2 : Obj) : (((w.alloc o0).alloc o1).alloc o2).heap[w.heap.size]? = some o0 ∧ (((w.alloc o0).alloc o1).alloc o2).heap[w.heap.size + 1]? = some o1 ∧ (((w.alloc o0).alloc o1).alloc o2).heap[w.heap.size + 2]? = some o2 := by
  have z1 : (w.alloc o0).heap.size = w.heap.size + 1 := by simp
  have z2 : ((w.alloc o0).alloc o1).heap.size = w.heap.size + 2 := by simp
  refine ⟨blk_alloc (blk_alloc (blk_new w o0) _) _, ?_, ?_⟩
  · have := blk_new (w.alloc o0) o1
    rw [z1] at this
    exact blk_alloc this _
  · have := blk_new ((w.alloc o0).alloc o1) o2
    rwa [z2] at this
theorem args_len (f : Int) (xs : List TmS) (h : ∀ x ∈ xs, okT x) : ∀ x ∈ argsL f xs, x.length ≤ 100 := fun x hx => by
  rw [← argsL_range] at hx
  obtain ⟨i, _, rfl⟩ := List.mem_map.1 hx
  exact argL_len _ _ _ (rd_ok h _)
theorem each_len {ws : List (List UInt8)} {sep : List UInt8} {m : Nat} (h : ∀ x ∈ ws, x.length ≤ m) : (eachL ws sep).1.length ≤ ws.length * (m + sep.length) := by
  unfold eachL
  split
  · simp
  · exact join_len ws sep m h
theorem head_len (a : AtS) (f : Int) (h : okA a) : (headL a f).length ≤ 200000 := by
  have h1 : (eachL (argsL f a.f1) [44, 32]).1.length ≤ 1000 * 102 := Nat.le_trans (each_len (args_len f a.f1 h.1)) (by rw [argsL_length]; exact Nat.mul_le_mul h.2 (by simp))
  unfold headL
  split
  · simp
  · rename_i hc
    have hp : a.f0.size ≤ 40 := predN_len (by
      cases hb : predN a.f0 with
      | true => rfl
      | false => exact absurd (Or.inr (Or.inl hb)) hc)
    split
    · rw [data_length]; omega
    · simp only [List.length_append, List.length_cons, List.length_nil, data_length]
      omega
set_option maxHeartbeats 4000000 in
set_option maxRecDepth 100000 in
theorem head_calls (a : AtS) (A : Option Addr) (c : Nat) (f : Nat) (hf : f ≤ 5) (w : World) (hLW : LaidW w) (hC : Kd.C k60 w A a.f1.length a.f1) (ha : okA a) :
    Calls Tryz.prog 42 #[.agg #[.string a.f0, .slice A a.f1.length c], .int .i64 f] w fun e w' => e = .returned (.string (baL (headL a f))) ∧ Below w.heap.size w w' := by
  obtain ⟨p, xs⟩ := a
  have hlen : xs.length ≤ 1000 := ha.2
  obtain ⟨n, en⟩ : ∃ n, w.heap.size = n := ⟨_, rfl⟩
  obtain ⟨last, hlast⟩ : ∃ l : Int, (xs.length : Int) - 1 = l := ⟨_, rfl⟩
  have hz1 : (w.alloc (.cells #[.string p, .slice A xs.length c] 25)).heap.size = n + 1 := by simp [en]
  have hz2 : ((w.alloc (.cells #[.string p, .slice A xs.length c] 25)).alloc (.cells #[.int .i64 f] 3)).heap.size = n + 2 := by simp [en]
  have hb := blocks3v w (.cells #[.string p, .slice A xs.length c] 25) (.cells #[.int .i64 f] 3) (.cells #[.int .i64 last] 3)
  rw [en] at hb
  obtain ⟨W, hW⟩ : ∃ W, ((w.alloc (.cells #[.string p, .slice A xs.length c] 25)).alloc (.cells #[.int .i64 f] 3)).alloc (.cells #[.int .i64 last] 3) = W := ⟨_, rfl⟩
  have hBW : Below w.heap.size w W := hW ▸ below_alloc (below_alloc (below_alloc (Below.refl _ _) _) _) _
  rw [hW] at hb
  have HP := Aside0.mk (eachT_calls W A c xs (.pointer (some ⟨n + 1, 0, none⟩)) (.pointer (some ⟨n + 2, 0, none⟩)) (argG f xs) ⟨#[44, 32]⟩ (by decide) (Kd.C_below hC hBW) hlen (fun i => Nat.le_trans (argL_len _ _ _ (rd_ok ha.1 _)) (by decide)) (fun V i hi hV => by
    have := head1_calls (rd_T60 xs i) f hf (i : Int) ((xs.length : Int) - 1) (n + 1) (n + 2) V (hLW.below (below_then hBW hBW.size hV)) (rd_ok ha.1 _) (blk_below hb.2.1 hV) (by rw [hlast]; exact blk_below hb.2.2 hV)
    exact this))
  have hs1 : (eachL (argsL f xs) [44, 32]).1.length ≤ 1000 * 102 := Nat.le_trans (each_len (args_len f xs ha.1)) (by rw [argsL_length]; exact Nat.mul_le_mul hlen (by simp))
  rw [each_args, show (⟨#[44, 32]⟩ : ByteArray).data.toList = [44, 32] from rfl] at HP
  have HE := Aside0.mk (show headL ⟨p, xs⟩ f = if (eachL (argsL f xs) [44, 32]).2 = false ∨ predN p = false ∨ 8 < xs.length ∨ (0 < (f : Int) ∧ xs = []) then [] else if xs = [] then p.data.toList else p.data.toList ++ ([40] ++ ((eachL (argsL f xs) [44, 32]).1 ++ [41])) from rfl)
  obtain ⟨⟨s, ok⟩, hso⟩ : ∃ x, eachL (argsL f xs) [44, 32] = x := ⟨_, rfl⟩
  rw [hso] at HP HE hs1
  have HPR := Aside0.mk (fun V => show_predicate.calls 42 p (predN p) V (predicate_f p))
  have HPL := Aside0.mk (fun (h : predN p = true) => predN_len h)
  obtain ⟨pr, hpr⟩ : ∃ b, predN p = b := ⟨_, rfl⟩
  rw [hpr] at HPR HE HPL
  have HB := Aside0.mk (And.intro hb hBW)
  have HW := Aside0.mk hW
  have HLS := Aside0.mk hlast
  have hmf : ∀ (fn : Fn) (first cap : Array Value) (w : World), (Instr.makeFunc fn first cap).run Tryz.prog w = .ok (.func fn first cap) w := fun _ _ _ _ => rfl
  have hll : -1 ≤ last ∧ last ≤ 1000 := by omega
  clear hC ha hso hpr hb hBW hW hLW
  go_enter Tryz.func42, Tryz.ntmps42
  go_wp2_with fail
  rw [HW.out]
  refine HP.out.mono ?_
  rintro e w1 ⟨rfl, hb⟩
  have HB1 := Aside0.mk (below_then HB.out.2 HB.out.2.size hb)
  have g0 := blk_below HB.out.1.1 hb
  have g1 := blk_below HB.out.1.2.1 hb
  have g2 := blk_below HB.out.1.2.2 hb
  have hc0 : w1.cell? ⟨n, 0, none⟩ = some (.string p) := (blk_cell g0 0).trans rfl
  have hc1 : w1.cell? ⟨n, 1, none⟩ = some (.slice A xs.length c) := (blk_cell g0 1).trans rfl
  have hc3 : w1.cell? ⟨n + 1, 0, none⟩ = some (.int .i64 f) := (blk_cell g1 0).trans rfl
  have hc5 : w1.cell? ⟨n + 2, 0, none⟩ = some (.int .i64 last) := (blk_cell g2 0).trans rfl
  clear hb g0 g1 g2 HB HW HP
  cases ok with
  | false =>
    have HE2 := Aside0.mk (HE.out.trans (if_pos (Or.inl rfl)))
    clear HE
    go_wp2
    go_ret
    exact ⟨by rw [HE2.out]; rfl, HB1.out⟩
  | true =>
    cases pr with
    | false =>
      have HE2 := Aside0.mk (HE.out.trans (if_pos (Or.inr (Or.inl rfl))))
      clear HE
      go_wp2_with fail
      refine (HPR.out _).mono ?_
      rintro e w2 ⟨rfl, nd, rfl⟩
      go_wp2
      go_ret
      exact ⟨by rw [HE2.out]; rfl, pw_below_drewN HB1.out nd⟩
    | true =>
      have hpl := HPL.out rfl
      clear HPL
      have HE1 := Aside0.mk HE.out
      clear HE
      go_wp2_with fail
      refine (HPR.out _).mono ?_
      rintro e w2 ⟨rfl, nd, rfl⟩
      have HB2 := Aside0.mk (pw_below_drewN HB1.out nd)
      replace hc0 : (w1.drewN nd).cell? ⟨n, 0, none⟩ = some (.string p) := hc0
      replace hc1 : (w1.drewN nd).cell? ⟨n, 1, none⟩ = some (.slice A xs.length c) := hc1
      replace hc3 : (w1.drewN nd).cell? ⟨n + 1, 0, none⟩ = some (.int .i64 f) := hc3
      replace hc5 : (w1.drewN nd).cell? ⟨n + 2, 0, none⟩ = some (.int .i64 last) := hc5
      generalize w1.drewN nd = w2 at HB2 hc0 hc1 hc3 hc5 ⊢
      by_cases h8 : 8 < xs.length
      · have e1 : decide ((8 : Int) < (xs.length : Int)) = true := decide_eq_true (by omega)
        have e2 : decide (8 < xs.length) = true := decide_eq_true h8
        have HE2 := Aside0.mk (HE1.out.trans (if_pos (Or.inr (Or.inr (Or.inl h8)))))
        clear HE1
        go_wp2
        go_ret
        exact ⟨by rw [HE2.out]; rfl, HB2.out⟩
      · have e1 : decide ((8 : Int) < (xs.length : Int)) = false := decide_eq_false (by omega)
        have e2 : decide (8 < xs.length) = false := decide_eq_false h8
        by_cases hx : xs = []
        · have hl0 : last = -1 := by rw [← HLS.out, hx]; rfl
          have e3 : decide (last < 0) = true := decide_eq_true (by omega)
          by_cases h0 : 0 < f
          · have e4 : decide ((0 : Int) < (f : Int)) = true := decide_eq_true (by omega)
            have e5 : decide (0 < f) = true := decide_eq_true h0
            have HE2 := Aside0.mk (HE1.out.trans (if_pos (Or.inr (Or.inr (Or.inr ⟨by omega, hx⟩)))))
            clear HE1 hl0 hx
            go_wp2
            go_ret
            exact ⟨by rw [HE2.out]; rfl, HB2.out⟩
          · have e4 : decide ((0 : Int) < (f : Int)) = false := decide_eq_false (by omega)
            have e5 : decide (0 < f) = false := decide_eq_false h0
            have HE2 := Aside0.mk ((HE1.out.trans (if_neg (by rintro (h | h | h | h); cases h; cases h; exact h8 h; exact h0 (by omega)))).trans (if_pos hx))
            clear HE1 hl0 hx
            go_wp2
            go_ret
            exact ⟨by rw [HE2.out]; exact ret_str (ba_eq rfl), HB2.out⟩
        · have hl0 : 0 ≤ last := by
            have : xs.length ≠ 0 := fun h => hx (List.length_eq_zero_iff.1 h)
            have := HLS.out
            omega
          have e3 : decide (last < 0) = false := decide_eq_false (by omega)
          have HE2 := Aside0.mk ((HE1.out.trans (if_neg (by rintro (h | h | h | h); cases h; cases h; exact h8 h; exact hx h.2))).trans (if_neg hx))
          have hss : (baL s).size ≤ 102000 := by simpa [ByteArray.size] using hs1
          obtain ⟨b, hbE⟩ : ∃ b, baL s = b := ⟨_, rfl⟩
          rw [hbE] at hss ⊢
          have HBE := Aside0.mk hbE
          clear HE1 hx hbE hs1
          by_cases h0 : 0 < f
          · have e4 : decide ((0 : Int) < (f : Int)) = true := decide_eq_true (by omega)
            have e5 : decide (0 < f) = true := decide_eq_true h0
            go_wp2
            go_ret
            exact ⟨by rw [HE2.out, ← HBE.out]; exact ret_str (ba_eq (by simp)), HB2.out⟩
          · have e4 : decide ((0 : Int) < (f : Int)) = false := decide_eq_false (by omega)
            have e5 : decide (0 < f) = false := decide_eq_false h0
            go_wp2
            go_ret
            exact ⟨by rw [HE2.out, ← HBE.out]; exact ret_str (ba_eq (by simp)), HB2.out⟩
set_option maxHeartbeats 4000000 in
set_option maxRecDepth 100000 in
theorem atom_show (a : AtS) (A : Option Addr) (c : Nat) (w : World) (hLW : LaidW w) (hC : Kd.C k60 w A a.f1.length a.f1) (ha : okA a) :
    Calls Tryz.prog 23 #[.agg #[.string a.f0, .slice A a.f1.length c]] w fun e w' => e = .returned (.string (baL (atomL a))) ∧ Below w.heap.size w w' := by
  have hB := below_alloc (Below.refl w.heap.size w) (.cells #[.string a.f0, .slice A a.f1.length c] 25)
  have HP := Aside0.mk (head_calls a A c 0 (by decide) _ (hLW.below hB) (Kd.C_below hC hB) ha)
  have HB := Aside0.mk hB
  clear hC ha hB hLW
  unfold atomL
  go_enter Tryz.func23, Tryz.ntmps23
  go_wp2_with fail
  refine HP.out.mono ?_
  rintro e w1 ⟨rfl, hb⟩
  have HB1 := Aside0.mk (below_then HB.out HB.out.size hb)
  clear hb
  go_wp2
  go_ret
  exact ⟨rfl, HB1.out⟩
end Go.Proofs.YthebhbomlllpeaaGreatDoor.X
namespace Go.Proofs.YthebhbomlllpeaaGreatDoor.X
set_option linter.unusedVariables false
set_option linter.unusedSimpArgs false
open Go.RowKit Go.Proofs.YthebhbomlllpeaaGreatDoorW.PrintWords Go.Proofs.YthebhbomlllpeaaGreatDoorW.PrintLast Go.Proofs.YthebhbomlllpeaaGreatDoorW.PrintMore
/-- a row that is read: where it lies, and an element's cells. -/
theorem row_at {α : Type} {d : Kd α} {W : World} {A : Option Addr} {xs : List α} (h : Kd.C d W A xs.length xs) (z : α) (hs : 0 < d.sz) (i : Nat) (hi : i < xs.length) :
    ∃ bk o cs, A = some ⟨bk, o, none⟩ ∧ cs.length = d.sz ∧ d.K W (xs.getD i z) cs ∧ W.rangeAt bk (o + i * d.sz) cs := by
  obtain ⟨⟨bk, o, sub⟩, cs, rfl, hl, hK, hc⟩ := Kd.C_get h z (i : Int) (by omega) (by omega)
  rw [Int.toNat_natCast] at hK hc
  obtain ⟨ad, he, hh⟩ := h.2.2 (by omega)
  injection he with he
  subst he
  obtain ⟨c0, hl0, _, hc0⟩ := hh 0 xs[0] (List.getElem?_eq_getElem (by omega))
  have h0 := hc0 0 c0[0] (List.getElem?_eq_getElem (by omega))
  rw [Nat.zero_mul] at h0
  have hsub : sub = none := by
    cases sub with
    | none => rfl
    | some s =>
      exfalso
      unfold Addr.add at h0
      revert h0
      unfold World.cell?
      simp
      split <;> simp
  subst hsub
  refine ⟨bk, o, cs, rfl, hl, hK, fun j v hj => ?_⟩
  have := hc j v hj
  rw [Addr.add_mid] at this
  rw [← Nat.add_assoc] at this
  exact this
theorem setsA_full : ∀ (vs : List Value) (cs : Array Value) (i : Nat), i + vs.length = cs.size → (setsA cs i vs).toList = cs.toList.take i ++ vs
  | [], cs, i, h => by
    simp only [setsA, List.append_nil]
    rw [List.take_of_length_le (by rw [List.length_nil] at h; simp; omega)]
  | v :: vs, cs, i, h => by
    simp only [setsA]
    rw [setsA_full vs _ (i + 1) (by simp at h ⊢; omega)]
    have hi : i < cs.size := by simp at h; omega
    have hi2 : i < cs.toList.length := by simpa using hi
    rw [Array.toList_setIfInBounds, List.take_set, List.take_succ_eq_append_getElem hi2]
    have hl : (cs.toList.take i).length = i := by rw [List.length_take]; omega
    rw [List.set_append_right _ _ (by omega), hl]
    simp
theorem setsA_all {vs : List Value} {cs : Array Value} (h : vs.length = cs.size) : setsA cs 0 vs = vs.toArray := by
  have := setsA_full vs cs 0 (by omega)
  rw [List.take_zero, List.nil_append] at this
  apply Array.toList_inj.1
  rw [this]
set_option maxHeartbeats 4000000 in
set_option maxRecDepth 100000 in
theorem eachL_calls (w : World) (A : Option Addr) (c : Nat) (xs : List S62) (g : Nat → List UInt8) (sep : ByteArray) (hsep : sep.size ≤ 2) (hC : Kd.C k62 w A xs.length xs) (hn : xs.length ≤ 1000) (hg : ∀ i, (g i).length ≤ 100000000)
    (hby : ∀ (W : World) (i : Nat) (cs : List Value), i < xs.length → Below w.heap.size w W → k62.K W (xs.getD i z62) cs → Calls Tryz.prog 44 #[.int .i64 i, .agg cs.toArray] W fun e W' => e = .returned (.string (baL (g i))) ∧ Below W.heap.size W W') :
    Calls Tryz.prog 43 #[.slice A xs.length c, .func (.func 44) #[] #[], .string sep] w fun e w' => e = .returned (.tuple #[.string (baL (eachG g xs.length sep.data.toList).1), .bool (eachG g xs.length sep.data.toList).2]) ∧ Below w.heap.size w w' := by
  have HC := Aside0.mk hC
  have HBY := Aside0.mk hby
  have HG := Aside0.mk (And.intro hg hsep)
  have HR := Aside0.mk (Kd.R_nil Kd.string 9 w w.heap.size (fun k => w.heap.size ≤ k))
  have HB := Aside0.mk (Below.refl w.heap.size w)
  clear hC hby hg hsep
  go_enter Tryz.func43, Tryz.ntmps43
  go_wp2
  go_loopg [8, 14] (xs.length + 1) (fun kq v8 v14 w' => ∃ (i : Nat), v14 = .int .i64 i ∧ kq + i = xs.length + 1 ∧ i ≤ xs.length ∧ Aside0 (∀ j, j < i → g j ≠ []) ∧ Aside0 (Kd.R Kd.string 9 w' w.heap.size (fun k => w.heap.size ≤ k) v8 ((List.range i).map (fun j => baL (g j)))) ∧ Aside0 (Below w.heap.size w w'))
  case atStart => exact ⟨0, rfl, by omega, by omega, ⟨fun j hj => by omega⟩, HR, HB⟩
  case round =>
    clear HR HB
    obtain ⟨i, rfl, hk, hi, HE, HV, HB⟩ := hrel
    by_cases hlt : i < xs.length
    · have hz : decide ((i : Int) < (xs.length : Int)) = true := decide_eq_true (by omega)
      have hz2 : decide (i < xs.length) = true := decide_eq_true hlt
      obtain ⟨k1, rfl⟩ : ∃ k1, gk = k1 + 1 := ⟨gk - 1, by omega⟩
      obtain ⟨bk, o, cs, rfl, hcl, hK, hcell⟩ := row_at (Kd.C_below HC.out HB.out) z62 (by decide) i hlt
      have hcl : cs.length = 17 := hcl
      have hrg : wr.rangeAt bk (o + i * 17) cs := hcell
      have h1c := k62.K_one hK
      have HK := Aside0.mk (And.intro hK (And.intro hrg (And.intro hcl h1c)))
      obtain ⟨n, en⟩ : ∃ n, wr.heap.size = n := ⟨_, rfl⟩
      have hN := blk_new wr (.cells zLit 62)
      rw [en] at hN
      have HN := Aside0.mk hN
      have HBA := Aside0.mk (below_alloc HB.out (.cells zLit 62))
      have HNB := Aside0.mk (show w.heap.size ≤ n by rw [← en]; exact HB.out.size)
      have HRG := Aside0.mk (show (sets (wr.alloc (.cells zLit 62)) n 0 cs).rangeAt n 0 cs from by
        have h1 := range_blk (blk_sets cs 0 _ _ hN)
        rwa [setsA_all (hcl.trans (by kernel_rfl)), List.toList_toArray] at h1)
      have hBW : Below wr.heap.size wr (sets (wr.alloc (.cells zLit 62)) n 0 cs) := below_sets (w0 := wr) (by omega) cs 0 _ (below_alloc (Below.refl _ _) _)
      have HBW := Aside0.mk hBW
      clear hK hrg hcl h1c hcell hN hBW
      go_wp2_with (first | ((with_reducible refine gate_dst (N := 18) rfl ?_); refine wpList_load_mid rfl 62 (.tmp 17) rfl bk (o + i * 17) rfl cs _ HK.out.2.1 Tryz.underlying62 rfl (by rw [HK.out.2.2.1]; kernel_rfl) ?_) | ((with_reducible refine gate_store (t := 62) (p := 10) (v := .tmp 18) rfl ?_); refine wpList_store_mid rfl 62 (.tmp 10) (.tmp 18) rfl n 0 cs.toArray rfl rfl (there_blk HN.out (by rw [List.size_toArray, HK.out.2.2.1]; exact Nat.le_of_eq (by kernel_rfl))) (by rw [List.size_toArray, HK.out.2.2.1]; kernel_rfl) (all_oneCell_toArray HK.out.2.2.2) ?_; rw [setCells_sets, List.toList_toArray]) | ((with_reducible refine gate_dst (N := 21) rfl ?_); refine wpList_load_mid rfl 62 (.tmp 10) rfl n 0 rfl cs _ HRG.out Tryz.underlying62 rfl (by rw [HK.out.2.2.1]; kernel_rfl) ?_))
      have HCB := Aside0.mk (below_then HB.out HB.out.size HBW.out)
      refine (HBY.out _ i cs hlt HCB.out (k62.K_below HBW.out HK.out.1)).mono ?_
      rintro e w1 ⟨rfl, hb⟩
      have hb1 := below_then HBW.out HBW.out.size hb
      have HB1 := Aside0.mk (below_then HB.out HB.out.size hb1)
      have HV1 := Aside0.mk (Kd.R_below HV.out hb1)
      clear hb hb1
      obtain ⟨b, hbE⟩ : ∃ b, baL (g i) = b := ⟨_, rfl⟩
      by_cases he : g i = []
      · have e1 : (b.toList == ([] : List UInt8)) = true := by rw [← hbE, he, baL_toList]; exact beq_self_eq_true _
        have e2 : (b.toList == (⟨#[]⟩ : ByteArray).toList) = true := by rw [← hbE, he]; exact beq_self_eq_true _
        have HE := Aside0.mk (eachG_no (sep := sep.data.toList) hlt he)
        clear he
        rw [hbE]
        clear hbE
        go_wp2
        go_ret2
        rw [HE.out]
        exact ⟨rfl, HB1.out⟩
      · have e1 : (b.toList == ([] : List UInt8)) = false := by rw [beq_eq_false_iff_ne, ← hbE, baL_toList]; exact he
        have e2 : (b.toList == (⟨#[]⟩ : ByteArray).toList) = false := by rw [beq_eq_false_iff_ne, ← hbE, baL_toList]; exact fun h => he (h.trans nil_bytes)
        have HBE := Aside0.mk (And.intro hbE he)
        obtain ⟨A8, c8, rfl⟩ := Kd.R_slice HV1.out
        have HL : Aside0 (((List.range i).map fun j => baL (g j)).length ≤ 1000) := ⟨by rw [List.length_map, List.length_range]; omega⟩
        rw [hbE]
        clear hbE he
        obtain ⟨L, hL⟩ : ∃ L, ((List.range i).map fun j => baL (g j)) = L := ⟨_, rfl⟩
        rw [hL] at HV1 HL
        rw [hL]
        have HLE := Aside0.mk hL
        clear hL
        go_wp2_with ((with_reducible refine gate_builtin (b := .append) (xs := #[.tmp 25, .tmp 27]) rfl ?_); at_builtin; refine Kd.R_append Kd.string (w0 := w) w.heap.size rfl (.tmp 25) (.tmp 27) 54 9 (.string ⟨#[]⟩) 16 rfl Tryz.underlying54 info9s rfl (by decide) (by decide) (.slice A8 L.length c8) L b [.string b] (fun k => w.heap.size ≤ k) (fun _ => False) rfl (by first | rfl | (simp; rfl)) rfl (fun _ hk => hk.elim) (fun k hk => Nat.le_trans HB1.out.size hk) HV1.out HB1.out HB1.out.size (by have := HL.out; omega) ?_; intro v1 w2 ho hb hg hat; have HV2 := Aside0.mk ho; have HB2 := Aside0.mk hb; clear ho hb hg hat)
        go_roundg k1
        case rel => exact ⟨i + 1, by go_num, by omega, by omega, ⟨fun j hj => by rcases Nat.lt_succ_iff_lt_or_eq.1 hj with h | h; exact HE.out j h; exact h ▸ HBE.out.2⟩, ⟨by rw [range_snoc, HBE.out.1, HLE.out]; exact HV2.out⟩, HB2⟩
        case measure => omega
    · obtain rfl : i = xs.length := by omega
      have hz : decide ((xs.length : Int) < (xs.length : Int)) = false := decide_eq_false (by omega)
      obtain ⟨A8, c8, rfl⟩ := Kd.R_slice HV.out
      have hj := join_calls sep HV.out (by rw [range_data]; exact join_bound HG.out.1 HG.out.2 hn) (by rw [List.length_map, List.length_range]; exact hn)
      rw [range_data] at hj
      obtain ⟨L, hL⟩ : ∃ L, ((List.range xs.length).map fun j => baL (g j)) = L := ⟨_, rfl⟩
      rw [hL] at hj ⊢
      clear HV hL
      have HJ := Aside0.mk hj
      have HE2 := Aside0.mk (eachG_yes (sep := sep.data.toList) HE.out)
      clear hj
      go_wp2_with fail
      refine HJ.out.mono ?_
      rintro e w1 ⟨rfl, hb⟩
      have HB1 := Aside0.mk (below_then HB.out HB.out.size hb)
      clear hb
      go_wp2
      go_ret2
      rw [HE2.out]
      exact ⟨rfl, HB1.out⟩
end Go.Proofs.YthebhbomlllpeaaGreatDoor.X
namespace Go.Proofs.YthebhbomlllpeaaGreatDoor.X
set_option linter.unusedVariables false
set_option linter.unusedSimpArgs false
open Go.RowKit Go.Proofs.YthebhbomlllpeaaGreatDoorW.PrintWords Go.Proofs.YthebhbomlllpeaaGreatDoorW.PrintLast Go.Proofs.YthebhbomlllpeaaGreatDoorW.PrintMore
/-- a piece, in memory. -/
abbrev kP : Kd (ByteArray × Int) := Kd.pair Kd.string (Kd.int .i64)
theorem kP_open {w : World} {x : ByteArray × Int} {cs : List Value} (h : kP.K w x cs) : cs = [.string x.1, .int .i64 x.2] := by
  obtain ⟨_, _, rfl, rfl, rfl⟩ := h
  rfl
theorem kP_mkM (w : World) (base : Nat) (ok : Nat → Prop) (x : ByteArray × Int) : kP.M w base ok x [.string x.1, .int .i64 x.2] := ⟨[.string x.1], [.int .i64 x.2], rfl, rfl, rfl⟩
theorem infoP : (Tryz.prog.info? 85).map (fun i => (i.zero, i.size, i.bytes)) = some (some (.agg #[(.string ⟨#[]⟩), (.int .i64 0)]), 2, 24) := by kernel_rfl
/-- the stack's pieces, as they lie: the top last. -/
def memS (st : List Pc) : List (ByteArray × Int) := (st.map fun p => (baL p.1, p.2)).reverse
theorem memS_cons (p : Pc) (st : List Pc) : memS (p :: st) = memS st ++ [(baL p.1, p.2)] := by simp [memS]
theorem memS_length (st : List Pc) : (memS st).length = st.length := by simp [memS]
theorem memS_at (a : List Pc) (p : Pc) (st : List Pc) : (memS (a ++ p :: st))[st.length]? = some (baL p.1, p.2) := by
  simp only [memS, List.map_append, List.map_cons, List.reverse_append, List.reverse_cons, List.append_assoc]
  rw [List.getElem?_append_right (by simp)]
  simp
/-- a piece that lies in a row. -/
theorem at_P {W : World} {A : Option Addr} {xs : List (ByteArray × Int)} (h : Kd.C kP W A xs.length xs) (i : Nat) (x : ByteArray × Int) (hi : xs[i]? = some x) :
    ∃ bk o, A = some ⟨bk, o, none⟩ ∧ W.cell? ⟨bk, o + i * 2, none⟩ = some (.string x.1) ∧ W.cell? ⟨bk, o + i * 2 + 1, none⟩ = some (.int .i64 x.2) := by
  have hlt : i < xs.length := (List.getElem?_eq_some_iff.1 hi).1
  obtain ⟨bk, o, cs, rfl, hl, hK, hr⟩ := row_at h (⟨#[]⟩, 0) (by decide) i hlt
  have he : xs.getD i (⟨#[]⟩, 0) = x := by rw [List.getD_eq_getElem?_getD, hi]; rfl
  rw [he] at hK
  obtain rfl := kP_open hK
  exact ⟨bk, o, rfl, hr 0 _ rfl, hr 1 _ rfl⟩
/-- how much is on the stack. -/
def wt : List Pc → Nat
  | [] => 0
  | p :: st => p.1.length + wt st
theorem labelL_len (x : StS) : (labelL x).length ≤ 41 := by
  unfold labelL
  split
  · rename_i h
    have := predN_len h
    split
    · simp [data_length]; omega
    · split
      · rw [data_length]; omega
      · simp
  · simp
theorem leastL_len (p : Pc) (b : Int) : (leastL p b).length ≤ p.1.length + 2 := by
  unfold leastL
  split <;> simp <;> omega
theorem markL_len (k : Int) : (markL k).length = 1 := by
  unfold markL
  repeat' split
  all_goals rfl
theorem push1_wt {st st' : List Pc} {x : StS} (h : push1 st x = some st') : wt st' ≤ wt st + 50 ∧ st'.length ≤ st.length + 1 := by
  unfold push1 at h
  split at h
  · cases h
  · split at h
    · split at h
      · cases h
      · injection h with h
        subst h
        have := labelL_len x
        simp only [wt, List.length_cons]
        omega
    · split at h
      · cases h
      · cases st with
        | nil => cases h
        | cons b r =>
          simp only at h
          split at h
          · cases r with
            | nil => cases h
            | cons a r =>
              simp only at h
              split at h
              · injection h with h
                subst h
                have h1 := leastL_len a 2
                have h2 := leastL_len b 3
                have h3 := markL_len 3
                simp only [wt, List.length_cons, List.length_append]
                omega
              · injection h with h
                subst h
                have h2 := leastL_len b 2
                have h3 := markL_len 4
                simp only [wt, List.length_cons, List.length_append]
                omega
          · injection h with h
            subst h
            have h2 := leastL_len b 3
            have h3 := markL_len x.f0
            simp only [wt, List.length_cons, List.length_append]
            omega
theorem pushes_app : ∀ (a b : List StS) (st : List Pc), pushes st (a ++ b) = (pushes st a).bind fun st => pushes st b
  | [], b, st => rfl
  | x :: a, b, st => by
    simp only [List.cons_append, pushes]
    cases push1 st x with
    | none => rfl
    | some st' => exact pushes_app a b st'
theorem pushes_wt : ∀ (l : List StS) (st st' : List Pc), pushes st l = some st' → wt st' ≤ wt st + 50 * l.length
  | [], st, st', h => by
    injection h with h
    subst h
    simp
  | x :: l, st, st', h => by
    simp only [pushes] at h
    cases hp : push1 st x with
    | none => rw [hp] at h; cases h
    | some s1 =>
      rw [hp] at h
      have h1 := (push1_wt hp).1
      have h2 := pushes_wt l s1 st' h
      simp only [List.length_cons]
      omega
theorem pushes_len : ∀ (l : List StS) (st st' : List Pc), pushes st l = some st' → st'.length ≤ st.length + l.length
  | [], st, st', h => by
    injection h with h
    subst h
    simp
  | x :: l, st, st', h => by
    simp only [pushes] at h
    cases hp : push1 st x with
    | none => rw [hp] at h; cases h
    | some s1 =>
      rw [hp] at h
      have h1 := (push1_wt hp).2
      have h2 := pushes_len l s1 st' h
      simp only [List.length_cons]
      omega
theorem wt_mem {st : List Pc} {p : Pc} (h : p ∈ st) : p.1.length ≤ wt st := by
  induction st with
  | nil => cases h
  | cons q st ih =>
    simp only [wt]
    rcases List.mem_cons.1 h with rfl | h
    · omega
    · have := ih h; omega
theorem pathL_len (l : List StS) : (pathL l).length ≤ 5000 := by
  unfold pathL
  split
  · simp
  · rename_i h
    split
    · rename_i p hp
      have := pushes_wt l [] [p] hp
      simp only [wt] at this
      split
      · simp
      · omega
    · simp
theorem label_f (x : StS) (h : x.f1.size ≤ 9223372036854775807) : show_label.f 42 x.f0 x.f1 = some (baL (labelL x)) := by
  unfold show_label.f
  rw [predicate_f]
  simp only [Option.bind_some]
  unfold labelL
  cases hp : predN x.f1 with
  | false => rfl
  | true =>
    simp only [if_true]
    by_cases h2 : x.f0 = 2
    · rw [if_pos h2, if_pos h2, if_pos (by have := predN_len hp; omega)]
      congr 1
    · rw [if_neg h2, if_neg h2]
      by_cases h1 : x.f0 = 1
      · rw [if_pos h1, if_pos h1]
      · rw [if_neg h1, if_neg h1]
theorem least_f (p : Pc) (b : Int) (h : p.1.length ≤ 100000) : show_piece_least.f (baL p.1) p.2 b = some (baL (leastL p b)) := by
  unfold show_piece_least.f leastL
  have hs : (baL p.1).size = p.1.length := by simp [ByteArray.size]
  by_cases h1 : p.2 < b
  · rw [if_pos h1, if_pos h1, if_pos (by omega), if_pos (by omega)]
    congr 1
  · rw [if_neg h1, if_neg h1]
end Go.Proofs.YthebhbomlllpeaaGreatDoor.X
