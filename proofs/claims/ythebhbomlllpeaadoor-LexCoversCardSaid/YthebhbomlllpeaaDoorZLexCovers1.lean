/-
  LexCovers: what the proof needs, put together by a program of this session (shake.py), part 1.
-/
import Derived.Test.YthebhbomlllpeaaDoorCards
import Derived.Test.YthebhbomlllpeaaDoorTie
import Derived.Test.YthebhbomlllpeaaDoorProg
import Derived.Below
import Derived.Deep.Draws
import Derived.Deep.AppendLies
import Derived.Maps.AppendAt
import Derived.OwnWalk
import Derived.Laws.BytesArg
import Derived.Laws.MakeOwn
import Derived.Laws.OwnMore
import Derived.Deep.OwnRows
import Derived.Tactics
import Derived.Lib.ConvBytes
import Derived.Laws.Slices
import Derived.WalkKit
import Derived.KernelRfl
import Derived.RowKit3
import Derived.Deep.LoopGhost
import Derived.Deep.QuietTactic
import Derived.BigQuiet
import Derived.WideLaws
import Derived.Deep.DeepCutAuto
import Derived.Deep.CutBlock
import Derived.Deep.RegionHeld3
import Derived.Laws.Rows
import Derived.Lib.AppendStr
import Derived.ArgAppend
import Derived.Laws.IdiomCopy
import Derived.OrdersHeld
import Derived.Laws.BitsLemmas
import Derived.RowKit
import Derived.Lib.SmallJoins
import Derived.Lib.ItoaMem
import Derived.Test.YthebhbomlllpeaaDoorWWords
import Derived.Test.YthebhbomlllpeaaDoorWLast
import Derived.Test.YthebhbomlllpeaaDoorWTab
import Derived.Test.YthebhbomlllpeaaDoorWFour
import Derived.Test.YthebhbomlllpeaaDoorWQPut
import Derived.Test.YthebhbomlllpeaaDoorWApart
import Derived.Test.YthebhbomlllpeaaDoorWArr
import Derived.Test.YthebhbomlllpeaaDoorWZeros
import Derived.Test.YthebhbomlllpeaaDoorWFoot
import Derived.Test.YthebhbomlllpeaaDoorWKept
import Derived.Test.YthebhbomlllpeaaDoorWShare
import Derived.Test.YthebhbomlllpeaaDoorWN
import Derived.Test.YthebhbomlllpeaaDoorWFootNe
import Derived.Test.YthebhbomlllpeaaDoorWAt
import Derived.Test.YthebhbomlllpeaaDoorWEqStruct
import Derived.Test.YthebhbomlllpeaaDoorWRepsOne
import Derived.Test.YthebhbomlllpeaaDoorWInv
import Derived.Test.YthebhbomlllpeaaDoorWInvWords
import Derived.Test.YthebhbomlllpeaaDoorWGuard
import Derived.Test.YthebhbomlllpeaaDoorWNEv
import Derived.Test.YthebhbomlllpeaaDoorWMore
import Derived.Test.YthebhbomlllpeaaDoorRows
import Derived.Deep.Slices
import Derived.Deep.Fields
import Derived.ChangeSame
import Derived.ProofKit
import Derived.OpenShut
import Derived.Deep.DeepHandedRow
import Derived.Lib.LaidTab
import Derived.LaidMore
import Derived.Stop.LaidErr
import Derived.MakeChecks
import Derived.Shelf.Strings.Builder1
import Derived.Shelf.Strings.Builder2
import Derived.Shelf.Strings.OnBuilder
import Derived.Shelf.Small.Strs
import Derived.Shelf.Small.Wraps
import Derived.Shelf.Strings.BuilderF
import Derived.Shelf.Strings.BuilderK
import Derived.Shelf.Strings.Builder2Cap
import Derived.Shelf.Strconv.Itoa0
import Derived.Shelf.Strconv.Itoa1
import Derived.Shelf.LaysM
import Derived.Shelf.Strconv.Itoa2
import Derived.Shelf.Strconv.Itoa3
import Derived.Shelf.Strconv.Itoa4
import Derived.Shelf.Strconv.ParseIntEmpty
import Derived.Shelf.Strconv.Clone
import Derived.Shelf.Strconv.SyntaxError
import Derived.Shelf.LaysC
import Derived.Shelf.Strconv.ToError
import Derived.Shelf.Strconv.Lower
import Derived.Shelf.Strconv.ParseUint10
import Derived.Shelf.Strconv.ParseUint10Empty
import Derived.Shelf.Strconv.ParseUint10Any
import Derived.Shelf.Strconv.ParseInt10
import Derived.Shelf.Strconv.RangeError
import Derived.Shelf.Strconv.ToErrorRange
import Derived.Shelf.Strconv.ParseUintEmpty
import Derived.Shelf.Strconv.ParseUint10b64
import Derived.Shelf.Strconv.ParseUint10b32
import Derived.Shelf.Strconv.ParseUint10b16
import Derived.Shelf.Strconv.ParseUint10b8
import Derived.Shelf.Strconv.ParseUint10At
import Derived.Shelf.Strconv.ParseInt10At64
import Derived.Shelf.Strconv.ParseInt10At32
import Derived.Shelf.Strconv.ParseInt10At16
import Derived.Shelf.Strconv.ParseInt10At8
import Derived.Shelf.Strconv.ParseInt10All
import Derived.Shelf.Strconv.ParseIntPublic10
import Derived.Shelf.Strconv.ErrVarParseInt
import Derived.Ground.MpProg
import Derived.Shelf.Pu.ParseUintPublic10
import Derived.Shelf.Pu.ErrVarParseUint
import Derived.Shelf.Strings.Search1
import Derived.Shelf.Strings.Prefix
import Derived.Shelf.Bits.Mul64
import Derived.Shelf.Strings.Repeat
import Derived.Shelf.Strings.BuilderCap
import Derived.Laws.NewBlocks
import Derived.Lib.AtoiAllMem
import Derived.Lib.ParseIntB
import Derived.Lib.Hide
import Derived.Laws.Strings3
import Derived.Laws.Closers25
import Derived.Laws.Closers25b
import Derived.BigCall
import Derived.BigGuard
import Derived.Laws.RangeAny
import Derived.Laws.RangeString
import Derived.Lib.ParseIntBTie
import Init
import Derived.Recover
import Derived.WalkLawsBesides
namespace Go.Proofs.YthebhbomlllpeaaDoor.X
open Go Go.RowKit Go.Lib Go.Joins
theorem gPow : ∃ g, Tryd.prog.globalNamed "internal/strconv.uint64pow10" = some g := ⟨3, by kernel_rfl⟩
theorem gBruijn : Tryd.prog.globalNamed "math/bits.deBruijn64tab" = some 5 := by kernel_rfl
def bruijn64 : List Int := [0, 1, 56, 2, 57, 49, 28, 3, 61, 58, 42, 50, 38, 29, 17, 4, 62, 47, 59, 36, 45, 43, 51, 22, 53, 39, 33, 30, 24, 18, 12, 5, 63, 55, 48, 27, 60, 41, 37, 16, 46, 35, 44, 21, 52, 32, 23, 11, 54, 26, 40, 15, 34, 20, 31, 10, 25, 14, 19, 9, 13, 8, 7, 6]
/-- What the listed tables hold. -/
structure LaidW (w : World) : Prop where
  t10 : TabIs Tryd.prog w "internal/strconv.uint64pow10" .u64 pow10Tab
  t64 : TabIs Tryd.prog w "math/bits.deBruijn64tab" .u8 bruijn64
  eSyn : ∃ tp p, w.var? Tryd.prog "strconv.ErrSyntax" = some #[.iface tp p]
  eRan : ∃ tp p, w.var? Tryd.prog "strconv.ErrRange" = some #[.iface tp p]
theorem gSyn : Tryd.prog.globalNamed "strconv.ErrSyntax" = some 1 := by kernel_rfl
theorem gRan : Tryd.prog.globalNamed "strconv.ErrRange" = some 2 := by kernel_rfl
theorem LaidW.below {w w' : World} (h : LaidW w) (hb : Below w.heap.size w w') : LaidW w' :=
  ⟨by obtain ⟨g, hg⟩ := gPow; exact tab_stays hg h.t10 hb (Nat.le_refl _), tab_stays gBruijn h.t64 hb (Nat.le_refl _),
    by obtain ⟨tp, p, hv⟩ := h.eSyn; exact ⟨tp, p, var_stays gSyn hv hb (Nat.le_refl _)⟩, by obtain ⟨tp, p, hv⟩ := h.eRan; exact ⟨tp, p, var_stays gRan hv hb (Nat.le_refl _)⟩⟩
theorem LaidW.alloc {w : World} (h : LaidW w) (o : Obj) : LaidW (w.alloc o) := h.below ((Below.refl _ _).alloc (Nat.le_refl _) o)
theorem LaidW.drewN {w : World} (h : LaidW w) (n : Nat) : LaidW (w.drewN n) := ⟨h.t10, h.t64, h.eSyn, h.eRan⟩
theorem LaidW.drew {w : World} (h : LaidW w) : LaidW w.drew := ⟨h.t10, h.t64, h.eSyn, h.eRan⟩
end Go.Proofs.YthebhbomlllpeaaDoor.X
namespace Go.Proofs.YthebhbomlllpeaaDoor.X
open Go.RowKit Go.Proofs.YthebhbomlllpeaaDoorW.PrintWords Go.Proofs.YthebhbomlllpeaaDoorW.PrintLast Go.Proofs.YthebhbomlllpeaaDoorW.PrintMore
attribute [local go_sem] max2_int min2_int max_two min_two max_three min_three max_four min_four
set_option linter.unusedVariables false
set_option linter.unusedSimpArgs false
def errW : Option Int → Value
  | none => .nilIface
  | some c => .iface 0 (.int .i64 c)
theorem errW_none : errW none = .nilIface := rfl
theorem errW_some (c : Int) : errW (some c) = .iface 0 (.int .i64 c) := rfl
structure S36 where
  f0 : Int
  f1 : Int
  f2 : ByteArray
structure S34 where
  f0 : Int
  f1 : ByteArray
  f2 : Int
def z34 : S34 := ⟨(0 : Int), (⟨#[]⟩ : ByteArray), (0 : Int)⟩
def k34 : Kd S34 := Kd.iso (Kd.pair (Kd.int .i64) (Kd.pair Kd.string (Kd.int .i64))) (fun x : S34 => (x.f0, x.f1, x.f2))
theorem k34_open {w : World} {x : S34} {cs : List Value} (h : k34.K w x cs) : cs = [.int .i64 x.f0, .string x.f1, .int .i64 x.f2] := by
  obtain ⟨_, _, rfl, rfl, ⟨_, _, rfl, rfl, rfl⟩⟩ := h
  exact rfl
theorem k34_mkM (w : World) (base : Nat) (ok : Nat → Prop) (x : S34)  : k34.M w base ok x [.int .i64 x.f0, .string x.f1, .int .i64 x.f2] := ⟨[.int .i64 x.f0], [.string x.f1, .int .i64 x.f2], rfl, rfl, ⟨[.string x.f1], [.int .i64 x.f2], rfl, rfl, rfl⟩⟩
def rd_T34 (xs : List S34) (i : Int) : S34 := xs.getD i.toNat z34
theorem at_T34 {w : World} {A : Option Addr} {n : Nat} {xs : List S34} (h : Kd.C k34 w A n xs) (i : Int) (h0 : 0 ≤ i) (h1 : i < n) : ∃ ad , A = some ad ∧ w.cell? (ad.add (i.toNat * 3)) = some (.int .i64 (rd_T34 xs i).f0) ∧ w.cell? ⟨(ad.add (i.toNat * 3)).block, (ad.add (i.toNat * 3)).off + 1, none⟩ = some (.string (rd_T34 xs i).f1) ∧ w.cell? ⟨(ad.add (i.toNat * 3)).block, (ad.add (i.toNat * 3)).off + 2, none⟩ = some (.int .i64 (rd_T34 xs i).f2) := by
  obtain ⟨ad, c, e, _, hK, hc0⟩ := Kd.C_get h z34 i h0 h1
  have hc : ∀ j u, c[j]? = some u → w.cell? (ad.add (i.toNat * 3 + j)) = some u := hc0
  obtain rfl := k34_open hK
  exact ⟨ad, e, hc 0 _ rfl, by rw [← add_field _ _ 1 (by omega)]; exact hc 1 _ rfl, by rw [← add_field _ _ 2 (by omega)]; exact hc 2 _ rfl⟩
structure S52 where
  f0 : Int
  f1 : ByteArray
  f2 : Int
def z52 : S52 := ⟨(0 : Int), (⟨#[]⟩ : ByteArray), (0 : Int)⟩
def rd_T52 (xs : List S52) (i : Int) : S52 := xs.getD i.toNat z52
end Go.Proofs.YthebhbomlllpeaaDoor.X
namespace Go.Proofs.YthebhbomlllpeaaDoor.X
set_option linter.unusedVariables false
set_option linter.unusedSimpArgs false
open Go.ChangeShapes Go.WideShapes Go.ChangeAt Go.RowKit
theorem own : ownKnob Tryd.prog.godebug = none := by kernel_rfl
def laidAll : List (String × DataW Unit) := [("math/bits.deBruijn32tab", Rows.laid_math_bits_deBruijn32tab), ("math/bits.deBruijn64tab", Rows.laid_math_bits_deBruijn64tab), ("internal/strconv.uint64pow10", Rows.laid_internal_strconv_uint64pow10), ("strconv.ErrRange", Rows.laid_strconv_ErrRange), ("strconv.ErrSyntax", Rows.laid_strconv_ErrSyntax)]
theorem gPow1 : Tryd.prog.globalNamed "internal/strconv.uint64pow10" = some 3 := by kernel_rfl
theorem tPow1 : (Tryd.prog.globals[3]?).map (·.type) = some 147 := by kernel_rfl
theorem tBru1 : (Tryd.prog.globals[5]?).map (·.type) = some 160 := by kernel_rfl
theorem tSyn1 : (Tryd.prog.globals[1]?).map (·.type) = some 61 := by kernel_rfl
theorem tRan1 : (Tryd.prog.globals[2]?).map (·.type) = some 61 := by kernel_rfl
theorem star1 : "*" ++ "errors.errorString" = "*errors.errorString" := by decide
theorem rowErr (u : TypeId) (h : Tryd.prog.typeName? 3 u = some "*errors.errorString") : u = 155 :=
  typeName_ptr_named (nm := "errors.errorString") (by rw [star1]; kernel_rfl) (by kernel_rfl) (by decide) u (by rw [star1]; exact h)
theorem cellsErr : Tryd.prog.cellsOf 157 = 1 := by kernel_rfl
theorem cellsStr : Tryd.prog.cellsOf 9 = 1 := by kernel_rfl
theorem laidW_of {W : World} (h0 : laidMetH Tryd.prog laidAll W) : LaidW W := by
  rw [MakeChecks.laidMetH_plain _ _ _ (by kernel_rfl)] at h0
  have h1 := laidMet.tail h0
  have h2 := laidMet.tail h1
  have h3 := laidMet.tail h2
  have h4 := laidMet.tail h3
  obtain ⟨a0, s0, hv0, _⟩ := laid_sentinel h3 gRan tRan1 Tryd.underlying61 rowErr Tryd.underlying155 Tryd.underlying157 rfl rfl Tryd.underlying9 cellsErr cellsStr
  obtain ⟨a1, s1, hv1, _⟩ := laid_sentinel h4 gSyn tSyn1 Tryd.underlying61 rowErr Tryd.underlying155 Tryd.underlying157 rfl rfl Tryd.underlying9 cellsErr cellsStr
  exact ⟨Lib.tabIs_of_head (rest := _) gPow1 tPow1 Tryd.underlying147 Tryd.underlying59 (by kernel_rfl) (by kernel_rfl) h2,
    Lib.tabIs_of_head (zs := bruijn64) gBruijn tBru1 Tryd.underlying160 Tryd.underlying5 (by kernel_rfl) (by kernel_rfl) h1, ⟨_, _, hv1⟩, ⟨_, _, hv0⟩⟩
noncomputable def laidWorld (os : Os) : World := World.doorLaid Tryd.prog 600 os
theorem laid_met (os : Os) (args : Array Value) : laidMetH Tryd.prog laidAll ((laidWorld os).forCall (fun _ _ => 0) ⟨#[], args, []⟩).memory := by
  rw [MakeChecks.laidMetH_plain _ _ _ (by kernel_rfl)]
  exact laidMet_of_run' 8 (by kernel_rfl) (by kernel_rfl)
end Go.Proofs.YthebhbomlllpeaaDoor.X
namespace Go.Proofs.YthebhbomlllpeaaDoor.X
open Go.RowKit Go.Proofs.YthebhbomlllpeaaDoorW.PrintWords Go.Proofs.YthebhbomlllpeaaDoorW.PrintLast Go.Proofs.YthebhbomlllpeaaDoorW.PrintMore
attribute [local go_sem] max2_int min2_int max_two min_two max_three min_three max_four min_four
set_option linter.unusedVariables false
set_option linter.unusedSimpArgs false
def lex_great.f (a0 : Int) : Option (Bool) := if a0 ≥ 65 then (some (decide (a0 ≤ 90))) else (some false)
set_option maxHeartbeats 8000000 in
set_option maxRecDepth 100000 in
theorem lex_great.calls (a0 : Int) (r : Bool) (w : World) (h : lex_great.f a0 = some r) :
    Calls Tryd.prog 28 #[.int .u8 a0] w fun e w' => e = .returned (.bool r) ∧ Drawn0 w w' := by
  have H : (if a0 ≥ 65 then (some (decide (a0 ≤ 90))) else (some false)) = some r := h
  clear h
  by_cases c2 : a0 ≥ 65
  · rw [if_pos c2] at H
    have c2b0 : decide (65 ≤ a0) = true := decide_eq_true c2
    clear c2
    obtain rfl := Option.some.inj H
    go_enter Tryd.func28, Tryd.ntmps28
    go_wp2
    go_ret
    exact ⟨by first | rfl | (simp; done) | (simp [*]; done), by repeat (first | exact Drawn0.refl _ | apply Drawn0.step)⟩
  · rw [if_neg c2] at H
    have c2b0 : decide (65 ≤ a0) = false := decide_eq_false c2
    clear c2
    obtain rfl := Option.some.inj H
    go_enter Tryd.func28, Tryd.ntmps28
    go_wp2
    go_ret
    exact ⟨by first | rfl | (simp; done) | (simp [*]; done), by repeat (first | exact Drawn0.refl _ | apply Drawn0.step)⟩
def lex_small.f (a0 : Int) : Option (Bool) := if a0 ≥ 97 then (some (decide (a0 ≤ 122))) else (some false)
set_option maxHeartbeats 8000000 in
set_option maxRecDepth 100000 in
theorem lex_small.calls (a0 : Int) (r : Bool) (w : World) (h : lex_small.f a0 = some r) :
    Calls Tryd.prog 50 #[.int .u8 a0] w fun e w' => e = .returned (.bool r) ∧ Drawn0 w w' := by
  have H : (if a0 ≥ 97 then (some (decide (a0 ≤ 122))) else (some false)) = some r := h
  clear h
  by_cases c2 : a0 ≥ 97
  · rw [if_pos c2] at H
    have c2b0 : decide (97 ≤ a0) = true := decide_eq_true c2
    clear c2
    obtain rfl := Option.some.inj H
    go_enter Tryd.func50, Tryd.ntmps50
    go_wp2
    go_ret
    exact ⟨by first | rfl | (simp; done) | (simp [*]; done), by repeat (first | exact Drawn0.refl _ | apply Drawn0.step)⟩
  · rw [if_neg c2] at H
    have c2b0 : decide (97 ≤ a0) = false := decide_eq_false c2
    clear c2
    obtain rfl := Option.some.inj H
    go_enter Tryd.func50, Tryd.ntmps50
    go_wp2
    go_ret
    exact ⟨by first | rfl | (simp; done) | (simp [*]; done), by repeat (first | exact Drawn0.refl _ | apply Drawn0.step)⟩
def lex_digit.f (a0 : Int) : Option (Bool) := if a0 ≥ 48 then (some (decide (a0 ≤ 57))) else (some false)
set_option maxHeartbeats 8000000 in
set_option maxRecDepth 100000 in
theorem lex_digit.calls (a0 : Int) (r : Bool) (w : World) (h : lex_digit.f a0 = some r) :
    Calls Tryd.prog 52 #[.int .u8 a0] w fun e w' => e = .returned (.bool r) ∧ Drawn0 w w' := by
  have H : (if a0 ≥ 48 then (some (decide (a0 ≤ 57))) else (some false)) = some r := h
  clear h
  by_cases c2 : a0 ≥ 48
  · rw [if_pos c2] at H
    have c2b0 : decide (48 ≤ a0) = true := decide_eq_true c2
    clear c2
    obtain rfl := Option.some.inj H
    go_enter Tryd.func52, Tryd.ntmps52
    go_wp2
    go_ret
    exact ⟨by first | rfl | (simp; done) | (simp [*]; done), by repeat (first | exact Drawn0.refl _ | apply Drawn0.step)⟩
  · rw [if_neg c2] at H
    have c2b0 : decide (48 ≤ a0) = false := decide_eq_false c2
    clear c2
    obtain rfl := Option.some.inj H
    go_enter Tryd.func52, Tryd.ntmps52
    go_wp2
    go_ret
    exact ⟨by first | rfl | (simp; done) | (simp [*]; done), by repeat (first | exact Drawn0.refl _ | apply Drawn0.step)⟩
def lex_low.f (a0 : Int) : Option (Bool) := (lex_small.f a0).bind fun t101 => (if t101 = true then (some true) else ((lex_digit.f a0).bind fun t102 => (if t102 = true then (some true) else (some (a0 == 95)))))
set_option maxHeartbeats 8000000 in
set_option maxRecDepth 100000 in
theorem lex_low.calls (a0 : Int) (r : Bool) (w : World) (h : lex_low.f a0 = some r) :
    Calls Tryd.prog 51 #[.int .u8 a0] w fun e w' => e = .returned (.bool r) ∧ Drawn0 w w' := by
  have H : ((lex_small.f a0).bind fun t101 => (if t101 = true then (some true) else ((lex_digit.f a0).bind fun t102 => (if t102 = true then (some true) else (some (a0 == 95)))))) = some r := h
  clear h
  replace H := Option.bind_eq_some_iff.mp H
  obtain ⟨t101, A20, H⟩ := H
  replace H : (if t101 = true then (some true) else ((lex_digit.f a0).bind fun t102 => (if t102 = true then (some true) else (some (a0 == 95))))) = some r := H
  have A2 := Aside0.mk A20
  clear A20
  by_cases c3 : t101 = true
  · subst c3
    have H1 : (some true) = some r := by rw [if_pos rfl] at H; exact H
    clear H
    have H := H1
    clear H1
    obtain rfl := Option.some.inj H
    go_enter Tryd.func51, Tryd.ntmps51
    go_wp2_with (first | ((with_reducible refine gate_callee (f := 50) rfl ?_); refine goesL_ (some 4) rfl rfl Tryd.func50 (by kernel_rfl) rfl #[.int .u8 a0] rfl (by (try simp only [List.map_toArray, List.map_cons, List.map_nil]); first | done | rfl | (simp only [List.length_drop, List.length_take]; rfl)) ?_; (with_reducible refine (lex_small.calls a0 true _ A2.out).mono ?_); rintro e w' ⟨rfl, ⟨nd, rfl⟩⟩; refine ⟨_, rfl, ?_⟩))
    go_ret
    exact ⟨by first | rfl | (simp; done) | (simp [*]; done), by repeat (first | exact Drawn0.refl _ | apply Drawn0.step)⟩
  · replace c3 := Bool.eq_false_iff.mpr c3
    subst c3
    have H1 : ((lex_digit.f a0).bind fun t102 => (if t102 = true then (some true) else (some (a0 == 95)))) = some r := by rw [if_neg (show ¬ (false = true) by decide)] at H; exact H
    clear H
    have H := H1
    clear H1
    replace H := Option.bind_eq_some_iff.mp H
    obtain ⟨t102, A40, H⟩ := H
    replace H : (if t102 = true then (some true) else (some (a0 == 95))) = some r := H
    have A4 := Aside0.mk A40
    clear A40
    by_cases c5 : t102 = true
    · subst c5
      have H1 : (some true) = some r := by rw [if_pos rfl] at H; exact H
      clear H
      have H := H1
      clear H1
      obtain rfl := Option.some.inj H
      go_enter Tryd.func51, Tryd.ntmps51
      go_wp2_with (first | ((with_reducible refine gate_callee (f := 50) rfl ?_); refine goesL_ (some 4) rfl rfl Tryd.func50 (by kernel_rfl) rfl #[.int .u8 a0] rfl (by (try simp only [List.map_toArray, List.map_cons, List.map_nil]); first | done | rfl | (simp only [List.length_drop, List.length_take]; rfl)) ?_; (with_reducible refine (lex_small.calls a0 false _ A2.out).mono ?_); rintro e w' ⟨rfl, ⟨nd, rfl⟩⟩; refine ⟨_, rfl, ?_⟩) | (go_at_call 52; (with_reducible refine (lex_digit.calls a0 true _ A4.out).mono ?_); rintro e w' ⟨rfl, ⟨nd, rfl⟩⟩))
      go_ret
      exact ⟨by first | rfl | (simp; done) | (simp [*]; done), by repeat (first | exact Drawn0.refl _ | apply Drawn0.step)⟩
    · replace c5 := Bool.eq_false_iff.mpr c5
      subst c5
      have H1 : (some (a0 == 95)) = some r := by rw [if_neg (show ¬ (false = true) by decide)] at H; exact H
      clear H
      have H := H1
      clear H1
      obtain rfl := Option.some.inj H
      go_enter Tryd.func51, Tryd.ntmps51
      go_wp2_with (first | ((with_reducible refine gate_callee (f := 50) rfl ?_); refine goesL_ (some 4) rfl rfl Tryd.func50 (by kernel_rfl) rfl #[.int .u8 a0] rfl (by (try simp only [List.map_toArray, List.map_cons, List.map_nil]); first | done | rfl | (simp only [List.length_drop, List.length_take]; rfl)) ?_; (with_reducible refine (lex_small.calls a0 false _ A2.out).mono ?_); rintro e w' ⟨rfl, ⟨nd, rfl⟩⟩; refine ⟨_, rfl, ?_⟩) | (go_at_call 52; (with_reducible refine (lex_digit.calls a0 false _ A4.out).mono ?_); rintro e w' ⟨rfl, ⟨nd, rfl⟩⟩))
      go_ret
      exact ⟨by first | rfl | (simp; done) | (simp [*]; done), by repeat (first | exact Drawn0.refl _ | apply Drawn0.step)⟩
def lex_sign.f (a0 : Int) : Option (Bool) := (lex_low.f a0).bind fun t103 => (if t103 = true then (some true) else ((lex_great.f a0).bind fun t104 => (some t104)))
set_option maxHeartbeats 8000000 in
set_option maxRecDepth 100000 in
theorem lex_sign.calls (a0 : Int) (r : Bool) (w : World) (h : lex_sign.f a0 = some r) :
    Calls Tryd.prog 30 #[.int .u8 a0] w fun e w' => e = .returned (.bool r) ∧ Drawn0 w w' := by
  have H : ((lex_low.f a0).bind fun t103 => (if t103 = true then (some true) else ((lex_great.f a0).bind fun t104 => (some t104)))) = some r := h
  clear h
  replace H := Option.bind_eq_some_iff.mp H
  obtain ⟨t103, A20, H⟩ := H
  replace H : (if t103 = true then (some true) else ((lex_great.f a0).bind fun t104 => (some t104))) = some r := H
  have A2 := Aside0.mk A20
  clear A20
  by_cases c3 : t103 = true
  · subst c3
    have H1 : (some true) = some r := by rw [if_pos rfl] at H; exact H
    clear H
    have H := H1
    clear H1
    obtain rfl := Option.some.inj H
    go_enter Tryd.func30, Tryd.ntmps30
    go_wp2_with (first | ((with_reducible refine gate_callee (f := 51) rfl ?_); refine goesL_ (some 4) rfl rfl Tryd.func51 (by kernel_rfl) rfl #[.int .u8 a0] rfl (by (try simp only [List.map_toArray, List.map_cons, List.map_nil]); first | done | rfl | (simp only [List.length_drop, List.length_take]; rfl)) ?_; (with_reducible refine (lex_low.calls a0 true _ A2.out).mono ?_); rintro e w' ⟨rfl, ⟨nd, rfl⟩⟩; refine ⟨_, rfl, ?_⟩))
    go_ret
    exact ⟨by first | rfl | (simp; done) | (simp [*]; done), by repeat (first | exact Drawn0.refl _ | apply Drawn0.step)⟩
  · replace c3 := Bool.eq_false_iff.mpr c3
    subst c3
    have H1 : ((lex_great.f a0).bind fun t104 => (some t104)) = some r := by rw [if_neg (show ¬ (false = true) by decide)] at H; exact H
    clear H
    have H := H1
    clear H1
    replace H := Option.bind_eq_some_iff.mp H
    obtain ⟨t104, A40, H⟩ := H
    replace H : (some t104) = some r := H
    have A4 := Aside0.mk A40
    clear A40
    obtain rfl := Option.some.inj H
    go_enter Tryd.func30, Tryd.ntmps30
    go_wp2_with (first | ((with_reducible refine gate_callee (f := 51) rfl ?_); refine goesL_ (some 4) rfl rfl Tryd.func51 (by kernel_rfl) rfl #[.int .u8 a0] rfl (by (try simp only [List.map_toArray, List.map_cons, List.map_nil]); first | done | rfl | (simp only [List.length_drop, List.length_take]; rfl)) ?_; (with_reducible refine (lex_low.calls a0 false _ A2.out).mono ?_); rintro e w' ⟨rfl, ⟨nd, rfl⟩⟩; refine ⟨_, rfl, ?_⟩) | (go_at_call 28; (with_reducible refine (lex_great.calls a0 t104 _ A4.out).mono ?_); rintro e w' ⟨rfl, ⟨nd, rfl⟩⟩))
    go_ret
    exact ⟨by first | rfl | (simp; done) | (simp [*]; done), by repeat (first | exact Drawn0.refl _ | apply Drawn0.step)⟩
def value_letter.f (a0 : Int) : Option (Bool) := if a0 ≥ 97 then (some (decide (a0 ≤ 122))) else (some false)
set_option maxHeartbeats 8000000 in
set_option maxRecDepth 100000 in
theorem value_letter.calls (a0 : Int) (r : Bool) (w : World) (h : value_letter.f a0 = some r) :
    Calls Tryd.prog 35 #[.int .u8 a0] w fun e w' => e = .returned (.bool r) ∧ Drawn0 w w' := by
  have H : (if a0 ≥ 97 then (some (decide (a0 ≤ 122))) else (some false)) = some r := h
  clear h
  by_cases c2 : a0 ≥ 97
  · rw [if_pos c2] at H
    have c2b0 : decide (97 ≤ a0) = true := decide_eq_true c2
    clear c2
    obtain rfl := Option.some.inj H
    go_enter Tryd.func35, Tryd.ntmps35
    go_wp2
    go_ret
    exact ⟨by first | rfl | (simp; done) | (simp [*]; done), by repeat (first | exact Drawn0.refl _ | apply Drawn0.step)⟩
  · rw [if_neg c2] at H
    have c2b0 : decide (97 ≤ a0) = false := decide_eq_false c2
    clear c2
    obtain rfl := Option.some.inj H
    go_enter Tryd.func35, Tryd.ntmps35
    go_wp2
    go_ret
    exact ⟨by first | rfl | (simp; done) | (simp [*]; done), by repeat (first | exact Drawn0.refl _ | apply Drawn0.step)⟩
def value_inner.f (a0 : Int) : Option (Bool) := (value_letter.f a0).bind fun t105 => (if t105 = true then (some true) else (if a0 ≥ 48 then (if a0 ≤ 57 then (some true) else (some (a0 == 95))) else (some (a0 == 95))))
set_option maxHeartbeats 8000000 in
set_option maxRecDepth 100000 in
theorem value_inner.calls (a0 : Int) (r : Bool) (w : World) (h : value_inner.f a0 = some r) :
    Calls Tryd.prog 36 #[.int .u8 a0] w fun e w' => e = .returned (.bool r) ∧ Drawn0 w w' := by
  have H : ((value_letter.f a0).bind fun t105 => (if t105 = true then (some true) else (if a0 ≥ 48 then (if a0 ≤ 57 then (some true) else (some (a0 == 95))) else (some (a0 == 95))))) = some r := h
  clear h
  replace H := Option.bind_eq_some_iff.mp H
  obtain ⟨t105, A20, H⟩ := H
  replace H : (if t105 = true then (some true) else (if a0 ≥ 48 then (if a0 ≤ 57 then (some true) else (some (a0 == 95))) else (some (a0 == 95)))) = some r := H
  have A2 := Aside0.mk A20
  clear A20
  by_cases c3 : t105 = true
  · subst c3
    have H1 : (some true) = some r := by rw [if_pos rfl] at H; exact H
    clear H
    have H := H1
    clear H1
    obtain rfl := Option.some.inj H
    go_enter Tryd.func36, Tryd.ntmps36
    go_wp2_with (first | ((with_reducible refine gate_callee (f := 35) rfl ?_); refine goesL_ (some 4) rfl rfl Tryd.func35 (by kernel_rfl) rfl #[.int .u8 a0] rfl (by (try simp only [List.map_toArray, List.map_cons, List.map_nil]); first | done | rfl | (simp only [List.length_drop, List.length_take]; rfl)) ?_; (with_reducible refine (value_letter.calls a0 true _ A2.out).mono ?_); rintro e w' ⟨rfl, ⟨nd, rfl⟩⟩; refine ⟨_, rfl, ?_⟩))
    go_ret
    exact ⟨by first | rfl | (simp; done) | (simp [*]; done), by repeat (first | exact Drawn0.refl _ | apply Drawn0.step)⟩
  · replace c3 := Bool.eq_false_iff.mpr c3
    subst c3
    have H1 : (if a0 ≥ 48 then (if a0 ≤ 57 then (some true) else (some (a0 == 95))) else (some (a0 == 95))) = some r := by rw [if_neg (show ¬ (false = true) by decide)] at H; exact H
    clear H
    have H := H1
    clear H1
    by_cases c4 : a0 ≥ 48
    · rw [if_pos c4] at H
      have c4b0 : decide (48 ≤ a0) = true := decide_eq_true c4
      clear c4
      by_cases c5 : a0 ≤ 57
      · rw [if_pos c5] at H
        have c5b0 : decide (a0 ≤ 57) = true := decide_eq_true c5
        clear c5
        obtain rfl := Option.some.inj H
        go_enter Tryd.func36, Tryd.ntmps36
        go_wp2_with (first | ((with_reducible refine gate_callee (f := 35) rfl ?_); refine goesL_ (some 4) rfl rfl Tryd.func35 (by kernel_rfl) rfl #[.int .u8 a0] rfl (by (try simp only [List.map_toArray, List.map_cons, List.map_nil]); first | done | rfl | (simp only [List.length_drop, List.length_take]; rfl)) ?_; (with_reducible refine (value_letter.calls a0 false _ A2.out).mono ?_); rintro e w' ⟨rfl, ⟨nd, rfl⟩⟩; refine ⟨_, rfl, ?_⟩))
        go_ret
        exact ⟨by first | rfl | (simp; done) | (simp [*]; done), by repeat (first | exact Drawn0.refl _ | apply Drawn0.step)⟩
      · rw [if_neg c5] at H
        have c5b0 : decide (a0 ≤ 57) = false := decide_eq_false c5
        clear c5
        obtain rfl := Option.some.inj H
        go_enter Tryd.func36, Tryd.ntmps36
        go_wp2_with (first | ((with_reducible refine gate_callee (f := 35) rfl ?_); refine goesL_ (some 4) rfl rfl Tryd.func35 (by kernel_rfl) rfl #[.int .u8 a0] rfl (by (try simp only [List.map_toArray, List.map_cons, List.map_nil]); first | done | rfl | (simp only [List.length_drop, List.length_take]; rfl)) ?_; (with_reducible refine (value_letter.calls a0 false _ A2.out).mono ?_); rintro e w' ⟨rfl, ⟨nd, rfl⟩⟩; refine ⟨_, rfl, ?_⟩))
        go_ret
        exact ⟨by first | rfl | (simp; done) | (simp [*]; done), by repeat (first | exact Drawn0.refl _ | apply Drawn0.step)⟩
    · rw [if_neg c4] at H
      have c4b0 : decide (48 ≤ a0) = false := decide_eq_false c4
      clear c4
      obtain rfl := Option.some.inj H
      go_enter Tryd.func36, Tryd.ntmps36
      go_wp2_with (first | ((with_reducible refine gate_callee (f := 35) rfl ?_); refine goesL_ (some 4) rfl rfl Tryd.func35 (by kernel_rfl) rfl #[.int .u8 a0] rfl (by (try simp only [List.map_toArray, List.map_cons, List.map_nil]); first | done | rfl | (simp only [List.length_drop, List.length_take]; rfl)) ?_; (with_reducible refine (value_letter.calls a0 false _ A2.out).mono ?_); rintro e w' ⟨rfl, ⟨nd, rfl⟩⟩; refine ⟨_, rfl, ?_⟩))
      go_ret
      exact ⟨by first | rfl | (simp; done) | (simp [*]; done), by repeat (first | exact Drawn0.refl _ | apply Drawn0.step)⟩
mutual
def value_Name.j0 : Nat → ByteArray → Bool → Option (Bool)
  | 0, _, _ => none
  | k + 1, x0, x17 => if x17 = true then (some false) else (value_Name.l0 k x0 true (x0.size : Int) 0)
def value_Name.l0 : Nat → ByteArray → Bool → Int → Int → Option (Bool)
  | 0, _, _, _, _ => none
  | k + 1, x0, x3, x19, x20 => if x20 < x19 then (if 0 ≤ x20 then (if x20 < (x0.size : Int) then ((value_inner.f (bt x0 x20)).bind fun t107 => (if t107 = true then (value_Name.l0 k x0 t107 x19 (wrap64 (x20 + 1))) else (some t107))) else (none)) else (none)) else (some x3)
end
def value_Name.f (k : Nat) (a0 : ByteArray) : Option (Bool) := if a0.toList = ([] : List UInt8) then (value_Name.j0 k a0 true) else (if (a0.size : Int) > 40 then (value_Name.j0 k a0 true) else (if 0 < (a0.size : Int) then ((value_letter.f (bt a0 0)).bind fun t106 => (value_Name.j0 k a0 (!t106))) else (none)))
set_option maxHeartbeats 8000000 in
set_option maxRecDepth 100000 in
theorem value_Name.calls (k : Nat) (a0 : ByteArray) (r : Bool) (w : World) (h : value_Name.f k a0 = some r) :
    Calls Tryd.prog 19 #[.string a0] w fun e w' => e = .returned (.bool r) ∧ Drawn0 w w' := by
  have H : (if a0.toList = ([] : List UInt8) then (value_Name.j0 k a0 true) else (if (a0.size : Int) > 40 then (value_Name.j0 k a0 true) else (if 0 < (a0.size : Int) then ((value_letter.f (bt a0 0)).bind fun t106 => (value_Name.j0 k a0 (!t106))) else (none)))) = some r := h
  clear h
  have HC2 := Aside0.mk H
  clear H
  go_enter Tryd.func19, Tryd.ntmps19
  go_wp2
  (try go_step3)
  go_upto_region 1 with (fail)
  go_cut [17] (fun v17 wc => ∃ (kq : Nat) (x17_1 : Bool), v17 = .bool x17_1 ∧ Aside0 (value_Name.j0 kq a0 x17_1 = some r) ∧ Aside0 (kq ≤ k) ∧ Drawn0 w wc)
  case first =>
    have H := HC2.out
    clear HC2
    by_cases c3 : a0.toList = ([] : List UInt8)
    · rw [if_pos c3] at H
      have c3b0 : (a0.toList == ([] : List UInt8)) = true := beq_iff_eq.mpr c3
      have c3b1 : (a0.toList != ([] : List UInt8)) = false := bne_eq_false_iff_eq.mpr c3
      clear c3
      (first | rw [c3b0] | (simp only [i64_w, i32_w]; rw [c3b0]) | skip)
      have H' := Aside0.mk H
      clear H
      go_wp2
      (try (go_step3; go_wp2))
      go_meet
      case rel => exact ⟨_, (true), (by first | rfl | (simp; done) | (simp [*]; done)), H', ⟨by first | omega | exact Nat.le_refl _⟩, by repeat (first | exact Drawn0.refl _ | apply Drawn0.step)⟩
    · rw [if_neg c3] at H
      have c3b0 : (a0.toList == ([] : List UInt8)) = false := beq_eq_false_iff_ne.mpr c3
      have c3b1 : (a0.toList != ([] : List UInt8)) = true := bne_iff_ne.mpr c3
      (first | rw [c3b0] | (simp only [i64_w, i32_w]; rw [c3b0]) | skip)
      by_cases c4 : (a0.size : Int) > 40
      · rw [if_pos c4] at H
        have c4b0 : decide (40 < (a0.size : Int)) = true := decide_eq_true c4
        have c4b1 : decide (40 < a0.size) = true := decide_eq_true (by omega)
        clear c4
        have H' := Aside0.mk H
        clear H
        go_wp2
        (try (go_step3; go_wp2))
        go_meet
        case rel => exact ⟨_, (true), (by first | rfl | (simp; done) | (simp [*]; done)), H', ⟨by first | omega | exact Nat.le_refl _⟩, by repeat (first | exact Drawn0.refl _ | apply Drawn0.step)⟩
      · rw [if_neg c4] at H
        have c4b0 : decide (40 < (a0.size : Int)) = false := decide_eq_false c4
        have c4b1 : decide (40 < a0.size) = false := decide_eq_false (by omega)
        clear c4
        by_cases c5 : 0 < (a0.size : Int)
        · rw [if_pos c5] at H
          have c5b0 : decide (0 < (a0.size : Int)) = true := decide_eq_true c5
          have c5b1 : decide (0 < a0.size) = true := decide_eq_true (by omega)
          clear c5
          replace H := Option.bind_eq_some_iff.mp H
          obtain ⟨t106, A70, H⟩ := H
          replace H : (value_Name.j0 k a0 (!t106)) = some r := H
          have A7 := Aside0.mk A70
          clear A70
          have H' := Aside0.mk H
          clear H
          have p6 : 0 ≤ (0 : Int) := (by omega)
          have q6 : 0 < a0.size := (by have : (0 : Int) < (a0.size : Int) := of_decide_eq_true (by first | (with_reducible assumption) | assumption); omega)
          have hx6 : ∀ h : 0 < a0.size, ((a0[0]'h).toNat : Int) = bt a0 0 := bt_at a0 0
          clear p6
          have qi6 : (0 < (a0.size : Int)) = True := eq_true (of_decide_eq_true (by first | (with_reducible assumption) | assumption))
          replace q6 := eq_true q6
          go_wp2_with (first | (go_at_call 35; (with_reducible refine (value_letter.calls (bt a0 0) t106 _ A7.out).mono ?_); rintro e w' ⟨rfl, ⟨nd, rfl⟩⟩))
          (try (go_step3; go_wp2))
          go_meet
          case rel => exact ⟨_, (!t106), (by first | rfl | (simp; done) | (simp [*]; done)), H', ⟨by first | omega | exact Nat.le_refl _⟩, by repeat (first | exact Drawn0.refl _ | apply Drawn0.step)⟩
        · rw [if_neg c5] at H
          exact absurd H (by simp)
  case rest =>
    clear HC2
    try clear c1
    try clear p2
    try clear c3
    try clear c3b0
    try clear c3b1
    try clear c4
    try clear c4b0
    try clear c4b1
    try clear c5
    try clear c5b0
    try clear c5b1
    try clear p6
    try clear q6
    try clear hx6
    try clear qi6
    try clear p6
    try clear q6
    obtain ⟨kq, x17_1, rfl, HA, HJ1, ⟨mc1, rfl⟩⟩ := hcut
    cases kq with
    | zero => exact absurd HA.out (by simp [value_Name.j0])
    | succ kj1 =>
      have H := HA.out
      clear HA
      simp only [value_Name.j0] at H
      by_cases c8 : x17_1 = true
      · subst c8
        have H1 : (some false) = some r := by rw [if_pos rfl] at H; exact H
        clear H
        have H := H1
        clear H1
        obtain rfl := Option.some.inj H
        go_wp2
        (try (go_step3; go_wp2))
        (try rw [Exit.noGoto_ret])
        go_ret
        exact ⟨by first | rfl | (simp; done) | (simp [*]; done), by repeat (first | exact Drawn0.refl _ | apply Drawn0.step)⟩
      · replace c8 := Bool.eq_false_iff.mpr c8
        subst c8
        have H1 : (value_Name.l0 kj1 a0 true (a0.size : Int) 0) = some r := by rw [if_neg (show ¬ (false = true) by decide)] at H; exact H
        clear H
        have H := H1
        clear H1
        have H' := Aside0.mk H
        clear H
        go_wp2
        (try (go_step3; go_wp2))
        go_loopg [3, 20] kj1 (fun kq v3 v20 w' => ∃ (x3_2 : Bool) (x20_2 : Int), v3 = .bool x3_2 ∧ v20 = .int .i64 x20_2 ∧ Aside0 (value_Name.l0 kq a0 x3_2 (a0.size : Int) x20_2 = some r) ∧ Aside0 (kq ≤ kj1) ∧ Drawn0 w w')
        case atStart => exact ⟨(true), (0), (by first | rfl | (simp; done) | (simp [*]; done)), (by first | rfl | (simp; done) | (simp [*]; done)), H', ⟨Nat.le_refl _⟩, by repeat (first | exact Drawn0.refl _ | apply Drawn0.step)⟩
        case round =>
          clear H'
          try clear c1
          try clear p2
          try clear c3
          try clear c3b0
          try clear c3b1
          try clear c4
          try clear c4b0
          try clear c4b1
          try clear c5
          try clear c5b0
          try clear c5b1
          try clear p6
          try clear q6
          try clear hx6
          try clear qi6
          try clear c8
          try clear p2
          try clear p6
          try clear q6
          obtain ⟨x3_2, x20_2, rfl, rfl, HA, HK2, ⟨m2, rfl⟩⟩ := hrel
          cases gk with
          | zero => exact absurd HA.out (by simp [value_Name.l0])
          | succ k2 =>
            have H := HA.out
            clear HA
            simp only [value_Name.l0] at H
            by_cases c9 : x20_2 < (a0.size : Int)
            · rw [if_pos c9] at H
              have c9b0 : decide (x20_2 < (a0.size : Int)) = true := decide_eq_true c9
              clear c9
              by_cases c10 : 0 ≤ x20_2
              · rw [if_pos c10] at H
                have c10b0 : decide (0 ≤ x20_2) = true := decide_eq_true c10
                clear c10
                by_cases c11 : x20_2 < (a0.size : Int)
                · rw [if_pos c11] at H
                  have c11b0 : decide (x20_2 < (a0.size : Int)) = true := decide_eq_true c11
                  clear c11
                  replace H := Option.bind_eq_some_iff.mp H
                  obtain ⟨t107, A130, H⟩ := H
                  replace H : (if t107 = true then (value_Name.l0 k2 a0 t107 (a0.size : Int) (wrap64 (x20_2 + 1))) else (some t107)) = some r := H
                  have A13 := Aside0.mk A130
                  clear A130
                  by_cases c14 : t107 = true
                  · subst c14
                    have H1 : (value_Name.l0 k2 a0 true (a0.size : Int) (wrap64 (x20_2 + 1))) = some r := by rw [if_pos rfl] at H; exact H
                    clear H
                    have H := H1
                    clear H1
                    have H' := Aside0.mk H
                    clear H
                    have p12 : 0 ≤ (x20_2 : Int) := of_decide_eq_true (by first | (with_reducible assumption) | assumption)
                    have q12 : x20_2 < (a0.size : Int) := of_decide_eq_true (by first | (with_reducible assumption) | assumption)
                    have hx12 := bt_at a0 x20_2
                    replace p12 := eq_true p12
                    replace q12 := eq_true q12
                    go_wp2_with (first | ((with_reducible refine gate_callee (f := 36) rfl ?_); refine goesL_ (some 26) rfl rfl Tryd.func36 (by kernel_rfl) rfl #[.int .u8 (bt a0 x20_2)] rfl (by (try simp only [List.map_toArray, List.map_cons, List.map_nil]); first | done | rfl | (simp only [List.length_drop, List.length_take]; rfl)) ?_; (with_reducible refine (value_inner.calls (bt a0 x20_2) true _ A13.out).mono ?_); rintro e w' ⟨rfl, ⟨nd, rfl⟩⟩; refine ⟨_, rfl, ?_⟩))
                    (try (go_step3; go_wp2))
                    go_roundg k2
                    case measure => have := HJ1.out; have := HK2.out; omega
                    case rel => exact ⟨(true), (wrap64 (x20_2 + 1)), (by first | rfl | (simp; done) | (simp [*]; done)), (by first | rfl | (simp; done) | (simp [*]; done)), H', ⟨by have := HJ1.out; have := HK2.out; omega⟩, by repeat (first | exact Drawn0.refl _ | apply Drawn0.step)⟩
                  · replace c14 := Bool.eq_false_iff.mpr c14
                    subst c14
                    have H1 : (some false) = some r := by rw [if_neg (show ¬ (false = true) by decide)] at H; exact H
                    clear H
                    have H := H1
                    clear H1
                    obtain rfl := Option.some.inj H
                    have p12 : 0 ≤ (x20_2 : Int) := of_decide_eq_true (by first | (with_reducible assumption) | assumption)
                    have q12 : x20_2 < (a0.size : Int) := of_decide_eq_true (by first | (with_reducible assumption) | assumption)
                    have hx12 := bt_at a0 x20_2
                    replace p12 := eq_true p12
                    replace q12 := eq_true q12
                    go_wp2_with (first | ((with_reducible refine gate_callee (f := 36) rfl ?_); refine goesL_ (some 26) rfl rfl Tryd.func36 (by kernel_rfl) rfl #[.int .u8 (bt a0 x20_2)] rfl (by (try simp only [List.map_toArray, List.map_cons, List.map_nil]); first | done | rfl | (simp only [List.length_drop, List.length_take]; rfl)) ?_; (with_reducible refine (value_inner.calls (bt a0 x20_2) false _ A13.out).mono ?_); rintro e w' ⟨rfl, ⟨nd, rfl⟩⟩; refine ⟨_, rfl, ?_⟩))
                    (try (go_step3; go_wp2))
                    (try rw [Exit.noGoto_ret])
                    go_ret
                    exact ⟨by first | rfl | (simp; done) | (simp [*]; done), by repeat (first | exact Drawn0.refl _ | apply Drawn0.step)⟩
                · rw [if_neg c11] at H
                  exact absurd H (by simp)
              · rw [if_neg c10] at H
                exact absurd H (by simp)
            · rw [if_neg c9] at H
              have c9b0 : decide (x20_2 < (a0.size : Int)) = false := decide_eq_false c9
              clear c9
              obtain rfl := Option.some.inj H
              go_wp2
              (try (go_step3; go_wp2))
              (try rw [Exit.noGoto_ret])
              go_ret
              exact ⟨by first | rfl | (simp; done) | (simp [*]; done), by repeat (first | exact Drawn0.refl _ | apply Drawn0.step)⟩
def flo_Right.f (a0 : Int) : Option (Bool) := if a0 = 9221120237041090561 then (some true) else (if a0 ≥ (-9218868437227405313) then (some (decide (a0 ≤ 9218868437227405312))) else (some false))
set_option maxHeartbeats 8000000 in
set_option maxRecDepth 100000 in
theorem flo_Right.calls (a0 : Int) (r : Bool) (w : World) (h : flo_Right.f a0 = some r) :
    Calls Tryd.prog 40 #[.int .i64 a0] w fun e w' => e = .returned (.bool r) ∧ Drawn0 w w' := by
  have H : (if a0 = 9221120237041090561 then (some true) else (if a0 ≥ (-9218868437227405313) then (some (decide (a0 ≤ 9218868437227405312))) else (some false))) = some r := h
  clear h
  by_cases c2 : a0 = 9221120237041090561
  · rw [if_pos c2] at H
    have c2b0 : (a0 == 9221120237041090561) = true := beq_iff_eq.mpr c2
    have c2b1 : (a0 != 9221120237041090561) = false := bne_eq_false_iff_eq.mpr c2
    clear c2
    obtain rfl := Option.some.inj H
    go_enter Tryd.func40, Tryd.ntmps40
    go_wp2
    go_ret
    exact ⟨by first | rfl | (simp; done) | (simp [*]; done), by repeat (first | exact Drawn0.refl _ | apply Drawn0.step)⟩
  · rw [if_neg c2] at H
    have c2b0 : (a0 == 9221120237041090561) = false := beq_eq_false_iff_ne.mpr c2
    have c2b1 : (a0 != 9221120237041090561) = true := bne_iff_ne.mpr c2
    by_cases c3 : a0 ≥ (-9218868437227405313)
    · rw [if_pos c3] at H
      have c3b0 : decide ((-9218868437227405313) ≤ a0) = true := decide_eq_true c3
      clear c3
      obtain rfl := Option.some.inj H
      go_enter Tryd.func40, Tryd.ntmps40
      go_wp2
      go_ret
      exact ⟨by first | rfl | (simp; done) | (simp [*]; done), by repeat (first | exact Drawn0.refl _ | apply Drawn0.step)⟩
    · rw [if_neg c3] at H
      have c3b0 : decide ((-9218868437227405313) ≤ a0) = false := decide_eq_false c3
      clear c3
      obtain rfl := Option.some.inj H
      go_enter Tryd.func40, Tryd.ntmps40
      go_wp2
      go_ret
      exact ⟨by first | rfl | (simp; done) | (simp [*]; done), by repeat (first | exact Drawn0.refl _ | apply Drawn0.step)⟩
def value_Right.f (k : Nat) (a0_0 : Int) (a0_1 : Int) (a0_2 : ByteArray) : Option (Bool) := if a0_0 = 1 then (some (a0_2.toList == ([] : List UInt8))) else (if a0_0 = 2 then (if a0_2.toList = ([] : List UInt8) then ((flo_Right.f a0_1).bind fun t109 => (some t109)) else (some false)) else (if a0_0 = 3 then (if a0_1 = 0 then ((value_Name.f k a0_2).bind fun t110 => (some t110)) else (some false)) else (some false)))
set_option maxHeartbeats 8000000 in
set_option maxRecDepth 100000 in
theorem value_Right.calls (k : Nat) (a0_0 : Int) (a0_1 : Int) (a0_2 : ByteArray) (r : Bool) (w : World) (h : value_Right.f k a0_0 a0_1 a0_2 = some r) :
    Calls Tryd.prog 21 #[.agg #[.int .i64 a0_0, .int .i64 a0_1, .string a0_2]] w fun e w' => e = .returned (.bool r) ∧ Below w.heap.size w w' := by
  have hu36 := Tryd.underlying36
  have HB := Aside0.mk (Below.refl w.heap.size w)
  have H : (if a0_0 = 1 then (some (a0_2.toList == ([] : List UInt8))) else (if a0_0 = 2 then (if a0_2.toList = ([] : List UInt8) then ((flo_Right.f a0_1).bind fun t109 => (some t109)) else (some false)) else (if a0_0 = 3 then (if a0_1 = 0 then ((value_Name.f k a0_2).bind fun t110 => (some t110)) else (some false)) else (some false)))) = some r := h
  clear h
  by_cases c2 : a0_0 = 1
  · rw [if_pos c2] at H
    have c2b0 : (a0_0 == 1) = true := beq_iff_eq.mpr c2
    have c2b1 : (a0_0 != 1) = false := bne_eq_false_iff_eq.mpr c2
    clear c2
    obtain rfl := Option.some.inj H
    go_enter Tryd.func21, Tryd.ntmps21
    go_wp2_with (first | ((with_reducible refine gate_dst (N := 1) rfl ?_); refine box_event ?hg (N := 1) ?hd (cs := #[.int .i64 a0_0, .int .i64 a0_1, .string a0_2]) (t := 36) ?hr ?_; (case hd => rfl); (case hg => rfl); (case hr => first | (go_simp; done) | (go_simp; rfl)); intro gb108 hg w3 hbox hb; have n0_ := Aside0.mk (below_step (by repeat (first | (with_reducible first | exact HB.out | apply below_alloc | apply pw_below_drewN | apply below_drew1) | exact HB.out)) hb); have n1_ := Aside0.mk (hbox); have n2_ := Aside0.mk ((by rw [hg]; exact (below_size (by repeat (first | (with_reducible first | exact HB.out | apply below_alloc | apply pw_below_drewN | apply below_drew1) | exact HB.out))) : w.heap.size ≤ gb108)); have n3_ := Aside0.mk ((by rw [hg]; exact (below_size (by repeat (first | (with_reducible first | exact HB.out | apply below_alloc | apply pw_below_drewN | apply below_drew1) | exact HB.out))) : w.heap.size ≤ gb108)); clear HB; have HB := n0_; have BK108 := n1_; have GW108 := n2_; have GE108 := n3_; clear n0_ n1_ n2_ n3_; clear hb hbox hg; have hcz4_0 : w3.cell? ⟨gb108, 0, none⟩ = some (.int .i64 a0_0) := (blk_cell BK108.out 0).trans rfl; have hcz4_1 : w3.cell? ⟨gb108, 1, none⟩ = some (.int .i64 a0_1) := (blk_cell BK108.out 1).trans rfl; have hcz4_2 : w3.cell? ⟨gb108, 2, none⟩ = some (.string a0_2) := (blk_cell BK108.out 2).trans rfl; have hfz4_0 := blk_frozen BK108.out 0; have hfz4_1 := blk_frozen BK108.out 1; have hfz4_2 := blk_frozen BK108.out 2))
    go_ret
    exact ⟨by first | rfl | (simp [errW_none, errW_some] <;> rfl) | (simp [*, errW_none, errW_some] <;> rfl), by repeat (first | (with_reducible first | exact HB.out | apply below_alloc | apply pw_below_drewN | apply below_drew1 | refine below_set ?_ GE108.out) | exact HB.out)⟩
  · rw [if_neg c2] at H
    have c2b0 : (a0_0 == 1) = false := beq_eq_false_iff_ne.mpr c2
    have c2b1 : (a0_0 != 1) = true := bne_iff_ne.mpr c2
    by_cases c5 : a0_0 = 2
    · rw [if_pos c5] at H
      have c5b0 : (a0_0 == 2) = true := beq_iff_eq.mpr c5
      have c5b1 : (a0_0 != 2) = false := bne_eq_false_iff_eq.mpr c5
      clear c5
      by_cases c6 : a0_2.toList = ([] : List UInt8)
      · rw [if_pos c6] at H
        have c6b0 : (a0_2.toList == ([] : List UInt8)) = true := beq_iff_eq.mpr c6
        have c6b1 : (a0_2.toList != ([] : List UInt8)) = false := bne_eq_false_iff_eq.mpr c6
        clear c6
        replace H := Option.bind_eq_some_iff.mp H
        obtain ⟨t109, A70, H⟩ := H
        replace H : (some t109) = some r := H
        have A7 := Aside0.mk A70
        clear A70
        obtain rfl := Option.some.inj H
        go_enter Tryd.func21, Tryd.ntmps21
        go_wp2_with (first | ((with_reducible refine gate_dst (N := 1) rfl ?_); refine box_event ?hg (N := 1) ?hd (cs := #[.int .i64 a0_0, .int .i64 a0_1, .string a0_2]) (t := 36) ?hr ?_; (case hd => rfl); (case hg => rfl); (case hr => first | (go_simp; done) | (go_simp; rfl)); intro gb108 hg w8 hbox hb; have n0_ := Aside0.mk (below_step (by repeat (first | (with_reducible first | exact HB.out | apply below_alloc | apply pw_below_drewN | apply below_drew1) | exact HB.out)) hb); have n1_ := Aside0.mk (hbox); have n2_ := Aside0.mk ((by rw [hg]; exact (below_size (by repeat (first | (with_reducible first | exact HB.out | apply below_alloc | apply pw_below_drewN | apply below_drew1) | exact HB.out))) : w.heap.size ≤ gb108)); have n3_ := Aside0.mk ((by rw [hg]; exact (below_size (by repeat (first | (with_reducible first | exact HB.out | apply below_alloc | apply pw_below_drewN | apply below_drew1) | exact HB.out))) : w.heap.size ≤ gb108)); clear HB; have HB := n0_; have BK108 := n1_; have GW108 := n2_; have GE108 := n3_; clear n0_ n1_ n2_ n3_; clear hb hbox hg; have hcz9_0 : w8.cell? ⟨gb108, 0, none⟩ = some (.int .i64 a0_0) := (blk_cell BK108.out 0).trans rfl; have hcz9_1 : w8.cell? ⟨gb108, 1, none⟩ = some (.int .i64 a0_1) := (blk_cell BK108.out 1).trans rfl; have hcz9_2 : w8.cell? ⟨gb108, 2, none⟩ = some (.string a0_2) := (blk_cell BK108.out 2).trans rfl; have hfz9_0 := blk_frozen BK108.out 0; have hfz9_1 := blk_frozen BK108.out 1; have hfz9_2 := blk_frozen BK108.out 2) | (go_at_call 40; (with_reducible refine (flo_Right.calls a0_1 t109 _ A7.out).mono ?_); rintro e w' ⟨rfl, ⟨nd, rfl⟩⟩))
        go_ret
        exact ⟨by first | rfl | (simp [errW_none, errW_some] <;> rfl) | (simp [*, errW_none, errW_some] <;> rfl), by repeat (first | (with_reducible first | exact HB.out | apply below_alloc | apply pw_below_drewN | apply below_drew1 | refine below_set ?_ GE108.out) | exact HB.out)⟩
      · rw [if_neg c6] at H
        have c6b0 : (a0_2.toList == ([] : List UInt8)) = false := beq_eq_false_iff_ne.mpr c6
        have c6b1 : (a0_2.toList != ([] : List UInt8)) = true := bne_iff_ne.mpr c6
        obtain rfl := Option.some.inj H
        go_enter Tryd.func21, Tryd.ntmps21
        go_wp2_with (first | ((with_reducible refine gate_dst (N := 1) rfl ?_); refine box_event ?hg (N := 1) ?hd (cs := #[.int .i64 a0_0, .int .i64 a0_1, .string a0_2]) (t := 36) ?hr ?_; (case hd => rfl); (case hg => rfl); (case hr => first | (go_simp; done) | (go_simp; rfl)); intro gb108 hg w10 hbox hb; have n0_ := Aside0.mk (below_step (by repeat (first | (with_reducible first | exact HB.out | apply below_alloc | apply pw_below_drewN | apply below_drew1) | exact HB.out)) hb); have n1_ := Aside0.mk (hbox); have n2_ := Aside0.mk ((by rw [hg]; exact (below_size (by repeat (first | (with_reducible first | exact HB.out | apply below_alloc | apply pw_below_drewN | apply below_drew1) | exact HB.out))) : w.heap.size ≤ gb108)); have n3_ := Aside0.mk ((by rw [hg]; exact (below_size (by repeat (first | (with_reducible first | exact HB.out | apply below_alloc | apply pw_below_drewN | apply below_drew1) | exact HB.out))) : w.heap.size ≤ gb108)); clear HB; have HB := n0_; have BK108 := n1_; have GW108 := n2_; have GE108 := n3_; clear n0_ n1_ n2_ n3_; clear hb hbox hg; have hcz11_0 : w10.cell? ⟨gb108, 0, none⟩ = some (.int .i64 a0_0) := (blk_cell BK108.out 0).trans rfl; have hcz11_1 : w10.cell? ⟨gb108, 1, none⟩ = some (.int .i64 a0_1) := (blk_cell BK108.out 1).trans rfl; have hcz11_2 : w10.cell? ⟨gb108, 2, none⟩ = some (.string a0_2) := (blk_cell BK108.out 2).trans rfl; have hfz11_0 := blk_frozen BK108.out 0; have hfz11_1 := blk_frozen BK108.out 1; have hfz11_2 := blk_frozen BK108.out 2))
        go_ret
        exact ⟨by first | rfl | (simp [errW_none, errW_some] <;> rfl) | (simp [*, errW_none, errW_some] <;> rfl), by repeat (first | (with_reducible first | exact HB.out | apply below_alloc | apply pw_below_drewN | apply below_drew1 | refine below_set ?_ GE108.out) | exact HB.out)⟩
    · rw [if_neg c5] at H
      have c5b0 : (a0_0 == 2) = false := beq_eq_false_iff_ne.mpr c5
      have c5b1 : (a0_0 != 2) = true := bne_iff_ne.mpr c5
      by_cases c12 : a0_0 = 3
      · rw [if_pos c12] at H
        have c12b0 : (a0_0 == 3) = true := beq_iff_eq.mpr c12
        have c12b1 : (a0_0 != 3) = false := bne_eq_false_iff_eq.mpr c12
        clear c12
        by_cases c13 : a0_1 = 0
        · rw [if_pos c13] at H
          have c13b0 : (a0_1 == 0) = true := beq_iff_eq.mpr c13
          have c13b1 : (a0_1 != 0) = false := bne_eq_false_iff_eq.mpr c13
          clear c13
          replace H := Option.bind_eq_some_iff.mp H
          obtain ⟨t110, A140, H⟩ := H
          replace H : (some t110) = some r := H
          have A14 := Aside0.mk A140
          clear A140
          obtain rfl := Option.some.inj H
          go_enter Tryd.func21, Tryd.ntmps21
          go_wp2_with (first | ((with_reducible refine gate_dst (N := 1) rfl ?_); refine box_event ?hg (N := 1) ?hd (cs := #[.int .i64 a0_0, .int .i64 a0_1, .string a0_2]) (t := 36) ?hr ?_; (case hd => rfl); (case hg => rfl); (case hr => first | (go_simp; done) | (go_simp; rfl)); intro gb108 hg w15 hbox hb; have n0_ := Aside0.mk (below_step (by repeat (first | (with_reducible first | exact HB.out | apply below_alloc | apply pw_below_drewN | apply below_drew1) | exact HB.out)) hb); have n1_ := Aside0.mk (hbox); have n2_ := Aside0.mk ((by rw [hg]; exact (below_size (by repeat (first | (with_reducible first | exact HB.out | apply below_alloc | apply pw_below_drewN | apply below_drew1) | exact HB.out))) : w.heap.size ≤ gb108)); have n3_ := Aside0.mk ((by rw [hg]; exact (below_size (by repeat (first | (with_reducible first | exact HB.out | apply below_alloc | apply pw_below_drewN | apply below_drew1) | exact HB.out))) : w.heap.size ≤ gb108)); clear HB; have HB := n0_; have BK108 := n1_; have GW108 := n2_; have GE108 := n3_; clear n0_ n1_ n2_ n3_; clear hb hbox hg; have hcz16_0 : w15.cell? ⟨gb108, 0, none⟩ = some (.int .i64 a0_0) := (blk_cell BK108.out 0).trans rfl; have hcz16_1 : w15.cell? ⟨gb108, 1, none⟩ = some (.int .i64 a0_1) := (blk_cell BK108.out 1).trans rfl; have hcz16_2 : w15.cell? ⟨gb108, 2, none⟩ = some (.string a0_2) := (blk_cell BK108.out 2).trans rfl; have hfz16_0 := blk_frozen BK108.out 0; have hfz16_1 := blk_frozen BK108.out 1; have hfz16_2 := blk_frozen BK108.out 2) | (go_at_call 19; (with_reducible refine (value_Name.calls k a0_2 t110 _ A14.out).mono ?_); rintro e w' ⟨rfl, ⟨nd, rfl⟩⟩))
          go_ret
          exact ⟨by first | rfl | (simp [errW_none, errW_some] <;> rfl) | (simp [*, errW_none, errW_some] <;> rfl), by repeat (first | (with_reducible first | exact HB.out | apply below_alloc | apply pw_below_drewN | apply below_drew1 | refine below_set ?_ GE108.out) | exact HB.out)⟩
        · rw [if_neg c13] at H
          have c13b0 : (a0_1 == 0) = false := beq_eq_false_iff_ne.mpr c13
          have c13b1 : (a0_1 != 0) = true := bne_iff_ne.mpr c13
          obtain rfl := Option.some.inj H
          go_enter Tryd.func21, Tryd.ntmps21
          go_wp2_with (first | ((with_reducible refine gate_dst (N := 1) rfl ?_); refine box_event ?hg (N := 1) ?hd (cs := #[.int .i64 a0_0, .int .i64 a0_1, .string a0_2]) (t := 36) ?hr ?_; (case hd => rfl); (case hg => rfl); (case hr => first | (go_simp; done) | (go_simp; rfl)); intro gb108 hg w17 hbox hb; have n0_ := Aside0.mk (below_step (by repeat (first | (with_reducible first | exact HB.out | apply below_alloc | apply pw_below_drewN | apply below_drew1) | exact HB.out)) hb); have n1_ := Aside0.mk (hbox); have n2_ := Aside0.mk ((by rw [hg]; exact (below_size (by repeat (first | (with_reducible first | exact HB.out | apply below_alloc | apply pw_below_drewN | apply below_drew1) | exact HB.out))) : w.heap.size ≤ gb108)); have n3_ := Aside0.mk ((by rw [hg]; exact (below_size (by repeat (first | (with_reducible first | exact HB.out | apply below_alloc | apply pw_below_drewN | apply below_drew1) | exact HB.out))) : w.heap.size ≤ gb108)); clear HB; have HB := n0_; have BK108 := n1_; have GW108 := n2_; have GE108 := n3_; clear n0_ n1_ n2_ n3_; clear hb hbox hg; have hcz18_0 : w17.cell? ⟨gb108, 0, none⟩ = some (.int .i64 a0_0) := (blk_cell BK108.out 0).trans rfl; have hcz18_1 : w17.cell? ⟨gb108, 1, none⟩ = some (.int .i64 a0_1) := (blk_cell BK108.out 1).trans rfl; have hcz18_2 : w17.cell? ⟨gb108, 2, none⟩ = some (.string a0_2) := (blk_cell BK108.out 2).trans rfl; have hfz18_0 := blk_frozen BK108.out 0; have hfz18_1 := blk_frozen BK108.out 1; have hfz18_2 := blk_frozen BK108.out 2))
          go_ret
          exact ⟨by first | rfl | (simp [errW_none, errW_some] <;> rfl) | (simp [*, errW_none, errW_some] <;> rfl), by repeat (first | (with_reducible first | exact HB.out | apply below_alloc | apply pw_below_drewN | apply below_drew1 | refine below_set ?_ GE108.out) | exact HB.out)⟩
      · rw [if_neg c12] at H
        have c12b0 : (a0_0 == 3) = false := beq_eq_false_iff_ne.mpr c12
        have c12b1 : (a0_0 != 3) = true := bne_iff_ne.mpr c12
        obtain rfl := Option.some.inj H
        go_enter Tryd.func21, Tryd.ntmps21
        go_wp2_with (first | ((with_reducible refine gate_dst (N := 1) rfl ?_); refine box_event ?hg (N := 1) ?hd (cs := #[.int .i64 a0_0, .int .i64 a0_1, .string a0_2]) (t := 36) ?hr ?_; (case hd => rfl); (case hg => rfl); (case hr => first | (go_simp; done) | (go_simp; rfl)); intro gb108 hg w19 hbox hb; have n0_ := Aside0.mk (below_step (by repeat (first | (with_reducible first | exact HB.out | apply below_alloc | apply pw_below_drewN | apply below_drew1) | exact HB.out)) hb); have n1_ := Aside0.mk (hbox); have n2_ := Aside0.mk ((by rw [hg]; exact (below_size (by repeat (first | (with_reducible first | exact HB.out | apply below_alloc | apply pw_below_drewN | apply below_drew1) | exact HB.out))) : w.heap.size ≤ gb108)); have n3_ := Aside0.mk ((by rw [hg]; exact (below_size (by repeat (first | (with_reducible first | exact HB.out | apply below_alloc | apply pw_below_drewN | apply below_drew1) | exact HB.out))) : w.heap.size ≤ gb108)); clear HB; have HB := n0_; have BK108 := n1_; have GW108 := n2_; have GE108 := n3_; clear n0_ n1_ n2_ n3_; clear hb hbox hg; have hcz20_0 : w19.cell? ⟨gb108, 0, none⟩ = some (.int .i64 a0_0) := (blk_cell BK108.out 0).trans rfl; have hcz20_1 : w19.cell? ⟨gb108, 1, none⟩ = some (.int .i64 a0_1) := (blk_cell BK108.out 1).trans rfl; have hcz20_2 : w19.cell? ⟨gb108, 2, none⟩ = some (.string a0_2) := (blk_cell BK108.out 2).trans rfl; have hfz20_0 := blk_frozen BK108.out 0; have hfz20_1 := blk_frozen BK108.out 1; have hfz20_2 := blk_frozen BK108.out 2))
        go_ret
        exact ⟨by first | rfl | (simp [errW_none, errW_some] <;> rfl) | (simp [*, errW_none, errW_some] <;> rfl), by repeat (first | (with_reducible first | exact HB.out | apply below_alloc | apply pw_below_drewN | apply below_drew1 | refine below_set ?_ GE108.out) | exact HB.out)⟩
def stringslite_HasPrefix.f (a0 : ByteArray) (a1 : ByteArray) : Option (Bool) := if (a0.size : Int) ≥ (a1.size : Int) then (if 0 ≤ (a1.size : Int) then (if (a1.size : Int) ≤ (a0.size : Int) then (some ((a0.extract 0 ((a1.size : Int) : Int).toNat).toList == a1.toList)) else (none)) else (none)) else (some false)
set_option maxHeartbeats 8000000 in
set_option maxRecDepth 100000 in
theorem stringslite_HasPrefix.calls (a0 : ByteArray) (a1 : ByteArray) (r : Bool) (w : World) (h : stringslite_HasPrefix.f a0 a1 = some r) :
    Calls Tryd.prog 76 #[.string a0, .string a1] w fun e w' => e = .returned (.bool r) ∧ Drawn0 w w' := by
  have H : (if (a0.size : Int) ≥ (a1.size : Int) then (if 0 ≤ (a1.size : Int) then (if (a1.size : Int) ≤ (a0.size : Int) then (some ((a0.extract 0 ((a1.size : Int) : Int).toNat).toList == a1.toList)) else (none)) else (none)) else (some false)) = some r := h
  clear h
  by_cases c3 : (a0.size : Int) ≥ (a1.size : Int)
  · rw [if_pos c3] at H
    have c3b0 : decide ((a1.size : Int) ≤ (a0.size : Int)) = true := decide_eq_true c3
    have c3b1 : decide (a1.size ≤ a0.size) = true := decide_eq_true (Int.ofNat_le.mp c3)
    clear c3
    by_cases c4 : 0 ≤ (a1.size : Int)
    · rw [if_pos c4] at H
      have c4b0 := eq_true c4
      have c4b1 : decide (0 ≤ (a1.size : Int)) = true := decide_eq_true c4
      clear c4
      by_cases c5 : (a1.size : Int) ≤ (a0.size : Int)
      · rw [if_pos c5] at H
        have c5b0 := eq_true c5
        have c5b1 : decide ((a1.size : Int) ≤ (a0.size : Int)) = true := decide_eq_true c5
        clear c5
        obtain rfl := Option.some.inj H
        go_enter Tryd.func76, Tryd.ntmps76
        go_wp2
        go_ret
        exact ⟨by first | rfl | (simp; done) | (simp [*]; done), by repeat (first | exact Drawn0.refl _ | apply Drawn0.step)⟩
      · rw [if_neg c5] at H
        exact absurd H (by simp)
    · rw [if_neg c4] at H
      exact absurd H (by simp)
  · rw [if_neg c3] at H
    have c3b0 : decide ((a1.size : Int) ≤ (a0.size : Int)) = false := decide_eq_false c3
    have c3b1 : decide (a1.size ≤ a0.size) = false := decide_eq_false (fun h => c3 (Int.ofNat_le.mpr h))
    clear c3
    obtain rfl := Option.some.inj H
    go_enter Tryd.func76, Tryd.ntmps76
    go_wp2
    go_ret
    exact ⟨by first | rfl | (simp; done) | (simp [*]; done), by repeat (first | exact Drawn0.refl _ | apply Drawn0.step)⟩
def strings_HasPrefix.f (a0 : ByteArray) (a1 : ByteArray) : Option (Bool) := (stringslite_HasPrefix.f a0 a1).bind fun t111 => (some t111)
set_option maxHeartbeats 8000000 in
set_option maxRecDepth 100000 in
theorem strings_HasPrefix.calls (a0 : ByteArray) (a1 : ByteArray) (r : Bool) (w : World) (h : strings_HasPrefix.f a0 a1 = some r) :
    Calls Tryd.prog 53 #[.string a0, .string a1] w fun e w' => e = .returned (.bool r) ∧ Drawn0 w w' := by
  have H : ((stringslite_HasPrefix.f a0 a1).bind fun t111 => (some t111)) = some r := h
  clear h
  replace H := Option.bind_eq_some_iff.mp H
  obtain ⟨t111, A30, H⟩ := H
  replace H : (some t111) = some r := H
  have A3 := Aside0.mk A30
  clear A30
  obtain rfl := Option.some.inj H
  go_enter Tryd.func53, Tryd.ntmps53
  go_wp2_with (first | ((with_reducible refine gate_callee (f := 76) rfl ?_); refine goesL_ (some 7) rfl rfl Tryd.func76 (by kernel_rfl) rfl #[.string a0, .string a1] rfl (by (try simp only [List.map_toArray, List.map_cons, List.map_nil]); first | done | rfl | (simp only [List.length_drop, List.length_take]; rfl)) ?_; (with_reducible refine (stringslite_HasPrefix.calls a0 a1 t111 _ A3.out).mono ?_); rintro e w' ⟨rfl, ⟨nd, rfl⟩⟩; refine ⟨_, rfl, ?_⟩))
  go_ret
  exact ⟨by first | rfl | (simp; done) | (simp [*]; done), by repeat (first | exact Drawn0.refl _ | apply Drawn0.step)⟩
def lex_Key.f (a0 : ByteArray) : Option (Bool) := if a0.toList = ([110, 111, 116] : List UInt8) then (some true) else (if a0.toList = ([105, 115] : List UInt8) then (some true) else (if a0.toList = ([112, 108, 117, 115] : List UInt8) then (some true) else (if a0.toList = ([109, 105, 110, 117, 115] : List UInt8) then (some true) else (if a0.toList = ([116, 105, 109, 101, 115] : List UInt8) then (some true) else (if a0.toList = ([119, 97, 108, 107] : List UInt8) then (some true) else (if a0.toList = ([99, 111, 117, 110, 116] : List UInt8) then (some true) else (if a0.toList = ([115, 117, 109] : List UInt8) then (some true) else (if a0.toList = ([109, 105, 110] : List UInt8) then (some true) else (if a0.toList = ([109, 97, 120] : List UInt8) then (some true) else (if a0.toList = ([109, 101, 97, 110] : List UInt8) then (some true) else (some false)))))))))))
set_option maxHeartbeats 8000000 in
set_option maxRecDepth 100000 in
theorem lex_Key.calls (a0 : ByteArray) (r : Bool) (w : World) (h : lex_Key.f a0 = some r) :
    Calls Tryd.prog 16 #[.string a0] w fun e w' => e = .returned (.bool r) ∧ Drawn0 w w' := by
  have H : (if a0.toList = ([110, 111, 116] : List UInt8) then (some true) else (if a0.toList = ([105, 115] : List UInt8) then (some true) else (if a0.toList = ([112, 108, 117, 115] : List UInt8) then (some true) else (if a0.toList = ([109, 105, 110, 117, 115] : List UInt8) then (some true) else (if a0.toList = ([116, 105, 109, 101, 115] : List UInt8) then (some true) else (if a0.toList = ([119, 97, 108, 107] : List UInt8) then (some true) else (if a0.toList = ([99, 111, 117, 110, 116] : List UInt8) then (some true) else (if a0.toList = ([115, 117, 109] : List UInt8) then (some true) else (if a0.toList = ([109, 105, 110] : List UInt8) then (some true) else (if a0.toList = ([109, 97, 120] : List UInt8) then (some true) else (if a0.toList = ([109, 101, 97, 110] : List UInt8) then (some true) else (some false)))))))))))) = some r := h
  clear h
  by_cases c2 : a0.toList = ([110, 111, 116] : List UInt8)
  · rw [if_pos c2] at H
    have c2b0 : (a0.toList == ([110, 111, 116] : List UInt8)) = true := beq_iff_eq.mpr c2
    have c2b1 : (a0.toList != ([110, 111, 116] : List UInt8)) = false := bne_eq_false_iff_eq.mpr c2
    clear c2
    obtain rfl := Option.some.inj H
    go_enter Tryd.func16, Tryd.ntmps16
    go_wp2
    go_ret
    exact ⟨by first | rfl | (simp; done) | (simp [*]; done), by repeat (first | exact Drawn0.refl _ | apply Drawn0.step)⟩
  · rw [if_neg c2] at H
    have c2b0 : (a0.toList == ([110, 111, 116] : List UInt8)) = false := beq_eq_false_iff_ne.mpr c2
    have c2b1 : (a0.toList != ([110, 111, 116] : List UInt8)) = true := bne_iff_ne.mpr c2
    by_cases c3 : a0.toList = ([105, 115] : List UInt8)
    · rw [if_pos c3] at H
      have c3b0 : (a0.toList == ([105, 115] : List UInt8)) = true := beq_iff_eq.mpr c3
      have c3b1 : (a0.toList != ([105, 115] : List UInt8)) = false := bne_eq_false_iff_eq.mpr c3
      clear c3
      obtain rfl := Option.some.inj H
      go_enter Tryd.func16, Tryd.ntmps16
      go_wp2
      go_ret
      exact ⟨by first | rfl | (simp; done) | (simp [*]; done), by repeat (first | exact Drawn0.refl _ | apply Drawn0.step)⟩
    · rw [if_neg c3] at H
      have c3b0 : (a0.toList == ([105, 115] : List UInt8)) = false := beq_eq_false_iff_ne.mpr c3
      have c3b1 : (a0.toList != ([105, 115] : List UInt8)) = true := bne_iff_ne.mpr c3
      by_cases c4 : a0.toList = ([112, 108, 117, 115] : List UInt8)
      · rw [if_pos c4] at H
        have c4b0 : (a0.toList == ([112, 108, 117, 115] : List UInt8)) = true := beq_iff_eq.mpr c4
        have c4b1 : (a0.toList != ([112, 108, 117, 115] : List UInt8)) = false := bne_eq_false_iff_eq.mpr c4
        clear c4
        obtain rfl := Option.some.inj H
        go_enter Tryd.func16, Tryd.ntmps16
        go_wp2
        go_ret
        exact ⟨by first | rfl | (simp; done) | (simp [*]; done), by repeat (first | exact Drawn0.refl _ | apply Drawn0.step)⟩
      · rw [if_neg c4] at H
        have c4b0 : (a0.toList == ([112, 108, 117, 115] : List UInt8)) = false := beq_eq_false_iff_ne.mpr c4
        have c4b1 : (a0.toList != ([112, 108, 117, 115] : List UInt8)) = true := bne_iff_ne.mpr c4
        by_cases c5 : a0.toList = ([109, 105, 110, 117, 115] : List UInt8)
        · rw [if_pos c5] at H
          have c5b0 : (a0.toList == ([109, 105, 110, 117, 115] : List UInt8)) = true := beq_iff_eq.mpr c5
          have c5b1 : (a0.toList != ([109, 105, 110, 117, 115] : List UInt8)) = false := bne_eq_false_iff_eq.mpr c5
          clear c5
          obtain rfl := Option.some.inj H
          go_enter Tryd.func16, Tryd.ntmps16
          go_wp2
          go_ret
          exact ⟨by first | rfl | (simp; done) | (simp [*]; done), by repeat (first | exact Drawn0.refl _ | apply Drawn0.step)⟩
        · rw [if_neg c5] at H
          have c5b0 : (a0.toList == ([109, 105, 110, 117, 115] : List UInt8)) = false := beq_eq_false_iff_ne.mpr c5
          have c5b1 : (a0.toList != ([109, 105, 110, 117, 115] : List UInt8)) = true := bne_iff_ne.mpr c5
          by_cases c6 : a0.toList = ([116, 105, 109, 101, 115] : List UInt8)
          · rw [if_pos c6] at H
            have c6b0 : (a0.toList == ([116, 105, 109, 101, 115] : List UInt8)) = true := beq_iff_eq.mpr c6
            have c6b1 : (a0.toList != ([116, 105, 109, 101, 115] : List UInt8)) = false := bne_eq_false_iff_eq.mpr c6
            clear c6
            obtain rfl := Option.some.inj H
            go_enter Tryd.func16, Tryd.ntmps16
            go_wp2
            go_ret
            exact ⟨by first | rfl | (simp; done) | (simp [*]; done), by repeat (first | exact Drawn0.refl _ | apply Drawn0.step)⟩
          · rw [if_neg c6] at H
            have c6b0 : (a0.toList == ([116, 105, 109, 101, 115] : List UInt8)) = false := beq_eq_false_iff_ne.mpr c6
            have c6b1 : (a0.toList != ([116, 105, 109, 101, 115] : List UInt8)) = true := bne_iff_ne.mpr c6
            by_cases c7 : a0.toList = ([119, 97, 108, 107] : List UInt8)
            · rw [if_pos c7] at H
              have c7b0 : (a0.toList == ([119, 97, 108, 107] : List UInt8)) = true := beq_iff_eq.mpr c7
              have c7b1 : (a0.toList != ([119, 97, 108, 107] : List UInt8)) = false := bne_eq_false_iff_eq.mpr c7
              clear c7
              obtain rfl := Option.some.inj H
              go_enter Tryd.func16, Tryd.ntmps16
              go_wp2
              go_ret
              exact ⟨by first | rfl | (simp; done) | (simp [*]; done), by repeat (first | exact Drawn0.refl _ | apply Drawn0.step)⟩
            · rw [if_neg c7] at H
              have c7b0 : (a0.toList == ([119, 97, 108, 107] : List UInt8)) = false := beq_eq_false_iff_ne.mpr c7
              have c7b1 : (a0.toList != ([119, 97, 108, 107] : List UInt8)) = true := bne_iff_ne.mpr c7
              by_cases c8 : a0.toList = ([99, 111, 117, 110, 116] : List UInt8)
              · rw [if_pos c8] at H
                have c8b0 : (a0.toList == ([99, 111, 117, 110, 116] : List UInt8)) = true := beq_iff_eq.mpr c8
                have c8b1 : (a0.toList != ([99, 111, 117, 110, 116] : List UInt8)) = false := bne_eq_false_iff_eq.mpr c8
                clear c8
                obtain rfl := Option.some.inj H
                go_enter Tryd.func16, Tryd.ntmps16
                go_wp2
                go_ret
                exact ⟨by first | rfl | (simp; done) | (simp [*]; done), by repeat (first | exact Drawn0.refl _ | apply Drawn0.step)⟩
              · rw [if_neg c8] at H
                have c8b0 : (a0.toList == ([99, 111, 117, 110, 116] : List UInt8)) = false := beq_eq_false_iff_ne.mpr c8
                have c8b1 : (a0.toList != ([99, 111, 117, 110, 116] : List UInt8)) = true := bne_iff_ne.mpr c8
                by_cases c9 : a0.toList = ([115, 117, 109] : List UInt8)
                · rw [if_pos c9] at H
                  have c9b0 : (a0.toList == ([115, 117, 109] : List UInt8)) = true := beq_iff_eq.mpr c9
                  have c9b1 : (a0.toList != ([115, 117, 109] : List UInt8)) = false := bne_eq_false_iff_eq.mpr c9
                  clear c9
                  obtain rfl := Option.some.inj H
                  go_enter Tryd.func16, Tryd.ntmps16
                  go_wp2
                  go_ret
                  exact ⟨by first | rfl | (simp; done) | (simp [*]; done), by repeat (first | exact Drawn0.refl _ | apply Drawn0.step)⟩
                · rw [if_neg c9] at H
                  have c9b0 : (a0.toList == ([115, 117, 109] : List UInt8)) = false := beq_eq_false_iff_ne.mpr c9
                  have c9b1 : (a0.toList != ([115, 117, 109] : List UInt8)) = true := bne_iff_ne.mpr c9
                  by_cases c10 : a0.toList = ([109, 105, 110] : List UInt8)
                  · rw [if_pos c10] at H
                    have c10b0 : (a0.toList == ([109, 105, 110] : List UInt8)) = true := beq_iff_eq.mpr c10
                    have c10b1 : (a0.toList != ([109, 105, 110] : List UInt8)) = false := bne_eq_false_iff_eq.mpr c10
                    clear c10
                    obtain rfl := Option.some.inj H
                    go_enter Tryd.func16, Tryd.ntmps16
                    go_wp2
                    go_ret
                    exact ⟨by first | rfl | (simp; done) | (simp [*]; done), by repeat (first | exact Drawn0.refl _ | apply Drawn0.step)⟩
                  · rw [if_neg c10] at H
                    have c10b0 : (a0.toList == ([109, 105, 110] : List UInt8)) = false := beq_eq_false_iff_ne.mpr c10
                    have c10b1 : (a0.toList != ([109, 105, 110] : List UInt8)) = true := bne_iff_ne.mpr c10
                    by_cases c11 : a0.toList = ([109, 97, 120] : List UInt8)
                    · rw [if_pos c11] at H
                      have c11b0 : (a0.toList == ([109, 97, 120] : List UInt8)) = true := beq_iff_eq.mpr c11
                      have c11b1 : (a0.toList != ([109, 97, 120] : List UInt8)) = false := bne_eq_false_iff_eq.mpr c11
                      clear c11
                      obtain rfl := Option.some.inj H
                      go_enter Tryd.func16, Tryd.ntmps16
                      go_wp2
                      go_ret
                      exact ⟨by first | rfl | (simp; done) | (simp [*]; done), by repeat (first | exact Drawn0.refl _ | apply Drawn0.step)⟩
                    · rw [if_neg c11] at H
                      have c11b0 : (a0.toList == ([109, 97, 120] : List UInt8)) = false := beq_eq_false_iff_ne.mpr c11
                      have c11b1 : (a0.toList != ([109, 97, 120] : List UInt8)) = true := bne_iff_ne.mpr c11
                      by_cases c12 : a0.toList = ([109, 101, 97, 110] : List UInt8)
                      · rw [if_pos c12] at H
                        have c12b0 : (a0.toList == ([109, 101, 97, 110] : List UInt8)) = true := beq_iff_eq.mpr c12
                        have c12b1 : (a0.toList != ([109, 101, 97, 110] : List UInt8)) = false := bne_eq_false_iff_eq.mpr c12
                        clear c12
                        obtain rfl := Option.some.inj H
                        go_enter Tryd.func16, Tryd.ntmps16
                        go_wp2
                        go_ret
                        exact ⟨by first | rfl | (simp; done) | (simp [*]; done), by repeat (first | exact Drawn0.refl _ | apply Drawn0.step)⟩
                      · rw [if_neg c12] at H
                        have c12b0 : (a0.toList == ([109, 101, 97, 110] : List UInt8)) = false := beq_eq_false_iff_ne.mpr c12
                        have c12b1 : (a0.toList != ([109, 101, 97, 110] : List UInt8)) = true := bne_iff_ne.mpr c12
                        obtain rfl := Option.some.inj H
                        go_enter Tryd.func16, Tryd.ntmps16
                        go_wp2
                        go_ret
                        exact ⟨by first | rfl | (simp; done) | (simp [*]; done), by repeat (first | exact Drawn0.refl _ | apply Drawn0.step)⟩
end Go.Proofs.YthebhbomlllpeaaDoor.X
namespace Go.Proofs
open Go.Shelf
open Go.RowKit in
open Go.RowKit in
open Go.RowKit in
open Go.RowKit in
open Go.RowKit in
open Go.RowKit in
open Go.RowKit in
open Go.RowKit in
def Tryd.lays137_ren : Go.Shelf.Ren := ⟨fun | 137 => 25 | 217 => 49 | 266 => 75 | n => n, fun | 9 => 9 | 5 => 5 | 3 => 3 | n => n, fun | n => n⟩
theorem Tryd.lays137 : Go.Proofs.Lays.n137 Tryd.prog Tryd.lays137_ren := {
  mixed := by kernel_rfl
  f137 := Tryd.func25.trans (congrArg some (by kernel_rfl))
  f217 := Tryd.func49.trans (congrArg some (by kernel_rfl))
  f266 := Tryd.func75.trans (congrArg some (by kernel_rfl))
  t3 := Tryd.underlying3
  a3 := Tryd.isAgg3
  z3 := Tryd.sizeOf3
  v3 := Tryd.zeroValue3
  t5 := Tryd.underlying5
  a5 := Tryd.isAgg5
  z5 := Tryd.sizeOf5
  v5 := Tryd.zeroValue5
  t9 := Tryd.underlying9
  a9 := Tryd.isAgg9
  z9 := Tryd.sizeOf9
  v9 := Tryd.zeroValue9 }
open Go.RowKit in
theorem Tryd.strings_IndexByte (s : ByteArray) (c : Int) (w : World) :
    Calls Tryd.prog 25 #[.string s, .int .u8 c] w fun e w' => e = .returned (.int .i64 (Lib.indexByte s.data.toList c.toNat.toUInt8)) ∧ w' = w := Any.strings_IndexByte Tryd.lays137 s c w
open Go.RowKit in
def Tryd.lays103_ren : Go.Shelf.Ren := ⟨fun | 103 => 32 | 210 => 58 | 206 => 76 | n => n, fun | 9 => 9 | 4 => 4 | 24 => 57 | 3 => 3 | n => n, fun | n => n⟩
theorem Tryd.lays103 : Go.Proofs.Lays.n103 Tryd.prog Tryd.lays103_ren := {
  mixed := by kernel_rfl
  f103 := Tryd.func32.trans (congrArg some (by kernel_rfl))
  f206 := Tryd.func76.trans (congrArg some (by kernel_rfl))
  f210 := Tryd.func58.trans (congrArg some (by kernel_rfl))
  t3 := Tryd.underlying3
  a3 := Tryd.isAgg3
  z3 := Tryd.sizeOf3
  v3 := Tryd.zeroValue3
  t4 := Tryd.underlying4
  a4 := Tryd.isAgg4
  z4 := Tryd.sizeOf4
  v4 := Tryd.zeroValue4
  t9 := Tryd.underlying9
  a9 := Tryd.isAgg9
  z9 := Tryd.sizeOf9
  v9 := Tryd.zeroValue9
  t24 := Tryd.underlying57
  a24 := Tryd.isAgg57
  z24 := Tryd.sizeOf57
  v24 := Tryd.zeroValue57 }
open Go.RowKit in
theorem Tryd.strings_CutPrefix (s p : ByteArray) (w : World) :
    Calls Tryd.prog 32 #[.string s, .string p] w fun e w' => e = .returned (.tuple #[.string ⟨(Lib.trimPrefix s.data.toList p.data.toList).toArray⟩, .bool (Lib.hasPrefix s.data.toList p.data.toList)]) ∧ w' = w := Any.strings_CutPrefix Tryd.lays103 s p w
open Go.RowKit in
open Go.RowKit in
open Go.RowKit in
open Go.RowKit in
open Go.RowKit in
open Go.RowKit in
open Go.RowKit in
open Go.RowKit in
open Go.RowKit in
open Go.Lib in
open Go.Lib in
open Go.Lib in
open Go.Lib in
open Go.RowKit Go.Sort Go.Lib in
open Go.RowKit Go.Sort Go.Lib in
open Go.RowKit Go.Sort Go.Lib in
open Go.RowKit Go.Sort Go.Lib in
open Go.RowKit Go.Sort Go.Lib in
open Go.RowKit Go.Sort Go.Lib in
open Go.RowKit Go.Sort Go.Lib in
def Tryd.laysM173_ren : Go.Shelf.Ren := ⟨fun | 173 => 37 | 246 => 62 | 283 => 85 | 284 => 86 | 285 => 87 | 286 => 88 | 129 => 105 | 317 => 104 | 318 => 106 | 319 => 107 | 320 => 108 | 337 => 113 | 338 => 114 | n => n, fun | 2 => 2 | 3 => 3 | 9 => 9 | 4 => 4 | 171 => 123 | 0 => 0 | 53 => 59 | 37 => 102 | 5 => 5 | 173 => 126 | 212 => 147 | 51 => 128 | 20 => 20 | 213 => 148 | 46 => 98 | 232 => 159 | 233 => 160 | n => n, fun | 17 => 3 | 18 => 4 | 19 => 5 | n => n⟩
theorem Tryd.laysM173 : Go.Proofs.LaysM.n173 Tryd.prog Tryd.laysM173_ren := {
  mixed := by kernel_rfl
  f129 := Tryd.func105.trans (congrArg some (by kernel_rfl))
  f173 := Tryd.func37.trans (congrArg some (by kernel_rfl))
  f246 := Tryd.func62.trans (congrArg some (by kernel_rfl))
  f283 := Tryd.func85.trans (congrArg some (by kernel_rfl))
  f284 := Tryd.func86.trans (congrArg some (by kernel_rfl))
  f285 := Tryd.func87.trans (congrArg some (by kernel_rfl))
  f286 := Tryd.func88.trans (congrArg some (by kernel_rfl))
  f317 := Tryd.func104.trans (congrArg some (by kernel_rfl))
  f318 := Tryd.func106.trans (congrArg some (by kernel_rfl))
  f319 := Tryd.func107.trans (congrArg some (by kernel_rfl))
  f320 := Tryd.func108.trans (congrArg some (by kernel_rfl))
  f337 := Tryd.func113.trans (congrArg some (by kernel_rfl))
  f338 := Tryd.func114.trans (congrArg some (by kernel_rfl))
  t0 := Tryd.underlying0
  a0 := Tryd.isAgg0
  z0 := Tryd.sizeOf0
  v0 := Tryd.zeroValue0
  t2 := Tryd.underlying2
  a2 := Tryd.isAgg2
  z2 := Tryd.sizeOf2
  v2 := Tryd.zeroValue2
  t3 := Tryd.underlying3
  a3 := Tryd.isAgg3
  z3 := Tryd.sizeOf3
  v3 := Tryd.zeroValue3
  t4 := Tryd.underlying4
  a4 := Tryd.isAgg4
  z4 := Tryd.sizeOf4
  v4 := Tryd.zeroValue4
  t5 := Tryd.underlying5
  a5 := Tryd.isAgg5
  z5 := Tryd.sizeOf5
  v5 := Tryd.zeroValue5
  t9 := Tryd.underlying9
  a9 := Tryd.isAgg9
  z9 := Tryd.sizeOf9
  v9 := Tryd.zeroValue9
  t20 := Tryd.underlying20
  a20 := Tryd.isAgg20
  z20 := Tryd.sizeOf20
  v20 := Tryd.zeroValue20
  t37 := Tryd.underlying102
  a37 := Tryd.isAgg102
  z37 := Tryd.sizeOf102
  v37 := Tryd.zeroValue102
  t46 := Tryd.underlying98
  a46 := Tryd.isAgg98
  z46 := Tryd.sizeOf98
  v46 := Tryd.zeroValue98
  t51 := Tryd.underlying128
  a51 := Tryd.isAgg128
  z51 := Tryd.sizeOf128
  v51 := Tryd.zeroValue128
  t53 := Tryd.underlying59
  a53 := Tryd.isAgg59
  z53 := Tryd.sizeOf59
  v53 := Tryd.zeroValue59
  t171 := Tryd.underlying123
  a171 := Tryd.isAgg123
  z171 := Tryd.sizeOf123
  v171 := Tryd.zeroValue123
  t173 := Tryd.underlying126
  a173 := Tryd.isAgg126
  z173 := Tryd.sizeOf126
  v173 := Tryd.zeroValue126
  t212 := Tryd.underlying147
  a212 := Tryd.isAgg147
  z212 := Tryd.sizeOf147
  v212 := Tryd.zeroValue147
  t213 := Tryd.underlying148
  a213 := Tryd.isAgg148
  z213 := Tryd.sizeOf148
  t232 := Tryd.underlying159
  a232 := Tryd.isAgg159
  z232 := Tryd.sizeOf159
  v232 := Tryd.zeroValue159
  t233 := Tryd.underlying160
  a233 := Tryd.isAgg160
  z233 := Tryd.sizeOf160
  v233 := Tryd.zeroValue160
  g17 := by kernel_rfl
  g18 := by kernel_rfl
  g19 := by kernel_rfl
  i0 := by kernel_rfl
  i2 := by kernel_rfl
  i3 := by kernel_rfl
  i4 := by kernel_rfl
  i5 := by kernel_rfl
  i9 := by kernel_rfl
  i20 := by kernel_rfl
  i37 := by kernel_rfl
  i46 := by kernel_rfl
  i51 := by kernel_rfl
  i53 := by kernel_rfl
  i171 := by kernel_rfl
  i173 := by kernel_rfl
  i212 := by kernel_rfl
  i232 := by kernel_rfl
  i233 := by kernel_rfl
  m17 := by kernel_rfl
  m18 := by kernel_rfl
  m19 := by kernel_rfl }
open Go.RowKit Go.Sort Go.Lib in
theorem Tryd.strconv_FormatInt_10 (n : Int) (h0 : -9223372036854775808 ≤ n) (h1 : n ≤ 9223372036854775807) (w : World) (htab : Lib.TabIs Tryd.prog w "internal/strconv.uint64pow10" .u64 Lib.pow10Tab) :
    Calls Tryd.prog 37 #[.int .i64 n, .int .i64 10] w fun e w' => e = .returned (.string ⟨(Lib.itoa n).toArray⟩) ∧ ∃ k os, w' = grow (w.drewN k) os := Any.strconv_FormatInt_10 Tryd.laysM173 n h0 h1 w htab
open Go.RowKit Go.Sort Go.Lib in
open Go.RowKit in
open Go.RowKit in
open Go.RowKit in
def Tryd.laysC245_ren : Go.Shelf.Ren := ⟨fun | 245 => 60 | 279 => 81 | 280 => 82 | 281 => 83 | 282 => 84 | 316 => 101 | 171 => 103 | 205 => 102 | 243 => 112 | 246 => 62 | 283 => 85 | 284 => 86 | 285 => 87 | 286 => 88 | 129 => 105 | 317 => 104 | 318 => 106 | 319 => 107 | 320 => 108 | 337 => 113 | 338 => 114 | n => n, fun | 9 => 9 | 3 => 3 | 75 => 61 | 167 => 118 | 4 => 4 | 168 => 120 | 210 => 143 | 37 => 102 | 0 => 0 | 127 => 133 | 145 => 157 | 143 => 155 | 2 => 2 | 171 => 123 | 53 => 59 | 5 => 5 | 173 => 126 | 212 => 147 | 51 => 128 | 20 => 20 | 213 => 148 | 46 => 98 | 232 => 159 | 233 => 160 | 80 => 109 | n => n, fun | 15 => 1 | 16 => 2 | 17 => 3 | 18 => 4 | 19 => 5 | n => n⟩
theorem Tryd.laysC245 : Go.Proofs.LaysC.n245 Tryd.prog Tryd.laysC245_ren := {
  mixed := by kernel_rfl
  f129 := Tryd.func105.trans (congrArg some (by kernel_rfl))
  f171 := Tryd.func103.trans (congrArg some (by kernel_rfl))
  f205 := Tryd.func102.trans (congrArg some (by kernel_rfl))
  f243 := Tryd.func112.trans (congrArg some (by kernel_rfl))
  f245 := Tryd.func60.trans (congrArg some (by kernel_rfl))
  f246 := Tryd.func62.trans (congrArg some (by kernel_rfl))
  f279 := Tryd.func81.trans (congrArg some (by kernel_rfl))
  f280 := Tryd.func82.trans (congrArg some (by kernel_rfl))
  f281 := Tryd.func83.trans (congrArg some (by kernel_rfl))
  f282 := Tryd.func84.trans (congrArg some (by kernel_rfl))
  f283 := Tryd.func85.trans (congrArg some (by kernel_rfl))
  f284 := Tryd.func86.trans (congrArg some (by kernel_rfl))
  f285 := Tryd.func87.trans (congrArg some (by kernel_rfl))
  f286 := Tryd.func88.trans (congrArg some (by kernel_rfl))
  f316 := Tryd.func101.trans (congrArg some (by kernel_rfl))
  f317 := Tryd.func104.trans (congrArg some (by kernel_rfl))
  f318 := Tryd.func106.trans (congrArg some (by kernel_rfl))
  f319 := Tryd.func107.trans (congrArg some (by kernel_rfl))
  f320 := Tryd.func108.trans (congrArg some (by kernel_rfl))
  f337 := Tryd.func113.trans (congrArg some (by kernel_rfl))
  f338 := Tryd.func114.trans (congrArg some (by kernel_rfl))
  t0 := Tryd.underlying0
  a0 := Tryd.isAgg0
  z0 := Tryd.sizeOf0
  v0 := Tryd.zeroValue0
  t2 := Tryd.underlying2
  a2 := Tryd.isAgg2
  z2 := Tryd.sizeOf2
  v2 := Tryd.zeroValue2
  t3 := Tryd.underlying3
  a3 := Tryd.isAgg3
  z3 := Tryd.sizeOf3
  v3 := Tryd.zeroValue3
  t4 := Tryd.underlying4
  a4 := Tryd.isAgg4
  z4 := Tryd.sizeOf4
  v4 := Tryd.zeroValue4
  t5 := Tryd.underlying5
  a5 := Tryd.isAgg5
  z5 := Tryd.sizeOf5
  v5 := Tryd.zeroValue5
  t9 := Tryd.underlying9
  a9 := Tryd.isAgg9
  z9 := Tryd.sizeOf9
  v9 := Tryd.zeroValue9
  t20 := Tryd.underlying20
  a20 := Tryd.isAgg20
  z20 := Tryd.sizeOf20
  v20 := Tryd.zeroValue20
  t37 := Tryd.underlying102
  a37 := Tryd.isAgg102
  z37 := Tryd.sizeOf102
  v37 := Tryd.zeroValue102
  t46 := Tryd.underlying98
  a46 := Tryd.isAgg98
  z46 := Tryd.sizeOf98
  v46 := Tryd.zeroValue98
  t51 := Tryd.underlying128
  a51 := Tryd.isAgg128
  z51 := Tryd.sizeOf128
  v51 := Tryd.zeroValue128
  t53 := Tryd.underlying59
  a53 := Tryd.isAgg59
  z53 := Tryd.sizeOf59
  v53 := Tryd.zeroValue59
  t75 := Tryd.underlying61
  a75 := Tryd.isAgg61
  z75 := Tryd.sizeOf61
  v75 := Tryd.zeroValue61
  t127 := Tryd.underlying133
  a127 := Tryd.isAgg133
  z127 := Tryd.sizeOf133
  v127 := Tryd.zeroValue133
  t143 := Tryd.underlying155
  a143 := Tryd.isAgg155
  z143 := Tryd.sizeOf155
  v143 := Tryd.zeroValue155
  t145 := Tryd.underlying157
  a145 := Tryd.isAgg157
  z145 := Tryd.sizeOf157
  v145 := Tryd.zeroValue157
  t167 := Tryd.underlying118
  a167 := Tryd.isAgg118
  z167 := Tryd.sizeOf118
  v167 := Tryd.zeroValue118
  t168 := Tryd.underlying120
  a168 := Tryd.isAgg120
  z168 := Tryd.sizeOf120
  v168 := Tryd.zeroValue120
  t171 := Tryd.underlying123
  a171 := Tryd.isAgg123
  z171 := Tryd.sizeOf123
  v171 := Tryd.zeroValue123
  t173 := Tryd.underlying126
  a173 := Tryd.isAgg126
  z173 := Tryd.sizeOf126
  v173 := Tryd.zeroValue126
  t210 := Tryd.underlying143
  a210 := Tryd.isAgg143
  z210 := Tryd.sizeOf143
  v210 := Tryd.zeroValue143
  t212 := Tryd.underlying147
  a212 := Tryd.isAgg147
  z212 := Tryd.sizeOf147
  v212 := Tryd.zeroValue147
  t213 := Tryd.underlying148
  a213 := Tryd.isAgg148
  z213 := Tryd.sizeOf148
  t232 := Tryd.underlying159
  a232 := Tryd.isAgg159
  z232 := Tryd.sizeOf159
  v232 := Tryd.zeroValue159
  t233 := Tryd.underlying160
  a233 := Tryd.isAgg160
  z233 := Tryd.sizeOf160
  v233 := Tryd.zeroValue160
  g15 := by kernel_rfl
  g16 := by kernel_rfl
  g17 := by kernel_rfl
  g18 := by kernel_rfl
  g19 := by kernel_rfl
  t80 := Tryd.underlying109
  a80 := Tryd.isAgg109
  z80 := Tryd.sizeOf109
  v80 := Tryd.zeroValue109
  i0 := by kernel_rfl
  i2 := by kernel_rfl
  i3 := by kernel_rfl
  i4 := by kernel_rfl
  i5 := by kernel_rfl
  i9 := by kernel_rfl
  i20 := by kernel_rfl
  i37 := by kernel_rfl
  i46 := by kernel_rfl
  i51 := by kernel_rfl
  i53 := by kernel_rfl
  i75 := by kernel_rfl
  i80 := by kernel_rfl
  i127 := by kernel_rfl
  i143 := by kernel_rfl
  i145 := by kernel_rfl
  i167 := by kernel_rfl
  i168 := by kernel_rfl
  i171 := by kernel_rfl
  i173 := by kernel_rfl
  i210 := by kernel_rfl
  i212 := by kernel_rfl
  i232 := by kernel_rfl
  i233 := by kernel_rfl
  m15 := by kernel_rfl
  m16 := by kernel_rfl
  m17 := by kernel_rfl
  m18 := by kernel_rfl
  m19 := by kernel_rfl
  c0 := by kernel_rfl
  c2 := by kernel_rfl
  c3 := by kernel_rfl
  c4 := by kernel_rfl
  c5 := by kernel_rfl
  c9 := by kernel_rfl
  c20 := by kernel_rfl
  c37 := by kernel_rfl
  c46 := by kernel_rfl
  c51 := by kernel_rfl
  c53 := by kernel_rfl
  c75 := by kernel_rfl
  c80 := by kernel_rfl
  c127 := by kernel_rfl
  c143 := by kernel_rfl
  c145 := by kernel_rfl
  c167 := by kernel_rfl
  c168 := by kernel_rfl
  c171 := by kernel_rfl
  c173 := by kernel_rfl
  c210 := by kernel_rfl
  c212 := by kernel_rfl
  c213 := by kernel_rfl
  c232 := by kernel_rfl
  c233 := by kernel_rfl }
open Go.RowKit in
theorem Tryd.strconv_toError_syntax (fn s : ByteArray) (base bits : Int) (ev : Value) (w : World) (hlim : s.size ≤ 281474976710656) (hv : w.cell? ⟨1, 0, none⟩ = some ev) (hev : ev = .nilIface ∨ ∃ te pe, ev = .iface te pe) :
    Calls Tryd.prog 60 #[.string fn, .string s, .int .i64 base, .int .i64 bits, .iface 118 (.int .i64 2)] w fun e w' => ∃ N, e = .returned (.iface 120 (.pointer (some ⟨N, 0, none⟩))) ∧ w.heap.size ≤ N ∧ w'.heap[N]? = some (.cells #[.string fn, .string s, ev] 143 (0, 0)) ∧ Below w.heap.size w w' := Any.strconv_toError_syntax Tryd.laysC245 fn s base bits ev w hlim hv hev
def Tryd.lays321_ren : Go.Shelf.Ren := ⟨fun | 321 => 79 | n => n, fun | 5 => 5 | n => n, fun | n => n⟩
theorem Tryd.lays321 : Go.Proofs.Lays.n321 Tryd.prog Tryd.lays321_ren := {
  mixed := by kernel_rfl
  f321 := Tryd.func79.trans (congrArg some (by kernel_rfl))
  t5 := Tryd.underlying5
  a5 := Tryd.isAgg5
  z5 := Tryd.sizeOf5
  v5 := Tryd.zeroValue5 }
open Go.RowKit in
theorem Tryd.internal_strconv_lower (c : Int) (w : World) :
    Calls Tryd.prog 79 #[.int .u8 c] w fun e w' => e = .returned (.int .u8 (bits .or .u8 c 32)) ∧ w' = w := Any.internal_strconv_lower Tryd.lays321 c w
def Tryd.lays287_ren : Go.Shelf.Ren := ⟨fun | 287 => 59 | 321 => 79 | 322 => 80 | n => n, fun | 9 => 9 | 3 => 3 | 53 => 59 | 75 => 61 | 4 => 4 | 167 => 118 | 5 => 5 | 46 => 98 | 37 => 102 | 0 => 0 | 21 => 21 | 80 => 109 | n => n, fun | n => n⟩
theorem Tryd.lays287 : Go.Proofs.Lays.n287 Tryd.prog Tryd.lays287_ren := {
  mixed := by kernel_rfl
  f287 := Tryd.func59.trans (congrArg some (by kernel_rfl))
  f321 := Tryd.func79.trans (congrArg some (by kernel_rfl))
  f322 := Tryd.func80.trans (congrArg some (by kernel_rfl))
  t0 := Tryd.underlying0
  a0 := Tryd.isAgg0
  z0 := Tryd.sizeOf0
  v0 := Tryd.zeroValue0
  t3 := Tryd.underlying3
  a3 := Tryd.isAgg3
  z3 := Tryd.sizeOf3
  v3 := Tryd.zeroValue3
  t4 := Tryd.underlying4
  a4 := Tryd.isAgg4
  z4 := Tryd.sizeOf4
  v4 := Tryd.zeroValue4
  t5 := Tryd.underlying5
  a5 := Tryd.isAgg5
  z5 := Tryd.sizeOf5
  v5 := Tryd.zeroValue5
  t9 := Tryd.underlying9
  a9 := Tryd.isAgg9
  z9 := Tryd.sizeOf9
  v9 := Tryd.zeroValue9
  t21 := Tryd.underlying21
  a21 := Tryd.isAgg21
  z21 := Tryd.sizeOf21
  v21 := Tryd.zeroValue21
  t37 := Tryd.underlying102
  a37 := Tryd.isAgg102
  z37 := Tryd.sizeOf102
  v37 := Tryd.zeroValue102
  t46 := Tryd.underlying98
  a46 := Tryd.isAgg98
  z46 := Tryd.sizeOf98
  v46 := Tryd.zeroValue98
  t53 := Tryd.underlying59
  a53 := Tryd.isAgg59
  z53 := Tryd.sizeOf59
  v53 := Tryd.zeroValue59
  t75 := Tryd.underlying61
  a75 := Tryd.isAgg61
  z75 := Tryd.sizeOf61
  v75 := Tryd.zeroValue61
  t167 := Tryd.underlying118
  a167 := Tryd.isAgg118
  z167 := Tryd.sizeOf118
  v167 := Tryd.zeroValue118 }
open Go.RowKit in
open Go.RowKit in
open Go.RowKit in
open Go.RowKit in
open Go.RowKit in
open Go.RowKit in
theorem Tryd.strconv_toError_range (fn s : ByteArray) (base bits : Int) (ev : Value) (w : World) (hlim : s.size ≤ 281474976710656) (hv : w.cell? ⟨2, 0, none⟩ = some ev) (hev : ev = .nilIface ∨ ∃ te pe, ev = .iface te pe) :
    Calls Tryd.prog 60 #[.string fn, .string s, .int .i64 base, .int .i64 bits, .iface 118 (.int .i64 1)] w fun e w' => ∃ N, e = .returned (.iface 120 (.pointer (some ⟨N, 0, none⟩))) ∧ w.heap.size ≤ N ∧ w'.heap[N]? = some (.cells #[.string fn, .string s, ev] 143 (0, 0)) ∧ Below w.heap.size w w' := Any.strconv_toError_range Tryd.laysC245 fn s base bits ev w hlim hv hev
open Go.RowKit in
theorem Tryd.internal_strconv_ParseUint_empty (base bits : Int) (w : World) :
    Calls Tryd.prog 59 #[.string ⟨#[]⟩, .int .i64 base, .int .i64 bits] w fun e w' => e = .returned (.tuple #[.int .u64 0, .iface 118 (.int .i64 2)]) ∧ w' = w := Any.internal_strconv_ParseUint_empty Tryd.lays287 base bits w
open Go.RowKit in
open Go.RowKit in
open Go.RowKit in
open Go.RowKit in
open Go.RowKit in
open Go.RowKit in
open Go.RowKit in
open Go.RowKit in
open Go.RowKit in
open Go.RowKit in
open Go.RowKit in
open Go.RowKit in
open Go.RowKit in
open Go.RowKit in
open Go.RowKit in
open Go.RowKit in
open Go.RowKit in
open Go.RowKit in
def Tryd.laysC174_ren : Go.Shelf.Ren := ⟨fun | 174 => 34 | 247 => 61 | 245 => 60 | 287 => 59 | 279 => 81 | 280 => 82 | 281 => 83 | 282 => 84 | 321 => 79 | 322 => 80 | 316 => 101 | 171 => 103 | 205 => 102 | 243 => 112 | 246 => 62 | 283 => 85 | 284 => 86 | 285 => 87 | 286 => 88 | 129 => 105 | 317 => 104 | 318 => 106 | 319 => 107 | 320 => 108 | 337 => 113 | 338 => 114 | n => n, fun | 9 => 9 | 3 => 3 | 2 => 2 | 75 => 61 | 85 => 64 | 4 => 4 | 167 => 118 | 5 => 5 | 53 => 59 | 175 => 62 | 46 => 98 | 168 => 120 | 37 => 102 | 0 => 0 | 210 => 143 | 21 => 21 | 127 => 133 | 145 => 157 | 143 => 155 | 171 => 123 | 173 => 126 | 212 => 147 | 51 => 128 | 20 => 20 | 213 => 148 | 232 => 159 | 233 => 160 | 80 => 109 | n => n, fun | 15 => 1 | 16 => 2 | 17 => 3 | 18 => 4 | 19 => 5 | n => n⟩
theorem Tryd.laysC174 : Go.Proofs.LaysC.n174 Tryd.prog Tryd.laysC174_ren := {
  mixed := by kernel_rfl
  f129 := Tryd.func105.trans (congrArg some (by kernel_rfl))
  f171 := Tryd.func103.trans (congrArg some (by kernel_rfl))
  f174 := Tryd.func34.trans (congrArg some (by kernel_rfl))
  f205 := Tryd.func102.trans (congrArg some (by kernel_rfl))
  f243 := Tryd.func112.trans (congrArg some (by kernel_rfl))
  f245 := Tryd.func60.trans (congrArg some (by kernel_rfl))
  f246 := Tryd.func62.trans (congrArg some (by kernel_rfl))
  f247 := Tryd.func61.trans (congrArg some (by kernel_rfl))
  f279 := Tryd.func81.trans (congrArg some (by kernel_rfl))
  f280 := Tryd.func82.trans (congrArg some (by kernel_rfl))
  f281 := Tryd.func83.trans (congrArg some (by kernel_rfl))
  f282 := Tryd.func84.trans (congrArg some (by kernel_rfl))
  f283 := Tryd.func85.trans (congrArg some (by kernel_rfl))
  f284 := Tryd.func86.trans (congrArg some (by kernel_rfl))
  f285 := Tryd.func87.trans (congrArg some (by kernel_rfl))
  f286 := Tryd.func88.trans (congrArg some (by kernel_rfl))
  f287 := Tryd.func59.trans (congrArg some (by kernel_rfl))
  f316 := Tryd.func101.trans (congrArg some (by kernel_rfl))
  f317 := Tryd.func104.trans (congrArg some (by kernel_rfl))
  f318 := Tryd.func106.trans (congrArg some (by kernel_rfl))
  f319 := Tryd.func107.trans (congrArg some (by kernel_rfl))
  f320 := Tryd.func108.trans (congrArg some (by kernel_rfl))
  f321 := Tryd.func79.trans (congrArg some (by kernel_rfl))
  f322 := Tryd.func80.trans (congrArg some (by kernel_rfl))
  f337 := Tryd.func113.trans (congrArg some (by kernel_rfl))
  f338 := Tryd.func114.trans (congrArg some (by kernel_rfl))
  t0 := Tryd.underlying0
  a0 := Tryd.isAgg0
  z0 := Tryd.sizeOf0
  v0 := Tryd.zeroValue0
  t2 := Tryd.underlying2
  a2 := Tryd.isAgg2
  z2 := Tryd.sizeOf2
  v2 := Tryd.zeroValue2
  t3 := Tryd.underlying3
  a3 := Tryd.isAgg3
  z3 := Tryd.sizeOf3
  v3 := Tryd.zeroValue3
  t4 := Tryd.underlying4
  a4 := Tryd.isAgg4
  z4 := Tryd.sizeOf4
  v4 := Tryd.zeroValue4
  t5 := Tryd.underlying5
  a5 := Tryd.isAgg5
  z5 := Tryd.sizeOf5
  v5 := Tryd.zeroValue5
  t9 := Tryd.underlying9
  a9 := Tryd.isAgg9
  z9 := Tryd.sizeOf9
  v9 := Tryd.zeroValue9
  t20 := Tryd.underlying20
  a20 := Tryd.isAgg20
  z20 := Tryd.sizeOf20
  v20 := Tryd.zeroValue20
  t21 := Tryd.underlying21
  a21 := Tryd.isAgg21
  z21 := Tryd.sizeOf21
  v21 := Tryd.zeroValue21
  t37 := Tryd.underlying102
  a37 := Tryd.isAgg102
  z37 := Tryd.sizeOf102
  v37 := Tryd.zeroValue102
  t46 := Tryd.underlying98
  a46 := Tryd.isAgg98
  z46 := Tryd.sizeOf98
  v46 := Tryd.zeroValue98
  t51 := Tryd.underlying128
  a51 := Tryd.isAgg128
  z51 := Tryd.sizeOf128
  v51 := Tryd.zeroValue128
  t53 := Tryd.underlying59
  a53 := Tryd.isAgg59
  z53 := Tryd.sizeOf59
  v53 := Tryd.zeroValue59
  t75 := Tryd.underlying61
  a75 := Tryd.isAgg61
  z75 := Tryd.sizeOf61
  v75 := Tryd.zeroValue61
  t85 := Tryd.underlying64
  a85 := Tryd.isAgg64
  z85 := Tryd.sizeOf64
  v85 := Tryd.zeroValue64
  t127 := Tryd.underlying133
  a127 := Tryd.isAgg133
  z127 := Tryd.sizeOf133
  v127 := Tryd.zeroValue133
  t143 := Tryd.underlying155
  a143 := Tryd.isAgg155
  z143 := Tryd.sizeOf155
  v143 := Tryd.zeroValue155
  t145 := Tryd.underlying157
  a145 := Tryd.isAgg157
  z145 := Tryd.sizeOf157
  v145 := Tryd.zeroValue157
  t167 := Tryd.underlying118
  a167 := Tryd.isAgg118
  z167 := Tryd.sizeOf118
  v167 := Tryd.zeroValue118
  t168 := Tryd.underlying120
  a168 := Tryd.isAgg120
  z168 := Tryd.sizeOf120
  v168 := Tryd.zeroValue120
  t171 := Tryd.underlying123
  a171 := Tryd.isAgg123
  z171 := Tryd.sizeOf123
  v171 := Tryd.zeroValue123
  t173 := Tryd.underlying126
  a173 := Tryd.isAgg126
  z173 := Tryd.sizeOf126
  v173 := Tryd.zeroValue126
  t175 := Tryd.underlying62
  a175 := Tryd.isAgg62
  z175 := Tryd.sizeOf62
  v175 := Tryd.zeroValue62
  t210 := Tryd.underlying143
  a210 := Tryd.isAgg143
  z210 := Tryd.sizeOf143
  v210 := Tryd.zeroValue143
  t212 := Tryd.underlying147
  a212 := Tryd.isAgg147
  z212 := Tryd.sizeOf147
  v212 := Tryd.zeroValue147
  t213 := Tryd.underlying148
  a213 := Tryd.isAgg148
  z213 := Tryd.sizeOf148
  t232 := Tryd.underlying159
  a232 := Tryd.isAgg159
  z232 := Tryd.sizeOf159
  v232 := Tryd.zeroValue159
  t233 := Tryd.underlying160
  a233 := Tryd.isAgg160
  z233 := Tryd.sizeOf160
  v233 := Tryd.zeroValue160
  g15 := by kernel_rfl
  g16 := by kernel_rfl
  g17 := by kernel_rfl
  g18 := by kernel_rfl
  g19 := by kernel_rfl
  t80 := Tryd.underlying109
  a80 := Tryd.isAgg109
  z80 := Tryd.sizeOf109
  v80 := Tryd.zeroValue109
  i0 := by kernel_rfl
  i2 := by kernel_rfl
  i3 := by kernel_rfl
  i4 := by kernel_rfl
  i5 := by kernel_rfl
  i9 := by kernel_rfl
  i20 := by kernel_rfl
  i21 := by kernel_rfl
  i37 := by kernel_rfl
  i46 := by kernel_rfl
  i51 := by kernel_rfl
  i53 := by kernel_rfl
  i75 := by kernel_rfl
  i80 := by kernel_rfl
  i85 := by kernel_rfl
  i127 := by kernel_rfl
  i143 := by kernel_rfl
  i145 := by kernel_rfl
  i167 := by kernel_rfl
  i168 := by kernel_rfl
  i171 := by kernel_rfl
  i173 := by kernel_rfl
  i175 := by kernel_rfl
  i210 := by kernel_rfl
  i212 := by kernel_rfl
  i232 := by kernel_rfl
  i233 := by kernel_rfl
  m15 := by kernel_rfl
  m16 := by kernel_rfl
  m17 := by kernel_rfl
  m18 := by kernel_rfl
  m19 := by kernel_rfl
  c0 := by kernel_rfl
  c2 := by kernel_rfl
  c3 := by kernel_rfl
  c4 := by kernel_rfl
  c5 := by kernel_rfl
  c9 := by kernel_rfl
  c20 := by kernel_rfl
  c21 := by kernel_rfl
  c37 := by kernel_rfl
  c46 := by kernel_rfl
  c51 := by kernel_rfl
  c53 := by kernel_rfl
  c75 := by kernel_rfl
  c80 := by kernel_rfl
  c85 := by kernel_rfl
  c127 := by kernel_rfl
  c143 := by kernel_rfl
  c145 := by kernel_rfl
  c167 := by kernel_rfl
  c168 := by kernel_rfl
  c171 := by kernel_rfl
  c173 := by kernel_rfl
  c175 := by kernel_rfl
  c210 := by kernel_rfl
  c212 := by kernel_rfl
  c213 := by kernel_rfl
  c232 := by kernel_rfl
  c233 := by kernel_rfl }
open Go.RowKit in
open Go.RowKit in
open Go.RowKit in
open Go.RowKit in
theorem Tryd.strconv_ParseInt_10_at64_ok (s : ByteArray) (hmax : s.size ≤ 9223372036854775806) (v : Int) (h : Lib.parseIntB 64 s.data.toList = .ok v) (w : World) :
    Calls Tryd.prog 34 #[.string s, .int .i64 10, .int .i64 64] w fun e w' => e = .returned (.tuple #[.int .i64 v, .nilIface]) ∧ (w' = w ∨ ∃ t, w' = Lib.bytesWorld w 5 t) := Any.strconv_ParseInt_10_at64_ok Tryd.laysC174 s hmax v h w
open Go.RowKit in
open Go.RowKit in
open Go.RowKit in
open Go.RowKit in
open Go.RowKit in
open Go.RowKit in
open Go.RowKit in
open Go.RowKit in
open Go.RowKit in
open Go.RowKit in
open Go.RowKit in
open Go.RowKit in
open Go.RowKit in
open Go.RowKit in
theorem Tryd.strconv_ParseInt_10_at64_syntax_var (s : ByteArray) (hlim : s.size ≤ 281474976710656) (h : Lib.parseIntB 64 s.data.toList = .«syntax») (tp : TypeId) (p : Value) (w : World) (hvar : w.var? Tryd.prog "strconv.ErrSyntax" = some #[.iface tp p]) :
    Calls Tryd.prog 34 #[.string s, .int .i64 10, .int .i64 64] w fun e w' => ∃ N, e = .returned (.tuple #[.int .i64 (0), .iface 120 (.pointer (some ⟨N, 0, none⟩))]) ∧ w.heap.size ≤ N ∧ w'.heap[N]? = some (.cells #[.string ⟨#[80, 97, 114, 115, 101, 73, 110, 116]⟩, .string s, .iface tp p] 143 (0, 0)) ∧ Below w.heap.size w w' := Any.strconv_ParseInt_10_at64_syntax_var Tryd.laysC174 s hlim h tp p w hvar
open Go.RowKit in
theorem Tryd.strconv_ParseInt_10_at64_range_var (s : ByteArray) (hlim : s.size ≤ 281474976710656) (h : Lib.parseIntB 64 s.data.toList = .range) (tp : TypeId) (p : Value) (w : World) (hvar : w.var? Tryd.prog "strconv.ErrRange" = some #[.iface tp p]) :
    Calls Tryd.prog 34 #[.string s, .int .i64 10, .int .i64 64] w fun e w' => ∃ N, e = .returned (.tuple #[.int .i64 (Lib.intSat 64 s.data.toList), .iface 120 (.pointer (some ⟨N, 0, none⟩))]) ∧ w.heap.size ≤ N ∧ w'.heap[N]? = some (.cells #[.string ⟨#[80, 97, 114, 115, 101, 73, 110, 116]⟩, .string s, .iface tp p] 143 (0, 0)) ∧ Below w.heap.size w w' := Any.strconv_ParseInt_10_at64_range_var Tryd.laysC174 s hlim h tp p w hvar
open Go.RowKit in
open Go.RowKit in
open Go.RowKit in
open Go.RowKit in
open Go.RowKit in
open Go.RowKit in
open Go.RowKit in
open Go.RowKit in
open Go.RowKit in
open Go.RowKit in
open Go.RowKit in
open Go.RowKit in
open Go.RowKit in
open Go.RowKit in
open Go.RowKit in
open Go.RowKit in
open Go.RowKit in
open Go.RowKit in
open Go.RowKit in
open Go.RowKit in
open Go.RowKit in
open Go.RowKit in
open Go.RowKit in
open Go.RowKit in
open Go.RowKit in
open Go.RowKit in
open Go.RowKit in
open Go.RowKit in
open Go.RowKit in
open Go.RowKit in
open Go.RowKit in
open Go.RowKit Go.Lib in
def Tryd.lays206_ren : Go.Shelf.Ren := ⟨fun | 206 => 76 | n => n, fun | 9 => 9 | 4 => 4 | 3 => 3 | n => n, fun | n => n⟩
theorem Tryd.lays206 : Go.Proofs.Lays.n206 Tryd.prog Tryd.lays206_ren := {
  mixed := by kernel_rfl
  f206 := Tryd.func76.trans (congrArg some (by kernel_rfl))
  t3 := Tryd.underlying3
  a3 := Tryd.isAgg3
  z3 := Tryd.sizeOf3
  v3 := Tryd.zeroValue3
  t4 := Tryd.underlying4
  a4 := Tryd.isAgg4
  z4 := Tryd.sizeOf4
  v4 := Tryd.zeroValue4
  t9 := Tryd.underlying9
  a9 := Tryd.isAgg9
  z9 := Tryd.sizeOf9
  v9 := Tryd.zeroValue9 }
open Go.RowKit Go.Lib in
theorem Tryd.stringslite_HasPrefix (s p : ByteArray) (w : World) :
    Calls Tryd.prog 76 #[.string s, .string p] w fun e w' => e = .returned (.bool (Lib.hasPrefix s.data.toList p.data.toList)) ∧ w' = w := Any.stringslite_HasPrefix Tryd.lays206 s p w
def Tryd.lays99_ren : Go.Shelf.Ren := ⟨fun | 99 => 53 | 206 => 76 | n => n, fun | 9 => 9 | 4 => 4 | 3 => 3 | n => n, fun | n => n⟩
theorem Tryd.lays99 : Go.Proofs.Lays.n99 Tryd.prog Tryd.lays99_ren := {
  mixed := by kernel_rfl
  f99 := Tryd.func53.trans (congrArg some (by kernel_rfl))
  f206 := Tryd.func76.trans (congrArg some (by kernel_rfl))
  t3 := Tryd.underlying3
  a3 := Tryd.isAgg3
  z3 := Tryd.sizeOf3
  v3 := Tryd.zeroValue3
  t4 := Tryd.underlying4
  a4 := Tryd.isAgg4
  z4 := Tryd.sizeOf4
  v4 := Tryd.zeroValue4
  t9 := Tryd.underlying9
  a9 := Tryd.isAgg9
  z9 := Tryd.sizeOf9
  v9 := Tryd.zeroValue9 }
open Go.RowKit Go.Lib in
theorem Tryd.strings_HasPrefix (s p : ByteArray) (w : World) :
    Calls Tryd.prog 53 #[.string s, .string p] w fun e w' => e = .returned (.bool (Lib.hasPrefix s.data.toList p.data.toList)) ∧ w' = w := Any.strings_HasPrefix Tryd.lays99 s p w
open Go.RowKit Go.Lib in
open Go.RowKit Go.Lib in
def Tryd.lays105_ren : Go.Shelf.Ren := ⟨fun | 105 => 39 | 212 => 64 | 99 => 53 | 165 => 65 | 166 => 66 | 170 => 67 | 169 => 68 | 263 => 89 | 264 => 90 | 206 => 76 | 240 => 91 | 241 => 92 | 276 => 109 | 277 => 110 | n => n, fun | 9 => 9 | 3 => 3 | 4 => 4 | 20 => 20 | 0 => 0 | 46 => 98 | 109 => 99 | 5 => 5 | 72 => 104 | 76 => 106 | 51 => 128 | 146 => 129 | 53 => 59 | 148 => 131 | 70 => 101 | 37 => 102 | 75 => 61 | 127 => 133 | 164 => 151 | 80 => 109 | n => n, fun | n => n⟩
theorem Tryd.lays105 : Go.Proofs.Lays.n105 Tryd.prog Tryd.lays105_ren := {
  mixed := by kernel_rfl
  f99 := Tryd.func53.trans (congrArg some (by kernel_rfl))
  f105 := Tryd.func39.trans (congrArg some (by kernel_rfl))
  f165 := Tryd.func65.trans (congrArg some (by kernel_rfl))
  f166 := Tryd.func66.trans (congrArg some (by kernel_rfl))
  f169 := Tryd.func68.trans (congrArg some (by kernel_rfl))
  f170 := Tryd.func67.trans (congrArg some (by kernel_rfl))
  f206 := Tryd.func76.trans (congrArg some (by kernel_rfl))
  f212 := Tryd.func64.trans (congrArg some (by kernel_rfl))
  f240 := Tryd.func91.trans (congrArg some (by kernel_rfl))
  f241 := Tryd.func92.trans (congrArg some (by kernel_rfl))
  f263 := Tryd.func89.trans (congrArg some (by kernel_rfl))
  f264 := Tryd.func90.trans (congrArg some (by kernel_rfl))
  f276 := Tryd.func109.trans (congrArg some (by kernel_rfl))
  f277 := Tryd.func110.trans (congrArg some (by kernel_rfl))
  t0 := Tryd.underlying0
  a0 := Tryd.isAgg0
  z0 := Tryd.sizeOf0
  v0 := Tryd.zeroValue0
  t3 := Tryd.underlying3
  a3 := Tryd.isAgg3
  z3 := Tryd.sizeOf3
  v3 := Tryd.zeroValue3
  t4 := Tryd.underlying4
  a4 := Tryd.isAgg4
  z4 := Tryd.sizeOf4
  v4 := Tryd.zeroValue4
  t5 := Tryd.underlying5
  a5 := Tryd.isAgg5
  z5 := Tryd.sizeOf5
  v5 := Tryd.zeroValue5
  t9 := Tryd.underlying9
  a9 := Tryd.isAgg9
  z9 := Tryd.sizeOf9
  v9 := Tryd.zeroValue9
  t20 := Tryd.underlying20
  a20 := Tryd.isAgg20
  z20 := Tryd.sizeOf20
  v20 := Tryd.zeroValue20
  t37 := Tryd.underlying102
  a37 := Tryd.isAgg102
  z37 := Tryd.sizeOf102
  v37 := Tryd.zeroValue102
  t46 := Tryd.underlying98
  a46 := Tryd.isAgg98
  z46 := Tryd.sizeOf98
  v46 := Tryd.zeroValue98
  t51 := Tryd.underlying128
  a51 := Tryd.isAgg128
  z51 := Tryd.sizeOf128
  v51 := Tryd.zeroValue128
  t53 := Tryd.underlying59
  a53 := Tryd.isAgg59
  z53 := Tryd.sizeOf59
  v53 := Tryd.zeroValue59
  t70 := Tryd.underlying101
  a70 := Tryd.isAgg101
  z70 := Tryd.sizeOf101
  v70 := Tryd.zeroValue101
  t72 := Tryd.underlying104
  a72 := Tryd.isAgg104
  z72 := Tryd.sizeOf104
  v72 := Tryd.zeroValue104
  t75 := Tryd.underlying61
  a75 := Tryd.isAgg61
  z75 := Tryd.sizeOf61
  v75 := Tryd.zeroValue61
  t76 := Tryd.underlying106
  a76 := Tryd.isAgg106
  z76 := Tryd.sizeOf106
  v76 := Tryd.zeroValue106
  t109 := Tryd.underlying99
  a109 := Tryd.isAgg99
  z109 := Tryd.sizeOf99
  v109 := Tryd.zeroValue99
  t127 := Tryd.underlying133
  a127 := Tryd.isAgg133
  z127 := Tryd.sizeOf133
  v127 := Tryd.zeroValue133
  t146 := Tryd.underlying129
  a146 := Tryd.isAgg129
  z146 := Tryd.sizeOf129
  v146 := Tryd.zeroValue129
  t148 := Tryd.underlying131
  a148 := Tryd.isAgg131
  z148 := Tryd.sizeOf131
  v148 := Tryd.zeroValue131
  t164 := Tryd.underlying151
  a164 := Tryd.isAgg151
  z164 := Tryd.sizeOf151
  v164 := Tryd.zeroValue151 }
theorem Tryd.Builder_Extra_105 : Builder.Extra Tryd.prog Tryd.lays105_ren := {
  sizeBuilder := by kernel_rfl
  liesBuilder := by kernel_rfl
  t5 := Tryd.underlying5
  a5 := Tryd.isAgg5
  z5 := Tryd.sizeOf5
  v5 := Tryd.zeroValue5
  infoByte := by kernel_rfl
  cellsByte := by kernel_rfl
  sizeByte := by kernel_rfl
  neB5 := by decide }
open Go.RowKit Go.Lib in
open Go.RowKit Go.Lib in
open Go.RowKit Go.Lib in
open Go.RowKit Go.Lib in
open Go.RowKit Go.Lib in
open Go.RowKit Go.Lib in
open Go.RowKit Go.Lib in
theorem Tryd.strings_Repeat (s : ByteArray) (c : Nat) (w : World) (hc : c ≤ 9223372036854775807) (hlen : s.size * c ≤ 140737488355328) :
    Calls Tryd.prog 39 #[.string s, .int .i64 c] w fun e w' => e = .returned (.string ⟨(Lib.repeatL s.data.toList c).toArray⟩) ∧ Below w.heap.size w w' := Any.strings_Repeat Tryd.lays105 Tryd.Builder_Extra_105 s c w hc hlen
end Go.Proofs
namespace Go.Proofs.YthebhbomlllpeaaDoor.X
set_option linter.unusedVariables false
set_option linter.unusedSimpArgs false
open Go.RowKit Go.Proofs.YthebhbomlllpeaaDoorW.PrintWords Go.Proofs.YthebhbomlllpeaaDoorW.PrintLast Go.Proofs.YthebhbomlllpeaaDoorW.PrintMore
/-- a number's digits at base 16. -/
def hexc (d : Nat) : UInt8 := if d < 10 then UInt8.ofNat (48 + d) else UInt8.ofNat (87 + d)
def hexL (u : Nat) : List UInt8 := if h : u < 16 then [hexc u] else hexL (u / 16) ++ [hexc (u % 16)]
termination_by u
decreasing_by omega
set_option maxHeartbeats 400000 in
set_option maxRecDepth 100000 in
theorem tz16 (w : World) (hLW : LaidW w) :
    Calls Tryd.prog 108 #[.int .u64 16] w fun e w' => e = .returned (.int .i64 4) ∧ w' = w := by
  have hc : w.cell? ⟨5, 15, none⟩ = some (.int .u8 4) := Lib.TabIs.cell hLW.t64 gBruijn 15 (by decide)
  have hk : IntKind.u64.wrap (bits BinOp.and IntKind.u64 16 (IntKind.u64.wrap (-16)) * 285870213051353865) / 288230376151711744 = 15 := by decide +kernel
  go_enter Tryd.func108, Tryd.ntmps108
  go_wp2
  go_ret
  exact ⟨rfl, rfl⟩
/-- how far the digits are told: u's digits are v's, and ds behind them. -/
def HexInv (u v d : Nat) (ds : List UInt8) : Prop := v < 16 ^ d ∧ ds.length = 16 - d ∧ hexL u = hexL v ++ ds
/-- the array's cells: each a byte; from place i on they are ds. -/
def HexRow (cs : Array Value) (i : Nat) (ds : List UInt8) : Prop := cs.size = 65 ∧ (∀ j, j < 65 → ∃ x : Int, cs[j]? = some (.int .u8 x)) ∧ ∀ j (h : j < ds.length), cs[i + j]? = some (.int .u8 (ds[j].toNat : Int))
theorem hex_small {u v d : Nat} {ds : List UInt8} (h : HexInv u v d ds) (hd : d ≤ 16) : v < 18446744073709551616 :=
  Nat.lt_of_lt_of_le h.1 (Nat.le_trans (Nat.pow_le_pow_right (by omega) hd) (by decide))
theorem and15 (v : Nat) (h : v < 18446744073709551616) : bits BinOp.and IntKind.u64 (v : Int) 15 = ((v % 16 : Nat) : Int) := by
  have := u64_and_nat v 15 h (by decide)
  rw [show ((15 : Nat) : Int) = 15 from rfl] at this
  rw [this, show v &&& 15 = v % 16 from Nat.and_two_pow_sub_one_eq_mod v 4]
def digits36 : ByteArray := ⟨#[48, 49, 50, 51, 52, 53, 54, 55, 56, 57, 97, 98, 99, 100, 101, 102, 103, 104, 105, 106, 107, 108, 109, 110, 111, 112, 113, 114, 115, 116, 117, 118, 119, 120, 121, 122]⟩
theorem digits36_at : ∀ n : Nat, n < 16 → ∀ h : n < digits36.size, digits36[n]'h = hexc n := by decide
theorem hex_next {u v d : Nat} {ds : List UInt8} (h : HexInv u v (d + 1) ds) (hd : d + 1 ≤ 16) (hv : 16 ≤ v) : 1 ≤ d ∧ HexInv u (v / 16) d (hexc (v % 16) :: ds) := by
  obtain ⟨h1, h2, h3⟩ := h
  have hd1 : 1 ≤ d := by
    rcases Nat.eq_zero_or_pos d with rfl | h
    · simp at h1; omega
    · exact h
  refine ⟨hd1, ?_, by simp [h2]; omega, ?_⟩
  · rw [Nat.pow_succ] at h1; omega
  · rw [h3, hexL, dif_neg (by omega)]
    simp
theorem hex_last {u v d : Nat} {ds : List UInt8} (h : HexInv u v d ds) (hv : ¬ 16 ≤ v) : hexL u = hexc v :: ds := by
  rw [h.2.2, hexL, dif_pos (by omega)]
  rfl
theorem row_next {cs : Array Value} {i : Nat} {ds : List UInt8} (h : HexRow cs (i + 1) ds) (hi : i < 65) (c : UInt8) : HexRow (cs.setIfInBounds i (.int .u8 (c.toNat : Int))) i (c :: ds) := by
  obtain ⟨h1, h2, h3⟩ := h
  refine ⟨by simpa using h1, ?_, ?_⟩
  · intro j hj
    by_cases e : i = j
    · subst e; exact ⟨_, by rw [Array.getElem?_setIfInBounds_self_of_lt (by omega)]⟩
    · rw [Array.getElem?_setIfInBounds_ne e]; exact h2 j hj
  · intro j hj
    cases j with
    | zero => rw [Nat.add_zero, Array.getElem?_setIfInBounds_self_of_lt (by omega)]; rfl
    | succ j =>
      rw [Array.getElem?_setIfInBounds_ne (by omega)]
      have := h3 j (by simpa using hj)
      rw [show i + (j + 1) = i + 1 + j by omega, this]
      rfl
theorem row_zero (cs : Array Value) (h : cs = Array.replicate 65 (.int .u8 0)) : HexRow cs 65 [] := by
  subst h
  refine ⟨by simp, fun j hj => ⟨0, by simp [hj]⟩, fun j hj => by simp at hj⟩
set_option maxHeartbeats 400000 in
set_option maxRecDepth 100000 in
theorem pow2_16 (w : World) :
    Calls Tryd.prog 107 #[.int .i64 16] w fun e w' => e = .returned (.bool true) ∧ w' = w := by
  have hk : bits BinOp.and IntKind.i64 16 15 = 0 := by decide +kernel
  go_enter Tryd.func107, Tryd.ntmps107
  go_wp2
  go_ret
  exact ⟨rfl, rfl⟩
set_option maxHeartbeats 800000 in
set_option maxRecDepth 100000 in
theorem formatBits16 (u : Nat) (hu : u < 18446744073709551616) (w : World) (hLW : LaidW w) :
    Calls Tryd.prog 88 #[.slice none 0 0, .int .u64 u, .int .i64 16, .bool false, .bool false] w fun e w' => e = .returned (.tuple #[.slice none 0 0, .string ⟨(hexL u).toArray⟩]) ∧ Below w.heap.size w w' := by
  have hu16 : u < 16 ^ 16 := hu
  go_enter Tryd.func88, Tryd.ntmps88
  go_wp2_with (first | (go_at_call 107; refine (pow2_16 _).mono ?_; rintro e w' ⟨rfl, rfl⟩) | (go_at_call 108; refine (tz16 _ (by first | exact hLW.alloc _ | exact hLW)).mono ?_; rintro e w' ⟨rfl, rfl⟩))
  go_loopw [1, 13] (fun v1 v13 wr => ∃ (v d : Nat) (ds : List UInt8) (cs : Array Value), v1 = .int .u64 v ∧ v13 = .int .i64 (49 + (d : Int)) ∧ 1 ≤ d ∧ d ≤ 16 ∧ Aside0 (HexInv u v d ds) ∧ Aside0 (wr.heap[w.heap.size]? = some (.cells cs 148 (0, 0))) ∧ Aside0 (HexRow cs (49 + d) ds) ∧ Aside0 (Below w.heap.size w wr)) (fun v1 _ _ => (intOf v1).toNat)
  case atStart => exact ⟨u, 16, [], Tryd.zeroCells148, rfl, rfl, by omega, by omega, ⟨hu16, rfl, by simp⟩, ⟨heap_alloc_new w _⟩, ⟨row_zero _ rfl⟩, ⟨(Below.refl _ _).alloc (Nat.le_refl _) _⟩⟩
  case round =>
    obtain ⟨v, d, ds, cs, rfl, rfl, hd1, hd2, HI, HB, HR, HW⟩ := hrel
    have hv : v < 18446744073709551616 := hex_small HI.out hd2
    obtain ⟨d, rfl⟩ : ∃ d', d = d' + 1 := ⟨d - 1, by omega⟩
    obtain ⟨x0, hx0⟩ := HR.out.2.1 (49 + d) (by omega)
    have hcell : wr.cell? ⟨w.heap.size, 49 + d, none⟩ = some (.int .u8 x0) := (blk_cell HB.out _).trans hx0
    have hfr : wr.frozen? ⟨w.heap.size, 49 + d, none⟩ = false := blk_frozen HB.out _
    clear hx0
    by_cases hge : 16 ≤ v
    · have ht : decide ((16 : Int) ≤ (v : Int)) = true := decide_eq_true (by omega)
      have hbit := and15 v hv
      have hm : v % 16 < 36 := by omega
      go_wp2
      obtain ⟨hd', HI'⟩ := hex_next HI.out hd2 hge
      go_roundw
      case rel =>
        have e1 := digits36_at (v % 16) (by omega) (by show v % 16 < 36; omega)
        refine ⟨v / 16, d, hexc (v % 16) :: ds, cs.setIfInBounds (49 + d) (.int .u8 ((hexc (v % 16)).toNat : Int)), ?_, ?_, hd', by omega, ⟨HI'⟩, ⟨?_⟩, ⟨row_next (i := 49 + d) HR.out (by omega) _⟩, ⟨?_⟩⟩
        · first | rfl | go_num
        · go_num
        · have := blk_set HB.out (49 + d) (.int .u8 ((hexc (v % 16)).toNat : Int))
          rw [← e1] at this ⊢
          exact this
        · exact below_set HW.out (Nat.le_refl _)
      case measure => simp [intOf]; omega
    · have ht : decide ((16 : Int) ≤ (v : Int)) = false := decide_eq_false (by omega)
      have hm : v < 36 := by omega
      have hm2 : v < digits36.size := hm
      have e1 : digits36[v]'hm2 = hexc v := digits36_at v (by omega) hm2
      have hlen : (hexc v :: ds).length = 16 - d := by have := HI.out.2.1; simp [this]; omega
      have hal : Tryd.prog.arrayLen 148 = 65 := by kernel_rfl
      have hal1 : Tryd.prog.arrayLen 148 - (49 + d) = 16 - d := by rw [hal]; omega
      have hsl : ∀ W, (Instr.sliceAt 148 (.pointer (some ⟨w.heap.size, 0, none⟩)) (some (.int .i64 (49 + ((d : Int) + 1) - 1))) none none).run Tryd.prog W = .ok (.slice (some ⟨w.heap.size, 49 + d, none⟩) (16 - d) (16 - d)) W := fun W => by
        rw [run_sliceAt_array_l W 148 ⟨w.heap.size, 0, none⟩ (by simp [Program.arrayLen, Program.elem, Tryd.underlying148]) .i64 (49 + ((d : Int) + 1) - 1) (by omega) (by rw [hal]; omega)]
        rw [hal]
        go_simp
        have e2 : (49 + ((d : Int) + 1)).toNat - 1 = 49 + d := by omega
        rw [e2, if_neg (by omega)]
        exact ⟨rfl, by omega⟩
      have hrow := row_next (i := 49 + d) HR.out (by omega) (hexc v)
      have hblk := blk_set HB.out (49 + d) (.int .u8 ((hexc v).toNat : Int))
      have hcv : (convert 102 9 (.slice (some ⟨w.heap.size, 49 + d, none⟩) (16 - d) (16 - d))).run Tryd.prog (wr.setCell ⟨w.heap.size, 49 + d, none⟩ (.int .u8 (((⟨#[48, 49, 50, 51, 52, 53, 54, 55, 56, 57, 97, 98, 99, 100, 101, 102, 103, 104, 105, 106, 107, 108, 109, 110, 111, 112, 113, 114, 115, 116, 117, 118, 119, 120, 121, 122]⟩ : ByteArray)[v]'hm2).toNat : Int))) = .ok (.string ⟨(hexL u).toArray⟩) (wr.setCell ⟨w.heap.size, 49 + d, none⟩ (.int .u8 (((⟨#[48, 49, 50, 51, 52, 53, 54, 55, 56, 57, 97, 98, 99, 100, 101, 102, 103, 104, 105, 106, 107, 108, 109, 110, 111, 112, 113, 114, 115, 116, 117, 118, 119, 120, 121, 122]⟩ : ByteArray)[v]'hm2).toNat : Int))) := by
        show (convert 102 9 (.slice (some ⟨w.heap.size, 49 + d, none⟩) (16 - d) (16 - d))).run Tryd.prog (wr.setCell ⟨w.heap.size, 49 + d, none⟩ (.int .u8 ((digits36[v]'hm2).toNat : Int))) = .ok (.string ⟨(hexL u).toArray⟩) (wr.setCell ⟨w.heap.size, 49 + d, none⟩ (.int .u8 ((digits36[v]'hm2).toNat : Int)))
        rw [e1]
        have h := run_convert_bytes_back (P := Tryd.prog) (wr.setCell ⟨w.heap.size, 49 + d, none⟩ (.int .u8 ((hexc v).toNat : Int))) 102 9 5 ⟨w.heap.size, 49 + d, none⟩ (16 - d) (hexc v :: ds) Tryd.underlying102 Tryd.underlying5 Tryd.underlying9 (fun j hj => by
          rw [Lib.add_plain]
          exact (blk_cell hblk _).trans (hrow.2.2 j hj))
        rw [hlen] at h
        rw [hex_last HI.out hge]
        exact h
      have HC := Aside0.mk hcv
      have HROW := Aside0.mk hrow
      clear hrow hblk hlen hal hal1 e1 hcv
      go_wp2
      first | rw [HC.out] | erw [HC.out]
      go_wp2
      go_ret2
      exact ⟨rfl, below_set HW.out (Nat.le_refl _)⟩
set_option maxHeartbeats 400000 in
set_option maxRecDepth 100000 in
theorem int_FormatUint16 (u : Nat) (hu : u < 18446744073709551616) (w : World) (hLW : LaidW w) :
    Calls Tryd.prog 63 #[.int .u64 u, .int .i64 16] w fun e w' => e = .returned (.string ⟨(hexL u).toArray⟩) ∧ Below w.heap.size w w' := by
  go_enter Tryd.func63, Tryd.ntmps63
  go_wp2_with (go_at_call 88; refine (formatBits16 u hu _ hLW).mono ?_; rintro e w' ⟨rfl, hb⟩)
  go_ret
  exact ⟨rfl, hb⟩
def strconv_FormatUint.f (a0 : Int) (a1 : Int) : Option ByteArray := if a1 = 16 ∧ 0 ≤ a0 ∧ a0 < 18446744073709551616 then some ⟨(hexL a0.toNat).toArray⟩ else none
set_option maxHeartbeats 400000 in
set_option maxRecDepth 100000 in
theorem strconv_FormatUint.calls (a0 a1 : Int) (r : ByteArray) (w : World) (hLW : LaidW w) (h : strconv_FormatUint.f a0 a1 = some r) :
    Calls Tryd.prog 38 #[.int .u64 a0, .int .i64 a1] w fun e w' => e = .returned (.string r) ∧ Below w.heap.size w w' := by
  unfold strconv_FormatUint.f at h
  split at h
  · rename_i hc
    obtain ⟨rfl, h0, h1⟩ := hc
    obtain rfl := Option.some.inj h
    obtain ⟨u, rfl⟩ := Int.eq_ofNat_of_zero_le h0
    have hu : u < 18446744073709551616 := by omega
    rw [Int.toNat_natCast]
    clear h h0 h1
    go_enter Tryd.func38, Tryd.ntmps38
    go_wp2_with (go_at_call 63; refine (int_FormatUint16 u hu _ hLW).mono ?_; rintro e w' ⟨rfl, hb⟩)
    go_ret
    exact ⟨rfl, hb⟩
  · cases h
end Go.Proofs.YthebhbomlllpeaaDoor.X
namespace Go.Proofs.YthebhbomlllpeaaDoor.X
set_option linter.unusedVariables false
set_option linter.unusedSimpArgs false
open Go.RowKit Go.Proofs.YthebhbomlllpeaaDoorW.PrintWords Go.Proofs.YthebhbomlllpeaaDoorW.PrintLast Go.Proofs.YthebhbomlllpeaaDoorW.PrintMore
/-- a byte as a small letter. -/
def lowN (c : Nat) : Int := bits .or .u8 (c : Int) 32
/-- a byte as a digit at base 16. -/
def hexd (c : Nat) : Option Nat := if 48 ≤ c ∧ c ≤ 57 then some (c - 48) else if 97 ≤ lowN c ∧ lowN c ≤ 102 then some ((lowN c).toNat - 87) else none
def parse16 (acc : Nat) : List UInt8 → Lib.NumEnd Nat
  | [] => .ok acc
  | c :: r => match hexd c.toNat with
    | none => .syntax
    | some d => if 1152921504606846976 ≤ acc then .range else parse16 (acc * 16 + d) r
set_option maxHeartbeats 3200000 in
set_option maxRecDepth 100000 in
theorem internal_ParseUint16 (t : ByteArray) (hne : t.size ≠ 0) (hmax : t.size ≤ 9223372036854775806) (w : World) :
    Calls Tryd.prog 59 #[.string t, .int .i64 16, .int .i64 64] w fun e w' => e = .returned (Lib.uintTuple 118 (parse16 0 t.data.toList)) ∧ w' = Lib.bytesWorld w 5 t := by
  have hemp : t.toList.isEmpty = false := by
    rw [← decide_eq_emptyBytes]
    exact decide_eq_false (fun h => hne (by rw [h]; rfl))
  have hcv := Lib.run_convert_string_bytes (P := Tryd.prog) w 9 102 5 t (u := .string) Tryd.underlying9 Tryd.underlying102 Tryd.underlying5
  have hB : ∀ j, j < t.size → (Lib.bytesWorld w 5 t).cell? ⟨w.heap.size, j, none⟩ = some (.int .u8 (t.data.toList.getD j 0).toNat) := fun j hj => Lib.bytesWorld_cell w 5 t j hj
  obtain ⟨W1, hW1⟩ : ∃ W1, W1 = Lib.bytesWorld w 5 t := ⟨_, rfl⟩
  rw [← hW1] at hcv hB ⊢
  clear hW1
  obtain ⟨bs, hL⟩ : ∃ bs, bs = t.data.toList := ⟨_, rfl⟩
  have hLn : bs.length = t.size := by rw [hL, Lib.size_eq]
  rw [← hL] at hB ⊢
  clear hL
  have hmv : IntKind.u64.wrap (IntKind.u64.wrap 18446744073709551616 - 1) = 18446744073709551615 := by
    rw [IntKind.wrap_u64, IntKind.wrap_u64]
    decide
  go_enter Tryd.func59, Tryd.ntmps59
  go_wp2
  go_loop [12, 13, 101] (fun vu vn vi => ∃ (k acc : Nat) (a : Int), vu = .bool false ∧ vn = .int .u64 a ∧ vi = .int .i64 k ∧ k ≤ t.size ∧ Hid (a = (acc : Int) ∧ acc < 18446744073709551616 ∧ parse16 0 bs = parse16 acc (bs.drop k)))
    (fun _ _ vi => t.size - (intOf vi).toNat)
  case atStart => exact ⟨0, 0, 0, rfl, rfl, rfl, by omega, rfl, by omega, rfl⟩
  case round =>
    obtain ⟨k, acc, a, rfl, rfl, rfl, hk, hh⟩ := hrel
    obtain ⟨ha, hacc, hdec⟩ := hh.out
    clear hh
    have a0 : 0 ≤ a := by omega
    have a1 : a < 18446744073709551616 := by omega
    by_cases hkn : k < t.size
    · have hc := hB k hkn
      have hdrop : bs.drop k = bs[k]'(by omega) :: bs.drop (k + 1) := List.drop_eq_getElem_cons (by omega)
      have hget : bs.getD k 0 = bs[k]'(by omega) := by simp [List.getD, List.getElem?_eq_getElem (show k < bs.length by omega)]
      rw [hdrop] at hdec
      rw [hget] at hc
      generalize bs[k]'(by omega) = c at hc hdec
      have hc256 : c.toNat < 256 := c.toNat_lt
      clear hB hdrop hget
      by_cases hdig : 48 ≤ c.toNat ∧ c.toNat ≤ 57
      · have hh : hexd c.toNat = some (c.toNat - 48) := by unfold hexd; rw [if_pos hdig]
        obtain ⟨hd0, hd1⟩ := hdig
        by_cases hcut : 1152921504606846976 ≤ acc
        · have hF : parse16 acc (c :: bs.drop (k + 1)) = .range := by simp only [parse16, hh]; rw [if_pos hcut]
          rw [hF] at hdec
          have icut : 1152921504606846976 ≤ a := by omega
          clear hcut hacc hF ha hh
          go_wp2
          go_ret2
          exact ⟨rfl, rfl⟩
        · have hF : parse16 acc (c :: bs.drop (k + 1)) = parse16 (acc * 16 + (c.toNat - 48)) (bs.drop (k + 1)) := by simp only [parse16, hh]; rw [if_neg hcut]
          have HN : Hid (a * 16 + ((c.toNat : Int) - 48) = ((acc * 16 + (c.toNat - 48) : Nat) : Int) ∧ acc * 16 + (c.toNat - 48) < 18446744073709551616 ∧ parse16 0 bs = parse16 (acc * 16 + (c.toNat - 48)) (bs.drop (k + 1))) := Lib.hid ⟨by omega, by omega, hdec.trans hF⟩
          have icut : a < 1152921504606846976 := by omega
          have iov : a * 16 + ((c.toNat : Int) - 48) < 18446744073709551616 := by omega
          clear hcut hacc hF hdec ha hh
          go_wp2
          refine ⟨⟨k + 1, acc * 16 + (c.toNat - 48), a * 16 + ((c.toNat : Int) - 48), rfl, (by first | rfl | (congr 1; omega)), (by first | rfl | (congr 1; omega)), by omega, HN⟩, by simp [intOf]; omega⟩
      · obtain ⟨v, hv⟩ : ∃ v : Int, v = bits .or .u8 (c.toNat : Int) 32 := ⟨_, rfl⟩
        have hv0 : 0 ≤ v := hv ▸ bits_lo_u8 .or (c.toNat : Int) 32
        have hv1 : v ≤ 255 := by have := bits_hi_u8 .or (c.toNat : Int) 32; omega
        have hlow : lowN c.toNat = v := hv.symm
        have hlw : ∀ W, Calls Tryd.prog 79 #[.int .u8 (c.toNat : Int)] W fun e w' => e = .returned (.int .u8 v) ∧ w' = W := fun W => hv ▸ Tryd.internal_strconv_lower (c.toNat : Int) W
        have h127 : bits .or .u8 (95 : Int) 32 = 127 := by decide
        have h95 : c.toNat = 95 → v = 127 := fun h => by rw [hv, h]; exact h127
        clear hv
        have HLO := Aside0.mk hlw
        clear hlw
        have hnd : ¬ (48 ≤ (c.toNat : Int) ∧ (c.toNat : Int) ≤ 57) := by omega
        by_cases hlet : 97 ≤ v ∧ v ≤ 102
        · have hh : hexd c.toNat = some (v.toNat - 87) := by unfold hexd; rw [if_neg hdig, hlow, if_pos hlet]
          obtain ⟨hl0, hl1⟩ := hlet
          by_cases hcut : 1152921504606846976 ≤ acc
          · have hF : parse16 acc (c :: bs.drop (k + 1)) = .range := by simp only [parse16, hh]; rw [if_pos hcut]
            rw [hF] at hdec
            have icut : 1152921504606846976 ≤ a := by omega
            clear hcut hacc hF ha hh hlow
            have h95' : ¬ c.toNat = 95 := fun h => by have := h95 h; omega
            clear h95
            rcases (by omega : (c.toNat : Int) < 48 ∨ (57 < (c.toNat : Int) ∧ (c.toNat : Int) < 95) ∨ 95 < (c.toNat : Int)) with hq | ⟨hq, hq'⟩ | hq
            · go_wp2_with (go_at_call 79; refine (HLO.out _).mono ?_; rintro e w' ⟨rfl, rfl⟩)
              go_ret2
              exact ⟨by (try rw [hdec]); rfl, rfl⟩
            · go_wp2_with (go_at_call 79; refine (HLO.out _).mono ?_; rintro e w' ⟨rfl, rfl⟩)
              go_ret2
              exact ⟨by (try rw [hdec]); rfl, rfl⟩
            · go_wp2_with (go_at_call 79; refine (HLO.out _).mono ?_; rintro e w' ⟨rfl, rfl⟩)
              go_ret2
              exact ⟨by (try rw [hdec]); rfl, rfl⟩
          · have hF : parse16 acc (c :: bs.drop (k + 1)) = parse16 (acc * 16 + (v.toNat - 87)) (bs.drop (k + 1)) := by simp only [parse16, hh]; rw [if_neg hcut]
            have HN : Hid (a * 16 + (v - 87) = ((acc * 16 + (v.toNat - 87) : Nat) : Int) ∧ acc * 16 + (v.toNat - 87) < 18446744073709551616 ∧ parse16 0 bs = parse16 (acc * 16 + (v.toNat - 87)) (bs.drop (k + 1))) := Lib.hid ⟨by omega, by omega, hdec.trans hF⟩
            have icut : a < 1152921504606846976 := by omega
            have iov : a * 16 + (v - 87) < 18446744073709551616 := by omega
            clear hcut hacc hF hdec ha hh hlow
            have h95' : ¬ c.toNat = 95 := fun h => by have := h95 h; omega
            clear h95
            rcases (by omega : (c.toNat : Int) < 48 ∨ (57 < (c.toNat : Int) ∧ (c.toNat : Int) < 95) ∨ 95 < (c.toNat : Int)) with hq | ⟨hq, hq'⟩ | hq
            · go_wp2_with (go_at_call 79; refine (HLO.out _).mono ?_; rintro e w' ⟨rfl, rfl⟩)
              refine ⟨⟨k + 1, acc * 16 + (v.toNat - 87), a * 16 + (v - 87), rfl, (by first | rfl | (congr 1; omega)), (by first | rfl | (congr 1; omega)), by omega, HN⟩, by simp [intOf]; omega⟩
            · go_wp2_with (go_at_call 79; refine (HLO.out _).mono ?_; rintro e w' ⟨rfl, rfl⟩)
              refine ⟨⟨k + 1, acc * 16 + (v.toNat - 87), a * 16 + (v - 87), rfl, (by first | rfl | (congr 1; omega)), (by first | rfl | (congr 1; omega)), by omega, HN⟩, by simp [intOf]; omega⟩
            · go_wp2_with (go_at_call 79; refine (HLO.out _).mono ?_; rintro e w' ⟨rfl, rfl⟩)
              refine ⟨⟨k + 1, acc * 16 + (v.toNat - 87), a * 16 + (v - 87), rfl, (by first | rfl | (congr 1; omega)), (by first | rfl | (congr 1; omega)), by omega, HN⟩, by simp [intOf]; omega⟩
        · have hh : hexd c.toNat = none := by unfold hexd; rw [if_neg hdig, hlow, if_neg hlet]
          have hF : parse16 acc (c :: bs.drop (k + 1)) = .syntax := by simp only [parse16, hh]
          rw [hF] at hdec
          clear hacc hF ha hh hlow
          by_cases hq : (c.toNat : Int) = 95
          · rw [hq] at hc
            clear h95 HLO
            have HL95 : Aside0 (∀ W, Calls Tryd.prog 79 #[.int .u8 95] W fun e w' => e = .returned (.int .u8 127) ∧ w' = W) := ⟨fun W => h127 ▸ Tryd.internal_strconv_lower 95 W⟩
            clear h127
            go_wp2_with (go_at_call 79; refine (HL95.out _).mono ?_; rintro e w' ⟨rfl, rfl⟩)
            all_goals go_ret2
            all_goals exact ⟨by (try rw [hdec]); rfl, rfl⟩
          · rcases (by omega : (c.toNat : Int) < 48 ∨ (57 < (c.toNat : Int) ∧ (c.toNat : Int) < 95) ∨ 95 < (c.toNat : Int)) with hq | ⟨hq, hq'⟩ | hq
            all_goals go_wp2_with (go_at_call 79; refine (HLO.out _).mono ?_; rintro e w' ⟨rfl, rfl⟩)
            all_goals go_ret2
            all_goals exact ⟨by (try rw [hdec]); rfl, rfl⟩
    · have hkk : k = t.size := by omega
      subst hkk
      have hF : parse16 acc (bs.drop t.size) = .ok acc := by rw [List.drop_eq_nil_of_le (by omega)]; rfl
      rw [hF] at hdec
      subst ha
      clear hacc hF a0 a1
      go_wp2
      go_ret2
      exact ⟨rfl, rfl⟩
end Go.Proofs.YthebhbomlllpeaaDoor.X
namespace Go.Proofs.YthebhbomlllpeaaDoor.X
set_option linter.unusedVariables false
set_option linter.unusedSimpArgs false
open Go.RowKit Go.Proofs.YthebhbomlllpeaaDoorW.PrintWords Go.Proofs.YthebhbomlllpeaaDoorW.PrintLast Go.Proofs.YthebhbomlllpeaaDoorW.PrintMore
def strconv_FormatInt.f (a0 : Int) (a1 : Int) : Option ByteArray := if a1 = 10 ∧ -9223372036854775808 ≤ a0 ∧ a0 ≤ 9223372036854775807 then some ⟨(Lib.itoa a0).toArray⟩ else none
theorem below_grow (w : World) (k : Nat) (os : Array Obj) : Below w.heap.size w (Sort.grow (w.drewN k) os) := by
  have h : Below w.heap.size w (w.drewN k) := pw_below_drewN (Below.refl _ _) k
  refine ⟨h.os, h.tape, h.output, ?_, ?_⟩
  · simp [Sort.grow, World.drewN]
  · intro i hi
    simp [Sort.grow, World.drewN, Array.getElem?_append, hi]
theorem strconv_FormatInt.calls (a0 a1 : Int) (r : ByteArray) (w : World) (hLW : LaidW w) (h : strconv_FormatInt.f a0 a1 = some r) :
    Calls Tryd.prog 37 #[.int .i64 a0, .int .i64 a1] w fun e w' => e = .returned (.string r) ∧ Below w.heap.size w w' := by
  unfold strconv_FormatInt.f at h
  split at h
  · rename_i hc
    obtain ⟨rfl, h0, h1⟩ := hc
    obtain rfl := Option.some.inj h
    refine (Tryd.strconv_FormatInt_10 a0 h0 h1 w hLW.t10).mono ?_
    rintro e w' ⟨rfl, k, os, rfl⟩
    exact ⟨rfl, below_grow w k os⟩
  · cases h
def strings_Repeat.f (a0 : ByteArray) (a1 : Int) : Option ByteArray := if 0 ≤ a1 ∧ a1 ≤ 9223372036854775807 ∧ a0.size * a1.toNat ≤ 140737488355328 then some ⟨(Lib.repeatL a0.data.toList a1.toNat).toArray⟩ else none
theorem strings_Repeat.calls (a0 : ByteArray) (a1 : Int) (r : ByteArray) (w : World) (h : strings_Repeat.f a0 a1 = some r) :
    Calls Tryd.prog 39 #[.string a0, .int .i64 a1] w fun e w' => e = .returned (.string r) ∧ Below w.heap.size w w' := by
  unfold strings_Repeat.f at h
  split at h
  · rename_i hc
    obtain ⟨h0, h1, h2⟩ := hc
    obtain rfl := Option.some.inj h
    obtain ⟨n, rfl⟩ := Int.eq_ofNat_of_zero_le h0
    have h3 : n ≤ 9223372036854775807 := by omega
    have h4 : ((n : Int)).toNat = n := Int.toNat_natCast n
    rw [h4] at h2
    refine (Tryd.strings_Repeat a0 n w h3 h2).mono ?_
    rintro e w' ⟨rfl, hb⟩
    exact ⟨by simp only [h4], hb⟩
  · cases h
/-- a byte that may stand in a name. -/
def okB (c : Int) : Bool := decide (97 ≤ c ∧ c ≤ 122) || (decide (48 ≤ c ∧ c ≤ 57) || decide (c = 95))
def nameFrom (s : ByteArray) : Nat → Int → Bool
  | 0, _ => true
  | d + 1, i => okB (bt s i) && nameFrom s d (i + 1)
def nameB (s : ByteArray) : Bool := decide (1 ≤ s.size ∧ s.size ≤ 40) && (decide (97 ≤ bt s 0 ∧ bt s 0 ≤ 122) && nameFrom s s.size 0)
def antecedentref02_Name.f (a0 : ByteArray) : Option Bool := some (nameB a0)
theorem bt_nat (s : ByteArray) (pos : Nat) (h : pos < s.size) : bt s (pos : Int) = ((s[pos]'h).toNat : Int) := by
  have := bt_at s (pos : Int) (by simpa using h)
  simpa using this.symm
end Go.Proofs.YthebhbomlllpeaaDoor.X
namespace Go.Proofs.YthebhbomlllpeaaDoor.X
set_option linter.unusedVariables false
set_option linter.unusedSimpArgs false
open Go.RowKit Go.Proofs.YthebhbomlllpeaaDoorW.PrintWords Go.Proofs.YthebhbomlllpeaaDoorW.PrintLast Go.Proofs.YthebhbomlllpeaaDoorW.PrintMore
theorem toList_data (s : ByteArray) : s.toList = s.data.toList := ByteArray.toList_eq s
theorem toList_nil (s : ByteArray) : s.toList = ([] : List UInt8) ↔ s.size = 0 := by
  rw [toList_data]
  constructor
  · intro h; have := congrArg List.length h; simpa [data_length] using this
  · intro h; exact List.eq_nil_of_length_eq_zero (by rw [data_length]; exact h)
theorem value_letter_eq (c : Int) : value_letter.f c = some (decide (97 ≤ c ∧ c ≤ 122)) := by
  unfold value_letter.f
  by_cases h : c ≥ 97
  · rw [if_pos h]; congr 1; simp only [ge_iff_le] at h; simp [h]
  · rw [if_neg h]; congr 1; simp; omega
theorem value_inner_eq (c : Int) : value_inner.f c = some (okB c) := by
  unfold value_inner.f okB
  rw [value_letter_eq]
  simp only [Option.bind_some]
  by_cases h : 97 ≤ c ∧ c ≤ 122
  · simp [h]
  · simp only [h, decide_false, Bool.false_or]
    rw [if_neg (by simp)]
    by_cases h1 : c ≥ 48
    · rw [if_pos h1]
      by_cases h2 : c ≤ 57
      · rw [if_pos h2]; simp; omega
      · rw [if_neg h2]; congr 1; rw [Bool.eq_iff_iff]; simp; omega
    · rw [if_neg h1]; congr 1; rw [Bool.eq_iff_iff]; simp; omega
theorem wrap_succ {i : Int} {n : Nat} (h0 : 0 ≤ i) (h : i < (n : Int)) (hn : n ≤ 140737488355328) : wrap64 (i + 1) = i + 1 := by
  unfold wrap64
  omega
theorem value_Name_loop (s : ByteArray) (hs : s.size ≤ 40) : ∀ (d k : Nat) (i : Int), 0 ≤ i → (s.size : Int) - i = d → d < k → value_Name.l0 k s true (s.size : Int) i = some (nameFrom s d i)
  | 0, k, i, h0, hd, hk => by
    obtain ⟨k, rfl⟩ : ∃ m, k = m + 1 := ⟨k - 1, by omega⟩
    simp only [value_Name.l0, nameFrom]
    rw [if_neg (by omega)]
  | d + 1, k, i, h0, hd, hk => by
    obtain ⟨k, rfl⟩ : ∃ m, k = m + 1 := ⟨k - 1, by omega⟩
    simp only [value_Name.l0, nameFrom]
    rw [if_pos (by omega), if_pos h0, if_pos (by omega), value_inner_eq]
    simp only [Option.bind_some]
    cases hb : okB (bt s i) with
    | true =>
      rw [if_pos rfl, wrap_succ (n := s.size) h0 (by omega) (by omega), value_Name_loop s hs d k (i + 1) (by omega) (by omega) (by omega)]
      simp
    | false => simp
theorem value_Name_eq (s : ByteArray) (k : Nat) (hk : 42 ≤ k) : value_Name.f k s = some (nameB s) := by
  unfold value_Name.f nameB
  obtain ⟨k, rfl⟩ : ∃ m, k = m + 1 := ⟨k - 1, by omega⟩
  by_cases h0 : s.size = 0
  · rw [if_pos ((toList_nil s).2 h0)]
    simp [value_Name.j0, h0]
  · rw [if_neg (fun h => h0 ((toList_nil s).1 h))]
    by_cases h1 : (s.size : Int) > 40
    · rw [if_pos h1]
      have : ¬ (1 ≤ s.size ∧ s.size ≤ 40) := by omega
      simp [value_Name.j0, this]
    · rw [if_neg h1, if_pos (by omega), value_letter_eq]
      simp only [Option.bind_some]
      have hc : 1 ≤ s.size ∧ s.size ≤ 40 := by omega
      by_cases h2 : 97 ≤ bt s 0 ∧ bt s 0 ≤ 122
      · simp only [value_Name.j0, h2, hc, decide_true, Bool.not_true, Bool.true_and, and_self]
        rw [if_neg (by simp), value_Name_loop s (by omega) s.size k 0 (by omega) (by omega) (by omega)]
      · simp only [value_Name.j0, h2, decide_false, Bool.not_false, Bool.false_and, Bool.and_false, if_true]
/-- can a value be? -/
def floB (n : Int) : Bool := decide (n = 9221120237041090561) || (decide (-9218868437227405313 ≤ n) && decide (n ≤ 9218868437227405312))
def rightB (k n : Int) (s : ByteArray) : Bool :=
  if k = 1 then decide (s.size = 0) else if k = 2 then decide (s.size = 0) && floB n else if k = 3 then decide (n = 0) && nameB s else false
theorem flo_Right_eq (n : Int) : flo_Right.f n = some (floB n) := by
  unfold flo_Right.f floB
  by_cases h : n = 9221120237041090561
  · rw [if_pos h]; simp [h]
  · rw [if_neg h]
    by_cases h1 : n ≥ -9218868437227405313
    · rw [if_pos h1]; simp [h, h1]
    · rw [if_neg h1]; congr 1; symm; simp [h]; omega
theorem value_Right_eq (k : Nat) (hk : 42 ≤ k) (a b : Int) (s : ByteArray) : value_Right.f k a b s = some (rightB a b s) := by
  unfold value_Right.f rightB
  by_cases h1 : a = 1
  · rw [if_pos h1, if_pos h1]
    congr 1
    rw [Bool.eq_iff_iff, beq_iff_eq, decide_eq_true_iff, toList_nil]
  · rw [if_neg h1, if_neg h1]
    by_cases h2 : a = 2
    · rw [if_pos h2, if_pos h2]
      by_cases h3 : s.size = 0
      · rw [if_pos ((toList_nil s).2 h3), flo_Right_eq]; simp [h3]
      · rw [if_neg (fun h => h3 ((toList_nil s).1 h))]; simp [h3]
    · rw [if_neg h2, if_neg h2]
      by_cases h3 : a = 3
      · rw [if_pos h3, if_pos h3]
        by_cases h4 : b = 0
        · rw [if_pos h4, value_Name_eq s k hk]; simp [h4]
        · rw [if_neg h4]; simp [h4]
      · rw [if_neg h3, if_neg h3]
end Go.Proofs.YthebhbomlllpeaaDoor.X
namespace Go.Proofs.YthebhbomlllpeaaDoor.X
set_option linter.unusedVariables false
set_option linter.unusedSimpArgs false
open Go.RowKit Go.Proofs.YthebhbomlllpeaaDoorW.PrintWords Go.Proofs.YthebhbomlllpeaaDoorW.PrintLast Go.Proofs.YthebhbomlllpeaaDoorW.PrintMore
/-- sixteen digits at base 16, with zeros ahead. -/
def hex16 (u : Nat) : List UInt8 := List.replicate (16 - (hexL u).length) 48 ++ hexL u
/-- a value's text. -/
def textL (k n : Int) (s : ByteArray) : List UInt8 :=
  if rightB k n s = true then (if k = 1 then Lib.itoa n else if k = 2 then 35 :: hex16 (IntKind.u64.wrap n).toNat else s.data.toList) else []
theorem hexL_length (u : Nat) : ∀ d : Nat, 1 ≤ d → u < 16 ^ d → 1 ≤ (hexL u).length ∧ (hexL u).length ≤ d := by
  intro d
  induction d generalizing u with
  | zero => intro h; omega
  | succ d ih =>
    intro _ hu
    rw [hexL]
    split
    · simp
    · rename_i h
      have hd : 1 ≤ d := by
        rcases Nat.eq_zero_or_pos d with rfl | h'
        · simp at hu; omega
        · exact h'
      have := ih (u / 16) hd (by rw [Nat.pow_succ] at hu; omega)
      simp
      omega
theorem wrap_u64 (n : Int) : 0 ≤ IntKind.u64.wrap n ∧ IntKind.u64.wrap n < 18446744073709551616 := by
  rw [IntKind.wrap_u64]; omega
def value_Text.f (a0 a1 : Int) (a2 : ByteArray) : Option ByteArray := if -9223372036854775808 ≤ a1 ∧ a1 ≤ 9223372036854775807 then some ⟨(textL a0 a1 a2).toArray⟩ else none
theorem repeatL_one (c : UInt8) (n : Nat) : Lib.repeatL [c] n = List.replicate n c := by
  induction n with
  | zero => rfl
  | succ n ih => simp [Lib.repeatL, List.replicate_succ, ih]
theorem below_box {w w1 : World} {o : Obj} (h : Below (w.alloc o).heap.size (w.alloc o) w1) : Below w.heap.size w w1 :=
  below_then ((Below.refl w.heap.size w).alloc (Nat.le_refl _) o) (by simp) h
theorem box_cells {w w1 : World} {a b c : Value} {t : TypeId} (h : Below (w.alloc (.cells #[a, b, c] t)).heap.size (w.alloc (.cells #[a, b, c] t)) w1) :
    w1.cell? ⟨w.heap.size, 0, none⟩ = some a ∧ w1.cell? ⟨w.heap.size, 1, none⟩ = some b ∧ w1.cell? ⟨w.heap.size, 2, none⟩ = some c :=
  ⟨(h.cell (p := ⟨w.heap.size, 0, none⟩) (by simp)).trans (by rw [World.cell?_alloc_new]; rfl), (h.cell (p := ⟨w.heap.size, 1, none⟩) (by simp)).trans (by rw [World.cell?_alloc_new]; rfl), (h.cell (p := ⟨w.heap.size, 2, none⟩) (by simp)).trans (by rw [World.cell?_alloc_new]; rfl)⟩
set_option maxHeartbeats 1600000 in
set_option maxRecDepth 100000 in
theorem value_Text.calls (a0 a1 : Int) (a2 : ByteArray) (r : ByteArray) (w : World) (hLW : LaidW w) (h : value_Text.f a0 a1 a2 = some r) :
    Calls Tryd.prog 20 #[.agg #[.int .i64 a0, .int .i64 a1, .string a2]] w fun e w' => e = .returned (.string r) ∧ Below w.heap.size w w' := by
  unfold value_Text.f at h
  split at h
  · rename_i hr
    obtain rfl := Option.some.inj h
    clear h
    have hR := fun W => value_Right.calls 42 a0 a1 a2 (rightB a0 a1 a2) W (value_Right_eq 42 (Nat.le_refl _) a0 a1 a2)
    have HR := Aside0.mk hR
    clear hR
    cases hb : rightB a0 a1 a2 with
    | false =>
      have hT : textL a0 a1 a2 = [] := by unfold textL; rw [if_neg (by rw [hb]; simp)]
      rw [hb] at HR
      rw [hT]
      clear hT hb
      go_enter Tryd.func20, Tryd.ntmps20
      go_wp2_with (go_at_call 21; refine (HR.out _).mono ?_; rintro e w1 ⟨rfl, hb1⟩)
      go_ret
      exact ⟨rfl, below_box hb1⟩
    | true =>
      have hT : textL a0 a1 a2 = (if a0 = 1 then Lib.itoa a1 else if a0 = 2 then 35 :: hex16 (IntKind.u64.wrap a1).toNat else a2.data.toList) := by unfold textL; rw [if_pos hb]
      rw [hb] at HR
      rw [hT]
      clear hT
      by_cases k1 : a0 = 1
      · subst k1
        rw [if_pos rfl]
        have HF := Aside0.mk (fun W h => strconv_FormatInt.calls a1 10 ⟨(Lib.itoa a1).toArray⟩ W h (by unfold strconv_FormatInt.f; rw [if_pos ⟨rfl, hr.1, hr.2⟩]))
        clear hb
        go_enter Tryd.func20, Tryd.ntmps20
        go_wp2_with (first
          | (go_at_call 21; refine (HR.out _).mono ?_; rintro e w1 ⟨rfl, hb1⟩; have HB1 := Aside0.mk (below_box hb1); have HC1 := Aside0.mk (box_cells hb1); clear hb1; have hc0 := HC1.out.1; have hc1 := HC1.out.2.1; have hc2 := HC1.out.2.2; clear HC1)
          | (go_at_call 37; refine (HF.out _ (hLW.below HB1.out)).mono ?_; rintro e w2 ⟨rfl, hb2⟩; have HB2 := Aside0.mk (below_then HB1.out HB1.out.size hb2); clear hb2))
        go_ret
        exact ⟨rfl, HB2.out⟩
      · rw [if_neg k1]
        by_cases k2 : a0 = 2
        · subst k2
          rw [if_pos rfl]
          obtain ⟨hu0, hu1⟩ := wrap_u64 a1
          obtain ⟨u, hu⟩ := Int.eq_ofNat_of_zero_le hu0
          have hu64 : u < 18446744073709551616 := by omega
          have hlen := hexL_length u 16 (by omega) hu64
          have HF := Aside0.mk (fun W h => strconv_FormatUint.calls (IntKind.u64.wrap a1) 16 ⟨(hexL u).toArray⟩ W h (by unfold strconv_FormatUint.f; rw [if_pos ⟨rfl, hu0, hu1⟩, hu, Int.toNat_natCast]))
          have HRP := Aside0.mk (fun W => strings_Repeat.calls ⟨#[48]⟩ (16 - ((hexL u).length : Int)) ⟨(List.replicate (16 - (hexL u).length) 48).toArray⟩ W (by
            unfold strings_Repeat.f
            have e1 : (16 - ((hexL u).length : Int)).toNat = 16 - (hexL u).length := by omega
            have e2 : (⟨#[48]⟩ : ByteArray).size = 1 := rfl
            rw [if_pos ⟨by omega, by omega, by rw [e1, e2]; omega⟩, e1]
            congr 3
            exact repeatL_one 48 _))
          have hfin : (⟨(35 :: hex16 (IntKind.u64.wrap a1).toNat).toArray⟩ : ByteArray) = ((⟨#[35]⟩ : ByteArray) ++ ⟨(List.replicate (16 - (hexL u).length) 48).toArray⟩) ++ ⟨(hexL u).toArray⟩ := by
            rw [hu, Int.toNat_natCast]
            apply ByteArray.ext
            simp [hex16]
          have HFIN := Aside0.mk hfin
          have hs1 : (⟨(hexL u).toArray⟩ : ByteArray).size = (hexL u).length := by simp [ByteArray.size]
          have hs2 : (⟨(List.replicate (16 - (hexL u).length) 48).toArray⟩ : ByteArray).size = 16 - (hexL u).length := by simp [ByteArray.size]
          clear hb hu hu0 hu1 hu64 hfin
          go_enter Tryd.func20, Tryd.ntmps20
          go_wp2_with (first
            | (go_at_call 21; refine (HR.out _).mono ?_; rintro e w1 ⟨rfl, hb1⟩; have HB1 := Aside0.mk (below_box hb1); have HC1 := Aside0.mk (box_cells hb1); clear hb1; have hc0 := HC1.out.1; have hc1 := HC1.out.2.1; have hc2 := HC1.out.2.2; clear HC1)
            | (go_at_call 38; refine (HF.out _ (hLW.below HB1.out)).mono ?_; rintro e w2 ⟨rfl, hb2⟩; have HB2 := Aside0.mk (below_then HB1.out HB1.out.size hb2); clear hb2)
            | (go_at_call 39; refine (HRP.out _).mono ?_; rintro e w3 ⟨rfl, hb3⟩; have HB3 := Aside0.mk (below_then HB2.out HB2.out.size hb3); clear hb3))
          go_ret
          exact ⟨by rw [HFIN.out]; rfl, HB3.out⟩
        · rw [if_neg k2]
          have k3 : a0 = 3 := by
            unfold rightB at hb
            rw [if_neg k1, if_neg k2] at hb
            split at hb
            · assumption
            · cases hb
          subst k3
          clear hb k1 k2
          go_enter Tryd.func20, Tryd.ntmps20
          go_wp2_with (go_at_call 21; refine (HR.out _).mono ?_; rintro e w1 ⟨rfl, hb1⟩; have HB1 := Aside0.mk (below_box hb1); have HC1 := Aside0.mk (box_cells hb1); clear hb1; have hc0 := HC1.out.1; have hc1 := HC1.out.2.1; have hc2 := HC1.out.2.2; clear HC1)
          go_ret
          exact ⟨by rw [show (⟨a2.data.toList.toArray⟩ : ByteArray) = a2 from by apply ByteArray.ext; simp]; rfl, HB1.out⟩
  · cases h
end Go.Proofs.YthebhbomlllpeaaDoor.X
namespace Go.Proofs.YthebhbomlllpeaaDoor.X
set_option linter.unusedVariables false
set_option linter.unusedSimpArgs false
open Go.RowKit Go.Proofs.YthebhbomlllpeaaDoorW.PrintWords Go.Proofs.YthebhbomlllpeaaDoorW.PrintLast Go.Proofs.YthebhbomlllpeaaDoorW.PrintMore
/-- the number that ParseUint hands back at base 16. -/
def num16 (l : List UInt8) : Nat := match (if l = [] then .syntax else parse16 0 l) with
  | .ok n => n
  | .syntax => 0
  | .range => 18446744073709551615
def IsErr (v : Value) : Prop := ∃ tp p, v = .iface tp p
theorem cellSyn {w : World} (h : LaidW w) : ∃ tp p, w.cell? ⟨1, 0, none⟩ = some (.iface tp p) := by
  obtain ⟨tp, p, hv⟩ := h.eSyn
  exact ⟨tp, p, by have := World.var?_cell gSyn hv 0; simpa using this⟩
theorem cellRan {w : World} (h : LaidW w) : ∃ tp p, w.cell? ⟨2, 0, none⟩ = some (.iface tp p) := by
  obtain ⟨tp, p, hv⟩ := h.eRan
  exact ⟨tp, p, by have := World.var?_cell gRan hv 0; simpa using this⟩
theorem ba_zero {s : ByteArray} (h : s.size = 0) : s = ⟨#[]⟩ := by
  obtain ⟨⟨l⟩⟩ := s
  cases l with
  | nil => rfl
  | cons _ _ => simp [ByteArray.size] at h
theorem internalUint16 (s : ByteArray) (hs : s.size ≤ 281474976710656) (w : World) :
    Calls Tryd.prog 59 #[.string s, .int .i64 16, .int .i64 64] w fun e w' => e = .returned (Lib.uintTuple 118 (if s.data.toList = [] then .syntax else parse16 0 s.data.toList)) ∧ Below w.heap.size w w' := by
  by_cases h0 : s.size = 0
  · obtain rfl := ba_zero h0
    refine (Tryd.internal_strconv_ParseUint_empty 16 64 w).mono ?_
    rintro e w' ⟨rfl, rfl⟩
    exact ⟨rfl, Below.refl _ _⟩
  · refine (internal_ParseUint16 s h0 (by omega) w).mono ?_
    rintro e w' ⟨rfl, rfl⟩
    rw [if_neg (fun h => h0 (by rw [Lib.size_eq, h]; rfl))]
    exact ⟨rfl, Lib.bytesWorld_below _ _ _⟩
set_option maxHeartbeats 1600000 in
set_option maxRecDepth 100000 in
theorem parseUint16 (s : ByteArray) (hs : s.size ≤ 281474976710656) (w : World) (hLW : LaidW w) :
    Calls Tryd.prog 33 #[.string s, .int .i64 16, .int .i64 64] w fun e w' => ∃ er, e = .returned (.tuple #[.int .u64 (num16 s.data.toList : Int), er]) ∧ Below w.heap.size w w' := by
  have HU := Aside0.mk (internalUint16 s hs w)
  have HLW := Aside0.mk hLW
  have HS := Aside0.mk hs
  clear hLW hs
  unfold num16
  cases hE : (if s.data.toList = [] then Lib.NumEnd.syntax else parse16 0 s.data.toList) with
  | ok n =>
    rw [hE] at HU
    have HU' : Aside0 (Calls Tryd.prog 59 #[.string s, .int .i64 16, .int .i64 64] w fun e w' => e = .returned (.tuple #[.int .u64 (n : Int), .nilIface]) ∧ Below w.heap.size w w') := HU
    clear HU hE
    go_enter Tryd.func33, Tryd.ntmps33
    go_wp2_with fail
    refine HU'.out.mono ?_
    rintro e w1 ⟨rfl, hb⟩
    have HB := Aside0.mk hb
    clear hb
    go_wp2
    go_ret2
    exact ⟨_, rfl, HB.out⟩
  | «syntax» =>
    rw [hE] at HU
    have HU' : Aside0 (Calls Tryd.prog 59 #[.string s, .int .i64 16, .int .i64 64] w fun e w' => e = .returned (.tuple #[.int .u64 0, .iface 118 (.int .i64 2)]) ∧ Below w.heap.size w w') := HU
    clear HU hE
    go_enter Tryd.func33, Tryd.ntmps33
    go_wp2_with fail
    refine HU'.out.mono ?_
    rintro e w1 ⟨rfl, hb⟩
    have HB := Aside0.mk hb
    clear hb
    go_wp2_with fail
    obtain ⟨tp, p, hc⟩ := cellSyn (HLW.out.below HB.out)
    refine (Tryd.strconv_toError_syntax _ s 16 64 _ w1 HS.out hc (Or.inr ⟨tp, p, rfl⟩)).mono ?_
    rintro e w2 ⟨N, rfl, -, -, hb⟩
    have HB2 := Aside0.mk (below_then HB.out HB.out.size hb)
    clear hb
    go_wp2
    go_ret2
    exact ⟨_, rfl, HB2.out⟩
  | range =>
    rw [hE] at HU
    have HU' : Aside0 (Calls Tryd.prog 59 #[.string s, .int .i64 16, .int .i64 64] w fun e w' => e = .returned (.tuple #[.int .u64 18446744073709551615, .iface 118 (.int .i64 1)]) ∧ Below w.heap.size w w') := HU
    clear HU hE
    go_enter Tryd.func33, Tryd.ntmps33
    go_wp2_with fail
    refine HU'.out.mono ?_
    rintro e w1 ⟨rfl, hb⟩
    have HB := Aside0.mk hb
    clear hb
    go_wp2_with fail
    obtain ⟨tp, p, hc⟩ := cellRan (HLW.out.below HB.out)
    refine (Tryd.strconv_toError_range _ s 16 64 _ w1 HS.out hc (Or.inr ⟨tp, p, rfl⟩)).mono ?_
    rintro e w2 ⟨N, rfl, -, -, hb⟩
    have HB2 := Aside0.mk (below_then HB.out HB.out.size hb)
    clear hb
    go_wp2
    go_ret2
    exact ⟨_, rfl, HB2.out⟩
/-- ParseInt at base 10: the number, or an error. -/
theorem parseInt10 (s : ByteArray) (hs : s.size ≤ 281474976710656) (w : World) (hLW : LaidW w) :
    Calls Tryd.prog 34 #[.string s, .int .i64 10, .int .i64 64] w fun e w' => ∃ n er, e = .returned (.tuple #[.int .i64 n, er]) ∧ ((∃ v, Lib.parseIntB 64 s.data.toList = .ok v ∧ n = v ∧ er = .nilIface) ∨ ((∀ v, Lib.parseIntB 64 s.data.toList ≠ .ok v) ∧ IsErr er)) ∧ Below w.heap.size w w' := by
  cases hE : Lib.parseIntB 64 s.data.toList with
  | ok v =>
    refine (Tryd.strconv_ParseInt_10_at64_ok s (by omega) v hE w).mono ?_
    rintro e w' ⟨rfl, hw⟩
    refine ⟨_, _, rfl, Or.inl ⟨v, rfl, rfl, rfl⟩, ?_⟩
    rcases hw with rfl | ⟨t, rfl⟩
    · exact Below.refl _ _
    · exact Lib.bytesWorld_below _ _ _
  | «syntax» =>
    obtain ⟨tp, p, hv⟩ := hLW.eSyn
    refine (Tryd.strconv_ParseInt_10_at64_syntax_var s hs hE tp p w hv).mono ?_
    rintro e w' ⟨N, rfl, -, -, hb⟩
    exact ⟨_, _, rfl, Or.inr ⟨(fun v h => by cases h), ⟨_, _, rfl⟩⟩, hb⟩
  | range =>
    obtain ⟨tp, p, hv⟩ := hLW.eRan
    refine (Tryd.strconv_ParseInt_10_at64_range_var s hs hE tp p w hv).mono ?_
    rintro e w' ⟨N, rfl, -, -, hb⟩
    exact ⟨_, _, rfl, Or.inr ⟨(fun v h => by cases h), ⟨_, _, rfl⟩⟩, hb⟩
def candR (t : ByteArray) : Int × Int × ByteArray :=
  if Lib.hasPrefix t.data.toList [35] = true then (2, wrap64 (num16 (Lib.trimPrefix t.data.toList [35])), ⟨#[]⟩)
  else match Lib.parseIntB 64 t.data.toList with
    | .ok n => (1, n, ⟨#[]⟩)
    | _ => (3, 0, t)
def readR (t : ByteArray) : Int × Int × ByteArray × Int :=
  if t.size = 0 ∨ textL (candR t).1 (candR t).2.1 (candR t).2.2 ≠ t.data.toList then (0, 0, ⟨#[]⟩, 2) else ((candR t).1, (candR t).2.1, (candR t).2.2, 0)
def value_Read.f (a0 : ByteArray) : Option (Int × Int × ByteArray × Int) := if a0.size ≤ 281474976710656 then some (readR a0) else none
theorem below_two (w : World) (a b : Obj) : Below w.heap.size w ((w.alloc a).alloc b) := ((Below.refl _ _).alloc (Nat.le_refl _) a).alloc (by simp) b
theorem two_1 (w : World) (a b : Array Value) (t u : TypeId) : ((w.alloc (.cells a t)).alloc (.cells b u)).heap[w.heap.size + 1]? = some (.cells b u (0, 0)) := by
  have := blk_new (w.alloc (.cells a t)) (.cells b u)
  rwa [show (w.alloc (.cells a t)).heap.size = w.heap.size + 1 from Array.size_push ..] at this
theorem two_0 (w : World) (a b : Array Value) (t u : TypeId) : ((w.alloc (.cells a t)).alloc (.cells b u)).heap[w.heap.size]? = some (.cells a t (0, 0)) := blk_alloc (blk_new w _) _
theorem trim_le (t : ByteArray) : (⟨(Lib.trimPrefix t.data.toList [35]).toArray⟩ : ByteArray).size ≤ t.size := by
  rw [Lib.size_eq, Lib.size_eq t, List.toList_toArray]
  unfold Lib.trimPrefix
  split
  · rw [List.length_drop]; omega
  · exact Nat.le_refl _
theorem int_ok (t : ByteArray) (hs : t.size ≤ 281474976710656) (w : World) (n : Int) (hn : Lib.parseIntB 64 t.data.toList = .ok n) :
    Calls Tryd.prog 34 #[.string t, .int .i64 10, .int .i64 64] w fun e w' => e = .returned (.tuple #[.int .i64 n, .nilIface]) ∧ Below w.heap.size w w' := by
  refine (Tryd.strconv_ParseInt_10_at64_ok t (by omega) n hn w).mono ?_
  rintro e w' ⟨rfl, hw⟩
  refine ⟨rfl, ?_⟩
  rcases hw with rfl | ⟨t, rfl⟩
  · exact Below.refl _ _
  · exact Lib.bytesWorld_below _ _ _
theorem int_err (t : ByteArray) (hs : t.size ≤ 281474976710656) (w : World) (hLW : LaidW w) (hn : ∀ n, Lib.parseIntB 64 t.data.toList ≠ .ok n) :
    Calls Tryd.prog 34 #[.string t, .int .i64 10, .int .i64 64] w fun e w' => ∃ m tp p, e = .returned (.tuple #[.int .i64 m, .iface tp p]) ∧ Below w.heap.size w w' := by
  refine (parseInt10 t hs w hLW).mono ?_
  rintro e w' ⟨m, er, rfl, h | ⟨h, tp, p, rfl⟩, hb⟩
  · obtain ⟨v, hv, _⟩ := h
    exact absurd hv (hn v)
  · exact ⟨m, tp, p, rfl, hb⟩
set_option maxHeartbeats 1600000 in
set_option maxRecDepth 100000 in
theorem read_hash (t : ByteArray) (hs : t.size ≤ 281474976710656) (w : World) (hLW0 : LaidW w) (hp : Lib.hasPrefix t.data.toList [35] = true) (h0 : t.size ≠ 0) :
    Calls Tryd.prog 18 #[.string t] w fun e w' => e = .returned (.tuple #[.agg #[.int .i64 (readR t).1, .int .i64 (readR t).2.1, .string (readR t).2.2.1], .int .i64 (readR t).2.2.2]) ∧ Below w.heap.size w w' := by
  have hemp : t.toList.isEmpty = false := by
    rw [← decide_eq_emptyBytes]
    exact decide_eq_false (fun h => h0 (by rw [h]; rfl))
  have HLW := Aside0.mk hLW0
  clear hLW0
  have hcut := Tryd.strings_CutPrefix t ⟨#[35]⟩
  rw [show (⟨#[35]⟩ : ByteArray).data.toList = [35] from rfl, hp] at hcut
  have HC := Aside0.mk hcut
  clear hcut
  have hcand : candR t = (2, wrap64 (num16 (Lib.trimPrefix t.data.toList [35]) : Int), ⟨#[]⟩) := by unfold candR; rw [if_pos hp]
  have HR : Aside0 (-9223372036854775808 ≤ wrap64 (num16 (Lib.trimPrefix t.data.toList [35]) : Int) ∧ wrap64 (num16 (Lib.trimPrefix t.data.toList [35]) : Int) ≤ 9223372036854775807) := ⟨by unfold wrap64; omega⟩
  clear hp
  go_enter Tryd.func18, Tryd.ntmps18
  go_wp2_with fail
  refine (HC.out _).mono ?_
  rintro e w1 ⟨rfl, rfl⟩
  go_wp2_with fail
  have HB0 := Aside0.mk (below_two w (.cells #[.int .i64 0, .int .i64 0, .string ⟨#[]⟩] 36) (.cells #[.int .i64 3, .int .i64 0, .string t] 36))
  have K00 := Aside0.mk (two_0 w #[.int .i64 0, .int .i64 0, .string ⟨#[]⟩] #[.int .i64 3, .int .i64 0, .string t] 36 36)
  have K01 := Aside0.mk (two_1 w #[.int .i64 0, .int .i64 0, .string ⟨#[]⟩] #[.int .i64 3, .int .i64 0, .string t] 36 36)
  refine (parseUint16 _ (by have := trim_le t; omega) _ ((HLW.out.alloc _).alloc _)).mono ?_
  rintro e w1 ⟨er, rfl, hb1⟩
  have K0 := Aside0.mk (blk_below (g := w.heap.size) K00.out hb1)
  have K1 := Aside0.mk (blk_below (g := w.heap.size + 1) K01.out hb1)
  have HB := Aside0.mk (below_then HB0.out HB0.out.size hb1)
  clear hb1 HB0 K00 K01
  have hz0 : w1.cell? ⟨w.heap.size + 1, 0, none⟩ = some (.int .i64 3) := (blk_cell K1.out 0).trans rfl
  have hz1 : w1.cell? ⟨w.heap.size + 1, 1, none⟩ = some (.int .i64 0) := (blk_cell K1.out 1).trans rfl
  have hz2 : w1.cell? ⟨w.heap.size + 1, 2, none⟩ = some (.string t) := (blk_cell K1.out 2).trans rfl
  have hzf0 := blk_frozen K1.out 0
  have hzf1 := blk_frozen K1.out 1
  have hzf2 := blk_frozen K1.out 2
  go_wp2_with fail
  clear hz0 hz1 hz2 hzf0 hzf1 hzf2
  have HBs : Aside0 (Below w.heap.size w (((w1.setCell ⟨w.heap.size + 1, 0, none⟩ (.int .i64 2)).setCell ⟨w.heap.size + 1, 1, none⟩ (.int .i64 (wrap64 (num16 (Lib.trimPrefix t.data.toList [35]) : Int)))).setCell ⟨w.heap.size + 1, 2, none⟩ (.string ⟨#[]⟩))) := ⟨below_set (below_set (below_set HB.out (by omega)) (by omega)) (by omega)⟩
  have K1s : Aside0 ((((w1.setCell ⟨w.heap.size + 1, 0, none⟩ (.int .i64 2)).setCell ⟨w.heap.size + 1, 1, none⟩ (.int .i64 (wrap64 (num16 (Lib.trimPrefix t.data.toList [35]) : Int)))).setCell ⟨w.heap.size + 1, 2, none⟩ (.string ⟨#[]⟩)).heap[w.heap.size + 1]? = some (.cells #[.int .i64 2, .int .i64 (wrap64 (num16 (Lib.trimPrefix t.data.toList [35]) : Int)), .string ⟨#[]⟩] 36 (0, 0))) := ⟨blk_put (cs := #[.int .i64 2, .int .i64 (wrap64 (num16 (Lib.trimPrefix t.data.toList [35]) : Int)), .string t]) (blk_put (cs := #[.int .i64 2, .int .i64 0, .string t]) (blk_put (cs := #[.int .i64 3, .int .i64 0, .string t]) K1.out 0 _ rfl) 1 _ rfl) 2 _ rfl⟩
  have K0s : Aside0 ((((w1.setCell ⟨w.heap.size + 1, 0, none⟩ (.int .i64 2)).setCell ⟨w.heap.size + 1, 1, none⟩ (.int .i64 (wrap64 (num16 (Lib.trimPrefix t.data.toList [35]) : Int)))).setCell ⟨w.heap.size + 1, 2, none⟩ (.string ⟨#[]⟩)).heap[w.heap.size]? = some (.cells #[.int .i64 0, .int .i64 0, .string ⟨#[]⟩] 36 (0, 0))) := ⟨blk_far (blk_far (blk_far K0.out (by show w.heap.size ≠ w.heap.size + 1; omega) _) (by show w.heap.size ≠ w.heap.size + 1; omega) _) (by show w.heap.size ≠ w.heap.size + 1; omega) _⟩
  have HLs := HLW.out.below HBs.out
  refine (value_Text.calls (2) (wrap64 (num16 (Lib.trimPrefix t.data.toList [35]) : Int)) (⟨#[]⟩) _ _ HLs (by unfold value_Text.f; rw [if_pos HR.out])).mono ?_
  rintro e w2 ⟨rfl, hb2⟩
  have K0' := Aside0.mk (blk_below (g := w.heap.size) K0s.out hb2)
  have K1' := Aside0.mk (blk_below (g := w.heap.size + 1) K1s.out hb2)
  have HB2 := Aside0.mk (below_then HBs.out HBs.out.size hb2)
  clear hb2 HBs K0s K1s HLs
  have ha0 : w2.cell? ⟨w.heap.size, 0, none⟩ = some (.int .i64 0) := (blk_cell K0'.out 0).trans rfl
  have ha1 : w2.cell? ⟨w.heap.size, 1, none⟩ = some (.int .i64 0) := (blk_cell K0'.out 1).trans rfl
  have ha2 : w2.cell? ⟨w.heap.size, 2, none⟩ = some (.string ⟨#[]⟩) := (blk_cell K0'.out 2).trans rfl
  have haf0 := blk_frozen K0'.out 0
  have haf1 := blk_frozen K0'.out 1
  have haf2 := blk_frozen K0'.out 2
  have hb0 : w2.cell? ⟨w.heap.size + 1, 0, none⟩ = some (.int .i64 2) := (blk_cell K1'.out 0).trans rfl
  have hb1 : w2.cell? ⟨w.heap.size + 1, 1, none⟩ = some (.int .i64 (wrap64 (num16 (Lib.trimPrefix t.data.toList [35]) : Int))) := (blk_cell K1'.out 1).trans rfl
  have hb2 : w2.cell? ⟨w.heap.size + 1, 2, none⟩ = some (.string ⟨#[]⟩) := (blk_cell K1'.out 2).trans rfl
  have hbf0 := blk_frozen K1'.out 0
  have hbf1 := blk_frozen K1'.out 1
  have hbf2 := blk_frozen K1'.out 2
  have hn1 : w.heap.size ≠ w.heap.size + 1 := by omega
  have hn2 : w.heap.size + 1 ≠ w.heap.size := by omega
  by_cases hT : textL (2) (wrap64 (num16 (Lib.trimPrefix t.data.toList [35]) : Int)) (⟨#[]⟩) = t.data.toList
  · have hR : readR t = (2, wrap64 (num16 (Lib.trimPrefix t.data.toList [35]) : Int), ⟨#[]⟩, 0) := by unfold readR; rw [hcand, if_neg (by rintro (h | h); exact h0 h; exact h hT)]
    have hne : (textL (2) (wrap64 (num16 (Lib.trimPrefix t.data.toList [35]) : Int)) (⟨#[]⟩) == t.toList) = true := by rw [toList_data, hT]; simp
    go_wp2
    refine bodyPost_ret (results_ct rfl _ _ w.heap.size 36 #[.int .i64 2, .int .i64 (wrap64 (num16 (Lib.trimPrefix t.data.toList [35]) : Int)), .string ⟨#[]⟩] (0, 0) _ rfl (blk_put (cs := #[.int .i64 2, .int .i64 (wrap64 (num16 (Lib.trimPrefix t.data.toList [35]) : Int)), .string ⟨#[]⟩]) (blk_put (cs := #[.int .i64 2, .int .i64 0, .string ⟨#[]⟩]) (blk_put (cs := #[.int .i64 0, .int .i64 0, .string ⟨#[]⟩]) K0'.out 0 _ rfl) 1 _ rfl) 2 _ rfl) Tryd.underlying36 rfl (by kernel_rfl)) rfl ?_
    exact ⟨(by rw [hR]; try rfl), below_set (below_set (below_set HB2.out (Nat.le_refl _)) (Nat.le_refl _)) (Nat.le_refl _)⟩
  · have hR : readR t = (0, 0, ⟨#[]⟩, 2) := by unfold readR; rw [hcand, if_pos (Or.inr hT)]
    have hne : (textL (2) (wrap64 (num16 (Lib.trimPrefix t.data.toList [35]) : Int)) (⟨#[]⟩) == t.toList) = false := by rw [toList_data, beq_eq_false_iff_ne]; exact hT
    go_wp2
    refine bodyPost_ret (results_ct rfl _ _ w.heap.size 36 #[.int .i64 0, .int .i64 0, .string ⟨#[]⟩] (0, 0) _ rfl (blk_put (cs := #[.int .i64 0, .int .i64 0, .string ⟨#[]⟩]) (blk_put (cs := #[.int .i64 0, .int .i64 0, .string ⟨#[]⟩]) (blk_put (cs := #[.int .i64 0, .int .i64 0, .string ⟨#[]⟩]) K0'.out 0 _ rfl) 1 _ rfl) 2 _ rfl) Tryd.underlying36 rfl (by kernel_rfl)) rfl ?_
    exact ⟨(by rw [hR]; try rfl), below_set (below_set (below_set HB2.out (Nat.le_refl _)) (Nat.le_refl _)) (Nat.le_refl _)⟩
set_option maxHeartbeats 1600000 in
set_option maxRecDepth 100000 in
theorem read_int (t : ByteArray) (hs : t.size ≤ 281474976710656) (w : World) (hLW0 : LaidW w) (hp : Lib.hasPrefix t.data.toList [35] = false) (n : Int) (hn : Lib.parseIntB 64 t.data.toList = .ok n) (h0 : t.size ≠ 0) :
    Calls Tryd.prog 18 #[.string t] w fun e w' => e = .returned (.tuple #[.agg #[.int .i64 (readR t).1, .int .i64 (readR t).2.1, .string (readR t).2.2.1], .int .i64 (readR t).2.2.2]) ∧ Below w.heap.size w w' := by
  have hemp : t.toList.isEmpty = false := by
    rw [← decide_eq_emptyBytes]
    exact decide_eq_false (fun h => h0 (by rw [h]; rfl))
  have HLW := Aside0.mk hLW0
  clear hLW0
  have hcut := Tryd.strings_CutPrefix t ⟨#[35]⟩
  rw [show (⟨#[35]⟩ : ByteArray).data.toList = [35] from rfl, hp] at hcut
  have HC := Aside0.mk hcut
  clear hcut
  have hcand : candR t = (1, n, ⟨#[]⟩) := by unfold candR; rw [if_neg (by simp [hp]), hn]
  have HR : Aside0 (-9223372036854775808 ≤ n ∧ n ≤ 9223372036854775807) := ⟨by have := Lib.parseIntB_bounds hn; have e : ((2 ^ (64 - 1) : Nat) : Int) = 9223372036854775808 := (by decide); rw [e] at this; omega⟩
  have HI : Aside0 (∀ w, Calls Tryd.prog 34 #[.string t, .int .i64 10, .int .i64 64] w fun e w' => e = .returned (.tuple #[.int .i64 n, .nilIface]) ∧ Below w.heap.size w w') := ⟨fun w => int_ok t hs w n hn⟩
  clear hp hn
  go_enter Tryd.func18, Tryd.ntmps18
  go_wp2_with fail
  refine (HC.out _).mono ?_
  rintro e w1 ⟨rfl, rfl⟩
  go_wp2_with fail
  have HB0 := Aside0.mk (below_two w (.cells #[.int .i64 0, .int .i64 0, .string ⟨#[]⟩] 36) (.cells #[.int .i64 3, .int .i64 0, .string t] 36))
  have K00 := Aside0.mk (two_0 w #[.int .i64 0, .int .i64 0, .string ⟨#[]⟩] #[.int .i64 3, .int .i64 0, .string t] 36 36)
  have K01 := Aside0.mk (two_1 w #[.int .i64 0, .int .i64 0, .string ⟨#[]⟩] #[.int .i64 3, .int .i64 0, .string t] 36 36)
  refine (HI.out _).mono ?_
  rintro e w1 ⟨rfl, hb1⟩
  have K0 := Aside0.mk (blk_below (g := w.heap.size) K00.out hb1)
  have K1 := Aside0.mk (blk_below (g := w.heap.size + 1) K01.out hb1)
  have HB := Aside0.mk (below_then HB0.out HB0.out.size hb1)
  clear hb1 HB0 K00 K01
  have hz0 : w1.cell? ⟨w.heap.size + 1, 0, none⟩ = some (.int .i64 3) := (blk_cell K1.out 0).trans rfl
  have hz1 : w1.cell? ⟨w.heap.size + 1, 1, none⟩ = some (.int .i64 0) := (blk_cell K1.out 1).trans rfl
  have hz2 : w1.cell? ⟨w.heap.size + 1, 2, none⟩ = some (.string t) := (blk_cell K1.out 2).trans rfl
  have hzf0 := blk_frozen K1.out 0
  have hzf1 := blk_frozen K1.out 1
  have hzf2 := blk_frozen K1.out 2
  go_wp2_with fail
  clear hz0 hz1 hz2 hzf0 hzf1 hzf2
  have HBs : Aside0 (Below w.heap.size w (((w1.setCell ⟨w.heap.size + 1, 0, none⟩ (.int .i64 1)).setCell ⟨w.heap.size + 1, 1, none⟩ (.int .i64 n)).setCell ⟨w.heap.size + 1, 2, none⟩ (.string ⟨#[]⟩))) := ⟨below_set (below_set (below_set HB.out (by omega)) (by omega)) (by omega)⟩
  have K1s : Aside0 ((((w1.setCell ⟨w.heap.size + 1, 0, none⟩ (.int .i64 1)).setCell ⟨w.heap.size + 1, 1, none⟩ (.int .i64 n)).setCell ⟨w.heap.size + 1, 2, none⟩ (.string ⟨#[]⟩)).heap[w.heap.size + 1]? = some (.cells #[.int .i64 1, .int .i64 n, .string ⟨#[]⟩] 36 (0, 0))) := ⟨blk_put (cs := #[.int .i64 1, .int .i64 n, .string t]) (blk_put (cs := #[.int .i64 1, .int .i64 0, .string t]) (blk_put (cs := #[.int .i64 3, .int .i64 0, .string t]) K1.out 0 _ rfl) 1 _ rfl) 2 _ rfl⟩
  have K0s : Aside0 ((((w1.setCell ⟨w.heap.size + 1, 0, none⟩ (.int .i64 1)).setCell ⟨w.heap.size + 1, 1, none⟩ (.int .i64 n)).setCell ⟨w.heap.size + 1, 2, none⟩ (.string ⟨#[]⟩)).heap[w.heap.size]? = some (.cells #[.int .i64 0, .int .i64 0, .string ⟨#[]⟩] 36 (0, 0))) := ⟨blk_far (blk_far (blk_far K0.out (by show w.heap.size ≠ w.heap.size + 1; omega) _) (by show w.heap.size ≠ w.heap.size + 1; omega) _) (by show w.heap.size ≠ w.heap.size + 1; omega) _⟩
  have HLs := HLW.out.below HBs.out
  refine (value_Text.calls (1) (n) (⟨#[]⟩) _ _ HLs (by unfold value_Text.f; rw [if_pos HR.out])).mono ?_
  rintro e w2 ⟨rfl, hb2⟩
  have K0' := Aside0.mk (blk_below (g := w.heap.size) K0s.out hb2)
  have K1' := Aside0.mk (blk_below (g := w.heap.size + 1) K1s.out hb2)
  have HB2 := Aside0.mk (below_then HBs.out HBs.out.size hb2)
  clear hb2 HBs K0s K1s HLs
  have ha0 : w2.cell? ⟨w.heap.size, 0, none⟩ = some (.int .i64 0) := (blk_cell K0'.out 0).trans rfl
  have ha1 : w2.cell? ⟨w.heap.size, 1, none⟩ = some (.int .i64 0) := (blk_cell K0'.out 1).trans rfl
  have ha2 : w2.cell? ⟨w.heap.size, 2, none⟩ = some (.string ⟨#[]⟩) := (blk_cell K0'.out 2).trans rfl
  have haf0 := blk_frozen K0'.out 0
  have haf1 := blk_frozen K0'.out 1
  have haf2 := blk_frozen K0'.out 2
  have hb0 : w2.cell? ⟨w.heap.size + 1, 0, none⟩ = some (.int .i64 1) := (blk_cell K1'.out 0).trans rfl
  have hb1 : w2.cell? ⟨w.heap.size + 1, 1, none⟩ = some (.int .i64 n) := (blk_cell K1'.out 1).trans rfl
  have hb2 : w2.cell? ⟨w.heap.size + 1, 2, none⟩ = some (.string ⟨#[]⟩) := (blk_cell K1'.out 2).trans rfl
  have hbf0 := blk_frozen K1'.out 0
  have hbf1 := blk_frozen K1'.out 1
  have hbf2 := blk_frozen K1'.out 2
  have hn1 : w.heap.size ≠ w.heap.size + 1 := by omega
  have hn2 : w.heap.size + 1 ≠ w.heap.size := by omega
  by_cases hT : textL (1) (n) (⟨#[]⟩) = t.data.toList
  · have hR : readR t = (1, n, ⟨#[]⟩, 0) := by unfold readR; rw [hcand, if_neg (by rintro (h | h); exact h0 h; exact h hT)]
    have hne : (textL (1) (n) (⟨#[]⟩) == t.toList) = true := by rw [toList_data, hT]; simp
    go_wp2
    refine bodyPost_ret (results_ct rfl _ _ w.heap.size 36 #[.int .i64 1, .int .i64 n, .string ⟨#[]⟩] (0, 0) _ rfl (blk_put (cs := #[.int .i64 1, .int .i64 n, .string ⟨#[]⟩]) (blk_put (cs := #[.int .i64 1, .int .i64 0, .string ⟨#[]⟩]) (blk_put (cs := #[.int .i64 0, .int .i64 0, .string ⟨#[]⟩]) K0'.out 0 _ rfl) 1 _ rfl) 2 _ rfl) Tryd.underlying36 rfl (by kernel_rfl)) rfl ?_
    exact ⟨(by rw [hR]; try rfl), below_set (below_set (below_set HB2.out (Nat.le_refl _)) (Nat.le_refl _)) (Nat.le_refl _)⟩
  · have hR : readR t = (0, 0, ⟨#[]⟩, 2) := by unfold readR; rw [hcand, if_pos (Or.inr hT)]
    have hne : (textL (1) (n) (⟨#[]⟩) == t.toList) = false := by rw [toList_data, beq_eq_false_iff_ne]; exact hT
    go_wp2
    refine bodyPost_ret (results_ct rfl _ _ w.heap.size 36 #[.int .i64 0, .int .i64 0, .string ⟨#[]⟩] (0, 0) _ rfl (blk_put (cs := #[.int .i64 0, .int .i64 0, .string ⟨#[]⟩]) (blk_put (cs := #[.int .i64 0, .int .i64 0, .string ⟨#[]⟩]) (blk_put (cs := #[.int .i64 0, .int .i64 0, .string ⟨#[]⟩]) K0'.out 0 _ rfl) 1 _ rfl) 2 _ rfl) Tryd.underlying36 rfl (by kernel_rfl)) rfl ?_
    exact ⟨(by rw [hR]; try rfl), below_set (below_set (below_set HB2.out (Nat.le_refl _)) (Nat.le_refl _)) (Nat.le_refl _)⟩
set_option maxHeartbeats 1600000 in
set_option maxRecDepth 100000 in
theorem read_sym (t : ByteArray) (hs : t.size ≤ 281474976710656) (w : World) (hLW0 : LaidW w) (hp : Lib.hasPrefix t.data.toList [35] = false) (hn : ∀ n, Lib.parseIntB 64 t.data.toList ≠ .ok n) (h0 : t.size ≠ 0) :
    Calls Tryd.prog 18 #[.string t] w fun e w' => e = .returned (.tuple #[.agg #[.int .i64 (readR t).1, .int .i64 (readR t).2.1, .string (readR t).2.2.1], .int .i64 (readR t).2.2.2]) ∧ Below w.heap.size w w' := by
  have hemp : t.toList.isEmpty = false := by
    rw [← decide_eq_emptyBytes]
    exact decide_eq_false (fun h => h0 (by rw [h]; rfl))
  have HLW := Aside0.mk hLW0
  clear hLW0
  have hcut := Tryd.strings_CutPrefix t ⟨#[35]⟩
  rw [show (⟨#[35]⟩ : ByteArray).data.toList = [35] from rfl, hp] at hcut
  have HC := Aside0.mk hcut
  clear hcut
  have hcand : candR t = (3, 0, t) := by
    unfold candR
    rw [if_neg (by simp [hp])]
    cases h : Lib.parseIntB 64 t.data.toList with
    | ok n => exact absurd h (hn n)
    | «syntax» => rfl
    | range => rfl
  have HR : Aside0 (-9223372036854775808 ≤ (0 : Int) ∧ (0 : Int) ≤ 9223372036854775807) := ⟨by omega⟩
  have HI : Aside0 (∀ w, LaidW w → Calls Tryd.prog 34 #[.string t, .int .i64 10, .int .i64 64] w fun e w' => ∃ m tp p, e = .returned (.tuple #[.int .i64 m, .iface tp p]) ∧ Below w.heap.size w w') := ⟨fun w h => int_err t hs w h hn⟩
  clear hp hn
  go_enter Tryd.func18, Tryd.ntmps18
  go_wp2_with fail
  refine (HC.out _).mono ?_
  rintro e w1 ⟨rfl, rfl⟩
  go_wp2_with fail
  have HB0 := Aside0.mk (below_two w (.cells #[.int .i64 0, .int .i64 0, .string ⟨#[]⟩] 36) (.cells #[.int .i64 3, .int .i64 0, .string t] 36))
  have K00 := Aside0.mk (two_0 w #[.int .i64 0, .int .i64 0, .string ⟨#[]⟩] #[.int .i64 3, .int .i64 0, .string t] 36 36)
  have K01 := Aside0.mk (two_1 w #[.int .i64 0, .int .i64 0, .string ⟨#[]⟩] #[.int .i64 3, .int .i64 0, .string t] 36 36)
  refine (HI.out _ ((HLW.out.alloc _).alloc _)).mono ?_
  rintro e w1 ⟨m, tp, p, rfl, hb1⟩
  have K0 := Aside0.mk (blk_below (g := w.heap.size) K00.out hb1)
  have K1 := Aside0.mk (blk_below (g := w.heap.size + 1) K01.out hb1)
  have HB := Aside0.mk (below_then HB0.out HB0.out.size hb1)
  clear hb1 HB0 K00 K01
  have hz0 : w1.cell? ⟨w.heap.size + 1, 0, none⟩ = some (.int .i64 3) := (blk_cell K1.out 0).trans rfl
  have hz1 : w1.cell? ⟨w.heap.size + 1, 1, none⟩ = some (.int .i64 0) := (blk_cell K1.out 1).trans rfl
  have hz2 : w1.cell? ⟨w.heap.size + 1, 2, none⟩ = some (.string t) := (blk_cell K1.out 2).trans rfl
  have hzf0 := blk_frozen K1.out 0
  have hzf1 := blk_frozen K1.out 1
  have hzf2 := blk_frozen K1.out 2
  go_wp2_with fail
  clear hz0 hz1 hz2 hzf0 hzf1 hzf2
  have HBs := HB
  have K1s := K1
  have K0s := K0
  have HLs := HLW.out.below HBs.out
  refine (value_Text.calls (3) (0) (t) _ _ HLs (by unfold value_Text.f; rw [if_pos HR.out])).mono ?_
  rintro e w2 ⟨rfl, hb2⟩
  have K0' := Aside0.mk (blk_below (g := w.heap.size) K0s.out hb2)
  have K1' := Aside0.mk (blk_below (g := w.heap.size + 1) K1s.out hb2)
  have HB2 := Aside0.mk (below_then HBs.out HBs.out.size hb2)
  clear hb2 HBs K0s K1s HLs
  have ha0 : w2.cell? ⟨w.heap.size, 0, none⟩ = some (.int .i64 0) := (blk_cell K0'.out 0).trans rfl
  have ha1 : w2.cell? ⟨w.heap.size, 1, none⟩ = some (.int .i64 0) := (blk_cell K0'.out 1).trans rfl
  have ha2 : w2.cell? ⟨w.heap.size, 2, none⟩ = some (.string ⟨#[]⟩) := (blk_cell K0'.out 2).trans rfl
  have haf0 := blk_frozen K0'.out 0
  have haf1 := blk_frozen K0'.out 1
  have haf2 := blk_frozen K0'.out 2
  have hb0 : w2.cell? ⟨w.heap.size + 1, 0, none⟩ = some (.int .i64 3) := (blk_cell K1'.out 0).trans rfl
  have hb1 : w2.cell? ⟨w.heap.size + 1, 1, none⟩ = some (.int .i64 0) := (blk_cell K1'.out 1).trans rfl
  have hb2 : w2.cell? ⟨w.heap.size + 1, 2, none⟩ = some (.string t) := (blk_cell K1'.out 2).trans rfl
  have hbf0 := blk_frozen K1'.out 0
  have hbf1 := blk_frozen K1'.out 1
  have hbf2 := blk_frozen K1'.out 2
  have hn1 : w.heap.size ≠ w.heap.size + 1 := by omega
  have hn2 : w.heap.size + 1 ≠ w.heap.size := by omega
  by_cases hT : textL (3) (0) (t) = t.data.toList
  · have hR : readR t = (3, 0, t, 0) := by unfold readR; rw [hcand, if_neg (by rintro (h | h); exact h0 h; exact h hT)]
    have hne : (textL (3) (0) (t) == t.toList) = true := by rw [toList_data, hT]; simp
    go_wp2
    refine bodyPost_ret (results_ct rfl _ _ w.heap.size 36 #[.int .i64 3, .int .i64 0, .string t] (0, 0) _ rfl (blk_put (cs := #[.int .i64 3, .int .i64 0, .string ⟨#[]⟩]) (blk_put (cs := #[.int .i64 3, .int .i64 0, .string ⟨#[]⟩]) (blk_put (cs := #[.int .i64 0, .int .i64 0, .string ⟨#[]⟩]) K0'.out 0 _ rfl) 1 _ rfl) 2 _ rfl) Tryd.underlying36 rfl (by kernel_rfl)) rfl ?_
    exact ⟨(by rw [hR]; try rfl), below_set (below_set (below_set HB2.out (Nat.le_refl _)) (Nat.le_refl _)) (Nat.le_refl _)⟩
  · have hR : readR t = (0, 0, ⟨#[]⟩, 2) := by unfold readR; rw [hcand, if_pos (Or.inr hT)]
    have hne : (textL (3) (0) (t) == t.toList) = false := by rw [toList_data, beq_eq_false_iff_ne]; exact hT
    go_wp2
    refine bodyPost_ret (results_ct rfl _ _ w.heap.size 36 #[.int .i64 0, .int .i64 0, .string ⟨#[]⟩] (0, 0) _ rfl (blk_put (cs := #[.int .i64 0, .int .i64 0, .string ⟨#[]⟩]) (blk_put (cs := #[.int .i64 0, .int .i64 0, .string ⟨#[]⟩]) (blk_put (cs := #[.int .i64 0, .int .i64 0, .string ⟨#[]⟩]) K0'.out 0 _ rfl) 1 _ rfl) 2 _ rfl) Tryd.underlying36 rfl (by kernel_rfl)) rfl ?_
    exact ⟨(by rw [hR]; try rfl), below_set (below_set (below_set HB2.out (Nat.le_refl _)) (Nat.le_refl _)) (Nat.le_refl _)⟩
theorem readR_empty : readR ⟨#[]⟩ = (0, 0, ⟨#[]⟩, 2) := by
  have h : (⟨#[]⟩ : ByteArray).size = 0 := rfl
  unfold readR
  rw [if_pos (Or.inl h)]
set_option maxHeartbeats 1600000 in
set_option maxRecDepth 100000 in
theorem read_empty (w : World) (hLW0 : LaidW w) :
    Calls Tryd.prog 18 #[.string ⟨#[]⟩] w fun e w' => e = .returned (.tuple #[.agg #[.int .i64 0, .int .i64 0, .string ⟨#[]⟩], .int .i64 2]) ∧ Below w.heap.size w w' := by
  have HLW := Aside0.mk hLW0
  clear hLW0
  have HC : Aside0 (∀ w, Calls Tryd.prog 32 #[.string ⟨#[]⟩, .string ⟨#[35]⟩] w fun e w' => e = .returned (.tuple #[.string ⟨#[]⟩, .bool false]) ∧ w' = w) := ⟨Tryd.strings_CutPrefix ⟨#[]⟩ ⟨#[35]⟩⟩
  have HI : Aside0 (∀ w, LaidW w → Calls Tryd.prog 34 #[.string ⟨#[]⟩, .int .i64 10, .int .i64 64] w fun e w' => ∃ m tp p, e = .returned (.tuple #[.int .i64 m, .iface tp p]) ∧ Below w.heap.size w w') := ⟨fun w h => int_err ⟨#[]⟩ (by decide) w h (fun n h => by cases h)⟩
  have hemp : (⟨#[]⟩ : ByteArray).toList.isEmpty = true := by rw [toList_data]; rfl
  go_enter Tryd.func18, Tryd.ntmps18
  go_wp2_with fail
  refine (HC.out _).mono ?_
  rintro e w1 ⟨rfl, rfl⟩
  go_wp2_with fail
  have HB0 := Aside0.mk (below_two w (.cells #[.int .i64 0, .int .i64 0, .string ⟨#[]⟩] 36) (.cells #[.int .i64 3, .int .i64 0, .string ⟨#[]⟩] 36))
  have K00 := Aside0.mk (two_0 w #[.int .i64 0, .int .i64 0, .string ⟨#[]⟩] #[.int .i64 3, .int .i64 0, .string ⟨#[]⟩] 36 36)
  have K01 := Aside0.mk (two_1 w #[.int .i64 0, .int .i64 0, .string ⟨#[]⟩] #[.int .i64 3, .int .i64 0, .string ⟨#[]⟩] 36 36)
  refine (HI.out _ ((HLW.out.alloc _).alloc _)).mono ?_
  rintro e w1 ⟨m, tp, p, rfl, hb1⟩
  have K0' := Aside0.mk (blk_below (g := w.heap.size) K00.out hb1)
  have K1 := Aside0.mk (blk_below (g := w.heap.size + 1) K01.out hb1)
  have HB2 := Aside0.mk (below_then HB0.out HB0.out.size hb1)
  clear hb1 HB0 K00 K01
  have hz0 : w1.cell? ⟨w.heap.size + 1, 0, none⟩ = some (.int .i64 3) := (blk_cell K1.out 0).trans rfl
  have hz1 : w1.cell? ⟨w.heap.size + 1, 1, none⟩ = some (.int .i64 0) := (blk_cell K1.out 1).trans rfl
  have hz2 : w1.cell? ⟨w.heap.size + 1, 2, none⟩ = some (.string ⟨#[]⟩) := (blk_cell K1.out 2).trans rfl
  have ha0 : w1.cell? ⟨w.heap.size, 0, none⟩ = some (.int .i64 0) := (blk_cell K0'.out 0).trans rfl
  have ha1 : w1.cell? ⟨w.heap.size, 1, none⟩ = some (.int .i64 0) := (blk_cell K0'.out 1).trans rfl
  have ha2 : w1.cell? ⟨w.heap.size, 2, none⟩ = some (.string ⟨#[]⟩) := (blk_cell K0'.out 2).trans rfl
  have haf0 := blk_frozen K0'.out 0
  have haf1 := blk_frozen K0'.out 1
  have haf2 := blk_frozen K0'.out 2
  go_wp2
  refine bodyPost_ret (results_ct rfl _ _ w.heap.size 36 #[.int .i64 0, .int .i64 0, .string ⟨#[]⟩] (0, 0) _ rfl (blk_put (cs := #[.int .i64 0, .int .i64 0, .string ⟨#[]⟩]) (blk_put (cs := #[.int .i64 0, .int .i64 0, .string ⟨#[]⟩]) (blk_put (cs := #[.int .i64 0, .int .i64 0, .string ⟨#[]⟩]) K0'.out 0 _ rfl) 1 _ rfl) 2 _ rfl) Tryd.underlying36 rfl (by kernel_rfl)) rfl ?_
  exact ⟨rfl, below_set (below_set (below_set HB2.out (Nat.le_refl _)) (Nat.le_refl _)) (Nat.le_refl _)⟩
theorem value_Read.calls (a0 : ByteArray) (r1 : Int) (r2 : Int) (r3 : ByteArray) (r4 : Int) (w : World) (hLW : LaidW w) (h : value_Read.f a0 = some (r1, r2, r3, r4)) :
    Calls Tryd.prog 18 #[.string a0] w fun e w' => e = .returned (.tuple #[.agg #[.int .i64 r1, .int .i64 r2, .string r3], .int .i64 r4]) ∧ Below w.heap.size w w' := by
  unfold value_Read.f at h
  split at h
  · rename_i hs
    have hR := Option.some.inj h
    have e1 : (readR a0).1 = r1 := by rw [hR]
    have e2 : (readR a0).2.1 = r2 := by rw [hR]
    have e3 : (readR a0).2.2.1 = r3 := by rw [hR]
    have e4 : (readR a0).2.2.2 = r4 := by rw [hR]
    rw [← e1, ← e2, ← e3, ← e4]
    clear e1 e2 e3 e4 hR h
    by_cases h0 : a0.size = 0
    · obtain rfl := ba_zero h0
      rw [readR_empty]
      exact read_empty w hLW
    · cases hp : Lib.hasPrefix a0.data.toList [35] with
      | true => exact read_hash a0 hs w hLW hp h0
      | false =>
        cases hn : Lib.parseIntB 64 a0.data.toList with
        | ok n => exact read_int a0 hs w hLW hp n hn h0
        | «syntax» => exact read_sym a0 hs w hLW hp (fun n h => by rw [hn] at h; cases h) h0
        | range => exact read_sym a0 hs w hLW hp (fun n h => by rw [hn] at h; cases h) h0
  · cases h
end Go.Proofs.YthebhbomlllpeaaDoor.X
namespace Go.Proofs.YthebhbomlllpeaaDoor.X
set_option linter.unusedVariables false
set_option linter.unusedSimpArgs false
open Go.RowKit Go.Proofs.YthebhbomlllpeaaDoorW.PrintWords Go.Proofs.YthebhbomlllpeaaDoorW.PrintLast Go.Proofs.YthebhbomlllpeaaDoorW.PrintMore
/-- a way to tell numbers at a base of at most 16. -/
structure TellsBase (b : Nat) (l : Nat → List UInt8) : Prop where
  two : 2 ≤ b
  most : b ≤ 16
  one : ∀ u, u < b → l u = [hexc u]
  more : ∀ u, b ≤ u → l u = l (u / b) ++ [hexc (u % b)]
theorem ba_eta (s : ByteArray) : (⟨s.data.toList.toArray⟩ : ByteArray) = s := by cases s; rfl
end Go.Proofs.YthebhbomlllpeaaDoor.X
namespace Go.Proofs.YthebhbomlllpeaaDoor.X
set_option linter.unusedVariables false
set_option linter.unusedSimpArgs false
open Go.RowKit Go.Proofs.YthebhbomlllpeaaDoorW.PrintWords Go.Proofs.YthebhbomlllpeaaDoorW.PrintLast Go.Proofs.YthebhbomlllpeaaDoorW.PrintMore
theorem hexd_hexc (d : Nat) (h : d < 16) : hexd (hexc d).toNat = some d := by
  have : ∀ d : Fin 16, hexd (hexc d.val).toNat = some d.val := by decide
  exact this ⟨d, h⟩
/-- the digits, read from left to right. -/
theorem parse16_append : ∀ (a b : List UInt8) (acc n : Nat), parse16 acc a = .ok n → parse16 acc (a ++ b) = parse16 n b
  | [], b, acc, n, h => by
    simp only [parse16, Lib.NumEnd.ok.injEq] at h
    subst h; rfl
  | c :: a, b, acc, n, h => by
    simp only [parse16, List.cons_append] at h ⊢
    split at h
    · cases h
    · rename_i d hd
      split at h
      · cases h
      · rename_i hc
        rw [if_neg hc]
        exact parse16_append a b _ n h
theorem parse16_hexL (u : Nat) (hu : u < 18446744073709551616) : parse16 0 (hexL u) = .ok u := by
  induction u using Nat.strongRecOn with
  | _ u ih =>
    rw [hexL]
    split
    · rename_i h
      simp only [parse16, hexd_hexc u h]
      rw [if_neg (by omega), Nat.zero_mul, Nat.zero_add]
    · rename_i h
      rw [parse16_append _ _ 0 (u / 16) (ih (u / 16) (by omega) (by omega))]
      simp only [parse16, hexd_hexc (u % 16) (by omega)]
      rw [if_neg (by omega)]
      congr 1
      omega
theorem parse16_zeros : ∀ (n : Nat) (l : List UInt8), parse16 0 (List.replicate n 48 ++ l) = parse16 0 l
  | 0, l => rfl
  | n + 1, l => by
    rw [List.replicate_succ, List.cons_append]
    have h0 : hexd (48 : UInt8).toNat = some 0 := by decide
    simp only [parse16, h0]
    rw [if_neg (by omega)]
    exact parse16_zeros n l
theorem hexL_ne (u : Nat) : hexL u ≠ [] := by
  rw [hexL]; split <;> simp
theorem hex16_ne (u : Nat) : hex16 u ≠ [] := by
  unfold hex16; simp [hexL_ne]
theorem num16_hex16 (u : Nat) (hu : u < 18446744073709551616) : num16 (hex16 u) = u := by
  unfold num16
  rw [if_neg (hex16_ne u)]
  unfold hex16
  rw [parse16_zeros, parse16_hexL u hu]
theorem dec_toNat (d : Nat) (h : d < 10) : (UInt8.ofNat (48 + d)).toNat = 48 + d := by
  simp; omega
theorem parse10_append : ∀ (a b : List UInt8) (acc n : Nat), Lib.parseUint10 acc a = .ok n → Lib.parseUint10 acc (a ++ b) = Lib.parseUint10 n b
  | [], b, acc, n, h => by
    simp only [Lib.parseUint10, Lib.NumEnd.ok.injEq] at h
    subst h; rfl
  | c :: a, b, acc, n, h => by
    simp only [Lib.parseUint10, List.cons_append] at h ⊢
    split at h
    · rename_i hd
      rw [if_pos hd]
      split at h
      · cases h
      · rename_i h1
        rw [if_neg h1]
        split at h
        · cases h
        · rename_i h2
          rw [if_neg h2]
          exact parse10_append a b _ n h
    · cases h
theorem parse10_dec (u : Nat) (hu : u < 18446744073709551616) : Lib.parseUint10 0 (Lib.decDigits u) = .ok u := by
  induction u using Nat.strongRecOn with
  | _ u ih =>
    rw [Lib.decDigits]
    split
    · rename_i h
      simp only [Lib.parseUint10, dec_toNat u h]
      rw [if_pos (by omega), if_neg (by omega), if_neg (by omega)]
      congr 1; omega
    · rename_i h
      rw [parse10_append _ _ 0 (u / 10) (ih (u / 10) (by omega) (by omega))]
      simp only [Lib.parseUint10, dec_toNat (u % 10) (by omega)]
      rw [if_pos (by omega), if_neg (by omega), if_neg (by omega)]
      congr 1; omega
theorem dec_digit (u : Nat) : ∀ c ∈ Lib.decDigits u, 48 ≤ c.toNat ∧ c.toNat ≤ 57 := by
  induction u using Nat.strongRecOn with
  | _ u ih =>
    intro c hc
    rw [Lib.decDigits] at hc
    split at hc
    · rename_i h
      simp only [List.mem_singleton] at hc
      subst hc
      rw [dec_toNat u h]; omega
    · rename_i h
      rcases List.mem_append.1 hc with hc | hc
      · exact ih (u / 10) (by omega) c hc
      · simp only [List.mem_singleton] at hc
        subst hc
        rw [dec_toNat (u % 10) (by omega)]; omega
theorem dec_ne (u : Nat) : Lib.decDigits u ≠ [] := by
  rw [Lib.decDigits]; split <;> simp
theorem parseInt_itoa (n : Int) (h : -9223372036854775808 ≤ n ∧ n ≤ 9223372036854775807) : Lib.parseIntB 64 (Lib.itoa n) = .ok n := by
  rw [Lib.parseIntB_64]
  unfold Lib.itoa
  split
  · rename_i hn
    have hm : Lib.parseMag (Lib.decDigits n.natAbs) = .ok n.natAbs := by unfold Lib.parseMag; rw [if_neg (dec_ne _), parse10_dec _ (by omega)]
    simp only [Lib.atoiAll]
    have e : (45 : UInt8).toNat = 45 := rfl
    simp only [e, or_true, if_true, hm, not_true_eq_false, false_and, if_false, true_and]
    rw [if_neg (by omega)]
    congr 1; omega
  · rename_i hn
    have hm : Lib.parseMag (Lib.decDigits n.toNat) = .ok n.toNat := by unfold Lib.parseMag; rw [if_neg (dec_ne _), parse10_dec _ (by omega)]
    cases hd : Lib.decDigits n.toNat with
    | nil => exact absurd hd (dec_ne _)
    | cons c r =>
      have hc := dec_digit n.toNat c (by rw [hd]; exact List.mem_cons_self ..)
      rw [hd] at hm
      simp only [Lib.atoiAll]
      have e1 : ¬ c.toNat = 43 := by omega
      have e2 : ¬ c.toNat = 45 := by omega
      have h1 : ¬ 9223372036854775808 ≤ n.toNat := by omega
      have h2 : ((n.toNat : Nat) : Int) = n := by omega
      simp only [e1, e2, or_self, if_false, hm, not_false_eq_true, true_and, false_and, h1, h2]
def txt (k n : Int) (s : ByteArray) : ByteArray := ⟨(textL k n s).toArray⟩
theorem bt_cons (c : UInt8) (l : List UInt8) : bt ⟨(c :: l).toArray⟩ 0 = (c.toNat : Int) := by
  have := bt_nat ⟨(c :: l).toArray⟩ 0 (by simp [ByteArray.size])
  exact this
theorem wrap_back (n : Int) (h : -9223372036854775808 ≤ n ∧ n ≤ 9223372036854775807) : wrap64 (IntKind.u64.wrap n) = n := by
  rw [IntKind.wrap_u64]; unfold wrap64; omega
theorem right_cases {k n : Int} {s : ByteArray} (h : rightB k n s = true) : (k = 1 ∧ s = ⟨#[]⟩) ∨ (k = 2 ∧ s = ⟨#[]⟩ ∧ floB n = true) ∨ (k = 3 ∧ n = 0 ∧ nameB s = true) := by
  unfold rightB at h
  split at h
  · exact Or.inl ⟨by assumption, ba_zero (by simpa using h)⟩
  · split at h
    · simp only [Bool.and_eq_true, decide_eq_true_eq] at h
      exact Or.inr (Or.inl ⟨by assumption, ba_zero h.1, h.2⟩)
    · split at h
      · simp only [Bool.and_eq_true, decide_eq_true_eq] at h
        exact Or.inr (Or.inr ⟨by assumption, h.1, h.2⟩)
      · cases h
theorem name_head {s : ByteArray} (h : nameB s = true) : ∃ c l, s.data.toList = c :: l ∧ 97 ≤ c.toNat ∧ c.toNat ≤ 122 := by
  unfold nameB at h
  simp only [Bool.and_eq_true, decide_eq_true_eq] at h
  cases hl : s.data.toList with
  | nil => have : s.size = 0 := by rw [Lib.size_eq, hl]; rfl
           omega
  | cons c l =>
    have hs : s = ⟨(c :: l).toArray⟩ := by rw [← hl, ba_eta]
    rw [hs, bt_cons] at h
    exact ⟨c, l, rfl, by omega, by omega⟩
theorem itoa_head (n : Int) : ∃ c l, Lib.itoa n = c :: l ∧ (c.toNat = 45 ∧ n < 0 ∧ l = Lib.decDigits n.natAbs ∨ 48 ≤ c.toNat ∧ c.toNat ≤ 57 ∧ 0 ≤ n ∧ c :: l = Lib.decDigits n.toNat) := by
  unfold Lib.itoa
  split
  · exact ⟨45, _, rfl, Or.inl ⟨rfl, by assumption, rfl⟩⟩
  · cases hd : Lib.decDigits n.toNat with
    | nil => exact absurd hd (dec_ne _)
    | cons c l =>
      have hc := dec_digit n.toNat c (by rw [hd]; exact List.mem_cons_self ..)
      exact ⟨c, l, rfl, Or.inr ⟨hc.1, hc.2, by omega, rfl⟩⟩
theorem prefix35 (c : UInt8) (l : List UInt8) (h : c.toNat ≠ 35) : Lib.hasPrefix (c :: l) [35] = false := by
  unfold Lib.hasPrefix
  have : ((35 : UInt8) == c) = false := by rw [beq_eq_false_iff_ne]; rintro rfl; exact h rfl
  simp [List.isPrefixOf, this]
theorem cand_code (k n : Int) (s : ByteArray) (hr : rightB k n s = true) (hn : -9223372036854775808 ≤ n ∧ n ≤ 9223372036854775807) :
    candR (txt k n s) = (k, n, s) ∧ textL k n s ≠ [] := by
  have ht : textL k n s = if k = 1 then Lib.itoa n else if k = 2 then 35 :: hex16 (IntKind.u64.wrap n).toNat else s.data.toList := by unfold textL; rw [if_pos hr]
  unfold txt
  rcases right_cases hr with ⟨rfl, rfl⟩ | ⟨rfl, rfl, hf⟩ | ⟨rfl, rfl, hN⟩
  · rw [if_pos rfl] at ht
    rw [ht]
    obtain ⟨c, l, he, hc⟩ := itoa_head n
    have hp := parseInt_itoa n hn
    rw [he] at hp ⊢
    refine ⟨?_, by simp⟩
    · unfold candR
      rw [if_neg (by rw [prefix35 c l (by omega)]; simp)]
      simp only [hp]
  · rw [if_neg (by omega), if_pos rfl] at ht
    rw [ht]
    have hw := wrap_u64 n
    obtain ⟨u, hu⟩ : ∃ u : Nat, IntKind.u64.wrap n = (u : Int) := ⟨_, (Int.toNat_of_nonneg hw.1).symm⟩
    rw [hu, Int.toNat_natCast]
    have hu2 : u < 18446744073709551616 := by omega
    have hb := wrap_back n hn
    rw [hu] at hb
    refine ⟨?_, by simp⟩
    · unfold candR
      have h1 : Lib.hasPrefix (35 :: hex16 u) [35] = true := by simp [Lib.hasPrefix, List.isPrefixOf]
      have h2 : Lib.trimPrefix (35 :: hex16 u) [35] = hex16 u := by unfold Lib.trimPrefix; rw [if_pos h1]; rfl
      simp only [h1, if_true, h2, num16_hex16 u hu2, hb]
  · rw [if_neg (by omega), if_neg (by omega)] at ht
    obtain ⟨c, l, he, h1, h2⟩ := name_head hN
    rw [ht, ba_eta]
    have hs : s = ⟨(c :: l).toArray⟩ := by rw [← he, ba_eta]
    refine ⟨?_, by rw [he]; simp⟩
    · unfold candR
      rw [he, if_neg (by rw [prefix35 c l (by omega)]; simp)]
      have hp : Lib.parseIntB 64 (c :: l) = .syntax := by
        rw [Lib.parseIntB_64]
        have e1 : ¬ (c.toNat = 43 ∨ c.toNat = 45) := by omega
        have hm : Lib.parseMag (c :: l) = .syntax := by
          unfold Lib.parseMag
          rw [if_neg (by simp)]
          simp only [Lib.parseUint10]
          rw [if_neg (by omega)]
        simp only [Lib.atoiAll, e1, if_false, hm]
      rw [hp]
/-- what is told as a text is read as it was. -/
theorem readR_text (k n : Int) (s : ByteArray) (hr : rightB k n s = true) (hn : -9223372036854775808 ≤ n ∧ n ≤ 9223372036854775807) : readR (txt k n s) = (k, n, s, 0) := by
  obtain ⟨h1, h3⟩ := cand_code k n s hr hn
  unfold readR
  rw [h1]
  have h0 : (txt k n s).size ≠ 0 := fun h => h3 (by
    have : (txt k n s).data.toList = textL k n s := by simp [txt]
    rw [← this]
    exact List.length_eq_zero_iff.1 (by rw [← Lib.size_eq]; exact h))
  rw [if_neg]
  rintro (h | h)
  · exact h0 h
  · exact h (by simp [txt])
end Go.Proofs.YthebhbomlllpeaaDoor.X
namespace Go.Proofs.YthebhbomlllpeaaDoor.X
set_option linter.unusedVariables false
set_option linter.unusedSimpArgs false
def smallN (c : UInt8) : Bool := decide (97 ≤ c.toNat ∧ c.toNat ≤ 122)
def greatN (c : UInt8) : Bool := decide (65 ≤ c.toNat ∧ c.toNat ≤ 90)
def digitN (c : UInt8) : Bool := decide (48 ≤ c.toNat ∧ c.toNat ≤ 57)
def lowB (c : UInt8) : Bool := smallN c || digitN c || c == 95
def signB (c : UInt8) : Bool := lowB c || greatN c
def blankB (c : UInt8) : Bool := c == 32 || c == 9 || c == 10
/-- how many bytes a text begins with that are so. -/
def runN (p : UInt8 → Bool) : List UInt8 → Nat
  | [] => 0
  | c :: r => if p c then runN p r + 1 else 0
def twoB (s : List UInt8) : Bool := s.take 2 == [60, 61] || s.take 2 == [33, 61] || s.take 2 == [58, 45] || s.take 2 == [63, 45]
def oneB (c : UInt8) : Bool := [40, 41, 44, 46, 60, 61, 47, 124, 42, 43, 63, 94].contains c
def headDigit : List UInt8 → Bool
  | [] => false
  | c :: _ => digitN c
/-- does a text's token begin a value? -/
def valB (c : UInt8) (r : List UInt8) : Bool := c == 35 || digitN c || (c == 45 && headDigit r)
/-- the token that a text begins with: its kind, its length. -/
def nextN (nm vl : List UInt8 → Bool) : List UInt8 → Option (Nat × Nat)
  | [] => none
  | c :: r =>
    if smallN c then (if nm ((c :: r).take (runN lowB (c :: r))) then some (1, runN lowB (c :: r)) else none)
    else if greatN c then (if runN signB (c :: r) ≤ 40 then some (2, runN signB (c :: r)) else none)
    else if valB c r then (if vl ((c :: r).take (1 + runN signB r)) then some (3, 1 + runN signB r) else none)
    else if twoB (c :: r) then some (4, 2)
    else if oneB c then some (4, 1)
    else none
theorem runN_le (p : UInt8 → Bool) : ∀ l, runN p l ≤ l.length
  | [] => Nat.le_refl _
  | c :: r => by
    simp only [runN]
    have := runN_le p r
    split <;> simp <;> omega
theorem runN_take (p : UInt8 → Bool) : ∀ l, runN p (l.take (runN p l)) = runN p l
  | [] => rfl
  | c :: r => by
    simp only [runN]
    split
    · rename_i h
      simp only [List.take_succ_cons, runN, h, if_true, runN_take p r]
    · simp [runN]
theorem next_pos {nm vl : List UInt8 → Bool} {s : List UInt8} {k n : Nat} (h : nextN nm vl s = some (k, n)) : 1 ≤ n ∧ n ≤ s.length ∧ 1 ≤ k ∧ k ≤ 4 := by
  cases s with
  | nil => cases h
  | cons c r =>
    have h1 := runN_le lowB (c :: r)
    have h2 := runN_le signB (c :: r)
    have h3 := runN_le signB r
    simp only [nextN] at h
    split at h
    · rename_i hs
      split at h
      · injection h with h; injection h with e1 e2
        have : lowB c = true := by unfold lowB; simp [hs]
        have : runN lowB (c :: r) = runN lowB r + 1 := by simp only [runN, this, if_true]
        omega
      · cases h
    · split at h
      · rename_i hs
        split at h
        · injection h with h; injection h with e1 e2
          have : signB c = true := by unfold signB; simp [hs]
          have : runN signB (c :: r) = runN signB r + 1 := by simp only [runN, this, if_true]
          omega
        · cases h
      · split at h
        · split at h
          · injection h with h; injection h with e1 e2
            simp only [List.length_cons]
            omega
          · cases h
        · split at h
          · rename_i ht
            injection h with h; injection h with e1 e2
            have : 2 ≤ (c :: r).length := by
              cases r with
              | nil => simp [twoB] at ht
              | cons d r => simp
            omega
          · split at h
            · injection h with h; injection h with e1 e2
              simp only [List.length_cons]
              omega
            · cases h
theorem blank_is {x : UInt8} (h : blankB x = true) : x = 32 ∨ x = 9 ∨ x = 10 := by
  unfold blankB at h
  simp only [Bool.or_eq_true, beq_iff_eq, or_assoc] at h
  exact h
/-- a text's tokens: each kind, where it begins, its length; or where it is wrong. -/
def tokF (nm vl : List UInt8 → Bool) : Nat → Nat → List UInt8 → Except Nat (List (Nat × Nat × Nat))
  | 0, _, _ => .ok []
  | _ + 1, _, [] => .ok []
  | d + 1, at_, c :: r =>
    if blankB c then tokF nm vl d (at_ + 1) r
    else match nextN nm vl (c :: r) with
      | none => .error at_
      | some (k, n) => match tokF nm vl d (at_ + n) ((c :: r).drop n) with
        | .error i => .error i
        | .ok l => .ok ((k, at_, n) :: l)
def tokN (nm vl : List UInt8 → Bool) (at_ : Nat) (s : List UInt8) : Except Nat (List (Nat × Nat × Nat)) := tokF nm vl s.length at_ s
theorem tokF_fuel (nm vl : List UInt8 → Bool) : ∀ (d d' at_ : Nat) (s : List UInt8), s.length ≤ d → s.length ≤ d' → tokF nm vl d at_ s = tokF nm vl d' at_ s
  | 0, 0, _, _, _, _ => rfl
  | 0, d' + 1, _, [], _, _ => rfl
  | d + 1, 0, _, [], _, _ => rfl
  | d + 1, d' + 1, _, [], _, _ => rfl
  | 0, _, _, _ :: _, h, _ => by simp at h
  | _, 0, _, _ :: _, _, h => by simp at h
  | d + 1, d' + 1, at_, c :: r, h, h' => by
    simp only [List.length_cons] at h h'
    simp only [tokF]
    split
    · exact tokF_fuel nm vl d d' (at_ + 1) r (by omega) (by omega)
    · cases hn : nextN nm vl (c :: r) with
      | none => rfl
      | some x =>
        obtain ⟨k, n⟩ := x
        have hp := next_pos hn
        simp only
        rw [tokF_fuel nm vl d d' (at_ + n) ((c :: r).drop n) (by rw [List.length_drop, List.length_cons]; omega) (by rw [List.length_drop, List.length_cons]; omega)]
theorem tok_nil (nm vl : List UInt8 → Bool) (at_ : Nat) : tokN nm vl at_ [] = .ok [] := rfl
theorem tok_blank (nm vl : List UInt8 → Bool) (at_ : Nat) (c : UInt8) (r : List UInt8) (h : blankB c = true) : tokN nm vl at_ (c :: r) = tokN nm vl (at_ + 1) r := by
  unfold tokN
  rw [List.length_cons]
  simp only [tokF, h, if_true]
theorem tok_wrong (nm vl : List UInt8 → Bool) (at_ : Nat) (c : UInt8) (r : List UInt8) (h : blankB c = false) (hn : nextN nm vl (c :: r) = none) : tokN nm vl at_ (c :: r) = .error at_ := by
  unfold tokN
  rw [List.length_cons]
  simp only [tokF, h, Bool.false_eq_true, if_false, hn]
theorem tok_more (nm vl : List UInt8 → Bool) (at_ : Nat) (c : UInt8) (r : List UInt8) (h : blankB c = false) (k n : Nat) (hn : nextN nm vl (c :: r) = some (k, n)) :
    tokN nm vl at_ (c :: r) = match tokN nm vl (at_ + n) ((c :: r).drop n) with
      | .error i => .error i
      | .ok l => .ok ((k, at_, n) :: l) := by
  have hp := next_pos hn
  unfold tokN
  rw [List.length_cons]
  simp only [tokF, h, Bool.false_eq_true, if_false, hn]
  rw [tokF_fuel nm vl r.length ((c :: r).drop n).length _ _ (by rw [List.length_drop, List.length_cons]; omega) (Nat.le_refl _)]
end Go.Proofs.YthebhbomlllpeaaDoor.X
namespace Go.Proofs.YthebhbomlllpeaaDoor.X
set_option linter.unusedVariables false
set_option linter.unusedSimpArgs false
/-- what is told of a text's tokens: each is what its place begins with; between them there are blanks alone. -/
def covT (nm vl : List UInt8 → Bool) (full : List UInt8) : Nat → List (Nat × Nat × Nat) → Prop
  | a, [] => ∀ i (h : i < full.length), a ≤ i → blankB full[i] = true
  | a, x :: l => a ≤ x.2.1 ∧ 1 ≤ x.2.2 ∧ x.2.1 + x.2.2 ≤ full.length ∧ 1 ≤ x.1 ∧ x.1 ≤ 4 ∧ nextN nm vl (full.drop x.2.1) = some (x.1, x.2.2) ∧ (∀ i (h : i < full.length), a ≤ i → i < x.2.1 → blankB full[i] = true) ∧ covT nm vl full (x.2.1 + x.2.2) l
theorem cov_back {nm vl : List UInt8 → Bool} {full : List UInt8} {a : Nat} {l : List (Nat × Nat × Nat)} (ha : ∀ h : a < full.length, blankB full[a] = true) (h : covT nm vl full (a + 1) l) : covT nm vl full a l := by
  cases l with
  | nil =>
    intro i hi hai
    by_cases e : a = i
    · subst e; exact ha hi
    · exact h i hi (by omega)
  | cons x l =>
    obtain ⟨h1, h2, h3, h4, h5, h6, h7, h8⟩ := h
    refine ⟨by omega, h2, h3, h4, h5, h6, ?_, h8⟩
    intro i hi hai hix
    by_cases e : a = i
    · subst e; exact ha hi
    · exact h7 i hi (by omega) hix
theorem tok_cov (nm vl : List UInt8 → Bool) (full : List UInt8) : ∀ (d a : Nat) (l : List (Nat × Nat × Nat)), (full.drop a).length ≤ d → tokN nm vl a (full.drop a) = .ok l → covT nm vl full a l := by
  intro d
  induction d with
  | zero =>
    intro a l h ht
    have hn : full.drop a = [] := List.length_eq_zero_iff.1 (by omega)
    rw [hn, tok_nil] at ht
    injection ht with ht
    subst ht
    intro i hi hai
    rw [List.length_drop] at h
    omega
  | succ d ih =>
    intro a l h ht
    by_cases hl : a < full.length
    · have hd : full.drop a = full[a] :: full.drop (a + 1) := List.drop_eq_getElem_cons hl
      cases hb : blankB full[a] with
      | true =>
        rw [hd, tok_blank nm vl a _ _ hb] at ht
        exact cov_back (fun _ => hb) (ih (a + 1) l (by rw [List.length_drop] at h ⊢; omega) ht)
      | false =>
        cases hm : nextN nm vl (full[a] :: full.drop (a + 1)) with
        | none => rw [hd, tok_wrong nm vl a _ _ hb hm] at ht; cases ht
        | some y =>
          obtain ⟨k, n⟩ := y
          have hp := next_pos hm
          rw [hd, tok_more nm vl a _ _ hb k n hm, ← hd, List.drop_drop] at ht
          cases hr : tokN nm vl (a + n) (full.drop (a + n)) with
          | error i => rw [hr] at ht; cases ht
          | ok m =>
            rw [hr] at ht
            injection ht with ht
            subst ht
            rw [← hd] at hp hm
            rw [List.length_drop] at hp h
            exact ⟨Nat.le_refl _, hp.1, by show a + n ≤ full.length; omega, hp.2.2.1, hp.2.2.2, hm, fun i hi h1 h2 => absurd h2 (Nat.not_lt.2 h1), ih (a + n) m (by rw [List.length_drop]; omega) hr⟩
    · have hn : full.drop a = [] := List.drop_eq_nil_of_le (by omega)
      rw [hn, tok_nil] at ht
      injection ht with ht
      subst ht
      intro i hi hai
      omega
/-- no more tokens than bytes. -/
theorem tok_count (nm vl : List UInt8 → Bool) : ∀ (d : Nat) (s : List UInt8) (a : Nat) (l : List (Nat × Nat × Nat)), s.length ≤ d → tokN nm vl a s = .ok l → l.length ≤ s.length := by
  intro d
  induction d with
  | zero =>
    intro s a l h ht
    obtain rfl : s = [] := List.length_eq_zero_iff.1 (by omega)
    rw [tok_nil] at ht
    injection ht with ht
    subst ht
    exact Nat.le_refl _
  | succ d ih =>
    intro s a l h ht
    cases s with
    | nil => rw [tok_nil] at ht; injection ht with ht; subst ht; exact Nat.le_refl _
    | cons c r =>
      simp only [List.length_cons] at h ⊢
      cases hb : blankB c with
      | true =>
        rw [tok_blank nm vl a c r hb] at ht
        have := ih r (a + 1) l (by omega) ht
        omega
      | false =>
        cases hm : nextN nm vl (c :: r) with
        | none => rw [tok_wrong nm vl a c r hb hm] at ht; cases ht
        | some y =>
          obtain ⟨k, n⟩ := y
          have hp := next_pos hm
          rw [tok_more nm vl a c r hb k n hm] at ht
          cases hr : tokN nm vl (a + n) ((c :: r).drop n) with
          | error j => rw [hr] at ht; cases ht
          | ok m =>
            rw [hr] at ht
            injection ht with ht
            subst ht
            have := ih _ _ _ (by rw [List.length_drop, List.length_cons]; omega) hr
            simp only [List.length_drop, List.length_cons] at this hp ⊢
            omega
theorem great_sign {c : UInt8} (h : greatN c = true) : signB c = true := by unfold signB; rw [h]; simp
end Go.Proofs.YthebhbomlllpeaaDoor.X
namespace Go.Proofs.YthebhbomlllpeaaDoor.X
set_option linter.unusedVariables false
set_option linter.unusedSimpArgs false
open Go.RowKit Go.Proofs.YthebhbomlllpeaaDoorW.PrintWords Go.Proofs.YthebhbomlllpeaaDoorW.PrintLast Go.Proofs.YthebhbomlllpeaaDoorW.PrintMore
/-- is a text a name? -/
def nmL (l : List UInt8) : Bool := nameB ⟨l.toArray⟩
/-- is a text a value's? -/
def vlL (l : List UInt8) : Bool := (readR ⟨l.toArray⟩).2.2.2 == 0
theorem vl_text {k n : Int} {s : ByteArray} (hr : rightB k n s = true) (hn : -9223372036854775808 ≤ n ∧ n ≤ 9223372036854775807) : vlL (textL k n s) = true := by
  have := readR_text k n s hr hn
  unfold txt at this
  unfold vlL
  rw [this]
  rfl
theorem text_of_right {k n : Int} {s : ByteArray} (hr : rightB k n s = true) : textL k n s = if k = 1 then Lib.itoa n else if k = 2 then 35 :: hex16 (IntKind.u64.wrap n).toNat else s.data.toList := by unfold textL; rw [if_pos hr]
end Go.Proofs.YthebhbomlllpeaaDoor.X
namespace Go.Proofs.YthebhbomlllpeaaDoor.X
set_option linter.unusedVariables false
set_option linter.unusedSimpArgs false
open Go.RowKit Go.Proofs.YthebhbomlllpeaaDoorW.PrintWords Go.Proofs.YthebhbomlllpeaaDoorW.PrintLast Go.Proofs.YthebhbomlllpeaaDoorW.PrintMore
theorem lex_small_eq (c : UInt8) : lex_small.f (c.toNat : Int) = some (smallN c) := by
  unfold lex_small.f smallN
  by_cases h : (c.toNat : Int) ≥ 97
  · rw [if_pos h]; congr 1; rw [Bool.eq_iff_iff]; simp only [decide_eq_true_eq]; omega
  · rw [if_neg h]; congr 1; symm; rw [decide_eq_false_iff_not]; omega
theorem lex_great_eq (c : UInt8) : lex_great.f (c.toNat : Int) = some (greatN c) := by
  unfold lex_great.f greatN
  by_cases h : (c.toNat : Int) ≥ 65
  · rw [if_pos h]; congr 1; rw [Bool.eq_iff_iff]; simp only [decide_eq_true_eq]; omega
  · rw [if_neg h]; congr 1; symm; rw [decide_eq_false_iff_not]; omega
theorem lex_digit_eq (c : UInt8) : lex_digit.f (c.toNat : Int) = some (digitN c) := by
  unfold lex_digit.f digitN
  by_cases h : (c.toNat : Int) ≥ 48
  · rw [if_pos h]; congr 1; rw [Bool.eq_iff_iff]; simp only [decide_eq_true_eq]; omega
  · rw [if_neg h]; congr 1; symm; rw [decide_eq_false_iff_not]; omega
theorem u8_eq_nat (c : UInt8) (n : Nat) (hn : n < 256) : ((c.toNat : Int) == (n : Int)) = (c == UInt8.ofNat n) := by
  rw [Bool.eq_iff_iff, beq_iff_eq, beq_iff_eq]
  constructor
  · intro h
    apply UInt8.toNat_inj.1
    rw [UInt8.toNat_ofNat']
    omega
  · intro h
    rw [h, UInt8.toNat_ofNat']
    omega
theorem lex_low_eq (c : UInt8) : lex_low.f (c.toNat : Int) = some (lowB c) := by
  unfold lex_low.f lowB
  rw [lex_small_eq, lex_digit_eq]
  simp only [Option.bind_some]
  have h95 : ((c.toNat : Int) == 95) = (c == 95) := u8_eq_nat c 95 (by omega)
  rw [h95]
  cases smallN c <;> cases digitN c <;> simp
theorem lex_sign_eq (c : UInt8) : lex_sign.f (c.toNat : Int) = some (signB c) := by
  unfold lex_sign.f signB
  rw [lex_low_eq, lex_great_eq]
  simp only [Option.bind_some]
  cases lowB c <;> simp
theorem ret_nat {a b : Nat} (h : a = b) : Ending.returned (.int .i64 (a : Int)) = .returned (.int .i64 (b : Int)) := by rw [h]
theorem runN_step (p : UInt8 → Bool) (l : List UInt8) (j : Nat) (hj : j < l.length) : runN p (l.drop j) = if p l[j] then runN p (l.drop (j + 1)) + 1 else 0 := by
  rw [List.drop_eq_getElem_cons hj]; rfl
theorem runN_end (p : UInt8 → Bool) (l : List UInt8) (j : Nat) (hj : l.length ≤ j) : runN p (l.drop j) = 0 := by
  rw [List.drop_eq_nil_of_le hj]; rfl
theorem getElem_data (s : ByteArray) (j : Nat) (h : j < s.size) (h' : j < s.data.toList.length) : s.data.toList[j] = s[j] := by
  rw [Array.getElem_toList]; rfl
set_option maxHeartbeats 1600000 in
set_option maxRecDepth 100000 in
theorem run_low (s : ByteArray) (hs : s.size ≤ 140737488355328) (w : World) :
    Calls Tryd.prog 29 #[.string s, .func (.func 51) #[] #[]] w fun e w' => e = .returned (.int .i64 (runN lowB s.data.toList : Nat)) ∧ Drawn0 w w' := by
  go_enter Tryd.func29, Tryd.ntmps29
  go_wp2
  go_loopg [5] s.size (fun gg s5 wr => ∃ j m : Nat, j ≤ s.size ∧ s.size - j ≤ gg ∧ s5 = .int .i64 j ∧ wr = w.drewN m ∧ Aside0 (j + runN lowB (s.data.toList.drop j) = runN lowB s.data.toList))
  case atStart => exact ⟨0, 0, Nat.zero_le _, by omega, rfl, (World.drewN_zero w).symm, ⟨by simp⟩⟩
  case round =>
    obtain ⟨j, m, hj, hg, rfl, rfl, HA⟩ := hrel
    by_cases hlt : j < s.size
    · have hltz : decide ((j : Int) < (s.size : Int)) = true := decide_eq_true (by omega)
      have hst := runN_step lowB s.data.toList j (by rw [data_length]; exact hlt)
      rw [getElem_data s j hlt] at hst
      have HST := Aside0.mk hst
      have HC := Aside0.mk (fun W => lex_low.calls (s[j].toNat : Int) (lowB s[j]) W (lex_low_eq s[j]))
      clear hst
      cases hp : lowB s[j] with
      | true =>
        have HP := Aside0.mk hp
        rw [hp] at HC
        clear hp
        go_wp2_with (go_at_call 51; refine (HC.out _).mono ?_; rintro e w' ⟨rfl, ⟨nd, rfl⟩⟩)
        go_roundg (s.size - (j + 1))
        case measure => omega
        case rel => exact ⟨j + 1, m + nd, by omega, by omega, by go_num, rfl, ⟨by have := HA.out; rw [HST.out, HP.out] at this; simp only [if_true] at this; omega⟩⟩
      | false =>
        have HP := Aside0.mk hp
        rw [hp] at HC
        clear hp
        go_wp2_with (go_at_call 51; refine (HC.out _).mono ?_; rintro e w' ⟨rfl, ⟨nd, rfl⟩⟩)
        go_ret
        exact ⟨ret_nat (by have := HA.out; rw [HST.out, HP.out] at this; simp only [Bool.false_eq_true, if_false, Nat.add_zero] at this; exact this), ⟨_, rfl⟩⟩
    · have hltz : decide ((j : Int) < (s.size : Int)) = false := decide_eq_false (by omega)
      have he := runN_end lowB s.data.toList j (by rw [data_length]; omega)
      have HE := Aside0.mk he
      clear he
      go_wp2
      go_ret
      exact ⟨ret_nat (by have := HA.out; rw [HE.out, Nat.add_zero] at this; exact this), ⟨_, rfl⟩⟩
set_option maxHeartbeats 1600000 in
set_option maxRecDepth 100000 in
theorem run_sign (s : ByteArray) (hs : s.size ≤ 140737488355328) (w : World) :
    Calls Tryd.prog 29 #[.string s, .func (.func 30) #[] #[]] w fun e w' => e = .returned (.int .i64 (runN signB s.data.toList : Nat)) ∧ Drawn0 w w' := by
  go_enter Tryd.func29, Tryd.ntmps29
  go_wp2
  go_loopg [5] s.size (fun gg s5 wr => ∃ j m : Nat, j ≤ s.size ∧ s.size - j ≤ gg ∧ s5 = .int .i64 j ∧ wr = w.drewN m ∧ Aside0 (j + runN signB (s.data.toList.drop j) = runN signB s.data.toList))
  case atStart => exact ⟨0, 0, Nat.zero_le _, by omega, rfl, (World.drewN_zero w).symm, ⟨by simp⟩⟩
  case round =>
    obtain ⟨j, m, hj, hg, rfl, rfl, HA⟩ := hrel
    by_cases hlt : j < s.size
    · have hltz : decide ((j : Int) < (s.size : Int)) = true := decide_eq_true (by omega)
      have hst := runN_step signB s.data.toList j (by rw [data_length]; exact hlt)
      rw [getElem_data s j hlt] at hst
      have HST := Aside0.mk hst
      have HC := Aside0.mk (fun W => lex_sign.calls (s[j].toNat : Int) (signB s[j]) W (lex_sign_eq s[j]))
      clear hst
      cases hp : signB s[j] with
      | true =>
        have HP := Aside0.mk hp
        rw [hp] at HC
        clear hp
        go_wp2_with (go_at_call 30; refine (HC.out _).mono ?_; rintro e w' ⟨rfl, ⟨nd, rfl⟩⟩)
        go_roundg (s.size - (j + 1))
        case measure => omega
        case rel => exact ⟨j + 1, m + nd, by omega, by omega, by go_num, rfl, ⟨by have := HA.out; rw [HST.out, HP.out] at this; simp only [if_true] at this; omega⟩⟩
      | false =>
        have HP := Aside0.mk hp
        rw [hp] at HC
        clear hp
        go_wp2_with (go_at_call 30; refine (HC.out _).mono ?_; rintro e w' ⟨rfl, ⟨nd, rfl⟩⟩)
        go_ret
        exact ⟨ret_nat (by have := HA.out; rw [HST.out, HP.out] at this; simp only [Bool.false_eq_true, if_false, Nat.add_zero] at this; exact this), ⟨_, rfl⟩⟩
    · have hltz : decide ((j : Int) < (s.size : Int)) = false := decide_eq_false (by omega)
      have he := runN_end signB s.data.toList j (by rw [data_length]; omega)
      have HE := Aside0.mk he
      clear he
      go_wp2
      go_ret
      exact ⟨ret_nat (by have := HA.out; rw [HE.out, Nat.add_zero] at this; exact this), ⟨_, rfl⟩⟩
end Go.Proofs.YthebhbomlllpeaaDoor.X
