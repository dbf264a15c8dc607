/-
  ParseDeep: what the proof needs, put together by a program of this session (shake.py), part 5.
-/
import Derived.Test.YthebhbomlllpeaaGreatDoorCards
import Derived.Test.YthebhbomlllpeaaGreatDoorTie
import Derived.Test.YthebhbomlllpeaaGreatDoorProg
import Derived.Below
import Derived.Deep.Draws
import Derived.Deep.AppendLies
import Derived.Maps.AppendAt
import Derived.OwnWalk
import Derived.Laws.BytesArg
import Derived.Laws.MakeOwn
import Derived.Laws.OwnMore
import Derived.Deep.OwnRows
import Derived.Tactics
import Derived.Lib.ConvBytes
import Derived.Laws.Slices
import Derived.WalkKit
import Derived.KernelRfl
import Derived.RowKit3
import Derived.Deep.LoopGhost
import Derived.Deep.QuietTactic
import Derived.BigQuiet
import Derived.WideLaws
import Derived.Deep.DeepCutAuto
import Derived.Deep.CutBlock
import Derived.Deep.RegionHeld3
import Derived.Laws.Rows
import Derived.Lib.AppendStr
import Derived.ArgAppend
import Derived.Laws.IdiomCopy
import Derived.OrdersHeld
import Derived.Laws.BitsLemmas
import Derived.RowKit
import Derived.Lib.SmallJoins
import Derived.Lib.ItoaMem
import Derived.Test.YthebhbomlllpeaaGreatDoorWWords
import Derived.Test.YthebhbomlllpeaaGreatDoorWLast
import Derived.Test.YthebhbomlllpeaaGreatDoorWTab
import Derived.Test.YthebhbomlllpeaaGreatDoorWFour
import Derived.Test.YthebhbomlllpeaaGreatDoorWQPut
import Derived.Test.YthebhbomlllpeaaGreatDoorWApart
import Derived.Test.YthebhbomlllpeaaGreatDoorWArr
import Derived.Test.YthebhbomlllpeaaGreatDoorWZeros
import Derived.Test.YthebhbomlllpeaaGreatDoorWFoot
import Derived.Test.YthebhbomlllpeaaGreatDoorWKept
import Derived.Test.YthebhbomlllpeaaGreatDoorWShare
import Derived.Test.YthebhbomlllpeaaGreatDoorWN
import Derived.Test.YthebhbomlllpeaaGreatDoorWFootNe
import Derived.Test.YthebhbomlllpeaaGreatDoorWAt
import Derived.Test.YthebhbomlllpeaaGreatDoorWEqStruct
import Derived.Test.YthebhbomlllpeaaGreatDoorWRepsOne
import Derived.Test.YthebhbomlllpeaaGreatDoorWInv
import Derived.Test.YthebhbomlllpeaaGreatDoorWInvWords
import Derived.Test.YthebhbomlllpeaaGreatDoorWGuard
import Derived.Test.YthebhbomlllpeaaGreatDoorWNEv
import Derived.Test.YthebhbomlllpeaaGreatDoorWMore
import Derived.Test.YthebhbomlllpeaaGreatDoorRows
import Derived.Deep.Slices
import Derived.Deep.Fields
import Derived.ChangeSame
import Derived.ProofKit
import Derived.OpenShut
import Derived.Deep.DeepHandedRow
import Derived.Lib.LaidTab
import Derived.LaidMore
import Derived.Stop.LaidErr
import Derived.MakeChecks
import Derived.WalkLawsBesides
import Derived.StillTailTactics
import Derived.Laws.NewBlocks
import Derived.Shelf.Strings.Builder1
import Derived.Shelf.Strings.Builder2
import Derived.Shelf.Strings.OnBuilder
import Derived.Shelf.Small.Strs
import Derived.Shelf.Small.Wraps
import Derived.Shelf.Strings.BuilderF
import Derived.Shelf.Strings.BuilderK
import Derived.Shelf.Strings.Builder2Cap
import Derived.Shelf.Strconv.Itoa0
import Derived.Shelf.Strconv.Itoa1
import Derived.Shelf.LaysM
import Derived.Shelf.Strconv.Itoa2
import Derived.Shelf.Strconv.Itoa3
import Derived.Shelf.Strconv.Itoa4
import Derived.Shelf.Strconv.ParseIntEmpty
import Derived.Shelf.Strconv.Clone
import Derived.Shelf.Strconv.SyntaxError
import Derived.Shelf.LaysC
import Derived.Shelf.Strconv.ToError
import Derived.Shelf.Strconv.Lower
import Derived.Shelf.Strconv.ParseUint10
import Derived.Shelf.Strconv.ParseUint10Empty
import Derived.Shelf.Strconv.ParseUint10Any
import Derived.Shelf.Strconv.ParseInt10
import Derived.Shelf.Strconv.RangeError
import Derived.Shelf.Strconv.ToErrorRange
import Derived.Shelf.Strconv.ParseUintEmpty
import Derived.Shelf.Strconv.ParseUint10b64
import Derived.Shelf.Strconv.ParseUint10b32
import Derived.Shelf.Strconv.ParseUint10b16
import Derived.Shelf.Strconv.ParseUint10b8
import Derived.Shelf.Strconv.ParseUint10At
import Derived.Shelf.Strconv.ParseInt10At64
import Derived.Shelf.Strconv.ParseInt10At32
import Derived.Shelf.Strconv.ParseInt10At16
import Derived.Shelf.Strconv.ParseInt10At8
import Derived.Shelf.Strconv.ParseInt10All
import Derived.Shelf.Strconv.ParseIntPublic10
import Derived.Shelf.Strconv.ErrVarParseInt
import Derived.Ground.MpProg
import Derived.Shelf.Pu.ParseUintPublic10
import Derived.Shelf.Pu.ErrVarParseUint
import Derived.Shelf.Strings.Search1
import Derived.Shelf.Strings.Prefix
import Derived.Shelf.Bits.Mul64
import Derived.Shelf.Strings.Repeat
import Derived.Shelf.Strings.BuilderCap
import Derived.Lib.AtoiAllMem
import Derived.Lib.ParseIntB
import Derived.Lib.Hide
import Derived.Laws.Strings3
import Derived.Laws.Closers25
import Derived.Laws.Closers25b
import Derived.BigCall
import Derived.BigGuard
import Derived.Laws.RangeAny
import Derived.Laws.RangeString
import Derived.Lib.ParseIntBTie
import Init
import Derived.LoopN
import Derived.WalkMore
import Derived.Deep.MidRow
import Derived.Recover
import Derived.Test.YthebhbomlllpeaaGreatDoorZParseDeep4
namespace Go.Proofs.YthebhbomlllpeaaGreatDoor.X
set_option linter.unusedVariables false
set_option linter.unusedSimpArgs false
open Go.RowKit Go.Proofs.YthebhbomlllpeaaGreatDoorW.PrintWords Go.Proofs.YthebhbomlllpeaaGreatDoorW.PrintLast Go.Proofs.YthebhbomlllpeaaGreatDoorW.PrintMore
abbrev awT : ByteArray := ⟨#[112, 40, 88, 44, 32, 99, 111, 117, 110, 116, 40, 89, 41, 41, 32, 58, 45, 32, 119, 97, 108, 107, 40, 88, 44, 32, 97, 47, 94, 98, 42, 44, 32, 89, 41, 46, 32, 63, 45, 32, 112, 40, 88, 44, 32, 51, 41, 46]⟩
def awRule : RlS := ⟨⟨⟨#[112]⟩, [⟨⟨#[88]⟩, noneV⟩, ⟨⟨#[89]⟩, noneV⟩]⟩, 1, [⟨5, noneA, ⟨#[]⟩, ⟨⟨#[88]⟩, noneV⟩, ⟨⟨#[89]⟩, noneV⟩, noneT, [⟨1, ⟨#[97]⟩⟩, ⟨2, ⟨#[98]⟩⟩, ⟨5, ⟨#[]⟩⟩, ⟨3, ⟨#[]⟩⟩]⟩]⟩
theorem aw_parse : parse_Parse.f awT = some ([awRule], ⟨#[112]⟩, [⟨⟨#[88]⟩, noneV⟩, ⟨⟨#[]⟩, ⟨1, 3, ⟨#[]⟩⟩⟩], 0, 0) := by kernel_rfl
theorem aw_deep : parse_Deep.f 20 ⟨#[40, 40, 97, 41, 41]⟩ = some 2 := by kernel_rfl
theorem add0 (a : Addr) : a.add 0 = a := by simp [Addr.add]
theorem add2 (a : Addr) : a.add 2 = ⟨a.block, a.off + 2, none⟩ := by simp [Addr.add]
theorem add6 (a : Addr) : a.add 6 = ⟨a.block, a.off + 6, none⟩ := by simp [Addr.add]
set_option maxHeartbeats 4000000 in
set_option maxRecDepth 100000 in
theorem awake8_calls (w : World) (hLW : LaidW w) :
    Calls Tryz.prog 28 #[] w fun e w' => e = .returned (.bool true) ∧ Below w.heap.size w w' := by
  have HP := Aside0.mk (parse_Parse.calls awT [awRule] ⟨#[112]⟩ [⟨⟨#[88]⟩, noneV⟩, ⟨⟨#[]⟩, ⟨1, 3, ⟨#[]⟩⟩⟩] 0 0 w hLW aw_parse)
  have HLW := Aside0.mk hLW
  clear hLW
  go_enter Tryz.func28, Tryz.ntmps28
  go_wp2_with fail
  refine HP.out.mono ?_
  rintro e w1 ⟨v0, v1, rfl, h0, h1, hb⟩
  obtain ⟨A, c, rfl⟩ := Kd.R_slice h0
  obtain ⟨A2, c2, rfl⟩ := Kd.R_slice h1
  obtain ⟨n, en⟩ : ∃ n, w1.heap.size = n := ⟨_, rfl⟩
  have hW := blk_new w1 (.cells #[.slice A 1 c, .string ⟨#[112]⟩, .slice A2 2 c2] 27)
  rw [en] at hW
  have hC := Kd.C_below (Kd.R_reads' h0).2.2 (below_alloc (Below.refl w1.heap.size w1) (.cells #[.slice A 1 c, .string ⟨#[112]⟩, .slice A2 2 c2] 27))
  have HB := Aside0.mk (below_alloc hb (.cells #[.slice A 1 c, .string ⟨#[112]⟩, .slice A2 2 c2] 27))
  have HCW := Aside0.mk (And.intro hW hC)
  clear h0 h1 hb hW hC HP
  go_upto_region 2 with (fail)
  generalize w1.alloc (.cells #[.slice A 1 c, .string ⟨#[112]⟩, .slice A2 2 c2] 27) = W at HB HCW ⊢
  have d0 : W.cell? ⟨n, 0, none⟩ = some (.slice A 1 c) := (blk_cell HCW.out.1 0).trans rfl
  have d1 : W.cell? ⟨n, 1, none⟩ = some (.string ⟨#[112]⟩) := (blk_cell HCW.out.1 1).trans rfl
  obtain ⟨ad, A1, c1, A3, c3, rfl, _, _, x2, x3, _, _, _, g3⟩ := at_T33 HCW.out.2 0 (by decide) (by decide)
  obtain ⟨ad3, B2, b2, B16, b16, rfl, _, _, _, _, _, _, _, _, _, _, _, _, _, _, _, _, y16, _, _, _, g16⟩ := at_T62 g3 0 (by decide) (by decide)
  obtain ⟨ad16, rfl, z10, z11⟩ := at_T69 g16 1 (by decide) (by decide)
  obtain ⟨ad16', e16, z30, z31⟩ := at_T69 g16 3 (by decide) (by decide)
  cases e16
  replace x2 : W.cell? ⟨(ad.add 0).block, (ad.add 0).off + 2, none⟩ = some (.int .i64 1) := x2
  simp only [add0] at x2
  replace x3 : W.cell? ⟨(ad.add 0).block, (ad.add 0).off + 3, none⟩ = some (.slice (some ad3) 1 c3) := x3
  simp only [add0] at x3
  replace y16 : W.cell? ⟨(ad3.add 0).block, (ad3.add 0).off + 16, none⟩ = some (.slice (some ad16) 4 b16) := y16
  simp only [add0] at y16
  replace z10 : W.cell? (ad16.add 2) = some (.int .i64 2) := z10
  rw [add2] at z10
  replace z11 : W.cell? ⟨(ad16.add 2).block, (ad16.add 2).off + 1, none⟩ = some (.string ⟨#[98]⟩) := z11
  rw [add2] at z11
  replace z30 : W.cell? (ad16.add 6) = some (.int .i64 3) := z30
  rw [add6] at z30
  clear g3 g16 z31
  have HD := Aside0.mk (fun V (h : LaidW V) => parse_Deep.calls 20 ⟨#[40, 40, 97, 41, 41]⟩ 2 V h aw_deep)
  go_wp2_with fail
  refine (HD.out W (HLW.out.below HB.out)).mono ?_
  rintro e w2 ⟨rfl, hb2⟩
  have HB2 := Aside0.mk (below_then HB.out HB.out.size hb2)
  clear hb2
  go_wp2
  go_ret
  exact ⟨rfl, HB2.out⟩
end Go.Proofs.YthebhbomlllpeaaGreatDoor.X
namespace Go.Proofs.YthebhbomlllpeaaGreatDoor.X
set_option linter.unusedVariables false
set_option linter.unusedSimpArgs false
open Go.RowKit Go.Proofs.YthebhbomlllpeaaGreatDoorW.PrintWords Go.Proofs.YthebhbomlllpeaaGreatDoorW.PrintLast Go.Proofs.YthebhbomlllpeaaGreatDoorW.PrintMore
/-- a name in so many ( and ). -/
def par (nm : ByteArray) : Nat → ByteArray
  | 0 => nm
  | m + 1 => ((⟨#[40]⟩ : ByteArray) ++ par nm m) ++ (⟨#[41]⟩ : ByteArray)
theorem par_size (nm : ByteArray) : ∀ m, (par nm m).size = nm.size + 2 * m
  | 0 => rfl
  | m + 1 => by
    simp only [par, ByteArray.size_append, par_size nm m]
    show 1 + _ + 1 = _
    omega
def nmD (i : Fin 3) : ByteArray := ⟨#[97 + i.val.toUInt8]⟩
def pathD (i : Fin 3) (n : Nat) : Bool := (parse_Path.f (par (nmD i) n)).map (fun x => (x.1.map fun y => (y.f0, y.f1.data.toList), x.2)) == some (if 32 < n then ([], 32, 3) else ([(1, (nmD i).data.toList)], 0, 0))
def deepD (i : Fin 3) (n : Nat) : Bool := parse_Deep.f 200 (par (nmD i) n) == some (n : Int)
/-- what comes of a text in so many ( and ). -/
def DeepF (nm : ByteArray) (n : Nat) : Prop := (∃ l a e, parse_Path.f (par nm n) = some (l, a, e) ∧ ((32 < n ∧ l = [] ∧ a = 32 ∧ e = 3) ∨ (n ≤ 32 ∧ l = [⟨1, nm⟩] ∧ e = 0))) ∧ parse_Deep.f 200 (par nm n) = some (n : Int)
set_option maxHeartbeats 4000000 in
set_option maxRecDepth 100000 in
theorem deep_walk0 (a0 a1 : Int) (n : Nat) (hn : n < 40) (h0 : Int.tmod a0 3 = 0) (h1 : Int.tmod (wrap64 a1) 40 = n) (hF : DeepF ⟨#[97]⟩ n) (w : World) (hLW : LaidW w) :
    Calls Tryz.prog 11 #[.int .u8 a0, .int .u8 a1] w fun e w' => e = .returned (.bool true) ∧ Below w.heap.size w w' := by
  have HA := Aside0.mk (awake8_calls w hLW)
  have HLW := Aside0.mk hLW
  have HF := Aside0.mk hF
  have hE : ((⟨#[97, 98, 99]⟩ : ByteArray).extract 0 3).extract 0 1 = ⟨#[97]⟩ := by decide +kernel
  clear hLW hF
  go_enter Tryz.func11, Tryz.ntmps11
  go_wp2_with fail
  refine HA.out.mono ?_
  rintro e w1 ⟨rfl, hb⟩
  have HB := Aside0.mk hb
  clear hb HA
  go_wp2
  go_loopg [7, 22] (n + 1) (fun kq v7 v22 w' => ∃ m : Nat, v7 = .string (par ⟨#[97]⟩ m) ∧ v22 = .int .i64 m ∧ kq + m = n + 1 ∧ m ≤ n ∧ Aside0 (Below w.heap.size w w'))
  case atStart => exact ⟨0, by first | rfl | (rw [hE]; rfl), rfl, by omega, by omega, HB⟩
  case round =>
    clear HB
    obtain ⟨m, rfl, rfl, hk, hm, HB⟩ := hrel
    by_cases hlt : m < n
    · have hz : decide ((m : Int) < (n : Int)) = true := decide_eq_true (by omega)
      have hz2 : decide (m < n) = true := decide_eq_true hlt
      have hs := par_size ⟨#[97]⟩ m
      have hs0 : (⟨#[97]⟩ : ByteArray).size = 1 := rfl
      have e1 : (9223372036854775807 < 1 + (par ⟨#[97]⟩ m).size) = False := eq_false (by omega)
      have e2 : (9223372036854775807 < 1 + (par ⟨#[97]⟩ m).size + 1) = False := eq_false (by omega)
      clear hs hs0
      obtain ⟨k1, rfl⟩ : ∃ k1, gk = k1 + 1 := ⟨gk - 1, by omega⟩
      go_wp2
      go_roundg k1
      case rel => exact ⟨m + 1, rfl, by go_num, by omega, by omega, HB⟩
      case measure => omega
    · obtain rfl : m = n := by omega
      have hz : decide ((m : Int) < (m : Int)) = false := decide_eq_false (by omega)
      obtain ⟨⟨l, a, e, hp, hcase⟩, hd⟩ := HF.out
      have HP := Aside0.mk (fun V (h : LaidW V) => parse_Path.calls (par ⟨#[97]⟩ m) l a e V h hp)
      have HD := Aside0.mk (fun V (h : LaidW V) => parse_Deep.calls 200 (par ⟨#[97]⟩ m) (m : Int) V h hd)
      clear hp hd
      rcases hcase with ⟨h32, rfl, rfl, rfl⟩ | ⟨h32, rfl, rfl⟩
      · have hg : decide ((32 : Int) < (m : Int)) = true := decide_eq_true (by omega)
        have hg2 : decide (32 < m) = true := decide_eq_true h32
        go_wp2_with fail
        refine (HP.out _ (HLW.out.below HB.out)).mono ?_
        rintro e w3 ⟨v, rfl, hv, hb⟩
        have HB3 := Aside0.mk (below_then HB.out HB.out.size hb)
        obtain ⟨A, c, rfl⟩ := Kd.R_slice hv
        clear hv hb
        go_wp2_with fail
        refine (HD.out _ (HLW.out.below HB3.out)).mono ?_
        rintro e w4 ⟨rfl, hb⟩
        have HB4 := Aside0.mk (below_then HB3.out HB3.out.size hb)
        clear hb
        go_wp2
        go_ret
        exact ⟨by simp, HB4.out⟩
      · have hg : decide ((32 : Int) < (m : Int)) = false := decide_eq_false (by omega)
        have hg2 : decide (32 < m) = false := decide_eq_false (by omega)
        go_wp2_with fail
        refine (HP.out _ (HLW.out.below HB.out)).mono ?_
        rintro e w3 ⟨v, rfl, hv, hb⟩
        have HB3 := Aside0.mk (below_then HB.out HB.out.size hb)
        obtain ⟨A, c, rfl⟩ := Kd.R_slice hv
        obtain ⟨ad, rfl, z0, z1⟩ := at_T69 (Kd.R_reads' hv).2.2 0 (by decide) (by decide)
        replace z0 : w3.cell? (ad.add 0) = some (.int .i64 1) := z0
        replace z1 : w3.cell? ⟨(ad.add 0).block, (ad.add 0).off + 1, none⟩ = some (.string ⟨#[97]⟩) := z1
        simp only [add0] at z0 z1
        clear hv hb
        go_wp2_with fail
        refine (HD.out _ (HLW.out.below HB3.out)).mono ?_
        rintro e w4 ⟨rfl, hb⟩
        have HB4 := Aside0.mk (below_then HB3.out HB3.out.size hb)
        clear hb
        go_wp2
        go_ret
        exact ⟨by simp, HB4.out⟩
set_option maxHeartbeats 4000000 in
set_option maxRecDepth 100000 in
theorem deep_walk1 (a0 a1 : Int) (n : Nat) (hn : n < 40) (h0 : Int.tmod a0 3 = 1) (h1 : Int.tmod (wrap64 a1) 40 = n) (hF : DeepF ⟨#[98]⟩ n) (w : World) (hLW : LaidW w) :
    Calls Tryz.prog 11 #[.int .u8 a0, .int .u8 a1] w fun e w' => e = .returned (.bool true) ∧ Below w.heap.size w w' := by
  have HA := Aside0.mk (awake8_calls w hLW)
  have HLW := Aside0.mk hLW
  have HF := Aside0.mk hF
  have hE : ((⟨#[97, 98, 99]⟩ : ByteArray).extract 1 3).extract 0 1 = ⟨#[98]⟩ := by decide +kernel
  clear hLW hF
  go_enter Tryz.func11, Tryz.ntmps11
  go_wp2_with fail
  refine HA.out.mono ?_
  rintro e w1 ⟨rfl, hb⟩
  have HB := Aside0.mk hb
  clear hb HA
  go_wp2
  go_loopg [7, 22] (n + 1) (fun kq v7 v22 w' => ∃ m : Nat, v7 = .string (par ⟨#[98]⟩ m) ∧ v22 = .int .i64 m ∧ kq + m = n + 1 ∧ m ≤ n ∧ Aside0 (Below w.heap.size w w'))
  case atStart => exact ⟨0, by first | rfl | (rw [hE]; rfl), rfl, by omega, by omega, HB⟩
  case round =>
    clear HB
    obtain ⟨m, rfl, rfl, hk, hm, HB⟩ := hrel
    by_cases hlt : m < n
    · have hz : decide ((m : Int) < (n : Int)) = true := decide_eq_true (by omega)
      have hz2 : decide (m < n) = true := decide_eq_true hlt
      have hs := par_size ⟨#[98]⟩ m
      have hs0 : (⟨#[98]⟩ : ByteArray).size = 1 := rfl
      have e1 : (9223372036854775807 < 1 + (par ⟨#[98]⟩ m).size) = False := eq_false (by omega)
      have e2 : (9223372036854775807 < 1 + (par ⟨#[98]⟩ m).size + 1) = False := eq_false (by omega)
      clear hs hs0
      obtain ⟨k1, rfl⟩ : ∃ k1, gk = k1 + 1 := ⟨gk - 1, by omega⟩
      go_wp2
      go_roundg k1
      case rel => exact ⟨m + 1, rfl, by go_num, by omega, by omega, HB⟩
      case measure => omega
    · obtain rfl : m = n := by omega
      have hz : decide ((m : Int) < (m : Int)) = false := decide_eq_false (by omega)
      obtain ⟨⟨l, a, e, hp, hcase⟩, hd⟩ := HF.out
      have HP := Aside0.mk (fun V (h : LaidW V) => parse_Path.calls (par ⟨#[98]⟩ m) l a e V h hp)
      have HD := Aside0.mk (fun V (h : LaidW V) => parse_Deep.calls 200 (par ⟨#[98]⟩ m) (m : Int) V h hd)
      clear hp hd
      rcases hcase with ⟨h32, rfl, rfl, rfl⟩ | ⟨h32, rfl, rfl⟩
      · have hg : decide ((32 : Int) < (m : Int)) = true := decide_eq_true (by omega)
        have hg2 : decide (32 < m) = true := decide_eq_true h32
        go_wp2_with fail
        refine (HP.out _ (HLW.out.below HB.out)).mono ?_
        rintro e w3 ⟨v, rfl, hv, hb⟩
        have HB3 := Aside0.mk (below_then HB.out HB.out.size hb)
        obtain ⟨A, c, rfl⟩ := Kd.R_slice hv
        clear hv hb
        go_wp2_with fail
        refine (HD.out _ (HLW.out.below HB3.out)).mono ?_
        rintro e w4 ⟨rfl, hb⟩
        have HB4 := Aside0.mk (below_then HB3.out HB3.out.size hb)
        clear hb
        go_wp2
        go_ret
        exact ⟨by simp, HB4.out⟩
      · have hg : decide ((32 : Int) < (m : Int)) = false := decide_eq_false (by omega)
        have hg2 : decide (32 < m) = false := decide_eq_false (by omega)
        go_wp2_with fail
        refine (HP.out _ (HLW.out.below HB.out)).mono ?_
        rintro e w3 ⟨v, rfl, hv, hb⟩
        have HB3 := Aside0.mk (below_then HB.out HB.out.size hb)
        obtain ⟨A, c, rfl⟩ := Kd.R_slice hv
        obtain ⟨ad, rfl, z0, z1⟩ := at_T69 (Kd.R_reads' hv).2.2 0 (by decide) (by decide)
        replace z0 : w3.cell? (ad.add 0) = some (.int .i64 1) := z0
        replace z1 : w3.cell? ⟨(ad.add 0).block, (ad.add 0).off + 1, none⟩ = some (.string ⟨#[98]⟩) := z1
        simp only [add0] at z0 z1
        clear hv hb
        go_wp2_with fail
        refine (HD.out _ (HLW.out.below HB3.out)).mono ?_
        rintro e w4 ⟨rfl, hb⟩
        have HB4 := Aside0.mk (below_then HB3.out HB3.out.size hb)
        clear hb
        go_wp2
        go_ret
        exact ⟨by simp, HB4.out⟩
set_option maxHeartbeats 4000000 in
set_option maxRecDepth 100000 in
theorem deep_walk2 (a0 a1 : Int) (n : Nat) (hn : n < 40) (h0 : Int.tmod a0 3 = 2) (h1 : Int.tmod (wrap64 a1) 40 = n) (hF : DeepF ⟨#[99]⟩ n) (w : World) (hLW : LaidW w) :
    Calls Tryz.prog 11 #[.int .u8 a0, .int .u8 a1] w fun e w' => e = .returned (.bool true) ∧ Below w.heap.size w w' := by
  have HA := Aside0.mk (awake8_calls w hLW)
  have HLW := Aside0.mk hLW
  have HF := Aside0.mk hF
  have hE : ((⟨#[97, 98, 99]⟩ : ByteArray).extract 2 3).extract 0 1 = ⟨#[99]⟩ := by decide +kernel
  clear hLW hF
  go_enter Tryz.func11, Tryz.ntmps11
  go_wp2_with fail
  refine HA.out.mono ?_
  rintro e w1 ⟨rfl, hb⟩
  have HB := Aside0.mk hb
  clear hb HA
  go_wp2
  go_loopg [7, 22] (n + 1) (fun kq v7 v22 w' => ∃ m : Nat, v7 = .string (par ⟨#[99]⟩ m) ∧ v22 = .int .i64 m ∧ kq + m = n + 1 ∧ m ≤ n ∧ Aside0 (Below w.heap.size w w'))
  case atStart => exact ⟨0, by first | rfl | (rw [hE]; rfl), rfl, by omega, by omega, HB⟩
  case round =>
    clear HB
    obtain ⟨m, rfl, rfl, hk, hm, HB⟩ := hrel
    by_cases hlt : m < n
    · have hz : decide ((m : Int) < (n : Int)) = true := decide_eq_true (by omega)
      have hz2 : decide (m < n) = true := decide_eq_true hlt
      have hs := par_size ⟨#[99]⟩ m
      have hs0 : (⟨#[99]⟩ : ByteArray).size = 1 := rfl
      have e1 : (9223372036854775807 < 1 + (par ⟨#[99]⟩ m).size) = False := eq_false (by omega)
      have e2 : (9223372036854775807 < 1 + (par ⟨#[99]⟩ m).size + 1) = False := eq_false (by omega)
      clear hs hs0
      obtain ⟨k1, rfl⟩ : ∃ k1, gk = k1 + 1 := ⟨gk - 1, by omega⟩
      go_wp2
      go_roundg k1
      case rel => exact ⟨m + 1, rfl, by go_num, by omega, by omega, HB⟩
      case measure => omega
    · obtain rfl : m = n := by omega
      have hz : decide ((m : Int) < (m : Int)) = false := decide_eq_false (by omega)
      obtain ⟨⟨l, a, e, hp, hcase⟩, hd⟩ := HF.out
      have HP := Aside0.mk (fun V (h : LaidW V) => parse_Path.calls (par ⟨#[99]⟩ m) l a e V h hp)
      have HD := Aside0.mk (fun V (h : LaidW V) => parse_Deep.calls 200 (par ⟨#[99]⟩ m) (m : Int) V h hd)
      clear hp hd
      rcases hcase with ⟨h32, rfl, rfl, rfl⟩ | ⟨h32, rfl, rfl⟩
      · have hg : decide ((32 : Int) < (m : Int)) = true := decide_eq_true (by omega)
        have hg2 : decide (32 < m) = true := decide_eq_true h32
        go_wp2_with fail
        refine (HP.out _ (HLW.out.below HB.out)).mono ?_
        rintro e w3 ⟨v, rfl, hv, hb⟩
        have HB3 := Aside0.mk (below_then HB.out HB.out.size hb)
        obtain ⟨A, c, rfl⟩ := Kd.R_slice hv
        clear hv hb
        go_wp2_with fail
        refine (HD.out _ (HLW.out.below HB3.out)).mono ?_
        rintro e w4 ⟨rfl, hb⟩
        have HB4 := Aside0.mk (below_then HB3.out HB3.out.size hb)
        clear hb
        go_wp2
        go_ret
        exact ⟨by simp, HB4.out⟩
      · have hg : decide ((32 : Int) < (m : Int)) = false := decide_eq_false (by omega)
        have hg2 : decide (32 < m) = false := decide_eq_false (by omega)
        go_wp2_with fail
        refine (HP.out _ (HLW.out.below HB.out)).mono ?_
        rintro e w3 ⟨v, rfl, hv, hb⟩
        have HB3 := Aside0.mk (below_then HB.out HB.out.size hb)
        obtain ⟨A, c, rfl⟩ := Kd.R_slice hv
        obtain ⟨ad, rfl, z0, z1⟩ := at_T69 (Kd.R_reads' hv).2.2 0 (by decide) (by decide)
        replace z0 : w3.cell? (ad.add 0) = some (.int .i64 1) := z0
        replace z1 : w3.cell? ⟨(ad.add 0).block, (ad.add 0).off + 1, none⟩ = some (.string ⟨#[99]⟩) := z1
        simp only [add0] at z0 z1
        clear hv hb
        go_wp2_with fail
        refine (HD.out _ (HLW.out.below HB3.out)).mono ?_
        rintro e w4 ⟨rfl, hb⟩
        have HB4 := Aside0.mk (below_then HB3.out HB3.out.size hb)
        clear hb
        go_wp2
        go_ret
        exact ⟨by simp, HB4.out⟩
end Go.Proofs.YthebhbomlllpeaaGreatDoor.X
namespace Go.Proofs.YthebhbomlllpeaaGreatDoor.X
set_option maxRecDepth 100000
set_option maxHeartbeats 4000000
theorem pathD_0_0 : pathD 0 0 = true := by kernel_rfl
theorem deepD_0_0 : deepD 0 0 = true := by kernel_rfl
theorem pathD_0_1 : pathD 0 1 = true := by kernel_rfl
theorem deepD_0_1 : deepD 0 1 = true := by kernel_rfl
theorem pathD_0_2 : pathD 0 2 = true := by kernel_rfl
theorem deepD_0_2 : deepD 0 2 = true := by kernel_rfl
theorem pathD_0_3 : pathD 0 3 = true := by kernel_rfl
theorem deepD_0_3 : deepD 0 3 = true := by kernel_rfl
theorem pathD_0_4 : pathD 0 4 = true := by kernel_rfl
theorem deepD_0_4 : deepD 0 4 = true := by kernel_rfl
theorem pathD_0_5 : pathD 0 5 = true := by kernel_rfl
theorem deepD_0_5 : deepD 0 5 = true := by kernel_rfl
theorem pathD_0_6 : pathD 0 6 = true := by kernel_rfl
theorem deepD_0_6 : deepD 0 6 = true := by kernel_rfl
theorem pathD_0_7 : pathD 0 7 = true := by kernel_rfl
theorem deepD_0_7 : deepD 0 7 = true := by kernel_rfl
theorem pathD_0_8 : pathD 0 8 = true := by kernel_rfl
theorem deepD_0_8 : deepD 0 8 = true := by kernel_rfl
theorem pathD_0_9 : pathD 0 9 = true := by kernel_rfl
theorem deepD_0_9 : deepD 0 9 = true := by kernel_rfl
theorem pathD_0_10 : pathD 0 10 = true := by kernel_rfl
theorem deepD_0_10 : deepD 0 10 = true := by kernel_rfl
theorem pathD_0_11 : pathD 0 11 = true := by kernel_rfl
theorem deepD_0_11 : deepD 0 11 = true := by kernel_rfl
theorem pathD_0_12 : pathD 0 12 = true := by kernel_rfl
theorem deepD_0_12 : deepD 0 12 = true := by kernel_rfl
theorem pathD_0_13 : pathD 0 13 = true := by kernel_rfl
theorem deepD_0_13 : deepD 0 13 = true := by kernel_rfl
theorem pathD_0_14 : pathD 0 14 = true := by kernel_rfl
theorem deepD_0_14 : deepD 0 14 = true := by kernel_rfl
theorem pathD_0_15 : pathD 0 15 = true := by kernel_rfl
theorem deepD_0_15 : deepD 0 15 = true := by kernel_rfl
theorem pathD_0_16 : pathD 0 16 = true := by kernel_rfl
theorem deepD_0_16 : deepD 0 16 = true := by kernel_rfl
theorem pathD_0_17 : pathD 0 17 = true := by kernel_rfl
theorem deepD_0_17 : deepD 0 17 = true := by kernel_rfl
theorem pathD_0_18 : pathD 0 18 = true := by kernel_rfl
theorem deepD_0_18 : deepD 0 18 = true := by kernel_rfl
theorem pathD_0_19 : pathD 0 19 = true := by kernel_rfl
theorem deepD_0_19 : deepD 0 19 = true := by kernel_rfl
theorem pathD_0_20 : pathD 0 20 = true := by kernel_rfl
theorem deepD_0_20 : deepD 0 20 = true := by kernel_rfl
theorem pathD_0_21 : pathD 0 21 = true := by kernel_rfl
theorem deepD_0_21 : deepD 0 21 = true := by kernel_rfl
theorem pathD_0_22 : pathD 0 22 = true := by kernel_rfl
theorem deepD_0_22 : deepD 0 22 = true := by kernel_rfl
theorem pathD_0_23 : pathD 0 23 = true := by kernel_rfl
theorem deepD_0_23 : deepD 0 23 = true := by kernel_rfl
theorem pathD_0_24 : pathD 0 24 = true := by kernel_rfl
theorem deepD_0_24 : deepD 0 24 = true := by kernel_rfl
theorem pathD_0_25 : pathD 0 25 = true := by kernel_rfl
theorem deepD_0_25 : deepD 0 25 = true := by kernel_rfl
theorem pathD_0_26 : pathD 0 26 = true := by kernel_rfl
theorem deepD_0_26 : deepD 0 26 = true := by kernel_rfl
theorem pathD_0_27 : pathD 0 27 = true := by kernel_rfl
theorem deepD_0_27 : deepD 0 27 = true := by kernel_rfl
theorem pathD_0_28 : pathD 0 28 = true := by kernel_rfl
theorem deepD_0_28 : deepD 0 28 = true := by kernel_rfl
theorem pathD_0_29 : pathD 0 29 = true := by kernel_rfl
theorem deepD_0_29 : deepD 0 29 = true := by kernel_rfl
theorem pathD_0_30 : pathD 0 30 = true := by kernel_rfl
theorem deepD_0_30 : deepD 0 30 = true := by kernel_rfl
theorem pathD_0_31 : pathD 0 31 = true := by kernel_rfl
theorem deepD_0_31 : deepD 0 31 = true := by kernel_rfl
theorem pathD_0_32 : pathD 0 32 = true := by kernel_rfl
theorem deepD_0_32 : deepD 0 32 = true := by kernel_rfl
theorem pathD_0_33 : pathD 0 33 = true := by kernel_rfl
theorem deepD_0_33 : deepD 0 33 = true := by kernel_rfl
theorem pathD_0_34 : pathD 0 34 = true := by kernel_rfl
theorem deepD_0_34 : deepD 0 34 = true := by kernel_rfl
theorem pathD_0_35 : pathD 0 35 = true := by kernel_rfl
theorem deepD_0_35 : deepD 0 35 = true := by kernel_rfl
theorem pathD_0_36 : pathD 0 36 = true := by kernel_rfl
theorem deepD_0_36 : deepD 0 36 = true := by kernel_rfl
theorem pathD_0_37 : pathD 0 37 = true := by kernel_rfl
theorem deepD_0_37 : deepD 0 37 = true := by kernel_rfl
theorem pathD_0_38 : pathD 0 38 = true := by kernel_rfl
theorem deepD_0_38 : deepD 0 38 = true := by kernel_rfl
theorem pathD_0_39 : pathD 0 39 = true := by kernel_rfl
theorem deepD_0_39 : deepD 0 39 = true := by kernel_rfl
theorem allD_0 : ∀ n, n < 40 → pathD 0 n = true ∧ deepD 0 n = true
  | 0, _ => ⟨pathD_0_0, deepD_0_0⟩
  | 1, _ => ⟨pathD_0_1, deepD_0_1⟩
  | 2, _ => ⟨pathD_0_2, deepD_0_2⟩
  | 3, _ => ⟨pathD_0_3, deepD_0_3⟩
  | 4, _ => ⟨pathD_0_4, deepD_0_4⟩
  | 5, _ => ⟨pathD_0_5, deepD_0_5⟩
  | 6, _ => ⟨pathD_0_6, deepD_0_6⟩
  | 7, _ => ⟨pathD_0_7, deepD_0_7⟩
  | 8, _ => ⟨pathD_0_8, deepD_0_8⟩
  | 9, _ => ⟨pathD_0_9, deepD_0_9⟩
  | 10, _ => ⟨pathD_0_10, deepD_0_10⟩
  | 11, _ => ⟨pathD_0_11, deepD_0_11⟩
  | 12, _ => ⟨pathD_0_12, deepD_0_12⟩
  | 13, _ => ⟨pathD_0_13, deepD_0_13⟩
  | 14, _ => ⟨pathD_0_14, deepD_0_14⟩
  | 15, _ => ⟨pathD_0_15, deepD_0_15⟩
  | 16, _ => ⟨pathD_0_16, deepD_0_16⟩
  | 17, _ => ⟨pathD_0_17, deepD_0_17⟩
  | 18, _ => ⟨pathD_0_18, deepD_0_18⟩
  | 19, _ => ⟨pathD_0_19, deepD_0_19⟩
  | 20, _ => ⟨pathD_0_20, deepD_0_20⟩
  | 21, _ => ⟨pathD_0_21, deepD_0_21⟩
  | 22, _ => ⟨pathD_0_22, deepD_0_22⟩
  | 23, _ => ⟨pathD_0_23, deepD_0_23⟩
  | 24, _ => ⟨pathD_0_24, deepD_0_24⟩
  | 25, _ => ⟨pathD_0_25, deepD_0_25⟩
  | 26, _ => ⟨pathD_0_26, deepD_0_26⟩
  | 27, _ => ⟨pathD_0_27, deepD_0_27⟩
  | 28, _ => ⟨pathD_0_28, deepD_0_28⟩
  | 29, _ => ⟨pathD_0_29, deepD_0_29⟩
  | 30, _ => ⟨pathD_0_30, deepD_0_30⟩
  | 31, _ => ⟨pathD_0_31, deepD_0_31⟩
  | 32, _ => ⟨pathD_0_32, deepD_0_32⟩
  | 33, _ => ⟨pathD_0_33, deepD_0_33⟩
  | 34, _ => ⟨pathD_0_34, deepD_0_34⟩
  | 35, _ => ⟨pathD_0_35, deepD_0_35⟩
  | 36, _ => ⟨pathD_0_36, deepD_0_36⟩
  | 37, _ => ⟨pathD_0_37, deepD_0_37⟩
  | 38, _ => ⟨pathD_0_38, deepD_0_38⟩
  | 39, _ => ⟨pathD_0_39, deepD_0_39⟩
  | n + 40, h => absurd h (by omega)
end Go.Proofs.YthebhbomlllpeaaGreatDoor.X
namespace Go.Proofs.YthebhbomlllpeaaGreatDoor.X
set_option maxRecDepth 100000
set_option maxHeartbeats 4000000
theorem pathD_1_0 : pathD 1 0 = true := by kernel_rfl
theorem deepD_1_0 : deepD 1 0 = true := by kernel_rfl
theorem pathD_1_1 : pathD 1 1 = true := by kernel_rfl
theorem deepD_1_1 : deepD 1 1 = true := by kernel_rfl
theorem pathD_1_2 : pathD 1 2 = true := by kernel_rfl
theorem deepD_1_2 : deepD 1 2 = true := by kernel_rfl
theorem pathD_1_3 : pathD 1 3 = true := by kernel_rfl
theorem deepD_1_3 : deepD 1 3 = true := by kernel_rfl
theorem pathD_1_4 : pathD 1 4 = true := by kernel_rfl
theorem deepD_1_4 : deepD 1 4 = true := by kernel_rfl
theorem pathD_1_5 : pathD 1 5 = true := by kernel_rfl
theorem deepD_1_5 : deepD 1 5 = true := by kernel_rfl
theorem pathD_1_6 : pathD 1 6 = true := by kernel_rfl
theorem deepD_1_6 : deepD 1 6 = true := by kernel_rfl
theorem pathD_1_7 : pathD 1 7 = true := by kernel_rfl
theorem deepD_1_7 : deepD 1 7 = true := by kernel_rfl
theorem pathD_1_8 : pathD 1 8 = true := by kernel_rfl
theorem deepD_1_8 : deepD 1 8 = true := by kernel_rfl
theorem pathD_1_9 : pathD 1 9 = true := by kernel_rfl
theorem deepD_1_9 : deepD 1 9 = true := by kernel_rfl
theorem pathD_1_10 : pathD 1 10 = true := by kernel_rfl
theorem deepD_1_10 : deepD 1 10 = true := by kernel_rfl
theorem pathD_1_11 : pathD 1 11 = true := by kernel_rfl
theorem deepD_1_11 : deepD 1 11 = true := by kernel_rfl
theorem pathD_1_12 : pathD 1 12 = true := by kernel_rfl
theorem deepD_1_12 : deepD 1 12 = true := by kernel_rfl
theorem pathD_1_13 : pathD 1 13 = true := by kernel_rfl
theorem deepD_1_13 : deepD 1 13 = true := by kernel_rfl
theorem pathD_1_14 : pathD 1 14 = true := by kernel_rfl
theorem deepD_1_14 : deepD 1 14 = true := by kernel_rfl
theorem pathD_1_15 : pathD 1 15 = true := by kernel_rfl
theorem deepD_1_15 : deepD 1 15 = true := by kernel_rfl
theorem pathD_1_16 : pathD 1 16 = true := by kernel_rfl
theorem deepD_1_16 : deepD 1 16 = true := by kernel_rfl
theorem pathD_1_17 : pathD 1 17 = true := by kernel_rfl
theorem deepD_1_17 : deepD 1 17 = true := by kernel_rfl
theorem pathD_1_18 : pathD 1 18 = true := by kernel_rfl
theorem deepD_1_18 : deepD 1 18 = true := by kernel_rfl
theorem pathD_1_19 : pathD 1 19 = true := by kernel_rfl
theorem deepD_1_19 : deepD 1 19 = true := by kernel_rfl
theorem pathD_1_20 : pathD 1 20 = true := by kernel_rfl
theorem deepD_1_20 : deepD 1 20 = true := by kernel_rfl
theorem pathD_1_21 : pathD 1 21 = true := by kernel_rfl
theorem deepD_1_21 : deepD 1 21 = true := by kernel_rfl
theorem pathD_1_22 : pathD 1 22 = true := by kernel_rfl
theorem deepD_1_22 : deepD 1 22 = true := by kernel_rfl
theorem pathD_1_23 : pathD 1 23 = true := by kernel_rfl
theorem deepD_1_23 : deepD 1 23 = true := by kernel_rfl
theorem pathD_1_24 : pathD 1 24 = true := by kernel_rfl
theorem deepD_1_24 : deepD 1 24 = true := by kernel_rfl
theorem pathD_1_25 : pathD 1 25 = true := by kernel_rfl
theorem deepD_1_25 : deepD 1 25 = true := by kernel_rfl
theorem pathD_1_26 : pathD 1 26 = true := by kernel_rfl
theorem deepD_1_26 : deepD 1 26 = true := by kernel_rfl
theorem pathD_1_27 : pathD 1 27 = true := by kernel_rfl
theorem deepD_1_27 : deepD 1 27 = true := by kernel_rfl
theorem pathD_1_28 : pathD 1 28 = true := by kernel_rfl
theorem deepD_1_28 : deepD 1 28 = true := by kernel_rfl
theorem pathD_1_29 : pathD 1 29 = true := by kernel_rfl
theorem deepD_1_29 : deepD 1 29 = true := by kernel_rfl
theorem pathD_1_30 : pathD 1 30 = true := by kernel_rfl
theorem deepD_1_30 : deepD 1 30 = true := by kernel_rfl
theorem pathD_1_31 : pathD 1 31 = true := by kernel_rfl
theorem deepD_1_31 : deepD 1 31 = true := by kernel_rfl
theorem pathD_1_32 : pathD 1 32 = true := by kernel_rfl
theorem deepD_1_32 : deepD 1 32 = true := by kernel_rfl
theorem pathD_1_33 : pathD 1 33 = true := by kernel_rfl
theorem deepD_1_33 : deepD 1 33 = true := by kernel_rfl
theorem pathD_1_34 : pathD 1 34 = true := by kernel_rfl
theorem deepD_1_34 : deepD 1 34 = true := by kernel_rfl
theorem pathD_1_35 : pathD 1 35 = true := by kernel_rfl
theorem deepD_1_35 : deepD 1 35 = true := by kernel_rfl
theorem pathD_1_36 : pathD 1 36 = true := by kernel_rfl
theorem deepD_1_36 : deepD 1 36 = true := by kernel_rfl
theorem pathD_1_37 : pathD 1 37 = true := by kernel_rfl
theorem deepD_1_37 : deepD 1 37 = true := by kernel_rfl
theorem pathD_1_38 : pathD 1 38 = true := by kernel_rfl
theorem deepD_1_38 : deepD 1 38 = true := by kernel_rfl
theorem pathD_1_39 : pathD 1 39 = true := by kernel_rfl
theorem deepD_1_39 : deepD 1 39 = true := by kernel_rfl
theorem allD_1 : ∀ n, n < 40 → pathD 1 n = true ∧ deepD 1 n = true
  | 0, _ => ⟨pathD_1_0, deepD_1_0⟩
  | 1, _ => ⟨pathD_1_1, deepD_1_1⟩
  | 2, _ => ⟨pathD_1_2, deepD_1_2⟩
  | 3, _ => ⟨pathD_1_3, deepD_1_3⟩
  | 4, _ => ⟨pathD_1_4, deepD_1_4⟩
  | 5, _ => ⟨pathD_1_5, deepD_1_5⟩
  | 6, _ => ⟨pathD_1_6, deepD_1_6⟩
  | 7, _ => ⟨pathD_1_7, deepD_1_7⟩
  | 8, _ => ⟨pathD_1_8, deepD_1_8⟩
  | 9, _ => ⟨pathD_1_9, deepD_1_9⟩
  | 10, _ => ⟨pathD_1_10, deepD_1_10⟩
  | 11, _ => ⟨pathD_1_11, deepD_1_11⟩
  | 12, _ => ⟨pathD_1_12, deepD_1_12⟩
  | 13, _ => ⟨pathD_1_13, deepD_1_13⟩
  | 14, _ => ⟨pathD_1_14, deepD_1_14⟩
  | 15, _ => ⟨pathD_1_15, deepD_1_15⟩
  | 16, _ => ⟨pathD_1_16, deepD_1_16⟩
  | 17, _ => ⟨pathD_1_17, deepD_1_17⟩
  | 18, _ => ⟨pathD_1_18, deepD_1_18⟩
  | 19, _ => ⟨pathD_1_19, deepD_1_19⟩
  | 20, _ => ⟨pathD_1_20, deepD_1_20⟩
  | 21, _ => ⟨pathD_1_21, deepD_1_21⟩
  | 22, _ => ⟨pathD_1_22, deepD_1_22⟩
  | 23, _ => ⟨pathD_1_23, deepD_1_23⟩
  | 24, _ => ⟨pathD_1_24, deepD_1_24⟩
  | 25, _ => ⟨pathD_1_25, deepD_1_25⟩
  | 26, _ => ⟨pathD_1_26, deepD_1_26⟩
  | 27, _ => ⟨pathD_1_27, deepD_1_27⟩
  | 28, _ => ⟨pathD_1_28, deepD_1_28⟩
  | 29, _ => ⟨pathD_1_29, deepD_1_29⟩
  | 30, _ => ⟨pathD_1_30, deepD_1_30⟩
  | 31, _ => ⟨pathD_1_31, deepD_1_31⟩
  | 32, _ => ⟨pathD_1_32, deepD_1_32⟩
  | 33, _ => ⟨pathD_1_33, deepD_1_33⟩
  | 34, _ => ⟨pathD_1_34, deepD_1_34⟩
  | 35, _ => ⟨pathD_1_35, deepD_1_35⟩
  | 36, _ => ⟨pathD_1_36, deepD_1_36⟩
  | 37, _ => ⟨pathD_1_37, deepD_1_37⟩
  | 38, _ => ⟨pathD_1_38, deepD_1_38⟩
  | 39, _ => ⟨pathD_1_39, deepD_1_39⟩
  | n + 40, h => absurd h (by omega)
end Go.Proofs.YthebhbomlllpeaaGreatDoor.X
namespace Go.Proofs.YthebhbomlllpeaaGreatDoor.X
set_option maxRecDepth 100000
set_option maxHeartbeats 4000000
theorem pathD_2_0 : pathD 2 0 = true := by kernel_rfl
theorem deepD_2_0 : deepD 2 0 = true := by kernel_rfl
theorem pathD_2_1 : pathD 2 1 = true := by kernel_rfl
theorem deepD_2_1 : deepD 2 1 = true := by kernel_rfl
theorem pathD_2_2 : pathD 2 2 = true := by kernel_rfl
theorem deepD_2_2 : deepD 2 2 = true := by kernel_rfl
theorem pathD_2_3 : pathD 2 3 = true := by kernel_rfl
theorem deepD_2_3 : deepD 2 3 = true := by kernel_rfl
theorem pathD_2_4 : pathD 2 4 = true := by kernel_rfl
theorem deepD_2_4 : deepD 2 4 = true := by kernel_rfl
theorem pathD_2_5 : pathD 2 5 = true := by kernel_rfl
theorem deepD_2_5 : deepD 2 5 = true := by kernel_rfl
theorem pathD_2_6 : pathD 2 6 = true := by kernel_rfl
theorem deepD_2_6 : deepD 2 6 = true := by kernel_rfl
theorem pathD_2_7 : pathD 2 7 = true := by kernel_rfl
theorem deepD_2_7 : deepD 2 7 = true := by kernel_rfl
theorem pathD_2_8 : pathD 2 8 = true := by kernel_rfl
theorem deepD_2_8 : deepD 2 8 = true := by kernel_rfl
theorem pathD_2_9 : pathD 2 9 = true := by kernel_rfl
theorem deepD_2_9 : deepD 2 9 = true := by kernel_rfl
theorem pathD_2_10 : pathD 2 10 = true := by kernel_rfl
theorem deepD_2_10 : deepD 2 10 = true := by kernel_rfl
theorem pathD_2_11 : pathD 2 11 = true := by kernel_rfl
theorem deepD_2_11 : deepD 2 11 = true := by kernel_rfl
theorem pathD_2_12 : pathD 2 12 = true := by kernel_rfl
theorem deepD_2_12 : deepD 2 12 = true := by kernel_rfl
theorem pathD_2_13 : pathD 2 13 = true := by kernel_rfl
theorem deepD_2_13 : deepD 2 13 = true := by kernel_rfl
theorem pathD_2_14 : pathD 2 14 = true := by kernel_rfl
theorem deepD_2_14 : deepD 2 14 = true := by kernel_rfl
theorem pathD_2_15 : pathD 2 15 = true := by kernel_rfl
theorem deepD_2_15 : deepD 2 15 = true := by kernel_rfl
theorem pathD_2_16 : pathD 2 16 = true := by kernel_rfl
theorem deepD_2_16 : deepD 2 16 = true := by kernel_rfl
theorem pathD_2_17 : pathD 2 17 = true := by kernel_rfl
theorem deepD_2_17 : deepD 2 17 = true := by kernel_rfl
theorem pathD_2_18 : pathD 2 18 = true := by kernel_rfl
theorem deepD_2_18 : deepD 2 18 = true := by kernel_rfl
theorem pathD_2_19 : pathD 2 19 = true := by kernel_rfl
theorem deepD_2_19 : deepD 2 19 = true := by kernel_rfl
theorem pathD_2_20 : pathD 2 20 = true := by kernel_rfl
theorem deepD_2_20 : deepD 2 20 = true := by kernel_rfl
theorem pathD_2_21 : pathD 2 21 = true := by kernel_rfl
theorem deepD_2_21 : deepD 2 21 = true := by kernel_rfl
theorem pathD_2_22 : pathD 2 22 = true := by kernel_rfl
theorem deepD_2_22 : deepD 2 22 = true := by kernel_rfl
theorem pathD_2_23 : pathD 2 23 = true := by kernel_rfl
theorem deepD_2_23 : deepD 2 23 = true := by kernel_rfl
theorem pathD_2_24 : pathD 2 24 = true := by kernel_rfl
theorem deepD_2_24 : deepD 2 24 = true := by kernel_rfl
theorem pathD_2_25 : pathD 2 25 = true := by kernel_rfl
theorem deepD_2_25 : deepD 2 25 = true := by kernel_rfl
theorem pathD_2_26 : pathD 2 26 = true := by kernel_rfl
theorem deepD_2_26 : deepD 2 26 = true := by kernel_rfl
theorem pathD_2_27 : pathD 2 27 = true := by kernel_rfl
theorem deepD_2_27 : deepD 2 27 = true := by kernel_rfl
theorem pathD_2_28 : pathD 2 28 = true := by kernel_rfl
theorem deepD_2_28 : deepD 2 28 = true := by kernel_rfl
theorem pathD_2_29 : pathD 2 29 = true := by kernel_rfl
theorem deepD_2_29 : deepD 2 29 = true := by kernel_rfl
theorem pathD_2_30 : pathD 2 30 = true := by kernel_rfl
theorem deepD_2_30 : deepD 2 30 = true := by kernel_rfl
theorem pathD_2_31 : pathD 2 31 = true := by kernel_rfl
theorem deepD_2_31 : deepD 2 31 = true := by kernel_rfl
theorem pathD_2_32 : pathD 2 32 = true := by kernel_rfl
theorem deepD_2_32 : deepD 2 32 = true := by kernel_rfl
theorem pathD_2_33 : pathD 2 33 = true := by kernel_rfl
theorem deepD_2_33 : deepD 2 33 = true := by kernel_rfl
theorem pathD_2_34 : pathD 2 34 = true := by kernel_rfl
theorem deepD_2_34 : deepD 2 34 = true := by kernel_rfl
theorem pathD_2_35 : pathD 2 35 = true := by kernel_rfl
theorem deepD_2_35 : deepD 2 35 = true := by kernel_rfl
theorem pathD_2_36 : pathD 2 36 = true := by kernel_rfl
theorem deepD_2_36 : deepD 2 36 = true := by kernel_rfl
theorem pathD_2_37 : pathD 2 37 = true := by kernel_rfl
theorem deepD_2_37 : deepD 2 37 = true := by kernel_rfl
theorem pathD_2_38 : pathD 2 38 = true := by kernel_rfl
theorem deepD_2_38 : deepD 2 38 = true := by kernel_rfl
theorem pathD_2_39 : pathD 2 39 = true := by kernel_rfl
theorem deepD_2_39 : deepD 2 39 = true := by kernel_rfl
theorem allD_2 : ∀ n, n < 40 → pathD 2 n = true ∧ deepD 2 n = true
  | 0, _ => ⟨pathD_2_0, deepD_2_0⟩
  | 1, _ => ⟨pathD_2_1, deepD_2_1⟩
  | 2, _ => ⟨pathD_2_2, deepD_2_2⟩
  | 3, _ => ⟨pathD_2_3, deepD_2_3⟩
  | 4, _ => ⟨pathD_2_4, deepD_2_4⟩
  | 5, _ => ⟨pathD_2_5, deepD_2_5⟩
  | 6, _ => ⟨pathD_2_6, deepD_2_6⟩
  | 7, _ => ⟨pathD_2_7, deepD_2_7⟩
  | 8, _ => ⟨pathD_2_8, deepD_2_8⟩
  | 9, _ => ⟨pathD_2_9, deepD_2_9⟩
  | 10, _ => ⟨pathD_2_10, deepD_2_10⟩
  | 11, _ => ⟨pathD_2_11, deepD_2_11⟩
  | 12, _ => ⟨pathD_2_12, deepD_2_12⟩
  | 13, _ => ⟨pathD_2_13, deepD_2_13⟩
  | 14, _ => ⟨pathD_2_14, deepD_2_14⟩
  | 15, _ => ⟨pathD_2_15, deepD_2_15⟩
  | 16, _ => ⟨pathD_2_16, deepD_2_16⟩
  | 17, _ => ⟨pathD_2_17, deepD_2_17⟩
  | 18, _ => ⟨pathD_2_18, deepD_2_18⟩
  | 19, _ => ⟨pathD_2_19, deepD_2_19⟩
  | 20, _ => ⟨pathD_2_20, deepD_2_20⟩
  | 21, _ => ⟨pathD_2_21, deepD_2_21⟩
  | 22, _ => ⟨pathD_2_22, deepD_2_22⟩
  | 23, _ => ⟨pathD_2_23, deepD_2_23⟩
  | 24, _ => ⟨pathD_2_24, deepD_2_24⟩
  | 25, _ => ⟨pathD_2_25, deepD_2_25⟩
  | 26, _ => ⟨pathD_2_26, deepD_2_26⟩
  | 27, _ => ⟨pathD_2_27, deepD_2_27⟩
  | 28, _ => ⟨pathD_2_28, deepD_2_28⟩
  | 29, _ => ⟨pathD_2_29, deepD_2_29⟩
  | 30, _ => ⟨pathD_2_30, deepD_2_30⟩
  | 31, _ => ⟨pathD_2_31, deepD_2_31⟩
  | 32, _ => ⟨pathD_2_32, deepD_2_32⟩
  | 33, _ => ⟨pathD_2_33, deepD_2_33⟩
  | 34, _ => ⟨pathD_2_34, deepD_2_34⟩
  | 35, _ => ⟨pathD_2_35, deepD_2_35⟩
  | 36, _ => ⟨pathD_2_36, deepD_2_36⟩
  | 37, _ => ⟨pathD_2_37, deepD_2_37⟩
  | 38, _ => ⟨pathD_2_38, deepD_2_38⟩
  | 39, _ => ⟨pathD_2_39, deepD_2_39⟩
  | n + 40, h => absurd h (by omega)
end Go.Proofs.YthebhbomlllpeaaGreatDoor.X
namespace Go.Proofs.YthebhbomlllpeaaGreatDoor.X
set_option linter.unusedVariables false
set_option linter.unusedSimpArgs false
open Go.RowKit Go.Proofs.YthebhbomlllpeaaGreatDoorW.PrintWords Go.Proofs.YthebhbomlllpeaaGreatDoorW.PrintLast Go.Proofs.YthebhbomlllpeaaGreatDoorW.PrintMore
theorem deepF_of (i : Fin 3) (n : Nat) (h1 : pathD i n = true) (h2 : deepD i n = true) : DeepF (nmD i) n := by
  unfold pathD at h1
  unfold deepD at h2
  rw [beq_iff_eq] at h1 h2
  refine ⟨?_, h2⟩
  cases hp : parse_Path.f (par (nmD i) n) with
  | none => rw [hp] at h1; cases h1
  | some x =>
    rw [hp] at h1
    simp only [Option.map_some] at h1
    replace h1 := Option.some.inj h1
    obtain ⟨l, a, e⟩ := x
    by_cases h : 32 < n
    · rw [if_pos h] at h1
      injection h1 with e1 e2
      injection e2 with e2 e3
      exact ⟨l, a, e, rfl, Or.inl ⟨h, List.map_eq_nil_iff.1 e1, e2, e3⟩⟩
    · rw [if_neg h] at h1
      injection h1 with e1 e2
      injection e2 with e2 e3
      refine ⟨l, a, e, rfl, Or.inr ⟨by omega, ?_, e3⟩⟩
      obtain ⟨⟨k, s⟩, rfl⟩ : ∃ x, l = [x] := by
        cases l with
        | nil => cases e1
        | cons x l =>
          cases l with
          | nil => exact ⟨x, rfl⟩
          | cons y l => simp at e1
      · 
        simp only [List.map_cons, List.map_nil, List.cons.injEq, Prod.mk.injEq, and_true] at e1
        obtain ⟨rfl, e1⟩ := e1
        have : s = nmD i := by
          cases s with
          | mk d =>
            have := congrArg List.toArray e1
            simp only [Array.toArray_toList] at this
            show (⟨d⟩ : ByteArray) = _
            rw [this]
        rw [this]
theorem deep_law (a0 a1 : Int) (h0 : 0 ≤ a0) (h1 : 0 ≤ a1) (h2 : a1 < 256) (w : World) (hLW : LaidW w) :
    Calls Tryz.prog 11 #[.int .u8 a0, .int .u8 a1] w fun e w' => e = .returned (.bool true) ∧ Below w.heap.size w w' := by
  have hw : wrap64 a1 = a1 := by
    unfold wrap64
    omega
  obtain ⟨n, hn⟩ : ∃ n : Nat, Int.tmod (wrap64 a1) 40 = n := ⟨(Int.tmod (wrap64 a1) 40).toNat, (Int.toNat_of_nonneg (Int.tmod_nonneg _ (by omega))).symm⟩
  have hlt : n < 40 := by
    have := Int.tmod_lt_of_pos (wrap64 a1) (b := 40) (by omega)
    omega
  have hm := Int.tmod_lt_of_pos a0 (b := 3) (by omega)
  have hm0 := Int.tmod_nonneg 3 h0
  rcases (by omega : Int.tmod a0 3 = 0 ∨ Int.tmod a0 3 = 1 ∨ Int.tmod a0 3 = 2) with h | h | h
  · exact deep_walk0 a0 a1 n hlt h hn (deepF_of 0 n (allD_0 n hlt).1 (allD_0 n hlt).2) w hLW
  · exact deep_walk1 a0 a1 n hlt h hn (deepF_of 1 n (allD_1 n hlt).1 (allD_1 n hlt).2) w hLW
  · exact deep_walk2 a0 a1 n hlt h hn (deepF_of 2 n (allD_2 n hlt).1 (allD_2 n hlt).2) w hLW
/-- the law's answer: true, for each two bytes. -/
def antecedentlaw08_ParseDeep.f (k : Nat) (a0 a1 : Int) : Option Bool := if 0 ≤ a0 ∧ 0 ≤ a1 ∧ a1 < 256 then some true else none
theorem antecedentlaw08_ParseDeep.calls (k : Nat) (a0 a1 : Int) (r : Bool) (w : World) (hLW : LaidW w) (h : antecedentlaw08_ParseDeep.f k a0 a1 = some r) :
    Calls Tryz.prog 11 #[.int .u8 a0, .int .u8 a1] w fun e w' => e = .returned (.bool r) ∧ Below w.heap.size w w' := by
  unfold antecedentlaw08_ParseDeep.f at h
  split at h
  · rename_i hb
    obtain rfl := Option.some.inj h
    exact deep_law a0 a1 hb.1 hb.2.1 hb.2.2 w hLW
  · cases h
end Go.Proofs.YthebhbomlllpeaaGreatDoor.X
namespace Go.Proofs.YthebhbomlllpeaaGreatDoor.X
theorem pureParseDeep (m : Int) (hm : (Lit.int .u8 m).wf = true) (x : Int) (hx : (Lit.int .u8 x).wf = true) : ∃ k, antecedentlaw08_ParseDeep.f k m x = some true := by
  have h1 : 0 ≤ m ∧ m ≤ 255 := by simp [Lit.wf] at hm; exact hm
  have h2 : 0 ≤ x ∧ x ≤ 255 := by simp [Lit.wf] at hx; exact hx
  exact ⟨0, if_pos ⟨by omega, by omega, by omega⟩⟩
end Go.Proofs.YthebhbomlllpeaaGreatDoor.X
