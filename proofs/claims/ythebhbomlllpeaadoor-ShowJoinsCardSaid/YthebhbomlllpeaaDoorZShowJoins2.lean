/-
  ShowJoins: what the proof needs, put together by a program of this session (shake.py), part 2.
-/
import Derived.Test.YthebhbomlllpeaaDoorCards
import Derived.Test.YthebhbomlllpeaaDoorTie
import Derived.Test.YthebhbomlllpeaaDoorProg
import Derived.Below
import Derived.Deep.Draws
import Derived.Deep.AppendLies
import Derived.Maps.AppendAt
import Derived.OwnWalk
import Derived.Laws.BytesArg
import Derived.Laws.MakeOwn
import Derived.Laws.OwnMore
import Derived.Deep.OwnRows
import Derived.Tactics
import Derived.Lib.ConvBytes
import Derived.Laws.Slices
import Derived.WalkKit
import Derived.KernelRfl
import Derived.RowKit3
import Derived.Deep.LoopGhost
import Derived.Deep.QuietTactic
import Derived.BigQuiet
import Derived.WideLaws
import Derived.Deep.DeepCutAuto
import Derived.Deep.CutBlock
import Derived.Deep.RegionHeld3
import Derived.Laws.Rows
import Derived.Lib.AppendStr
import Derived.ArgAppend
import Derived.Laws.IdiomCopy
import Derived.OrdersHeld
import Derived.Laws.BitsLemmas
import Derived.RowKit
import Derived.Lib.SmallJoins
import Derived.Lib.ItoaMem
import Derived.Laws.StructEq
import Derived.Test.YthebhbomlllpeaaDoorRows
import Derived.Deep.Slices
import Derived.Deep.Fields
import Derived.ChangeSame
import Derived.ProofKit
import Derived.OpenShut
import Derived.Deep.DeepHandedRow
import Derived.Lib.LaidTab
import Derived.LaidMore
import Derived.Stop.LaidErr
import Derived.MakeChecks
import Derived.Laws.NewBlocks
import Derived.Shelf.Strings.Builder1
import Derived.Shelf.Strings.Builder2
import Derived.Shelf.Strings.OnBuilder
import Derived.Shelf.Small.Strs
import Derived.Shelf.Small.Wraps
import Derived.Shelf.Strings.BuilderF
import Derived.Shelf.Strings.BuilderK
import Derived.Shelf.Strings.Builder2Cap
import Derived.Shelf.Strconv.Itoa0
import Derived.Shelf.Strconv.Itoa1
import Derived.Shelf.LaysM
import Derived.Shelf.Strconv.Itoa2
import Derived.Shelf.Strconv.Itoa3
import Derived.Shelf.Strconv.Itoa4
import Derived.Shelf.Strconv.ParseIntEmpty
import Derived.Shelf.Strconv.Clone
import Derived.Shelf.Strconv.SyntaxError
import Derived.Shelf.LaysC
import Derived.Shelf.Strconv.ToError
import Derived.Shelf.Strconv.Lower
import Derived.Shelf.Strconv.ParseUint10
import Derived.Shelf.Strconv.ParseUint10Empty
import Derived.Shelf.Strconv.ParseUint10Any
import Derived.Shelf.Strconv.ParseInt10
import Derived.Shelf.Strconv.RangeError
import Derived.Shelf.Strconv.ToErrorRange
import Derived.Shelf.Strconv.ParseUintEmpty
import Derived.Shelf.Strconv.ParseUint10b64
import Derived.Shelf.Strconv.ParseUint10b32
import Derived.Shelf.Strconv.ParseUint10b16
import Derived.Shelf.Strconv.ParseUint10b8
import Derived.Shelf.Strconv.ParseUint10At
import Derived.Shelf.Strconv.ParseInt10At64
import Derived.Shelf.Strconv.ParseInt10At32
import Derived.Shelf.Strconv.ParseInt10At16
import Derived.Shelf.Strconv.ParseInt10At8
import Derived.Shelf.Strconv.ParseInt10All
import Derived.Shelf.Strconv.ParseIntPublic10
import Derived.Shelf.Strconv.ErrVarParseInt
import Derived.Ground.MpProg
import Derived.Shelf.Pu.ParseUintPublic10
import Derived.Shelf.Pu.ErrVarParseUint
import Derived.Shelf.Strings.Search1
import Derived.Shelf.Strings.Prefix
import Derived.Shelf.Bits.Mul64
import Derived.Shelf.Strings.Repeat
import Derived.Shelf.Strings.BuilderCap
import Derived.Lib.AtoiAllMem
import Derived.Lib.ParseIntB
import Derived.Lib.Hide
import Derived.Laws.Strings3
import Derived.Laws.Closers25
import Derived.Laws.Closers25b
import Derived.BigCall
import Derived.BigGuard
import Derived.Laws.RangeAny
import Derived.Laws.RangeString
import Derived.Lib.ParseIntBTie
import Init
import Derived.Recover
import Derived.WalkLawsBesides
import Derived.StillTailTactics
import Derived.Deep.MidRow
import Derived.Deep.DrawnRows
import Derived.Test.YthebhbomlllpeaaDoorZShowJoins1
namespace Go.Proofs.YthebhbomlllpeaaDoor.X
set_option linter.unusedVariables false
set_option linter.unusedSimpArgs false
open Go.RowKit Go.Proofs.YthebhbomlllpeaaDoorW.PrintWords Go.Proofs.YthebhbomlllpeaaDoorW.PrintLast Go.Proofs.YthebhbomlllpeaaDoorW.PrintMore
/-- a byte as a small letter. -/
def lowN (c : Nat) : Int := bits .or .u8 (c : Int) 32
/-- a byte as a digit at base 16. -/
def hexd (c : Nat) : Option Nat := if 48 ≤ c ∧ c ≤ 57 then some (c - 48) else if 97 ≤ lowN c ∧ lowN c ≤ 102 then some ((lowN c).toNat - 87) else none
def parse16 (acc : Nat) : List UInt8 → Lib.NumEnd Nat
  | [] => .ok acc
  | c :: r => match hexd c.toNat with
    | none => .syntax
    | some d => if 1152921504606846976 ≤ acc then .range else parse16 (acc * 16 + d) r
set_option maxHeartbeats 3200000 in
set_option maxRecDepth 100000 in
theorem internal_ParseUint16 (t : ByteArray) (hne : t.size ≠ 0) (hmax : t.size ≤ 9223372036854775806) (w : World) :
    Calls Tryd.prog 59 #[.string t, .int .i64 16, .int .i64 64] w fun e w' => e = .returned (Lib.uintTuple 118 (parse16 0 t.data.toList)) ∧ w' = Lib.bytesWorld w 5 t := by
  have hemp : t.toList.isEmpty = false := by
    rw [← decide_eq_emptyBytes]
    exact decide_eq_false (fun h => hne (by rw [h]; rfl))
  have hcv := Lib.run_convert_string_bytes (P := Tryd.prog) w 9 102 5 t (u := .string) Tryd.underlying9 Tryd.underlying102 Tryd.underlying5
  have hB : ∀ j, j < t.size → (Lib.bytesWorld w 5 t).cell? ⟨w.heap.size, j, none⟩ = some (.int .u8 (t.data.toList.getD j 0).toNat) := fun j hj => Lib.bytesWorld_cell w 5 t j hj
  obtain ⟨W1, hW1⟩ : ∃ W1, W1 = Lib.bytesWorld w 5 t := ⟨_, rfl⟩
  rw [← hW1] at hcv hB ⊢
  clear hW1
  obtain ⟨bs, hL⟩ : ∃ bs, bs = t.data.toList := ⟨_, rfl⟩
  have hLn : bs.length = t.size := by rw [hL, Lib.size_eq]
  rw [← hL] at hB ⊢
  clear hL
  have hmv : IntKind.u64.wrap (IntKind.u64.wrap 18446744073709551616 - 1) = 18446744073709551615 := by
    rw [IntKind.wrap_u64, IntKind.wrap_u64]
    decide
  go_enter Tryd.func59, Tryd.ntmps59
  go_wp2
  go_loop [12, 13, 101] (fun vu vn vi => ∃ (k acc : Nat) (a : Int), vu = .bool false ∧ vn = .int .u64 a ∧ vi = .int .i64 k ∧ k ≤ t.size ∧ Hid (a = (acc : Int) ∧ acc < 18446744073709551616 ∧ parse16 0 bs = parse16 acc (bs.drop k)))
    (fun _ _ vi => t.size - (intOf vi).toNat)
  case atStart => exact ⟨0, 0, 0, rfl, rfl, rfl, by omega, rfl, by omega, rfl⟩
  case round =>
    obtain ⟨k, acc, a, rfl, rfl, rfl, hk, hh⟩ := hrel
    obtain ⟨ha, hacc, hdec⟩ := hh.out
    clear hh
    have a0 : 0 ≤ a := by omega
    have a1 : a < 18446744073709551616 := by omega
    by_cases hkn : k < t.size
    · have hc := hB k hkn
      have hdrop : bs.drop k = bs[k]'(by omega) :: bs.drop (k + 1) := List.drop_eq_getElem_cons (by omega)
      have hget : bs.getD k 0 = bs[k]'(by omega) := by simp [List.getD, List.getElem?_eq_getElem (show k < bs.length by omega)]
      rw [hdrop] at hdec
      rw [hget] at hc
      generalize bs[k]'(by omega) = c at hc hdec
      have hc256 : c.toNat < 256 := c.toNat_lt
      clear hB hdrop hget
      by_cases hdig : 48 ≤ c.toNat ∧ c.toNat ≤ 57
      · have hh : hexd c.toNat = some (c.toNat - 48) := by unfold hexd; rw [if_pos hdig]
        obtain ⟨hd0, hd1⟩ := hdig
        by_cases hcut : 1152921504606846976 ≤ acc
        · have hF : parse16 acc (c :: bs.drop (k + 1)) = .range := by simp only [parse16, hh]; rw [if_pos hcut]
          rw [hF] at hdec
          have icut : 1152921504606846976 ≤ a := by omega
          clear hcut hacc hF ha hh
          go_wp2
          go_ret2
          exact ⟨rfl, rfl⟩
        · have hF : parse16 acc (c :: bs.drop (k + 1)) = parse16 (acc * 16 + (c.toNat - 48)) (bs.drop (k + 1)) := by simp only [parse16, hh]; rw [if_neg hcut]
          have HN : Hid (a * 16 + ((c.toNat : Int) - 48) = ((acc * 16 + (c.toNat - 48) : Nat) : Int) ∧ acc * 16 + (c.toNat - 48) < 18446744073709551616 ∧ parse16 0 bs = parse16 (acc * 16 + (c.toNat - 48)) (bs.drop (k + 1))) := Lib.hid ⟨by omega, by omega, hdec.trans hF⟩
          have icut : a < 1152921504606846976 := by omega
          have iov : a * 16 + ((c.toNat : Int) - 48) < 18446744073709551616 := by omega
          clear hcut hacc hF hdec ha hh
          go_wp2
          refine ⟨⟨k + 1, acc * 16 + (c.toNat - 48), a * 16 + ((c.toNat : Int) - 48), rfl, (by first | rfl | (congr 1; omega)), (by first | rfl | (congr 1; omega)), by omega, HN⟩, by simp [intOf]; omega⟩
      · obtain ⟨v, hv⟩ : ∃ v : Int, v = bits .or .u8 (c.toNat : Int) 32 := ⟨_, rfl⟩
        have hv0 : 0 ≤ v := hv ▸ bits_lo_u8 .or (c.toNat : Int) 32
        have hv1 : v ≤ 255 := by have := bits_hi_u8 .or (c.toNat : Int) 32; omega
        have hlow : lowN c.toNat = v := hv.symm
        have hlw : ∀ W, Calls Tryd.prog 79 #[.int .u8 (c.toNat : Int)] W fun e w' => e = .returned (.int .u8 v) ∧ w' = W := fun W => hv ▸ Tryd.internal_strconv_lower (c.toNat : Int) W
        have h127 : bits .or .u8 (95 : Int) 32 = 127 := by decide
        have h95 : c.toNat = 95 → v = 127 := fun h => by rw [hv, h]; exact h127
        clear hv
        have HLO := Aside0.mk hlw
        clear hlw
        have hnd : ¬ (48 ≤ (c.toNat : Int) ∧ (c.toNat : Int) ≤ 57) := by omega
        by_cases hlet : 97 ≤ v ∧ v ≤ 102
        · have hh : hexd c.toNat = some (v.toNat - 87) := by unfold hexd; rw [if_neg hdig, hlow, if_pos hlet]
          obtain ⟨hl0, hl1⟩ := hlet
          by_cases hcut : 1152921504606846976 ≤ acc
          · have hF : parse16 acc (c :: bs.drop (k + 1)) = .range := by simp only [parse16, hh]; rw [if_pos hcut]
            rw [hF] at hdec
            have icut : 1152921504606846976 ≤ a := by omega
            clear hcut hacc hF ha hh hlow
            have h95' : ¬ c.toNat = 95 := fun h => by have := h95 h; omega
            clear h95
            rcases (by omega : (c.toNat : Int) < 48 ∨ (57 < (c.toNat : Int) ∧ (c.toNat : Int) < 95) ∨ 95 < (c.toNat : Int)) with hq | ⟨hq, hq'⟩ | hq
            · go_wp2_with (go_at_call 79; refine (HLO.out _).mono ?_; rintro e w' ⟨rfl, rfl⟩)
              go_ret2
              exact ⟨by (try rw [hdec]); rfl, rfl⟩
            · go_wp2_with (go_at_call 79; refine (HLO.out _).mono ?_; rintro e w' ⟨rfl, rfl⟩)
              go_ret2
              exact ⟨by (try rw [hdec]); rfl, rfl⟩
            · go_wp2_with (go_at_call 79; refine (HLO.out _).mono ?_; rintro e w' ⟨rfl, rfl⟩)
              go_ret2
              exact ⟨by (try rw [hdec]); rfl, rfl⟩
          · have hF : parse16 acc (c :: bs.drop (k + 1)) = parse16 (acc * 16 + (v.toNat - 87)) (bs.drop (k + 1)) := by simp only [parse16, hh]; rw [if_neg hcut]
            have HN : Hid (a * 16 + (v - 87) = ((acc * 16 + (v.toNat - 87) : Nat) : Int) ∧ acc * 16 + (v.toNat - 87) < 18446744073709551616 ∧ parse16 0 bs = parse16 (acc * 16 + (v.toNat - 87)) (bs.drop (k + 1))) := Lib.hid ⟨by omega, by omega, hdec.trans hF⟩
            have icut : a < 1152921504606846976 := by omega
            have iov : a * 16 + (v - 87) < 18446744073709551616 := by omega
            clear hcut hacc hF hdec ha hh hlow
            have h95' : ¬ c.toNat = 95 := fun h => by have := h95 h; omega
            clear h95
            rcases (by omega : (c.toNat : Int) < 48 ∨ (57 < (c.toNat : Int) ∧ (c.toNat : Int) < 95) ∨ 95 < (c.toNat : Int)) with hq | ⟨hq, hq'⟩ | hq
            · go_wp2_with (go_at_call 79; refine (HLO.out _).mono ?_; rintro e w' ⟨rfl, rfl⟩)
              refine ⟨⟨k + 1, acc * 16 + (v.toNat - 87), a * 16 + (v - 87), rfl, (by first | rfl | (congr 1; omega)), (by first | rfl | (congr 1; omega)), by omega, HN⟩, by simp [intOf]; omega⟩
            · go_wp2_with (go_at_call 79; refine (HLO.out _).mono ?_; rintro e w' ⟨rfl, rfl⟩)
              refine ⟨⟨k + 1, acc * 16 + (v.toNat - 87), a * 16 + (v - 87), rfl, (by first | rfl | (congr 1; omega)), (by first | rfl | (congr 1; omega)), by omega, HN⟩, by simp [intOf]; omega⟩
            · go_wp2_with (go_at_call 79; refine (HLO.out _).mono ?_; rintro e w' ⟨rfl, rfl⟩)
              refine ⟨⟨k + 1, acc * 16 + (v.toNat - 87), a * 16 + (v - 87), rfl, (by first | rfl | (congr 1; omega)), (by first | rfl | (congr 1; omega)), by omega, HN⟩, by simp [intOf]; omega⟩
        · have hh : hexd c.toNat = none := by unfold hexd; rw [if_neg hdig, hlow, if_neg hlet]
          have hF : parse16 acc (c :: bs.drop (k + 1)) = .syntax := by simp only [parse16, hh]
          rw [hF] at hdec
          clear hacc hF ha hh hlow
          by_cases hq : (c.toNat : Int) = 95
          · rw [hq] at hc
            clear h95 HLO
            have HL95 : Aside0 (∀ W, Calls Tryd.prog 79 #[.int .u8 95] W fun e w' => e = .returned (.int .u8 127) ∧ w' = W) := ⟨fun W => h127 ▸ Tryd.internal_strconv_lower 95 W⟩
            clear h127
            go_wp2_with (go_at_call 79; refine (HL95.out _).mono ?_; rintro e w' ⟨rfl, rfl⟩)
            all_goals go_ret2
            all_goals exact ⟨by (try rw [hdec]); rfl, rfl⟩
          · rcases (by omega : (c.toNat : Int) < 48 ∨ (57 < (c.toNat : Int) ∧ (c.toNat : Int) < 95) ∨ 95 < (c.toNat : Int)) with hq | ⟨hq, hq'⟩ | hq
            all_goals go_wp2_with (go_at_call 79; refine (HLO.out _).mono ?_; rintro e w' ⟨rfl, rfl⟩)
            all_goals go_ret2
            all_goals exact ⟨by (try rw [hdec]); rfl, rfl⟩
    · have hkk : k = t.size := by omega
      subst hkk
      have hF : parse16 acc (bs.drop t.size) = .ok acc := by rw [List.drop_eq_nil_of_le (by omega)]; rfl
      rw [hF] at hdec
      subst ha
      clear hacc hF a0 a1
      go_wp2
      go_ret2
      exact ⟨rfl, rfl⟩
end Go.Proofs.YthebhbomlllpeaaDoor.X
namespace Go.Proofs.YthebhbomlllpeaaDoor.X
open Go.RowKit Go.Proofs.YthebhbomlllpeaaDoorW.PrintWords Go.Proofs.YthebhbomlllpeaaDoorW.PrintLast Go.Proofs.YthebhbomlllpeaaDoorW.PrintMore
attribute [local go_sem] max2_int min2_int max_two min_two max_three min_three max_four min_four
set_option linter.unusedVariables false
set_option linter.unusedSimpArgs false
def lex_great.f (a0 : Int) : Option (Bool) := if a0 ≥ 65 then (some (decide (a0 ≤ 90))) else (some false)
set_option maxHeartbeats 8000000 in
set_option maxRecDepth 100000 in
theorem lex_great.calls (a0 : Int) (r : Bool) (w : World) (h : lex_great.f a0 = some r) :
    Calls Tryd.prog 28 #[.int .u8 a0] w fun e w' => e = .returned (.bool r) ∧ Drawn0 w w' := by
  have H : (if a0 ≥ 65 then (some (decide (a0 ≤ 90))) else (some false)) = some r := h
  clear h
  by_cases c2 : a0 ≥ 65
  · rw [if_pos c2] at H
    have c2b0 : decide (65 ≤ a0) = true := decide_eq_true c2
    clear c2
    obtain rfl := Option.some.inj H
    go_enter Tryd.func28, Tryd.ntmps28
    go_wp2
    go_ret
    exact ⟨by first | rfl | (simp; done) | (simp [*]; done), by repeat (first | exact Drawn0.refl _ | apply Drawn0.step)⟩
  · rw [if_neg c2] at H
    have c2b0 : decide (65 ≤ a0) = false := decide_eq_false c2
    clear c2
    obtain rfl := Option.some.inj H
    go_enter Tryd.func28, Tryd.ntmps28
    go_wp2
    go_ret
    exact ⟨by first | rfl | (simp; done) | (simp [*]; done), by repeat (first | exact Drawn0.refl _ | apply Drawn0.step)⟩
def lex_small.f (a0 : Int) : Option (Bool) := if a0 ≥ 97 then (some (decide (a0 ≤ 122))) else (some false)
set_option maxHeartbeats 8000000 in
set_option maxRecDepth 100000 in
theorem lex_small.calls (a0 : Int) (r : Bool) (w : World) (h : lex_small.f a0 = some r) :
    Calls Tryd.prog 50 #[.int .u8 a0] w fun e w' => e = .returned (.bool r) ∧ Drawn0 w w' := by
  have H : (if a0 ≥ 97 then (some (decide (a0 ≤ 122))) else (some false)) = some r := h
  clear h
  by_cases c2 : a0 ≥ 97
  · rw [if_pos c2] at H
    have c2b0 : decide (97 ≤ a0) = true := decide_eq_true c2
    clear c2
    obtain rfl := Option.some.inj H
    go_enter Tryd.func50, Tryd.ntmps50
    go_wp2
    go_ret
    exact ⟨by first | rfl | (simp; done) | (simp [*]; done), by repeat (first | exact Drawn0.refl _ | apply Drawn0.step)⟩
  · rw [if_neg c2] at H
    have c2b0 : decide (97 ≤ a0) = false := decide_eq_false c2
    clear c2
    obtain rfl := Option.some.inj H
    go_enter Tryd.func50, Tryd.ntmps50
    go_wp2
    go_ret
    exact ⟨by first | rfl | (simp; done) | (simp [*]; done), by repeat (first | exact Drawn0.refl _ | apply Drawn0.step)⟩
def lex_digit.f (a0 : Int) : Option (Bool) := if a0 ≥ 48 then (some (decide (a0 ≤ 57))) else (some false)
set_option maxHeartbeats 8000000 in
set_option maxRecDepth 100000 in
theorem lex_digit.calls (a0 : Int) (r : Bool) (w : World) (h : lex_digit.f a0 = some r) :
    Calls Tryd.prog 52 #[.int .u8 a0] w fun e w' => e = .returned (.bool r) ∧ Drawn0 w w' := by
  have H : (if a0 ≥ 48 then (some (decide (a0 ≤ 57))) else (some false)) = some r := h
  clear h
  by_cases c2 : a0 ≥ 48
  · rw [if_pos c2] at H
    have c2b0 : decide (48 ≤ a0) = true := decide_eq_true c2
    clear c2
    obtain rfl := Option.some.inj H
    go_enter Tryd.func52, Tryd.ntmps52
    go_wp2
    go_ret
    exact ⟨by first | rfl | (simp; done) | (simp [*]; done), by repeat (first | exact Drawn0.refl _ | apply Drawn0.step)⟩
  · rw [if_neg c2] at H
    have c2b0 : decide (48 ≤ a0) = false := decide_eq_false c2
    clear c2
    obtain rfl := Option.some.inj H
    go_enter Tryd.func52, Tryd.ntmps52
    go_wp2
    go_ret
    exact ⟨by first | rfl | (simp; done) | (simp [*]; done), by repeat (first | exact Drawn0.refl _ | apply Drawn0.step)⟩
def lex_low.f (a0 : Int) : Option (Bool) := (lex_small.f a0).bind fun t101 => (if t101 = true then (some true) else ((lex_digit.f a0).bind fun t102 => (if t102 = true then (some true) else (some (a0 == 95)))))
set_option maxHeartbeats 8000000 in
set_option maxRecDepth 100000 in
theorem lex_low.calls (a0 : Int) (r : Bool) (w : World) (h : lex_low.f a0 = some r) :
    Calls Tryd.prog 51 #[.int .u8 a0] w fun e w' => e = .returned (.bool r) ∧ Drawn0 w w' := by
  have H : ((lex_small.f a0).bind fun t101 => (if t101 = true then (some true) else ((lex_digit.f a0).bind fun t102 => (if t102 = true then (some true) else (some (a0 == 95)))))) = some r := h
  clear h
  replace H := Option.bind_eq_some_iff.mp H
  obtain ⟨t101, A20, H⟩ := H
  replace H : (if t101 = true then (some true) else ((lex_digit.f a0).bind fun t102 => (if t102 = true then (some true) else (some (a0 == 95))))) = some r := H
  have A2 := Aside0.mk A20
  clear A20
  by_cases c3 : t101 = true
  · subst c3
    have H1 : (some true) = some r := by rw [if_pos rfl] at H; exact H
    clear H
    have H := H1
    clear H1
    obtain rfl := Option.some.inj H
    go_enter Tryd.func51, Tryd.ntmps51
    go_wp2_with (first | ((with_reducible refine gate_callee (f := 50) rfl ?_); refine goesL_ (some 4) rfl rfl Tryd.func50 (by kernel_rfl) rfl #[.int .u8 a0] rfl (by (try simp only [List.map_toArray, List.map_cons, List.map_nil]); first | done | rfl | (simp only [List.length_drop, List.length_take]; rfl)) ?_; (with_reducible refine (lex_small.calls a0 true _ A2.out).mono ?_); rintro e w' ⟨rfl, ⟨nd, rfl⟩⟩; refine ⟨_, rfl, ?_⟩))
    go_ret
    exact ⟨by first | rfl | (simp; done) | (simp [*]; done), by repeat (first | exact Drawn0.refl _ | apply Drawn0.step)⟩
  · replace c3 := Bool.eq_false_iff.mpr c3
    subst c3
    have H1 : ((lex_digit.f a0).bind fun t102 => (if t102 = true then (some true) else (some (a0 == 95)))) = some r := by rw [if_neg (show ¬ (false = true) by decide)] at H; exact H
    clear H
    have H := H1
    clear H1
    replace H := Option.bind_eq_some_iff.mp H
    obtain ⟨t102, A40, H⟩ := H
    replace H : (if t102 = true then (some true) else (some (a0 == 95))) = some r := H
    have A4 := Aside0.mk A40
    clear A40
    by_cases c5 : t102 = true
    · subst c5
      have H1 : (some true) = some r := by rw [if_pos rfl] at H; exact H
      clear H
      have H := H1
      clear H1
      obtain rfl := Option.some.inj H
      go_enter Tryd.func51, Tryd.ntmps51
      go_wp2_with (first | ((with_reducible refine gate_callee (f := 50) rfl ?_); refine goesL_ (some 4) rfl rfl Tryd.func50 (by kernel_rfl) rfl #[.int .u8 a0] rfl (by (try simp only [List.map_toArray, List.map_cons, List.map_nil]); first | done | rfl | (simp only [List.length_drop, List.length_take]; rfl)) ?_; (with_reducible refine (lex_small.calls a0 false _ A2.out).mono ?_); rintro e w' ⟨rfl, ⟨nd, rfl⟩⟩; refine ⟨_, rfl, ?_⟩) | (go_at_call 52; (with_reducible refine (lex_digit.calls a0 true _ A4.out).mono ?_); rintro e w' ⟨rfl, ⟨nd, rfl⟩⟩))
      go_ret
      exact ⟨by first | rfl | (simp; done) | (simp [*]; done), by repeat (first | exact Drawn0.refl _ | apply Drawn0.step)⟩
    · replace c5 := Bool.eq_false_iff.mpr c5
      subst c5
      have H1 : (some (a0 == 95)) = some r := by rw [if_neg (show ¬ (false = true) by decide)] at H; exact H
      clear H
      have H := H1
      clear H1
      obtain rfl := Option.some.inj H
      go_enter Tryd.func51, Tryd.ntmps51
      go_wp2_with (first | ((with_reducible refine gate_callee (f := 50) rfl ?_); refine goesL_ (some 4) rfl rfl Tryd.func50 (by kernel_rfl) rfl #[.int .u8 a0] rfl (by (try simp only [List.map_toArray, List.map_cons, List.map_nil]); first | done | rfl | (simp only [List.length_drop, List.length_take]; rfl)) ?_; (with_reducible refine (lex_small.calls a0 false _ A2.out).mono ?_); rintro e w' ⟨rfl, ⟨nd, rfl⟩⟩; refine ⟨_, rfl, ?_⟩) | (go_at_call 52; (with_reducible refine (lex_digit.calls a0 false _ A4.out).mono ?_); rintro e w' ⟨rfl, ⟨nd, rfl⟩⟩))
      go_ret
      exact ⟨by first | rfl | (simp; done) | (simp [*]; done), by repeat (first | exact Drawn0.refl _ | apply Drawn0.step)⟩
def lex_sign.f (a0 : Int) : Option (Bool) := (lex_low.f a0).bind fun t103 => (if t103 = true then (some true) else ((lex_great.f a0).bind fun t104 => (some t104)))
set_option maxHeartbeats 8000000 in
set_option maxRecDepth 100000 in
theorem lex_sign.calls (a0 : Int) (r : Bool) (w : World) (h : lex_sign.f a0 = some r) :
    Calls Tryd.prog 30 #[.int .u8 a0] w fun e w' => e = .returned (.bool r) ∧ Drawn0 w w' := by
  have H : ((lex_low.f a0).bind fun t103 => (if t103 = true then (some true) else ((lex_great.f a0).bind fun t104 => (some t104)))) = some r := h
  clear h
  replace H := Option.bind_eq_some_iff.mp H
  obtain ⟨t103, A20, H⟩ := H
  replace H : (if t103 = true then (some true) else ((lex_great.f a0).bind fun t104 => (some t104))) = some r := H
  have A2 := Aside0.mk A20
  clear A20
  by_cases c3 : t103 = true
  · subst c3
    have H1 : (some true) = some r := by rw [if_pos rfl] at H; exact H
    clear H
    have H := H1
    clear H1
    obtain rfl := Option.some.inj H
    go_enter Tryd.func30, Tryd.ntmps30
    go_wp2_with (first | ((with_reducible refine gate_callee (f := 51) rfl ?_); refine goesL_ (some 4) rfl rfl Tryd.func51 (by kernel_rfl) rfl #[.int .u8 a0] rfl (by (try simp only [List.map_toArray, List.map_cons, List.map_nil]); first | done | rfl | (simp only [List.length_drop, List.length_take]; rfl)) ?_; (with_reducible refine (lex_low.calls a0 true _ A2.out).mono ?_); rintro e w' ⟨rfl, ⟨nd, rfl⟩⟩; refine ⟨_, rfl, ?_⟩))
    go_ret
    exact ⟨by first | rfl | (simp; done) | (simp [*]; done), by repeat (first | exact Drawn0.refl _ | apply Drawn0.step)⟩
  · replace c3 := Bool.eq_false_iff.mpr c3
    subst c3
    have H1 : ((lex_great.f a0).bind fun t104 => (some t104)) = some r := by rw [if_neg (show ¬ (false = true) by decide)] at H; exact H
    clear H
    have H := H1
    clear H1
    replace H := Option.bind_eq_some_iff.mp H
    obtain ⟨t104, A40, H⟩ := H
    replace H : (some t104) = some r := H
    have A4 := Aside0.mk A40
    clear A40
    obtain rfl := Option.some.inj H
    go_enter Tryd.func30, Tryd.ntmps30
    go_wp2_with (first | ((with_reducible refine gate_callee (f := 51) rfl ?_); refine goesL_ (some 4) rfl rfl Tryd.func51 (by kernel_rfl) rfl #[.int .u8 a0] rfl (by (try simp only [List.map_toArray, List.map_cons, List.map_nil]); first | done | rfl | (simp only [List.length_drop, List.length_take]; rfl)) ?_; (with_reducible refine (lex_low.calls a0 false _ A2.out).mono ?_); rintro e w' ⟨rfl, ⟨nd, rfl⟩⟩; refine ⟨_, rfl, ?_⟩) | (go_at_call 28; (with_reducible refine (lex_great.calls a0 t104 _ A4.out).mono ?_); rintro e w' ⟨rfl, ⟨nd, rfl⟩⟩))
    go_ret
    exact ⟨by first | rfl | (simp; done) | (simp [*]; done), by repeat (first | exact Drawn0.refl _ | apply Drawn0.step)⟩
def value_letter.f (a0 : Int) : Option (Bool) := if a0 ≥ 97 then (some (decide (a0 ≤ 122))) else (some false)
set_option maxHeartbeats 8000000 in
set_option maxRecDepth 100000 in
theorem value_letter.calls (a0 : Int) (r : Bool) (w : World) (h : value_letter.f a0 = some r) :
    Calls Tryd.prog 35 #[.int .u8 a0] w fun e w' => e = .returned (.bool r) ∧ Drawn0 w w' := by
  have H : (if a0 ≥ 97 then (some (decide (a0 ≤ 122))) else (some false)) = some r := h
  clear h
  by_cases c2 : a0 ≥ 97
  · rw [if_pos c2] at H
    have c2b0 : decide (97 ≤ a0) = true := decide_eq_true c2
    clear c2
    obtain rfl := Option.some.inj H
    go_enter Tryd.func35, Tryd.ntmps35
    go_wp2
    go_ret
    exact ⟨by first | rfl | (simp; done) | (simp [*]; done), by repeat (first | exact Drawn0.refl _ | apply Drawn0.step)⟩
  · rw [if_neg c2] at H
    have c2b0 : decide (97 ≤ a0) = false := decide_eq_false c2
    clear c2
    obtain rfl := Option.some.inj H
    go_enter Tryd.func35, Tryd.ntmps35
    go_wp2
    go_ret
    exact ⟨by first | rfl | (simp; done) | (simp [*]; done), by repeat (first | exact Drawn0.refl _ | apply Drawn0.step)⟩
def value_inner.f (a0 : Int) : Option (Bool) := (value_letter.f a0).bind fun t105 => (if t105 = true then (some true) else (if a0 ≥ 48 then (if a0 ≤ 57 then (some true) else (some (a0 == 95))) else (some (a0 == 95))))
set_option maxHeartbeats 8000000 in
set_option maxRecDepth 100000 in
theorem value_inner.calls (a0 : Int) (r : Bool) (w : World) (h : value_inner.f a0 = some r) :
    Calls Tryd.prog 36 #[.int .u8 a0] w fun e w' => e = .returned (.bool r) ∧ Drawn0 w w' := by
  have H : ((value_letter.f a0).bind fun t105 => (if t105 = true then (some true) else (if a0 ≥ 48 then (if a0 ≤ 57 then (some true) else (some (a0 == 95))) else (some (a0 == 95))))) = some r := h
  clear h
  replace H := Option.bind_eq_some_iff.mp H
  obtain ⟨t105, A20, H⟩ := H
  replace H : (if t105 = true then (some true) else (if a0 ≥ 48 then (if a0 ≤ 57 then (some true) else (some (a0 == 95))) else (some (a0 == 95)))) = some r := H
  have A2 := Aside0.mk A20
  clear A20
  by_cases c3 : t105 = true
  · subst c3
    have H1 : (some true) = some r := by rw [if_pos rfl] at H; exact H
    clear H
    have H := H1
    clear H1
    obtain rfl := Option.some.inj H
    go_enter Tryd.func36, Tryd.ntmps36
    go_wp2_with (first | ((with_reducible refine gate_callee (f := 35) rfl ?_); refine goesL_ (some 4) rfl rfl Tryd.func35 (by kernel_rfl) rfl #[.int .u8 a0] rfl (by (try simp only [List.map_toArray, List.map_cons, List.map_nil]); first | done | rfl | (simp only [List.length_drop, List.length_take]; rfl)) ?_; (with_reducible refine (value_letter.calls a0 true _ A2.out).mono ?_); rintro e w' ⟨rfl, ⟨nd, rfl⟩⟩; refine ⟨_, rfl, ?_⟩))
    go_ret
    exact ⟨by first | rfl | (simp; done) | (simp [*]; done), by repeat (first | exact Drawn0.refl _ | apply Drawn0.step)⟩
  · replace c3 := Bool.eq_false_iff.mpr c3
    subst c3
    have H1 : (if a0 ≥ 48 then (if a0 ≤ 57 then (some true) else (some (a0 == 95))) else (some (a0 == 95))) = some r := by rw [if_neg (show ¬ (false = true) by decide)] at H; exact H
    clear H
    have H := H1
    clear H1
    by_cases c4 : a0 ≥ 48
    · rw [if_pos c4] at H
      have c4b0 : decide (48 ≤ a0) = true := decide_eq_true c4
      clear c4
      by_cases c5 : a0 ≤ 57
      · rw [if_pos c5] at H
        have c5b0 : decide (a0 ≤ 57) = true := decide_eq_true c5
        clear c5
        obtain rfl := Option.some.inj H
        go_enter Tryd.func36, Tryd.ntmps36
        go_wp2_with (first | ((with_reducible refine gate_callee (f := 35) rfl ?_); refine goesL_ (some 4) rfl rfl Tryd.func35 (by kernel_rfl) rfl #[.int .u8 a0] rfl (by (try simp only [List.map_toArray, List.map_cons, List.map_nil]); first | done | rfl | (simp only [List.length_drop, List.length_take]; rfl)) ?_; (with_reducible refine (value_letter.calls a0 false _ A2.out).mono ?_); rintro e w' ⟨rfl, ⟨nd, rfl⟩⟩; refine ⟨_, rfl, ?_⟩))
        go_ret
        exact ⟨by first | rfl | (simp; done) | (simp [*]; done), by repeat (first | exact Drawn0.refl _ | apply Drawn0.step)⟩
      · rw [if_neg c5] at H
        have c5b0 : decide (a0 ≤ 57) = false := decide_eq_false c5
        clear c5
        obtain rfl := Option.some.inj H
        go_enter Tryd.func36, Tryd.ntmps36
        go_wp2_with (first | ((with_reducible refine gate_callee (f := 35) rfl ?_); refine goesL_ (some 4) rfl rfl Tryd.func35 (by kernel_rfl) rfl #[.int .u8 a0] rfl (by (try simp only [List.map_toArray, List.map_cons, List.map_nil]); first | done | rfl | (simp only [List.length_drop, List.length_take]; rfl)) ?_; (with_reducible refine (value_letter.calls a0 false _ A2.out).mono ?_); rintro e w' ⟨rfl, ⟨nd, rfl⟩⟩; refine ⟨_, rfl, ?_⟩))
        go_ret
        exact ⟨by first | rfl | (simp; done) | (simp [*]; done), by repeat (first | exact Drawn0.refl _ | apply Drawn0.step)⟩
    · rw [if_neg c4] at H
      have c4b0 : decide (48 ≤ a0) = false := decide_eq_false c4
      clear c4
      obtain rfl := Option.some.inj H
      go_enter Tryd.func36, Tryd.ntmps36
      go_wp2_with (first | ((with_reducible refine gate_callee (f := 35) rfl ?_); refine goesL_ (some 4) rfl rfl Tryd.func35 (by kernel_rfl) rfl #[.int .u8 a0] rfl (by (try simp only [List.map_toArray, List.map_cons, List.map_nil]); first | done | rfl | (simp only [List.length_drop, List.length_take]; rfl)) ?_; (with_reducible refine (value_letter.calls a0 false _ A2.out).mono ?_); rintro e w' ⟨rfl, ⟨nd, rfl⟩⟩; refine ⟨_, rfl, ?_⟩))
      go_ret
      exact ⟨by first | rfl | (simp; done) | (simp [*]; done), by repeat (first | exact Drawn0.refl _ | apply Drawn0.step)⟩
mutual
def value_Name.j0 : Nat → ByteArray → Bool → Option (Bool)
  | 0, _, _ => none
  | k + 1, x0, x17 => if x17 = true then (some false) else (value_Name.l0 k x0 true (x0.size : Int) 0)
def value_Name.l0 : Nat → ByteArray → Bool → Int → Int → Option (Bool)
  | 0, _, _, _, _ => none
  | k + 1, x0, x3, x19, x20 => if x20 < x19 then (if 0 ≤ x20 then (if x20 < (x0.size : Int) then ((value_inner.f (bt x0 x20)).bind fun t107 => (if t107 = true then (value_Name.l0 k x0 t107 x19 (wrap64 (x20 + 1))) else (some t107))) else (none)) else (none)) else (some x3)
end
def value_Name.f (k : Nat) (a0 : ByteArray) : Option (Bool) := if a0.toList = ([] : List UInt8) then (value_Name.j0 k a0 true) else (if (a0.size : Int) > 40 then (value_Name.j0 k a0 true) else (if 0 < (a0.size : Int) then ((value_letter.f (bt a0 0)).bind fun t106 => (value_Name.j0 k a0 (!t106))) else (none)))
set_option maxHeartbeats 8000000 in
set_option maxRecDepth 100000 in
theorem value_Name.calls (k : Nat) (a0 : ByteArray) (r : Bool) (w : World) (h : value_Name.f k a0 = some r) :
    Calls Tryd.prog 19 #[.string a0] w fun e w' => e = .returned (.bool r) ∧ Drawn0 w w' := by
  have H : (if a0.toList = ([] : List UInt8) then (value_Name.j0 k a0 true) else (if (a0.size : Int) > 40 then (value_Name.j0 k a0 true) else (if 0 < (a0.size : Int) then ((value_letter.f (bt a0 0)).bind fun t106 => (value_Name.j0 k a0 (!t106))) else (none)))) = some r := h
  clear h
  have HC2 := Aside0.mk H
  clear H
  go_enter Tryd.func19, Tryd.ntmps19
  go_wp2
  (try go_step3)
  go_upto_region 1 with (fail)
  go_cut [17] (fun v17 wc => ∃ (kq : Nat) (x17_1 : Bool), v17 = .bool x17_1 ∧ Aside0 (value_Name.j0 kq a0 x17_1 = some r) ∧ Aside0 (kq ≤ k) ∧ Drawn0 w wc)
  case first =>
    have H := HC2.out
    clear HC2
    by_cases c3 : a0.toList = ([] : List UInt8)
    · rw [if_pos c3] at H
      have c3b0 : (a0.toList == ([] : List UInt8)) = true := beq_iff_eq.mpr c3
      have c3b1 : (a0.toList != ([] : List UInt8)) = false := bne_eq_false_iff_eq.mpr c3
      clear c3
      (first | rw [c3b0] | (simp only [i64_w, i32_w]; rw [c3b0]) | skip)
      have H' := Aside0.mk H
      clear H
      go_wp2
      (try (go_step3; go_wp2))
      go_meet
      case rel => exact ⟨_, (true), (by first | rfl | (simp; done) | (simp [*]; done)), H', ⟨by first | omega | exact Nat.le_refl _⟩, by repeat (first | exact Drawn0.refl _ | apply Drawn0.step)⟩
    · rw [if_neg c3] at H
      have c3b0 : (a0.toList == ([] : List UInt8)) = false := beq_eq_false_iff_ne.mpr c3
      have c3b1 : (a0.toList != ([] : List UInt8)) = true := bne_iff_ne.mpr c3
      (first | rw [c3b0] | (simp only [i64_w, i32_w]; rw [c3b0]) | skip)
      by_cases c4 : (a0.size : Int) > 40
      · rw [if_pos c4] at H
        have c4b0 : decide (40 < (a0.size : Int)) = true := decide_eq_true c4
        have c4b1 : decide (40 < a0.size) = true := decide_eq_true (by omega)
        clear c4
        have H' := Aside0.mk H
        clear H
        go_wp2
        (try (go_step3; go_wp2))
        go_meet
        case rel => exact ⟨_, (true), (by first | rfl | (simp; done) | (simp [*]; done)), H', ⟨by first | omega | exact Nat.le_refl _⟩, by repeat (first | exact Drawn0.refl _ | apply Drawn0.step)⟩
      · rw [if_neg c4] at H
        have c4b0 : decide (40 < (a0.size : Int)) = false := decide_eq_false c4
        have c4b1 : decide (40 < a0.size) = false := decide_eq_false (by omega)
        clear c4
        by_cases c5 : 0 < (a0.size : Int)
        · rw [if_pos c5] at H
          have c5b0 : decide (0 < (a0.size : Int)) = true := decide_eq_true c5
          have c5b1 : decide (0 < a0.size) = true := decide_eq_true (by omega)
          clear c5
          replace H := Option.bind_eq_some_iff.mp H
          obtain ⟨t106, A70, H⟩ := H
          replace H : (value_Name.j0 k a0 (!t106)) = some r := H
          have A7 := Aside0.mk A70
          clear A70
          have H' := Aside0.mk H
          clear H
          have p6 : 0 ≤ (0 : Int) := (by omega)
          have q6 : 0 < a0.size := (by have : (0 : Int) < (a0.size : Int) := of_decide_eq_true (by first | (with_reducible assumption) | assumption); omega)
          have hx6 : ∀ h : 0 < a0.size, ((a0[0]'h).toNat : Int) = bt a0 0 := bt_at a0 0
          clear p6
          have qi6 : (0 < (a0.size : Int)) = True := eq_true (of_decide_eq_true (by first | (with_reducible assumption) | assumption))
          replace q6 := eq_true q6
          go_wp2_with (first | (go_at_call 35; (with_reducible refine (value_letter.calls (bt a0 0) t106 _ A7.out).mono ?_); rintro e w' ⟨rfl, ⟨nd, rfl⟩⟩))
          (try (go_step3; go_wp2))
          go_meet
          case rel => exact ⟨_, (!t106), (by first | rfl | (simp; done) | (simp [*]; done)), H', ⟨by first | omega | exact Nat.le_refl _⟩, by repeat (first | exact Drawn0.refl _ | apply Drawn0.step)⟩
        · rw [if_neg c5] at H
          exact absurd H (by simp)
  case rest =>
    clear HC2
    try clear c1
    try clear p2
    try clear c3
    try clear c3b0
    try clear c3b1
    try clear c4
    try clear c4b0
    try clear c4b1
    try clear c5
    try clear c5b0
    try clear c5b1
    try clear p6
    try clear q6
    try clear hx6
    try clear qi6
    try clear p6
    try clear q6
    obtain ⟨kq, x17_1, rfl, HA, HJ1, ⟨mc1, rfl⟩⟩ := hcut
    cases kq with
    | zero => exact absurd HA.out (by simp [value_Name.j0])
    | succ kj1 =>
      have H := HA.out
      clear HA
      simp only [value_Name.j0] at H
      by_cases c8 : x17_1 = true
      · subst c8
        have H1 : (some false) = some r := by rw [if_pos rfl] at H; exact H
        clear H
        have H := H1
        clear H1
        obtain rfl := Option.some.inj H
        go_wp2
        (try (go_step3; go_wp2))
        (try rw [Exit.noGoto_ret])
        go_ret
        exact ⟨by first | rfl | (simp; done) | (simp [*]; done), by repeat (first | exact Drawn0.refl _ | apply Drawn0.step)⟩
      · replace c8 := Bool.eq_false_iff.mpr c8
        subst c8
        have H1 : (value_Name.l0 kj1 a0 true (a0.size : Int) 0) = some r := by rw [if_neg (show ¬ (false = true) by decide)] at H; exact H
        clear H
        have H := H1
        clear H1
        have H' := Aside0.mk H
        clear H
        go_wp2
        (try (go_step3; go_wp2))
        go_loopg [3, 20] kj1 (fun kq v3 v20 w' => ∃ (x3_2 : Bool) (x20_2 : Int), v3 = .bool x3_2 ∧ v20 = .int .i64 x20_2 ∧ Aside0 (value_Name.l0 kq a0 x3_2 (a0.size : Int) x20_2 = some r) ∧ Aside0 (kq ≤ kj1) ∧ Drawn0 w w')
        case atStart => exact ⟨(true), (0), (by first | rfl | (simp; done) | (simp [*]; done)), (by first | rfl | (simp; done) | (simp [*]; done)), H', ⟨Nat.le_refl _⟩, by repeat (first | exact Drawn0.refl _ | apply Drawn0.step)⟩
        case round =>
          clear H'
          try clear c1
          try clear p2
          try clear c3
          try clear c3b0
          try clear c3b1
          try clear c4
          try clear c4b0
          try clear c4b1
          try clear c5
          try clear c5b0
          try clear c5b1
          try clear p6
          try clear q6
          try clear hx6
          try clear qi6
          try clear c8
          try clear p2
          try clear p6
          try clear q6
          obtain ⟨x3_2, x20_2, rfl, rfl, HA, HK2, ⟨m2, rfl⟩⟩ := hrel
          cases gk with
          | zero => exact absurd HA.out (by simp [value_Name.l0])
          | succ k2 =>
            have H := HA.out
            clear HA
            simp only [value_Name.l0] at H
            by_cases c9 : x20_2 < (a0.size : Int)
            · rw [if_pos c9] at H
              have c9b0 : decide (x20_2 < (a0.size : Int)) = true := decide_eq_true c9
              clear c9
              by_cases c10 : 0 ≤ x20_2
              · rw [if_pos c10] at H
                have c10b0 : decide (0 ≤ x20_2) = true := decide_eq_true c10
                clear c10
                by_cases c11 : x20_2 < (a0.size : Int)
                · rw [if_pos c11] at H
                  have c11b0 : decide (x20_2 < (a0.size : Int)) = true := decide_eq_true c11
                  clear c11
                  replace H := Option.bind_eq_some_iff.mp H
                  obtain ⟨t107, A130, H⟩ := H
                  replace H : (if t107 = true then (value_Name.l0 k2 a0 t107 (a0.size : Int) (wrap64 (x20_2 + 1))) else (some t107)) = some r := H
                  have A13 := Aside0.mk A130
                  clear A130
                  by_cases c14 : t107 = true
                  · subst c14
                    have H1 : (value_Name.l0 k2 a0 true (a0.size : Int) (wrap64 (x20_2 + 1))) = some r := by rw [if_pos rfl] at H; exact H
                    clear H
                    have H := H1
                    clear H1
                    have H' := Aside0.mk H
                    clear H
                    have p12 : 0 ≤ (x20_2 : Int) := of_decide_eq_true (by first | (with_reducible assumption) | assumption)
                    have q12 : x20_2 < (a0.size : Int) := of_decide_eq_true (by first | (with_reducible assumption) | assumption)
                    have hx12 := bt_at a0 x20_2
                    replace p12 := eq_true p12
                    replace q12 := eq_true q12
                    go_wp2_with (first | ((with_reducible refine gate_callee (f := 36) rfl ?_); refine goesL_ (some 26) rfl rfl Tryd.func36 (by kernel_rfl) rfl #[.int .u8 (bt a0 x20_2)] rfl (by (try simp only [List.map_toArray, List.map_cons, List.map_nil]); first | done | rfl | (simp only [List.length_drop, List.length_take]; rfl)) ?_; (with_reducible refine (value_inner.calls (bt a0 x20_2) true _ A13.out).mono ?_); rintro e w' ⟨rfl, ⟨nd, rfl⟩⟩; refine ⟨_, rfl, ?_⟩))
                    (try (go_step3; go_wp2))
                    go_roundg k2
                    case measure => have := HJ1.out; have := HK2.out; omega
                    case rel => exact ⟨(true), (wrap64 (x20_2 + 1)), (by first | rfl | (simp; done) | (simp [*]; done)), (by first | rfl | (simp; done) | (simp [*]; done)), H', ⟨by have := HJ1.out; have := HK2.out; omega⟩, by repeat (first | exact Drawn0.refl _ | apply Drawn0.step)⟩
                  · replace c14 := Bool.eq_false_iff.mpr c14
                    subst c14
                    have H1 : (some false) = some r := by rw [if_neg (show ¬ (false = true) by decide)] at H; exact H
                    clear H
                    have H := H1
                    clear H1
                    obtain rfl := Option.some.inj H
                    have p12 : 0 ≤ (x20_2 : Int) := of_decide_eq_true (by first | (with_reducible assumption) | assumption)
                    have q12 : x20_2 < (a0.size : Int) := of_decide_eq_true (by first | (with_reducible assumption) | assumption)
                    have hx12 := bt_at a0 x20_2
                    replace p12 := eq_true p12
                    replace q12 := eq_true q12
                    go_wp2_with (first | ((with_reducible refine gate_callee (f := 36) rfl ?_); refine goesL_ (some 26) rfl rfl Tryd.func36 (by kernel_rfl) rfl #[.int .u8 (bt a0 x20_2)] rfl (by (try simp only [List.map_toArray, List.map_cons, List.map_nil]); first | done | rfl | (simp only [List.length_drop, List.length_take]; rfl)) ?_; (with_reducible refine (value_inner.calls (bt a0 x20_2) false _ A13.out).mono ?_); rintro e w' ⟨rfl, ⟨nd, rfl⟩⟩; refine ⟨_, rfl, ?_⟩))
                    (try (go_step3; go_wp2))
                    (try rw [Exit.noGoto_ret])
                    go_ret
                    exact ⟨by first | rfl | (simp; done) | (simp [*]; done), by repeat (first | exact Drawn0.refl _ | apply Drawn0.step)⟩
                · rw [if_neg c11] at H
                  exact absurd H (by simp)
              · rw [if_neg c10] at H
                exact absurd H (by simp)
            · rw [if_neg c9] at H
              have c9b0 : decide (x20_2 < (a0.size : Int)) = false := decide_eq_false c9
              clear c9
              obtain rfl := Option.some.inj H
              go_wp2
              (try (go_step3; go_wp2))
              (try rw [Exit.noGoto_ret])
              go_ret
              exact ⟨by first | rfl | (simp; done) | (simp [*]; done), by repeat (first | exact Drawn0.refl _ | apply Drawn0.step)⟩
def flo_Right.f (a0 : Int) : Option (Bool) := if a0 = 9221120237041090561 then (some true) else (if a0 ≥ (-9218868437227405313) then (some (decide (a0 ≤ 9218868437227405312))) else (some false))
set_option maxHeartbeats 8000000 in
set_option maxRecDepth 100000 in
theorem flo_Right.calls (a0 : Int) (r : Bool) (w : World) (h : flo_Right.f a0 = some r) :
    Calls Tryd.prog 40 #[.int .i64 a0] w fun e w' => e = .returned (.bool r) ∧ Drawn0 w w' := by
  have H : (if a0 = 9221120237041090561 then (some true) else (if a0 ≥ (-9218868437227405313) then (some (decide (a0 ≤ 9218868437227405312))) else (some false))) = some r := h
  clear h
  by_cases c2 : a0 = 9221120237041090561
  · rw [if_pos c2] at H
    have c2b0 : (a0 == 9221120237041090561) = true := beq_iff_eq.mpr c2
    have c2b1 : (a0 != 9221120237041090561) = false := bne_eq_false_iff_eq.mpr c2
    clear c2
    obtain rfl := Option.some.inj H
    go_enter Tryd.func40, Tryd.ntmps40
    go_wp2
    go_ret
    exact ⟨by first | rfl | (simp; done) | (simp [*]; done), by repeat (first | exact Drawn0.refl _ | apply Drawn0.step)⟩
  · rw [if_neg c2] at H
    have c2b0 : (a0 == 9221120237041090561) = false := beq_eq_false_iff_ne.mpr c2
    have c2b1 : (a0 != 9221120237041090561) = true := bne_iff_ne.mpr c2
    by_cases c3 : a0 ≥ (-9218868437227405313)
    · rw [if_pos c3] at H
      have c3b0 : decide ((-9218868437227405313) ≤ a0) = true := decide_eq_true c3
      clear c3
      obtain rfl := Option.some.inj H
      go_enter Tryd.func40, Tryd.ntmps40
      go_wp2
      go_ret
      exact ⟨by first | rfl | (simp; done) | (simp [*]; done), by repeat (first | exact Drawn0.refl _ | apply Drawn0.step)⟩
    · rw [if_neg c3] at H
      have c3b0 : decide ((-9218868437227405313) ≤ a0) = false := decide_eq_false c3
      clear c3
      obtain rfl := Option.some.inj H
      go_enter Tryd.func40, Tryd.ntmps40
      go_wp2
      go_ret
      exact ⟨by first | rfl | (simp; done) | (simp [*]; done), by repeat (first | exact Drawn0.refl _ | apply Drawn0.step)⟩
def value_Right.f (k : Nat) (a0_0 : Int) (a0_1 : Int) (a0_2 : ByteArray) : Option (Bool) := if a0_0 = 1 then (some (a0_2.toList == ([] : List UInt8))) else (if a0_0 = 2 then (if a0_2.toList = ([] : List UInt8) then ((flo_Right.f a0_1).bind fun t109 => (some t109)) else (some false)) else (if a0_0 = 3 then (if a0_1 = 0 then ((value_Name.f k a0_2).bind fun t110 => (some t110)) else (some false)) else (some false)))
set_option maxHeartbeats 8000000 in
set_option maxRecDepth 100000 in
theorem value_Right.calls (k : Nat) (a0_0 : Int) (a0_1 : Int) (a0_2 : ByteArray) (r : Bool) (w : World) (h : value_Right.f k a0_0 a0_1 a0_2 = some r) :
    Calls Tryd.prog 21 #[.agg #[.int .i64 a0_0, .int .i64 a0_1, .string a0_2]] w fun e w' => e = .returned (.bool r) ∧ Below w.heap.size w w' := by
  have hu36 := Tryd.underlying36
  have HB := Aside0.mk (Below.refl w.heap.size w)
  have H : (if a0_0 = 1 then (some (a0_2.toList == ([] : List UInt8))) else (if a0_0 = 2 then (if a0_2.toList = ([] : List UInt8) then ((flo_Right.f a0_1).bind fun t109 => (some t109)) else (some false)) else (if a0_0 = 3 then (if a0_1 = 0 then ((value_Name.f k a0_2).bind fun t110 => (some t110)) else (some false)) else (some false)))) = some r := h
  clear h
  by_cases c2 : a0_0 = 1
  · rw [if_pos c2] at H
    have c2b0 : (a0_0 == 1) = true := beq_iff_eq.mpr c2
    have c2b1 : (a0_0 != 1) = false := bne_eq_false_iff_eq.mpr c2
    clear c2
    obtain rfl := Option.some.inj H
    go_enter Tryd.func21, Tryd.ntmps21
    go_wp2_with (first | ((with_reducible refine gate_dst (N := 1) rfl ?_); refine box_event ?hg (N := 1) ?hd (cs := #[.int .i64 a0_0, .int .i64 a0_1, .string a0_2]) (t := 36) ?hr ?_; (case hd => rfl); (case hg => rfl); (case hr => first | (go_simp; done) | (go_simp; rfl)); intro gb108 hg w3 hbox hb; have n0_ := Aside0.mk (below_step (by repeat (first | (with_reducible first | exact HB.out | apply below_alloc | apply pw_below_drewN | apply below_drew1) | exact HB.out)) hb); have n1_ := Aside0.mk (hbox); have n2_ := Aside0.mk ((by rw [hg]; exact (below_size (by repeat (first | (with_reducible first | exact HB.out | apply below_alloc | apply pw_below_drewN | apply below_drew1) | exact HB.out))) : w.heap.size ≤ gb108)); have n3_ := Aside0.mk ((by rw [hg]; exact (below_size (by repeat (first | (with_reducible first | exact HB.out | apply below_alloc | apply pw_below_drewN | apply below_drew1) | exact HB.out))) : w.heap.size ≤ gb108)); clear HB; have HB := n0_; have BK108 := n1_; have GW108 := n2_; have GE108 := n3_; clear n0_ n1_ n2_ n3_; clear hb hbox hg; have hcz4_0 : w3.cell? ⟨gb108, 0, none⟩ = some (.int .i64 a0_0) := (blk_cell BK108.out 0).trans rfl; have hcz4_1 : w3.cell? ⟨gb108, 1, none⟩ = some (.int .i64 a0_1) := (blk_cell BK108.out 1).trans rfl; have hcz4_2 : w3.cell? ⟨gb108, 2, none⟩ = some (.string a0_2) := (blk_cell BK108.out 2).trans rfl; have hfz4_0 := blk_frozen BK108.out 0; have hfz4_1 := blk_frozen BK108.out 1; have hfz4_2 := blk_frozen BK108.out 2))
    go_ret
    exact ⟨by first | rfl | (simp [errW_none, errW_some] <;> rfl) | (simp [*, errW_none, errW_some] <;> rfl), by repeat (first | (with_reducible first | exact HB.out | apply below_alloc | apply pw_below_drewN | apply below_drew1 | refine below_set ?_ GE108.out) | exact HB.out)⟩
  · rw [if_neg c2] at H
    have c2b0 : (a0_0 == 1) = false := beq_eq_false_iff_ne.mpr c2
    have c2b1 : (a0_0 != 1) = true := bne_iff_ne.mpr c2
    by_cases c5 : a0_0 = 2
    · rw [if_pos c5] at H
      have c5b0 : (a0_0 == 2) = true := beq_iff_eq.mpr c5
      have c5b1 : (a0_0 != 2) = false := bne_eq_false_iff_eq.mpr c5
      clear c5
      by_cases c6 : a0_2.toList = ([] : List UInt8)
      · rw [if_pos c6] at H
        have c6b0 : (a0_2.toList == ([] : List UInt8)) = true := beq_iff_eq.mpr c6
        have c6b1 : (a0_2.toList != ([] : List UInt8)) = false := bne_eq_false_iff_eq.mpr c6
        clear c6
        replace H := Option.bind_eq_some_iff.mp H
        obtain ⟨t109, A70, H⟩ := H
        replace H : (some t109) = some r := H
        have A7 := Aside0.mk A70
        clear A70
        obtain rfl := Option.some.inj H
        go_enter Tryd.func21, Tryd.ntmps21
        go_wp2_with (first | ((with_reducible refine gate_dst (N := 1) rfl ?_); refine box_event ?hg (N := 1) ?hd (cs := #[.int .i64 a0_0, .int .i64 a0_1, .string a0_2]) (t := 36) ?hr ?_; (case hd => rfl); (case hg => rfl); (case hr => first | (go_simp; done) | (go_simp; rfl)); intro gb108 hg w8 hbox hb; have n0_ := Aside0.mk (below_step (by repeat (first | (with_reducible first | exact HB.out | apply below_alloc | apply pw_below_drewN | apply below_drew1) | exact HB.out)) hb); have n1_ := Aside0.mk (hbox); have n2_ := Aside0.mk ((by rw [hg]; exact (below_size (by repeat (first | (with_reducible first | exact HB.out | apply below_alloc | apply pw_below_drewN | apply below_drew1) | exact HB.out))) : w.heap.size ≤ gb108)); have n3_ := Aside0.mk ((by rw [hg]; exact (below_size (by repeat (first | (with_reducible first | exact HB.out | apply below_alloc | apply pw_below_drewN | apply below_drew1) | exact HB.out))) : w.heap.size ≤ gb108)); clear HB; have HB := n0_; have BK108 := n1_; have GW108 := n2_; have GE108 := n3_; clear n0_ n1_ n2_ n3_; clear hb hbox hg; have hcz9_0 : w8.cell? ⟨gb108, 0, none⟩ = some (.int .i64 a0_0) := (blk_cell BK108.out 0).trans rfl; have hcz9_1 : w8.cell? ⟨gb108, 1, none⟩ = some (.int .i64 a0_1) := (blk_cell BK108.out 1).trans rfl; have hcz9_2 : w8.cell? ⟨gb108, 2, none⟩ = some (.string a0_2) := (blk_cell BK108.out 2).trans rfl; have hfz9_0 := blk_frozen BK108.out 0; have hfz9_1 := blk_frozen BK108.out 1; have hfz9_2 := blk_frozen BK108.out 2) | (go_at_call 40; (with_reducible refine (flo_Right.calls a0_1 t109 _ A7.out).mono ?_); rintro e w' ⟨rfl, ⟨nd, rfl⟩⟩))
        go_ret
        exact ⟨by first | rfl | (simp [errW_none, errW_some] <;> rfl) | (simp [*, errW_none, errW_some] <;> rfl), by repeat (first | (with_reducible first | exact HB.out | apply below_alloc | apply pw_below_drewN | apply below_drew1 | refine below_set ?_ GE108.out) | exact HB.out)⟩
      · rw [if_neg c6] at H
        have c6b0 : (a0_2.toList == ([] : List UInt8)) = false := beq_eq_false_iff_ne.mpr c6
        have c6b1 : (a0_2.toList != ([] : List UInt8)) = true := bne_iff_ne.mpr c6
        obtain rfl := Option.some.inj H
        go_enter Tryd.func21, Tryd.ntmps21
        go_wp2_with (first | ((with_reducible refine gate_dst (N := 1) rfl ?_); refine box_event ?hg (N := 1) ?hd (cs := #[.int .i64 a0_0, .int .i64 a0_1, .string a0_2]) (t := 36) ?hr ?_; (case hd => rfl); (case hg => rfl); (case hr => first | (go_simp; done) | (go_simp; rfl)); intro gb108 hg w10 hbox hb; have n0_ := Aside0.mk (below_step (by repeat (first | (with_reducible first | exact HB.out | apply below_alloc | apply pw_below_drewN | apply below_drew1) | exact HB.out)) hb); have n1_ := Aside0.mk (hbox); have n2_ := Aside0.mk ((by rw [hg]; exact (below_size (by repeat (first | (with_reducible first | exact HB.out | apply below_alloc | apply pw_below_drewN | apply below_drew1) | exact HB.out))) : w.heap.size ≤ gb108)); have n3_ := Aside0.mk ((by rw [hg]; exact (below_size (by repeat (first | (with_reducible first | exact HB.out | apply below_alloc | apply pw_below_drewN | apply below_drew1) | exact HB.out))) : w.heap.size ≤ gb108)); clear HB; have HB := n0_; have BK108 := n1_; have GW108 := n2_; have GE108 := n3_; clear n0_ n1_ n2_ n3_; clear hb hbox hg; have hcz11_0 : w10.cell? ⟨gb108, 0, none⟩ = some (.int .i64 a0_0) := (blk_cell BK108.out 0).trans rfl; have hcz11_1 : w10.cell? ⟨gb108, 1, none⟩ = some (.int .i64 a0_1) := (blk_cell BK108.out 1).trans rfl; have hcz11_2 : w10.cell? ⟨gb108, 2, none⟩ = some (.string a0_2) := (blk_cell BK108.out 2).trans rfl; have hfz11_0 := blk_frozen BK108.out 0; have hfz11_1 := blk_frozen BK108.out 1; have hfz11_2 := blk_frozen BK108.out 2))
        go_ret
        exact ⟨by first | rfl | (simp [errW_none, errW_some] <;> rfl) | (simp [*, errW_none, errW_some] <;> rfl), by repeat (first | (with_reducible first | exact HB.out | apply below_alloc | apply pw_below_drewN | apply below_drew1 | refine below_set ?_ GE108.out) | exact HB.out)⟩
    · rw [if_neg c5] at H
      have c5b0 : (a0_0 == 2) = false := beq_eq_false_iff_ne.mpr c5
      have c5b1 : (a0_0 != 2) = true := bne_iff_ne.mpr c5
      by_cases c12 : a0_0 = 3
      · rw [if_pos c12] at H
        have c12b0 : (a0_0 == 3) = true := beq_iff_eq.mpr c12
        have c12b1 : (a0_0 != 3) = false := bne_eq_false_iff_eq.mpr c12
        clear c12
        by_cases c13 : a0_1 = 0
        · rw [if_pos c13] at H
          have c13b0 : (a0_1 == 0) = true := beq_iff_eq.mpr c13
          have c13b1 : (a0_1 != 0) = false := bne_eq_false_iff_eq.mpr c13
          clear c13
          replace H := Option.bind_eq_some_iff.mp H
          obtain ⟨t110, A140, H⟩ := H
          replace H : (some t110) = some r := H
          have A14 := Aside0.mk A140
          clear A140
          obtain rfl := Option.some.inj H
          go_enter Tryd.func21, Tryd.ntmps21
          go_wp2_with (first | ((with_reducible refine gate_dst (N := 1) rfl ?_); refine box_event ?hg (N := 1) ?hd (cs := #[.int .i64 a0_0, .int .i64 a0_1, .string a0_2]) (t := 36) ?hr ?_; (case hd => rfl); (case hg => rfl); (case hr => first | (go_simp; done) | (go_simp; rfl)); intro gb108 hg w15 hbox hb; have n0_ := Aside0.mk (below_step (by repeat (first | (with_reducible first | exact HB.out | apply below_alloc | apply pw_below_drewN | apply below_drew1) | exact HB.out)) hb); have n1_ := Aside0.mk (hbox); have n2_ := Aside0.mk ((by rw [hg]; exact (below_size (by repeat (first | (with_reducible first | exact HB.out | apply below_alloc | apply pw_below_drewN | apply below_drew1) | exact HB.out))) : w.heap.size ≤ gb108)); have n3_ := Aside0.mk ((by rw [hg]; exact (below_size (by repeat (first | (with_reducible first | exact HB.out | apply below_alloc | apply pw_below_drewN | apply below_drew1) | exact HB.out))) : w.heap.size ≤ gb108)); clear HB; have HB := n0_; have BK108 := n1_; have GW108 := n2_; have GE108 := n3_; clear n0_ n1_ n2_ n3_; clear hb hbox hg; have hcz16_0 : w15.cell? ⟨gb108, 0, none⟩ = some (.int .i64 a0_0) := (blk_cell BK108.out 0).trans rfl; have hcz16_1 : w15.cell? ⟨gb108, 1, none⟩ = some (.int .i64 a0_1) := (blk_cell BK108.out 1).trans rfl; have hcz16_2 : w15.cell? ⟨gb108, 2, none⟩ = some (.string a0_2) := (blk_cell BK108.out 2).trans rfl; have hfz16_0 := blk_frozen BK108.out 0; have hfz16_1 := blk_frozen BK108.out 1; have hfz16_2 := blk_frozen BK108.out 2) | (go_at_call 19; (with_reducible refine (value_Name.calls k a0_2 t110 _ A14.out).mono ?_); rintro e w' ⟨rfl, ⟨nd, rfl⟩⟩))
          go_ret
          exact ⟨by first | rfl | (simp [errW_none, errW_some] <;> rfl) | (simp [*, errW_none, errW_some] <;> rfl), by repeat (first | (with_reducible first | exact HB.out | apply below_alloc | apply pw_below_drewN | apply below_drew1 | refine below_set ?_ GE108.out) | exact HB.out)⟩
        · rw [if_neg c13] at H
          have c13b0 : (a0_1 == 0) = false := beq_eq_false_iff_ne.mpr c13
          have c13b1 : (a0_1 != 0) = true := bne_iff_ne.mpr c13
          obtain rfl := Option.some.inj H
          go_enter Tryd.func21, Tryd.ntmps21
          go_wp2_with (first | ((with_reducible refine gate_dst (N := 1) rfl ?_); refine box_event ?hg (N := 1) ?hd (cs := #[.int .i64 a0_0, .int .i64 a0_1, .string a0_2]) (t := 36) ?hr ?_; (case hd => rfl); (case hg => rfl); (case hr => first | (go_simp; done) | (go_simp; rfl)); intro gb108 hg w17 hbox hb; have n0_ := Aside0.mk (below_step (by repeat (first | (with_reducible first | exact HB.out | apply below_alloc | apply pw_below_drewN | apply below_drew1) | exact HB.out)) hb); have n1_ := Aside0.mk (hbox); have n2_ := Aside0.mk ((by rw [hg]; exact (below_size (by repeat (first | (with_reducible first | exact HB.out | apply below_alloc | apply pw_below_drewN | apply below_drew1) | exact HB.out))) : w.heap.size ≤ gb108)); have n3_ := Aside0.mk ((by rw [hg]; exact (below_size (by repeat (first | (with_reducible first | exact HB.out | apply below_alloc | apply pw_below_drewN | apply below_drew1) | exact HB.out))) : w.heap.size ≤ gb108)); clear HB; have HB := n0_; have BK108 := n1_; have GW108 := n2_; have GE108 := n3_; clear n0_ n1_ n2_ n3_; clear hb hbox hg; have hcz18_0 : w17.cell? ⟨gb108, 0, none⟩ = some (.int .i64 a0_0) := (blk_cell BK108.out 0).trans rfl; have hcz18_1 : w17.cell? ⟨gb108, 1, none⟩ = some (.int .i64 a0_1) := (blk_cell BK108.out 1).trans rfl; have hcz18_2 : w17.cell? ⟨gb108, 2, none⟩ = some (.string a0_2) := (blk_cell BK108.out 2).trans rfl; have hfz18_0 := blk_frozen BK108.out 0; have hfz18_1 := blk_frozen BK108.out 1; have hfz18_2 := blk_frozen BK108.out 2))
          go_ret
          exact ⟨by first | rfl | (simp [errW_none, errW_some] <;> rfl) | (simp [*, errW_none, errW_some] <;> rfl), by repeat (first | (with_reducible first | exact HB.out | apply below_alloc | apply pw_below_drewN | apply below_drew1 | refine below_set ?_ GE108.out) | exact HB.out)⟩
      · rw [if_neg c12] at H
        have c12b0 : (a0_0 == 3) = false := beq_eq_false_iff_ne.mpr c12
        have c12b1 : (a0_0 != 3) = true := bne_iff_ne.mpr c12
        obtain rfl := Option.some.inj H
        go_enter Tryd.func21, Tryd.ntmps21
        go_wp2_with (first | ((with_reducible refine gate_dst (N := 1) rfl ?_); refine box_event ?hg (N := 1) ?hd (cs := #[.int .i64 a0_0, .int .i64 a0_1, .string a0_2]) (t := 36) ?hr ?_; (case hd => rfl); (case hg => rfl); (case hr => first | (go_simp; done) | (go_simp; rfl)); intro gb108 hg w19 hbox hb; have n0_ := Aside0.mk (below_step (by repeat (first | (with_reducible first | exact HB.out | apply below_alloc | apply pw_below_drewN | apply below_drew1) | exact HB.out)) hb); have n1_ := Aside0.mk (hbox); have n2_ := Aside0.mk ((by rw [hg]; exact (below_size (by repeat (first | (with_reducible first | exact HB.out | apply below_alloc | apply pw_below_drewN | apply below_drew1) | exact HB.out))) : w.heap.size ≤ gb108)); have n3_ := Aside0.mk ((by rw [hg]; exact (below_size (by repeat (first | (with_reducible first | exact HB.out | apply below_alloc | apply pw_below_drewN | apply below_drew1) | exact HB.out))) : w.heap.size ≤ gb108)); clear HB; have HB := n0_; have BK108 := n1_; have GW108 := n2_; have GE108 := n3_; clear n0_ n1_ n2_ n3_; clear hb hbox hg; have hcz20_0 : w19.cell? ⟨gb108, 0, none⟩ = some (.int .i64 a0_0) := (blk_cell BK108.out 0).trans rfl; have hcz20_1 : w19.cell? ⟨gb108, 1, none⟩ = some (.int .i64 a0_1) := (blk_cell BK108.out 1).trans rfl; have hcz20_2 : w19.cell? ⟨gb108, 2, none⟩ = some (.string a0_2) := (blk_cell BK108.out 2).trans rfl; have hfz20_0 := blk_frozen BK108.out 0; have hfz20_1 := blk_frozen BK108.out 1; have hfz20_2 := blk_frozen BK108.out 2))
        go_ret
        exact ⟨by first | rfl | (simp [errW_none, errW_some] <;> rfl) | (simp [*, errW_none, errW_some] <;> rfl), by repeat (first | (with_reducible first | exact HB.out | apply below_alloc | apply pw_below_drewN | apply below_drew1 | refine below_set ?_ GE108.out) | exact HB.out)⟩
def lex_Key.f (a0 : ByteArray) : Option (Bool) := if a0.toList = ([110, 111, 116] : List UInt8) then (some true) else (if a0.toList = ([105, 115] : List UInt8) then (some true) else (if a0.toList = ([112, 108, 117, 115] : List UInt8) then (some true) else (if a0.toList = ([109, 105, 110, 117, 115] : List UInt8) then (some true) else (if a0.toList = ([116, 105, 109, 101, 115] : List UInt8) then (some true) else (if a0.toList = ([119, 97, 108, 107] : List UInt8) then (some true) else (if a0.toList = ([99, 111, 117, 110, 116] : List UInt8) then (some true) else (if a0.toList = ([115, 117, 109] : List UInt8) then (some true) else (if a0.toList = ([109, 105, 110] : List UInt8) then (some true) else (if a0.toList = ([109, 97, 120] : List UInt8) then (some true) else (if a0.toList = ([109, 101, 97, 110] : List UInt8) then (some true) else (some false)))))))))))
set_option maxHeartbeats 8000000 in
set_option maxRecDepth 100000 in
theorem lex_Key.calls (a0 : ByteArray) (r : Bool) (w : World) (h : lex_Key.f a0 = some r) :
    Calls Tryd.prog 16 #[.string a0] w fun e w' => e = .returned (.bool r) ∧ Drawn0 w w' := by
  have H : (if a0.toList = ([110, 111, 116] : List UInt8) then (some true) else (if a0.toList = ([105, 115] : List UInt8) then (some true) else (if a0.toList = ([112, 108, 117, 115] : List UInt8) then (some true) else (if a0.toList = ([109, 105, 110, 117, 115] : List UInt8) then (some true) else (if a0.toList = ([116, 105, 109, 101, 115] : List UInt8) then (some true) else (if a0.toList = ([119, 97, 108, 107] : List UInt8) then (some true) else (if a0.toList = ([99, 111, 117, 110, 116] : List UInt8) then (some true) else (if a0.toList = ([115, 117, 109] : List UInt8) then (some true) else (if a0.toList = ([109, 105, 110] : List UInt8) then (some true) else (if a0.toList = ([109, 97, 120] : List UInt8) then (some true) else (if a0.toList = ([109, 101, 97, 110] : List UInt8) then (some true) else (some false)))))))))))) = some r := h
  clear h
  by_cases c2 : a0.toList = ([110, 111, 116] : List UInt8)
  · rw [if_pos c2] at H
    have c2b0 : (a0.toList == ([110, 111, 116] : List UInt8)) = true := beq_iff_eq.mpr c2
    have c2b1 : (a0.toList != ([110, 111, 116] : List UInt8)) = false := bne_eq_false_iff_eq.mpr c2
    clear c2
    obtain rfl := Option.some.inj H
    go_enter Tryd.func16, Tryd.ntmps16
    go_wp2
    go_ret
    exact ⟨by first | rfl | (simp; done) | (simp [*]; done), by repeat (first | exact Drawn0.refl _ | apply Drawn0.step)⟩
  · rw [if_neg c2] at H
    have c2b0 : (a0.toList == ([110, 111, 116] : List UInt8)) = false := beq_eq_false_iff_ne.mpr c2
    have c2b1 : (a0.toList != ([110, 111, 116] : List UInt8)) = true := bne_iff_ne.mpr c2
    by_cases c3 : a0.toList = ([105, 115] : List UInt8)
    · rw [if_pos c3] at H
      have c3b0 : (a0.toList == ([105, 115] : List UInt8)) = true := beq_iff_eq.mpr c3
      have c3b1 : (a0.toList != ([105, 115] : List UInt8)) = false := bne_eq_false_iff_eq.mpr c3
      clear c3
      obtain rfl := Option.some.inj H
      go_enter Tryd.func16, Tryd.ntmps16
      go_wp2
      go_ret
      exact ⟨by first | rfl | (simp; done) | (simp [*]; done), by repeat (first | exact Drawn0.refl _ | apply Drawn0.step)⟩
    · rw [if_neg c3] at H
      have c3b0 : (a0.toList == ([105, 115] : List UInt8)) = false := beq_eq_false_iff_ne.mpr c3
      have c3b1 : (a0.toList != ([105, 115] : List UInt8)) = true := bne_iff_ne.mpr c3
      by_cases c4 : a0.toList = ([112, 108, 117, 115] : List UInt8)
      · rw [if_pos c4] at H
        have c4b0 : (a0.toList == ([112, 108, 117, 115] : List UInt8)) = true := beq_iff_eq.mpr c4
        have c4b1 : (a0.toList != ([112, 108, 117, 115] : List UInt8)) = false := bne_eq_false_iff_eq.mpr c4
        clear c4
        obtain rfl := Option.some.inj H
        go_enter Tryd.func16, Tryd.ntmps16
        go_wp2
        go_ret
        exact ⟨by first | rfl | (simp; done) | (simp [*]; done), by repeat (first | exact Drawn0.refl _ | apply Drawn0.step)⟩
      · rw [if_neg c4] at H
        have c4b0 : (a0.toList == ([112, 108, 117, 115] : List UInt8)) = false := beq_eq_false_iff_ne.mpr c4
        have c4b1 : (a0.toList != ([112, 108, 117, 115] : List UInt8)) = true := bne_iff_ne.mpr c4
        by_cases c5 : a0.toList = ([109, 105, 110, 117, 115] : List UInt8)
        · rw [if_pos c5] at H
          have c5b0 : (a0.toList == ([109, 105, 110, 117, 115] : List UInt8)) = true := beq_iff_eq.mpr c5
          have c5b1 : (a0.toList != ([109, 105, 110, 117, 115] : List UInt8)) = false := bne_eq_false_iff_eq.mpr c5
          clear c5
          obtain rfl := Option.some.inj H
          go_enter Tryd.func16, Tryd.ntmps16
          go_wp2
          go_ret
          exact ⟨by first | rfl | (simp; done) | (simp [*]; done), by repeat (first | exact Drawn0.refl _ | apply Drawn0.step)⟩
        · rw [if_neg c5] at H
          have c5b0 : (a0.toList == ([109, 105, 110, 117, 115] : List UInt8)) = false := beq_eq_false_iff_ne.mpr c5
          have c5b1 : (a0.toList != ([109, 105, 110, 117, 115] : List UInt8)) = true := bne_iff_ne.mpr c5
          by_cases c6 : a0.toList = ([116, 105, 109, 101, 115] : List UInt8)
          · rw [if_pos c6] at H
            have c6b0 : (a0.toList == ([116, 105, 109, 101, 115] : List UInt8)) = true := beq_iff_eq.mpr c6
            have c6b1 : (a0.toList != ([116, 105, 109, 101, 115] : List UInt8)) = false := bne_eq_false_iff_eq.mpr c6
            clear c6
            obtain rfl := Option.some.inj H
            go_enter Tryd.func16, Tryd.ntmps16
            go_wp2
            go_ret
            exact ⟨by first | rfl | (simp; done) | (simp [*]; done), by repeat (first | exact Drawn0.refl _ | apply Drawn0.step)⟩
          · rw [if_neg c6] at H
            have c6b0 : (a0.toList == ([116, 105, 109, 101, 115] : List UInt8)) = false := beq_eq_false_iff_ne.mpr c6
            have c6b1 : (a0.toList != ([116, 105, 109, 101, 115] : List UInt8)) = true := bne_iff_ne.mpr c6
            by_cases c7 : a0.toList = ([119, 97, 108, 107] : List UInt8)
            · rw [if_pos c7] at H
              have c7b0 : (a0.toList == ([119, 97, 108, 107] : List UInt8)) = true := beq_iff_eq.mpr c7
              have c7b1 : (a0.toList != ([119, 97, 108, 107] : List UInt8)) = false := bne_eq_false_iff_eq.mpr c7
              clear c7
              obtain rfl := Option.some.inj H
              go_enter Tryd.func16, Tryd.ntmps16
              go_wp2
              go_ret
              exact ⟨by first | rfl | (simp; done) | (simp [*]; done), by repeat (first | exact Drawn0.refl _ | apply Drawn0.step)⟩
            · rw [if_neg c7] at H
              have c7b0 : (a0.toList == ([119, 97, 108, 107] : List UInt8)) = false := beq_eq_false_iff_ne.mpr c7
              have c7b1 : (a0.toList != ([119, 97, 108, 107] : List UInt8)) = true := bne_iff_ne.mpr c7
              by_cases c8 : a0.toList = ([99, 111, 117, 110, 116] : List UInt8)
              · rw [if_pos c8] at H
                have c8b0 : (a0.toList == ([99, 111, 117, 110, 116] : List UInt8)) = true := beq_iff_eq.mpr c8
                have c8b1 : (a0.toList != ([99, 111, 117, 110, 116] : List UInt8)) = false := bne_eq_false_iff_eq.mpr c8
                clear c8
                obtain rfl := Option.some.inj H
                go_enter Tryd.func16, Tryd.ntmps16
                go_wp2
                go_ret
                exact ⟨by first | rfl | (simp; done) | (simp [*]; done), by repeat (first | exact Drawn0.refl _ | apply Drawn0.step)⟩
              · rw [if_neg c8] at H
                have c8b0 : (a0.toList == ([99, 111, 117, 110, 116] : List UInt8)) = false := beq_eq_false_iff_ne.mpr c8
                have c8b1 : (a0.toList != ([99, 111, 117, 110, 116] : List UInt8)) = true := bne_iff_ne.mpr c8
                by_cases c9 : a0.toList = ([115, 117, 109] : List UInt8)
                · rw [if_pos c9] at H
                  have c9b0 : (a0.toList == ([115, 117, 109] : List UInt8)) = true := beq_iff_eq.mpr c9
                  have c9b1 : (a0.toList != ([115, 117, 109] : List UInt8)) = false := bne_eq_false_iff_eq.mpr c9
                  clear c9
                  obtain rfl := Option.some.inj H
                  go_enter Tryd.func16, Tryd.ntmps16
                  go_wp2
                  go_ret
                  exact ⟨by first | rfl | (simp; done) | (simp [*]; done), by repeat (first | exact Drawn0.refl _ | apply Drawn0.step)⟩
                · rw [if_neg c9] at H
                  have c9b0 : (a0.toList == ([115, 117, 109] : List UInt8)) = false := beq_eq_false_iff_ne.mpr c9
                  have c9b1 : (a0.toList != ([115, 117, 109] : List UInt8)) = true := bne_iff_ne.mpr c9
                  by_cases c10 : a0.toList = ([109, 105, 110] : List UInt8)
                  · rw [if_pos c10] at H
                    have c10b0 : (a0.toList == ([109, 105, 110] : List UInt8)) = true := beq_iff_eq.mpr c10
                    have c10b1 : (a0.toList != ([109, 105, 110] : List UInt8)) = false := bne_eq_false_iff_eq.mpr c10
                    clear c10
                    obtain rfl := Option.some.inj H
                    go_enter Tryd.func16, Tryd.ntmps16
                    go_wp2
                    go_ret
                    exact ⟨by first | rfl | (simp; done) | (simp [*]; done), by repeat (first | exact Drawn0.refl _ | apply Drawn0.step)⟩
                  · rw [if_neg c10] at H
                    have c10b0 : (a0.toList == ([109, 105, 110] : List UInt8)) = false := beq_eq_false_iff_ne.mpr c10
                    have c10b1 : (a0.toList != ([109, 105, 110] : List UInt8)) = true := bne_iff_ne.mpr c10
                    by_cases c11 : a0.toList = ([109, 97, 120] : List UInt8)
                    · rw [if_pos c11] at H
                      have c11b0 : (a0.toList == ([109, 97, 120] : List UInt8)) = true := beq_iff_eq.mpr c11
                      have c11b1 : (a0.toList != ([109, 97, 120] : List UInt8)) = false := bne_eq_false_iff_eq.mpr c11
                      clear c11
                      obtain rfl := Option.some.inj H
                      go_enter Tryd.func16, Tryd.ntmps16
                      go_wp2
                      go_ret
                      exact ⟨by first | rfl | (simp; done) | (simp [*]; done), by repeat (first | exact Drawn0.refl _ | apply Drawn0.step)⟩
                    · rw [if_neg c11] at H
                      have c11b0 : (a0.toList == ([109, 97, 120] : List UInt8)) = false := beq_eq_false_iff_ne.mpr c11
                      have c11b1 : (a0.toList != ([109, 97, 120] : List UInt8)) = true := bne_iff_ne.mpr c11
                      by_cases c12 : a0.toList = ([109, 101, 97, 110] : List UInt8)
                      · rw [if_pos c12] at H
                        have c12b0 : (a0.toList == ([109, 101, 97, 110] : List UInt8)) = true := beq_iff_eq.mpr c12
                        have c12b1 : (a0.toList != ([109, 101, 97, 110] : List UInt8)) = false := bne_eq_false_iff_eq.mpr c12
                        clear c12
                        obtain rfl := Option.some.inj H
                        go_enter Tryd.func16, Tryd.ntmps16
                        go_wp2
                        go_ret
                        exact ⟨by first | rfl | (simp; done) | (simp [*]; done), by repeat (first | exact Drawn0.refl _ | apply Drawn0.step)⟩
                      · rw [if_neg c12] at H
                        have c12b0 : (a0.toList == ([109, 101, 97, 110] : List UInt8)) = false := beq_eq_false_iff_ne.mpr c12
                        have c12b1 : (a0.toList != ([109, 101, 97, 110] : List UInt8)) = true := bne_iff_ne.mpr c12
                        obtain rfl := Option.some.inj H
                        go_enter Tryd.func16, Tryd.ntmps16
                        go_wp2
                        go_ret
                        exact ⟨by first | rfl | (simp; done) | (simp [*]; done), by repeat (first | exact Drawn0.refl _ | apply Drawn0.step)⟩
def show_predicate.f (k : Nat) (a0 : ByteArray) : Option (Bool) := (value_Name.f k a0).bind fun t111 => (if t111 = true then ((lex_Key.f a0).bind fun t112 => (some (!t112))) else (some false))
set_option maxHeartbeats 8000000 in
set_option maxRecDepth 100000 in
theorem show_predicate.calls (k : Nat) (a0 : ByteArray) (r : Bool) (w : World) (h : show_predicate.f k a0 = some r) :
    Calls Tryd.prog 74 #[.string a0] w fun e w' => e = .returned (.bool r) ∧ Drawn0 w w' := by
  have H : ((value_Name.f k a0).bind fun t111 => (if t111 = true then ((lex_Key.f a0).bind fun t112 => (some (!t112))) else (some false))) = some r := h
  clear h
  replace H := Option.bind_eq_some_iff.mp H
  obtain ⟨t111, A20, H⟩ := H
  replace H : (if t111 = true then ((lex_Key.f a0).bind fun t112 => (some (!t112))) else (some false)) = some r := H
  have A2 := Aside0.mk A20
  clear A20
  by_cases c3 : t111 = true
  · subst c3
    have H1 : ((lex_Key.f a0).bind fun t112 => (some (!t112))) = some r := by rw [if_pos rfl] at H; exact H
    clear H
    have H := H1
    clear H1
    replace H := Option.bind_eq_some_iff.mp H
    obtain ⟨t112, A40, H⟩ := H
    replace H : (some (!t112)) = some r := H
    have A4 := Aside0.mk A40
    clear A40
    obtain rfl := Option.some.inj H
    go_enter Tryd.func74, Tryd.ntmps74
    go_wp2_with (first | ((with_reducible refine gate_callee (f := 19) rfl ?_); refine goesL_ (some 4) rfl rfl Tryd.func19 (by kernel_rfl) rfl #[.string a0] rfl (by (try simp only [List.map_toArray, List.map_cons, List.map_nil]); first | done | rfl | (simp only [List.length_drop, List.length_take]; rfl)) ?_; (with_reducible refine (value_Name.calls k a0 true _ A2.out).mono ?_); rintro e w' ⟨rfl, ⟨nd, rfl⟩⟩; refine ⟨_, rfl, ?_⟩) | (go_at_call 16; (with_reducible refine (lex_Key.calls a0 t112 _ A4.out).mono ?_); rintro e w' ⟨rfl, ⟨nd, rfl⟩⟩))
    go_ret
    exact ⟨by first | rfl | (simp; done) | (simp [*]; done), by repeat (first | exact Drawn0.refl _ | apply Drawn0.step)⟩
  · replace c3 := Bool.eq_false_iff.mpr c3
    subst c3
    have H1 : (some false) = some r := by rw [if_neg (show ¬ (false = true) by decide)] at H; exact H
    clear H
    have H := H1
    clear H1
    obtain rfl := Option.some.inj H
    go_enter Tryd.func74, Tryd.ntmps74
    go_wp2_with (first | ((with_reducible refine gate_callee (f := 19) rfl ?_); refine goesL_ (some 4) rfl rfl Tryd.func19 (by kernel_rfl) rfl #[.string a0] rfl (by (try simp only [List.map_toArray, List.map_cons, List.map_nil]); first | done | rfl | (simp only [List.length_drop, List.length_take]; rfl)) ?_; (with_reducible refine (value_Name.calls k a0 false _ A2.out).mono ?_); rintro e w' ⟨rfl, ⟨nd, rfl⟩⟩; refine ⟨_, rfl, ?_⟩))
    go_ret
    exact ⟨by first | rfl | (simp; done) | (simp [*]; done), by repeat (first | exact Drawn0.refl _ | apply Drawn0.step)⟩
end Go.Proofs.YthebhbomlllpeaaDoor.X
namespace Go.Proofs.YthebhbomlllpeaaDoor.X
set_option linter.unusedVariables false
set_option linter.unusedSimpArgs false
open Go.RowKit Go.Proofs.YthebhbomlllpeaaDoorW.PrintWords Go.Proofs.YthebhbomlllpeaaDoorW.PrintLast Go.Proofs.YthebhbomlllpeaaDoorW.PrintMore
def strconv_FormatInt.f (a0 : Int) (a1 : Int) : Option ByteArray := if a1 = 10 ∧ -9223372036854775808 ≤ a0 ∧ a0 ≤ 9223372036854775807 then some ⟨(Lib.itoa a0).toArray⟩ else none
theorem below_grow (w : World) (k : Nat) (os : Array Obj) : Below w.heap.size w (Sort.grow (w.drewN k) os) := by
  have h : Below w.heap.size w (w.drewN k) := pw_below_drewN (Below.refl _ _) k
  refine ⟨h.os, h.tape, h.output, ?_, ?_⟩
  · simp [Sort.grow, World.drewN]
  · intro i hi
    simp [Sort.grow, World.drewN, Array.getElem?_append, hi]
theorem strconv_FormatInt.calls (a0 a1 : Int) (r : ByteArray) (w : World) (hLW : LaidW w) (h : strconv_FormatInt.f a0 a1 = some r) :
    Calls Tryd.prog 37 #[.int .i64 a0, .int .i64 a1] w fun e w' => e = .returned (.string r) ∧ Below w.heap.size w w' := by
  unfold strconv_FormatInt.f at h
  split at h
  · rename_i hc
    obtain ⟨rfl, h0, h1⟩ := hc
    obtain rfl := Option.some.inj h
    refine (Tryd.strconv_FormatInt_10 a0 h0 h1 w hLW.t10).mono ?_
    rintro e w' ⟨rfl, k, os, rfl⟩
    exact ⟨rfl, below_grow w k os⟩
  · cases h
def strings_Repeat.f (a0 : ByteArray) (a1 : Int) : Option ByteArray := if 0 ≤ a1 ∧ a1 ≤ 9223372036854775807 ∧ a0.size * a1.toNat ≤ 140737488355328 then some ⟨(Lib.repeatL a0.data.toList a1.toNat).toArray⟩ else none
theorem strings_Repeat.calls (a0 : ByteArray) (a1 : Int) (r : ByteArray) (w : World) (h : strings_Repeat.f a0 a1 = some r) :
    Calls Tryd.prog 39 #[.string a0, .int .i64 a1] w fun e w' => e = .returned (.string r) ∧ Below w.heap.size w w' := by
  unfold strings_Repeat.f at h
  split at h
  · rename_i hc
    obtain ⟨h0, h1, h2⟩ := hc
    obtain rfl := Option.some.inj h
    obtain ⟨n, rfl⟩ := Int.eq_ofNat_of_zero_le h0
    have h3 : n ≤ 9223372036854775807 := by omega
    have h4 : ((n : Int)).toNat = n := Int.toNat_natCast n
    rw [h4] at h2
    refine (Tryd.strings_Repeat a0 n w h3 h2).mono ?_
    rintro e w' ⟨rfl, hb⟩
    exact ⟨by simp only [h4], hb⟩
  · cases h
/-- a byte that may stand in a name. -/
def okB (c : Int) : Bool := decide (97 ≤ c ∧ c ≤ 122) || (decide (48 ≤ c ∧ c ≤ 57) || decide (c = 95))
def nameFrom (s : ByteArray) : Nat → Int → Bool
  | 0, _ => true
  | d + 1, i => okB (bt s i) && nameFrom s d (i + 1)
def nameB (s : ByteArray) : Bool := decide (1 ≤ s.size ∧ s.size ≤ 40) && (decide (97 ≤ bt s 0 ∧ bt s 0 ≤ 122) && nameFrom s s.size 0)
end Go.Proofs.YthebhbomlllpeaaDoor.X
namespace Go.Proofs.YthebhbomlllpeaaDoor.X
set_option linter.unusedVariables false
set_option linter.unusedSimpArgs false
open Go.RowKit Go.Proofs.YthebhbomlllpeaaDoorW.PrintWords Go.Proofs.YthebhbomlllpeaaDoorW.PrintLast Go.Proofs.YthebhbomlllpeaaDoorW.PrintMore
theorem toList_data (s : ByteArray) : s.toList = s.data.toList := ByteArray.toList_eq s
theorem toList_nil (s : ByteArray) : s.toList = ([] : List UInt8) ↔ s.size = 0 := by
  rw [toList_data]
  constructor
  · intro h; have := congrArg List.length h; simpa [data_length] using this
  · intro h; exact List.eq_nil_of_length_eq_zero (by rw [data_length]; exact h)
theorem value_letter_eq (c : Int) : value_letter.f c = some (decide (97 ≤ c ∧ c ≤ 122)) := by
  unfold value_letter.f
  by_cases h : c ≥ 97
  · rw [if_pos h]; congr 1; simp only [ge_iff_le] at h; simp [h]
  · rw [if_neg h]; congr 1; simp; omega
theorem value_inner_eq (c : Int) : value_inner.f c = some (okB c) := by
  unfold value_inner.f okB
  rw [value_letter_eq]
  simp only [Option.bind_some]
  by_cases h : 97 ≤ c ∧ c ≤ 122
  · simp [h]
  · simp only [h, decide_false, Bool.false_or]
    rw [if_neg (by simp)]
    by_cases h1 : c ≥ 48
    · rw [if_pos h1]
      by_cases h2 : c ≤ 57
      · rw [if_pos h2]; simp; omega
      · rw [if_neg h2]; congr 1; rw [Bool.eq_iff_iff]; simp; omega
    · rw [if_neg h1]; congr 1; rw [Bool.eq_iff_iff]; simp; omega
theorem wrap_succ {i : Int} {n : Nat} (h0 : 0 ≤ i) (h : i < (n : Int)) (hn : n ≤ 140737488355328) : wrap64 (i + 1) = i + 1 := by
  unfold wrap64
  omega
theorem value_Name_loop (s : ByteArray) (hs : s.size ≤ 40) : ∀ (d k : Nat) (i : Int), 0 ≤ i → (s.size : Int) - i = d → d < k → value_Name.l0 k s true (s.size : Int) i = some (nameFrom s d i)
  | 0, k, i, h0, hd, hk => by
    obtain ⟨k, rfl⟩ : ∃ m, k = m + 1 := ⟨k - 1, by omega⟩
    simp only [value_Name.l0, nameFrom]
    rw [if_neg (by omega)]
  | d + 1, k, i, h0, hd, hk => by
    obtain ⟨k, rfl⟩ : ∃ m, k = m + 1 := ⟨k - 1, by omega⟩
    simp only [value_Name.l0, nameFrom]
    rw [if_pos (by omega), if_pos h0, if_pos (by omega), value_inner_eq]
    simp only [Option.bind_some]
    cases hb : okB (bt s i) with
    | true =>
      rw [if_pos rfl, wrap_succ (n := s.size) h0 (by omega) (by omega), value_Name_loop s hs d k (i + 1) (by omega) (by omega) (by omega)]
      simp
    | false => simp
theorem value_Name_eq (s : ByteArray) (k : Nat) (hk : 42 ≤ k) : value_Name.f k s = some (nameB s) := by
  unfold value_Name.f nameB
  obtain ⟨k, rfl⟩ : ∃ m, k = m + 1 := ⟨k - 1, by omega⟩
  by_cases h0 : s.size = 0
  · rw [if_pos ((toList_nil s).2 h0)]
    simp [value_Name.j0, h0]
  · rw [if_neg (fun h => h0 ((toList_nil s).1 h))]
    by_cases h1 : (s.size : Int) > 40
    · rw [if_pos h1]
      have : ¬ (1 ≤ s.size ∧ s.size ≤ 40) := by omega
      simp [value_Name.j0, this]
    · rw [if_neg h1, if_pos (by omega), value_letter_eq]
      simp only [Option.bind_some]
      have hc : 1 ≤ s.size ∧ s.size ≤ 40 := by omega
      by_cases h2 : 97 ≤ bt s 0 ∧ bt s 0 ≤ 122
      · simp only [value_Name.j0, h2, hc, decide_true, Bool.not_true, Bool.true_and, and_self]
        rw [if_neg (by simp), value_Name_loop s (by omega) s.size k 0 (by omega) (by omega) (by omega)]
      · simp only [value_Name.j0, h2, decide_false, Bool.not_false, Bool.false_and, Bool.and_false, if_true]
/-- can a value be? -/
def floB (n : Int) : Bool := decide (n = 9221120237041090561) || (decide (-9218868437227405313 ≤ n) && decide (n ≤ 9218868437227405312))
def rightB (k n : Int) (s : ByteArray) : Bool :=
  if k = 1 then decide (s.size = 0) else if k = 2 then decide (s.size = 0) && floB n else if k = 3 then decide (n = 0) && nameB s else false
theorem flo_Right_eq (n : Int) : flo_Right.f n = some (floB n) := by
  unfold flo_Right.f floB
  by_cases h : n = 9221120237041090561
  · rw [if_pos h]; simp [h]
  · rw [if_neg h]
    by_cases h1 : n ≥ -9218868437227405313
    · rw [if_pos h1]; simp [h, h1]
    · rw [if_neg h1]; congr 1; symm; simp [h]; omega
theorem value_Right_eq (k : Nat) (hk : 42 ≤ k) (a b : Int) (s : ByteArray) : value_Right.f k a b s = some (rightB a b s) := by
  unfold value_Right.f rightB
  by_cases h1 : a = 1
  · rw [if_pos h1, if_pos h1]
    congr 1
    rw [Bool.eq_iff_iff, beq_iff_eq, decide_eq_true_iff, toList_nil]
  · rw [if_neg h1, if_neg h1]
    by_cases h2 : a = 2
    · rw [if_pos h2, if_pos h2]
      by_cases h3 : s.size = 0
      · rw [if_pos ((toList_nil s).2 h3), flo_Right_eq]; simp [h3]
      · rw [if_neg (fun h => h3 ((toList_nil s).1 h))]; simp [h3]
    · rw [if_neg h2, if_neg h2]
      by_cases h3 : a = 3
      · rw [if_pos h3, if_pos h3]
        by_cases h4 : b = 0
        · rw [if_pos h4, value_Name_eq s k hk]; simp [h4]
        · rw [if_neg h4]; simp [h4]
      · rw [if_neg h3, if_neg h3]
end Go.Proofs.YthebhbomlllpeaaDoor.X
namespace Go.Proofs.YthebhbomlllpeaaDoor.X
set_option linter.unusedVariables false
set_option linter.unusedSimpArgs false
open Go.RowKit Go.Proofs.YthebhbomlllpeaaDoorW.PrintWords Go.Proofs.YthebhbomlllpeaaDoorW.PrintLast Go.Proofs.YthebhbomlllpeaaDoorW.PrintMore
/-- sixteen digits at base 16, with zeros ahead. -/
def hex16 (u : Nat) : List UInt8 := List.replicate (16 - (hexL u).length) 48 ++ hexL u
/-- a value's text. -/
def textL (k n : Int) (s : ByteArray) : List UInt8 :=
  if rightB k n s = true then (if k = 1 then Lib.itoa n else if k = 2 then 35 :: hex16 (IntKind.u64.wrap n).toNat else s.data.toList) else []
theorem hexL_length (u : Nat) : ∀ d : Nat, 1 ≤ d → u < 16 ^ d → 1 ≤ (hexL u).length ∧ (hexL u).length ≤ d := by
  intro d
  induction d generalizing u with
  | zero => intro h; omega
  | succ d ih =>
    intro _ hu
    rw [hexL]
    split
    · simp
    · rename_i h
      have hd : 1 ≤ d := by
        rcases Nat.eq_zero_or_pos d with rfl | h'
        · simp at hu; omega
        · exact h'
      have := ih (u / 16) hd (by rw [Nat.pow_succ] at hu; omega)
      simp
      omega
theorem wrap_u64 (n : Int) : 0 ≤ IntKind.u64.wrap n ∧ IntKind.u64.wrap n < 18446744073709551616 := by
  rw [IntKind.wrap_u64]; omega
def value_Text.f (a0 a1 : Int) (a2 : ByteArray) : Option ByteArray := if -9223372036854775808 ≤ a1 ∧ a1 ≤ 9223372036854775807 then some ⟨(textL a0 a1 a2).toArray⟩ else none
theorem repeatL_one (c : UInt8) (n : Nat) : Lib.repeatL [c] n = List.replicate n c := by
  induction n with
  | zero => rfl
  | succ n ih => simp [Lib.repeatL, List.replicate_succ, ih]
theorem below_box {w w1 : World} {o : Obj} (h : Below (w.alloc o).heap.size (w.alloc o) w1) : Below w.heap.size w w1 :=
  below_then ((Below.refl w.heap.size w).alloc (Nat.le_refl _) o) (by simp) h
theorem box_cells {w w1 : World} {a b c : Value} {t : TypeId} (h : Below (w.alloc (.cells #[a, b, c] t)).heap.size (w.alloc (.cells #[a, b, c] t)) w1) :
    w1.cell? ⟨w.heap.size, 0, none⟩ = some a ∧ w1.cell? ⟨w.heap.size, 1, none⟩ = some b ∧ w1.cell? ⟨w.heap.size, 2, none⟩ = some c :=
  ⟨(h.cell (p := ⟨w.heap.size, 0, none⟩) (by simp)).trans (by rw [World.cell?_alloc_new]; rfl), (h.cell (p := ⟨w.heap.size, 1, none⟩) (by simp)).trans (by rw [World.cell?_alloc_new]; rfl), (h.cell (p := ⟨w.heap.size, 2, none⟩) (by simp)).trans (by rw [World.cell?_alloc_new]; rfl)⟩
set_option maxHeartbeats 1600000 in
set_option maxRecDepth 100000 in
theorem value_Text.calls (a0 a1 : Int) (a2 : ByteArray) (r : ByteArray) (w : World) (hLW : LaidW w) (h : value_Text.f a0 a1 a2 = some r) :
    Calls Tryd.prog 20 #[.agg #[.int .i64 a0, .int .i64 a1, .string a2]] w fun e w' => e = .returned (.string r) ∧ Below w.heap.size w w' := by
  unfold value_Text.f at h
  split at h
  · rename_i hr
    obtain rfl := Option.some.inj h
    clear h
    have hR := fun W => value_Right.calls 42 a0 a1 a2 (rightB a0 a1 a2) W (value_Right_eq 42 (Nat.le_refl _) a0 a1 a2)
    have HR := Aside0.mk hR
    clear hR
    cases hb : rightB a0 a1 a2 with
    | false =>
      have hT : textL a0 a1 a2 = [] := by unfold textL; rw [if_neg (by rw [hb]; simp)]
      rw [hb] at HR
      rw [hT]
      clear hT hb
      go_enter Tryd.func20, Tryd.ntmps20
      go_wp2_with (go_at_call 21; refine (HR.out _).mono ?_; rintro e w1 ⟨rfl, hb1⟩)
      go_ret
      exact ⟨rfl, below_box hb1⟩
    | true =>
      have hT : textL a0 a1 a2 = (if a0 = 1 then Lib.itoa a1 else if a0 = 2 then 35 :: hex16 (IntKind.u64.wrap a1).toNat else a2.data.toList) := by unfold textL; rw [if_pos hb]
      rw [hb] at HR
      rw [hT]
      clear hT
      by_cases k1 : a0 = 1
      · subst k1
        rw [if_pos rfl]
        have HF := Aside0.mk (fun W h => strconv_FormatInt.calls a1 10 ⟨(Lib.itoa a1).toArray⟩ W h (by unfold strconv_FormatInt.f; rw [if_pos ⟨rfl, hr.1, hr.2⟩]))
        clear hb
        go_enter Tryd.func20, Tryd.ntmps20
        go_wp2_with (first
          | (go_at_call 21; refine (HR.out _).mono ?_; rintro e w1 ⟨rfl, hb1⟩; have HB1 := Aside0.mk (below_box hb1); have HC1 := Aside0.mk (box_cells hb1); clear hb1; have hc0 := HC1.out.1; have hc1 := HC1.out.2.1; have hc2 := HC1.out.2.2; clear HC1)
          | (go_at_call 37; refine (HF.out _ (hLW.below HB1.out)).mono ?_; rintro e w2 ⟨rfl, hb2⟩; have HB2 := Aside0.mk (below_then HB1.out HB1.out.size hb2); clear hb2))
        go_ret
        exact ⟨rfl, HB2.out⟩
      · rw [if_neg k1]
        by_cases k2 : a0 = 2
        · subst k2
          rw [if_pos rfl]
          obtain ⟨hu0, hu1⟩ := wrap_u64 a1
          obtain ⟨u, hu⟩ := Int.eq_ofNat_of_zero_le hu0
          have hu64 : u < 18446744073709551616 := by omega
          have hlen := hexL_length u 16 (by omega) hu64
          have HF := Aside0.mk (fun W h => strconv_FormatUint.calls (IntKind.u64.wrap a1) 16 ⟨(hexL u).toArray⟩ W h (by unfold strconv_FormatUint.f; rw [if_pos ⟨rfl, hu0, hu1⟩, hu, Int.toNat_natCast]))
          have HRP := Aside0.mk (fun W => strings_Repeat.calls ⟨#[48]⟩ (16 - ((hexL u).length : Int)) ⟨(List.replicate (16 - (hexL u).length) 48).toArray⟩ W (by
            unfold strings_Repeat.f
            have e1 : (16 - ((hexL u).length : Int)).toNat = 16 - (hexL u).length := by omega
            have e2 : (⟨#[48]⟩ : ByteArray).size = 1 := rfl
            rw [if_pos ⟨by omega, by omega, by rw [e1, e2]; omega⟩, e1]
            congr 3
            exact repeatL_one 48 _))
          have hfin : (⟨(35 :: hex16 (IntKind.u64.wrap a1).toNat).toArray⟩ : ByteArray) = ((⟨#[35]⟩ : ByteArray) ++ ⟨(List.replicate (16 - (hexL u).length) 48).toArray⟩) ++ ⟨(hexL u).toArray⟩ := by
            rw [hu, Int.toNat_natCast]
            apply ByteArray.ext
            simp [hex16]
          have HFIN := Aside0.mk hfin
          have hs1 : (⟨(hexL u).toArray⟩ : ByteArray).size = (hexL u).length := by simp [ByteArray.size]
          have hs2 : (⟨(List.replicate (16 - (hexL u).length) 48).toArray⟩ : ByteArray).size = 16 - (hexL u).length := by simp [ByteArray.size]
          clear hb hu hu0 hu1 hu64 hfin
          go_enter Tryd.func20, Tryd.ntmps20
          go_wp2_with (first
            | (go_at_call 21; refine (HR.out _).mono ?_; rintro e w1 ⟨rfl, hb1⟩; have HB1 := Aside0.mk (below_box hb1); have HC1 := Aside0.mk (box_cells hb1); clear hb1; have hc0 := HC1.out.1; have hc1 := HC1.out.2.1; have hc2 := HC1.out.2.2; clear HC1)
            | (go_at_call 38; refine (HF.out _ (hLW.below HB1.out)).mono ?_; rintro e w2 ⟨rfl, hb2⟩; have HB2 := Aside0.mk (below_then HB1.out HB1.out.size hb2); clear hb2)
            | (go_at_call 39; refine (HRP.out _).mono ?_; rintro e w3 ⟨rfl, hb3⟩; have HB3 := Aside0.mk (below_then HB2.out HB2.out.size hb3); clear hb3))
          go_ret
          exact ⟨by rw [HFIN.out]; rfl, HB3.out⟩
        · rw [if_neg k2]
          have k3 : a0 = 3 := by
            unfold rightB at hb
            rw [if_neg k1, if_neg k2] at hb
            split at hb
            · assumption
            · cases hb
          subst k3
          clear hb k1 k2
          go_enter Tryd.func20, Tryd.ntmps20
          go_wp2_with (go_at_call 21; refine (HR.out _).mono ?_; rintro e w1 ⟨rfl, hb1⟩; have HB1 := Aside0.mk (below_box hb1); have HC1 := Aside0.mk (box_cells hb1); clear hb1; have hc0 := HC1.out.1; have hc1 := HC1.out.2.1; have hc2 := HC1.out.2.2; clear HC1)
          go_ret
          exact ⟨by rw [show (⟨a2.data.toList.toArray⟩ : ByteArray) = a2 from by apply ByteArray.ext; simp]; rfl, HB1.out⟩
  · cases h
end Go.Proofs.YthebhbomlllpeaaDoor.X
namespace Go.Proofs.YthebhbomlllpeaaDoor.X
set_option linter.unusedVariables false
set_option linter.unusedSimpArgs false
open Go.RowKit Go.Proofs.YthebhbomlllpeaaDoorW.PrintWords Go.Proofs.YthebhbomlllpeaaDoorW.PrintLast Go.Proofs.YthebhbomlllpeaaDoorW.PrintMore
/-- the number that ParseUint hands back at base 16. -/
def num16 (l : List UInt8) : Nat := match (if l = [] then .syntax else parse16 0 l) with
  | .ok n => n
  | .syntax => 0
  | .range => 18446744073709551615
def IsErr (v : Value) : Prop := ∃ tp p, v = .iface tp p
theorem cellSyn {w : World} (h : LaidW w) : ∃ tp p, w.cell? ⟨1, 0, none⟩ = some (.iface tp p) := by
  obtain ⟨tp, p, hv⟩ := h.eSyn
  exact ⟨tp, p, by have := World.var?_cell gSyn hv 0; simpa using this⟩
theorem cellRan {w : World} (h : LaidW w) : ∃ tp p, w.cell? ⟨2, 0, none⟩ = some (.iface tp p) := by
  obtain ⟨tp, p, hv⟩ := h.eRan
  exact ⟨tp, p, by have := World.var?_cell gRan hv 0; simpa using this⟩
theorem ba_zero {s : ByteArray} (h : s.size = 0) : s = ⟨#[]⟩ := by
  obtain ⟨⟨l⟩⟩ := s
  cases l with
  | nil => rfl
  | cons _ _ => simp [ByteArray.size] at h
theorem internalUint16 (s : ByteArray) (hs : s.size ≤ 281474976710656) (w : World) :
    Calls Tryd.prog 59 #[.string s, .int .i64 16, .int .i64 64] w fun e w' => e = .returned (Lib.uintTuple 118 (if s.data.toList = [] then .syntax else parse16 0 s.data.toList)) ∧ Below w.heap.size w w' := by
  by_cases h0 : s.size = 0
  · obtain rfl := ba_zero h0
    refine (Tryd.internal_strconv_ParseUint_empty 16 64 w).mono ?_
    rintro e w' ⟨rfl, rfl⟩
    exact ⟨rfl, Below.refl _ _⟩
  · refine (internal_ParseUint16 s h0 (by omega) w).mono ?_
    rintro e w' ⟨rfl, rfl⟩
    rw [if_neg (fun h => h0 (by rw [Lib.size_eq, h]; rfl))]
    exact ⟨rfl, Lib.bytesWorld_below _ _ _⟩
set_option maxHeartbeats 1600000 in
set_option maxRecDepth 100000 in
theorem parseUint16 (s : ByteArray) (hs : s.size ≤ 281474976710656) (w : World) (hLW : LaidW w) :
    Calls Tryd.prog 33 #[.string s, .int .i64 16, .int .i64 64] w fun e w' => ∃ er, e = .returned (.tuple #[.int .u64 (num16 s.data.toList : Int), er]) ∧ Below w.heap.size w w' := by
  have HU := Aside0.mk (internalUint16 s hs w)
  have HLW := Aside0.mk hLW
  have HS := Aside0.mk hs
  clear hLW hs
  unfold num16
  cases hE : (if s.data.toList = [] then Lib.NumEnd.syntax else parse16 0 s.data.toList) with
  | ok n =>
    rw [hE] at HU
    have HU' : Aside0 (Calls Tryd.prog 59 #[.string s, .int .i64 16, .int .i64 64] w fun e w' => e = .returned (.tuple #[.int .u64 (n : Int), .nilIface]) ∧ Below w.heap.size w w') := HU
    clear HU hE
    go_enter Tryd.func33, Tryd.ntmps33
    go_wp2_with fail
    refine HU'.out.mono ?_
    rintro e w1 ⟨rfl, hb⟩
    have HB := Aside0.mk hb
    clear hb
    go_wp2
    go_ret2
    exact ⟨_, rfl, HB.out⟩
  | «syntax» =>
    rw [hE] at HU
    have HU' : Aside0 (Calls Tryd.prog 59 #[.string s, .int .i64 16, .int .i64 64] w fun e w' => e = .returned (.tuple #[.int .u64 0, .iface 118 (.int .i64 2)]) ∧ Below w.heap.size w w') := HU
    clear HU hE
    go_enter Tryd.func33, Tryd.ntmps33
    go_wp2_with fail
    refine HU'.out.mono ?_
    rintro e w1 ⟨rfl, hb⟩
    have HB := Aside0.mk hb
    clear hb
    go_wp2_with fail
    obtain ⟨tp, p, hc⟩ := cellSyn (HLW.out.below HB.out)
    refine (Tryd.strconv_toError_syntax _ s 16 64 _ w1 HS.out hc (Or.inr ⟨tp, p, rfl⟩)).mono ?_
    rintro e w2 ⟨N, rfl, -, -, hb⟩
    have HB2 := Aside0.mk (below_then HB.out HB.out.size hb)
    clear hb
    go_wp2
    go_ret2
    exact ⟨_, rfl, HB2.out⟩
  | range =>
    rw [hE] at HU
    have HU' : Aside0 (Calls Tryd.prog 59 #[.string s, .int .i64 16, .int .i64 64] w fun e w' => e = .returned (.tuple #[.int .u64 18446744073709551615, .iface 118 (.int .i64 1)]) ∧ Below w.heap.size w w') := HU
    clear HU hE
    go_enter Tryd.func33, Tryd.ntmps33
    go_wp2_with fail
    refine HU'.out.mono ?_
    rintro e w1 ⟨rfl, hb⟩
    have HB := Aside0.mk hb
    clear hb
    go_wp2_with fail
    obtain ⟨tp, p, hc⟩ := cellRan (HLW.out.below HB.out)
    refine (Tryd.strconv_toError_range _ s 16 64 _ w1 HS.out hc (Or.inr ⟨tp, p, rfl⟩)).mono ?_
    rintro e w2 ⟨N, rfl, -, -, hb⟩
    have HB2 := Aside0.mk (below_then HB.out HB.out.size hb)
    clear hb
    go_wp2
    go_ret2
    exact ⟨_, rfl, HB2.out⟩
/-- ParseInt at base 10: the number, or an error. -/
theorem parseInt10 (s : ByteArray) (hs : s.size ≤ 281474976710656) (w : World) (hLW : LaidW w) :
    Calls Tryd.prog 34 #[.string s, .int .i64 10, .int .i64 64] w fun e w' => ∃ n er, e = .returned (.tuple #[.int .i64 n, er]) ∧ ((∃ v, Lib.parseIntB 64 s.data.toList = .ok v ∧ n = v ∧ er = .nilIface) ∨ ((∀ v, Lib.parseIntB 64 s.data.toList ≠ .ok v) ∧ IsErr er)) ∧ Below w.heap.size w w' := by
  cases hE : Lib.parseIntB 64 s.data.toList with
  | ok v =>
    refine (Tryd.strconv_ParseInt_10_at64_ok s (by omega) v hE w).mono ?_
    rintro e w' ⟨rfl, hw⟩
    refine ⟨_, _, rfl, Or.inl ⟨v, rfl, rfl, rfl⟩, ?_⟩
    rcases hw with rfl | ⟨t, rfl⟩
    · exact Below.refl _ _
    · exact Lib.bytesWorld_below _ _ _
  | «syntax» =>
    obtain ⟨tp, p, hv⟩ := hLW.eSyn
    refine (Tryd.strconv_ParseInt_10_at64_syntax_var s hs hE tp p w hv).mono ?_
    rintro e w' ⟨N, rfl, -, -, hb⟩
    exact ⟨_, _, rfl, Or.inr ⟨(fun v h => by cases h), ⟨_, _, rfl⟩⟩, hb⟩
  | range =>
    obtain ⟨tp, p, hv⟩ := hLW.eRan
    refine (Tryd.strconv_ParseInt_10_at64_range_var s hs hE tp p w hv).mono ?_
    rintro e w' ⟨N, rfl, -, -, hb⟩
    exact ⟨_, _, rfl, Or.inr ⟨(fun v h => by cases h), ⟨_, _, rfl⟩⟩, hb⟩
def candR (t : ByteArray) : Int × Int × ByteArray :=
  if Lib.hasPrefix t.data.toList [35] = true then (2, wrap64 (num16 (Lib.trimPrefix t.data.toList [35])), ⟨#[]⟩)
  else match Lib.parseIntB 64 t.data.toList with
    | .ok n => (1, n, ⟨#[]⟩)
    | _ => (3, 0, t)
def readR (t : ByteArray) : Int × Int × ByteArray × Int :=
  if t.size = 0 ∨ textL (candR t).1 (candR t).2.1 (candR t).2.2 ≠ t.data.toList then (0, 0, ⟨#[]⟩, 2) else ((candR t).1, (candR t).2.1, (candR t).2.2, 0)
def value_Read.f (a0 : ByteArray) : Option (Int × Int × ByteArray × Int) := if a0.size ≤ 281474976710656 then some (readR a0) else none
theorem below_two (w : World) (a b : Obj) : Below w.heap.size w ((w.alloc a).alloc b) := ((Below.refl _ _).alloc (Nat.le_refl _) a).alloc (by simp) b
theorem two_1 (w : World) (a b : Array Value) (t u : TypeId) : ((w.alloc (.cells a t)).alloc (.cells b u)).heap[w.heap.size + 1]? = some (.cells b u (0, 0)) := by
  have := blk_new (w.alloc (.cells a t)) (.cells b u)
  rwa [show (w.alloc (.cells a t)).heap.size = w.heap.size + 1 from Array.size_push ..] at this
theorem two_0 (w : World) (a b : Array Value) (t u : TypeId) : ((w.alloc (.cells a t)).alloc (.cells b u)).heap[w.heap.size]? = some (.cells a t (0, 0)) := blk_alloc (blk_new w _) _
theorem trim_le (t : ByteArray) : (⟨(Lib.trimPrefix t.data.toList [35]).toArray⟩ : ByteArray).size ≤ t.size := by
  rw [Lib.size_eq, Lib.size_eq t, List.toList_toArray]
  unfold Lib.trimPrefix
  split
  · rw [List.length_drop]; omega
  · exact Nat.le_refl _
theorem int_ok (t : ByteArray) (hs : t.size ≤ 281474976710656) (w : World) (n : Int) (hn : Lib.parseIntB 64 t.data.toList = .ok n) :
    Calls Tryd.prog 34 #[.string t, .int .i64 10, .int .i64 64] w fun e w' => e = .returned (.tuple #[.int .i64 n, .nilIface]) ∧ Below w.heap.size w w' := by
  refine (Tryd.strconv_ParseInt_10_at64_ok t (by omega) n hn w).mono ?_
  rintro e w' ⟨rfl, hw⟩
  refine ⟨rfl, ?_⟩
  rcases hw with rfl | ⟨t, rfl⟩
  · exact Below.refl _ _
  · exact Lib.bytesWorld_below _ _ _
theorem int_err (t : ByteArray) (hs : t.size ≤ 281474976710656) (w : World) (hLW : LaidW w) (hn : ∀ n, Lib.parseIntB 64 t.data.toList ≠ .ok n) :
    Calls Tryd.prog 34 #[.string t, .int .i64 10, .int .i64 64] w fun e w' => ∃ m tp p, e = .returned (.tuple #[.int .i64 m, .iface tp p]) ∧ Below w.heap.size w w' := by
  refine (parseInt10 t hs w hLW).mono ?_
  rintro e w' ⟨m, er, rfl, h | ⟨h, tp, p, rfl⟩, hb⟩
  · obtain ⟨v, hv, _⟩ := h
    exact absurd hv (hn v)
  · exact ⟨m, tp, p, rfl, hb⟩
set_option maxHeartbeats 1600000 in
set_option maxRecDepth 100000 in
theorem read_hash (t : ByteArray) (hs : t.size ≤ 281474976710656) (w : World) (hLW0 : LaidW w) (hp : Lib.hasPrefix t.data.toList [35] = true) (h0 : t.size ≠ 0) :
    Calls Tryd.prog 18 #[.string t] w fun e w' => e = .returned (.tuple #[.agg #[.int .i64 (readR t).1, .int .i64 (readR t).2.1, .string (readR t).2.2.1], .int .i64 (readR t).2.2.2]) ∧ Below w.heap.size w w' := by
  have hemp : t.toList.isEmpty = false := by
    rw [← decide_eq_emptyBytes]
    exact decide_eq_false (fun h => h0 (by rw [h]; rfl))
  have HLW := Aside0.mk hLW0
  clear hLW0
  have hcut := Tryd.strings_CutPrefix t ⟨#[35]⟩
  rw [show (⟨#[35]⟩ : ByteArray).data.toList = [35] from rfl, hp] at hcut
  have HC := Aside0.mk hcut
  clear hcut
  have hcand : candR t = (2, wrap64 (num16 (Lib.trimPrefix t.data.toList [35]) : Int), ⟨#[]⟩) := by unfold candR; rw [if_pos hp]
  have HR : Aside0 (-9223372036854775808 ≤ wrap64 (num16 (Lib.trimPrefix t.data.toList [35]) : Int) ∧ wrap64 (num16 (Lib.trimPrefix t.data.toList [35]) : Int) ≤ 9223372036854775807) := ⟨by unfold wrap64; omega⟩
  clear hp
  go_enter Tryd.func18, Tryd.ntmps18
  go_wp2_with fail
  refine (HC.out _).mono ?_
  rintro e w1 ⟨rfl, rfl⟩
  go_wp2_with fail
  have HB0 := Aside0.mk (below_two w (.cells #[.int .i64 0, .int .i64 0, .string ⟨#[]⟩] 36) (.cells #[.int .i64 3, .int .i64 0, .string t] 36))
  have K00 := Aside0.mk (two_0 w #[.int .i64 0, .int .i64 0, .string ⟨#[]⟩] #[.int .i64 3, .int .i64 0, .string t] 36 36)
  have K01 := Aside0.mk (two_1 w #[.int .i64 0, .int .i64 0, .string ⟨#[]⟩] #[.int .i64 3, .int .i64 0, .string t] 36 36)
  refine (parseUint16 _ (by have := trim_le t; omega) _ ((HLW.out.alloc _).alloc _)).mono ?_
  rintro e w1 ⟨er, rfl, hb1⟩
  have K0 := Aside0.mk (blk_below (g := w.heap.size) K00.out hb1)
  have K1 := Aside0.mk (blk_below (g := w.heap.size + 1) K01.out hb1)
  have HB := Aside0.mk (below_then HB0.out HB0.out.size hb1)
  clear hb1 HB0 K00 K01
  have hz0 : w1.cell? ⟨w.heap.size + 1, 0, none⟩ = some (.int .i64 3) := (blk_cell K1.out 0).trans rfl
  have hz1 : w1.cell? ⟨w.heap.size + 1, 1, none⟩ = some (.int .i64 0) := (blk_cell K1.out 1).trans rfl
  have hz2 : w1.cell? ⟨w.heap.size + 1, 2, none⟩ = some (.string t) := (blk_cell K1.out 2).trans rfl
  have hzf0 := blk_frozen K1.out 0
  have hzf1 := blk_frozen K1.out 1
  have hzf2 := blk_frozen K1.out 2
  go_wp2_with fail
  clear hz0 hz1 hz2 hzf0 hzf1 hzf2
  have HBs : Aside0 (Below w.heap.size w (((w1.setCell ⟨w.heap.size + 1, 0, none⟩ (.int .i64 2)).setCell ⟨w.heap.size + 1, 1, none⟩ (.int .i64 (wrap64 (num16 (Lib.trimPrefix t.data.toList [35]) : Int)))).setCell ⟨w.heap.size + 1, 2, none⟩ (.string ⟨#[]⟩))) := ⟨below_set (below_set (below_set HB.out (by omega)) (by omega)) (by omega)⟩
  have K1s : Aside0 ((((w1.setCell ⟨w.heap.size + 1, 0, none⟩ (.int .i64 2)).setCell ⟨w.heap.size + 1, 1, none⟩ (.int .i64 (wrap64 (num16 (Lib.trimPrefix t.data.toList [35]) : Int)))).setCell ⟨w.heap.size + 1, 2, none⟩ (.string ⟨#[]⟩)).heap[w.heap.size + 1]? = some (.cells #[.int .i64 2, .int .i64 (wrap64 (num16 (Lib.trimPrefix t.data.toList [35]) : Int)), .string ⟨#[]⟩] 36 (0, 0))) := ⟨blk_put (cs := #[.int .i64 2, .int .i64 (wrap64 (num16 (Lib.trimPrefix t.data.toList [35]) : Int)), .string t]) (blk_put (cs := #[.int .i64 2, .int .i64 0, .string t]) (blk_put (cs := #[.int .i64 3, .int .i64 0, .string t]) K1.out 0 _ rfl) 1 _ rfl) 2 _ rfl⟩
  have K0s : Aside0 ((((w1.setCell ⟨w.heap.size + 1, 0, none⟩ (.int .i64 2)).setCell ⟨w.heap.size + 1, 1, none⟩ (.int .i64 (wrap64 (num16 (Lib.trimPrefix t.data.toList [35]) : Int)))).setCell ⟨w.heap.size + 1, 2, none⟩ (.string ⟨#[]⟩)).heap[w.heap.size]? = some (.cells #[.int .i64 0, .int .i64 0, .string ⟨#[]⟩] 36 (0, 0))) := ⟨blk_far (blk_far (blk_far K0.out (by show w.heap.size ≠ w.heap.size + 1; omega) _) (by show w.heap.size ≠ w.heap.size + 1; omega) _) (by show w.heap.size ≠ w.heap.size + 1; omega) _⟩
  have HLs := HLW.out.below HBs.out
  refine (value_Text.calls (2) (wrap64 (num16 (Lib.trimPrefix t.data.toList [35]) : Int)) (⟨#[]⟩) _ _ HLs (by unfold value_Text.f; rw [if_pos HR.out])).mono ?_
  rintro e w2 ⟨rfl, hb2⟩
  have K0' := Aside0.mk (blk_below (g := w.heap.size) K0s.out hb2)
  have K1' := Aside0.mk (blk_below (g := w.heap.size + 1) K1s.out hb2)
  have HB2 := Aside0.mk (below_then HBs.out HBs.out.size hb2)
  clear hb2 HBs K0s K1s HLs
  have ha0 : w2.cell? ⟨w.heap.size, 0, none⟩ = some (.int .i64 0) := (blk_cell K0'.out 0).trans rfl
  have ha1 : w2.cell? ⟨w.heap.size, 1, none⟩ = some (.int .i64 0) := (blk_cell K0'.out 1).trans rfl
  have ha2 : w2.cell? ⟨w.heap.size, 2, none⟩ = some (.string ⟨#[]⟩) := (blk_cell K0'.out 2).trans rfl
  have haf0 := blk_frozen K0'.out 0
  have haf1 := blk_frozen K0'.out 1
  have haf2 := blk_frozen K0'.out 2
  have hb0 : w2.cell? ⟨w.heap.size + 1, 0, none⟩ = some (.int .i64 2) := (blk_cell K1'.out 0).trans rfl
  have hb1 : w2.cell? ⟨w.heap.size + 1, 1, none⟩ = some (.int .i64 (wrap64 (num16 (Lib.trimPrefix t.data.toList [35]) : Int))) := (blk_cell K1'.out 1).trans rfl
  have hb2 : w2.cell? ⟨w.heap.size + 1, 2, none⟩ = some (.string ⟨#[]⟩) := (blk_cell K1'.out 2).trans rfl
  have hbf0 := blk_frozen K1'.out 0
  have hbf1 := blk_frozen K1'.out 1
  have hbf2 := blk_frozen K1'.out 2
  have hn1 : w.heap.size ≠ w.heap.size + 1 := by omega
  have hn2 : w.heap.size + 1 ≠ w.heap.size := by omega
  by_cases hT : textL (2) (wrap64 (num16 (Lib.trimPrefix t.data.toList [35]) : Int)) (⟨#[]⟩) = t.data.toList
  · have hR : readR t = (2, wrap64 (num16 (Lib.trimPrefix t.data.toList [35]) : Int), ⟨#[]⟩, 0) := by unfold readR; rw [hcand, if_neg (by rintro (h | h); exact h0 h; exact h hT)]
    have hne : (textL (2) (wrap64 (num16 (Lib.trimPrefix t.data.toList [35]) : Int)) (⟨#[]⟩) == t.toList) = true := by rw [toList_data, hT]; simp
    go_wp2
    refine bodyPost_ret (results_ct rfl _ _ w.heap.size 36 #[.int .i64 2, .int .i64 (wrap64 (num16 (Lib.trimPrefix t.data.toList [35]) : Int)), .string ⟨#[]⟩] (0, 0) _ rfl (blk_put (cs := #[.int .i64 2, .int .i64 (wrap64 (num16 (Lib.trimPrefix t.data.toList [35]) : Int)), .string ⟨#[]⟩]) (blk_put (cs := #[.int .i64 2, .int .i64 0, .string ⟨#[]⟩]) (blk_put (cs := #[.int .i64 0, .int .i64 0, .string ⟨#[]⟩]) K0'.out 0 _ rfl) 1 _ rfl) 2 _ rfl) Tryd.underlying36 rfl (by kernel_rfl)) rfl ?_
    exact ⟨(by rw [hR]; try rfl), below_set (below_set (below_set HB2.out (Nat.le_refl _)) (Nat.le_refl _)) (Nat.le_refl _)⟩
  · have hR : readR t = (0, 0, ⟨#[]⟩, 2) := by unfold readR; rw [hcand, if_pos (Or.inr hT)]
    have hne : (textL (2) (wrap64 (num16 (Lib.trimPrefix t.data.toList [35]) : Int)) (⟨#[]⟩) == t.toList) = false := by rw [toList_data, beq_eq_false_iff_ne]; exact hT
    go_wp2
    refine bodyPost_ret (results_ct rfl _ _ w.heap.size 36 #[.int .i64 0, .int .i64 0, .string ⟨#[]⟩] (0, 0) _ rfl (blk_put (cs := #[.int .i64 0, .int .i64 0, .string ⟨#[]⟩]) (blk_put (cs := #[.int .i64 0, .int .i64 0, .string ⟨#[]⟩]) (blk_put (cs := #[.int .i64 0, .int .i64 0, .string ⟨#[]⟩]) K0'.out 0 _ rfl) 1 _ rfl) 2 _ rfl) Tryd.underlying36 rfl (by kernel_rfl)) rfl ?_
    exact ⟨(by rw [hR]; try rfl), below_set (below_set (below_set HB2.out (Nat.le_refl _)) (Nat.le_refl _)) (Nat.le_refl _)⟩
set_option maxHeartbeats 1600000 in
set_option maxRecDepth 100000 in
theorem read_int (t : ByteArray) (hs : t.size ≤ 281474976710656) (w : World) (hLW0 : LaidW w) (hp : Lib.hasPrefix t.data.toList [35] = false) (n : Int) (hn : Lib.parseIntB 64 t.data.toList = .ok n) (h0 : t.size ≠ 0) :
    Calls Tryd.prog 18 #[.string t] w fun e w' => e = .returned (.tuple #[.agg #[.int .i64 (readR t).1, .int .i64 (readR t).2.1, .string (readR t).2.2.1], .int .i64 (readR t).2.2.2]) ∧ Below w.heap.size w w' := by
  have hemp : t.toList.isEmpty = false := by
    rw [← decide_eq_emptyBytes]
    exact decide_eq_false (fun h => h0 (by rw [h]; rfl))
  have HLW := Aside0.mk hLW0
  clear hLW0
  have hcut := Tryd.strings_CutPrefix t ⟨#[35]⟩
  rw [show (⟨#[35]⟩ : ByteArray).data.toList = [35] from rfl, hp] at hcut
  have HC := Aside0.mk hcut
  clear hcut
  have hcand : candR t = (1, n, ⟨#[]⟩) := by unfold candR; rw [if_neg (by simp [hp]), hn]
  have HR : Aside0 (-9223372036854775808 ≤ n ∧ n ≤ 9223372036854775807) := ⟨by have := Lib.parseIntB_bounds hn; have e : ((2 ^ (64 - 1) : Nat) : Int) = 9223372036854775808 := (by decide); rw [e] at this; omega⟩
  have HI : Aside0 (∀ w, Calls Tryd.prog 34 #[.string t, .int .i64 10, .int .i64 64] w fun e w' => e = .returned (.tuple #[.int .i64 n, .nilIface]) ∧ Below w.heap.size w w') := ⟨fun w => int_ok t hs w n hn⟩
  clear hp hn
  go_enter Tryd.func18, Tryd.ntmps18
  go_wp2_with fail
  refine (HC.out _).mono ?_
  rintro e w1 ⟨rfl, rfl⟩
  go_wp2_with fail
  have HB0 := Aside0.mk (below_two w (.cells #[.int .i64 0, .int .i64 0, .string ⟨#[]⟩] 36) (.cells #[.int .i64 3, .int .i64 0, .string t] 36))
  have K00 := Aside0.mk (two_0 w #[.int .i64 0, .int .i64 0, .string ⟨#[]⟩] #[.int .i64 3, .int .i64 0, .string t] 36 36)
  have K01 := Aside0.mk (two_1 w #[.int .i64 0, .int .i64 0, .string ⟨#[]⟩] #[.int .i64 3, .int .i64 0, .string t] 36 36)
  refine (HI.out _).mono ?_
  rintro e w1 ⟨rfl, hb1⟩
  have K0 := Aside0.mk (blk_below (g := w.heap.size) K00.out hb1)
  have K1 := Aside0.mk (blk_below (g := w.heap.size + 1) K01.out hb1)
  have HB := Aside0.mk (below_then HB0.out HB0.out.size hb1)
  clear hb1 HB0 K00 K01
  have hz0 : w1.cell? ⟨w.heap.size + 1, 0, none⟩ = some (.int .i64 3) := (blk_cell K1.out 0).trans rfl
  have hz1 : w1.cell? ⟨w.heap.size + 1, 1, none⟩ = some (.int .i64 0) := (blk_cell K1.out 1).trans rfl
  have hz2 : w1.cell? ⟨w.heap.size + 1, 2, none⟩ = some (.string t) := (blk_cell K1.out 2).trans rfl
  have hzf0 := blk_frozen K1.out 0
  have hzf1 := blk_frozen K1.out 1
  have hzf2 := blk_frozen K1.out 2
  go_wp2_with fail
  clear hz0 hz1 hz2 hzf0 hzf1 hzf2
  have HBs : Aside0 (Below w.heap.size w (((w1.setCell ⟨w.heap.size + 1, 0, none⟩ (.int .i64 1)).setCell ⟨w.heap.size + 1, 1, none⟩ (.int .i64 n)).setCell ⟨w.heap.size + 1, 2, none⟩ (.string ⟨#[]⟩))) := ⟨below_set (below_set (below_set HB.out (by omega)) (by omega)) (by omega)⟩
  have K1s : Aside0 ((((w1.setCell ⟨w.heap.size + 1, 0, none⟩ (.int .i64 1)).setCell ⟨w.heap.size + 1, 1, none⟩ (.int .i64 n)).setCell ⟨w.heap.size + 1, 2, none⟩ (.string ⟨#[]⟩)).heap[w.heap.size + 1]? = some (.cells #[.int .i64 1, .int .i64 n, .string ⟨#[]⟩] 36 (0, 0))) := ⟨blk_put (cs := #[.int .i64 1, .int .i64 n, .string t]) (blk_put (cs := #[.int .i64 1, .int .i64 0, .string t]) (blk_put (cs := #[.int .i64 3, .int .i64 0, .string t]) K1.out 0 _ rfl) 1 _ rfl) 2 _ rfl⟩
  have K0s : Aside0 ((((w1.setCell ⟨w.heap.size + 1, 0, none⟩ (.int .i64 1)).setCell ⟨w.heap.size + 1, 1, none⟩ (.int .i64 n)).setCell ⟨w.heap.size + 1, 2, none⟩ (.string ⟨#[]⟩)).heap[w.heap.size]? = some (.cells #[.int .i64 0, .int .i64 0, .string ⟨#[]⟩] 36 (0, 0))) := ⟨blk_far (blk_far (blk_far K0.out (by show w.heap.size ≠ w.heap.size + 1; omega) _) (by show w.heap.size ≠ w.heap.size + 1; omega) _) (by show w.heap.size ≠ w.heap.size + 1; omega) _⟩
  have HLs := HLW.out.below HBs.out
  refine (value_Text.calls (1) (n) (⟨#[]⟩) _ _ HLs (by unfold value_Text.f; rw [if_pos HR.out])).mono ?_
  rintro e w2 ⟨rfl, hb2⟩
  have K0' := Aside0.mk (blk_below (g := w.heap.size) K0s.out hb2)
  have K1' := Aside0.mk (blk_below (g := w.heap.size + 1) K1s.out hb2)
  have HB2 := Aside0.mk (below_then HBs.out HBs.out.size hb2)
  clear hb2 HBs K0s K1s HLs
  have ha0 : w2.cell? ⟨w.heap.size, 0, none⟩ = some (.int .i64 0) := (blk_cell K0'.out 0).trans rfl
  have ha1 : w2.cell? ⟨w.heap.size, 1, none⟩ = some (.int .i64 0) := (blk_cell K0'.out 1).trans rfl
  have ha2 : w2.cell? ⟨w.heap.size, 2, none⟩ = some (.string ⟨#[]⟩) := (blk_cell K0'.out 2).trans rfl
  have haf0 := blk_frozen K0'.out 0
  have haf1 := blk_frozen K0'.out 1
  have haf2 := blk_frozen K0'.out 2
  have hb0 : w2.cell? ⟨w.heap.size + 1, 0, none⟩ = some (.int .i64 1) := (blk_cell K1'.out 0).trans rfl
  have hb1 : w2.cell? ⟨w.heap.size + 1, 1, none⟩ = some (.int .i64 n) := (blk_cell K1'.out 1).trans rfl
  have hb2 : w2.cell? ⟨w.heap.size + 1, 2, none⟩ = some (.string ⟨#[]⟩) := (blk_cell K1'.out 2).trans rfl
  have hbf0 := blk_frozen K1'.out 0
  have hbf1 := blk_frozen K1'.out 1
  have hbf2 := blk_frozen K1'.out 2
  have hn1 : w.heap.size ≠ w.heap.size + 1 := by omega
  have hn2 : w.heap.size + 1 ≠ w.heap.size := by omega
  by_cases hT : textL (1) (n) (⟨#[]⟩) = t.data.toList
  · have hR : readR t = (1, n, ⟨#[]⟩, 0) := by unfold readR; rw [hcand, if_neg (by rintro (h | h); exact h0 h; exact h hT)]
    have hne : (textL (1) (n) (⟨#[]⟩) == t.toList) = true := by rw [toList_data, hT]; simp
    go_wp2
    refine bodyPost_ret (results_ct rfl _ _ w.heap.size 36 #[.int .i64 1, .int .i64 n, .string ⟨#[]⟩] (0, 0) _ rfl (blk_put (cs := #[.int .i64 1, .int .i64 n, .string ⟨#[]⟩]) (blk_put (cs := #[.int .i64 1, .int .i64 0, .string ⟨#[]⟩]) (blk_put (cs := #[.int .i64 0, .int .i64 0, .string ⟨#[]⟩]) K0'.out 0 _ rfl) 1 _ rfl) 2 _ rfl) Tryd.underlying36 rfl (by kernel_rfl)) rfl ?_
    exact ⟨(by rw [hR]; try rfl), below_set (below_set (below_set HB2.out (Nat.le_refl _)) (Nat.le_refl _)) (Nat.le_refl _)⟩
  · have hR : readR t = (0, 0, ⟨#[]⟩, 2) := by unfold readR; rw [hcand, if_pos (Or.inr hT)]
    have hne : (textL (1) (n) (⟨#[]⟩) == t.toList) = false := by rw [toList_data, beq_eq_false_iff_ne]; exact hT
    go_wp2
    refine bodyPost_ret (results_ct rfl _ _ w.heap.size 36 #[.int .i64 0, .int .i64 0, .string ⟨#[]⟩] (0, 0) _ rfl (blk_put (cs := #[.int .i64 0, .int .i64 0, .string ⟨#[]⟩]) (blk_put (cs := #[.int .i64 0, .int .i64 0, .string ⟨#[]⟩]) (blk_put (cs := #[.int .i64 0, .int .i64 0, .string ⟨#[]⟩]) K0'.out 0 _ rfl) 1 _ rfl) 2 _ rfl) Tryd.underlying36 rfl (by kernel_rfl)) rfl ?_
    exact ⟨(by rw [hR]; try rfl), below_set (below_set (below_set HB2.out (Nat.le_refl _)) (Nat.le_refl _)) (Nat.le_refl _)⟩
set_option maxHeartbeats 1600000 in
set_option maxRecDepth 100000 in
theorem read_sym (t : ByteArray) (hs : t.size ≤ 281474976710656) (w : World) (hLW0 : LaidW w) (hp : Lib.hasPrefix t.data.toList [35] = false) (hn : ∀ n, Lib.parseIntB 64 t.data.toList ≠ .ok n) (h0 : t.size ≠ 0) :
    Calls Tryd.prog 18 #[.string t] w fun e w' => e = .returned (.tuple #[.agg #[.int .i64 (readR t).1, .int .i64 (readR t).2.1, .string (readR t).2.2.1], .int .i64 (readR t).2.2.2]) ∧ Below w.heap.size w w' := by
  have hemp : t.toList.isEmpty = false := by
    rw [← decide_eq_emptyBytes]
    exact decide_eq_false (fun h => h0 (by rw [h]; rfl))
  have HLW := Aside0.mk hLW0
  clear hLW0
  have hcut := Tryd.strings_CutPrefix t ⟨#[35]⟩
  rw [show (⟨#[35]⟩ : ByteArray).data.toList = [35] from rfl, hp] at hcut
  have HC := Aside0.mk hcut
  clear hcut
  have hcand : candR t = (3, 0, t) := by
    unfold candR
    rw [if_neg (by simp [hp])]
    cases h : Lib.parseIntB 64 t.data.toList with
    | ok n => exact absurd h (hn n)
    | «syntax» => rfl
    | range => rfl
  have HR : Aside0 (-9223372036854775808 ≤ (0 : Int) ∧ (0 : Int) ≤ 9223372036854775807) := ⟨by omega⟩
  have HI : Aside0 (∀ w, LaidW w → Calls Tryd.prog 34 #[.string t, .int .i64 10, .int .i64 64] w fun e w' => ∃ m tp p, e = .returned (.tuple #[.int .i64 m, .iface tp p]) ∧ Below w.heap.size w w') := ⟨fun w h => int_err t hs w h hn⟩
  clear hp hn
  go_enter Tryd.func18, Tryd.ntmps18
  go_wp2_with fail
  refine (HC.out _).mono ?_
  rintro e w1 ⟨rfl, rfl⟩
  go_wp2_with fail
  have HB0 := Aside0.mk (below_two w (.cells #[.int .i64 0, .int .i64 0, .string ⟨#[]⟩] 36) (.cells #[.int .i64 3, .int .i64 0, .string t] 36))
  have K00 := Aside0.mk (two_0 w #[.int .i64 0, .int .i64 0, .string ⟨#[]⟩] #[.int .i64 3, .int .i64 0, .string t] 36 36)
  have K01 := Aside0.mk (two_1 w #[.int .i64 0, .int .i64 0, .string ⟨#[]⟩] #[.int .i64 3, .int .i64 0, .string t] 36 36)
  refine (HI.out _ ((HLW.out.alloc _).alloc _)).mono ?_
  rintro e w1 ⟨m, tp, p, rfl, hb1⟩
  have K0 := Aside0.mk (blk_below (g := w.heap.size) K00.out hb1)
  have K1 := Aside0.mk (blk_below (g := w.heap.size + 1) K01.out hb1)
  have HB := Aside0.mk (below_then HB0.out HB0.out.size hb1)
  clear hb1 HB0 K00 K01
  have hz0 : w1.cell? ⟨w.heap.size + 1, 0, none⟩ = some (.int .i64 3) := (blk_cell K1.out 0).trans rfl
  have hz1 : w1.cell? ⟨w.heap.size + 1, 1, none⟩ = some (.int .i64 0) := (blk_cell K1.out 1).trans rfl
  have hz2 : w1.cell? ⟨w.heap.size + 1, 2, none⟩ = some (.string t) := (blk_cell K1.out 2).trans rfl
  have hzf0 := blk_frozen K1.out 0
  have hzf1 := blk_frozen K1.out 1
  have hzf2 := blk_frozen K1.out 2
  go_wp2_with fail
  clear hz0 hz1 hz2 hzf0 hzf1 hzf2
  have HBs := HB
  have K1s := K1
  have K0s := K0
  have HLs := HLW.out.below HBs.out
  refine (value_Text.calls (3) (0) (t) _ _ HLs (by unfold value_Text.f; rw [if_pos HR.out])).mono ?_
  rintro e w2 ⟨rfl, hb2⟩
  have K0' := Aside0.mk (blk_below (g := w.heap.size) K0s.out hb2)
  have K1' := Aside0.mk (blk_below (g := w.heap.size + 1) K1s.out hb2)
  have HB2 := Aside0.mk (below_then HBs.out HBs.out.size hb2)
  clear hb2 HBs K0s K1s HLs
  have ha0 : w2.cell? ⟨w.heap.size, 0, none⟩ = some (.int .i64 0) := (blk_cell K0'.out 0).trans rfl
  have ha1 : w2.cell? ⟨w.heap.size, 1, none⟩ = some (.int .i64 0) := (blk_cell K0'.out 1).trans rfl
  have ha2 : w2.cell? ⟨w.heap.size, 2, none⟩ = some (.string ⟨#[]⟩) := (blk_cell K0'.out 2).trans rfl
  have haf0 := blk_frozen K0'.out 0
  have haf1 := blk_frozen K0'.out 1
  have haf2 := blk_frozen K0'.out 2
  have hb0 : w2.cell? ⟨w.heap.size + 1, 0, none⟩ = some (.int .i64 3) := (blk_cell K1'.out 0).trans rfl
  have hb1 : w2.cell? ⟨w.heap.size + 1, 1, none⟩ = some (.int .i64 0) := (blk_cell K1'.out 1).trans rfl
  have hb2 : w2.cell? ⟨w.heap.size + 1, 2, none⟩ = some (.string t) := (blk_cell K1'.out 2).trans rfl
  have hbf0 := blk_frozen K1'.out 0
  have hbf1 := blk_frozen K1'.out 1
  have hbf2 := blk_frozen K1'.out 2
  have hn1 : w.heap.size ≠ w.heap.size + 1 := by omega
  have hn2 : w.heap.size + 1 ≠ w.heap.size := by omega
  by_cases hT : textL (3) (0) (t) = t.data.toList
  · have hR : readR t = (3, 0, t, 0) := by unfold readR; rw [hcand, if_neg (by rintro (h | h); exact h0 h; exact h hT)]
    have hne : (textL (3) (0) (t) == t.toList) = true := by rw [toList_data, hT]; simp
    go_wp2
    refine bodyPost_ret (results_ct rfl _ _ w.heap.size 36 #[.int .i64 3, .int .i64 0, .string t] (0, 0) _ rfl (blk_put (cs := #[.int .i64 3, .int .i64 0, .string ⟨#[]⟩]) (blk_put (cs := #[.int .i64 3, .int .i64 0, .string ⟨#[]⟩]) (blk_put (cs := #[.int .i64 0, .int .i64 0, .string ⟨#[]⟩]) K0'.out 0 _ rfl) 1 _ rfl) 2 _ rfl) Tryd.underlying36 rfl (by kernel_rfl)) rfl ?_
    exact ⟨(by rw [hR]; try rfl), below_set (below_set (below_set HB2.out (Nat.le_refl _)) (Nat.le_refl _)) (Nat.le_refl _)⟩
  · have hR : readR t = (0, 0, ⟨#[]⟩, 2) := by unfold readR; rw [hcand, if_pos (Or.inr hT)]
    have hne : (textL (3) (0) (t) == t.toList) = false := by rw [toList_data, beq_eq_false_iff_ne]; exact hT
    go_wp2
    refine bodyPost_ret (results_ct rfl _ _ w.heap.size 36 #[.int .i64 0, .int .i64 0, .string ⟨#[]⟩] (0, 0) _ rfl (blk_put (cs := #[.int .i64 0, .int .i64 0, .string ⟨#[]⟩]) (blk_put (cs := #[.int .i64 0, .int .i64 0, .string ⟨#[]⟩]) (blk_put (cs := #[.int .i64 0, .int .i64 0, .string ⟨#[]⟩]) K0'.out 0 _ rfl) 1 _ rfl) 2 _ rfl) Tryd.underlying36 rfl (by kernel_rfl)) rfl ?_
    exact ⟨(by rw [hR]; try rfl), below_set (below_set (below_set HB2.out (Nat.le_refl _)) (Nat.le_refl _)) (Nat.le_refl _)⟩
theorem readR_empty : readR ⟨#[]⟩ = (0, 0, ⟨#[]⟩, 2) := by
  have h : (⟨#[]⟩ : ByteArray).size = 0 := rfl
  unfold readR
  rw [if_pos (Or.inl h)]
set_option maxHeartbeats 1600000 in
set_option maxRecDepth 100000 in
theorem read_empty (w : World) (hLW0 : LaidW w) :
    Calls Tryd.prog 18 #[.string ⟨#[]⟩] w fun e w' => e = .returned (.tuple #[.agg #[.int .i64 0, .int .i64 0, .string ⟨#[]⟩], .int .i64 2]) ∧ Below w.heap.size w w' := by
  have HLW := Aside0.mk hLW0
  clear hLW0
  have HC : Aside0 (∀ w, Calls Tryd.prog 32 #[.string ⟨#[]⟩, .string ⟨#[35]⟩] w fun e w' => e = .returned (.tuple #[.string ⟨#[]⟩, .bool false]) ∧ w' = w) := ⟨Tryd.strings_CutPrefix ⟨#[]⟩ ⟨#[35]⟩⟩
  have HI : Aside0 (∀ w, LaidW w → Calls Tryd.prog 34 #[.string ⟨#[]⟩, .int .i64 10, .int .i64 64] w fun e w' => ∃ m tp p, e = .returned (.tuple #[.int .i64 m, .iface tp p]) ∧ Below w.heap.size w w') := ⟨fun w h => int_err ⟨#[]⟩ (by decide) w h (fun n h => by cases h)⟩
  have hemp : (⟨#[]⟩ : ByteArray).toList.isEmpty = true := by rw [toList_data]; rfl
  go_enter Tryd.func18, Tryd.ntmps18
  go_wp2_with fail
  refine (HC.out _).mono ?_
  rintro e w1 ⟨rfl, rfl⟩
  go_wp2_with fail
  have HB0 := Aside0.mk (below_two w (.cells #[.int .i64 0, .int .i64 0, .string ⟨#[]⟩] 36) (.cells #[.int .i64 3, .int .i64 0, .string ⟨#[]⟩] 36))
  have K00 := Aside0.mk (two_0 w #[.int .i64 0, .int .i64 0, .string ⟨#[]⟩] #[.int .i64 3, .int .i64 0, .string ⟨#[]⟩] 36 36)
  have K01 := Aside0.mk (two_1 w #[.int .i64 0, .int .i64 0, .string ⟨#[]⟩] #[.int .i64 3, .int .i64 0, .string ⟨#[]⟩] 36 36)
  refine (HI.out _ ((HLW.out.alloc _).alloc _)).mono ?_
  rintro e w1 ⟨m, tp, p, rfl, hb1⟩
  have K0' := Aside0.mk (blk_below (g := w.heap.size) K00.out hb1)
  have K1 := Aside0.mk (blk_below (g := w.heap.size + 1) K01.out hb1)
  have HB2 := Aside0.mk (below_then HB0.out HB0.out.size hb1)
  clear hb1 HB0 K00 K01
  have hz0 : w1.cell? ⟨w.heap.size + 1, 0, none⟩ = some (.int .i64 3) := (blk_cell K1.out 0).trans rfl
  have hz1 : w1.cell? ⟨w.heap.size + 1, 1, none⟩ = some (.int .i64 0) := (blk_cell K1.out 1).trans rfl
  have hz2 : w1.cell? ⟨w.heap.size + 1, 2, none⟩ = some (.string ⟨#[]⟩) := (blk_cell K1.out 2).trans rfl
  have ha0 : w1.cell? ⟨w.heap.size, 0, none⟩ = some (.int .i64 0) := (blk_cell K0'.out 0).trans rfl
  have ha1 : w1.cell? ⟨w.heap.size, 1, none⟩ = some (.int .i64 0) := (blk_cell K0'.out 1).trans rfl
  have ha2 : w1.cell? ⟨w.heap.size, 2, none⟩ = some (.string ⟨#[]⟩) := (blk_cell K0'.out 2).trans rfl
  have haf0 := blk_frozen K0'.out 0
  have haf1 := blk_frozen K0'.out 1
  have haf2 := blk_frozen K0'.out 2
  go_wp2
  refine bodyPost_ret (results_ct rfl _ _ w.heap.size 36 #[.int .i64 0, .int .i64 0, .string ⟨#[]⟩] (0, 0) _ rfl (blk_put (cs := #[.int .i64 0, .int .i64 0, .string ⟨#[]⟩]) (blk_put (cs := #[.int .i64 0, .int .i64 0, .string ⟨#[]⟩]) (blk_put (cs := #[.int .i64 0, .int .i64 0, .string ⟨#[]⟩]) K0'.out 0 _ rfl) 1 _ rfl) 2 _ rfl) Tryd.underlying36 rfl (by kernel_rfl)) rfl ?_
  exact ⟨rfl, below_set (below_set (below_set HB2.out (Nat.le_refl _)) (Nat.le_refl _)) (Nat.le_refl _)⟩
theorem value_Read.calls (a0 : ByteArray) (r1 : Int) (r2 : Int) (r3 : ByteArray) (r4 : Int) (w : World) (hLW : LaidW w) (h : value_Read.f a0 = some (r1, r2, r3, r4)) :
    Calls Tryd.prog 18 #[.string a0] w fun e w' => e = .returned (.tuple #[.agg #[.int .i64 r1, .int .i64 r2, .string r3], .int .i64 r4]) ∧ Below w.heap.size w w' := by
  unfold value_Read.f at h
  split at h
  · rename_i hs
    have hR := Option.some.inj h
    have e1 : (readR a0).1 = r1 := by rw [hR]
    have e2 : (readR a0).2.1 = r2 := by rw [hR]
    have e3 : (readR a0).2.2.1 = r3 := by rw [hR]
    have e4 : (readR a0).2.2.2 = r4 := by rw [hR]
    rw [← e1, ← e2, ← e3, ← e4]
    clear e1 e2 e3 e4 hR h
    by_cases h0 : a0.size = 0
    · obtain rfl := ba_zero h0
      rw [readR_empty]
      exact read_empty w hLW
    · cases hp : Lib.hasPrefix a0.data.toList [35] with
      | true => exact read_hash a0 hs w hLW hp h0
      | false =>
        cases hn : Lib.parseIntB 64 a0.data.toList with
        | ok n => exact read_int a0 hs w hLW hp n hn h0
        | «syntax» => exact read_sym a0 hs w hLW hp (fun n h => by rw [hn] at h; cases h) h0
        | range => exact read_sym a0 hs w hLW hp (fun n h => by rw [hn] at h; cases h) h0
  · cases h
end Go.Proofs.YthebhbomlllpeaaDoor.X
namespace Go.Proofs.YthebhbomlllpeaaDoor.X
set_option linter.unusedVariables false
set_option linter.unusedSimpArgs false
open Go.RowKit Go.Proofs.YthebhbomlllpeaaDoorW.PrintWords Go.Proofs.YthebhbomlllpeaaDoorW.PrintLast Go.Proofs.YthebhbomlllpeaaDoorW.PrintMore
theorem nDigits_le : ∀ (d u : Nat), u < 10 ^ (d + 1) → Lib.nDigits u ≤ d + 1
  | 0, u, h => by rw [Lib.nDigits_small (by simpa using h)]; exact Nat.le_refl _
  | d + 1, u, h => by
    by_cases h1 : u < 10
    · rw [Lib.nDigits_small h1]; omega
    · rw [Lib.nDigits_big h1]
      have := nDigits_le d (u / 10) (by rw [Nat.pow_succ] at h; omega)
      omega
theorem nDigits_20 (u : Nat) (h : u ≤ 9223372036854775808) : Lib.nDigits u ≤ 20 := nDigits_le 19 u (Nat.lt_of_le_of_lt h (by decide))
/-- a way to tell numbers at a base of at most 16. -/
structure TellsBase (b : Nat) (l : Nat → List UInt8) : Prop where
  two : 2 ≤ b
  most : b ≤ 16
  one : ∀ u, u < b → l u = [hexc u]
  more : ∀ u, b ≤ u → l u = l (u / b) ++ [hexc (u % b)]
theorem ba_eq {a b : ByteArray} (h : a.data.toList = b.data.toList) : a = b := ByteArray.ext (Array.toList_inj.1 h)
end Go.Proofs.YthebhbomlllpeaaDoor.X
namespace Go.Proofs.YthebhbomlllpeaaDoor.X
set_option linter.unusedVariables false
set_option linter.unusedSimpArgs false
def smallN (c : UInt8) : Bool := decide (97 ≤ c.toNat ∧ c.toNat ≤ 122)
def greatN (c : UInt8) : Bool := decide (65 ≤ c.toNat ∧ c.toNat ≤ 90)
def digitN (c : UInt8) : Bool := decide (48 ≤ c.toNat ∧ c.toNat ≤ 57)
def lowB (c : UInt8) : Bool := smallN c || digitN c || c == 95
def signB (c : UInt8) : Bool := lowB c || greatN c
def blankB (c : UInt8) : Bool := c == 32 || c == 9 || c == 10
/-- the words with a meaning. -/
def keysL : List (List UInt8) := [[110, 111, 116], [105, 115], [112, 108, 117, 115], [109, 105, 110, 117, 115], [116, 105, 109, 101, 115], [119, 97, 108, 107], [99, 111, 117, 110, 116], [115, 117, 109], [109, 105, 110], [109, 97, 120], [109, 101, 97, 110]]
def keyL (s : List UInt8) : Bool := keysL.contains s
/-- how many bytes a text begins with that are so. -/
def runN (p : UInt8 → Bool) : List UInt8 → Nat
  | [] => 0
  | c :: r => if p c then runN p r + 1 else 0
def twoB (s : List UInt8) : Bool := s.take 2 == [60, 61] || s.take 2 == [33, 61] || s.take 2 == [58, 45] || s.take 2 == [63, 45]
def oneB (c : UInt8) : Bool := [40, 41, 44, 46, 60, 61, 47, 124, 42, 43, 63, 94].contains c
def headDigit : List UInt8 → Bool
  | [] => false
  | c :: _ => digitN c
/-- does a text's token begin a value? -/
def valB (c : UInt8) (r : List UInt8) : Bool := c == 35 || digitN c || (c == 45 && headDigit r)
/-- the token that a text begins with: its kind, its length. -/
def nextN (nm vl : List UInt8 → Bool) : List UInt8 → Option (Nat × Nat)
  | [] => none
  | c :: r =>
    if smallN c then (if nm ((c :: r).take (runN lowB (c :: r))) then some (1, runN lowB (c :: r)) else none)
    else if greatN c then (if runN signB (c :: r) ≤ 40 then some (2, runN signB (c :: r)) else none)
    else if valB c r then (if vl ((c :: r).take (1 + runN signB r)) then some (3, 1 + runN signB r) else none)
    else if twoB (c :: r) then some (4, 2)
    else if oneB c then some (4, 1)
    else none
theorem runN_le (p : UInt8 → Bool) : ∀ l, runN p l ≤ l.length
  | [] => Nat.le_refl _
  | c :: r => by
    simp only [runN]
    have := runN_le p r
    split <;> simp <;> omega
theorem runN_take (p : UInt8 → Bool) : ∀ l, runN p (l.take (runN p l)) = runN p l
  | [] => rfl
  | c :: r => by
    simp only [runN]
    split
    · rename_i h
      simp only [List.take_succ_cons, runN, h, if_true, runN_take p r]
    · simp [runN]
theorem next_pos {nm vl : List UInt8 → Bool} {s : List UInt8} {k n : Nat} (h : nextN nm vl s = some (k, n)) : 1 ≤ n ∧ n ≤ s.length ∧ 1 ≤ k ∧ k ≤ 4 := by
  cases s with
  | nil => cases h
  | cons c r =>
    have h1 := runN_le lowB (c :: r)
    have h2 := runN_le signB (c :: r)
    have h3 := runN_le signB r
    simp only [nextN] at h
    split at h
    · rename_i hs
      split at h
      · injection h with h; injection h with e1 e2
        have : lowB c = true := by unfold lowB; simp [hs]
        have : runN lowB (c :: r) = runN lowB r + 1 := by simp only [runN, this, if_true]
        omega
      · cases h
    · split at h
      · rename_i hs
        split at h
        · injection h with h; injection h with e1 e2
          have : signB c = true := by unfold signB; simp [hs]
          have : runN signB (c :: r) = runN signB r + 1 := by simp only [runN, this, if_true]
          omega
        · cases h
      · split at h
        · split at h
          · injection h with h; injection h with e1 e2
            simp only [List.length_cons]
            omega
          · cases h
        · split at h
          · rename_i ht
            injection h with h; injection h with e1 e2
            have : 2 ≤ (c :: r).length := by
              cases r with
              | nil => simp [twoB] at ht
              | cons d r => simp
            omega
          · split at h
            · injection h with h; injection h with e1 e2
              simp only [List.length_cons]
              omega
            · cases h
/-- a text's tokens: each kind, where it begins, its length; or where it is wrong. -/
def tokF (nm vl : List UInt8 → Bool) : Nat → Nat → List UInt8 → Except Nat (List (Nat × Nat × Nat))
  | 0, _, _ => .ok []
  | _ + 1, _, [] => .ok []
  | d + 1, at_, c :: r =>
    if blankB c then tokF nm vl d (at_ + 1) r
    else match nextN nm vl (c :: r) with
      | none => .error at_
      | some (k, n) => match tokF nm vl d (at_ + n) ((c :: r).drop n) with
        | .error i => .error i
        | .ok l => .ok ((k, at_, n) :: l)
def tokN (nm vl : List UInt8 → Bool) (at_ : Nat) (s : List UInt8) : Except Nat (List (Nat × Nat × Nat)) := tokF nm vl s.length at_ s
theorem tokF_fuel (nm vl : List UInt8 → Bool) : ∀ (d d' at_ : Nat) (s : List UInt8), s.length ≤ d → s.length ≤ d' → tokF nm vl d at_ s = tokF nm vl d' at_ s
  | 0, 0, _, _, _, _ => rfl
  | 0, d' + 1, _, [], _, _ => rfl
  | d + 1, 0, _, [], _, _ => rfl
  | d + 1, d' + 1, _, [], _, _ => rfl
  | 0, _, _, _ :: _, h, _ => by simp at h
  | _, 0, _, _ :: _, _, h => by simp at h
  | d + 1, d' + 1, at_, c :: r, h, h' => by
    simp only [List.length_cons] at h h'
    simp only [tokF]
    split
    · exact tokF_fuel nm vl d d' (at_ + 1) r (by omega) (by omega)
    · cases hn : nextN nm vl (c :: r) with
      | none => rfl
      | some x =>
        obtain ⟨k, n⟩ := x
        have hp := next_pos hn
        simp only
        rw [tokF_fuel nm vl d d' (at_ + n) ((c :: r).drop n) (by rw [List.length_drop, List.length_cons]; omega) (by rw [List.length_drop, List.length_cons]; omega)]
theorem tok_nil (nm vl : List UInt8 → Bool) (at_ : Nat) : tokN nm vl at_ [] = .ok [] := rfl
theorem tok_blank (nm vl : List UInt8 → Bool) (at_ : Nat) (c : UInt8) (r : List UInt8) (h : blankB c = true) : tokN nm vl at_ (c :: r) = tokN nm vl (at_ + 1) r := by
  unfold tokN
  rw [List.length_cons]
  simp only [tokF, h, if_true]
theorem tok_wrong (nm vl : List UInt8 → Bool) (at_ : Nat) (c : UInt8) (r : List UInt8) (h : blankB c = false) (hn : nextN nm vl (c :: r) = none) : tokN nm vl at_ (c :: r) = .error at_ := by
  unfold tokN
  rw [List.length_cons]
  simp only [tokF, h, Bool.false_eq_true, if_false, hn]
theorem tok_more (nm vl : List UInt8 → Bool) (at_ : Nat) (c : UInt8) (r : List UInt8) (h : blankB c = false) (k n : Nat) (hn : nextN nm vl (c :: r) = some (k, n)) :
    tokN nm vl at_ (c :: r) = match tokN nm vl (at_ + n) ((c :: r).drop n) with
      | .error i => .error i
      | .ok l => .ok ((k, at_, n) :: l) := by
  have hp := next_pos hn
  unfold tokN
  rw [List.length_cons]
  simp only [tokF, h, Bool.false_eq_true, if_false, hn]
  rw [tokF_fuel nm vl r.length ((c :: r).drop n).length _ _ (by rw [List.length_drop, List.length_cons]; omega) (Nat.le_refl _)]
end Go.Proofs.YthebhbomlllpeaaDoor.X
namespace Go.Proofs.YthebhbomlllpeaaDoor.X
set_option linter.unusedVariables false
set_option linter.unusedSimpArgs false
abbrev VlS := S36
abbrev TmS := S71
abbrev AtS := S74
abbrev StS := S45
abbrev LtS := S115
abbrev RlS := S85
abbrev TK := Int × ByteArray
abbrev Prs (α : Type) := List TK → Except (Nat × Int) (α × List TK)
/-- one behind the other. -/
def bnd {α β : Type} (p : Except (Nat × Int) (α × List TK)) (f : α → List TK → Except (Nat × Int) β) : Except (Nat × Int) β :=
  match p with
  | .error e => .error e
  | .ok x => f x.1 x.2
end Go.Proofs.YthebhbomlllpeaaDoor.X
namespace Go.Proofs.YthebhbomlllpeaaDoor.X
set_option linter.unusedVariables false
set_option linter.unusedSimpArgs false
/-- it reads m tokens at least; but for the token behind what was read nothing else counts. -/
def Loc {α : Type} (m : Nat) (p : Prs α) : Prop := ∀ l x r, p l = .ok (x, r) → ∃ u, l = u ++ r ∧ m ≤ u.length ∧ ∀ r', r'.head? = r.head? → p (u ++ r') = .ok (x, r')
theorem head_app {α : Type} (u : List α) {r r' : List α} (h : r'.head? = r.head?) : (u ++ r').head? = (u ++ r).head? := by
  cases u with
  | nil => exact h
  | cons t u => rfl
theorem bnd_ok {α β : Type} {p : Except (Nat × Int) (α × List TK)} {f : α → List TK → Except (Nat × Int) β} {y : β} (h : bnd p f = .ok y) : ∃ x r, p = .ok (x, r) ∧ f x r = .ok y := by
  cases p with
  | error e => cases h
  | ok q => exact ⟨q.1, q.2, rfl, h⟩
theorem bnd_of {α β : Type} {p : Except (Nat × Int) (α × List TK)} {f : α → List TK → Except (Nat × Int) β} {x : α} {r : List TK} (h : p = .ok (x, r)) : bnd p f = f x r := by rw [h]; rfl
/-- one behind the other. -/
theorem Loc.bind {α β : Type} {m n : Nat} {p : Prs α} {f : α → Prs β} (hp : Loc m p) (hf : ∀ x, Loc n (f x)) : Loc (m + n) (fun l => bnd (p l) f) := fun l y r h => by
  obtain ⟨x, r1, h1, h2⟩ := bnd_ok h
  obtain ⟨u, e, hm, hu⟩ := hp l x r1 h1
  obtain ⟨v, e', hn, hv⟩ := hf x r1 y r h2
  refine ⟨u ++ v, by rw [e, e', List.append_assoc], by rw [List.length_append]; omega, fun r' hr => ?_⟩
  have := hu (v ++ r') (by rw [e']; exact head_app v hr)
  simp only
  rw [List.append_assoc, bnd_of this]
  exact hv r' hr
theorem Loc.pure {α : Type} (x : α) : Loc 0 (fun l => .ok (x, l)) := fun l y r h => by
  injection h with h; injection h with e1 e2
  subst e1; subst e2
  exact ⟨[], rfl, Nat.le_refl _, fun r' _ => rfl⟩
/-- a token that is there is stepped over. -/
theorem Loc.skip {α : Type} {m : Nat} {p : Prs α} (b : List TK → Bool) (hb : ∀ l l', l'.head? = l.head? → b l' = b l) (h0 : b [] = false) {q : Prs α} (hp : Loc m p) (hq : Loc (m + 1) q) : Loc (m + 1) (fun l => if b l then p (l.drop 1) else q l) := fun l x r h => by
  simp only at h
  split at h
  · rename_i hc
    cases l with
    | nil => rw [h0] at hc; cases hc
    | cons t l =>
      obtain ⟨u, e, hm, hu⟩ := hp _ x r h
      refine ⟨t :: u, by rw [List.cons_append, ← e]; rfl, by simp; omega, fun r' hr => ?_⟩
      simp only
      rw [hb (t :: l) (t :: u ++ r') rfl, if_pos hc]
      exact hu r' hr
  · rename_i hc
    obtain ⟨u, e, hm, hu⟩ := hq l x r h
    refine ⟨u, e, hm, fun r' hr => ?_⟩
    simp only
    rw [hb l (u ++ r') (by rw [e]; exact head_app u hr), if_neg hc]
    exact hu r' hr
theorem loc_drop1 {α : Type} {m : Nat} {p : Prs α} (hp : Loc m p) {l : List TK} (hl : l ≠ []) {x : α} {r : List TK} (h : p (l.drop 1) = .ok (x, r)) : ∃ t u, l = t :: u ++ r ∧ m ≤ u.length ∧ ∀ r', r'.head? = r.head? → p ((t :: u ++ r').drop 1) = .ok (x, r') := by
  cases l with
  | nil => exact absurd rfl hl
  | cons t l =>
    obtain ⟨u, e, hm, hu⟩ := hp _ _ _ h
    exact ⟨t, u, by rw [List.cons_append, ← e]; rfl, hm, hu⟩
/-- a token is stepped over, whatever it is; it is there. -/
theorem Loc.step {α : Type} {m : Nat} {p : Prs α} (hp : Loc m p) {l : List TK} {x : α} {r : List TK} (hl : l ≠ []) (h : p (l.drop 1) = .ok (x, r)) : ∃ u, l = u ++ r ∧ m + 1 ≤ u.length ∧ ∀ r', r'.head? = r.head? → p ((u ++ r').drop 1) = .ok (x, r') ∧ (u ++ r').head? = l.head? ∧ u ++ r' ≠ [] := by
  obtain ⟨t, u, e, hm, hu⟩ := loc_drop1 hp hl h
  refine ⟨t :: u, e, by simp; omega, fun r' hr => ⟨hu r' hr, by rw [e]; rfl, by simp⟩⟩
end Go.Proofs.YthebhbomlllpeaaDoor.X
namespace Go.Proofs.YthebhbomlllpeaaDoor.X
set_option linter.unusedVariables false
set_option linter.unusedSimpArgs false
/-- what a parser gives, where each token is so. -/
def Gives {α : Type} (Q : TK → Prop) (P : α → Prop) (p : Prs α) : Prop := ∀ l x r, (∀ t ∈ l, Q t) → p l = .ok (x, r) → P x ∧ ∀ t ∈ r, Q t
theorem Gives.rest {α : Type} {Q : TK → Prop} {m : Nat} {p : Prs α} (h : Loc m p) {l : List TK} {x : α} {r : List TK} (hl : ∀ t ∈ l, Q t) (hp : p l = .ok (x, r)) : ∀ t ∈ r, Q t := by
  obtain ⟨u, e, _, _⟩ := h l x r hp
  subst e
  exact fun t ht => hl t (List.mem_append_right _ ht)
def deep1 (om : Nat × Nat) (s : List UInt8) : Nat × Nat :=
  let o := if s = [40] then om.1 + 1 else if s = [41] then om.1 - 1 else om.1
  (o, max om.2 o)
def deepF (om : Nat × Nat) (l : List (List UInt8)) : Nat × Nat := l.foldl deep1 om
/-- so many ( are open at most, and then as many as at first. -/
def Deep (d : Nat) (u : List (List UInt8)) : Prop := ∀ o m, o ≤ m → ∃ m', deepF (o, m) u = (o, m') ∧ m ≤ m' ∧ m' ≤ max m (o + d)
theorem deepF_app (om : Nat × Nat) (a b : List (List UInt8)) : deepF om (a ++ b) = deepF (deepF om a) b := List.foldl_append
theorem Deep.nil (d : Nat) : Deep d [] := fun o m h => ⟨m, rfl, Nat.le_refl _, by omega⟩
theorem Deep.one {s : List UInt8} (d : Nat) (h1 : s ≠ [40]) (h2 : s ≠ [41]) : Deep d [s] := fun o m h => ⟨m, by simp only [deepF, List.foldl_cons, List.foldl_nil, deep1, if_neg h1, if_neg h2]; rw [Nat.max_eq_left h], Nat.le_refl _, by omega⟩
theorem Deep.round {d : Nat} {a : List (List UInt8)} (ha : Deep d a) : Deep (d + 1) ([40] :: a ++ [[41]]) := fun o m h => by
  obtain ⟨m1, e1, h1, h2⟩ := ha (o + 1) (max m (o + 1)) (by omega)
  refine ⟨m1, ?_, by omega, by omega⟩
  have e2 : deepF (o, m) ([40] :: a ++ [[41]]) = deepF (deepF (o + 1, max m (o + 1)) a) [[41]] := by
    rw [List.cons_append, ← deepF_app]
    rfl
  rw [e2, e1]
  simp only [deepF, List.foldl_cons, List.foldl_nil, deep1]
  rw [if_neg (by decide)]
  simp only [if_true, Nat.add_sub_cancel]
  rw [Nat.max_eq_left (by omega)]
def txts (l : List TK) : List (List UInt8) := l.map fun t => t.2.data.toList
end Go.Proofs.YthebhbomlllpeaaDoor.X
namespace Go.Proofs.YthebhbomlllpeaaDoor.X
set_option linter.unusedVariables false
set_option linter.unusedSimpArgs false
/-- what is told of a text's tokens: each is what its place begins with; between them there are blanks alone. -/
def covT (nm vl : List UInt8 → Bool) (full : List UInt8) : Nat → List (Nat × Nat × Nat) → Prop
  | a, [] => ∀ i (h : i < full.length), a ≤ i → blankB full[i] = true
  | a, x :: l => a ≤ x.2.1 ∧ 1 ≤ x.2.2 ∧ x.2.1 + x.2.2 ≤ full.length ∧ 1 ≤ x.1 ∧ x.1 ≤ 4 ∧ nextN nm vl (full.drop x.2.1) = some (x.1, x.2.2) ∧ (∀ i (h : i < full.length), a ≤ i → i < x.2.1 → blankB full[i] = true) ∧ covT nm vl full (x.2.1 + x.2.2) l
theorem cov_back {nm vl : List UInt8 → Bool} {full : List UInt8} {a : Nat} {l : List (Nat × Nat × Nat)} (ha : ∀ h : a < full.length, blankB full[a] = true) (h : covT nm vl full (a + 1) l) : covT nm vl full a l := by
  cases l with
  | nil =>
    intro i hi hai
    by_cases e : a = i
    · subst e; exact ha hi
    · exact h i hi (by omega)
  | cons x l =>
    obtain ⟨h1, h2, h3, h4, h5, h6, h7, h8⟩ := h
    refine ⟨by omega, h2, h3, h4, h5, h6, ?_, h8⟩
    intro i hi hai hix
    by_cases e : a = i
    · subst e; exact ha hi
    · exact h7 i hi (by omega) hix
theorem tok_cov (nm vl : List UInt8 → Bool) (full : List UInt8) : ∀ (d a : Nat) (l : List (Nat × Nat × Nat)), (full.drop a).length ≤ d → tokN nm vl a (full.drop a) = .ok l → covT nm vl full a l := by
  intro d
  induction d with
  | zero =>
    intro a l h ht
    have hn : full.drop a = [] := List.length_eq_zero_iff.1 (by omega)
    rw [hn, tok_nil] at ht
    injection ht with ht
    subst ht
    intro i hi hai
    rw [List.length_drop] at h
    omega
  | succ d ih =>
    intro a l h ht
    by_cases hl : a < full.length
    · have hd : full.drop a = full[a] :: full.drop (a + 1) := List.drop_eq_getElem_cons hl
      cases hb : blankB full[a] with
      | true =>
        rw [hd, tok_blank nm vl a _ _ hb] at ht
        exact cov_back (fun _ => hb) (ih (a + 1) l (by rw [List.length_drop] at h ⊢; omega) ht)
      | false =>
        cases hm : nextN nm vl (full[a] :: full.drop (a + 1)) with
        | none => rw [hd, tok_wrong nm vl a _ _ hb hm] at ht; cases ht
        | some y =>
          obtain ⟨k, n⟩ := y
          have hp := next_pos hm
          rw [hd, tok_more nm vl a _ _ hb k n hm, ← hd, List.drop_drop] at ht
          cases hr : tokN nm vl (a + n) (full.drop (a + n)) with
          | error i => rw [hr] at ht; cases ht
          | ok m =>
            rw [hr] at ht
            injection ht with ht
            subst ht
            rw [← hd] at hp hm
            rw [List.length_drop] at hp h
            exact ⟨Nat.le_refl _, hp.1, by show a + n ≤ full.length; omega, hp.2.2.1, hp.2.2.2, hm, fun i hi h1 h2 => absurd h2 (Nat.not_lt.2 h1), ih (a + n) m (by rw [List.length_drop]; omega) hr⟩
    · have hn : full.drop a = [] := List.drop_eq_nil_of_le (by omega)
      rw [hn, tok_nil] at ht
      injection ht with ht
      subst ht
      intro i hi hai
      omega
/-- no more tokens than bytes. -/
theorem tok_count (nm vl : List UInt8 → Bool) : ∀ (d : Nat) (s : List UInt8) (a : Nat) (l : List (Nat × Nat × Nat)), s.length ≤ d → tokN nm vl a s = .ok l → l.length ≤ s.length := by
  intro d
  induction d with
  | zero =>
    intro s a l h ht
    obtain rfl : s = [] := List.length_eq_zero_iff.1 (by omega)
    rw [tok_nil] at ht
    injection ht with ht
    subst ht
    exact Nat.le_refl _
  | succ d ih =>
    intro s a l h ht
    cases s with
    | nil => rw [tok_nil] at ht; injection ht with ht; subst ht; exact Nat.le_refl _
    | cons c r =>
      simp only [List.length_cons] at h ⊢
      cases hb : blankB c with
      | true =>
        rw [tok_blank nm vl a c r hb] at ht
        have := ih r (a + 1) l (by omega) ht
        omega
      | false =>
        cases hm : nextN nm vl (c :: r) with
        | none => rw [tok_wrong nm vl a c r hb hm] at ht; cases ht
        | some y =>
          obtain ⟨k, n⟩ := y
          have hp := next_pos hm
          rw [tok_more nm vl a c r hb k n hm] at ht
          cases hr : tokN nm vl (a + n) ((c :: r).drop n) with
          | error j => rw [hr] at ht; cases ht
          | ok m =>
            rw [hr] at ht
            injection ht with ht
            subst ht
            have := ih _ _ _ (by rw [List.length_drop, List.length_cons]; omega) hr
            simp only [List.length_drop, List.length_cons] at this hp ⊢
            omega
theorem next_word {nm vl : List UInt8 → Bool} {c : UInt8} {r : List UInt8} {n : Nat} (h : nextN nm vl (c :: r) = some (1, n)) : smallN c = true ∧ runN lowB (c :: r) = n ∧ nm ((c :: r).take n) = true := by
  simp only [nextN] at h
  split at h
  · rename_i hs
    split at h
    · rename_i hn
      injection h with h; injection h with e1 e2
      rw [e2] at hn
      exact ⟨hs, e2, hn⟩
    · cases h
  · split at h
    · split at h <;> cases h
    · split at h
      · split at h <;> cases h
      · split at h
        · cases h
        · split at h <;> cases h
theorem great_sign {c : UInt8} (h : greatN c = true) : signB c = true := by unfold signB; rw [h]; simp
end Go.Proofs.YthebhbomlllpeaaDoor.X
namespace Go.Proofs.YthebhbomlllpeaaDoor.X
set_option linter.unusedVariables false
set_option linter.unusedSimpArgs false
open Go.RowKit Go.Proofs.YthebhbomlllpeaaDoorW.PrintWords Go.Proofs.YthebhbomlllpeaaDoorW.PrintLast Go.Proofs.YthebhbomlllpeaaDoorW.PrintMore
/-- is a text a name? -/
def nmL (l : List UInt8) : Bool := nameB ⟨l.toArray⟩
/-- is a text a value's? -/
def vlL (l : List UInt8) : Bool := (readR ⟨l.toArray⟩).2.2.2 == 0
end Go.Proofs.YthebhbomlllpeaaDoor.X
namespace Go.Proofs.YthebhbomlllpeaaDoor.X
set_option linter.unusedVariables false
set_option linter.unusedSimpArgs false
open Go.RowKit Go.Proofs.YthebhbomlllpeaaDoorW.PrintWords Go.Proofs.YthebhbomlllpeaaDoorW.PrintLast Go.Proofs.YthebhbomlllpeaaDoorW.PrintMore
theorem lex_small_eq (c : UInt8) : lex_small.f (c.toNat : Int) = some (smallN c) := by
  unfold lex_small.f smallN
  by_cases h : (c.toNat : Int) ≥ 97
  · rw [if_pos h]; congr 1; rw [Bool.eq_iff_iff]; simp only [decide_eq_true_eq]; omega
  · rw [if_neg h]; congr 1; symm; rw [decide_eq_false_iff_not]; omega
theorem lex_great_eq (c : UInt8) : lex_great.f (c.toNat : Int) = some (greatN c) := by
  unfold lex_great.f greatN
  by_cases h : (c.toNat : Int) ≥ 65
  · rw [if_pos h]; congr 1; rw [Bool.eq_iff_iff]; simp only [decide_eq_true_eq]; omega
  · rw [if_neg h]; congr 1; symm; rw [decide_eq_false_iff_not]; omega
theorem lex_digit_eq (c : UInt8) : lex_digit.f (c.toNat : Int) = some (digitN c) := by
  unfold lex_digit.f digitN
  by_cases h : (c.toNat : Int) ≥ 48
  · rw [if_pos h]; congr 1; rw [Bool.eq_iff_iff]; simp only [decide_eq_true_eq]; omega
  · rw [if_neg h]; congr 1; symm; rw [decide_eq_false_iff_not]; omega
theorem u8_eq_nat (c : UInt8) (n : Nat) (hn : n < 256) : ((c.toNat : Int) == (n : Int)) = (c == UInt8.ofNat n) := by
  rw [Bool.eq_iff_iff, beq_iff_eq, beq_iff_eq]
  constructor
  · intro h
    apply UInt8.toNat_inj.1
    rw [UInt8.toNat_ofNat']
    omega
  · intro h
    rw [h, UInt8.toNat_ofNat']
    omega
theorem lex_low_eq (c : UInt8) : lex_low.f (c.toNat : Int) = some (lowB c) := by
  unfold lex_low.f lowB
  rw [lex_small_eq, lex_digit_eq]
  simp only [Option.bind_some]
  have h95 : ((c.toNat : Int) == 95) = (c == 95) := u8_eq_nat c 95 (by omega)
  rw [h95]
  cases smallN c <;> cases digitN c <;> simp
theorem lex_sign_eq (c : UInt8) : lex_sign.f (c.toNat : Int) = some (signB c) := by
  unfold lex_sign.f signB
  rw [lex_low_eq, lex_great_eq]
  simp only [Option.bind_some]
  cases lowB c <;> simp
theorem ret_nat {a b : Nat} (h : a = b) : Ending.returned (.int .i64 (a : Int)) = .returned (.int .i64 (b : Int)) := by rw [h]
theorem runN_step (p : UInt8 → Bool) (l : List UInt8) (j : Nat) (hj : j < l.length) : runN p (l.drop j) = if p l[j] then runN p (l.drop (j + 1)) + 1 else 0 := by
  rw [List.drop_eq_getElem_cons hj]; rfl
theorem runN_end (p : UInt8 → Bool) (l : List UInt8) (j : Nat) (hj : l.length ≤ j) : runN p (l.drop j) = 0 := by
  rw [List.drop_eq_nil_of_le hj]; rfl
theorem getElem_data (s : ByteArray) (j : Nat) (h : j < s.size) (h' : j < s.data.toList.length) : s.data.toList[j] = s[j] := by
  rw [Array.getElem_toList]; rfl
set_option maxHeartbeats 1600000 in
set_option maxRecDepth 100000 in
theorem run_low (s : ByteArray) (hs : s.size ≤ 140737488355328) (w : World) :
    Calls Tryd.prog 29 #[.string s, .func (.func 51) #[] #[]] w fun e w' => e = .returned (.int .i64 (runN lowB s.data.toList : Nat)) ∧ Drawn0 w w' := by
  go_enter Tryd.func29, Tryd.ntmps29
  go_wp2
  go_loopg [5] s.size (fun gg s5 wr => ∃ j m : Nat, j ≤ s.size ∧ s.size - j ≤ gg ∧ s5 = .int .i64 j ∧ wr = w.drewN m ∧ Aside0 (j + runN lowB (s.data.toList.drop j) = runN lowB s.data.toList))
  case atStart => exact ⟨0, 0, Nat.zero_le _, by omega, rfl, (World.drewN_zero w).symm, ⟨by simp⟩⟩
  case round =>
    obtain ⟨j, m, hj, hg, rfl, rfl, HA⟩ := hrel
    by_cases hlt : j < s.size
    · have hltz : decide ((j : Int) < (s.size : Int)) = true := decide_eq_true (by omega)
      have hst := runN_step lowB s.data.toList j (by rw [data_length]; exact hlt)
      rw [getElem_data s j hlt] at hst
      have HST := Aside0.mk hst
      have HC := Aside0.mk (fun W => lex_low.calls (s[j].toNat : Int) (lowB s[j]) W (lex_low_eq s[j]))
      clear hst
      cases hp : lowB s[j] with
      | true =>
        have HP := Aside0.mk hp
        rw [hp] at HC
        clear hp
        go_wp2_with (go_at_call 51; refine (HC.out _).mono ?_; rintro e w' ⟨rfl, ⟨nd, rfl⟩⟩)
        go_roundg (s.size - (j + 1))
        case measure => omega
        case rel => exact ⟨j + 1, m + nd, by omega, by omega, by go_num, rfl, ⟨by have := HA.out; rw [HST.out, HP.out] at this; simp only [if_true] at this; omega⟩⟩
      | false =>
        have HP := Aside0.mk hp
        rw [hp] at HC
        clear hp
        go_wp2_with (go_at_call 51; refine (HC.out _).mono ?_; rintro e w' ⟨rfl, ⟨nd, rfl⟩⟩)
        go_ret
        exact ⟨ret_nat (by have := HA.out; rw [HST.out, HP.out] at this; simp only [Bool.false_eq_true, if_false, Nat.add_zero] at this; exact this), ⟨_, rfl⟩⟩
    · have hltz : decide ((j : Int) < (s.size : Int)) = false := decide_eq_false (by omega)
      have he := runN_end lowB s.data.toList j (by rw [data_length]; omega)
      have HE := Aside0.mk he
      clear he
      go_wp2
      go_ret
      exact ⟨ret_nat (by have := HA.out; rw [HE.out, Nat.add_zero] at this; exact this), ⟨_, rfl⟩⟩
set_option maxHeartbeats 1600000 in
set_option maxRecDepth 100000 in
theorem run_sign (s : ByteArray) (hs : s.size ≤ 140737488355328) (w : World) :
    Calls Tryd.prog 29 #[.string s, .func (.func 30) #[] #[]] w fun e w' => e = .returned (.int .i64 (runN signB s.data.toList : Nat)) ∧ Drawn0 w w' := by
  go_enter Tryd.func29, Tryd.ntmps29
  go_wp2
  go_loopg [5] s.size (fun gg s5 wr => ∃ j m : Nat, j ≤ s.size ∧ s.size - j ≤ gg ∧ s5 = .int .i64 j ∧ wr = w.drewN m ∧ Aside0 (j + runN signB (s.data.toList.drop j) = runN signB s.data.toList))
  case atStart => exact ⟨0, 0, Nat.zero_le _, by omega, rfl, (World.drewN_zero w).symm, ⟨by simp⟩⟩
  case round =>
    obtain ⟨j, m, hj, hg, rfl, rfl, HA⟩ := hrel
    by_cases hlt : j < s.size
    · have hltz : decide ((j : Int) < (s.size : Int)) = true := decide_eq_true (by omega)
      have hst := runN_step signB s.data.toList j (by rw [data_length]; exact hlt)
      rw [getElem_data s j hlt] at hst
      have HST := Aside0.mk hst
      have HC := Aside0.mk (fun W => lex_sign.calls (s[j].toNat : Int) (signB s[j]) W (lex_sign_eq s[j]))
      clear hst
      cases hp : signB s[j] with
      | true =>
        have HP := Aside0.mk hp
        rw [hp] at HC
        clear hp
        go_wp2_with (go_at_call 30; refine (HC.out _).mono ?_; rintro e w' ⟨rfl, ⟨nd, rfl⟩⟩)
        go_roundg (s.size - (j + 1))
        case measure => omega
        case rel => exact ⟨j + 1, m + nd, by omega, by omega, by go_num, rfl, ⟨by have := HA.out; rw [HST.out, HP.out] at this; simp only [if_true] at this; omega⟩⟩
      | false =>
        have HP := Aside0.mk hp
        rw [hp] at HC
        clear hp
        go_wp2_with (go_at_call 30; refine (HC.out _).mono ?_; rintro e w' ⟨rfl, ⟨nd, rfl⟩⟩)
        go_ret
        exact ⟨ret_nat (by have := HA.out; rw [HST.out, HP.out] at this; simp only [Bool.false_eq_true, if_false, Nat.add_zero] at this; exact this), ⟨_, rfl⟩⟩
    · have hltz : decide ((j : Int) < (s.size : Int)) = false := decide_eq_false (by omega)
      have he := runN_end signB s.data.toList j (by rw [data_length]; omega)
      have HE := Aside0.mk he
      clear he
      go_wp2
      go_ret
      exact ⟨ret_nat (by have := HA.out; rw [HE.out, Nat.add_zero] at this; exact this), ⟨_, rfl⟩⟩
end Go.Proofs.YthebhbomlllpeaaDoor.X
namespace Go.Proofs.YthebhbomlllpeaaDoor.X
open Go.RowKit Go.Proofs.YthebhbomlllpeaaDoorW.PrintWords Go.Proofs.YthebhbomlllpeaaDoorW.PrintLast Go.Proofs.YthebhbomlllpeaaDoorW.PrintMore
attribute [local go_sem] max2_int min2_int max_two min_two max_three min_three max_four min_four
set_option linter.unusedVariables false
set_option linter.unusedSimpArgs false
def show_label.f (k : Nat) (a0_0 : Int) (a0_1 : ByteArray) : Option (ByteArray) := (show_predicate.f k a0_1).bind fun t114 => (if t114 = true then (if a0_0 = 2 then (if 1 + a0_1.size ≤ 9223372036854775807 then (some ((⟨#[94]⟩ : ByteArray) ++ a0_1)) else (none)) else (if a0_0 = 1 then (some a0_1) else (some (⟨#[]⟩ : ByteArray)))) else (some (⟨#[]⟩ : ByteArray)))
set_option maxHeartbeats 8000000 in
set_option maxRecDepth 100000 in
theorem show_label.calls (k : Nat) (a0_0 : Int) (a0_1 : ByteArray) (r : ByteArray) (w : World) (h : show_label.f k a0_0 a0_1 = some r) :
    Calls Tryd.prog 46 #[.agg #[.int .i64 a0_0, .string a0_1]] w fun e w' => e = .returned (.string r) ∧ Below w.heap.size w w' := by
  have hu45 := Tryd.underlying45
  have HB := Aside0.mk (Below.refl w.heap.size w)
  have H : ((show_predicate.f k a0_1).bind fun t114 => (if t114 = true then (if a0_0 = 2 then (if 1 + a0_1.size ≤ 9223372036854775807 then (some ((⟨#[94]⟩ : ByteArray) ++ a0_1)) else (none)) else (if a0_0 = 1 then (some a0_1) else (some (⟨#[]⟩ : ByteArray)))) else (some (⟨#[]⟩ : ByteArray)))) = some r := h
  clear h
  replace H := Option.bind_eq_some_iff.mp H
  obtain ⟨t114, A20, H⟩ := H
  replace H : (if t114 = true then (if a0_0 = 2 then (if 1 + a0_1.size ≤ 9223372036854775807 then (some ((⟨#[94]⟩ : ByteArray) ++ a0_1)) else (none)) else (if a0_0 = 1 then (some a0_1) else (some (⟨#[]⟩ : ByteArray)))) else (some (⟨#[]⟩ : ByteArray))) = some r := H
  have A2 := Aside0.mk A20
  clear A20
  by_cases c3 : t114 = true
  · subst c3
    have H1 : (if a0_0 = 2 then (if 1 + a0_1.size ≤ 9223372036854775807 then (some ((⟨#[94]⟩ : ByteArray) ++ a0_1)) else (none)) else (if a0_0 = 1 then (some a0_1) else (some (⟨#[]⟩ : ByteArray)))) = some r := by rw [if_pos rfl] at H; exact H
    clear H
    have H := H1
    clear H1
    by_cases c4 : a0_0 = 2
    · rw [if_pos c4] at H
      have c4b0 : (a0_0 == 2) = true := beq_iff_eq.mpr c4
      have c4b1 : (a0_0 != 2) = false := bne_eq_false_iff_eq.mpr c4
      clear c4
      by_cases c5 : 1 + a0_1.size ≤ 9223372036854775807
      · rw [if_pos c5] at H
        have c5b0 := eq_true c5
        have c5b1 : decide (1 + a0_1.size ≤ 9223372036854775807) = true := decide_eq_true c5
        try have c5b2 : (9223372036854775807 < 1 + a0_1.size) = False := eq_false (Nat.not_lt.2 c5)
        obtain rfl := Option.some.inj H
        go_enter Tryd.func46, Tryd.ntmps46
        go_wp2_with (first | ((with_reducible refine gate_dst (N := 1) rfl ?_); refine box_event ?hg (N := 1) ?hd (cs := #[.int .i64 a0_0, .string a0_1]) (t := 45) ?hr ?_; (case hd => rfl); (case hg => rfl); (case hr => first | (go_simp; done) | (go_simp; rfl)); intro gb113 hg w6 hbox hb; have n0_ := Aside0.mk (below_step (by repeat (first | (with_reducible first | exact HB.out | apply below_alloc | apply pw_below_drewN | apply below_drew1) | exact HB.out)) hb); have n1_ := Aside0.mk (hbox); have n2_ := Aside0.mk ((by rw [hg]; exact (below_size (by repeat (first | (with_reducible first | exact HB.out | apply below_alloc | apply pw_below_drewN | apply below_drew1) | exact HB.out))) : w.heap.size ≤ gb113)); have n3_ := Aside0.mk ((by rw [hg]; exact (below_size (by repeat (first | (with_reducible first | exact HB.out | apply below_alloc | apply pw_below_drewN | apply below_drew1) | exact HB.out))) : w.heap.size ≤ gb113)); clear HB; have HB := n0_; have BK113 := n1_; have GW113 := n2_; have GE113 := n3_; clear n0_ n1_ n2_ n3_; clear hb hbox hg; have hcz7_0 : w6.cell? ⟨gb113, 0, none⟩ = some (.int .i64 a0_0) := (blk_cell BK113.out 0).trans rfl; have hcz7_1 : w6.cell? ⟨gb113, 1, none⟩ = some (.string a0_1) := (blk_cell BK113.out 1).trans rfl; have hfz7_0 := blk_frozen BK113.out 0; have hfz7_1 := blk_frozen BK113.out 1) | ((with_reducible refine gate_callee (f := 74) rfl ?_); refine goesL_ (some 6) rfl rfl Tryd.func74 (by kernel_rfl) rfl #[.string a0_1] rfl (by (try simp only [List.map_toArray, List.map_cons, List.map_nil]); first | done | rfl | (simp only [List.length_drop, List.length_take]; rfl)) ?_; (with_reducible refine (show_predicate.calls k a0_1 true _ A2.out).mono ?_); rintro e w' ⟨rfl, ⟨nd, rfl⟩⟩; refine ⟨_, rfl, ?_⟩))
        go_ret
        exact ⟨by first | rfl | (simp [errW_none, errW_some] <;> rfl) | (simp [*, errW_none, errW_some] <;> rfl), by repeat (first | (with_reducible first | exact HB.out | apply below_alloc | apply pw_below_drewN | apply below_drew1 | refine below_set ?_ GE113.out) | exact HB.out)⟩
      · rw [if_neg c5] at H
        exact absurd H (by simp)
    · rw [if_neg c4] at H
      have c4b0 : (a0_0 == 2) = false := beq_eq_false_iff_ne.mpr c4
      have c4b1 : (a0_0 != 2) = true := bne_iff_ne.mpr c4
      by_cases c8 : a0_0 = 1
      · rw [if_pos c8] at H
        have c8b0 : (a0_0 == 1) = true := beq_iff_eq.mpr c8
        have c8b1 : (a0_0 != 1) = false := bne_eq_false_iff_eq.mpr c8
        clear c8
        obtain rfl := Option.some.inj H
        go_enter Tryd.func46, Tryd.ntmps46
        go_wp2_with (first | ((with_reducible refine gate_dst (N := 1) rfl ?_); refine box_event ?hg (N := 1) ?hd (cs := #[.int .i64 a0_0, .string a0_1]) (t := 45) ?hr ?_; (case hd => rfl); (case hg => rfl); (case hr => first | (go_simp; done) | (go_simp; rfl)); intro gb113 hg w9 hbox hb; have n0_ := Aside0.mk (below_step (by repeat (first | (with_reducible first | exact HB.out | apply below_alloc | apply pw_below_drewN | apply below_drew1) | exact HB.out)) hb); have n1_ := Aside0.mk (hbox); have n2_ := Aside0.mk ((by rw [hg]; exact (below_size (by repeat (first | (with_reducible first | exact HB.out | apply below_alloc | apply pw_below_drewN | apply below_drew1) | exact HB.out))) : w.heap.size ≤ gb113)); have n3_ := Aside0.mk ((by rw [hg]; exact (below_size (by repeat (first | (with_reducible first | exact HB.out | apply below_alloc | apply pw_below_drewN | apply below_drew1) | exact HB.out))) : w.heap.size ≤ gb113)); clear HB; have HB := n0_; have BK113 := n1_; have GW113 := n2_; have GE113 := n3_; clear n0_ n1_ n2_ n3_; clear hb hbox hg; have hcz10_0 : w9.cell? ⟨gb113, 0, none⟩ = some (.int .i64 a0_0) := (blk_cell BK113.out 0).trans rfl; have hcz10_1 : w9.cell? ⟨gb113, 1, none⟩ = some (.string a0_1) := (blk_cell BK113.out 1).trans rfl; have hfz10_0 := blk_frozen BK113.out 0; have hfz10_1 := blk_frozen BK113.out 1) | ((with_reducible refine gate_callee (f := 74) rfl ?_); refine goesL_ (some 6) rfl rfl Tryd.func74 (by kernel_rfl) rfl #[.string a0_1] rfl (by (try simp only [List.map_toArray, List.map_cons, List.map_nil]); first | done | rfl | (simp only [List.length_drop, List.length_take]; rfl)) ?_; (with_reducible refine (show_predicate.calls k a0_1 true _ A2.out).mono ?_); rintro e w' ⟨rfl, ⟨nd, rfl⟩⟩; refine ⟨_, rfl, ?_⟩))
        go_ret
        exact ⟨by first | rfl | (simp [errW_none, errW_some] <;> rfl) | (simp [*, errW_none, errW_some] <;> rfl), by repeat (first | (with_reducible first | exact HB.out | apply below_alloc | apply pw_below_drewN | apply below_drew1 | refine below_set ?_ GE113.out) | exact HB.out)⟩
      · rw [if_neg c8] at H
        have c8b0 : (a0_0 == 1) = false := beq_eq_false_iff_ne.mpr c8
        have c8b1 : (a0_0 != 1) = true := bne_iff_ne.mpr c8
        obtain rfl := Option.some.inj H
        go_enter Tryd.func46, Tryd.ntmps46
        go_wp2_with (first | ((with_reducible refine gate_dst (N := 1) rfl ?_); refine box_event ?hg (N := 1) ?hd (cs := #[.int .i64 a0_0, .string a0_1]) (t := 45) ?hr ?_; (case hd => rfl); (case hg => rfl); (case hr => first | (go_simp; done) | (go_simp; rfl)); intro gb113 hg w11 hbox hb; have n0_ := Aside0.mk (below_step (by repeat (first | (with_reducible first | exact HB.out | apply below_alloc | apply pw_below_drewN | apply below_drew1) | exact HB.out)) hb); have n1_ := Aside0.mk (hbox); have n2_ := Aside0.mk ((by rw [hg]; exact (below_size (by repeat (first | (with_reducible first | exact HB.out | apply below_alloc | apply pw_below_drewN | apply below_drew1) | exact HB.out))) : w.heap.size ≤ gb113)); have n3_ := Aside0.mk ((by rw [hg]; exact (below_size (by repeat (first | (with_reducible first | exact HB.out | apply below_alloc | apply pw_below_drewN | apply below_drew1) | exact HB.out))) : w.heap.size ≤ gb113)); clear HB; have HB := n0_; have BK113 := n1_; have GW113 := n2_; have GE113 := n3_; clear n0_ n1_ n2_ n3_; clear hb hbox hg; have hcz12_0 : w11.cell? ⟨gb113, 0, none⟩ = some (.int .i64 a0_0) := (blk_cell BK113.out 0).trans rfl; have hcz12_1 : w11.cell? ⟨gb113, 1, none⟩ = some (.string a0_1) := (blk_cell BK113.out 1).trans rfl; have hfz12_0 := blk_frozen BK113.out 0; have hfz12_1 := blk_frozen BK113.out 1) | ((with_reducible refine gate_callee (f := 74) rfl ?_); refine goesL_ (some 6) rfl rfl Tryd.func74 (by kernel_rfl) rfl #[.string a0_1] rfl (by (try simp only [List.map_toArray, List.map_cons, List.map_nil]); first | done | rfl | (simp only [List.length_drop, List.length_take]; rfl)) ?_; (with_reducible refine (show_predicate.calls k a0_1 true _ A2.out).mono ?_); rintro e w' ⟨rfl, ⟨nd, rfl⟩⟩; refine ⟨_, rfl, ?_⟩))
        go_ret
        exact ⟨by first | rfl | (simp [errW_none, errW_some] <;> rfl) | (simp [*, errW_none, errW_some] <;> rfl), by repeat (first | (with_reducible first | exact HB.out | apply below_alloc | apply pw_below_drewN | apply below_drew1 | refine below_set ?_ GE113.out) | exact HB.out)⟩
  · replace c3 := Bool.eq_false_iff.mpr c3
    subst c3
    have H1 : (some (⟨#[]⟩ : ByteArray)) = some r := by rw [if_neg (show ¬ (false = true) by decide)] at H; exact H
    clear H
    have H := H1
    clear H1
    obtain rfl := Option.some.inj H
    go_enter Tryd.func46, Tryd.ntmps46
    go_wp2_with (first | ((with_reducible refine gate_dst (N := 1) rfl ?_); refine box_event ?hg (N := 1) ?hd (cs := #[.int .i64 a0_0, .string a0_1]) (t := 45) ?hr ?_; (case hd => rfl); (case hg => rfl); (case hr => first | (go_simp; done) | (go_simp; rfl)); intro gb113 hg w13 hbox hb; have n0_ := Aside0.mk (below_step (by repeat (first | (with_reducible first | exact HB.out | apply below_alloc | apply pw_below_drewN | apply below_drew1) | exact HB.out)) hb); have n1_ := Aside0.mk (hbox); have n2_ := Aside0.mk ((by rw [hg]; exact (below_size (by repeat (first | (with_reducible first | exact HB.out | apply below_alloc | apply pw_below_drewN | apply below_drew1) | exact HB.out))) : w.heap.size ≤ gb113)); have n3_ := Aside0.mk ((by rw [hg]; exact (below_size (by repeat (first | (with_reducible first | exact HB.out | apply below_alloc | apply pw_below_drewN | apply below_drew1) | exact HB.out))) : w.heap.size ≤ gb113)); clear HB; have HB := n0_; have BK113 := n1_; have GW113 := n2_; have GE113 := n3_; clear n0_ n1_ n2_ n3_; clear hb hbox hg; have hcz14_0 : w13.cell? ⟨gb113, 0, none⟩ = some (.int .i64 a0_0) := (blk_cell BK113.out 0).trans rfl; have hcz14_1 : w13.cell? ⟨gb113, 1, none⟩ = some (.string a0_1) := (blk_cell BK113.out 1).trans rfl; have hfz14_0 := blk_frozen BK113.out 0; have hfz14_1 := blk_frozen BK113.out 1) | ((with_reducible refine gate_callee (f := 74) rfl ?_); refine goesL_ (some 6) rfl rfl Tryd.func74 (by kernel_rfl) rfl #[.string a0_1] rfl (by (try simp only [List.map_toArray, List.map_cons, List.map_nil]); first | done | rfl | (simp only [List.length_drop, List.length_take]; rfl)) ?_; (with_reducible refine (show_predicate.calls k a0_1 false _ A2.out).mono ?_); rintro e w' ⟨rfl, ⟨nd, rfl⟩⟩; refine ⟨_, rfl, ?_⟩))
    go_ret
    exact ⟨by first | rfl | (simp [errW_none, errW_some] <;> rfl) | (simp [*, errW_none, errW_some] <;> rfl), by repeat (first | (with_reducible first | exact HB.out | apply below_alloc | apply pw_below_drewN | apply below_drew1 | refine below_set ?_ GE113.out) | exact HB.out)⟩
def show_piece_least.f (a0_0 : ByteArray) (a0_1 : Int) (a1 : Int) : Option (ByteArray) := if a0_1 < a1 then (if 1 + a0_0.size ≤ 9223372036854775807 then (if 1 + a0_0.size + 1 ≤ 9223372036854775807 then (some (((⟨#[40]⟩ : ByteArray) ++ a0_0) ++ (⟨#[41]⟩ : ByteArray))) else (none)) else (none)) else (some a0_0)
set_option maxHeartbeats 8000000 in
set_option maxRecDepth 100000 in
theorem show_piece_least.calls (a0_0 : ByteArray) (a0_1 : Int) (a1 : Int) (r : ByteArray) (w : World) (h : show_piece_least.f a0_0 a0_1 a1 = some r) :
    Calls Tryd.prog 47 #[.agg #[.string a0_0, .int .i64 a0_1], .int .i64 a1] w fun e w' => e = .returned (.string r) ∧ Below w.heap.size w w' := by
  have hu90 := Tryd.underlying90
  have HB := Aside0.mk (Below.refl w.heap.size w)
  have H : (if a0_1 < a1 then (if 1 + a0_0.size ≤ 9223372036854775807 then (if 1 + a0_0.size + 1 ≤ 9223372036854775807 then (some (((⟨#[40]⟩ : ByteArray) ++ a0_0) ++ (⟨#[41]⟩ : ByteArray))) else (none)) else (none)) else (some a0_0)) = some r := h
  clear h
  by_cases c3 : a0_1 < a1
  · rw [if_pos c3] at H
    have c3b0 : decide (a0_1 < a1) = true := decide_eq_true c3
    clear c3
    by_cases c4 : 1 + a0_0.size ≤ 9223372036854775807
    · rw [if_pos c4] at H
      have c4b0 := eq_true c4
      have c4b1 : decide (1 + a0_0.size ≤ 9223372036854775807) = true := decide_eq_true c4
      try have c4b2 : (9223372036854775807 < 1 + a0_0.size) = False := eq_false (Nat.not_lt.2 c4)
      by_cases c5 : 1 + a0_0.size + 1 ≤ 9223372036854775807
      · rw [if_pos c5] at H
        have c5b0 := eq_true c5
        have c5b1 : decide (1 + a0_0.size + 1 ≤ 9223372036854775807) = true := decide_eq_true c5
        try have c5b2 : (9223372036854775807 < 1 + a0_0.size + 1) = False := eq_false (Nat.not_lt.2 c5)
        obtain rfl := Option.some.inj H
        go_enter Tryd.func47, Tryd.ntmps47
        go_wp2_with (first | ((with_reducible refine gate_dst (N := 2) rfl ?_); refine box_event ?hg (N := 2) ?hd (cs := #[.string a0_0, .int .i64 a0_1]) (t := 90) ?hr ?_; (case hd => rfl); (case hg => rfl); (case hr => first | (go_simp; done) | (go_simp; rfl)); intro gb115 hg w6 hbox hb; have n0_ := Aside0.mk (below_step (by repeat (first | (with_reducible first | exact HB.out | apply below_alloc | apply pw_below_drewN | apply below_drew1) | exact HB.out)) hb); have n1_ := Aside0.mk (hbox); have n2_ := Aside0.mk ((by rw [hg]; exact (below_size (by repeat (first | (with_reducible first | exact HB.out | apply below_alloc | apply pw_below_drewN | apply below_drew1) | exact HB.out))) : w.heap.size ≤ gb115)); have n3_ := Aside0.mk ((by rw [hg]; exact (below_size (by repeat (first | (with_reducible first | exact HB.out | apply below_alloc | apply pw_below_drewN | apply below_drew1) | exact HB.out))) : w.heap.size ≤ gb115)); clear HB; have HB := n0_; have BK115 := n1_; have GW115 := n2_; have GE115 := n3_; clear n0_ n1_ n2_ n3_; clear hb hbox hg; have hcz7_0 : w6.cell? ⟨gb115, 0, none⟩ = some (.string a0_0) := (blk_cell BK115.out 0).trans rfl; have hcz7_1 : w6.cell? ⟨gb115, 1, none⟩ = some (.int .i64 a0_1) := (blk_cell BK115.out 1).trans rfl; have hfz7_0 := blk_frozen BK115.out 0; have hfz7_1 := blk_frozen BK115.out 1))
        go_ret
        exact ⟨by first | rfl | (simp [errW_none, errW_some] <;> rfl) | (simp [*, errW_none, errW_some] <;> rfl), by repeat (first | (with_reducible first | exact HB.out | apply below_alloc | apply pw_below_drewN | apply below_drew1 | refine below_set ?_ GE115.out) | exact HB.out)⟩
      · rw [if_neg c5] at H
        exact absurd H (by simp)
    · rw [if_neg c4] at H
      exact absurd H (by simp)
  · rw [if_neg c3] at H
    have c3b0 : decide (a0_1 < a1) = false := decide_eq_false c3
    clear c3
    obtain rfl := Option.some.inj H
    go_enter Tryd.func47, Tryd.ntmps47
    go_wp2_with (first | ((with_reducible refine gate_dst (N := 2) rfl ?_); refine box_event ?hg (N := 2) ?hd (cs := #[.string a0_0, .int .i64 a0_1]) (t := 90) ?hr ?_; (case hd => rfl); (case hg => rfl); (case hr => first | (go_simp; done) | (go_simp; rfl)); intro gb115 hg w8 hbox hb; have n0_ := Aside0.mk (below_step (by repeat (first | (with_reducible first | exact HB.out | apply below_alloc | apply pw_below_drewN | apply below_drew1) | exact HB.out)) hb); have n1_ := Aside0.mk (hbox); have n2_ := Aside0.mk ((by rw [hg]; exact (below_size (by repeat (first | (with_reducible first | exact HB.out | apply below_alloc | apply pw_below_drewN | apply below_drew1) | exact HB.out))) : w.heap.size ≤ gb115)); have n3_ := Aside0.mk ((by rw [hg]; exact (below_size (by repeat (first | (with_reducible first | exact HB.out | apply below_alloc | apply pw_below_drewN | apply below_drew1) | exact HB.out))) : w.heap.size ≤ gb115)); clear HB; have HB := n0_; have BK115 := n1_; have GW115 := n2_; have GE115 := n3_; clear n0_ n1_ n2_ n3_; clear hb hbox hg; have hcz9_0 : w8.cell? ⟨gb115, 0, none⟩ = some (.string a0_0) := (blk_cell BK115.out 0).trans rfl; have hcz9_1 : w8.cell? ⟨gb115, 1, none⟩ = some (.int .i64 a0_1) := (blk_cell BK115.out 1).trans rfl; have hfz9_0 := blk_frozen BK115.out 0; have hfz9_1 := blk_frozen BK115.out 1))
    go_ret
    exact ⟨by first | rfl | (simp [errW_none, errW_some] <;> rfl) | (simp [*, errW_none, errW_some] <;> rfl), by repeat (first | (with_reducible first | exact HB.out | apply below_alloc | apply pw_below_drewN | apply below_drew1 | refine below_set ?_ GE115.out) | exact HB.out)⟩
def stringslite_HasPrefix.f (a0 : ByteArray) (a1 : ByteArray) : Option (Bool) := if (a0.size : Int) ≥ (a1.size : Int) then (if 0 ≤ (a1.size : Int) then (if (a1.size : Int) ≤ (a0.size : Int) then (some ((a0.extract 0 ((a1.size : Int) : Int).toNat).toList == a1.toList)) else (none)) else (none)) else (some false)
set_option maxHeartbeats 8000000 in
set_option maxRecDepth 100000 in
theorem stringslite_HasPrefix.calls (a0 : ByteArray) (a1 : ByteArray) (r : Bool) (w : World) (h : stringslite_HasPrefix.f a0 a1 = some r) :
    Calls Tryd.prog 76 #[.string a0, .string a1] w fun e w' => e = .returned (.bool r) ∧ Drawn0 w w' := by
  have H : (if (a0.size : Int) ≥ (a1.size : Int) then (if 0 ≤ (a1.size : Int) then (if (a1.size : Int) ≤ (a0.size : Int) then (some ((a0.extract 0 ((a1.size : Int) : Int).toNat).toList == a1.toList)) else (none)) else (none)) else (some false)) = some r := h
  clear h
  by_cases c3 : (a0.size : Int) ≥ (a1.size : Int)
  · rw [if_pos c3] at H
    have c3b0 : decide ((a1.size : Int) ≤ (a0.size : Int)) = true := decide_eq_true c3
    have c3b1 : decide (a1.size ≤ a0.size) = true := decide_eq_true (Int.ofNat_le.mp c3)
    clear c3
    by_cases c4 : 0 ≤ (a1.size : Int)
    · rw [if_pos c4] at H
      have c4b0 := eq_true c4
      have c4b1 : decide (0 ≤ (a1.size : Int)) = true := decide_eq_true c4
      clear c4
      by_cases c5 : (a1.size : Int) ≤ (a0.size : Int)
      · rw [if_pos c5] at H
        have c5b0 := eq_true c5
        have c5b1 : decide ((a1.size : Int) ≤ (a0.size : Int)) = true := decide_eq_true c5
        clear c5
        obtain rfl := Option.some.inj H
        go_enter Tryd.func76, Tryd.ntmps76
        go_wp2
        go_ret
        exact ⟨by first | rfl | (simp; done) | (simp [*]; done), by repeat (first | exact Drawn0.refl _ | apply Drawn0.step)⟩
      · rw [if_neg c5] at H
        exact absurd H (by simp)
    · rw [if_neg c4] at H
      exact absurd H (by simp)
  · rw [if_neg c3] at H
    have c3b0 : decide ((a1.size : Int) ≤ (a0.size : Int)) = false := decide_eq_false c3
    have c3b1 : decide (a1.size ≤ a0.size) = false := decide_eq_false (fun h => c3 (Int.ofNat_le.mpr h))
    clear c3
    obtain rfl := Option.some.inj H
    go_enter Tryd.func76, Tryd.ntmps76
    go_wp2
    go_ret
    exact ⟨by first | rfl | (simp; done) | (simp [*]; done), by repeat (first | exact Drawn0.refl _ | apply Drawn0.step)⟩
def strings_HasPrefix.f (a0 : ByteArray) (a1 : ByteArray) : Option (Bool) := (stringslite_HasPrefix.f a0 a1).bind fun t116 => (some t116)
set_option maxHeartbeats 8000000 in
set_option maxRecDepth 100000 in
theorem strings_HasPrefix.calls (a0 : ByteArray) (a1 : ByteArray) (r : Bool) (w : World) (h : strings_HasPrefix.f a0 a1 = some r) :
    Calls Tryd.prog 53 #[.string a0, .string a1] w fun e w' => e = .returned (.bool r) ∧ Drawn0 w w' := by
  have H : ((stringslite_HasPrefix.f a0 a1).bind fun t116 => (some t116)) = some r := h
  clear h
  replace H := Option.bind_eq_some_iff.mp H
  obtain ⟨t116, A30, H⟩ := H
  replace H : (some t116) = some r := H
  have A3 := Aside0.mk A30
  clear A30
  obtain rfl := Option.some.inj H
  go_enter Tryd.func53, Tryd.ntmps53
  go_wp2_with (first | ((with_reducible refine gate_callee (f := 76) rfl ?_); refine goesL_ (some 7) rfl rfl Tryd.func76 (by kernel_rfl) rfl #[.string a0, .string a1] rfl (by (try simp only [List.map_toArray, List.map_cons, List.map_nil]); first | done | rfl | (simp only [List.length_drop, List.length_take]; rfl)) ?_; (with_reducible refine (stringslite_HasPrefix.calls a0 a1 t116 _ A3.out).mono ?_); rintro e w' ⟨rfl, ⟨nd, rfl⟩⟩; refine ⟨_, rfl, ?_⟩))
  go_ret
  exact ⟨by first | rfl | (simp; done) | (simp [*]; done), by repeat (first | exact Drawn0.refl _ | apply Drawn0.step)⟩
end Go.Proofs.YthebhbomlllpeaaDoor.X
