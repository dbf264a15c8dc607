/-
  strconv.ParseUint and strconv.ParseInt as value.Read calls them: at base 16 by hand, at base 10 from the shelf.
-/
import Derived.Test.YtklpbdmmmloejaaDoorXtF
import Derived.Test.YtklpbdmmmloejaaDoorXtS
import Derived.Lib.ConvBytes
import Derived.Lib.AtoiAllMem
import Derived.Lib.ParseIntB
import Derived.Lib.Hide
import Derived.Laws.Strings3
import Derived.Laws.Closers25
import Derived.Laws.Closers25b
import Derived.BigCall
import Derived.BigGuard
namespace Go.Proofs.YtklpbdmmmloejaaDoor.X
set_option linter.unusedVariables false
set_option linter.unusedSimpArgs false
open Go.RowKit Go.Proofs.YtklpbdmmmloejaaDoorW.PrintWords Go.Proofs.YtklpbdmmmloejaaDoorW.PrintLast Go.Proofs.YtklpbdmmmloejaaDoorW.PrintMore

/-- a byte as a small letter. -/
def lowN (c : Nat) : Int := bits .or .u8 (c : Int) 32
/-- a byte as a digit at base 16. -/
def hexd (c : Nat) : Option Nat := if 48 ≤ c ∧ c ≤ 57 then some (c - 48) else if 97 ≤ lowN c ∧ lowN c ≤ 102 then some ((lowN c).toNat - 87) else none
def parse16 (acc : Nat) : List UInt8 → Lib.NumEnd Nat
  | [] => .ok acc
  | c :: r => match hexd c.toNat with
    | none => .syntax
    | some d => if 1152921504606846976 ≤ acc then .range else parse16 (acc * 16 + d) r
theorem hexd_lt {c d : Nat} (h : hexd c = some d) : d < 16 := by
  unfold hexd at h
  split at h
  · injection h with h; omega
  · split at h
    · injection h with h; omega
    · cases h
theorem parse16_lt : ∀ (l : List UInt8) (acc n : Nat), acc < 18446744073709551616 → parse16 acc l = .ok n → n < 18446744073709551616
  | [], acc, n, h, e => by
    simp only [parse16, Lib.NumEnd.ok.injEq] at e; omega
  | c :: r, acc, n, h, e => by
    simp only [parse16] at e
    split at e
    · cases e
    · rename_i d hd
      split at e
      · cases e
      · have := hexd_lt hd
        exact parse16_lt r _ n (by omega) e

set_option maxHeartbeats 3200000 in
set_option maxRecDepth 100000 in
theorem internal_ParseUint16 (t : ByteArray) (hne : t.size ≠ 0) (hmax : t.size ≤ 9223372036854775806) (w : World) :
    Calls Tryd.prog 49 #[.string t, .int .i64 16, .int .i64 64] w fun e w' => e = .returned (Lib.uintTuple 88 (parse16 0 t.data.toList)) ∧ w' = Lib.bytesWorld w 5 t := by
  have hemp : t.toList.isEmpty = false := by
    rw [← decide_eq_emptyBytes]
    exact decide_eq_false (fun h => hne (by rw [h]; rfl))
  have hcv := Lib.run_convert_string_bytes (P := Tryd.prog) w 9 38 5 t (u := .string) Tryd.underlying9 Tryd.underlying38 Tryd.underlying5
  have hB : ∀ j, j < t.size → (Lib.bytesWorld w 5 t).cell? ⟨w.heap.size, j, none⟩ = some (.int .u8 (t.data.toList.getD j 0).toNat) := fun j hj => Lib.bytesWorld_cell w 5 t j hj
  obtain ⟨W1, hW1⟩ : ∃ W1, W1 = Lib.bytesWorld w 5 t := ⟨_, rfl⟩
  rw [← hW1] at hcv hB ⊢
  clear hW1
  obtain ⟨bs, hL⟩ : ∃ bs, bs = t.data.toList := ⟨_, rfl⟩
  have hLn : bs.length = t.size := by rw [hL, Lib.size_eq]
  rw [← hL] at hB ⊢
  clear hL
  have hmv : IntKind.u64.wrap (IntKind.u64.wrap 18446744073709551616 - 1) = 18446744073709551615 := by
    rw [IntKind.wrap_u64, IntKind.wrap_u64]
    decide
  go_enter Tryd.func49, Tryd.ntmps49
  go_wp2
  go_loop [12, 13, 101] (fun vu vn vi => ∃ (k acc : Nat) (a : Int), vu = .bool false ∧ vn = .int .u64 a ∧ vi = .int .i64 k ∧ k ≤ t.size ∧ Hid (a = (acc : Int) ∧ acc < 18446744073709551616 ∧ parse16 0 bs = parse16 acc (bs.drop k)))
    (fun _ _ vi => t.size - (intOf vi).toNat)
  case atStart => exact ⟨0, 0, 0, rfl, rfl, rfl, by omega, rfl, by omega, rfl⟩
  case round =>
    obtain ⟨k, acc, a, rfl, rfl, rfl, hk, hh⟩ := hrel
    obtain ⟨ha, hacc, hdec⟩ := hh.out
    clear hh
    have a0 : 0 ≤ a := by omega
    have a1 : a < 18446744073709551616 := by omega
    by_cases hkn : k < t.size
    · have hc := hB k hkn
      have hdrop : bs.drop k = bs[k]'(by omega) :: bs.drop (k + 1) := List.drop_eq_getElem_cons (by omega)
      have hget : bs.getD k 0 = bs[k]'(by omega) := by simp [List.getD, List.getElem?_eq_getElem (show k < bs.length by omega)]
      rw [hdrop] at hdec
      rw [hget] at hc
      generalize bs[k]'(by omega) = c at hc hdec
      have hc256 : c.toNat < 256 := c.toNat_lt
      clear hB hdrop hget
      by_cases hdig : 48 ≤ c.toNat ∧ c.toNat ≤ 57
      · have hh : hexd c.toNat = some (c.toNat - 48) := by unfold hexd; rw [if_pos hdig]
        obtain ⟨hd0, hd1⟩ := hdig
        by_cases hcut : 1152921504606846976 ≤ acc
        · have hF : parse16 acc (c :: bs.drop (k + 1)) = .range := by simp only [parse16, hh]; rw [if_pos hcut]
          rw [hF] at hdec
          have icut : 1152921504606846976 ≤ a := by omega
          clear hcut hacc hF ha hh
          go_wp2
          go_ret2
          exact ⟨rfl, rfl⟩
        · have hF : parse16 acc (c :: bs.drop (k + 1)) = parse16 (acc * 16 + (c.toNat - 48)) (bs.drop (k + 1)) := by simp only [parse16, hh]; rw [if_neg hcut]
          have HN : Hid (a * 16 + ((c.toNat : Int) - 48) = ((acc * 16 + (c.toNat - 48) : Nat) : Int) ∧ acc * 16 + (c.toNat - 48) < 18446744073709551616 ∧ parse16 0 bs = parse16 (acc * 16 + (c.toNat - 48)) (bs.drop (k + 1))) := Lib.hid ⟨by omega, by omega, hdec.trans hF⟩
          have icut : a < 1152921504606846976 := by omega
          have iov : a * 16 + ((c.toNat : Int) - 48) < 18446744073709551616 := by omega
          clear hcut hacc hF hdec ha hh
          go_wp2
          refine ⟨⟨k + 1, acc * 16 + (c.toNat - 48), a * 16 + ((c.toNat : Int) - 48), rfl, (by first | rfl | (congr 1; omega)), (by first | rfl | (congr 1; omega)), by omega, HN⟩, by simp [intOf]; omega⟩
      · obtain ⟨v, hv⟩ : ∃ v : Int, v = bits .or .u8 (c.toNat : Int) 32 := ⟨_, rfl⟩
        have hv0 : 0 ≤ v := hv ▸ bits_lo_u8 .or (c.toNat : Int) 32
        have hv1 : v ≤ 255 := by have := bits_hi_u8 .or (c.toNat : Int) 32; omega
        have hlow : lowN c.toNat = v := hv.symm
        have hlw : ∀ W, Calls Tryd.prog 62 #[.int .u8 (c.toNat : Int)] W fun e w' => e = .returned (.int .u8 v) ∧ w' = W := fun W => hv ▸ Tryd.internal_strconv_lower (c.toNat : Int) W
        have h127 : bits .or .u8 (95 : Int) 32 = 127 := by decide
        have h95 : c.toNat = 95 → v = 127 := fun h => by rw [hv, h]; exact h127
        clear hv
        have HLO := Aside0.mk hlw
        clear hlw
        have hnd : ¬ (48 ≤ (c.toNat : Int) ∧ (c.toNat : Int) ≤ 57) := by omega
        by_cases hlet : 97 ≤ v ∧ v ≤ 102
        · have hh : hexd c.toNat = some (v.toNat - 87) := by unfold hexd; rw [if_neg hdig, hlow, if_pos hlet]
          obtain ⟨hl0, hl1⟩ := hlet
          by_cases hcut : 1152921504606846976 ≤ acc
          · have hF : parse16 acc (c :: bs.drop (k + 1)) = .range := by simp only [parse16, hh]; rw [if_pos hcut]
            rw [hF] at hdec
            have icut : 1152921504606846976 ≤ a := by omega
            clear hcut hacc hF ha hh hlow
            have h95' : ¬ c.toNat = 95 := fun h => by have := h95 h; omega
            clear h95
            rcases (by omega : (c.toNat : Int) < 48 ∨ (57 < (c.toNat : Int) ∧ (c.toNat : Int) < 95) ∨ 95 < (c.toNat : Int)) with hq | ⟨hq, hq'⟩ | hq
            · go_wp2_with (go_at_call 62; refine (HLO.out _).mono ?_; rintro e w' ⟨rfl, rfl⟩)
              go_ret2
              exact ⟨by (try rw [hdec]); rfl, rfl⟩
            · go_wp2_with (go_at_call 62; refine (HLO.out _).mono ?_; rintro e w' ⟨rfl, rfl⟩)
              go_ret2
              exact ⟨by (try rw [hdec]); rfl, rfl⟩
            · go_wp2_with (go_at_call 62; refine (HLO.out _).mono ?_; rintro e w' ⟨rfl, rfl⟩)
              go_ret2
              exact ⟨by (try rw [hdec]); rfl, rfl⟩
          · have hF : parse16 acc (c :: bs.drop (k + 1)) = parse16 (acc * 16 + (v.toNat - 87)) (bs.drop (k + 1)) := by simp only [parse16, hh]; rw [if_neg hcut]
            have HN : Hid (a * 16 + (v - 87) = ((acc * 16 + (v.toNat - 87) : Nat) : Int) ∧ acc * 16 + (v.toNat - 87) < 18446744073709551616 ∧ parse16 0 bs = parse16 (acc * 16 + (v.toNat - 87)) (bs.drop (k + 1))) := Lib.hid ⟨by omega, by omega, hdec.trans hF⟩
            have icut : a < 1152921504606846976 := by omega
            have iov : a * 16 + (v - 87) < 18446744073709551616 := by omega
            clear hcut hacc hF hdec ha hh hlow
            have h95' : ¬ c.toNat = 95 := fun h => by have := h95 h; omega
            clear h95
            rcases (by omega : (c.toNat : Int) < 48 ∨ (57 < (c.toNat : Int) ∧ (c.toNat : Int) < 95) ∨ 95 < (c.toNat : Int)) with hq | ⟨hq, hq'⟩ | hq
            · go_wp2_with (go_at_call 62; refine (HLO.out _).mono ?_; rintro e w' ⟨rfl, rfl⟩)
              refine ⟨⟨k + 1, acc * 16 + (v.toNat - 87), a * 16 + (v - 87), rfl, (by first | rfl | (congr 1; omega)), (by first | rfl | (congr 1; omega)), by omega, HN⟩, by simp [intOf]; omega⟩
            · go_wp2_with (go_at_call 62; refine (HLO.out _).mono ?_; rintro e w' ⟨rfl, rfl⟩)
              refine ⟨⟨k + 1, acc * 16 + (v.toNat - 87), a * 16 + (v - 87), rfl, (by first | rfl | (congr 1; omega)), (by first | rfl | (congr 1; omega)), by omega, HN⟩, by simp [intOf]; omega⟩
            · go_wp2_with (go_at_call 62; refine (HLO.out _).mono ?_; rintro e w' ⟨rfl, rfl⟩)
              refine ⟨⟨k + 1, acc * 16 + (v.toNat - 87), a * 16 + (v - 87), rfl, (by first | rfl | (congr 1; omega)), (by first | rfl | (congr 1; omega)), by omega, HN⟩, by simp [intOf]; omega⟩
        · have hh : hexd c.toNat = none := by unfold hexd; rw [if_neg hdig, hlow, if_neg hlet]
          have hF : parse16 acc (c :: bs.drop (k + 1)) = .syntax := by simp only [parse16, hh]
          rw [hF] at hdec
          clear hacc hF ha hh hlow
          by_cases hq : (c.toNat : Int) = 95
          · rw [hq] at hc
            clear h95 HLO
            have HL95 : Aside0 (∀ W, Calls Tryd.prog 62 #[.int .u8 95] W fun e w' => e = .returned (.int .u8 127) ∧ w' = W) := ⟨fun W => h127 ▸ Tryd.internal_strconv_lower 95 W⟩
            clear h127
            go_wp2_with (go_at_call 62; refine (HL95.out _).mono ?_; rintro e w' ⟨rfl, rfl⟩)
            all_goals go_ret2
            all_goals exact ⟨by (try rw [hdec]); rfl, rfl⟩
          · rcases (by omega : (c.toNat : Int) < 48 ∨ (57 < (c.toNat : Int) ∧ (c.toNat : Int) < 95) ∨ 95 < (c.toNat : Int)) with hq | ⟨hq, hq'⟩ | hq
            all_goals go_wp2_with (go_at_call 62; refine (HLO.out _).mono ?_; rintro e w' ⟨rfl, rfl⟩)
            all_goals go_ret2
            all_goals exact ⟨by (try rw [hdec]); rfl, rfl⟩
    · have hkk : k = t.size := by omega
      subst hkk
      have hF : parse16 acc (bs.drop t.size) = .ok acc := by rw [List.drop_eq_nil_of_le (by omega)]; rfl
      rw [hF] at hdec
      subst ha
      clear hacc hF a0 a1
      go_wp2
      go_ret2
      exact ⟨rfl, rfl⟩
end Go.Proofs.YtklpbdmmmloejaaDoor.X
