/-
  value.Text: a value's text, in plain Lean, and the contract of the code.
-/
import Derived.Test.YtklpbdmmmloejaaDoorXtN
import Derived.Test.YtklpbdmmmloejaaDoorXtF
import Derived.Test.YtklpbdmmmloejaaDoorXx2
namespace Go.Proofs.YtklpbdmmmloejaaDoor.X
set_option linter.unusedVariables false
set_option linter.unusedSimpArgs false
open Go.RowKit Go.Proofs.YtklpbdmmmloejaaDoorW.PrintWords Go.Proofs.YtklpbdmmmloejaaDoorW.PrintLast Go.Proofs.YtklpbdmmmloejaaDoorW.PrintMore

/-- sixteen digits at base 16, with zeros ahead. -/
def hex16 (u : Nat) : List UInt8 := List.replicate (16 - (hexL u).length) 48 ++ hexL u
/-- a value's text. -/
def textL (k n : Int) (s : ByteArray) : List UInt8 :=
  if rightB k n s = true then (if k = 1 then Lib.itoa n else if k = 2 then 35 :: hex16 (IntKind.u64.wrap n).toNat else s.data.toList) else []
theorem hexL_length (u : Nat) : ∀ d : Nat, 1 ≤ d → u < 16 ^ d → 1 ≤ (hexL u).length ∧ (hexL u).length ≤ d := by
  intro d
  induction d generalizing u with
  | zero => intro h; omega
  | succ d ih =>
    intro _ hu
    rw [hexL]
    split
    · simp
    · rename_i h
      have hd : 1 ≤ d := by
        rcases Nat.eq_zero_or_pos d with rfl | h'
        · simp at hu; omega
        · exact h'
      have := ih (u / 16) hd (by rw [Nat.pow_succ] at hu; omega)
      simp
      omega
theorem wrap_u64 (n : Int) : 0 ≤ IntKind.u64.wrap n ∧ IntKind.u64.wrap n < 18446744073709551616 := by
  rw [IntKind.wrap_u64]; omega
def value_Text.f (a0 a1 : Int) (a2 : ByteArray) : Option ByteArray := if -9223372036854775808 ≤ a1 ∧ a1 ≤ 9223372036854775807 then some ⟨(textL a0 a1 a2).toArray⟩ else none
theorem repeatL_one (c : UInt8) (n : Nat) : Lib.repeatL [c] n = List.replicate n c := by
  induction n with
  | zero => rfl
  | succ n ih => simp [Lib.repeatL, List.replicate_succ, ih]
theorem below_box {w w1 : World} {o : Obj} (h : Below (w.alloc o).heap.size (w.alloc o) w1) : Below w.heap.size w w1 :=
  below_then ((Below.refl w.heap.size w).alloc (Nat.le_refl _) o) (by simp) h
theorem box_cells {w w1 : World} {a b c : Value} {t : TypeId} (h : Below (w.alloc (.cells #[a, b, c] t)).heap.size (w.alloc (.cells #[a, b, c] t)) w1) :
    w1.cell? ⟨w.heap.size, 0, none⟩ = some a ∧ w1.cell? ⟨w.heap.size, 1, none⟩ = some b ∧ w1.cell? ⟨w.heap.size, 2, none⟩ = some c :=
  ⟨(h.cell (p := ⟨w.heap.size, 0, none⟩) (by simp)).trans (by rw [World.cell?_alloc_new]; rfl), (h.cell (p := ⟨w.heap.size, 1, none⟩) (by simp)).trans (by rw [World.cell?_alloc_new]; rfl), (h.cell (p := ⟨w.heap.size, 2, none⟩) (by simp)).trans (by rw [World.cell?_alloc_new]; rfl)⟩
set_option maxHeartbeats 1600000 in
set_option maxRecDepth 100000 in
theorem value_Text.calls (a0 a1 : Int) (a2 : ByteArray) (r : ByteArray) (w : World) (hLW : LaidW w) (h : value_Text.f a0 a1 a2 = some r) :
    Calls Tryd.prog 17 #[.agg #[.int .i64 a0, .int .i64 a1, .string a2]] w fun e w' => e = .returned (.string r) ∧ Below w.heap.size w w' := by
  unfold value_Text.f at h
  split at h
  · rename_i hr
    obtain rfl := Option.some.inj h
    clear h
    have hR := fun W => value_Right.calls 42 a0 a1 a2 (rightB a0 a1 a2) W (value_Right_eq 42 (Nat.le_refl _) a0 a1 a2)
    have HR := Aside0.mk hR
    clear hR
    cases hb : rightB a0 a1 a2 with
    | false =>
      have hT : textL a0 a1 a2 = [] := by unfold textL; rw [if_neg (by rw [hb]; simp)]
      rw [hb] at HR
      rw [hT]
      clear hT hb
      go_enter Tryd.func17, Tryd.ntmps17
      go_wp2_with (go_at_call 13; refine (HR.out _).mono ?_; rintro e w1 ⟨rfl, hb1⟩)
      go_ret
      exact ⟨rfl, below_box hb1⟩
    | true =>
      have hT : textL a0 a1 a2 = (if a0 = 1 then Lib.itoa a1 else if a0 = 2 then 35 :: hex16 (IntKind.u64.wrap a1).toNat else a2.data.toList) := by unfold textL; rw [if_pos hb]
      rw [hb] at HR
      rw [hT]
      clear hT
      by_cases k1 : a0 = 1
      · subst k1
        rw [if_pos rfl]
        have HF := Aside0.mk (fun W h => strconv_FormatInt.calls a1 10 ⟨(Lib.itoa a1).toArray⟩ W h (by unfold strconv_FormatInt.f; rw [if_pos ⟨rfl, hr.1, hr.2⟩]))
        clear hb
        go_enter Tryd.func17, Tryd.ntmps17
        go_wp2_with (first
          | (go_at_call 13; refine (HR.out _).mono ?_; rintro e w1 ⟨rfl, hb1⟩; have HB1 := Aside0.mk (below_box hb1); have HC1 := Aside0.mk (box_cells hb1); clear hb1; have hc0 := HC1.out.1; have hc1 := HC1.out.2.1; have hc2 := HC1.out.2.2; clear HC1)
          | (go_at_call 29; refine (HF.out _ (hLW.below HB1.out)).mono ?_; rintro e w2 ⟨rfl, hb2⟩; have HB2 := Aside0.mk (below_then HB1.out HB1.out.size hb2); clear hb2))
        go_ret
        exact ⟨rfl, HB2.out⟩
      · rw [if_neg k1]
        by_cases k2 : a0 = 2
        · subst k2
          rw [if_pos rfl]
          obtain ⟨hu0, hu1⟩ := wrap_u64 a1
          obtain ⟨u, hu⟩ := Int.eq_ofNat_of_zero_le hu0
          have hu64 : u < 18446744073709551616 := by omega
          have hlen := hexL_length u 16 (by omega) hu64
          have HF := Aside0.mk (fun W h => strconv_FormatUint.calls (IntKind.u64.wrap a1) 16 ⟨(hexL u).toArray⟩ W h (by unfold strconv_FormatUint.f; rw [if_pos ⟨rfl, hu0, hu1⟩, hu, Int.toNat_natCast]))
          have HRP := Aside0.mk (fun W => strings_Repeat.calls ⟨#[48]⟩ (16 - ((hexL u).length : Int)) ⟨(List.replicate (16 - (hexL u).length) 48).toArray⟩ W (by
            unfold strings_Repeat.f
            have e1 : (16 - ((hexL u).length : Int)).toNat = 16 - (hexL u).length := by omega
            have e2 : (⟨#[48]⟩ : ByteArray).size = 1 := rfl
            rw [if_pos ⟨by omega, by omega, by rw [e1, e2]; omega⟩, e1]
            congr 3
            exact repeatL_one 48 _))
          have hfin : (⟨(35 :: hex16 (IntKind.u64.wrap a1).toNat).toArray⟩ : ByteArray) = ((⟨#[35]⟩ : ByteArray) ++ ⟨(List.replicate (16 - (hexL u).length) 48).toArray⟩) ++ ⟨(hexL u).toArray⟩ := by
            rw [hu, Int.toNat_natCast]
            apply ByteArray.ext
            simp [hex16]
          have HFIN := Aside0.mk hfin
          have hs1 : (⟨(hexL u).toArray⟩ : ByteArray).size = (hexL u).length := by simp [ByteArray.size]
          have hs2 : (⟨(List.replicate (16 - (hexL u).length) 48).toArray⟩ : ByteArray).size = 16 - (hexL u).length := by simp [ByteArray.size]
          clear hb hu hu0 hu1 hu64 hfin
          go_enter Tryd.func17, Tryd.ntmps17
          go_wp2_with (first
            | (go_at_call 13; refine (HR.out _).mono ?_; rintro e w1 ⟨rfl, hb1⟩; have HB1 := Aside0.mk (below_box hb1); have HC1 := Aside0.mk (box_cells hb1); clear hb1; have hc0 := HC1.out.1; have hc1 := HC1.out.2.1; have hc2 := HC1.out.2.2; clear HC1)
            | (go_at_call 30; refine (HF.out _ (hLW.below HB1.out)).mono ?_; rintro e w2 ⟨rfl, hb2⟩; have HB2 := Aside0.mk (below_then HB1.out HB1.out.size hb2); clear hb2)
            | (go_at_call 31; refine (HRP.out _).mono ?_; rintro e w3 ⟨rfl, hb3⟩; have HB3 := Aside0.mk (below_then HB2.out HB2.out.size hb3); clear hb3))
          go_ret
          exact ⟨by rw [HFIN.out]; rfl, HB3.out⟩
        · rw [if_neg k2]
          have k3 : a0 = 3 := by
            unfold rightB at hb
            rw [if_neg k1, if_neg k2] at hb
            split at hb
            · assumption
            · cases hb
          subst k3
          clear hb k1 k2
          go_enter Tryd.func17, Tryd.ntmps17
          go_wp2_with (go_at_call 13; refine (HR.out _).mono ?_; rintro e w1 ⟨rfl, hb1⟩; have HB1 := Aside0.mk (below_box hb1); have HC1 := Aside0.mk (box_cells hb1); clear hb1; have hc0 := HC1.out.1; have hc1 := HC1.out.2.1; have hc2 := HC1.out.2.2; clear HC1)
          go_ret
          exact ⟨by rw [show (⟨a2.data.toList.toArray⟩ : ByteArray) = a2 from by apply ByteArray.ext; simp]; rfl, HB1.out⟩
  · cases h
end Go.Proofs.YtklpbdmmmloejaaDoor.X
