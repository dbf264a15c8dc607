/-
  ValueDigits, in plain Lean.
-/
import Derived.Test.YtklpbdmmmloejaaDoorXtK
import Derived.Test.YtklpbdmmmloejaaDoorXx12
namespace Go.Proofs.YtklpbdmmmloejaaDoor.X
set_option linter.unusedVariables false
set_option linter.unusedSimpArgs false
open Go.RowKit Go.Proofs.YtklpbdmmmloejaaDoorW.PrintWords Go.Proofs.YtklpbdmmmloejaaDoorW.PrintLast Go.Proofs.YtklpbdmmmloejaaDoorW.PrintMore
theorem dec_next (u d : Nat) (hd : d < 10) (hu : 0 < u) : Lib.decDigits (10 * u + d) = Lib.decDigits u ++ [UInt8.ofNat (48 + d)] := by
  rw [Lib.decDigits, dif_neg (by omega)]
  have h1 : (10 * u + d) / 10 = u := by omega
  have h2 : (10 * u + d) % 10 = d := by omega
  rw [h1, h2]
theorem itoa_next (n : Int) (d : Nat) (hd : d < 10) (h0 : n ≠ 0) : Lib.itoa (if n < 0 then 10 * n - d else 10 * n + d) = Lib.itoa n ++ [UInt8.ofNat (48 + d)] := by
  unfold Lib.itoa
  by_cases h : n < 0
  · rw [if_pos h, if_pos (by omega), if_pos h]
    have : (10 * n - (d : Int)).natAbs = 10 * n.natAbs + d := by omega
    rw [this, dec_next _ d hd (by omega)]
    rfl
  · rw [if_neg h, if_neg (by omega), if_neg h]
    have : (10 * n + (d : Int)).toNat = 10 * n.toNat + d := by omega
    rw [this, dec_next _ d hd (by omega)]
theorem digit_text : ∀ d : Nat, d < 10 → ((⟨#[48, 49, 50, 51, 52, 53, 54, 55, 56, 57]⟩ : ByteArray).extract d (⟨#[48, 49, 50, 51, 52, 53, 54, 55, 56, 57]⟩ : ByteArray).size).extract 0 1 = ⟨#[UInt8.ofNat (48 + d)]⟩ := by
  intro d hd
  have : ∀ d : Fin 10, ((⟨#[48, 49, 50, 51, 52, 53, 54, 55, 56, 57]⟩ : ByteArray).extract d.val (⟨#[48, 49, 50, 51, 52, 53, 54, 55, 56, 57]⟩ : ByteArray).size).extract 0 1 = ⟨#[UInt8.ofNat (48 + d.val)]⟩ := by decide
  exact this ⟨d, hd⟩
theorem digit_size (d : Nat) (hd : d < 10) : 1 ≤ (((⟨#[48, 49, 50, 51, 52, 53, 54, 55, 56, 57]⟩ : ByteArray).extract d (⟨#[48, 49, 50, 51, 52, 53, 54, 55, 56, 57]⟩ : ByteArray).size).size : Int) := by
  have : (⟨#[48, 49, 50, 51, 52, 53, 54, 55, 56, 57]⟩ : ByteArray).size = 10 := rfl
  rw [ByteArray.size_extract, this]
  omega
theorem right_int (n : Int) : rightB 1 n ⟨#[]⟩ = true := by
  unfold rightB; rw [if_pos rfl]; rfl
theorem text_int (n : Int) : textL 1 n ⟨#[]⟩ = Lib.itoa n := by
  unfold textL; rw [if_pos (right_int n), if_pos rfl]
/-- no value's text begins with a 0 and goes on with a digit. -/
theorem no_zero (c : UInt8) (k n : Int) (s : ByteArray) (hr : rightB k n s = true) (h : textL k n s = [48, c]) : False := by
  have ht : textL k n s = if k = 1 then Lib.itoa n else if k = 2 then 35 :: hex16 (IntKind.u64.wrap n).toNat else s.data.toList := by unfold textL; rw [if_pos hr]
  rw [h] at ht
  rcases right_cases hr with ⟨rfl, rfl⟩ | ⟨rfl, rfl, hf⟩ | ⟨rfl, rfl, hN⟩
  · rw [if_pos rfl] at ht
    unfold Lib.itoa at ht
    split at ht
    · injection ht with h1 _
      exact absurd h1 (by decide)
    · by_cases h10 : n.toNat < 10
      · rw [Lib.decDigits, dif_pos h10] at ht
        exact absurd (congrArg List.length ht) (by simp)
      · rw [Lib.decDigits, dif_neg h10] at ht
        have h1 := congrArg List.dropLast ht
        rw [List.dropLast_concat] at h1
        have h2 : Lib.decDigits (n.toNat / 10) = [48] := h1.symm
        by_cases hb : n.toNat / 10 < 10
        · rw [Lib.decDigits, dif_pos hb] at h2
          injection h2 with h2 _
          have h3 := congrArg UInt8.toNat h2
          rw [dec_toNat _ hb] at h3
          have : (48 : UInt8).toNat = 48 := rfl
          omega
        · rw [Lib.decDigits, dif_neg hb] at h2
          have h3 := congrArg List.length h2
          have h4 := dec_ne (n.toNat / 10 / 10)
          have h5 := List.length_pos_iff.2 h4
          simp at h3
          exact absurd h3 h4
  · rw [if_neg (by omega), if_pos rfl] at ht
    injection ht with h1 _
    exact absurd h1 (by decide)
  · rw [if_neg (by omega), if_neg (by omega)] at ht
    obtain ⟨a, l, he, h1, h2⟩ := name_head hN
    rw [he] at ht
    injection ht with h3 _
    rw [← h3] at h1
    have : (48 : UInt8).toNat = 48 := rfl
    omega
theorem pureValueDigits (n : Int) (hn : (Lit.int .i64 n).wf = true) (m : Int) (hm : (Lit.int .u8 m).wf = true) :
    ∃ k, antecedentlaw02_ValueDigits.f k n m = some true := by
  refine ⟨100, ?_⟩
  have hn := wf_i64 hn
  have hm : 0 ≤ m ∧ m ≤ 255 := by simp [Lit.wf] at hm; exact hm
  obtain ⟨d, hd⟩ : ∃ d : Nat, Int.tmod m 10 = (d : Int) := by
    rw [Int.tmod_eq_emod_of_nonneg hm.1]
    exact ⟨(m % 10).toNat, by omega⟩
  have hd10 : d < 10 := by rw [Int.tmod_eq_emod_of_nonneg hm.1] at hd; omega
  unfold antecedentlaw02_ValueDigits.f
  rw [awake_true 100 (by omega)]
  simp only [Option.bind_some, if_true]
  rw [value_Text_eq _ _ _ hn, hd]
  simp only [Option.bind_some, Int.toNat_natCast]
  have hl := textL_length 1 n ⟨#[]⟩ hn
  have hsz : (txt 1 n ⟨#[]⟩).size = (textL 1 n ⟨#[]⟩).length := by simp [txt, ByteArray.size]
  have hds : (⟨#[UInt8.ofNat (48 + d)]⟩ : ByteArray).size = 1 := rfl
  rw [if_pos (by omega), if_pos (by omega), if_pos (by omega), if_pos (digit_size d hd10), digit_text d hd10, if_pos (by rw [hds]; omega)]
  have hsum : (txt 1 n ⟨#[]⟩ ++ ⟨#[UInt8.ofNat (48 + d)]⟩ : ByteArray).size = (textL 1 n ⟨#[]⟩).length + 1 := by rw [ByteArray.size_append, hsz, hds]
  rw [read_f _ (by rw [hsum]; omega)]
  simp only [Option.bind_some]
  have htrue : ∀ x a b c, antecedentlaw02_ValueDigits.j0 100 n m x true a b c = some true := fun x a b c => by
    rw [show (100 : Nat) = 99 + 1 from rfl]
    simp only [antecedentlaw02_ValueDigits.j0, if_true]
  by_cases h1 : n > 900000000000000000
  · rw [if_pos h1]; exact htrue _ _ _ _
  · rw [if_neg h1]
    by_cases h2 : n < -900000000000000000
    · rw [decide_eq_true h2]; exact htrue _ _ _ _
    · rw [decide_eq_false h2, show (100 : Nat) = 99 + 1 from rfl]
      simp only [antecedentlaw02_ValueDigits.j0, Bool.false_eq_true, if_false]
      have hdata : (txt 1 n ⟨#[]⟩ ++ ⟨#[UInt8.ofNat (48 + d)]⟩ : ByteArray).data.toList = Lib.itoa n ++ [UInt8.ofNat (48 + d)] := by
        rw [ba_append]; simp [txt, text_int]
      by_cases h0 : n = 0
      · rw [if_pos h0]
        subst h0
        have hz : Lib.itoa 0 = [48] := by unfold Lib.itoa; rw [if_neg (by omega)]; rw [Lib.decDigits, dif_pos (by decide)]; rfl
        rcases readR_cases (txt 1 0 ⟨#[]⟩ ++ ⟨#[UInt8.ofNat (48 + d)]⟩) with h | ⟨k, x, s, h, hr, hT, _⟩
        · rw [h]; rfl
        · rw [hdata, hz] at hT
          exact absurd hT (fun h => no_zero _ k x s hr h)
      · rw [if_neg h0]
        have hnx := itoa_next n d hd10 h0
        have hrd : ∀ v : Int, v = (if n < 0 then 10 * n - d else 10 * n + d) → readR (txt 1 n ⟨#[]⟩ ++ ⟨#[UInt8.ofNat (48 + d)]⟩) = (1, v, ⟨#[]⟩, 0) := fun v hv => by
          have e : (txt 1 n ⟨#[]⟩ ++ ⟨#[UInt8.ofNat (48 + d)]⟩ : ByteArray) = txt 1 v ⟨#[]⟩ := by
            apply ba_eq
            rw [hdata, ← hnx, ← hv]
            simp [txt, text_int]
          rw [e]
          exact readR_text 1 v ⟨#[]⟩ (right_int v) (by rw [hv]; split <;> omega)
        have he : (⟨#[]⟩ : ByteArray).toList = [] := (toList_nil _).2 rfl
        have w1 : wrap64 (10 * n) = 10 * n := by unfold wrap64; omega
        have w2 : wrap64 (d : Int) = (d : Int) := by unfold wrap64; omega
        by_cases h3 : n < 0
        · have hv := hrd (10 * n - d) (by rw [if_pos h3])
          have w3 : wrap64 (10 * n - (d : Int)) = 10 * n - d := by unfold wrap64; omega
          rw [if_pos h3, hv, hd, w1, w2, w3]
          simp [he]
        · have hv := hrd (10 * n + d) (by rw [if_neg h3])
          have w3 : wrap64 (10 * n + (d : Int)) = 10 * n + d := by unfold wrap64; omega
          rw [if_neg h3, hv, hd, w1, w2, w3]
          simp [he]
end Go.Proofs.YtklpbdmmmloejaaDoor.X
