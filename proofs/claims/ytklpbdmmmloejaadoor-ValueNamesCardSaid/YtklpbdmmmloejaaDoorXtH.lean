/-
  WHAT IS READ: a value that can be, told as a text, is read as it was by the code.
-/
import Derived.Test.YtklpbdmmmloejaaDoorXtE
import Derived.Test.YtklpbdmmmloejaaDoorXtI
namespace Go.Proofs.YtklpbdmmmloejaaDoor.X
set_option linter.unusedVariables false
set_option linter.unusedSimpArgs false
open Go.RowKit Go.Proofs.YtklpbdmmmloejaaDoorW.PrintWords Go.Proofs.YtklpbdmmmloejaaDoorW.PrintLast Go.Proofs.YtklpbdmmmloejaaDoorW.PrintMore

theorem hexc_toNat (d : Nat) (h : d < 16) : (hexc d).toNat = if d < 10 then 48 + d else 87 + d := by
  have : ∀ d : Fin 16, (hexc d.val).toNat = if d.val < 10 then 48 + d.val else 87 + d.val := by decide
  exact this ⟨d, h⟩
theorem hexd_hexc (d : Nat) (h : d < 16) : hexd (hexc d).toNat = some d := by
  have : ∀ d : Fin 16, hexd (hexc d.val).toNat = some d.val := by decide
  exact this ⟨d, h⟩
/-- the digits, read from left to right. -/
theorem parse16_append : ∀ (a b : List UInt8) (acc n : Nat), parse16 acc a = .ok n → parse16 acc (a ++ b) = parse16 n b
  | [], b, acc, n, h => by
    simp only [parse16, Lib.NumEnd.ok.injEq] at h
    subst h; rfl
  | c :: a, b, acc, n, h => by
    simp only [parse16, List.cons_append] at h ⊢
    split at h
    · cases h
    · rename_i d hd
      split at h
      · cases h
      · rename_i hc
        rw [if_neg hc]
        exact parse16_append a b _ n h
theorem parse16_hexL (u : Nat) (hu : u < 18446744073709551616) : parse16 0 (hexL u) = .ok u := by
  induction u using Nat.strongRecOn with
  | _ u ih =>
    rw [hexL]
    split
    · rename_i h
      simp only [parse16, hexd_hexc u h]
      rw [if_neg (by omega), Nat.zero_mul, Nat.zero_add]
    · rename_i h
      rw [parse16_append _ _ 0 (u / 16) (ih (u / 16) (by omega) (by omega))]
      simp only [parse16, hexd_hexc (u % 16) (by omega)]
      rw [if_neg (by omega)]
      congr 1
      omega
theorem parse16_zeros : ∀ (n : Nat) (l : List UInt8), parse16 0 (List.replicate n 48 ++ l) = parse16 0 l
  | 0, l => rfl
  | n + 1, l => by
    rw [List.replicate_succ, List.cons_append]
    have h0 : hexd (48 : UInt8).toNat = some 0 := by decide
    simp only [parse16, h0]
    rw [if_neg (by omega)]
    exact parse16_zeros n l
theorem hexL_ne (u : Nat) : hexL u ≠ [] := by
  rw [hexL]; split <;> simp
theorem hex16_ne (u : Nat) : hex16 u ≠ [] := by
  unfold hex16; simp [hexL_ne]
theorem num16_hex16 (u : Nat) (hu : u < 18446744073709551616) : num16 (hex16 u) = u := by
  unfold num16
  rw [if_neg (hex16_ne u)]
  unfold hex16
  rw [parse16_zeros, parse16_hexL u hu]
/-! ### at base 10 -/
theorem dec_toNat (d : Nat) (h : d < 10) : (UInt8.ofNat (48 + d)).toNat = 48 + d := by
  simp; omega
theorem parse10_append : ∀ (a b : List UInt8) (acc n : Nat), Lib.parseUint10 acc a = .ok n → Lib.parseUint10 acc (a ++ b) = Lib.parseUint10 n b
  | [], b, acc, n, h => by
    simp only [Lib.parseUint10, Lib.NumEnd.ok.injEq] at h
    subst h; rfl
  | c :: a, b, acc, n, h => by
    simp only [Lib.parseUint10, List.cons_append] at h ⊢
    split at h
    · rename_i hd
      rw [if_pos hd]
      split at h
      · cases h
      · rename_i h1
        rw [if_neg h1]
        split at h
        · cases h
        · rename_i h2
          rw [if_neg h2]
          exact parse10_append a b _ n h
    · cases h
theorem parse10_dec (u : Nat) (hu : u < 18446744073709551616) : Lib.parseUint10 0 (Lib.decDigits u) = .ok u := by
  induction u using Nat.strongRecOn with
  | _ u ih =>
    rw [Lib.decDigits]
    split
    · rename_i h
      simp only [Lib.parseUint10, dec_toNat u h]
      rw [if_pos (by omega), if_neg (by omega), if_neg (by omega)]
      congr 1; omega
    · rename_i h
      rw [parse10_append _ _ 0 (u / 10) (ih (u / 10) (by omega) (by omega))]
      simp only [Lib.parseUint10, dec_toNat (u % 10) (by omega)]
      rw [if_pos (by omega), if_neg (by omega), if_neg (by omega)]
      congr 1; omega
theorem dec_digit (u : Nat) : ∀ c ∈ Lib.decDigits u, 48 ≤ c.toNat ∧ c.toNat ≤ 57 := by
  induction u using Nat.strongRecOn with
  | _ u ih =>
    intro c hc
    rw [Lib.decDigits] at hc
    split at hc
    · rename_i h
      simp only [List.mem_singleton] at hc
      subst hc
      rw [dec_toNat u h]; omega
    · rename_i h
      rcases List.mem_append.1 hc with hc | hc
      · exact ih (u / 10) (by omega) c hc
      · simp only [List.mem_singleton] at hc
        subst hc
        rw [dec_toNat (u % 10) (by omega)]; omega
theorem dec_ne (u : Nat) : Lib.decDigits u ≠ [] := by
  rw [Lib.decDigits]; split <;> simp
theorem parseInt_itoa (n : Int) (h : -9223372036854775808 ≤ n ∧ n ≤ 9223372036854775807) : Lib.parseIntB 64 (Lib.itoa n) = .ok n := by
  rw [Lib.parseIntB_64]
  unfold Lib.itoa
  split
  · rename_i hn
    have hm : Lib.parseMag (Lib.decDigits n.natAbs) = .ok n.natAbs := by unfold Lib.parseMag; rw [if_neg (dec_ne _), parse10_dec _ (by omega)]
    simp only [Lib.atoiAll]
    have e : (45 : UInt8).toNat = 45 := rfl
    simp only [e, or_true, if_true, hm, not_true_eq_false, false_and, if_false, true_and]
    rw [if_neg (by omega)]
    congr 1; omega
  · rename_i hn
    have hm : Lib.parseMag (Lib.decDigits n.toNat) = .ok n.toNat := by unfold Lib.parseMag; rw [if_neg (dec_ne _), parse10_dec _ (by omega)]
    cases hd : Lib.decDigits n.toNat with
    | nil => exact absurd hd (dec_ne _)
    | cons c r =>
      have hc := dec_digit n.toNat c (by rw [hd]; exact List.mem_cons_self ..)
      rw [hd] at hm
      simp only [Lib.atoiAll]
      have e1 : ¬ c.toNat = 43 := by omega
      have e2 : ¬ c.toNat = 45 := by omega
      have h1 : ¬ 9223372036854775808 ≤ n.toNat := by omega
      have h2 : ((n.toNat : Nat) : Int) = n := by omega
      simp only [e1, e2, or_self, if_false, hm, not_false_eq_true, true_and, false_and, h1, h2]
theorem wrap64_rng (x : Int) : -9223372036854775808 ≤ wrap64 x ∧ wrap64 x ≤ 9223372036854775807 := by unfold wrap64; omega
def txt (k n : Int) (s : ByteArray) : ByteArray := ⟨(textL k n s).toArray⟩
theorem bt_cons (c : UInt8) (l : List UInt8) : bt ⟨(c :: l).toArray⟩ 0 = (c.toNat : Int) := by
  have := bt_nat ⟨(c :: l).toArray⟩ 0 (by simp [ByteArray.size])
  exact this
theorem extract_cons (c : UInt8) (l : List UInt8) : (⟨(c :: l).toArray⟩ : ByteArray).extract 1 (⟨(c :: l).toArray⟩ : ByteArray).size = ⟨l.toArray⟩ := by
  apply ba_eq
  rw [Lib.extract_data]
  have : (⟨(c :: l).toArray⟩ : ByteArray).size = l.length + 1 := by simp [ByteArray.size]
  rw [this]
  simp
theorem wrap_back (n : Int) (h : -9223372036854775808 ≤ n ∧ n ≤ 9223372036854775807) : wrap64 (IntKind.u64.wrap n) = n := by
  rw [IntKind.wrap_u64]; unfold wrap64; omega
theorem right_cases {k n : Int} {s : ByteArray} (h : rightB k n s = true) : (k = 1 ∧ s = ⟨#[]⟩) ∨ (k = 2 ∧ s = ⟨#[]⟩ ∧ floB n = true) ∨ (k = 3 ∧ n = 0 ∧ nameB s = true) := by
  unfold rightB at h
  split at h
  · exact Or.inl ⟨by assumption, ba_zero (by simpa using h)⟩
  · split at h
    · simp only [Bool.and_eq_true, decide_eq_true_eq] at h
      exact Or.inr (Or.inl ⟨by assumption, ba_zero h.1, h.2⟩)
    · split at h
      · simp only [Bool.and_eq_true, decide_eq_true_eq] at h
        exact Or.inr (Or.inr ⟨by assumption, h.1, h.2⟩)
      · cases h
theorem name_head {s : ByteArray} (h : nameB s = true) : ∃ c l, s.data.toList = c :: l ∧ 97 ≤ c.toNat ∧ c.toNat ≤ 122 := by
  unfold nameB at h
  simp only [Bool.and_eq_true, decide_eq_true_eq] at h
  cases hl : s.data.toList with
  | nil => have : s.size = 0 := by rw [Lib.size_eq, hl]; rfl
           omega
  | cons c l =>
    have hs : s = ⟨(c :: l).toArray⟩ := by rw [← hl, ba_eta]
    rw [hs, bt_cons] at h
    exact ⟨c, l, rfl, by omega, by omega⟩
theorem itoa_head (n : Int) : ∃ c l, Lib.itoa n = c :: l ∧ (c.toNat = 45 ∧ n < 0 ∧ l = Lib.decDigits n.natAbs ∨ 48 ≤ c.toNat ∧ c.toNat ≤ 57 ∧ 0 ≤ n ∧ c :: l = Lib.decDigits n.toNat) := by
  unfold Lib.itoa
  split
  · exact ⟨45, _, rfl, Or.inl ⟨rfl, by assumption, rfl⟩⟩
  · cases hd : Lib.decDigits n.toNat with
    | nil => exact absurd hd (dec_ne _)
    | cons c l =>
      have hc := dec_digit n.toNat c (by rw [hd]; exact List.mem_cons_self ..)
      exact ⟨c, l, rfl, Or.inr ⟨hc.1, hc.2, by omega, rfl⟩⟩
theorem prefix35 (c : UInt8) (l : List UInt8) (h : c.toNat ≠ 35) : Lib.hasPrefix (c :: l) [35] = false := by
  unfold Lib.hasPrefix
  have : ((35 : UInt8) == c) = false := by rw [beq_eq_false_iff_ne]; rintro rfl; exact h rfl
  simp [List.isPrefixOf, this]
theorem cand_code (k n : Int) (s : ByteArray) (hr : rightB k n s = true) (hn : -9223372036854775808 ≤ n ∧ n ≤ 9223372036854775807) :
    candR (txt k n s) = (k, n, s) ∧ textL k n s ≠ [] := by
  have ht : textL k n s = if k = 1 then Lib.itoa n else if k = 2 then 35 :: hex16 (IntKind.u64.wrap n).toNat else s.data.toList := by unfold textL; rw [if_pos hr]
  unfold txt
  rcases right_cases hr with ⟨rfl, rfl⟩ | ⟨rfl, rfl, hf⟩ | ⟨rfl, rfl, hN⟩
  · rw [if_pos rfl] at ht
    rw [ht]
    obtain ⟨c, l, he, hc⟩ := itoa_head n
    have hp := parseInt_itoa n hn
    rw [he] at hp ⊢
    refine ⟨?_, by simp⟩
    · unfold candR
      rw [if_neg (by rw [prefix35 c l (by omega)]; simp)]
      simp only [hp]
  · rw [if_neg (by omega), if_pos rfl] at ht
    rw [ht]
    have hw := wrap_u64 n
    obtain ⟨u, hu⟩ : ∃ u : Nat, IntKind.u64.wrap n = (u : Int) := ⟨_, (Int.toNat_of_nonneg hw.1).symm⟩
    rw [hu, Int.toNat_natCast]
    have hu2 : u < 18446744073709551616 := by omega
    have hb := wrap_back n hn
    rw [hu] at hb
    refine ⟨?_, by simp⟩
    · unfold candR
      have h1 : Lib.hasPrefix (35 :: hex16 u) [35] = true := by simp [Lib.hasPrefix, List.isPrefixOf]
      have h2 : Lib.trimPrefix (35 :: hex16 u) [35] = hex16 u := by unfold Lib.trimPrefix; rw [if_pos h1]; rfl
      simp only [h1, if_true, h2, num16_hex16 u hu2, hb]
  · rw [if_neg (by omega), if_neg (by omega)] at ht
    obtain ⟨c, l, he, h1, h2⟩ := name_head hN
    rw [ht, ba_eta]
    have hs : s = ⟨(c :: l).toArray⟩ := by rw [← he, ba_eta]
    refine ⟨?_, by rw [he]; simp⟩
    · unfold candR
      rw [he, if_neg (by rw [prefix35 c l (by omega)]; simp)]
      have hp : Lib.parseIntB 64 (c :: l) = .syntax := by
        rw [Lib.parseIntB_64]
        have e1 : ¬ (c.toNat = 43 ∨ c.toNat = 45) := by omega
        have hm : Lib.parseMag (c :: l) = .syntax := by
          unfold Lib.parseMag
          rw [if_neg (by simp)]
          simp only [Lib.parseUint10]
          rw [if_neg (by omega)]
        simp only [Lib.atoiAll, e1, if_false, hm]
      rw [hp]
theorem candR_rng (t : ByteArray) : -9223372036854775808 ≤ (candR t).2.1 ∧ (candR t).2.1 ≤ 9223372036854775807 := by
  unfold candR
  split
  · exact wrap64_rng _
  · split
    · rename_i n h
      have := Lib.parseIntB_bounds h
      have e : ((2 ^ (64 - 1) : Nat) : Int) = 9223372036854775808 := by decide
      rw [e] at this
      show -9223372036854775808 ≤ n ∧ n ≤ 9223372036854775807
      omega
    · show -9223372036854775808 ≤ (0 : Int) ∧ (0 : Int) ≤ 9223372036854775807
      omega
theorem text_right {k n : Int} {s : ByteArray} (h : textL k n s ≠ []) : rightB k n s = true := by
  unfold textL at h
  split at h
  · assumption
  · exact absurd rfl h
theorem data_ne {t : ByteArray} (h : t.size ≠ 0) : t.data.toList ≠ [] := fun e => h (by rw [Lib.size_eq, e]; rfl)
/-- what is told as a text is read as it was. -/
theorem readR_text (k n : Int) (s : ByteArray) (hr : rightB k n s = true) (hn : -9223372036854775808 ≤ n ∧ n ≤ 9223372036854775807) : readR (txt k n s) = (k, n, s, 0) := by
  obtain ⟨h1, h3⟩ := cand_code k n s hr hn
  unfold readR
  rw [h1]
  have h0 : (txt k n s).size ≠ 0 := fun h => h3 (by
    have : (txt k n s).data.toList = textL k n s := by simp [txt]
    rw [← this]
    exact List.length_eq_zero_iff.1 (by rw [← Lib.size_eq]; exact h))
  rw [if_neg]
  rintro (h | h)
  · exact h0 h
  · exact h (by simp [txt])
/-- what is read is told as it stood. -/
theorem readR_cases (t : ByteArray) : readR t = (0, 0, ⟨#[]⟩, 2) ∨ ∃ k n s, readR t = (k, n, s, 0) ∧ rightB k n s = true ∧ textL k n s = t.data.toList ∧ -9223372036854775808 ≤ n ∧ n ≤ 9223372036854775807 := by
  unfold readR
  by_cases h : t.size = 0 ∨ textL (candR t).1 (candR t).2.1 (candR t).2.2 ≠ t.data.toList
  · rw [if_pos h]; exact Or.inl rfl
  · rw [if_neg h]
    have h1 : textL (candR t).1 (candR t).2.1 (candR t).2.2 = t.data.toList := Decidable.not_not.1 (fun h2 => h (Or.inr h2))
    have h0 : t.size ≠ 0 := fun h2 => h (Or.inl h2)
    exact Or.inr ⟨_, _, _, rfl, text_right (by rw [h1]; exact data_ne h0), h1, candR_rng t⟩
theorem read_f (t : ByteArray) (h : t.size ≤ 281474976710656) : value_Read.f t = some (readR t) := by unfold value_Read.f; rw [if_pos h]
end Go.Proofs.YtklpbdmmmloejaaDoor.X
