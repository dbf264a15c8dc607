/-
  The reference's Digits and Text of one value: the digits that the library tells.
-/
import Derived.Test.YtklpbdmmmloejaaDoorXtI
import Derived.Test.YtklpbdmmmloejaaDoorXx3
import Derived.Test.YtklpbdmmmloejaaDoorXx2
import Derived.Test.YtklpbdmmmloejaaDoorXx4
namespace Go.Proofs.YtklpbdmmmloejaaDoor.X
set_option linter.unusedVariables false
set_option linter.unusedSimpArgs false
open Go.RowKit Go.Proofs.YtklpbdmmmloejaaDoorW.PrintWords Go.Proofs.YtklpbdmmmloejaaDoorW.PrintLast Go.Proofs.YtklpbdmmmloejaaDoorW.PrintMore

theorem str1 (x : Int) (c : UInt8) (h : UInt8.ofNat x.toNat = c) : strOfNums [x] = ⟨#[c]⟩ := by
  subst h; rfl
theorem digits_step (b : Nat) (l : Nat → List UInt8) (hT : TellsBase b l) (k u : Nat) (acc : ByteArray) (hu : u < 18446744073709551616) (ha : acc.size ≤ 1000) :
    antecedentref02_Digits.j1 (k + 1) (u : Int) (b : Int) acc true = antecedentref02_Digits.l0 k ((u / b : Nat) : Int) (b : Int) (⟨#[hexc (u % b)]⟩ ++ acc) := by
  have hb := hT.two
  have hb2 := hT.most
  have hm : Int.tmod (u : Int) (b : Int) = ((u % b : Nat) : Int) := by rw [Int.tmod_eq_emod_of_nonneg (by omega)]; rfl
  have hd : IntKind.u64.wrap (Int.tdiv (u : Int) (b : Int)) = ((u / b : Nat) : Int) := by
    rw [Int.tdiv_eq_ediv_of_nonneg (by omega), IntKind.wrap_u64]
    have h1 : (u : Int) / (b : Int) = ((u / b : Nat) : Int) := rfl
    have h2 : u / b ≤ u := Nat.div_le_self _ _
    rw [h1]
    generalize u / b = q at h2
    omega
  have hlt : u % b < b := Nat.mod_lt _ (by omega)
  simp only [antecedentref02_Digits.j1, if_true, hm, hd]
  rw [if_neg (by omega)]
  generalize hr : u % b = r at hlt ⊢
  split
  · rename_i h
    simp only [Option.bind_some]
    rw [str1 _ (hexc r) (by
      have h1 : ((97 + (r : Int) % 256) % 256 - 10) % 256 = ((87 + r : Nat) : Int) := by omega
      rw [h1, Int.toNat_natCast]; unfold hexc; rw [if_neg (by omega)])]
    rw [if_pos (by show 1 + acc.size ≤ _; omega)]
  · rename_i h
    simp only [Option.bind_some]
    rw [str1 _ (hexc r) (by
      have h1 : ((48 : Int) + (r : Int) % 256) % 256 = ((48 + r : Nat) : Int) := by omega
      rw [h1, Int.toNat_natCast]; unfold hexc; rw [if_pos (by omega)])]
    rw [if_pos (by show 1 + acc.size ≤ _; omega)]
theorem cat_one (c : UInt8) (l acc : List UInt8) : (⟨l.toArray⟩ : ByteArray) ++ (⟨#[c]⟩ ++ (⟨acc.toArray⟩ : ByteArray)) = ⟨(l ++ [c] ++ acc).toArray⟩ := by
  apply ByteArray.ext
  simp
theorem digits_loop (b : Nat) (l : Nat → List UInt8) (hT : TellsBase b l) : ∀ (d u k : Nat) (acc : ByteArray), u < b ^ (d + 1) → d ≤ 70 → acc.size + d ≤ 900 → u < 18446744073709551616 → (0 < u ∨ acc.size = 0) → 2 * d + 6 ≤ k →
    antecedentref02_Digits.l0 k (u : Int) (b : Int) acc = some (⟨(l u).toArray⟩ ++ acc) := by
  intro d
  induction d with
  | zero =>
    intro u k acc hu hd ha hu2 h0 hk
    obtain ⟨k, rfl⟩ : ∃ j, k = j + 4 := ⟨k - 4, by omega⟩
    have hb := hT.two
    have e : antecedentref02_Digits.l0 (k + 4) (u : Int) (b : Int) acc = antecedentref02_Digits.j1 (k + 3) (u : Int) (b : Int) acc true := by
      rw [show k + 4 = (k + 3) + 1 from rfl]
      simp only [antecedentref02_Digits.l0]
      rcases h0 with h0 | h0
      · rw [if_pos (by omega)]
      · split
        · rfl
        · rw [show (acc.toList == ([] : List UInt8)) = true from by rw [beq_iff_eq]; exact (toList_nil acc).2 h0]
    rw [e, show k + 3 = (k + 2) + 1 from rfl, digits_step b l hT (k + 2) u acc hu2 (by omega)]
    have hu' : u < b := by simpa using hu
    rw [Nat.div_eq_of_lt hu', Nat.mod_eq_of_lt hu', show k + 2 = (k + 1) + 1 from rfl]
    simp only [antecedentref02_Digits.l0]
    rw [if_neg (by omega), show ((⟨#[hexc u]⟩ ++ acc : ByteArray).toList == ([] : List UInt8)) = false from by
      rw [beq_eq_false_iff_ne]; intro h
      have := (toList_nil _).1 h
      rw [ByteArray.size_append] at this
      change 1 + acc.size = 0 at this; omega]
    simp only [antecedentref02_Digits.j1, Bool.false_eq_true, if_false]
    rw [hT.one u hu']
  | succ d ih =>
    intro u k acc hu hd ha hu2 h0 hk
    obtain ⟨k, rfl⟩ : ∃ j, k = j + 2 := ⟨k - 2, by omega⟩
    have hb := hT.two
    have e : antecedentref02_Digits.l0 (k + 2) (u : Int) (b : Int) acc = antecedentref02_Digits.j1 (k + 1) (u : Int) (b : Int) acc true := by
      rw [show k + 2 = (k + 1) + 1 from rfl]
      simp only [antecedentref02_Digits.l0]
      rcases h0 with h0 | h0
      · rw [if_pos (by omega)]
      · split
        · rfl
        · rw [show (acc.toList == ([] : List UInt8)) = true from by rw [beq_iff_eq]; exact (toList_nil acc).2 h0]
    rw [e, digits_step b l hT k u acc hu2 (by omega)]
    have hs : (⟨#[hexc (u % b)]⟩ ++ acc : ByteArray).size = 1 + acc.size := by rw [ByteArray.size_append]; rfl
    by_cases hz : b ≤ u
    · have hp : 0 < u / b := Nat.div_pos hz (by omega)
      have h2 : u / b ≤ u := Nat.div_le_self _ _
      rw [ih (u / b) k _ (by rw [Nat.pow_succ] at hu; exact Nat.div_lt_of_lt_mul (by rw [Nat.mul_comm]; exact hu)) (by omega) (by omega) (by omega) (Or.inl hp) (by omega)]
      rw [hT.more u hz]
      congr 1
      apply ba_eq
      simp
    · obtain ⟨k, rfl⟩ : ∃ j, k = j + 2 := ⟨k - 2, by omega⟩
      have hu' : u < b := by omega
      rw [Nat.div_eq_of_lt hu', Nat.mod_eq_of_lt hu', show k + 2 = (k + 1) + 1 from rfl]
      simp only [antecedentref02_Digits.l0]
      rw [if_neg (by omega), show ((⟨#[hexc u]⟩ ++ acc : ByteArray).toList == ([] : List UInt8)) = false from by
        rw [beq_eq_false_iff_ne]; intro h
        have := (toList_nil _).1 h
        rw [ByteArray.size_append] at this
        change 1 + acc.size = 0 at this; omega]
      simp only [antecedentref02_Digits.j1, Bool.false_eq_true, if_false]
      rw [hT.one u hu']
theorem ba_nil (a : ByteArray) : a ++ (⟨#[]⟩ : ByteArray) = a := by apply ba_eq; simp
theorem ref02_Digits_10 (u k : Nat) (hu : u < 18446744073709551616) (hk : 46 ≤ k) : antecedentref02_Digits.f k (u : Int) 10 = some ⟨(Lib.decDigits u).toArray⟩ := by
  unfold antecedentref02_Digits.f
  have := digits_loop 10 _ tells10 19 u k ⟨#[]⟩ (Nat.lt_of_lt_of_le hu (by decide)) (by omega) (by show 0 + 19 ≤ 900; omega) hu (Or.inr rfl) (by omega)
  rw [ba_nil] at this
  exact this
theorem ref02_Digits_16 (u k : Nat) (hu : u < 18446744073709551616) (hk : 46 ≤ k) : antecedentref02_Digits.f k (u : Int) 16 = some ⟨(hexL u).toArray⟩ := by
  unfold antecedentref02_Digits.f
  have := digits_loop 16 _ tells16 19 u k ⟨#[]⟩ (Nat.lt_of_lt_of_le hu (by decide)) (by omega) (by show 0 + 19 ≤ 900; omega) hu (Or.inr rfl) (by omega)
  rw [ba_nil] at this
  exact this
theorem pad_loop (l : List UInt8) : ∀ (d k : Nat), 16 - l.length = d → l.length ≤ 16 → d < k →
    antecedentref02_Text.l0 k ⟨l.toArray⟩ = some ⟨(35 :: (List.replicate (16 - l.length) 48 ++ l)).toArray⟩ := by
  intro d
  induction d generalizing l with
  | zero =>
    intro k h1 h2 hk
    obtain ⟨k, rfl⟩ : ∃ j, k = j + 1 := ⟨k - 1, by omega⟩
    have hl : l.length = 16 := by omega
    simp only [antecedentref02_Text.l0]
    have hs : (⟨l.toArray⟩ : ByteArray).size = 16 := by simp [ByteArray.size, hl]
    rw [hs, if_neg (by omega), if_pos (by omega), hl]
    rfl
  | succ d ih =>
    intro k h1 h2 hk
    obtain ⟨k, rfl⟩ : ∃ j, k = j + 1 := ⟨k - 1, by omega⟩
    simp only [antecedentref02_Text.l0]
    have hs : (⟨l.toArray⟩ : ByteArray).size = l.length := by simp [ByteArray.size]
    rw [hs, if_pos (by omega), if_pos (by omega)]
    have e : (⟨#[48]⟩ : ByteArray) ++ ⟨l.toArray⟩ = ⟨(48 :: l).toArray⟩ := by apply ba_eq; simp
    rw [e, ih (48 :: l) k (by simp; omega) (by simp; omega) (by omega)]
    have e2 : List.replicate (16 - l.length) (48 : UInt8) ++ l = List.replicate (16 - (48 :: l).length) 48 ++ 48 :: l := by
      rw [show 16 - l.length = (16 - (48 :: l).length) + 1 from by simp; omega, List.replicate_succ']
      simp
    rw [e2]
theorem ref01_Right_eq (n : Int) : antecedentref01_Right.f n = some (floB n) := by
  unfold antecedentref01_Right.f floB
  by_cases h : n = 9221120237041090561
  · rw [if_pos h]; simp [h]
  · rw [if_neg h]
    by_cases h1 : n ≤ 9218868437227405312
    · rw [if_pos h1]; congr 1; simp [h, h1]
    · rw [if_neg h1]; congr 1; symm; simp [h]; omega
theorem ref02_Right_eq (a b : Int) (s : ByteArray) : antecedentref02_Right.f a b s = some (rightB a b s) := by
  unfold antecedentref02_Right.f rightB
  by_cases h1 : a = 1
  · rw [if_pos h1, if_pos h1]
    congr 1
    rw [Bool.eq_iff_iff, beq_iff_eq, decide_eq_true_iff, toList_nil]
  · rw [if_neg h1, if_neg h1]
    by_cases h2 : a = 2
    · rw [if_pos h2, if_pos h2]
      by_cases h3 : s.size = 0
      · rw [if_pos ((toList_nil s).2 h3), ref01_Right_eq]; simp [h3]
      · rw [if_neg (fun h => h3 ((toList_nil s).1 h))]; simp [h3]
    · rw [if_neg h2, if_neg h2]
      by_cases h3 : a = 3
      · rw [if_pos h3, if_pos h3]
        by_cases h4 : b = 0
        · rw [if_pos h4]; unfold antecedentref02_Name.f; simp [h4]
        · rw [if_neg h4]; simp [h4]
      · rw [if_neg h3, if_neg h3]
theorem ref02_Text_eq (a b : Int) (s : ByteArray) (k : Nat) (hk : 46 ≤ k) (hb : -9223372036854775808 ≤ b ∧ b ≤ 9223372036854775807) :
    antecedentref02_Text.f k a b s = some ⟨(textL a b s).toArray⟩ := by
  unfold antecedentref02_Text.f textL
  rw [ref02_Right_eq]
  simp only [Option.bind_some]
  by_cases hr : rightB a b s = true
  · rw [if_pos hr, if_pos hr]
    by_cases h1 : a = 1
    · rw [if_pos h1, if_pos h1]
      unfold Lib.itoa
      by_cases h2 : b < 0
      · rw [if_pos h2, if_pos h2]
        have e : IntKind.u64.wrap (-(IntKind.u64.wrap b)) = ((b.natAbs : Nat) : Int) := by simp only [IntKind.wrap_u64]; omega
        rw [e, ref02_Digits_10 _ k (by omega) hk]
        have hl : (Lib.decDigits b.natAbs).length ≤ 9223372036854775806 := by
          rw [Lib.decDigits_length]
          have := nDigits_20 b.natAbs (by omega)
          omega
        simp only [Option.bind_some]
        rw [if_pos (by simp only [ByteArray.size, List.size_toArray]; omega)]
        rfl
      · rw [if_neg h2, if_neg h2]
        have e : IntKind.u64.wrap b = ((b.toNat : Nat) : Int) := by rw [IntKind.wrap_u64]; omega
        rw [e, ref02_Digits_10 _ k (by omega) hk]
        rfl
    · rw [if_neg h1, if_neg h1]
      by_cases h2 : a = 2
      · rw [if_pos h2, if_pos h2]
        have hw := wrap_u64 b
        obtain ⟨u, hu⟩ : ∃ u : Nat, IntKind.u64.wrap b = (u : Int) := ⟨_, (Int.toNat_of_nonneg hw.1).symm⟩
        rw [hu, ref02_Digits_16 _ k (by omega) hk]
        simp only [Option.bind_some]
        have := hexL_length u 16 (by omega) (by omega)
        rw [pad_loop _ _ k rfl this.2 (by omega)]
        rfl
      · rw [if_neg h2, if_neg h2, ba_eta]
  · rw [if_neg hr, if_neg hr]
theorem textL_length (a b : Int) (s : ByteArray) (hb : -9223372036854775808 ≤ b ∧ b ≤ 9223372036854775807) : (textL a b s).length ≤ 40 := by
  unfold textL
  by_cases hr : rightB a b s = true
  · rw [if_pos hr]
    by_cases h1 : a = 1
    · rw [if_pos h1]
      unfold Lib.itoa
      split
      · have := nDigits_20 b.natAbs (by omega)
        simp [Lib.decDigits_length]; omega
      · have := nDigits_20 b.toNat (by omega)
        simp [Lib.decDigits_length]; omega
    · rw [if_neg h1]
      by_cases h2 : a = 2
      · rw [if_pos h2]
        have hw := wrap_u64 b
        have := hexL_length (IntKind.u64.wrap b).toNat 16 (by omega) (by omega)
        unfold hex16
        simp; omega
      · rw [if_neg h2]
        unfold rightB at hr
        rw [if_neg h1, if_neg h2] at hr
        by_cases h3 : a = 3
        · rw [if_pos h3] at hr
          simp only [Bool.and_eq_true, nameB, decide_eq_true_eq] at hr
          show s.size ≤ 40
          exact hr.2.1.2
        · rw [if_neg h3] at hr
          cases hr
  · rw [if_neg hr]; simp
end Go.Proofs.YtklpbdmmmloejaaDoor.X
