/-
  NAMES, in plain Lean: the code's Name and Right tell what 'nameB' and 'rightB' tell.
-/
import Derived.Test.YtklpbdmmmloejaaDoorXx2
import Derived.Test.YtklpbdmmmloejaaDoorXx2
import Derived.Test.YtklpbdmmmloejaaDoorXtA
namespace Go.Proofs.YtklpbdmmmloejaaDoor.X
set_option linter.unusedVariables false
set_option linter.unusedSimpArgs false
open Go.RowKit Go.Proofs.YtklpbdmmmloejaaDoorW.PrintWords Go.Proofs.YtklpbdmmmloejaaDoorW.PrintLast Go.Proofs.YtklpbdmmmloejaaDoorW.PrintMore

theorem toList_data (s : ByteArray) : s.toList = s.data.toList := ByteArray.toList_eq s
theorem toList_nil (s : ByteArray) : s.toList = ([] : List UInt8) ↔ s.size = 0 := by
  rw [toList_data]
  constructor
  · intro h; have := congrArg List.length h; simpa [data_length] using this
  · intro h; exact List.eq_nil_of_length_eq_zero (by rw [data_length]; exact h)
theorem value_letter_eq (c : Int) : value_letter.f c = some (decide (97 ≤ c ∧ c ≤ 122)) := by
  unfold value_letter.f
  by_cases h : c ≥ 97
  · rw [if_pos h]; congr 1; simp only [ge_iff_le] at h; simp [h]
  · rw [if_neg h]; congr 1; simp; omega
theorem value_inner_eq (c : Int) : value_inner.f c = some (okB c) := by
  unfold value_inner.f okB
  rw [value_letter_eq]
  simp only [Option.bind_some]
  by_cases h : 97 ≤ c ∧ c ≤ 122
  · simp [h]
  · simp only [h, decide_false, Bool.false_or]
    rw [if_neg (by simp)]
    by_cases h1 : c ≥ 48
    · rw [if_pos h1]
      by_cases h2 : c ≤ 57
      · rw [if_pos h2]; simp; omega
      · rw [if_neg h2]; congr 1; rw [Bool.eq_iff_iff]; simp; omega
    · rw [if_neg h1]; congr 1; rw [Bool.eq_iff_iff]; simp; omega
theorem wrap_succ {i : Int} {n : Nat} (h0 : 0 ≤ i) (h : i < (n : Int)) (hn : n ≤ 140737488355328) : wrap64 (i + 1) = i + 1 := by
  unfold wrap64
  omega
theorem value_Name_loop (s : ByteArray) (hs : s.size ≤ 40) : ∀ (d k : Nat) (i : Int), 0 ≤ i → (s.size : Int) - i = d → d < k → value_Name.l0 k s true (s.size : Int) i = some (nameFrom s d i)
  | 0, k, i, h0, hd, hk => by
    obtain ⟨k, rfl⟩ : ∃ m, k = m + 1 := ⟨k - 1, by omega⟩
    simp only [value_Name.l0, nameFrom]
    rw [if_neg (by omega)]
  | d + 1, k, i, h0, hd, hk => by
    obtain ⟨k, rfl⟩ : ∃ m, k = m + 1 := ⟨k - 1, by omega⟩
    simp only [value_Name.l0, nameFrom]
    rw [if_pos (by omega), if_pos h0, if_pos (by omega), value_inner_eq]
    simp only [Option.bind_some]
    cases hb : okB (bt s i) with
    | true =>
      rw [if_pos rfl, wrap_succ (n := s.size) h0 (by omega) (by omega), value_Name_loop s hs d k (i + 1) (by omega) (by omega) (by omega)]
      simp
    | false => simp
theorem value_Name_eq (s : ByteArray) (k : Nat) (hk : 42 ≤ k) : value_Name.f k s = some (nameB s) := by
  unfold value_Name.f nameB
  obtain ⟨k, rfl⟩ : ∃ m, k = m + 1 := ⟨k - 1, by omega⟩
  by_cases h0 : s.size = 0
  · rw [if_pos ((toList_nil s).2 h0)]
    simp [value_Name.j0, h0]
  · rw [if_neg (fun h => h0 ((toList_nil s).1 h))]
    by_cases h1 : (s.size : Int) > 40
    · rw [if_pos h1]
      have : ¬ (1 ≤ s.size ∧ s.size ≤ 40) := by omega
      simp [value_Name.j0, this]
    · rw [if_neg h1, if_pos (by omega), value_letter_eq]
      simp only [Option.bind_some]
      have hc : 1 ≤ s.size ∧ s.size ≤ 40 := by omega
      by_cases h2 : 97 ≤ bt s 0 ∧ bt s 0 ≤ 122
      · simp only [value_Name.j0, h2, hc, decide_true, Bool.not_true, Bool.true_and, and_self]
        rw [if_neg (by simp), value_Name_loop s (by omega) s.size k 0 (by omega) (by omega) (by omega)]
      · simp only [value_Name.j0, h2, decide_false, Bool.not_false, Bool.false_and, Bool.and_false, if_true]
/-- can a value be? -/
def floB (n : Int) : Bool := decide (n = 9221120237041090561) || (decide (-9218868437227405313 ≤ n) && decide (n ≤ 9218868437227405312))
def rightB (k n : Int) (s : ByteArray) : Bool :=
  if k = 1 then decide (s.size = 0) else if k = 2 then decide (s.size = 0) && floB n else if k = 3 then decide (n = 0) && nameB s else false
theorem flo_Right_eq (n : Int) : flo_Right.f n = some (floB n) := by
  unfold flo_Right.f floB
  by_cases h : n = 9221120237041090561
  · rw [if_pos h]; simp [h]
  · rw [if_neg h]
    by_cases h1 : n ≥ -9218868437227405313
    · rw [if_pos h1]; simp [h, h1]
    · rw [if_neg h1]; congr 1; symm; simp [h]; omega
theorem value_Right_eq (k : Nat) (hk : 42 ≤ k) (a b : Int) (s : ByteArray) : value_Right.f k a b s = some (rightB a b s) := by
  unfold value_Right.f rightB
  by_cases h1 : a = 1
  · rw [if_pos h1, if_pos h1]
    congr 1
    rw [Bool.eq_iff_iff, beq_iff_eq, decide_eq_true_iff, toList_nil]
  · rw [if_neg h1, if_neg h1]
    by_cases h2 : a = 2
    · rw [if_pos h2, if_pos h2]
      by_cases h3 : s.size = 0
      · rw [if_pos ((toList_nil s).2 h3), flo_Right_eq]; simp [h3]
      · rw [if_neg (fun h => h3 ((toList_nil s).1 h))]; simp [h3]
    · rw [if_neg h2, if_neg h2]
      by_cases h3 : a = 3
      · rw [if_pos h3, if_pos h3]
        by_cases h4 : b = 0
        · rw [if_pos h4, value_Name_eq s k hk]; simp [h4]
        · rw [if_neg h4]; simp [h4]
      · rw [if_neg h3, if_neg h3]
end Go.Proofs.YtklpbdmmmloejaaDoor.X
