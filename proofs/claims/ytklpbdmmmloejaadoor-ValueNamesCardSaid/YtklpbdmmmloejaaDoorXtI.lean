/-
  WAYS TO TELL NUMBERS, in plain Lean; small words on strings.
-/
import Derived.Test.YtklpbdmmmloejaaDoorXtT
namespace Go.Proofs.YtklpbdmmmloejaaDoor.X
set_option linter.unusedVariables false
set_option linter.unusedSimpArgs false
open Go.RowKit Go.Proofs.YtklpbdmmmloejaaDoorW.PrintWords Go.Proofs.YtklpbdmmmloejaaDoorW.PrintLast Go.Proofs.YtklpbdmmmloejaaDoorW.PrintMore

theorem nDigits_le : ∀ (d u : Nat), u < 10 ^ (d + 1) → Lib.nDigits u ≤ d + 1
  | 0, u, h => by rw [Lib.nDigits_small (by simpa using h)]; exact Nat.le_refl _
  | d + 1, u, h => by
    by_cases h1 : u < 10
    · rw [Lib.nDigits_small h1]; omega
    · rw [Lib.nDigits_big h1]
      have := nDigits_le d (u / 10) (by rw [Nat.pow_succ] at h; omega)
      omega
theorem nDigits_20 (u : Nat) (h : u ≤ 9223372036854775808) : Lib.nDigits u ≤ 20 := nDigits_le 19 u (Nat.lt_of_le_of_lt h (by decide))
/-- a way to tell numbers at a base of at most 16. -/
structure TellsBase (b : Nat) (l : Nat → List UInt8) : Prop where
  two : 2 ≤ b
  most : b ≤ 16
  one : ∀ u, u < b → l u = [hexc u]
  more : ∀ u, b ≤ u → l u = l (u / b) ++ [hexc (u % b)]
theorem tells10 : TellsBase 10 Lib.decDigits where
  two := by omega
  most := by omega
  one u h := by rw [Lib.decDigits, dif_pos h]; unfold hexc; rw [if_pos h]
  more u h := by
    rw [Lib.decDigits, dif_neg (by omega)]
    unfold hexc
    rw [if_pos (Nat.mod_lt _ (by omega))]
theorem tells16 : TellsBase 16 hexL where
  two := by omega
  most := by omega
  one u h := by rw [hexL, dif_pos h]
  more u h := by rw [hexL, dif_neg (by omega)]
theorem ba_eta (s : ByteArray) : (⟨s.data.toList.toArray⟩ : ByteArray) = s := by cases s; rfl
theorem ba_append (a b : ByteArray) : (a ++ b).data.toList = a.data.toList ++ b.data.toList := by simp
theorem ba_eq {a b : ByteArray} (h : a.data.toList = b.data.toList) : a = b := ByteArray.ext (Array.toList_inj.1 h)
end Go.Proofs.YtklpbdmmmloejaaDoor.X
