/-
  THE LAWS' FIRST CALL ('awake') ANSWERS TRUE.
-/
import Derived.Test.YtklpbdmmmloejaaDoorXtJ
import Derived.Test.YtklpbdmmmloejaaDoorXtC
import Derived.Test.YtklpbdmmmloejaaDoorXtR
import Derived.Test.YtklpbdmmmloejaaDoorXx7
namespace Go.Proofs.YtklpbdmmmloejaaDoor.X
set_option linter.unusedVariables false
set_option linter.unusedSimpArgs false
open Go.RowKit Go.Proofs.YtklpbdmmmloejaaDoorW.PrintWords Go.Proofs.YtklpbdmmmloejaaDoorW.PrintLast Go.Proofs.YtklpbdmmmloejaaDoorW.PrintMore
theorem okS_n {x : S23} (h : okS x = true) : -9223372036854775808 ≤ x.f1 ∧ x.f1 ≤ 9223372036854775807 := by
  unfold okS at h
  simp only [Bool.and_eq_true, decide_eq_true_eq] at h
  omega
theorem right_17 : rightB 1 (-17) ⟨#[]⟩ = true := by decide
theorem text_17 : textL 1 (-17) ⟨#[]⟩ = [45, 49, 55] := by
  unfold textL
  rw [if_pos right_17, if_pos rfl]
  unfold Lib.itoa
  rw [if_pos (by omega)]
  have : (-17 : Int).natAbs = 17 := rfl
  rw [this, Lib.decDigits_two (by omega) (by omega)]
  rfl
theorem txt_17 : txt 1 (-17) ⟨#[]⟩ = ⟨#[45, 49, 55]⟩ := by unfold txt; rw [text_17]
theorem read_17 : value_Read.f ⟨#[45, 49, 55]⟩ = some (1, -17, ⟨#[]⟩, 0) := by
  rw [← txt_17, read_f _ (by rw [txt_17]; decide), readR_text 1 (-17) ⟨#[]⟩ right_17 (by omega)]
theorem value_Text_eq (k n : Int) (s : ByteArray) (h : -9223372036854775808 ≤ n ∧ n ≤ 9223372036854775807) : value_Text.f k n s = some (txt k n s) := by
  unfold value_Text.f; rw [if_pos h]; rfl
theorem txt_list (k n : Int) (s : ByteArray) : (txt k n s).toList = textL k n s := by rw [toList_data]; simp [txt]
theorem name_a1 : nameB ⟨#[97, 95, 49]⟩ = true := by decide
theorem cmp_17 : cmpV (⟨1, -17, ⟨#[]⟩⟩ : S23) ⟨3, 0, ⟨#[97]⟩⟩ = -1 := by decide
theorem awake_true (k : Nat) (hk : 60 ≤ k) : antecedentlaw02_awake.f k = some true := by
  unfold antecedentlaw02_awake.f
  rw [read_17]
  simp only [Option.bind_some, if_true]
  rw [if_pos (by rw [(toList_nil ⟨#[]⟩).2 rfl]; rfl), value_Text_eq _ _ _ (by omega)]
  simp only [Option.bind_some]
  rw [txt_list, text_17, if_pos rfl, value_Name_eq _ k (by omega), name_a1]
  simp only [Option.bind_some, if_true]
  rw [value_Right_eq k (by omega), right_17]
  simp only [Option.bind_some, if_true]
  have := value_Compare_eq (⟨1, -17, ⟨#[]⟩⟩ : S23) ⟨3, 0, ⟨#[97]⟩⟩ k (by omega)
  simp only at this
  rw [this, cmp_17]
  rfl
end Go.Proofs.YtklpbdmmmloejaaDoor.X
