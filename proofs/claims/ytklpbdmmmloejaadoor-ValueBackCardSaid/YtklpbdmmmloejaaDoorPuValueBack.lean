/-
  ValueBack, in plain Lean.
-/
import Derived.Test.YtklpbdmmmloejaaDoorXtK
import Derived.Test.YtklpbdmmmloejaaDoorXx9
namespace Go.Proofs.YtklpbdmmmloejaaDoor.X
set_option linter.unusedVariables false
set_option linter.unusedSimpArgs false
open Go.RowKit Go.Proofs.YtklpbdmmmloejaaDoorW.PrintWords Go.Proofs.YtklpbdmmmloejaaDoorW.PrintLast Go.Proofs.YtklpbdmmmloejaaDoorW.PrintMore
theorem back_text (t : ByteArray) (ht : t.size ≤ 100) : antecedentlaw02_ValueBack.j1 100 t false = some true := by
  rw [show (100 : Nat) = 99 + 1 from rfl]
  simp only [antecedentlaw02_ValueBack.j1, Bool.false_eq_true, if_false]
  rw [read_f t (by omega)]
  simp only [Option.bind_some]
  rcases readR_cases t with h | ⟨k, n, s, h, hr, hT, hn⟩
  · rw [h]
    have : (⟨#[]⟩ : ByteArray).toList = [] := (toList_nil _).2 rfl
    simp [this]
  · rw [h]
    simp only [if_true]
    rw [value_Text_eq k n s hn]
    simp only [Option.bind_some]
    rw [txt_list, hT, toList_data, if_pos rfl, value_Right_eq 99 (by omega), hr]
    rfl
theorem pureValueBack (a : S23) (ha : okS a = true) (hsa : a.f2.size ≤ maxLen) (t : ByteArray) (hs : t.size ≤ maxLen) :
    ∃ k, antecedentlaw02_ValueBack.f k a.f0 a.f1 a.f2 t = some true := by
  refine ⟨101, ?_⟩
  unfold antecedentlaw02_ValueBack.f
  rw [awake_true 101 (by omega)]
  simp only [Option.bind_some, if_true]
  by_cases h1 : (t.size : Int) > 100
  · rw [decide_eq_true h1, show (101 : Nat) = 100 + 1 from rfl]
    simp only [antecedentlaw02_ValueBack.j0, if_true, awake_true 100 (by omega), Option.bind_some]
  · rw [decide_eq_false h1, show (101 : Nat) = 100 + 1 from rfl]
    have hn := okS_n ha
    have hT := back_text t (by omega)
    have hl := textL_length a.f0 a.f1 a.f2 hn
    have hsz : (txt a.f0 a.f1 a.f2).size = (textL a.f0 a.f1 a.f2).length := by simp [txt, ByteArray.size]
    simp only [antecedentlaw02_ValueBack.j0, Bool.false_eq_true, if_false]
    rw [value_Text_eq _ _ _ hn]
    simp only [Option.bind_some]
    rw [read_f _ (by omega), value_Right_eq 100 (by omega)]
    simp only [Option.bind_some]
    cases hr : rightB a.f0 a.f1 a.f2 with
    | true =>
      rw [readR_text _ _ _ hr hn]
      simp [hT]
    | false =>
      have ht0 : textL a.f0 a.f1 a.f2 = [] := by unfold textL; rw [if_neg (by rw [hr]; simp)]
      have hx : txt a.f0 a.f1 a.f2 = ⟨#[]⟩ := by unfold txt; rw [ht0]
      have he : (⟨#[]⟩ : ByteArray).toList = [] := (toList_nil _).2 rfl
      rw [hx, readR_empty]
      simp [he, hT]
end Go.Proofs.YtklpbdmmmloejaaDoor.X
