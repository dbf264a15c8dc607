/-
  ValueTells, in plain Lean.
-/
import Derived.Test.YtklpbdmmmloejaaDoorXtK
import Derived.Test.YtklpbdmmmloejaaDoorXx8
namespace Go.Proofs.YtklpbdmmmloejaaDoor.X
set_option linter.unusedVariables false
set_option linter.unusedSimpArgs false
open Go.RowKit Go.Proofs.YtklpbdmmmloejaaDoorW.PrintWords Go.Proofs.YtklpbdmmmloejaaDoorW.PrintLast Go.Proofs.YtklpbdmmmloejaaDoorW.PrintMore
theorem pureValueTells (a : S23) (ha : okS a = true) (hsa : a.f2.size ≤ maxLen) (b : S23) (hb : okS b = true) (hsb : b.f2.size ≤ maxLen) (s : ByteArray) (hs : s.size ≤ maxLen) :
    ∃ k, antecedentlaw02_ValueTells.f k a.f0 a.f1 a.f2 b.f0 b.f1 b.f2 s = some true := by
  refine ⟨200, ?_⟩
  unfold antecedentlaw02_ValueTells.f
  rw [awake_true 200 (by omega)]
  simp only [Option.bind_some, if_true]
  by_cases h1 : (s.size : Int) > 100
  · rw [decide_eq_true h1, show (200 : Nat) = 199 + 1 from rfl]
    simp only [antecedentlaw02_ValueTells.j0, if_true, awake_true 199 (by omega), Option.bind_some]
  · rw [decide_eq_false h1, show (200 : Nat) = 199 + 1 from rfl]
    simp only [antecedentlaw02_ValueTells.j0, Bool.false_eq_true, if_false]
    rw [value_Name_eq s 199 (by omega)]
    unfold antecedentref02_Name.f
    simp only [Option.bind_some, beq_self_eq_true, if_true]
    rw [value_Right_eq 199 (by omega), ref02_Right_eq]
    simp only [Option.bind_some, beq_self_eq_true, if_true]
    rw [value_Compare_eq a b 199 (by omega), ref02_Compare_eq a b]
    simp only [Option.bind_some, if_true]
    rw [value_Text_eq _ _ _ (okS_n ha), ref02_Text_eq _ _ _ 199 (by omega) (okS_n ha)]
    simp [txt]
end Go.Proofs.YtklpbdmmmloejaaDoor.X
