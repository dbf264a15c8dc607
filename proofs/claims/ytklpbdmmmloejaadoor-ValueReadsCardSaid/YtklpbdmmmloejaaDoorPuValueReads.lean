/-
  ValueReads, in plain Lean.
-/
import Derived.Test.YtklpbdmmmloejaaDoorXtK
import Derived.Test.YtklpbdmmmloejaaDoorXx9
namespace Go.Proofs.YtklpbdmmmloejaaDoor.X
set_option linter.unusedVariables false
set_option linter.unusedSimpArgs false
open Go.RowKit Go.Proofs.YtklpbdmmmloejaaDoorW.PrintWords Go.Proofs.YtklpbdmmmloejaaDoorW.PrintLast Go.Proofs.YtklpbdmmmloejaaDoorW.PrintMore
theorem pureValueReads (t : ByteArray) (hs : t.size ≤ maxLen) :
    ∃ k, antecedentlaw02_ValueReads.f k t = some true := by
  refine ⟨200, ?_⟩
  unfold antecedentlaw02_ValueReads.f
  rw [awake_true 200 (by omega)]
  simp only [Option.bind_some, if_true]
  by_cases h1 : (t.size : Int) > 100
  · rw [decide_eq_true h1, show (200 : Nat) = 199 + 1 from rfl]
    simp only [antecedentlaw02_ValueReads.j0, if_true, awake_true 199 (by omega), Option.bind_some]
  · rw [decide_eq_false h1, show (200 : Nat) = 199 + 1 from rfl]
    simp only [antecedentlaw02_ValueReads.j0, Bool.false_eq_true, if_false]
    rw [read_f t (by omega), ref02_Read_eq t 199 (by omega), refR_eq]
    simp
end Go.Proofs.YtklpbdmmmloejaaDoor.X
