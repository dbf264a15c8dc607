/-
  TupleCompares, in plain Lean.
-/
import Derived.Test.YtepgdjbjcnolnaaDoorXtK
import Derived.Test.YtepgdjbjcnolnaaDoorXtR
import Derived.Test.YtepgdjbjcnolnaaDoorXx8
namespace Go.Proofs.YtepgdjbjcnolnaaDoor.X
set_option linter.unusedVariables false
set_option linter.unusedSimpArgs false
open Go.RowKit Go.Proofs.YtepgdjbjcnolnaaDoorW.PrintWords Go.Proofs.YtepgdjbjcnolnaaDoorW.PrintLast Go.Proofs.YtepgdjbjcnolnaaDoorW.PrintMore
theorem pureTupleCompares (a : List S38) (ha : ∀ x ∈ a, okS x = true) (b : List S38) (hb : ∀ x ∈ b, okS x = true) (p : List Int) (hp : ∀ x ∈ p, -9223372036854775808 ≤ x ∧ x ≤ 9223372036854775807) :
    ∃ k, antecedentlaw03_TupleCompares.f k a b p = some true := by
  refine ⟨200, ?_⟩
  unfold antecedentlaw03_TupleCompares.f
  rw [awake_true 200 (by omega)]
  simp only [Option.bind_some, if_true]
  have hy : antecedentlaw03_TupleCompares.j0 200 a b p true = some true := by
    rw [show (200 : Nat) = 199 + 1 from rfl]
    simp only [antecedentlaw03_TupleCompares.j0, if_true, awake_true 199 (by omega), Option.bind_some]
  by_cases h1 : (a.length : Int) > 40
  · rw [if_pos h1]; exact hy
  · rw [if_neg h1]
    by_cases h2 : (b.length : Int) > 40
    · rw [if_pos h2]; exact hy
    · rw [if_neg h2]
      by_cases h3 : (p.length : Int) > 40
      · rw [decide_eq_true h3]; exact hy
      · rw [decide_eq_false h3, show (200 : Nat) = 199 + 1 from rfl]
        simp only [antecedentlaw03_TupleCompares.j0, Bool.false_eq_true, if_false]
        rw [tuple_Compare_eq a b p (by omega), ref03_Compare_eq a b p (by omega) 199 (by omega)]
        simp
end Go.Proofs.YtepgdjbjcnolnaaDoor.X
