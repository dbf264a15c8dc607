/-
  TupleOrder, in plain Lean.
-/
import Derived.Test.YtepgdjbjcnolnaaDoorXtO
import Derived.Test.YtepgdjbjcnolnaaDoorXtR
import Derived.Test.YtepgdjbjcnolnaaDoorXx9
namespace Go.Proofs.YtepgdjbjcnolnaaDoor.X
set_option linter.unusedVariables false
set_option linter.unusedSimpArgs false
open Go.RowKit Go.Proofs.YtepgdjbjcnolnaaDoorW.PrintWords Go.Proofs.YtepgdjbjcnolnaaDoorW.PrintLast Go.Proofs.YtepgdjbjcnolnaaDoorW.PrintMore
theorem pureTupleOrder (a : List S38) (ha : ∀ x ∈ a, okS x = true) (b : List S38) (hb : ∀ x ∈ b, okS x = true) (c : List S38) (hc : ∀ x ∈ c, okS x = true) (p : List Int) (hp : ∀ x ∈ p, -9223372036854775808 ≤ x ∧ x ≤ 9223372036854775807) :
    ∃ k, antecedentlaw03_TupleOrder.f k a b c p = some true := by
  refine ⟨300, ?_⟩
  unfold antecedentlaw03_TupleOrder.f
  rw [awake_true 300 (by omega)]
  simp only [Option.bind_some, if_true]
  have hy : antecedentlaw03_TupleOrder.j0 300 a b c p true = some true := by
    rw [show (300 : Nat) = 299 + 1 from rfl]
    simp only [antecedentlaw03_TupleOrder.j0, if_true, awake_true 299 (by omega), Option.bind_some]
  by_cases h1 : (p.length : Int) > 40
  · rw [if_pos h1]; exact hy
  rw [if_neg h1]
  by_cases h2 : (a.length : Int) = (p.length : Int)
  · rw [if_pos h2]
    by_cases h3 : (b.length : Int) = (p.length : Int)
    · rw [if_pos h3]
      by_cases h4 : (c.length : Int) = (p.length : Int)
      · rw [if_pos h4, tuple_Perm_eq p (by omega) 300 (by omega)]
        simp only [Option.bind_some]
        cases hP : permB p with
        | false => exact hy
        | true =>
          have hPP := (permB_iff p).1 hP
          have z1 := cmpL_zero (a := a) (b := b) hPP (by omega) (by omega)
          have n1 := cmpL_anti a b p
          have r1 : cmpL b a p = -1 ∨ cmpL b a p = 0 ∨ cmpL b a p = 1 := ordO.rng _ _
          have t1 : cmpL a b p ≤ 0 → cmpL b c p ≤ 0 → cmpL a c p ≤ 0 := ordO.trans _ _ _
          rw [show (300 : Nat) = 299 + 1 from rfl]
          simp only [antecedentlaw03_TupleOrder.j0, Bool.not_true, Bool.false_eq_true, if_false]
          rw [tuple_Compare_eq a b p (by omega), tuple_Compare_eq b a p (by omega), tuple_Same_eq a b (by omega) 299 (by omega)]
          simp only [Option.bind_some]
          have hw : wrap64 (-cmpL b a p) = -cmpL b a p := by unfold wrap64; omega
          rw [hw, if_pos n1]
          have hs : ((cmpL a b p == 0) != decide (a = b)) = false := by
            by_cases e : a = b
            · rw [z1.2 e, decide_eq_true e]; rfl
            · have : ¬ cmpL a b p = 0 := fun h => e (z1.1 h)
              simp [this, e]
          rw [hs, show (299 : Nat) = 298 + 1 from rfl]
          simp only [antecedentlaw03_TupleOrder.j1, Bool.false_eq_true, if_false]
          rw [tuple_Compare_eq b c p (by omega), tuple_Compare_eq a c p (by omega)]
          simp only [Option.bind_some]
          by_cases g1 : cmpL a b p ≤ 0
          · rw [if_pos g1]
            by_cases g2 : cmpL b c p ≤ 0
            · rw [if_pos g2, decide_eq_true (t1 g1 g2)]
            · rw [if_neg g2]
          · rw [if_neg g1]
      · rw [if_neg h4]; exact hy
    · rw [if_neg h3]; exact hy
  · rw [if_neg h2]; exact hy
end Go.Proofs.YtepgdjbjcnolnaaDoor.X
