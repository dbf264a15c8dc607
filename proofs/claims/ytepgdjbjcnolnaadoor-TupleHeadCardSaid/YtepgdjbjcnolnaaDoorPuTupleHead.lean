/-
  TupleHead, in plain Lean.
-/
import Derived.Test.YtepgdjbjcnolnaaDoorXtO
import Derived.Test.YtepgdjbjcnolnaaDoorXtR
import Derived.Test.YtepgdjbjcnolnaaDoorXx10
namespace Go.Proofs.YtepgdjbjcnolnaaDoor.X
set_option linter.unusedVariables false
set_option linter.unusedSimpArgs false
open Go.RowKit Go.Proofs.YtepgdjbjcnolnaaDoorW.PrintWords Go.Proofs.YtepgdjbjcnolnaaDoorW.PrintLast Go.Proofs.YtepgdjbjcnolnaaDoorW.PrintMore
theorem pureTupleHead (a : List S38) (ha : ∀ x ∈ a, okS x = true) (b : List S38) (hb : ∀ x ∈ b, okS x = true) (p : List Int) (hp : ∀ x ∈ p, -9223372036854775808 ≤ x ∧ x ≤ 9223372036854775807) (m : Int) (hm : (Lit.int .u8 m).wf = true) :
    ∃ k, antecedentlaw03_TupleHead.f k a b p m = some true := by
  have hm' : 0 ≤ m ∧ m ≤ 255 := by
    have hlo : IntKind.u8.min = 0 := by decide
    have hhi : IntKind.u8.max = 255 := by decide
    simp [Lit.wf, hlo, hhi] at hm
    exact hm
  refine ⟨300, ?_⟩
  unfold antecedentlaw03_TupleHead.f
  rw [awake_true 300 (by omega)]
  simp only [Option.bind_some, if_true]
  have hy : antecedentlaw03_TupleHead.j0 300 a b p m true = some true := by
    rw [show (300 : Nat) = 299 + 1 from rfl]
    simp only [antecedentlaw03_TupleHead.j0, if_true, awake_true 299 (by omega), Option.bind_some]
  by_cases h1 : (p.length : Int) > 40
  · rw [if_pos h1]; exact hy
  rw [if_neg h1]
  by_cases h2 : (a.length : Int) = (p.length : Int)
  · rw [if_pos h2]
    by_cases h3 : (b.length : Int) = (p.length : Int)
    · rw [if_pos h3, tuple_Perm_eq p (by omega) 300 (by omega)]
      simp only [Option.bind_some]
      cases hP : permB p with
      | false => exact hy
      | true =>
        have hPP := (permB_iff p).1 hP
        have hw1 : wrap64 ((p.length : Int) + 1) = (p.length : Int) + 1 := by unfold wrap64; omega
        have hw2 : wrap64 m = m := by unfold wrap64; omega
        have hmod : Int.tmod m ((p.length : Int) + 1) = m % ((p.length : Int) + 1) := Int.tmod_eq_emod_of_nonneg hm'.1
        have hlo := Int.emod_nonneg m (show ((p.length : Int) + 1) ≠ 0 by omega)
        have hhi := Int.emod_lt_of_pos m (show 0 < ((p.length : Int) + 1) by omega)
        rw [show (300 : Nat) = 299 + 1 from rfl]
        simp only [antecedentlaw03_TupleHead.j0, Bool.not_true, Bool.false_eq_true, if_false, hw1, hw2, hmod]
        generalize m % ((p.length : Int) + 1) = r at hlo hhi
        obtain ⟨n, rfl⟩ := Int.eq_ofNat_of_zero_le hlo
        rw [if_neg (by omega), if_pos hlo, if_pos (by omega), Int.toNat_natCast]
        have hn : n ≤ p.length := by omega
        rw [tuple_Compare_eq a b (p.take n) (by rw [List.length_take]; omega), tuple_Compare_eq a b p (by omega)]
        simp only [Option.bind_some]
        have hin1 : ∀ x ∈ p, inR a.length x := by rw [show a.length = p.length by omega]; exact hPP.1
        have hin2 : ∀ x ∈ p, inR b.length x := by rw [show b.length = p.length by omega]; exact hPP.1
        have hsplit : cmpL a b p = if cmpL a b (p.take n) ≠ 0 then cmpL a b (p.take n) else orderL (pickL a (p.drop n)) (pickL b (p.drop n)) := by
          have e1 : pickL a p = pickL a (p.take n) ++ pickL a (p.drop n) := by rw [← pickL_append, List.take_append_drop]
          have e2 : pickL b p = pickL b (p.take n) ++ pickL b (p.drop n) := by rw [← pickL_append, List.take_append_drop]
          unfold cmpL
          rw [e1, e2, order_append]
          rw [pickL_in (fun x hx => hin1 x (List.mem_of_mem_take hx)), pickL_in (fun x hx => hin2 x (List.mem_of_mem_take hx)), List.length_map, List.length_map]
        by_cases z : cmpL a b (p.take n) = 0
        · rw [if_pos z]
          by_cases z2 : cmpL a b p = 0
          · rw [if_pos z2]; simp [z]
          · rw [if_neg z2]
        · rw [if_neg z]
          rw [if_pos z] at hsplit
          rw [if_pos hsplit, if_neg (by omega)]
    · rw [if_neg h3]; exact hy
  · rw [if_neg h2]; exact hy
end Go.Proofs.YtepgdjbjcnolnaaDoor.X
