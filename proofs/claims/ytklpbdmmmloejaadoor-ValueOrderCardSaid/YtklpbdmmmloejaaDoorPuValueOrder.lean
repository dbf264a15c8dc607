/-
  ValueOrder, in plain Lean.
-/
import Derived.Test.YtklpbdmmmloejaaDoorXtK
import Derived.Test.YtklpbdmmmloejaaDoorXx10
namespace Go.Proofs.YtklpbdmmmloejaaDoor.X
set_option linter.unusedVariables false
set_option linter.unusedSimpArgs false
open Go.RowKit Go.Proofs.YtklpbdmmmloejaaDoorW.PrintWords Go.Proofs.YtklpbdmmmloejaaDoorW.PrintLast Go.Proofs.YtklpbdmmmloejaaDoorW.PrintMore
theorem order_last (k : Nat) (hk : 10 ≤ k) (a b c : S23) : antecedentlaw02_ValueOrder.j1 (k + 1) (cmpV a b) false a.f0 a.f1 a.f2 b.f0 b.f1 b.f2 c.f0 c.f1 c.f2 = some true := by
  simp only [antecedentlaw02_ValueOrder.j1, Bool.false_eq_true, if_false]
  by_cases h1 : cmpV a b ≤ 0
  · rw [if_pos h1, value_Compare_eq b c k (by omega)]
    simp only [Option.bind_some]
    by_cases h2 : cmpV b c ≤ 0
    · rw [if_pos h2, value_Compare_eq a c k (by omega)]
      simp only [Option.bind_some]
      rw [decide_eq_true (ordV.trans a b c h1 h2)]
    · rw [if_neg h2]
  · rw [if_neg h1]
theorem pureValueOrder (a : S23) (ha : okS a = true) (hsa : a.f2.size ≤ maxLen) (b : S23) (hb : okS b = true) (hsb : b.f2.size ≤ maxLen) (c : S23) (hc : okS c = true) (hsc : c.f2.size ≤ maxLen) :
    ∃ k, antecedentlaw02_ValueOrder.f k a.f0 a.f1 a.f2 b.f0 b.f1 b.f2 c.f0 c.f1 c.f2 = some true := by
  refine ⟨100, ?_⟩
  unfold antecedentlaw02_ValueOrder.f
  rw [awake_true 100 (by omega)]
  simp only [Option.bind_some, if_true]
  rw [value_Compare_eq a b 100 (by omega), value_Compare_eq b a 100 (by omega)]
  simp only [Option.bind_some]
  have hr := ordV.rng a b
  have hr2 := ordV.rng b a
  have ha := ordV.anti a b
  have hw : wrap64 (-cmpV b a) = cmpV a b := by unfold wrap64; omega
  rw [hw, if_pos rfl, if_neg (by omega), if_neg (by omega)]
  have he : ((cmpV a b == 0) != (a.f0 == b.f0 && (a.f1 == b.f1 && (a.f2.toList == b.f2.toList)))) = false := by
    have h1 := ordV.eq a b
    rw [S_ext] at h1
    have h2 : a.f2.toList = b.f2.toList ↔ a.f2 = b.f2 := ⟨fun h => ba_eq (by rw [← toList_data, ← toList_data, h]), fun h => by rw [h]⟩
    rw [bne_eq_false_iff_eq, Bool.eq_iff_iff]
    simp only [beq_iff_eq, Bool.and_eq_true, h1, h2]
  rw [he, show (100 : Nat) = 98 + 1 + 1 from rfl]
  have hL := order_last 98 (by omega) a b c
  have e0 : a.f0 < b.f0 → cmpV a b = -1 := fun h => by
    unfold cmpV cmpI
    simp [h]
  have e1 : a.f0 = b.f0 → a.f1 < b.f1 → cmpV a b = -1 := fun h h' => by
    unfold cmpV cmpI
    simp [h, h']
  simp only [antecedentlaw02_ValueOrder.j0, Bool.false_eq_true, if_false]
  by_cases k0 : a.f0 < b.f0
  · rw [if_pos k0, if_pos (e0 k0), if_neg (by omega)]
    exact hL
  · rw [if_neg k0]
    by_cases k1 : a.f0 = b.f0
    · rw [if_pos k1]
      by_cases k2 : a.f1 < b.f1
      · rw [if_pos k2]
        have : (cmpV a b != -1) = false := by rw [bne_eq_false_iff_eq]; exact e1 k1 k2
        rw [this]; exact hL
      · rw [if_neg k2]; exact hL
    · rw [if_neg k1]; exact hL
end Go.Proofs.YtklpbdmmmloejaaDoor.X
