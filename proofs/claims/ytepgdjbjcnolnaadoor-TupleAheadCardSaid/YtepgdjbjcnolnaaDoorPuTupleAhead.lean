/-
  TupleAhead, in plain Lean.
-/
import Derived.Test.YtepgdjbjcnolnaaDoorXtO
import Derived.Test.YtepgdjbjcnolnaaDoorXtR
import Derived.Test.YtepgdjbjcnolnaaDoorXx5
import Derived.Test.YtepgdjbjcnolnaaDoorXx12
namespace Go.Proofs.YtepgdjbjcnolnaaDoor.X
set_option linter.unusedVariables false
set_option linter.unusedSimpArgs false
open Go.RowKit Go.Proofs.YtepgdjbjcnolnaaDoorW.PrintWords Go.Proofs.YtepgdjbjcnolnaaDoorW.PrintLast Go.Proofs.YtepgdjbjcnolnaaDoorW.PrintMore
theorem rangeI_succ (n : Nat) : rangeI (n + 1) = rangeI n ++ [(n : Int)] := by simp [rangeI, List.range_succ]
theorem plain_loop (n : Nat) (hn : n ≤ 1000) : ∀ (d k j : Nat), n - j = d → j ≤ n → d < k → antecedentlaw03_TupleAhead_1.l0 k (rangeI j) (n : Int) (j : Int) = some (rangeI n) := by
  intro d
  induction d with
  | zero =>
    intro k j h1 h2 hk
    obtain ⟨k, rfl⟩ : ∃ m, k = m + 1 := ⟨k - 1, by omega⟩
    simp only [antecedentlaw03_TupleAhead_1.l0]
    rw [if_neg (by omega), show j = n by omega]
  | succ d ih =>
    intro k j h1 h2 hk
    obtain ⟨k, rfl⟩ : ∃ m, k = m + 1 := ⟨k - 1, by omega⟩
    simp only [antecedentlaw03_TupleAhead_1.l0]
    rw [if_pos (by omega), if_pos (by rw [rangeI_length]; omega), wrap_ok (by omega) (by omega), ← rangeI_succ]
    exact ih k (j + 1) (by omega) (by omega) (by omega)
theorem plain_eq (n : Nat) (hn : n ≤ 1000) (k : Nat) (hk : n < k) : antecedentlaw03_TupleAhead_1.f k (n : Int) = some (rangeI n) := by
  unfold antecedentlaw03_TupleAhead_1.f
  exact plain_loop n hn n k 0 (by omega) (by omega) hk
theorem pick_all (l : List S38) : ∀ n, l.length ≤ n → pickL l (rangeI n) = l := by
  intro n
  induction n with
  | zero => intro h; cases l with
    | nil => rfl
    | cons _ _ => simp at h
  | succ n ih =>
    intro h
    rw [rangeI_succ, pickL_append, pickL_one]
    by_cases hl : l.length ≤ n
    · rw [ih hl, if_neg (by omega), List.append_nil]
    · have hn : l.length = n + 1 := by omega
      rw [pickL_in (fun x hx => by have := rangeI_mem.1 hx; unfold inR at *; omega), if_pos (by omega)]
      apply List.ext_getElem
      · simp [rangeI_length, hn]
      · intro i h1 h2
        by_cases hi : i < n
        · rw [List.getElem_append_left (by simp [rangeI_length]; exact hi), List.getElem_map]
          have : (rangeI n)[i]'(by rw [rangeI_length]; exact hi) = (i : Int) := by simp [rangeI]
          rw [this, rdT_at l i (by omega)]
        · have hi : i = n := by omega
          subst hi
          rw [List.getElem_append_right (by simp [rangeI_length])]
          simp [rangeI_length, rdT_at l i (by omega)]
theorem mx_nat (a b : Nat) : mx (a : Int) (b : Int) = ((max a b : Nat) : Int) := by unfold mx; split <;> omega
theorem cmp_all (a b : List S38) (n : Nat) (ha : a.length ≤ n) (hb : b.length ≤ n) : cmpL a b (rangeI n) = orderL a b := by
  unfold cmpL; rw [pick_all a n ha, pick_all b n hb]
theorem pureTupleAhead (t : List S38) (ht : ∀ x ∈ t, okS x = true) (a : List S38) (ha : ∀ x ∈ a, okS x = true) (b : List S38) (hb : ∀ x ∈ b, okS x = true) :
    ∃ k, antecedentlaw03_TupleAhead.f k t a b = some true := by
  refine ⟨400, ?_⟩
  unfold antecedentlaw03_TupleAhead.f
  rw [awake_true 400 (by omega)]
  simp only [Option.bind_some, if_true]
  have hy : antecedentlaw03_TupleAhead.j0 400 t a b true = some true := by
    rw [show (400 : Nat) = 399 + 1 from rfl]
    simp only [antecedentlaw03_TupleAhead.j0, if_true, awake_true 399 (by omega), Option.bind_some]
  by_cases h1 : (t.length : Int) > 40
  · rw [if_pos h1]; exact hy
  · rw [if_neg h1]
    by_cases h2 : (a.length : Int) > 40
    · rw [if_pos h2]; exact hy
    · rw [if_neg h2]
      by_cases h3 : (b.length : Int) > 40
      · rw [decide_eq_true h3]; exact hy
      · rw [decide_eq_false h3, show (400 : Nat) = 399 + 1 from rfl]
        simp only [antecedentlaw03_TupleAhead.j0, Bool.false_eq_true, if_false, Option.bind_some, List.nil_append]
        have e1 : (t ++ a).length = t.length + a.length := List.length_append
        have e2 : (t ++ b).length = t.length + b.length := List.length_append
        rw [if_pos (by simp only [List.length_nil]; omega), if_pos (by omega), if_pos (by simp only [List.length_nil]; omega), if_pos (by omega)]
        simp only [mx_nat]
        rw [plain_eq _ (by omega) 399 (by omega), plain_eq _ (by omega) 399 (by omega)]
        simp only [Option.bind_some]
        rw [tuple_Compare_eq _ _ _ (by rw [rangeI_length]; omega), tuple_Compare_eq _ _ _ (by rw [rangeI_length]; omega), tuple_Compare_eq _ _ _ (by rw [rangeI_length]; omega)]
        simp only [Option.bind_some]
        rw [cmp_all _ _ _ (by omega) (by omega), cmp_all _ _ _ (by omega) (by omega), cmp_all _ _ _ (by omega) (by omega)]
        have o1 : orderL (t ++ a) (t ++ b) = orderL a b := by
          rw [order_append t t a b rfl, if_neg (by rw [ordO.self]; simp)]
        have o2 : orderL t (t ++ a) = orderL [] a := by
          have := order_append t t [] a rfl
          rw [List.append_nil] at this
          rw [this, if_neg (by rw [ordO.self]; simp)]
        rw [o1, if_pos rfl, o2]
        have o3 : orderL [] a = -(mn (a.length : Int) 1) := by
          cases a with
          | nil => rfl
          | cons x a =>
            have h : mn ((x :: a).length : Int) 1 = 1 := by unfold mn; simp only [List.length_cons]; split <;> omega
            rw [h]; rfl
        rw [o3]
        simp
end Go.Proofs.YtepgdjbjcnolnaaDoor.X
