/-
  TupleOwn, in plain Lean.
-/
import Derived.Test.YtepgdjbjcnolnaaDoorXtO
import Derived.Test.YtepgdjbjcnolnaaDoorXtR
import Derived.Test.YtepgdjbjcnolnaaDoorXx11
namespace Go.Proofs.YtepgdjbjcnolnaaDoor.X
set_option linter.unusedVariables false
set_option linter.unusedSimpArgs false
open Go.RowKit Go.Proofs.YtepgdjbjcnolnaaDoorW.PrintWords Go.Proofs.YtepgdjbjcnolnaaDoorW.PrintLast Go.Proofs.YtepgdjbjcnolnaaDoorW.PrintMore
theorem own_count (t : List S38) (p : List Int) (ht : t.length ≤ 40) (hp : p.length ≤ 40) : ∀ (d k j : Nat), p.length - j = d → j ≤ p.length → 2 * d + 1 < k →
    antecedentlaw03_TupleOwn.l1 k t p (pickL t p) ((pickL t (p.take j)).length : Int) (p.length : Int) (j : Int) = some true
  | d, k, j, hd, hj, hk => by
    obtain ⟨k, rfl⟩ : ∃ m, k = m + 2 := ⟨k - 2, by omega⟩
    simp only [antecedentlaw03_TupleOwn.l1]
    have hsplit : pickL t p = pickL t (p.take j) ++ pickL t (p.drop j) := by rw [← pickL_append, List.take_append_drop]
    have hl1 := pickL_length t (p.take j)
    rw [List.length_take] at hl1
    by_cases hlt : j < p.length
    · have hnext : pickL t (p.take (j + 1)) = pickL t (p.take j) ++ pickL t [p[j]] := by
        rw [List.take_succ_eq_append_getElem hlt, pickL_append]
      have hdrop : pickL t (p.drop j) = pickL t [p[j]] ++ pickL t (p.drop (j + 1)) := by
        rw [List.drop_eq_getElem_cons hlt, ← pickL_append]; rfl
      have hrec := own_count t p ht hp (p.length - (j + 1)) k (j + 1) rfl (by omega) (by omega)
      rw [hnext] at hrec
      rw [if_pos (by omega), if_pos (by omega), if_pos (by omega), rd_at p j hlt]
      simp only [antecedentlaw03_TupleOwn.j3, rd_at p j hlt]
      rw [pickL_one] at hrec hdrop
      have hwj : wrap64 ((j : Int) + 1) = ((j + 1 : Nat) : Int) := by unfold wrap64; omega
      by_cases h0 : p[j] ≥ 0
      · rw [if_pos h0]
        by_cases h1 : p[j] < t.length
        · rw [if_pos ⟨h0, h1⟩] at hrec hdrop
          rw [if_pos (decide_eq_true h1)]
          have hll : (pickL t p).length = (pickL t (p.take j)).length + (1 + (pickL t (p.drop (j + 1))).length) := by
            rw [hsplit, hdrop]; simp; omega
          have hlt2 : (pickL t (p.take j)).length < (pickL t p).length := by omega
          have hel : rd_T38 (pickL t p) ((pickL t (p.take j)).length : Int) = rd_T38 t p[j] := by
            rw [rdT_at _ _ hlt2]
            have : (pickL t p)[(pickL t (p.take j)).length]? = some (rd_T38 t p[j]) := by
              rw [hsplit, hdrop]; simp
            rw [List.getElem?_eq_getElem hlt2] at this
            exact Option.some.inj this
          rw [if_neg (by omega), if_pos (by omega), if_pos (by omega), if_pos (by omega), if_pos (by omega), if_pos h0, if_pos h1, hel, S_ne]
          rw [if_neg (by simp)]
          have hwm : wrap64 (((pickL t (p.take j)).length : Int) + 1) = ((pickL t (p.take j) ++ [rd_T38 t p[j]]).length : Int) := by
            rw [List.length_append]; unfold wrap64; simp; omega
          rw [hwm, hwj]
          exact hrec
        · rw [if_neg (by omega), List.append_nil] at hrec
          rw [if_neg (by rw [decide_eq_true_iff]; exact h1), hwj]
          exact hrec
      · rw [if_neg (by omega), List.append_nil] at hrec
        rw [if_neg h0, if_neg (by simp), hwj]
        exact hrec
    · rw [if_neg (by omega)]
      obtain rfl : j = p.length := by omega
      rw [List.take_length]
      simp
termination_by d => d
theorem own_fill (t : List S38) (p : List Int) (got : List S38) (a b : Int) (c : ByteArray) (r : Bool) (n K : Nat) (hn : n ≤ 40) (hr : ∀ k, K ≤ k → antecedentlaw03_TupleOwn.l1 k t p got 0 (p.length : Int) 0 = some r) (d : Nat) :
    ∀ (k j : Nat) (given : List S38), given.length = n → n - j = d → j ≤ n → d + K < k → antecedentlaw03_TupleOwn.l0 k t p given got (n : Int) (j : Int) a b c = some r := by
  induction d with
  | zero =>
    intro k j given hg hd hj hk
    obtain ⟨k, rfl⟩ : ∃ m, k = m + 1 := ⟨k - 1, by omega⟩
    simp only [antecedentlaw03_TupleOwn.l0]
    have g1 : ¬ (j : Int) < (n : Int) := by omega
    rw [if_neg g1]
    have g2 : K ≤ k := by omega
    exact hr k g2
  | succ d ih =>
    intro k j given hg hd hj hk
    obtain ⟨k, rfl⟩ : ∃ m, k = m + 1 := ⟨k - 1, by omega⟩
    simp only [antecedentlaw03_TupleOwn.l0]
    have hwj : wrap64 ((j : Int) + 1) = ((j + 1 : Nat) : Int) := by unfold wrap64; omega
    have g1 : (j : Int) < (n : Int) := by omega
    have g2 : (0 : Int) ≤ (j : Int) := by omega
    have g3 : (j : Int) < (given.length : Int) := by omega
    have g4 : n - (j + 1) = d := by omega
    have g5 : j + 1 ≤ n := by omega
    have g6 : d + K < k := by omega
    rw [if_pos g1, if_pos g2, if_pos g3, hwj]
    exact ih k (j + 1) _ (by rw [List.length_set]; exact hg) g4 g5 g6
theorem pureTupleOwn (t : List S38) (ht : ∀ x ∈ t, okS x = true) (p : List Int) (hp : ∀ x ∈ p, -9223372036854775808 ≤ x ∧ x ≤ 9223372036854775807) (v : S38) (hv : okS v = true) (hs : v.f2.size ≤ maxLen) :
    ∃ k, antecedentlaw03_TupleOwn.f k t p v.f0 v.f1 v.f2 = some true := by
  refine ⟨300, ?_⟩
  unfold antecedentlaw03_TupleOwn.f
  rw [awake_true 300 (by omega)]
  simp only [Option.bind_some, if_true]
  have hy : antecedentlaw03_TupleOwn.j0 300 t p true v.f0 v.f1 v.f2 = some true := by
    rw [show (300 : Nat) = 299 + 1 from rfl]
    simp only [antecedentlaw03_TupleOwn.j0, if_true, awake_true 299 (by omega), Option.bind_some]
  by_cases h1 : (t.length : Int) > 40
  · rw [if_pos h1]; exact hy
  rw [if_neg h1]
  by_cases h2 : (p.length : Int) > 40
  · rw [decide_eq_true h2]; exact hy
  rw [decide_eq_false h2, show (300 : Nat) = 299 + 1 from rfl]
  simp only [antecedentlaw03_TupleOwn.j0, Bool.false_eq_true, if_false, Option.bind_some, List.nil_append, List.length_nil]
  rw [if_pos (by omega), tuple_Pick_eq t p (by omega)]
  simp only [Option.bind_some]
  refine own_fill t p (pickL t p) v.f0 v.f1 v.f2 true t.length 100 (by omega) ?_ t.length 299 0 t rfl (by omega) (by omega) (by omega)
  intro k hk
  have := own_count t p (by omega) (by omega) p.length k 0 (by omega) (by omega) (by omega)
  exact this
end Go.Proofs.YtepgdjbjcnolnaaDoor.X
