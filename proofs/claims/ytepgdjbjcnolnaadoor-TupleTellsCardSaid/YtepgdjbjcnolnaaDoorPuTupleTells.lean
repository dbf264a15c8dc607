/-
  TupleTells, in plain Lean.
-/
import Derived.Test.YtepgdjbjcnolnaaDoorXtM
import Derived.Test.YtepgdjbjcnolnaaDoorXtG
import Derived.Test.YtepgdjbjcnolnaaDoorXtO
import Derived.Test.YtepgdjbjcnolnaaDoorXtR
import Derived.Test.YtepgdjbjcnolnaaDoorXx6
import Derived.Test.YtepgdjbjcnolnaaDoorXx8
namespace Go.Proofs.YtepgdjbjcnolnaaDoor.X
set_option linter.unusedVariables false
set_option linter.unusedSimpArgs false
open Go.RowKit Go.Proofs.YtepgdjbjcnolnaaDoorW.PrintWords Go.Proofs.YtepgdjbjcnolnaaDoorW.PrintLast Go.Proofs.YtepgdjbjcnolnaaDoorW.PrintMore
theorem okS_n {x : S38} (h : okS x = true) : -9223372036854775808 ≤ x.f1 ∧ x.f1 ≤ 9223372036854775807 := by
  unfold okS at h
  simp only [Bool.and_eq_true, decide_eq_true_eq] at h
  omega
theorem join_next (l : List (List UInt8)) (x sep : List UInt8) (h : l ≠ []) : Lib.join (l ++ [x]) sep = Lib.join l sep ++ sep ++ x := by
  induction l with
  | nil => exact absurd rfl h
  | cons a l ih =>
    cases l with
    | nil => simp [Lib.join, List.intercalate, List.intersperse]
    | cons b l =>
      have := ih (by simp)
      simp only [Lib.join, List.intercalate, List.cons_append, List.intersperse, List.flatten_cons, List.append_assoc] at this ⊢
      rw [this]
theorem textT_take (l : List S38) (j : Nat) (h : j < l.length) : textT (l.take (j + 1)) = (if j = 0 then [] else textT (l.take j) ++ [44, 32]) ++ textL l[j].f0 l[j].f1 l[j].f2 := by
  unfold textT
  rw [List.take_add_one, List.getElem?_eq_getElem h, Option.toList_some, List.map_append, List.map_cons, List.map_nil]
  by_cases h0 : j = 0
  · subst h0
    rw [if_pos rfl]
    simp [Lib.join, List.intercalate, List.intersperse]
  · rw [if_neg h0, join_next _ _ _ (by
      simp only [ne_eq, List.map_eq_nil_iff, List.take_eq_nil_iff]
      rintro (h1 | h1)
      · exact h0 h1
      · subst h1; simp at h)]
theorem textT_length (l : List S38) (hl : ∀ x ∈ l, okS x = true) : ∀ j, j ≤ l.length → (textT (l.take j)).length ≤ 42 * j := by
  intro j
  induction j with
  | zero => intro _; simp [textT, Lib.join, List.intercalate]
  | succ j ih =>
    intro h
    rw [textT_take l j (by omega)]
    have h1 := ih (by omega)
    have h2 := textL_length (l[j]'(by omega)).f0 (l[j]'(by omega)).f1 (l[j]'(by omega)).f2 (okS_n (hl _ (List.getElem_mem _)))
    split <;> simp <;> omega
theorem text_loop (l : List S38) (hl : l.length ≤ 40) (hok : ∀ x ∈ l, okS x = true) : ∀ (d k j : Nat), l.length - j = d → j ≤ l.length → d + 60 ≤ k →
    antecedentref03_Text.l0 k l ⟨(textT (l.take j)).toArray⟩ (l.length : Int) (j : Int) = some ⟨(textT l).toArray⟩ := by
  intro d
  induction d with
  | zero =>
    intro k j h1 h2 hk
    obtain ⟨k, rfl⟩ : ∃ m, k = m + 1 := ⟨k - 1, by omega⟩
    simp only [antecedentref03_Text.l0]
    rw [if_neg (by omega), show l.take j = l from List.take_of_length_le (by omega)]
  | succ d ih =>
    intro k j h1 h2 hk
    obtain ⟨k, rfl⟩ : ∃ m, k = m + 1 := ⟨k - 1, by omega⟩
    have hj : j < l.length := by omega
    have hx := okS_n (hok _ (List.getElem_mem hj))
    have hT := textL_length l[j].f0 l[j].f1 l[j].f2 hx
    have hT2 := textT_length l hok j (by omega)
    simp only [antecedentref03_Text.l0]
    rw [if_pos (by omega), rdT_at l j hj, ref02_Text_eq _ _ _ k (by omega) hx, wrap_ok (i := (j : Int)) (by omega) (by omega)]
    have hs1 : (⟨(textT (l.take j)).toArray⟩ : ByteArray).size = (textT (l.take j)).length := by simp [ByteArray.size]
    have hs2 : (⟨(textL l[j].f0 l[j].f1 l[j].f2).toArray⟩ : ByteArray).size = (textL l[j].f0 l[j].f1 l[j].f2).length := by simp [ByteArray.size]
    have hi := ih k (j + 1) (by omega) (by omega) (by omega)
    rw [textT_take l j hj] at hi
    simp only [Option.bind_some, hs1, hs2]
    by_cases h0 : j = 0
    · subst h0
      rw [if_pos rfl] at hi
      rw [if_neg (by omega), if_pos (by omega), if_pos (by omega), if_pos (by omega)]
      refine Eq.trans ?_ hi
      rfl
    · rw [if_neg h0] at hi
      rw [if_pos (by omega), if_pos (by omega), if_pos (by omega), if_pos (by omega), if_pos (by omega)]
      refine Eq.trans ?_ hi
      rw [show ((⟨(textT (l.take j)).toArray⟩ : ByteArray) ++ ⟨#[44, 32]⟩ ++ ⟨(textL l[j].f0 l[j].f1 l[j].f2).toArray⟩) = ⟨(textT (l.take j) ++ [44, 32] ++ textL l[j].f0 l[j].f1 l[j].f2).toArray⟩ from by apply ba_eq; simp]
      rfl
theorem ref03_Text_eq (l : List S38) (hl : l.length ≤ 40) (hok : ∀ x ∈ l, okS x = true) (k : Nat) (hk : 100 ≤ k) : antecedentref03_Text.f k l = some ⟨(textT l).toArray⟩ := by
  unfold antecedentref03_Text.f
  exact text_loop l hl hok l.length k 0 (by omega) (by omega) (by omega)
theorem tuple_Text_eq (l : List S38) (hl : l.length ≤ 40) (hok : ∀ x ∈ l, okS x = true) : tuple_Text.f l = some ⟨(textT l).toArray⟩ := by
  unfold tuple_Text.f
  have := textT_length l hok l.length (by omega)
  rw [List.take_of_length_le (by omega)] at this
  rw [if_pos ⟨List.all_eq_true.2 (fun x hx => by unfold okV; exact decide_eq_true (okS_n (hok x hx))), by omega, by omega⟩]
theorem pureTupleTells (t : List S38) (ht : ∀ x ∈ t, okS x = true) (u : List S38) (hu : ∀ x ∈ u, okS x = true) (p : List Int) (hp : ∀ x ∈ p, -9223372036854775808 ≤ x ∧ x ≤ 9223372036854775807) :
    ∃ k, antecedentlaw03_TupleTells.f k t u p = some true := by
  refine ⟨400, ?_⟩
  unfold antecedentlaw03_TupleTells.f
  rw [awake_true 400 (by omega)]
  simp only [Option.bind_some, if_true]
  have hy : antecedentlaw03_TupleTells.j0 400 t u p true = some true := by
    rw [show (400 : Nat) = 399 + 1 from rfl]
    simp only [antecedentlaw03_TupleTells.j0, if_true, awake_true 399 (by omega), Option.bind_some]
  by_cases h1 : (t.length : Int) > 40
  · rw [if_pos h1]; exact hy
  · rw [if_neg h1]
    by_cases h2 : (u.length : Int) > 40
    · rw [if_pos h2]; exact hy
    · rw [if_neg h2]
      by_cases h3 : (p.length : Int) > 40
      · rw [decide_eq_true h3]; exact hy
      · rw [decide_eq_false h3, show (400 : Nat) = 399 + 1 from rfl]
        have hl : (if permB p = true then invL p else []).length ≤ 40 := by
          split
          · rw [invL_length]; omega
          · simp
        have hpl := pickL_length t p
        simp only [antecedentlaw03_TupleTells.j0, Bool.false_eq_true, if_false]
        rw [tuple_Perm_eq p (by omega) 399 (by omega), ref03_Perm_eq p (by omega) 399 (by omega)]
        simp only [Option.bind_some, beq_self_eq_true, if_true]
        rw [tuple_Inverse_eq p (by omega) 399 (by omega), ref03_Inverse_eq p (by omega) 399 (by omega)]
        simp only [Option.bind_some]
        rw [ints_eq _ _ (by omega) 399 (by omega)]
        simp only [Option.bind_some, decide_true, if_true]
        rw [tuple_Pick_eq t p (by omega), ref03_Pick_eq t p (by omega) 399 (by omega)]
        simp only [Option.bind_some]
        rw [ref03_Order_eq _ _ (by omega) 399 (by omega)]
        simp only [Option.bind_some]
        rw [if_pos (ordO.self _), tuple_Text_eq t (by omega) ht, ref03_Text_eq t (by omega) ht 399 (by omega)]
        simp only [Option.bind_some, if_true]
        rw [tuple_Same_eq t u (by omega) 399 (by omega), ref03_Order_eq t u (by omega) 399 (by omega)]
        simp only [Option.bind_some, Option.some.injEq]
        rw [beq_iff_eq, Bool.eq_iff_iff, decide_eq_true_iff, beq_iff_eq, ordO.eq]
end Go.Proofs.YtepgdjbjcnolnaaDoor.X
