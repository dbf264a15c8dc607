/-
  TupleBack, in plain Lean.
-/
import Derived.Test.YtepgdjbjcnolnaaDoorXtO
import Derived.Test.YtepgdjbjcnolnaaDoorXtR
import Derived.Test.YtepgdjbjcnolnaaDoorXx9
namespace Go.Proofs.YtepgdjbjcnolnaaDoor.X
set_option linter.unusedVariables false
set_option linter.unusedSimpArgs false
open Go.RowKit Go.Proofs.YtepgdjbjcnolnaaDoorW.PrintWords Go.Proofs.YtepgdjbjcnolnaaDoorW.PrintLast Go.Proofs.YtepgdjbjcnolnaaDoorW.PrintMore
theorem atI_range {p : List Int} (hP : permP p) {v : Nat} (hv : v < p.length) : ∃ j : Nat, ∃ hj : j < p.length, p[j] = (v : Int) ∧ atI p (v : Int) = (j : Int) := at_mem ((perm_iff p).1 hP v hv)
theorem inv_perm {p : List Int} (hP : permP p) : permP (invL p) := by
  rw [perm_iff]
  intro i hi
  rw [invL_length] at hi
  have hin := hP.1 p[i] (List.getElem_mem hi)
  unfold inR at hin
  obtain ⟨v, hv⟩ := Int.eq_ofNat_of_zero_le hin.1
  have h1 := at_self hP.2 i hi
  rw [hv] at h1
  have hvl : v < (invL p).length := by rw [invL_length]; omega
  have := invL_at p v (by omega) hvl
  rw [h1] at this
  rw [← this]
  exact List.getElem_mem hvl
theorem inv_inv {p : List Int} (hP : permP p) : invL (invL p) = p := by
  apply List.ext_getElem
  · rw [invL_length, invL_length]
  · intro i h1 h2
    rw [invL_at (invL p) i (by rw [invL_length]; omega) h1]
    have hin := hP.1 p[i] (List.getElem_mem h2)
    unfold inR at hin
    obtain ⟨v, hv⟩ := Int.eq_ofNat_of_zero_le hin.1
    have h3 := at_self hP.2 i h2
    rw [hv] at h3
    have hvl : v < (invL p).length := by rw [invL_length]; omega
    have h4 := invL_at p v (by omega) hvl
    rw [h3] at h4
    rw [← h4, at_self (inv_perm hP).2 v hvl, hv]
theorem pick_length {l : List S38} {p : List Int} (h : ∀ x ∈ p, inR l.length x) : (pickL l p).length = p.length := by rw [pickL_in h, List.length_map]
theorem pick_at {l : List S38} {p : List Int} (h : ∀ x ∈ p, inR l.length x) (i : Nat) (hi : i < p.length) : rd_T38 (pickL l p) (i : Int) = rd_T38 l p[i] := by
  have hl : i < (pickL l p).length := by rw [pick_length h]; exact hi
  rw [rdT_at _ i hl]
  simp [pickL_in h]
theorem pick_back {t : List S38} {p q : List Int} (hP : permP p) (hQ : permP q) (ht : t.length = p.length) (hq : q.length = p.length) (h : ∀ v : Nat, ∀ hv : v < q.length, ∃ j : Nat, ∃ hj : j < p.length, q[v] = (j : Int) ∧ p[j] = (v : Int)) :
    pickL (pickL t p) q = t := by
  have hp' : ∀ x ∈ p, inR t.length x := by rw [ht]; exact hP.1
  have hl := pick_length hp'
  have hq' : ∀ x ∈ q, inR (pickL t p).length x := by rw [hl, ← hq]; exact hQ.1
  apply List.ext_getElem
  · rw [pick_length hq']; omega
  · intro v h1 h2
    have hv : v < q.length := by omega
    obtain ⟨j, hj, e1, e2⟩ := h v hv
    have := pick_at hq' v hv
    rw [rdT_at _ v h1, e1, pick_at hp' j hj, e2, rdT_at t v h2] at this
    exact this
theorem pureTupleBack (t : List S38) (ht : ∀ x ∈ t, okS x = true) (p : List Int) (hp : ∀ x ∈ p, -9223372036854775808 ≤ x ∧ x ≤ 9223372036854775807) :
    ∃ k, antecedentlaw03_TupleBack.f k t p = some true := by
  refine ⟨300, ?_⟩
  unfold antecedentlaw03_TupleBack.f
  rw [awake_true 300 (by omega)]
  simp only [Option.bind_some, if_true]
  have hy : antecedentlaw03_TupleBack.j0 300 t p true = some true := by
    rw [show (300 : Nat) = 299 + 1 from rfl]
    simp only [antecedentlaw03_TupleBack.j0, if_true, awake_true 299 (by omega), Option.bind_some]
  by_cases h1 : (p.length : Int) > 40
  · rw [if_pos h1]; exact hy
  rw [if_neg h1]
  by_cases h2 : (t.length : Int) > 40
  · rw [decide_eq_true h2]; exact hy
  rw [decide_eq_false h2, show (300 : Nat) = 299 + 1 from rfl]
  simp only [antecedentlaw03_TupleBack.j0, Bool.false_eq_true, if_false]
  rw [tuple_Inverse_eq p (by omega) 299 (by omega), tuple_Perm_eq p (by omega) 299 (by omega)]
  simp only [Option.bind_some]
  cases hP : permB p with
  | false => simp
  | true =>
    have hPP := (permB_iff p).1 hP
    have hQ := inv_perm hPP
    have hql := invL_length p
    simp only [if_true]
    rw [tuple_Perm_eq (invL p) (by omega) 299 (by omega), tuple_Inverse_eq (invL p) (by omega) 299 (by omega), (permB_iff (invL p)).2 hQ]
    simp only [Option.bind_some, if_true]
    rw [inv_inv hPP, ints_eq p p (by omega) 299 (by omega)]
    simp only [Option.bind_some, decide_true, Bool.not_true]
    rw [show (299 : Nat) = 298 + 1 from rfl]
    simp only [antecedentlaw03_TupleBack.j1, Bool.false_eq_true, if_false]
    by_cases h3 : (t.length : Int) = (p.length : Int)
    · rw [if_pos h3]
      have ht : t.length = p.length := by omega
      have b1 : pickL (pickL t p) (invL p) = t := pick_back hPP hQ ht hql (fun v hv => by
        obtain ⟨j, hj, e1, e2⟩ := atI_range hPP (v := v) (by omega)
        exact ⟨j, hj, by rw [invL_at p v (by omega) hv]; exact e2, e1⟩)
      have b2 : pickL (pickL t (invL p)) p = t := pick_back hQ hPP (by omega) hql.symm (fun v hv => by
        have hin := hPP.1 p[v] (List.getElem_mem hv)
        unfold inR at hin
        obtain ⟨j, hj⟩ := Int.eq_ofNat_of_zero_le hin.1
        have h4 := at_self hPP.2 v hv
        rw [hj] at h4
        have hjl : j < (invL p).length := by omega
        exact ⟨j, hjl, hj, by rw [invL_at p j (by omega) hjl]; exact h4⟩)
      rw [tuple_Pick_eq t p (by omega)]
      simp only [Option.bind_some]
      rw [tuple_Pick_eq _ (invL p) (by omega)]
      simp only [Option.bind_some]
      rw [b1, tuple_Same_eq t t (by omega) 298 (by omega)]
      simp only [Option.bind_some, decide_true, if_true]
      rw [tuple_Pick_eq t (invL p) (by omega)]
      simp only [Option.bind_some]
      rw [tuple_Pick_eq _ p (by omega)]
      simp only [Option.bind_some]
      rw [b2, tuple_Same_eq t t (by omega) 298 (by omega)]
      simp
    · rw [if_neg h3]
end Go.Proofs.YtepgdjbjcnolnaaDoor.X
