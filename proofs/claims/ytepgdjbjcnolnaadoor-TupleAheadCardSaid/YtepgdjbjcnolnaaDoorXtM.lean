/-
  PERMUTATIONS, in plain Lean: what the code's and the reference's Perm and Inverse tell; when two lists are the same.
-/
import Derived.Test.YtepgdjbjcnolnaaDoorXtK
import Derived.Test.YtepgdjbjcnolnaaDoorXx2
import Derived.Test.YtepgdjbjcnolnaaDoorXx2
import Derived.Test.YtepgdjbjcnolnaaDoorXx3
import Derived.Test.YtepgdjbjcnolnaaDoorXx3
import Derived.Test.YtepgdjbjcnolnaaDoorXx4
import Derived.Test.YtepgdjbjcnolnaaDoorXx4
import Derived.Test.YtepgdjbjcnolnaaDoorXx3
namespace Go.Proofs.YtepgdjbjcnolnaaDoor.X
set_option linter.unusedVariables false
set_option linter.unusedSimpArgs false
open Go.RowKit Go.Proofs.YtepgdjbjcnolnaaDoorW.PrintWords Go.Proofs.YtepgdjbjcnolnaaDoorW.PrintLast Go.Proofs.YtepgdjbjcnolnaaDoorW.PrintMore

/-! ### as many places as values -/
theorem pigeon {α : Type} [DecidableEq α] : ∀ (l1 l2 : List α), l1.Nodup → (∀ x ∈ l1, x ∈ l2) → l2.length ≤ l1.length → (∀ x ∈ l2, x ∈ l1) ∧ l2.Nodup
  | [], l2, _, _, hl => by
    have : l2 = [] := List.eq_nil_of_length_eq_zero (by simpa using hl)
    subst this
    exact ⟨fun x hx => hx, List.nodup_nil⟩
  | a :: t, l2, hn, hs, hl => by
    have ha : a ∈ l2 := hs a (List.mem_cons_self ..)
    have hat : a ∉ t := (List.nodup_cons.1 hn).1
    have hp := List.perm_cons_erase ha
    have hlen : (l2.erase a).length = l2.length - 1 := List.length_erase_of_mem ha
    obtain ⟨h1, h2⟩ := pigeon t (l2.erase a) (List.nodup_cons.1 hn).2 (fun x hx => by
      have hne : x ≠ a := by rintro rfl; exact hat hx
      exact (List.mem_erase_of_ne hne).2 (hs x (List.mem_cons_of_mem _ hx))) (by simp at hl; omega)
    refine ⟨fun x hx => ?_, ?_⟩
    · rcases List.mem_cons.1 (hp.subset hx) with rfl | h
      · exact List.mem_cons_self ..
      · exact List.mem_cons_of_mem _ (h1 x h)
    · exact hp.nodup_iff.2 (List.nodup_cons.2 ⟨fun h => hat (h1 a h), h2⟩)
def inR (n : Nat) (x : Int) : Prop := 0 ≤ x ∧ x < (n : Int)
/-- is it a permutation? -/
def permP (p : List Int) : Prop := (∀ x ∈ p, inR p.length x) ∧ p.Nodup
def allAt (p : List Int) : Prop := ∀ i : Nat, i < p.length → (i : Int) ∈ p
def rangeI (n : Nat) : List Int := (List.range n).map fun (i : Nat) => (i : Int)
theorem rangeI_mem {n : Nat} {x : Int} : x ∈ rangeI n ↔ inR n x := by
  unfold rangeI inR
  simp only [List.mem_map, List.mem_range]
  constructor
  · rintro ⟨i, hi, rfl⟩; omega
  · rintro ⟨h0, h1⟩; exact ⟨x.toNat, by omega, by omega⟩
theorem rangeI_length (n : Nat) : (rangeI n).length = n := by simp [rangeI]
theorem rangeI_nodup (n : Nat) : (rangeI n).Nodup := by
  unfold rangeI
  rw [List.Nodup, List.pairwise_map]
  exact (List.nodup_range).imp fun h e => h (by omega)
theorem perm_iff (p : List Int) : permP p ↔ allAt p := by
  constructor
  · rintro ⟨h1, h2⟩ i hi
    exact (pigeon p (rangeI p.length) h2 (fun x hx => rangeI_mem.2 (h1 x hx)) (by rw [rangeI_length]; exact Nat.le_refl _)).1 _ (rangeI_mem.2 ⟨by omega, by omega⟩)
  · intro h
    obtain ⟨h1, h2⟩ := pigeon (rangeI p.length) p (rangeI_nodup _) (fun x hx => by
      obtain ⟨h0, h1⟩ := rangeI_mem.1 hx
      have := h x.toNat (by omega)
      rwa [Int.toNat_of_nonneg h0] at this) (by rw [rangeI_length]; exact Nat.le_refl _)
    exact ⟨fun x hx => rangeI_mem.1 (h1 x hx), h2⟩

/-! ### the code's Perm -/
def scan (n : Nat) : List Int → List Int → Bool
  | _, [] => true
  | seen, x :: xs => if x < 0 then false else if x ≥ (n : Int) then false else if x ∈ seen then false else scan n (x :: seen) xs
theorem scan_iff (n : Nat) : ∀ (xs seen : List Int), scan n seen xs = true ↔ (∀ x ∈ xs, inR n x) ∧ xs.Nodup ∧ ∀ x ∈ xs, x ∉ seen
  | [], seen => by simp [scan]
  | x :: xs, seen => by
    simp only [scan]
    by_cases h0 : x < 0
    · simp only [h0, if_true, Bool.false_eq_true, false_iff]
      rintro ⟨h, _⟩
      have := (h x (List.mem_cons_self ..)).1
      omega
    · by_cases h1 : x ≥ (n : Int)
      · simp only [h0, h1, if_true, if_false, Bool.false_eq_true, false_iff]
        rintro ⟨h, _⟩
        have := (h x (List.mem_cons_self ..)).2
        omega
      · by_cases h2 : x ∈ seen
        · simp only [h0, h1, h2, if_true, if_false, Bool.false_eq_true, false_iff]
          rintro ⟨_, _, h⟩
          exact h x (List.mem_cons_self ..) h2
        · rw [if_neg h0, if_neg h1, if_neg h2, scan_iff n xs (x :: seen), List.forall_mem_cons, List.nodup_cons, List.forall_mem_cons]
          constructor
          · rintro ⟨ha, hb, hc⟩
            refine ⟨⟨⟨by omega, by omega⟩, ha⟩, ⟨fun h => hc x h (List.mem_cons_self ..), hb⟩, h2, fun y hy h => hc y hy (List.mem_cons_of_mem _ h)⟩
          · rintro ⟨⟨_, ha⟩, ⟨hb, hc⟩, _, hd⟩
            refine ⟨ha, hc, fun y hy h => ?_⟩
            rcases List.mem_cons.1 h with rfl | h
            · exact hb hy
            · exact hd y hy h
theorem perm_loop (p : List Int) (hp : p.length ≤ 4398046511103) : ∀ (d k j : Nat) (x3 : List Bool) (seen : List Int), p.length - j = d → j ≤ p.length → d < k → x3.length = p.length →
    (∀ v : Nat, v < p.length → (x3.getD v false = true ↔ (v : Int) ∈ seen)) → tuple_Perm.l0 k p x3 p (p.length : Int) (j : Int) = some (scan p.length seen (p.drop j))
  | d, k, j, x3, seen, hd, hj, hk, hx, hs => by
    obtain ⟨k, rfl⟩ : ∃ m, k = m + 1 := ⟨k - 1, by omega⟩
    simp only [tuple_Perm.l0]
    by_cases hlt : j < p.length
    · rw [if_pos (by omega), if_pos (by omega), if_pos (by omega), rd_at p j hlt, List.drop_eq_getElem_cons hlt]
      simp only [scan]
      by_cases h0 : p[j] < 0
      · rw [if_pos h0, if_pos h0]
      · rw [if_neg h0, if_neg h0]
        by_cases h1 : p[j] ≥ (p.length : Int)
        · rw [if_pos h1, if_pos h1]
        · rw [if_neg h1, if_neg h1, if_pos (by omega), if_pos (by omega)]
          obtain ⟨v, hv⟩ := Int.eq_ofNat_of_zero_le (show 0 ≤ p[j] by omega)
          have hvl : v < p.length := by omega
          have hr : rdOf false x3 p[j] = x3.getD v false := by rw [hv]; rfl
          rw [hr]
          by_cases h2 : p[j] ∈ seen
          · rw [if_pos ((hs v hvl).2 (by rw [← hv]; exact h2)), if_pos h2]
          · rw [if_neg (fun h => h2 (by rw [hv]; exact (hs v hvl).1 h)), if_neg h2, wrap_ok (by omega) (by omega)]
            refine perm_loop p hp (p.length - (j + 1)) k (j + 1) (x3.set (p[j]).toNat true) (p[j] :: seen) rfl (by omega) (by omega) (by simpa using hx) ?_
            intro u hu
            rw [hv, Int.toNat_natCast, List.mem_cons, ← hs u hu]
            by_cases e : v = u
            · subst e
              simp [List.getD, List.getElem?_set_self (by omega : v < x3.length)]
            · have e' : ¬ (u : Int) = (v : Int) := by omega
              simp [List.getD, List.getElem?_set_ne e, e']
    · rw [if_neg (by omega), List.drop_eq_nil_of_le (by omega)]
      rfl
termination_by d => d
open Classical in
noncomputable def permB (p : List Int) : Bool := decide (permP p)
open Classical in
theorem permB_iff (p : List Int) : permB p = true ↔ permP p := by unfold permB; simp
theorem tuple_Perm_eq (p : List Int) (hp : p.length ≤ 4398046511103) (k : Nat) (hk : p.length < k) : tuple_Perm.f k p = some (permB p) := by
  unfold tuple_Perm.f
  rw [if_pos (by omega), if_pos (by omega), Int.toNat_natCast]
  have := perm_loop p hp p.length k 0 (List.replicate p.length false) [] (by omega) (by omega) hk (by simp) (fun v hv => by simp [List.getD, hv])
  rw [List.drop_zero] at this
  rw [show ((0 : Nat) : Int) = 0 from rfl] at this
  rw [this]
  congr 1
  rw [Bool.eq_iff_iff, scan_iff, permB_iff]
  simp [permP]

/-! ### the reference's -/
/-- where a number stands; -1: nowhere. -/
def atI (p : List Int) (x : Int) : Int := match p.findIdx? (fun y => y == x) with | some i => (i : Int) | none => -1
theorem at_hit {p : List Int} {x : Int} {j : Nat} (hlt : j < p.length) (h : p[j] = x) (hA : ∀ i, i < j → ∀ h : i < p.length, p[i] ≠ x) : atI p x = (j : Int) := by
  have : p.findIdx? (fun y => y == x) = some j := by
    rw [List.findIdx?_eq_some_iff_getElem]
    exact ⟨hlt, by simp [h], fun i hi => by simp [hA i hi (by omega)]⟩
  unfold atI
  rw [this]
theorem at_miss {p : List Int} {x : Int} (h : x ∉ p) : atI p x = -1 := by
  have : p.findIdx? (fun y => y == x) = none := by
    rw [List.findIdx?_eq_none_iff]
    intro y hy
    rw [beq_eq_false_iff_ne]
    rintro rfl
    exact h hy
  unfold atI
  rw [this]
theorem at_loop (p : List Int) (x : Int) (hp : p.length ≤ 4398046511103) : ∀ (d k j : Nat), p.length - j = d → j ≤ p.length → d < k → (∀ i, i < j → ∀ h : i < p.length, p[i] ≠ x) → antecedentref03_at.l0 k p x (p.length : Int) (j : Int) = some (atI p x)
  | d, k, j, hd, hj, hk, hA => by
    obtain ⟨k, rfl⟩ : ∃ m, k = m + 1 := ⟨k - 1, by omega⟩
    simp only [antecedentref03_at.l0]
    by_cases hlt : j < p.length
    · rw [if_pos (by omega), if_pos (by omega), if_pos (by omega), rd_at p j hlt]
      by_cases h : p[j] = x
      · rw [if_pos h, at_hit hlt h hA]
      · rw [if_neg h, wrap_ok (by omega) (by omega)]
        refine at_loop p x hp (p.length - (j + 1)) k (j + 1) rfl (by omega) (by omega) ?_
        intro i hi hl
        by_cases e : i = j
        · subst e; exact h
        · exact hA i (by omega) hl
    · rw [if_neg (by omega), at_miss]
      intro hx
      obtain ⟨i, hi, e⟩ := List.getElem_of_mem hx
      exact hA i (by omega) hi e
termination_by d => d
theorem ref03_at_eq (p : List Int) (x : Int) (hp : p.length ≤ 4398046511103) (k : Nat) (hk : p.length < k) : antecedentref03_at.f k p x = some (atI p x) := by
  unfold antecedentref03_at.f
  exact at_loop p x hp p.length k 0 (by omega) (by omega) hk (fun i hi => by omega)
theorem at_mem {p : List Int} {x : Int} (h : x ∈ p) : ∃ j : Nat, ∃ hj : j < p.length, p[j] = x ∧ atI p x = (j : Int) := by
  unfold atI
  cases hf : p.findIdx? (fun y => y == x) with
  | none => have := List.findIdx?_eq_none_iff.1 hf x h; simp at this
  | some i =>
    obtain ⟨hlt, hx, _⟩ := List.findIdx?_eq_some_iff_getElem.1 hf
    exact ⟨i, hlt, by simpa using hx, rfl⟩
theorem at_neg (p : List Int) (x : Int) : atI p x < 0 ↔ x ∉ p := by
  constructor
  · intro h hx
    obtain ⟨j, _, _, e⟩ := at_mem hx
    omega
  · intro h
    rw [at_miss h]
    omega
open Classical in
theorem rperm_loop (p : List Int) (hp : p.length ≤ 4398046511103) : ∀ (d k j : Nat), p.length - j = d → j ≤ p.length → d + p.length + 1 < k → (∀ i, i < j → (i : Int) ∈ p) → antecedentref03_Perm.l0 k p (p.length : Int) (j : Int) = some (decide (allAt p))
  | d, k, j, hd, hj, hk, hA => by
    obtain ⟨k, rfl⟩ : ∃ m, k = m + 1 := ⟨k - 1, by omega⟩
    simp only [antecedentref03_Perm.l0]
    by_cases hlt : j < p.length
    · rw [if_pos (by omega), ref03_at_eq p j hp k (by omega)]
      simp only [Option.bind_some]
      by_cases h : (j : Int) ∈ p
      · rw [if_neg (fun hn => (at_neg p j).1 hn h), wrap_ok (by omega) (by omega)]
        refine rperm_loop p hp (p.length - (j + 1)) k (j + 1) rfl (by omega) (by omega) ?_
        intro i hi
        by_cases e : i = j
        · subst e; exact h
        · exact hA i (by omega)
      · rw [if_pos ((at_neg p j).2 h)]
        congr 1
        symm
        rw [decide_eq_false_iff_not]
        exact fun ha => h (ha j hlt)
    · rw [if_neg (by omega)]
      congr 1
      symm
      rw [decide_eq_true_iff]
      exact fun i hi => hA i (by omega)
termination_by d => d
open Classical in
theorem ref03_Perm_eq (p : List Int) (hp : p.length ≤ 4398046511103) (k : Nat) (hk : 2 * p.length + 1 < k) : antecedentref03_Perm.f k p = some (permB p) := by
  unfold antecedentref03_Perm.f
  rw [show (0 : Int) = ((0 : Nat) : Int) from rfl, rperm_loop p hp p.length k 0 (by omega) (by omega) (by omega) (fun i hi => by omega)]
  congr 1
  rw [Bool.eq_iff_iff, permB_iff, perm_iff, decide_eq_true_iff]

/-! ### what undoes it -/
def invL (p : List Int) : List Int := (rangeI p.length).map (atI p)
theorem invL_length (p : List Int) : (invL p).length = p.length := by simp [invL, rangeI_length]
theorem invL_at (p : List Int) (v : Nat) (h : v < p.length) (h' : v < (invL p).length) : (invL p)[v] = atI p (v : Int) := by
  simp [invL, rangeI]
theorem at_self {p : List Int} (hn : p.Nodup) (j : Nat) (hj : j < p.length) : atI p p[j] = (j : Int) := by
  obtain ⟨i, hi, e, h⟩ := at_mem (List.getElem_mem hj)
  rw [h]
  have e3 : i = j := by
    have hp := List.pairwise_iff_getElem.1 hn
    rcases Nat.lt_trichotomy i j with h1 | h1 | h1
    · exact absurd e (hp i j hi hj h1)
    · exact h1
    · exact absurd e.symm (hp j i hj hi h1)
  rw [e3]
theorem inv_loop (p : List Int) (hp : p.length ≤ 4398046511103) (hP : permP p) : ∀ (d k j : Nat) (x3 : List Int), p.length - j = d → j ≤ p.length → d < k → x3.length = p.length →
    (∀ v : Nat, v < p.length → atI p (v : Int) < (j : Int) → x3.getD v 0 = atI p (v : Int)) → tuple_Inverse.l0 k x3 p (p.length : Int) (j : Int) = some (invL p)
  | d, k, j, x3, hd, hj, hk, hx, hs => by
    obtain ⟨k, rfl⟩ : ∃ m, k = m + 1 := ⟨k - 1, by omega⟩
    simp only [tuple_Inverse.l0]
    by_cases hlt : j < p.length
    · have hin := hP.1 p[j] (List.getElem_mem hlt)
      unfold inR at hin
      rw [if_pos (by omega), if_pos (by omega), if_pos (by omega), rd_at p j hlt, if_pos hin.1, if_pos (by omega), wrap_ok (by omega) (by omega)]
      refine inv_loop p hp hP (p.length - (j + 1)) k (j + 1) _ rfl (by omega) (by omega) (by simpa using hx) ?_
      intro v hv hlv
      obtain ⟨u, hu⟩ := Int.eq_ofNat_of_zero_le hin.1
      rw [hu, Int.toNat_natCast]
      by_cases e : u = v
      · subst e
        have h1 : atI p (u : Int) = (j : Int) := by rw [← hu]; exact at_self hP.2 j hlt
        simp [List.getD, List.getElem?_set_self (by omega : u < x3.length), h1]
      · have h1 : ¬ atI p (v : Int) = (j : Int) := by
          intro h
          obtain ⟨i, hi, e1, e2⟩ := at_mem ((perm_iff p).1 hP v hv)
          have e3 : i = j := by omega
          subst e3
          omega
        have := hs v hv (by omega)
        simpa [List.getD, List.getElem?_set_ne e] using this
    · rw [if_neg (by omega)]
      congr 1
      apply List.ext_getElem
      · rw [hx, invL_length]
      · intro v h1 h2
        rw [invL_at p v (by omega) h2]
        have hv : v < p.length := by omega
        obtain ⟨i, hi, e1, e2⟩ := at_mem ((perm_iff p).1 hP v hv)
        have := hs v hv (by omega)
        rw [← this]
        simp [List.getD, h1]
termination_by d => d
open Classical in
theorem tuple_Inverse_eq (p : List Int) (hp : p.length ≤ 4398046511103) (k : Nat) (hk : p.length < k) : tuple_Inverse.f k p = some (if permB p = true then invL p else []) := by
  unfold tuple_Inverse.f
  rw [tuple_Perm_eq p hp k hk]
  simp only [Option.bind_some]
  by_cases h : permB p = true
  · rw [if_pos h, if_pos h, if_pos (by omega), if_pos (by omega), Int.toNat_natCast]
    rw [show (0 : Int) = ((0 : Nat) : Int) from rfl]
    refine inv_loop p hp ((permB_iff p).1 h) p.length k 0 _ (by omega) (by omega) hk (by simp) ?_
    intro v hv hneg
    obtain ⟨i, hi, e1, e2⟩ := at_mem ((perm_iff p).1 ((permB_iff p).1 h) v hv)
    omega
  · rw [if_neg h, if_neg h]
theorem rinv_loop (p : List Int) (hp : p.length ≤ 4398046511103) : ∀ (d k j : Nat), p.length - j = d → j ≤ p.length → d + p.length + 1 < k → antecedentref03_Inverse.l0 k p ((rangeI j).map (atI p)) (p.length : Int) (j : Int) = some (invL p)
  | d, k, j, hd, hj, hk => by
    obtain ⟨k, rfl⟩ : ∃ m, k = m + 1 := ⟨k - 1, by omega⟩
    simp only [antecedentref03_Inverse.l0]
    by_cases hlt : j < p.length
    · rw [if_pos (by omega), ref03_at_eq p j hp k (by omega)]
      simp only [Option.bind_some]
      rw [if_pos (by rw [List.length_map, rangeI_length]; omega), wrap_ok (by omega) (by omega)]
      have := rinv_loop p hp (p.length - (j + 1)) k (j + 1) rfl (by omega) (by omega)
      have e : rangeI (j + 1) = rangeI j ++ [(j : Int)] := by simp [rangeI, List.range_succ]
      rw [e, List.map_append] at this
      exact this
    · rw [if_neg (by omega)]
      obtain rfl : j = p.length := by omega
      rfl
termination_by d => d
theorem ref03_Inverse_eq (p : List Int) (hp : p.length ≤ 4398046511103) (k : Nat) (hk : 2 * p.length + 1 < k) : antecedentref03_Inverse.f k p = some (if permB p = true then invL p else []) := by
  unfold antecedentref03_Inverse.f
  rw [ref03_Perm_eq p hp k hk]
  simp only [Option.bind_some]
  by_cases h : permB p = true
  · rw [if_pos h, if_pos h]
    exact rinv_loop p hp p.length k 0 (by omega) (by omega) (by omega)
  · rw [if_neg h, if_neg h]

/-! ### the same? -/
theorem ints_loop (a b : List Int) (hl : a.length = b.length) (ha : a.length ≤ 4398046511103) : ∀ (d k j : Nat), a.length - j = d → j ≤ a.length → d < k → a.take j = b.take j → antecedentlaw03_ints.l0 k a b (a.length : Int) (j : Int) = some (decide (a = b))
  | d, k, j, hd, hj, hk, hA => by
    obtain ⟨k, rfl⟩ : ∃ m, k = m + 1 := ⟨k - 1, by omega⟩
    simp only [antecedentlaw03_ints.l0]
    by_cases hlt : j < a.length
    · have hlb : j < b.length := by omega
      rw [if_pos (by omega), if_pos (by omega), if_pos (by omega), if_pos (by omega), rd_at a j hlt, rd_at b j hlb]
      by_cases h : a[j] = b[j]
      · rw [if_pos h, wrap_ok (by omega) (by omega)]
        refine ints_loop a b hl ha (a.length - (j + 1)) k (j + 1) rfl (by omega) (by omega) ?_
        rw [List.take_succ_eq_append_getElem hlt, List.take_succ_eq_append_getElem hlb, hA, h]
      · rw [if_neg h]
        congr 1
        symm
        rw [decide_eq_false_iff_not]
        rintro rfl
        exact h rfl
    · rw [if_neg (by omega)]
      congr 1
      symm
      rw [decide_eq_true_iff]
      rw [List.take_of_length_le (by omega), List.take_of_length_le (by omega)] at hA
      exact hA
termination_by d => d
theorem ints_eq (a b : List Int) (ha : a.length ≤ 4398046511103) (k : Nat) (hk : a.length < k) : antecedentlaw03_ints.f k a b = some (decide (a = b)) := by
  unfold antecedentlaw03_ints.f
  by_cases h : a.length = b.length
  · rw [if_pos (by omega)]
    exact ints_loop a b h ha a.length k 0 (by omega) (by omega) hk rfl
  · rw [if_neg (by omega)]
    congr 1
    symm
    rw [decide_eq_false_iff_not]
    rintro rfl
    exact h rfl
theorem S_ext (x y : S38) : x = y ↔ x.f0 = y.f0 ∧ x.f1 = y.f1 ∧ x.f2 = y.f2 := by
  constructor
  · rintro rfl; exact ⟨rfl, rfl, rfl⟩
  · obtain ⟨a, b, c⟩ := x
    obtain ⟨d, e, f⟩ := y
    rintro ⟨rfl, rfl, rfl⟩
    rfl
instance : DecidableEq S38 := fun x y => decidable_of_iff _ (S_ext x y).symm
theorem S_ne (x y : S38) : (!(x.f0 == y.f0) || (!(x.f1 == y.f1) || (!(x.f2.toList == y.f2.toList)))) = !decide (x = y) := by
  rw [Bool.eq_iff_iff]
  simp only [Bool.or_eq_true, Bool.not_eq_true', beq_eq_false_iff_ne, ne_eq, decide_eq_false_iff_not, S_ext, toList_data]
  have : x.f2.data.toList = y.f2.data.toList ↔ x.f2 = y.f2 := by
    constructor
    · intro h
      apply ByteArray.ext
      exact Array.toList_inj.1 h
    · intro h; rw [h]
  rw [this]
  by_cases h0 : x.f0 = y.f0 <;> by_cases h1 : x.f1 = y.f1 <;> by_cases h2 : x.f2 = y.f2 <;> simp [h0, h1, h2]
theorem same_loop (a b : List S38) (hl : a.length = b.length) (ha : a.length ≤ 4398046511103) : ∀ (d k j : Nat), a.length - j = d → j ≤ a.length → d < k → a.take j = b.take j → api_Value.l0 k a b (a.length : Int) (j : Int) = some (decide (a = b))
  | d, k, j, hd, hj, hk, hA => by
    obtain ⟨k, rfl⟩ : ∃ m, k = m + 1 := ⟨k - 1, by omega⟩
    simp only [api_Value.l0]
    by_cases hlt : j < a.length
    · have hlb : j < b.length := by omega
      rw [if_pos (by omega), if_pos (by omega), if_pos (by omega), if_pos (by omega), rdT_at a j hlt, rdT_at b j hlb, S_ne]
      by_cases h : a[j] = b[j]
      · rw [if_neg (by simp [h]), wrap_ok (by omega) (by omega)]
        refine same_loop a b hl ha (a.length - (j + 1)) k (j + 1) rfl (by omega) (by omega) ?_
        rw [List.take_succ_eq_append_getElem hlt, List.take_succ_eq_append_getElem hlb, hA, h]
      · rw [if_pos (by simp [h])]
        congr 1
        symm
        rw [decide_eq_false_iff_not]
        rintro rfl
        exact h rfl
    · rw [if_neg (by omega)]
      congr 1
      symm
      rw [decide_eq_true_iff]
      rw [List.take_of_length_le (by omega), List.take_of_length_le (by omega)] at hA
      exact hA
termination_by d => d
theorem tuple_Same_eq (a b : List S38) (ha : a.length ≤ 4398046511103) (k : Nat) (hk : a.length < k) : tuple_Same.f k a b = some (decide (a = b)) := by
  unfold tuple_Same.f api_Value.f
  by_cases h : a.length = b.length
  · rw [if_pos (by omega), show (0 : Int) = ((0 : Nat) : Int) from rfl, same_loop a b h ha a.length k 0 (by omega) (by omega) hk rfl]
    rfl
  · rw [if_neg (by omega)]
    simp only [Option.bind_some]
    congr 1
    symm
    rw [decide_eq_false_iff_not]
    rintro rfl
    exact h rfl
end Go.Proofs.YtepgdjbjcnolnaaDoor.X
