/-
  ValueNames, in plain Lean.
-/
import Derived.Test.YtklpbdmmmloejaaDoorXtK
import Derived.Test.YtklpbdmmmloejaaDoorXx12
namespace Go.Proofs.YtklpbdmmmloejaaDoor.X
set_option linter.unusedVariables false
set_option linter.unusedSimpArgs false
open Go.RowKit Go.Proofs.YtklpbdmmmloejaaDoorW.PrintWords Go.Proofs.YtklpbdmmmloejaaDoorW.PrintLast Go.Proofs.YtklpbdmmmloejaaDoorW.PrintMore
/-- a byte that may begin a name. -/
def headB (l : List UInt8) : Bool := match l with
  | [] => false
  | c :: _ => decide (97 ≤ (c.toNat : Int) ∧ (c.toNat : Int) ≤ 122)
/-- a name, as a list of bytes. -/
def nameL (l : List UInt8) : Bool := decide (l.length ≤ 40) && (headB l && l.all fun c => okB (c.toNat : Int))
theorem nameB_list (l : List UInt8) : nameB ⟨l.toArray⟩ = nameL l := by
  have hsz : (⟨l.toArray⟩ : ByteArray).size = l.length := by simp [ByteArray.size]
  cases l with
  | nil => decide
  | cons c l =>
    have hall : nameFrom ⟨(c :: l).toArray⟩ (c :: l).length 0 = (c :: l).all fun c => okB (c.toNat : Int) := by
      rw [Bool.eq_iff_iff, name_from_all, List.all_eq_true]
      constructor
      · intro h x hx
        obtain ⟨j, hj, rfl⟩ := List.getElem_of_mem hx
        have := h j hj
        rw [Int.zero_add, bt_nat _ j (by rw [hsz]; exact hj)] at this
        exact this
      · intro h j hj
        rw [Int.zero_add, bt_nat _ j (by rw [hsz]; exact hj)]
        exact h _ (List.getElem_mem hj)
    unfold nameB nameL headB
    rw [hsz, hall, bt_cons]
    have : (1 ≤ (c :: l).length) := by simp
    simp [this]
theorem nameB_data (s : ByteArray) : nameB s = nameL s.data.toList := by
  rw [← nameB_list, ba_eta]
theorem okB_letter {c : Int} (h : 97 ≤ c ∧ c ≤ 122) : okB c = true := by unfold okB; simp [h]
/-- two names, one behind the other. -/
theorem name_cat {a b : List UInt8} (ha : nameL a = true) (hb : nameL b = true) : nameL (a ++ b) = decide (a.length + b.length ≤ 40) := by
  unfold nameL at ha hb ⊢
  simp only [Bool.and_eq_true, decide_eq_true_eq] at ha hb
  have h1 : headB (a ++ b) = true := by
    cases a with
    | nil => exact absurd ha.2.1 (by decide)
    | cons c a => exact ha.2.1
  rw [h1, List.all_append, ha.2.2, hb.2.2, List.length_append]
  simp
/-- a name with one more byte in it. -/
theorem name_with {a : List UInt8} (ha : nameL a = true) (x : UInt8) (j : Nat) (hj : j ≤ a.length) :
    nameL (a.take j ++ [x] ++ a.drop j) = (decide (a.length < 40) && (if j = 0 then decide (97 ≤ (x.toNat : Int) ∧ (x.toNat : Int) ≤ 122) else okB (x.toNat : Int))) := by
  unfold nameL at ha ⊢
  simp only [Bool.and_eq_true, decide_eq_true_eq] at ha
  have hall : (a.take j ++ [x] ++ a.drop j).all (fun c => okB (c.toNat : Int)) = okB (x.toNat : Int) := by
    have h1 : (a.take j).all (fun c => okB (c.toNat : Int)) = true := List.all_eq_true.2 fun c hc => List.all_eq_true.1 ha.2.2 c (List.mem_of_mem_take hc)
    have h2 : (a.drop j).all (fun c => okB (c.toNat : Int)) = true := List.all_eq_true.2 fun c hc => List.all_eq_true.1 ha.2.2 c (List.mem_of_mem_drop hc)
    rw [List.all_append, List.all_append, h1, h2]
    simp
  have hlen : (a.take j ++ [x] ++ a.drop j).length = a.length + 1 := by simp; omega
  have hd : decide (a.length + 1 ≤ 40) = decide (a.length < 40) := by rw [Bool.eq_iff_iff, decide_eq_true_iff, decide_eq_true_iff]; omega
  rw [hall, hlen, hd]
  by_cases h0 : j = 0
  · subst h0
    rw [if_pos rfl]
    have : headB (a.take 0 ++ [x] ++ a.drop 0) = decide (97 ≤ (x.toNat : Int) ∧ (x.toNat : Int) ≤ 122) := rfl
    rw [this]
    by_cases hx : 97 ≤ (x.toNat : Int) ∧ (x.toNat : Int) ≤ 122
    · rw [okB_letter hx]; simp
    · rw [decide_eq_false hx]; simp
  · rw [if_neg h0]
    have : headB (a.take j ++ [x] ++ a.drop j) = true := by
      cases a with
      | nil => exact absurd ha.2.1 (by decide)
      | cons c a =>
        obtain ⟨j, rfl⟩ : ∃ i, j = i + 1 := ⟨j - 1, by omega⟩
        exact ha.2.1
    rw [this]
    simp
theorem value_Name_data (s : ByteArray) (k : Nat) (hk : 42 ≤ k) : value_Name.f k s = some (nameL s.data.toList) := by
  rw [value_Name_eq s k hk, nameB_data]
theorem names_last (k : Nat) (hk : 50 ≤ k) (s t : ByteArray) (ns : nameL s.data.toList = true) (nt : nameL t.data.toList = true) (m x : Int) (hm : 0 ≤ m ∧ m ≤ 255) (hx : 0 ≤ x ∧ x ≤ 255) :
    antecedentlaw02_ValueNames.j2 (k + 1) s t m x false = some true := by
  have hls : s.data.toList.length = s.size := rfl
  have hlt : t.data.toList.length = t.size := rfl
  have bs : s.size ≤ 40 := by
    unfold nameL at ns
    simp only [Bool.and_eq_true, decide_eq_true_eq] at ns
    omega
  have bt' : t.size ≤ 40 := by
    unfold nameL at nt
    simp only [Bool.and_eq_true, decide_eq_true_eq] at nt
    omega
  have w1 : wrap64 ((s.size : Int) + 1) = (s.size : Int) + 1 := by unfold wrap64; omega
  have w2 : wrap64 m = m := by unfold wrap64; omega
  have w3 : wrap64 ((s.size : Int) + (t.size : Int)) = (s.size : Int) + (t.size : Int) := by unfold wrap64; omega
  obtain ⟨j, hj, hjn⟩ : ∃ j : Nat, Int.tmod m ((s.size : Int) + 1) = (j : Int) ∧ j ≤ s.size := by
    rw [Int.tmod_eq_emod_of_nonneg hm.1]
    have h1 := Int.emod_nonneg m (show ((s.size : Int) + 1) ≠ 0 by omega)
    have h2 := Int.emod_lt_of_pos m (show 0 < ((s.size : Int) + 1) by omega)
    exact ⟨(m % ((s.size : Int) + 1)).toNat, by omega, by omega⟩
  obtain ⟨c, hc⟩ : ∃ c : UInt8, (c.toNat : Int) = x := ⟨UInt8.ofNat x.toNat, by simp; omega⟩
  have hcx : strOfNums [x] = ⟨#[c]⟩ := by
    have : UInt8.ofNat x.toNat = c := by rw [← hc]; simp
    unfold strOfNums
    simp [this]
  have hN1 : value_Name.f k (s ++ t) = some (decide ((s.size : Int) + (t.size : Int) ≤ 40)) := by
    rw [value_Name_data _ k (by omega), ba_append, name_cat ns nt]
    congr 1
    rw [Bool.eq_iff_iff, decide_eq_true_iff, decide_eq_true_iff]
    omega
  have hN2 : value_Name.f k (s.extract 0 j ++ ⟨#[c]⟩ ++ s.extract j s.size) = some (decide (s.data.toList.length < 40) && (if j = 0 then decide (97 ≤ (c.toNat : Int) ∧ (c.toNat : Int) ≤ 122) else okB (c.toNat : Int))) := by
    rw [value_Name_data _ k (by omega), ← name_with ns c j (by omega)]
    congr 2
    rw [ba_append, ba_append, Lib.extract_data, Lib.extract_data]
    simp only [List.drop_zero]
    rw [List.take_of_length_le (show (List.drop j s.data.toList).length ≤ s.size - j by simp [List.length_drop])]
    simp
  have z1 : (s.extract 0 j).size = j := by rw [ByteArray.size_extract]; omega
  have z2 : (s.extract j s.size).size = s.size - j := by rw [ByteArray.size_extract]; omega
  have z3 : (⟨#[c]⟩ : ByteArray).size = 1 := rfl
  simp only [antecedentlaw02_ValueNames.j2, Bool.false_eq_true, if_false, w1, w2, w3, hj, Int.toNat_natCast, Option.bind_some, hcx, z1, z2, z3, hN1, hN2, beq_self_eq_true, if_true]
  rw [if_neg (by omega), if_pos (by omega), if_pos (by omega), if_pos (by omega), if_pos (by omega)]
  rw [hc]
  have hp : s.size + t.size ≤ 9223372036854775807 := by omega
  have hlen : decide (s.data.toList.length < 40) = decide ((s.size : Int) < 40) := by rw [Bool.eq_iff_iff, decide_eq_true_iff, decide_eq_true_iff]; omega
  rw [hlen]
  simp only [hp, if_true]
  by_cases q0 : j = 0
  · subst q0
    simp only [if_true, Int.ofNat_zero, gt_iff_lt, Int.lt_irrefl, if_false]
    by_cases q1 : x ≥ 97
    · by_cases q2 : x ≤ 122
      · simp [q1, q2]
      · have q3 : ¬ x ≤ 122 := q2
        simp [q1, q3]
    · have q3 : ¬ (97 ≤ x) := q1
      simp [q1, q3]
  · have q0' : (j : Int) > 0 := by omega
    simp only [q0, q0', if_true, if_false]
    by_cases q1 : x ≥ 97
    · by_cases q2 : x ≤ 122
      · rw [okB_letter ⟨q1, q2⟩]
        simp [q1, q2]
      · have e1 : okB x = false := by unfold okB; simp; omega
        have q4 : x ≥ 48 := by omega
        have q5 : ¬ x ≤ 57 := by omega
        have q6 : ¬ x = 95 := by omega
        simp [q1, q2, e1, q4, q5, q6]
    · by_cases q4 : x ≥ 48
      · by_cases q5 : x ≤ 57
        · have e1 : okB x = true := by unfold okB; simp [q5]; omega
          simp [q1, e1, q4, q5]
        · by_cases q6 : x = 95
          · have e1 : okB x = true := by unfold okB; simp [q6]
            rw [e1]
            simp [q1, q4, q5, q6]
          · have e1 : okB x = false := by unfold okB; simp; omega
            simp [q1, e1, q4, q5, q6]
      · have e1 : okB x = false := by unfold okB; simp; omega
        have q6 : ¬ x = 95 := by omega
        simp [q1, e1, q4, q6]
theorem pureValueNames (s : ByteArray) (hs : s.size ≤ maxLen) (t : ByteArray) (ht : t.size ≤ maxLen) (m : Int) (hm : (Lit.int .u8 m).wf = true) (x : Int) (hx : (Lit.int .u8 x).wf = true) :
    ∃ k, antecedentlaw02_ValueNames.f k s t m x = some true := by
  refine ⟨103, ?_⟩
  have hm : 0 ≤ m ∧ m ≤ 255 := by simp [Lit.wf] at hm; exact hm
  have hx : 0 ≤ x ∧ x ≤ 255 := by simp [Lit.wf] at hx; exact hx
  unfold antecedentlaw02_ValueNames.f
  rw [awake_true 103 (by omega)]
  simp only [Option.bind_some, if_true]
  have hy : antecedentlaw02_ValueNames.j0 103 s t m x true = some true := by
    rw [show (103 : Nat) = 102 + 1 from rfl]
    simp only [antecedentlaw02_ValueNames.j0, if_true, awake_true 102 (by omega), Option.bind_some]
  have h2 : antecedentlaw02_ValueNames.j1 102 s t m x false = some true := by
    rw [show (102 : Nat) = 101 + 1 from rfl]
    simp only [antecedentlaw02_ValueNames.j1, Bool.false_eq_true, if_false]
    rw [value_Name_data s 101 (by omega), value_Name_data t 101 (by omega)]
    simp only [Option.bind_some]
    have hz : antecedentlaw02_ValueNames.j2 101 s t m x true = some true := by
      rw [show (101 : Nat) = 100 + 1 from rfl]
      simp only [antecedentlaw02_ValueNames.j2, if_true]
    cases ns : nameL s.data.toList with
    | false => simp [hz]
    | true =>
      cases nt : nameL t.data.toList with
      | false => simp [hz]
      | true =>
        simp only [if_true, Bool.not_true]
        exact names_last 100 (by omega) s t ns nt m x hm hx
  by_cases h1 : (s.size : Int) > 100
  · rw [if_pos h1]; exact hy
  · rw [if_neg h1]
    by_cases h3 : (t.size : Int) > 100
    · rw [decide_eq_true h3]; exact hy
    · rw [decide_eq_false h3, show (103 : Nat) = 102 + 1 from rfl]
      simp only [antecedentlaw02_ValueNames.j0, Bool.false_eq_true, if_false]
      have he : nameL (⟨#[]⟩ : ByteArray).data.toList = false := by decide
      rw [value_Name_data ⟨#[]⟩ 102 (by omega), he]
      simp only [Option.bind_some, Bool.false_eq_true, if_false]
      by_cases h4 : (s.size : Int) > 0
      · rw [if_pos h4, if_pos (by omega)]
        by_cases h5 : bt s 0 ≥ 48
        · rw [if_pos h5]
          by_cases h6 : bt s 0 ≤ 57
          · rw [if_pos h6, value_Name_data s 102 (by omega)]
            simp only [Option.bind_some]
            have : nameL s.data.toList = false := by
              cases hl : s.data.toList with
              | nil => rfl
              | cons c l =>
                have hs : s = ⟨(c :: l).toArray⟩ := by rw [← hl, ba_eta]
                rw [hs, bt_cons] at h5 h6
                have hh : headB (c :: l) = false := decide_eq_false (show ¬ (97 ≤ (c.toNat : Int) ∧ (c.toNat : Int) ≤ 122) by omega)
                unfold nameL
                rw [hh]
                simp
            rw [this]; exact h2
          · rw [if_neg h6]; exact h2
        · rw [if_neg h5]; exact h2
      · rw [if_neg h4]; exact h2
end Go.Proofs.YtklpbdmmmloejaaDoor.X
