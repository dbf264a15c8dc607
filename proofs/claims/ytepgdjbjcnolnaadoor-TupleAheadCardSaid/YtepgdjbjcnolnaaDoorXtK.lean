/-
  THE LAWS' FIRST CALL ('awake') ANSWERS TRUE; how two lists lie to each other, in the code and in the reference.
-/
import Derived.Test.YtepgdjbjcnolnaaDoorXtB
import Derived.Test.YtepgdjbjcnolnaaDoorXtN
import Derived.Test.YtepgdjbjcnolnaaDoorXx8
import Derived.Test.YtepgdjbjcnolnaaDoorXx4
import Derived.Test.YtepgdjbjcnolnaaDoorXx5
import Derived.Test.YtepgdjbjcnolnaaDoorXx5
namespace Go.Proofs.YtepgdjbjcnolnaaDoor.X
set_option linter.unusedVariables false
set_option linter.unusedSimpArgs false
open Go.RowKit Go.Proofs.YtepgdjbjcnolnaaDoorW.PrintWords Go.Proofs.YtepgdjbjcnolnaaDoorW.PrintLast Go.Proofs.YtepgdjbjcnolnaaDoorW.PrintMore

def a1 : List S38 := [⟨1, 1, ⟨#[]⟩⟩, ⟨1, 9, ⟨#[]⟩⟩]
theorem dec_small (u : Nat) (h : u < 10) : Lib.decDigits u = [UInt8.ofNat (48 + u)] := by rw [Lib.decDigits, dif_pos h]
theorem text_int (n : Nat) (h : n < 10) : textL 1 (n : Int) ⟨#[]⟩ = [UInt8.ofNat (48 + n)] := by
  unfold textL rightB
  rw [if_pos (by rw [if_pos rfl]; rfl), if_pos rfl]
  unfold Lib.itoa
  rw [if_neg (by omega), Int.toNat_natCast, dec_small n h]
theorem text_a1 : textT a1 = [49, 44, 32, 57] := by
  unfold textT a1
  have h1 : textL 1 1 ⟨#[]⟩ = [49] := text_int 1 (by omega)
  have h9 : textL 1 9 ⟨#[]⟩ = [57] := text_int 9 (by omega)
  simp only [List.map_cons, List.map_nil, h1, h9]
  rfl
theorem tuple_Text_a1 : tuple_Text.f a1 = some ⟨#[49, 44, 32, 57]⟩ := by
  unfold tuple_Text.f
  rw [text_a1, if_pos ⟨by decide, by decide, by decide⟩]
theorem tuple_Compare_a1 : tuple_Compare.f a1 [⟨1, 2, ⟨#[]⟩⟩, ⟨1, 3, ⟨#[]⟩⟩] [1, 0] = some 1 := by decide
theorem perm_a1 : tuple_Perm.f 10 [1, 0] = some true := by decide +kernel
theorem same_a1 : tuple_Same.f 10 a1 a1 = some true := by decide +kernel
theorem inv_a1 : tuple_Inverse.f 10 [0] = some [0] := by decide +kernel
theorem awake_ten : antecedentlaw03_awake.f 10 = some true := by
  unfold antecedentlaw03_awake.f
  simp only [Option.bind_some]
  have e : ([(⟨1, 1, (⟨#[]⟩ : ByteArray)⟩ : S38), (⟨1, 9, (⟨#[]⟩ : ByteArray)⟩ : S38)] : List (S38)) = a1 := rfl
  rw [e, tuple_Compare_a1]
  simp only [Option.bind_some, if_true, perm_a1, tuple_Text_a1]
  rw [if_pos (by rw [toList_data]), same_a1]
  simp only [Option.bind_some, if_true, inv_a1]
  rfl
theorem awake_true (k : Nat) (h : 10 ≤ k) : antecedentlaw03_awake.f k = some true := at_rounds (g := fun k => antecedentlaw03_awake.f k) (fun k => antecedentlaw03_awake.mono k) h awake_ten

/-! ### the reference's Compare, Order, Pick -/
theorem bytesLess_compare : ∀ (a b : List UInt8), Lib.compareBytes a b = if Op.bytesLess a b = true then -1 else if Op.bytesLess b a = true then 1 else 0
  | [], [] => rfl
  | [], _ :: _ => rfl
  | _ :: _, [] => rfl
  | a :: as_, b :: bs => by
    simp only [Lib.compareBytes, Op.bytesLess, Bool.or_eq_true, decide_eq_true_eq, Bool.and_eq_true, beq_iff_eq]
    by_cases h1 : a < b
    · simp [h1]
    · by_cases h2 : b < a
      · have h3 : ¬ a = b := by rintro rfl; exact h1 h2
        simp [h1, h2, h3]
      · have h3 : a = b := by
          have := UInt8.lt_or_lt_of_ne (a := a) (b := b)
          by_cases h : a = b
          · exact h
          · rcases this h with h | h
            · exact absurd h h1
            · exact absurd h h2
        subst h3
        simp only [h1, if_false, false_or, true_and]
        rw [bytesLess_compare as_ bs]
theorem ref02_Compare_eq (x y : S38) : antecedentref02_Compare.f x.f0 x.f1 x.f2 y.f0 y.f1 y.f2 = some (cmpV x y) := by
  unfold antecedentref02_Compare.f cmpV cmpI
  by_cases h0 : x.f0 = y.f0
  · rw [if_pos h0, h0]
    simp only [Int.lt_irrefl, if_false, ne_eq, not_true_eq_false]
    by_cases h1 : x.f1 = y.f1
    · rw [if_pos h1, h1]
      simp only [Int.lt_irrefl, if_false, not_true_eq_false]
      rw [bytesLess_compare, toList_data, toList_data]
      split
      · rfl
      · split <;> rfl
    · rw [if_neg h1]
      by_cases h2 : x.f1 < y.f1
      · simp [h2]
      · have h3 : y.f1 < x.f1 := by omega
        simp [h2, h3]
  · rw [if_neg h0]
    by_cases h2 : x.f0 < y.f0
    · simp [h2]
    · have h3 : y.f0 < x.f0 := by omega
      simp [h2, h3]
theorem wrap_ok {i : Int} (h0 : 0 ≤ i) (h : i < 9223372036854775807) : wrap64 (i + 1) = i + 1 := by
  unfold wrap64
  omega
theorem order_loop (a b : List S38) (ha : a.length ≤ 4398046511103) : ∀ (d k j : Nat), a.length - j = d → j ≤ a.length → j ≤ b.length → 2 * d + 2 ≤ k → antecedentref03_Order.l0 k a b (j : Int) = some (orderL (a.drop j) (b.drop j))
  | d, k, j, hd, hj, hjb, hk => by
    obtain ⟨k, rfl⟩ : ∃ m, k = m + 2 := ⟨k - 2, by omega⟩
    simp only [antecedentref03_Order.l0]
    by_cases hlt : j < a.length
    · rw [if_pos (by omega)]
      simp only [antecedentref03_Order.j1]
      by_cases hlb : j < b.length
      · rw [if_pos (decide_eq_true (by omega)), if_pos (by omega), if_pos (by omega), if_pos (by omega), rdT_at a j hlt, rdT_at b j hlb, ref02_Compare_eq]
        simp only [Option.bind_some]
        rw [order_cons hlt hlb]
        by_cases hz : cmpV a[j] b[j] = 0
        · rw [if_pos hz, if_neg (by simp [hz]), wrap_ok (by omega) (by omega)]
          exact order_loop a b ha (a.length - (j + 1)) k (j + 1) rfl (by omega) (by omega) (by omega)
        · rw [if_neg hz, if_pos hz]
      · rw [if_neg (by rw [decide_eq_true_iff]; omega), order_gt hlt (by omega), if_neg (by omega), if_pos (by omega)]
    · rw [if_neg (by omega)]
      simp only [antecedentref03_Order.j1]
      rw [if_neg (by simp), order_end (by omega)]
      by_cases hlb : a.length < b.length
      · rw [if_pos (by omega), if_pos (by omega)]
      · rw [if_neg (by omega), if_neg (by omega), if_neg (by omega)]
termination_by d => d
theorem ref03_Order_eq (a b : List S38) (ha : a.length ≤ 4398046511103) (k : Nat) (hk : 2 * a.length + 2 ≤ k) : antecedentref03_Order.f k a b = some (orderL a b) := by
  unfold antecedentref03_Order.f
  exact order_loop a b ha a.length k 0 (by omega) (by omega) (by omega) (by omega)
/-- what is picked. -/
def pickL (l : List S38) (p : List Int) : List S38 := (p.filter (fun c => !outB l.length c)).map (rd_T38 l)
theorem tuple_Pick_eq (l : List S38) (p : List Int) (hp : p.length ≤ 4398046511103) : tuple_Pick.f l p = some (pickL l p) := by
  unfold tuple_Pick.f
  rw [if_pos hp]
  rfl
theorem pickL_length (l : List S38) (p : List Int) : (pickL l p).length ≤ p.length := by
  unfold pickL
  rw [List.length_map]
  exact List.length_filter_le _ _
theorem pickL_append (l : List S38) (p q : List Int) : pickL l (p ++ q) = pickL l p ++ pickL l q := by
  unfold pickL
  rw [List.filter_append, List.map_append]
theorem pickL_one (l : List S38) (c : Int) : pickL l [c] = if 0 ≤ c ∧ c < l.length then [rd_T38 l c] else [] := by
  unfold pickL outB
  by_cases h : 0 ≤ c ∧ c < l.length
  · rw [if_pos h]
    have h1 : ¬ c < 0 := by omega
    have h2 : ¬ (l.length : Int) ≤ c := by omega
    simp [h1, h2]
  · rw [if_neg h]
    by_cases h1 : c < 0
    · simp [h1]
    · have h2 : (l.length : Int) ≤ c := by omega
      simp [h1, h2]
theorem pick_loop (l : List S38) (p : List Int) (hp : p.length ≤ 4398046511103) : ∀ (d k j : Nat), p.length - j = d → j ≤ p.length → d < k → antecedentref03_Pick.l0 k l p (pickL l (p.take j)) (p.length : Int) (j : Int) = some (pickL l p)
  | d, k, j, hd, hj, hk => by
    obtain ⟨k, rfl⟩ : ∃ m, k = m + 1 := ⟨k - 1, by omega⟩
    simp only [antecedentref03_Pick.l0]
    by_cases hlt : j < p.length
    · have hlen := pickL_length l (p.take j)
      rw [List.length_take] at hlen
      have hnext : pickL l (p.take (j + 1)) = pickL l (p.take j) ++ pickL l [p[j]] := by
        rw [List.take_succ_eq_append_getElem hlt, pickL_append]
      have hrec := pick_loop l p hp (p.length - (j + 1)) k (j + 1) rfl (by omega) (by omega)
      rw [hnext, pickL_one] at hrec
      rw [if_pos (by omega), if_pos (by omega), if_pos (by omega), rd_at p j hlt, wrap_ok (by omega) (by omega)]
      by_cases h0 : 0 ≤ p[j]
      · rw [if_pos (by omega)]
        by_cases h1 : p[j] < l.length
        · rw [if_pos h1, if_pos h0, if_pos (by omega)]
          rw [if_pos ⟨h0, h1⟩] at hrec
          exact hrec
        · rw [if_neg h1]
          rw [if_neg (by omega), List.append_nil] at hrec
          exact hrec
      · rw [if_neg (by omega)]
        rw [if_neg (by omega), List.append_nil] at hrec
        exact hrec
    · rw [if_neg (by omega)]
      obtain rfl : j = p.length := by omega
      rw [List.take_length]
termination_by d => d
theorem ref03_Pick_eq (l : List S38) (p : List Int) (hp : p.length ≤ 4398046511103) (k : Nat) (hk : p.length < k) : antecedentref03_Pick.f k l p = some (pickL l p) := by
  unfold antecedentref03_Pick.f
  exact pick_loop l p hp p.length k 0 (by omega) (by omega) (by omega)
/-- how two tuples lie to each other, by some columns. -/
def cmpL (a b : List S38) (p : List Int) : Int := orderL (pickL a p) (pickL b p)
theorem tuple_Compare_eq (a b : List S38) (p : List Int) (hp : p.length ≤ 4398046511103) : tuple_Compare.f a b p = some (cmpL a b p) := by
  unfold tuple_Compare.f
  rw [tuple_Pick_eq a p hp, tuple_Pick_eq b p hp]
  rfl
theorem ref03_Compare_eq (a b : List S38) (p : List Int) (hp : p.length ≤ 4398046511103) (k : Nat) (hk : 2 * p.length + 2 ≤ k) : antecedentref03_Compare.f k a b p = some (cmpL a b p) := by
  unfold antecedentref03_Compare.f
  rw [ref03_Pick_eq a p hp k (by omega), ref03_Pick_eq b p hp k (by omega)]
  simp only [Option.bind_some]
  have := pickL_length a p
  rw [ref03_Order_eq _ _ (by omega) k (by omega)]
  rfl
end Go.Proofs.YtepgdjbjcnolnaaDoor.X
