/-
  WHAT THE REFERENCE READS: a value that can be, told as a text, is read as it was; the code and the reference read alike.
-/
import Derived.Test.YtklpbdmmmloejaaDoorXtH
import Derived.Test.YtklpbdmmmloejaaDoorXtG
import Derived.Test.YtklpbdmmmloejaaDoorXtD
import Derived.Test.YtklpbdmmmloejaaDoorXx5
namespace Go.Proofs.YtklpbdmmmloejaaDoor.X
set_option linter.unusedVariables false
set_option linter.unusedSimpArgs false
open Go.RowKit Go.Proofs.YtklpbdmmmloejaaDoorW.PrintWords Go.Proofs.YtklpbdmmmloejaaDoorW.PrintLast Go.Proofs.YtklpbdmmmloejaaDoorW.PrintMore

/-! ### the reference's number -/
theorem numFrom_ascii (s : ByteArray) (b : Int) (hA : ∀ c ∈ s.data.toList, c.toNat < 128) : ∀ (d pos : Nat) (n : Int), s.size - pos ≤ d →
    numFrom s b d pos n = (s.data.toList.drop pos).foldl (fun n (c : UInt8) => numStep b n (c.toNat : Int)) n := by
  have hlen : s.data.toList.length = s.size := rfl
  intro d
  induction d with
  | zero =>
    intro pos n h
    rw [List.drop_eq_nil_of_le (by omega)]; rfl
  | succ d ih =>
    intro pos n h
    simp only [numFrom]
    by_cases hp : pos < s.size
    · have hc : (s[pos]'hp).toNat < 128 := hA _ (Array.mem_toList_iff.2 (Array.getElem_mem hp))
      rw [if_pos hp, decode_ascii s pos hp hc, ih _ _ (by omega), List.drop_eq_getElem_cons (by omega : pos < s.data.toList.length), List.foldl_cons, bt_nat s pos hp]
      rfl
    · rw [if_neg hp, List.drop_eq_nil_of_le (by omega)]; rfl
theorem number_ascii (l : List UInt8) (b : Int) (hA : ∀ c ∈ l, c.toNat < 128) : antecedentref02_number.f ⟨l.toArray⟩ b = some (l.foldl (fun n (c : UInt8) => numStep b n (c.toNat : Int)) 0) := by
  unfold antecedentref02_number.f
  rw [numFrom_ascii ⟨l.toArray⟩ b (by simpa using hA) _ _ _ (by omega)]
  rfl
theorem numDig_hexc (d : Nat) (h : d < 16) : numDig ((hexc d).toNat : Int) = (d : Int) := by
  have h1 := hexc_toNat d h
  unfold numDig
  split at h1
  · rw [if_neg (by omega), h1]; omega
  · rw [if_pos (by omega), h1]; omega
theorem hexc_lt (d : Nat) (h : d < 16) : (hexc d).toNat < 128 := by
  have h1 := hexc_toNat d h
  split at h1 <;> omega
theorem tells_ascii {b : Nat} {l : Nat → List UInt8} (hT : TellsBase b l) (u : Nat) : ∀ c ∈ l u, c.toNat < 128 := by
  have hb := hT.two
  have hb2 := hT.most
  induction u using Nat.strongRecOn with
  | _ u ih =>
    intro c hc
    by_cases h : u < b
    · rw [hT.one u h, List.mem_singleton] at hc
      subst hc; exact hexc_lt u (by omega)
    · rw [hT.more u (by omega)] at hc
      have hm : u % b < b := Nat.mod_lt _ (by omega)
      rcases List.mem_append.1 hc with hc | hc
      · exact ih (u / b) (Nat.div_lt_self (by omega) (by omega)) c hc
      · rw [List.mem_singleton] at hc
        subst hc; exact hexc_lt _ (by omega)
theorem tells_fold {b : Nat} {l : Nat → List UInt8} (hT : TellsBase b l) (u : Nat) (hu : u < 18446744073709551616) :
    (l u).foldl (fun n (c : UInt8) => numStep (b : Int) n (c.toNat : Int)) 0 = (u : Int) := by
  have hb := hT.two
  have hb2 := hT.most
  induction u using Nat.strongRecOn with
  | _ u ih =>
    by_cases h : u < b
    · rw [hT.one u h]
      simp only [List.foldl_cons, List.foldl_nil, numStep, Int.zero_mul, IntKind.wrap_u64]
      rw [numDig_hexc u (by omega)]
      omega
    · have hm : u % b < b := Nat.mod_lt _ (by omega)
      have hd := Nat.div_add_mod u b
      have hle : u / b ≤ u := Nat.div_le_self _ _
      rw [hT.more u (by omega), List.foldl_append, ih (u / b) (Nat.div_lt_self (by omega) (by omega)) (by omega)]
      simp only [List.foldl_cons, List.foldl_nil, numStep, IntKind.wrap_u64]
      rw [numDig_hexc _ (by omega)]
      have e : ((u / b : Nat) : Int) * (b : Int) = ((b * (u / b) : Nat) : Int) := by rw [Nat.mul_comm]; rfl
      rw [e]
      generalize b * (u / b) = q at hd
      generalize u % b = r at hd hm
      omega
theorem zeros_fold : ∀ (n : Nat) (l : List UInt8), (List.replicate n 48 ++ l).foldl (fun n (c : UInt8) => numStep 16 n (c.toNat : Int)) 0 = l.foldl (fun n (c : UInt8) => numStep 16 n (c.toNat : Int)) 0
  | 0, l => rfl
  | n + 1, l => by
    rw [List.replicate_succ, List.cons_append, List.foldl_cons]
    have e : numStep 16 0 ((48 : UInt8).toNat : Int) = 0 := by decide +kernel
    rw [e]
    exact zeros_fold n l
theorem number_dec (u : Nat) (hu : u < 18446744073709551616) : antecedentref02_number.f ⟨(Lib.decDigits u).toArray⟩ 10 = some (u : Int) := by
  rw [number_ascii _ _ (tells_ascii tells10 u)]
  have := tells_fold tells10 u hu
  rw [show ((10 : Nat) : Int) = 10 from rfl] at this
  rw [this]
theorem number_hex16 (u : Nat) (hu : u < 18446744073709551616) : antecedentref02_number.f ⟨(hex16 u).toArray⟩ 16 = some (u : Int) := by
  unfold hex16
  rw [number_ascii _ _ (fun c hc => by
    rcases List.mem_append.1 hc with hc | hc
    · rw [(List.mem_replicate.1 hc).2]; decide
    · exact tells_ascii tells16 u c hc), zeros_fold]
  have := tells_fold tells16 u hu
  rw [show ((16 : Nat) : Int) = 16 from rfl] at this
  rw [this]
/-! ### the reference's Read -/
def numOf (s : ByteArray) (b : Int) : Int := numFrom s b s.size 0 0
def refCand (t : ByteArray) : Int × Int × ByteArray :=
  if bt t 0 = 35 then (2, wrap64 (numOf (t.extract 1 t.size) 16), ⟨#[]⟩)
  else if bt t 0 = 45 then (1, wrap64 (IntKind.u64.wrap (-numOf (t.extract 1 t.size) 10)), ⟨#[]⟩)
  else if 48 ≤ bt t 0 ∧ bt t 0 ≤ 57 then (1, wrap64 (numOf t 10), ⟨#[]⟩)
  else (3, 0, t)
def refR (t : ByteArray) : Int × Int × ByteArray × Int :=
  if t.size = 0 ∨ textL (refCand t).1 (refCand t).2.1 (refCand t).2.2 ≠ t.data.toList then (0, 0, ⟨#[]⟩, 2) else ((refCand t).1, (refCand t).2.1, (refCand t).2.2, 0)
theorem number_some (s : ByteArray) (b : Int) : antecedentref02_number.f s b = some (numOf s b) := rfl
theorem ref_fin (t : ByteArray) (h0 : t.size ≠ 0) (a b : Int) (s : ByteArray) (hc : refCand t = (a, b, s)) :
    (if (⟨(textL a b s).toArray⟩ : ByteArray).toList = t.toList then some (a, b, s, (0 : Int)) else some (0, 0, (⟨#[]⟩ : ByteArray), 2)) = some (refR t) := by
  unfold refR
  rw [hc, toList_data, toList_data]
  by_cases h : textL a b s = t.data.toList
  · rw [if_pos h, if_neg (by rintro (h1 | h1); exact h0 h1; exact h1 h)]
  · rw [if_neg h, if_pos (Or.inr h)]
theorem ref02_Read_eq (t : ByteArray) (k : Nat) (hk : 60 ≤ k) : antecedentref02_Read.f k t = some (refR t) := by
  obtain ⟨k, rfl⟩ : ∃ j, k = j + 1 := ⟨k - 1, by omega⟩
  unfold antecedentref02_Read.f
  by_cases h0 : t.size = 0
  · rw [if_pos ((toList_nil t).2 h0)]
    unfold refR
    rw [if_pos (Or.inl h0)]
  · rw [if_neg (fun h => h0 ((toList_nil t).1 h)), if_pos (by omega)]
    by_cases h1 : bt t 0 = 35
    · have hc : refCand t = (2, wrap64 (numOf (t.extract 1 t.size) 16), ⟨#[]⟩) := by unfold refCand; rw [if_pos h1]
      rw [if_pos h1, if_pos (by omega), number_some]
      simp only [Option.bind_some]
      rw [ref02_Text_eq _ _ _ (k + 1) (by omega) (wrap64_rng _)]
      exact ref_fin t h0 _ _ _ hc
    · rw [if_neg h1]
      by_cases h2 : bt t 0 = 45
      · have hc : refCand t = (1, wrap64 (IntKind.u64.wrap (-numOf (t.extract 1 t.size) 10)), ⟨#[]⟩) := by unfold refCand; rw [if_neg h1, if_pos h2]
        rw [if_pos h2, if_pos (by omega), number_some]
        simp only [Option.bind_some]
        rw [ref02_Text_eq _ _ _ (k + 1) (by omega) (wrap64_rng _)]
        exact ref_fin t h0 _ _ _ hc
      · rw [if_neg h2]
        have hsym : ¬ (48 ≤ bt t 0 ∧ bt t 0 ≤ 57) → antecedentref02_Read.j0 (k + 1) t false 3 0 t = some (refR t) := fun h3 => by
          have hc : refCand t = (3, 0, t) := by unfold refCand; rw [if_neg h1, if_neg h2, if_neg h3]
          simp only [antecedentref02_Read.j0, Bool.false_eq_true, if_false]
          rw [ref02_Text_eq _ _ _ k (by omega) (by omega)]
          exact ref_fin t h0 _ _ _ hc
        by_cases h3 : bt t 0 ≥ 48
        · rw [if_pos h3]
          by_cases h4 : bt t 0 ≤ 57
          · have hc : refCand t = (1, wrap64 (numOf t 10), ⟨#[]⟩) := by unfold refCand; rw [if_neg h1, if_neg h2, if_pos ⟨h3, h4⟩]
            rw [decide_eq_true h4]
            simp only [antecedentref02_Read.j0, if_true]
            rw [number_some]
            simp only [Option.bind_some]
            rw [ref02_Text_eq _ _ _ k (by omega) (wrap64_rng _)]
            exact ref_fin t h0 _ _ _ hc
          · rw [decide_eq_false h4]; exact hsym (by omega)
        · rw [if_neg h3]; exact hsym (by omega)
theorem numOf_dec (u : Nat) (hu : u < 18446744073709551616) : numOf ⟨(Lib.decDigits u).toArray⟩ 10 = (u : Int) := Option.some.inj (number_dec u hu)
theorem numOf_hex16 (u : Nat) (hu : u < 18446744073709551616) : numOf ⟨(hex16 u).toArray⟩ 16 = (u : Int) := Option.some.inj (number_hex16 u hu)
theorem cand_ref (k n : Int) (s : ByteArray) (hr : rightB k n s = true) (hn : -9223372036854775808 ≤ n ∧ n ≤ 9223372036854775807) :
    refCand (txt k n s) = (k, n, s) := by
  have ht : textL k n s = if k = 1 then Lib.itoa n else if k = 2 then 35 :: hex16 (IntKind.u64.wrap n).toNat else s.data.toList := by unfold textL; rw [if_pos hr]
  unfold txt
  rcases right_cases hr with ⟨rfl, rfl⟩ | ⟨rfl, rfl, hf⟩ | ⟨rfl, rfl, hN⟩
  · rw [if_pos rfl] at ht
    rw [ht]
    obtain ⟨c, l, he, hc⟩ := itoa_head n
    have hp := parseInt_itoa n hn
    rw [he] at hp ⊢
    unfold refCand
    rw [bt_cons]
    rcases hc with ⟨h1, h2, h3⟩ | ⟨h1, h2, h3, h4⟩
    · rw [if_neg (by omega), if_pos (by omega), extract_cons, h3, numOf_dec _ (by omega)]
      have e : (-((n.natAbs : Nat) : Int)) = n := by omega
      rw [e, wrap_back n hn]
    · rw [if_neg (by omega), if_neg (by omega), if_pos (by omega), h4, numOf_dec _ (by omega)]
      have e : ((n.toNat : Nat) : Int) = n := by omega
      rw [e]
      have : wrap64 n = n := by unfold wrap64; omega
      rw [this]
  · rw [if_neg (by omega), if_pos rfl] at ht
    rw [ht]
    have hw := wrap_u64 n
    obtain ⟨u, hu⟩ : ∃ u : Nat, IntKind.u64.wrap n = (u : Int) := ⟨_, (Int.toNat_of_nonneg hw.1).symm⟩
    rw [hu, Int.toNat_natCast]
    have hu2 : u < 18446744073709551616 := by omega
    have hb := wrap_back n hn
    rw [hu] at hb
    unfold refCand
    rw [bt_cons, if_pos (by rfl), extract_cons, numOf_hex16 u hu2, hb]
  · rw [if_neg (by omega), if_neg (by omega)] at ht
    obtain ⟨c, l, he, h1, h2⟩ := name_head hN
    rw [ht, ba_eta]
    have hs : s = ⟨(c :: l).toArray⟩ := by rw [← he, ba_eta]
    unfold refCand
    have hb : bt s 0 = (c.toNat : Int) := by rw [hs, bt_cons]
    rw [hb, if_neg (by omega), if_neg (by omega), if_neg (by omega)]
theorem refCand_rng (t : ByteArray) : -9223372036854775808 ≤ (refCand t).2.1 ∧ (refCand t).2.1 ≤ 9223372036854775807 := by
  unfold refCand
  split
  · exact wrap64_rng _
  · split
    · exact wrap64_rng _
    · split
      · exact wrap64_rng _
      · show -9223372036854775808 ≤ (0 : Int) ∧ (0 : Int) ≤ 9223372036854775807
        omega
/-- the code and the reference read alike. -/
theorem refR_eq (t : ByteArray) : refR t = readR t := by
  unfold refR readR
  by_cases h0 : t.size = 0
  · rw [if_pos (Or.inl h0), if_pos (Or.inl h0)]
  · have hd := data_ne h0
    have key : ∀ k n s, textL k n s = t.data.toList → -9223372036854775808 ≤ n ∧ n ≤ 9223372036854775807 → candR t = (k, n, s) ∧ refCand t = (k, n, s) := fun k n s h hr => by
      have h1 := (cand_code k n s (text_right (by rw [h]; exact hd)) hr).1
      have h2 := cand_ref k n s (text_right (by rw [h]; exact hd)) hr
      unfold txt at h1 h2
      rw [h, ba_eta] at h1 h2
      exact ⟨h1, h2⟩
    by_cases h1 : textL (candR t).1 (candR t).2.1 (candR t).2.2 = t.data.toList
    · obtain ⟨e1, e2⟩ := key _ _ _ h1 (candR_rng t)
      rw [e2, if_neg (by rintro (h | h); exact h0 h; exact h h1)]
    · by_cases h2 : textL (refCand t).1 (refCand t).2.1 (refCand t).2.2 = t.data.toList
      · obtain ⟨e1, e2⟩ := key _ _ _ h2 (refCand_rng t)
        rw [e1] at h1
        exact absurd h2 h1
      · rw [if_pos (Or.inr h2), if_pos (Or.inr h1)]
end Go.Proofs.YtklpbdmmmloejaaDoor.X
