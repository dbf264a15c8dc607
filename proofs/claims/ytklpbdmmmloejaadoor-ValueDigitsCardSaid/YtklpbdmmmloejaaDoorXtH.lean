/-
  WHAT IS READ: a value that can be, told as a text, is read as it was, by the code and by the reference; the two read alike.
-/
import Derived.Test.YtklpbdmmmloejaaDoorXtE
import Derived.Test.YtklpbdmmmloejaaDoorXtG
import Derived.Test.YtklpbdmmmloejaaDoorXtD
import Derived.Test.YtklpbdmmmloejaaDoorXx5
namespace Go.Proofs.YtklpbdmmmloejaaDoor.X
set_option linter.unusedVariables false
set_option linter.unusedSimpArgs false
open Go.RowKit Go.Proofs.YtklpbdmmmloejaaDoorW.PrintWords Go.Proofs.YtklpbdmmmloejaaDoorW.PrintLast Go.Proofs.YtklpbdmmmloejaaDoorW.PrintMore

theorem hexc_toNat (d : Nat) (h : d < 16) : (hexc d).toNat = if d < 10 then 48 + d else 87 + d := by
  have : ∀ d : Fin 16, (hexc d.val).toNat = if d.val < 10 then 48 + d.val else 87 + d.val := by decide
  exact this ⟨d, h⟩
theorem hexd_hexc (d : Nat) (h : d < 16) : hexd (hexc d).toNat = some d := by
  have : ∀ d : Fin 16, hexd (hexc d.val).toNat = some d.val := by decide
  exact this ⟨d, h⟩
/-- the digits, read from left to right. -/
theorem parse16_append : ∀ (a b : List UInt8) (acc n : Nat), parse16 acc a = .ok n → parse16 acc (a ++ b) = parse16 n b
  | [], b, acc, n, h => by
    simp only [parse16, Lib.NumEnd.ok.injEq] at h
    subst h; rfl
  | c :: a, b, acc, n, h => by
    simp only [parse16, List.cons_append] at h ⊢
    split at h
    · cases h
    · rename_i d hd
      split at h
      · cases h
      · rename_i hc
        rw [if_neg hc]
        exact parse16_append a b _ n h
theorem parse16_hexL (u : Nat) (hu : u < 18446744073709551616) : parse16 0 (hexL u) = .ok u := by
  induction u using Nat.strongRecOn with
  | _ u ih =>
    rw [hexL]
    split
    · rename_i h
      simp only [parse16, hexd_hexc u h]
      rw [if_neg (by omega), Nat.zero_mul, Nat.zero_add]
    · rename_i h
      rw [parse16_append _ _ 0 (u / 16) (ih (u / 16) (by omega) (by omega))]
      simp only [parse16, hexd_hexc (u % 16) (by omega)]
      rw [if_neg (by omega)]
      congr 1
      omega
theorem parse16_zeros : ∀ (n : Nat) (l : List UInt8), parse16 0 (List.replicate n 48 ++ l) = parse16 0 l
  | 0, l => rfl
  | n + 1, l => by
    rw [List.replicate_succ, List.cons_append]
    have h0 : hexd (48 : UInt8).toNat = some 0 := by decide
    simp only [parse16, h0]
    rw [if_neg (by omega)]
    exact parse16_zeros n l
theorem hexL_ne (u : Nat) : hexL u ≠ [] := by
  rw [hexL]; split <;> simp
theorem hex16_ne (u : Nat) : hex16 u ≠ [] := by
  unfold hex16; simp [hexL_ne]
theorem num16_hex16 (u : Nat) (hu : u < 18446744073709551616) : num16 (hex16 u) = u := by
  unfold num16
  rw [if_neg (hex16_ne u)]
  unfold hex16
  rw [parse16_zeros, parse16_hexL u hu]
/-! ### at base 10 -/
theorem dec_toNat (d : Nat) (h : d < 10) : (UInt8.ofNat (48 + d)).toNat = 48 + d := by
  simp; omega
theorem parse10_append : ∀ (a b : List UInt8) (acc n : Nat), Lib.parseUint10 acc a = .ok n → Lib.parseUint10 acc (a ++ b) = Lib.parseUint10 n b
  | [], b, acc, n, h => by
    simp only [Lib.parseUint10, Lib.NumEnd.ok.injEq] at h
    subst h; rfl
  | c :: a, b, acc, n, h => by
    simp only [Lib.parseUint10, List.cons_append] at h ⊢
    split at h
    · rename_i hd
      rw [if_pos hd]
      split at h
      · cases h
      · rename_i h1
        rw [if_neg h1]
        split at h
        · cases h
        · rename_i h2
          rw [if_neg h2]
          exact parse10_append a b _ n h
    · cases h
theorem parse10_dec (u : Nat) (hu : u < 18446744073709551616) : Lib.parseUint10 0 (Lib.decDigits u) = .ok u := by
  induction u using Nat.strongRecOn with
  | _ u ih =>
    rw [Lib.decDigits]
    split
    · rename_i h
      simp only [Lib.parseUint10, dec_toNat u h]
      rw [if_pos (by omega), if_neg (by omega), if_neg (by omega)]
      congr 1; omega
    · rename_i h
      rw [parse10_append _ _ 0 (u / 10) (ih (u / 10) (by omega) (by omega))]
      simp only [Lib.parseUint10, dec_toNat (u % 10) (by omega)]
      rw [if_pos (by omega), if_neg (by omega), if_neg (by omega)]
      congr 1; omega
theorem dec_digit (u : Nat) : ∀ c ∈ Lib.decDigits u, 48 ≤ c.toNat ∧ c.toNat ≤ 57 := by
  induction u using Nat.strongRecOn with
  | _ u ih =>
    intro c hc
    rw [Lib.decDigits] at hc
    split at hc
    · rename_i h
      simp only [List.mem_singleton] at hc
      subst hc
      rw [dec_toNat u h]; omega
    · rename_i h
      rcases List.mem_append.1 hc with hc | hc
      · exact ih (u / 10) (by omega) c hc
      · simp only [List.mem_singleton] at hc
        subst hc
        rw [dec_toNat (u % 10) (by omega)]; omega
theorem dec_ne (u : Nat) : Lib.decDigits u ≠ [] := by
  rw [Lib.decDigits]; split <;> simp
theorem parseInt_itoa (n : Int) (h : -9223372036854775808 ≤ n ∧ n ≤ 9223372036854775807) : Lib.parseIntB 64 (Lib.itoa n) = .ok n := by
  rw [Lib.parseIntB_64]
  unfold Lib.itoa
  split
  · rename_i hn
    have hm : Lib.parseMag (Lib.decDigits n.natAbs) = .ok n.natAbs := by unfold Lib.parseMag; rw [if_neg (dec_ne _), parse10_dec _ (by omega)]
    simp only [Lib.atoiAll]
    have e : (45 : UInt8).toNat = 45 := rfl
    simp only [e, or_true, if_true, hm, not_true_eq_false, false_and, if_false, true_and]
    rw [if_neg (by omega)]
    congr 1; omega
  · rename_i hn
    have hm : Lib.parseMag (Lib.decDigits n.toNat) = .ok n.toNat := by unfold Lib.parseMag; rw [if_neg (dec_ne _), parse10_dec _ (by omega)]
    cases hd : Lib.decDigits n.toNat with
    | nil => exact absurd hd (dec_ne _)
    | cons c r =>
      have hc := dec_digit n.toNat c (by rw [hd]; exact List.mem_cons_self ..)
      rw [hd] at hm
      simp only [Lib.atoiAll]
      have e1 : ¬ c.toNat = 43 := by omega
      have e2 : ¬ c.toNat = 45 := by omega
      have h1 : ¬ 9223372036854775808 ≤ n.toNat := by omega
      have h2 : ((n.toNat : Nat) : Int) = n := by omega
      simp only [e1, e2, or_self, if_false, hm, not_false_eq_true, true_and, false_and, h1, h2]
/-! ### the reference's number -/
theorem numFrom_ascii (s : ByteArray) (b : Int) (hA : ∀ c ∈ s.data.toList, c.toNat < 128) : ∀ (d pos : Nat) (n : Int), s.size - pos ≤ d →
    numFrom s b d pos n = (s.data.toList.drop pos).foldl (fun n (c : UInt8) => numStep b n (c.toNat : Int)) n := by
  have hlen : s.data.toList.length = s.size := rfl
  intro d
  induction d with
  | zero =>
    intro pos n h
    rw [List.drop_eq_nil_of_le (by omega)]; rfl
  | succ d ih =>
    intro pos n h
    simp only [numFrom]
    by_cases hp : pos < s.size
    · have hc : (s[pos]'hp).toNat < 128 := hA _ (Array.mem_toList_iff.2 (Array.getElem_mem hp))
      rw [if_pos hp, decode_ascii s pos hp hc, ih _ _ (by omega), List.drop_eq_getElem_cons (by omega : pos < s.data.toList.length), List.foldl_cons, bt_nat s pos hp]
      rfl
    · rw [if_neg hp, List.drop_eq_nil_of_le (by omega)]; rfl
theorem number_ascii (l : List UInt8) (b : Int) (hA : ∀ c ∈ l, c.toNat < 128) : antecedentref02_number.f ⟨l.toArray⟩ b = some (l.foldl (fun n (c : UInt8) => numStep b n (c.toNat : Int)) 0) := by
  unfold antecedentref02_number.f
  rw [numFrom_ascii ⟨l.toArray⟩ b (by simpa using hA) _ _ _ (by omega)]
  rfl
theorem numDig_hexc (d : Nat) (h : d < 16) : numDig ((hexc d).toNat : Int) = (d : Int) := by
  have h1 := hexc_toNat d h
  unfold numDig
  split at h1
  · rw [if_neg (by omega), h1]; omega
  · rw [if_pos (by omega), h1]; omega
theorem hexc_lt (d : Nat) (h : d < 16) : (hexc d).toNat < 128 := by
  have h1 := hexc_toNat d h
  split at h1 <;> omega
theorem tells_ascii {b : Nat} {l : Nat → List UInt8} (hT : TellsBase b l) (u : Nat) : ∀ c ∈ l u, c.toNat < 128 := by
  have hb := hT.two
  have hb2 := hT.most
  induction u using Nat.strongRecOn with
  | _ u ih =>
    intro c hc
    by_cases h : u < b
    · rw [hT.one u h, List.mem_singleton] at hc
      subst hc; exact hexc_lt u (by omega)
    · rw [hT.more u (by omega)] at hc
      have hm : u % b < b := Nat.mod_lt _ (by omega)
      rcases List.mem_append.1 hc with hc | hc
      · exact ih (u / b) (Nat.div_lt_self (by omega) (by omega)) c hc
      · rw [List.mem_singleton] at hc
        subst hc; exact hexc_lt _ (by omega)
theorem tells_fold {b : Nat} {l : Nat → List UInt8} (hT : TellsBase b l) (u : Nat) (hu : u < 18446744073709551616) :
    (l u).foldl (fun n (c : UInt8) => numStep (b : Int) n (c.toNat : Int)) 0 = (u : Int) := by
  have hb := hT.two
  have hb2 := hT.most
  induction u using Nat.strongRecOn with
  | _ u ih =>
    by_cases h : u < b
    · rw [hT.one u h]
      simp only [List.foldl_cons, List.foldl_nil, numStep, Int.zero_mul, IntKind.wrap_u64]
      rw [numDig_hexc u (by omega)]
      omega
    · have hm : u % b < b := Nat.mod_lt _ (by omega)
      have hd := Nat.div_add_mod u b
      have hle : u / b ≤ u := Nat.div_le_self _ _
      rw [hT.more u (by omega), List.foldl_append, ih (u / b) (Nat.div_lt_self (by omega) (by omega)) (by omega)]
      simp only [List.foldl_cons, List.foldl_nil, numStep, IntKind.wrap_u64]
      rw [numDig_hexc _ (by omega)]
      have e : ((u / b : Nat) : Int) * (b : Int) = ((b * (u / b) : Nat) : Int) := by rw [Nat.mul_comm]; rfl
      rw [e]
      generalize b * (u / b) = q at hd
      generalize u % b = r at hd hm
      omega
theorem zeros_fold : ∀ (n : Nat) (l : List UInt8), (List.replicate n 48 ++ l).foldl (fun n (c : UInt8) => numStep 16 n (c.toNat : Int)) 0 = l.foldl (fun n (c : UInt8) => numStep 16 n (c.toNat : Int)) 0
  | 0, l => rfl
  | n + 1, l => by
    rw [List.replicate_succ, List.cons_append, List.foldl_cons]
    have e : numStep 16 0 ((48 : UInt8).toNat : Int) = 0 := by decide +kernel
    rw [e]
    exact zeros_fold n l
theorem number_dec (u : Nat) (hu : u < 18446744073709551616) : antecedentref02_number.f ⟨(Lib.decDigits u).toArray⟩ 10 = some (u : Int) := by
  rw [number_ascii _ _ (tells_ascii tells10 u)]
  have := tells_fold tells10 u hu
  rw [show ((10 : Nat) : Int) = 10 from rfl] at this
  rw [this]
theorem number_hex16 (u : Nat) (hu : u < 18446744073709551616) : antecedentref02_number.f ⟨(hex16 u).toArray⟩ 16 = some (u : Int) := by
  unfold hex16
  rw [number_ascii _ _ (fun c hc => by
    rcases List.mem_append.1 hc with hc | hc
    · rw [(List.mem_replicate.1 hc).2]; decide
    · exact tells_ascii tells16 u c hc), zeros_fold]
  have := tells_fold tells16 u hu
  rw [show ((16 : Nat) : Int) = 16 from rfl] at this
  rw [this]
/-! ### the reference's Read -/
def numOf (s : ByteArray) (b : Int) : Int := numFrom s b s.size 0 0
def refCand (t : ByteArray) : Int × Int × ByteArray :=
  if bt t 0 = 35 then (2, wrap64 (numOf (t.extract 1 t.size) 16), ⟨#[]⟩)
  else if bt t 0 = 45 then (1, wrap64 (IntKind.u64.wrap (-numOf (t.extract 1 t.size) 10)), ⟨#[]⟩)
  else if 48 ≤ bt t 0 ∧ bt t 0 ≤ 57 then (1, wrap64 (numOf t 10), ⟨#[]⟩)
  else (3, 0, t)
def refR (t : ByteArray) : Int × Int × ByteArray × Int :=
  if t.size = 0 ∨ textL (refCand t).1 (refCand t).2.1 (refCand t).2.2 ≠ t.data.toList then (0, 0, ⟨#[]⟩, 2) else ((refCand t).1, (refCand t).2.1, (refCand t).2.2, 0)
theorem number_some (s : ByteArray) (b : Int) : antecedentref02_number.f s b = some (numOf s b) := rfl
theorem wrap64_rng (x : Int) : -9223372036854775808 ≤ wrap64 x ∧ wrap64 x ≤ 9223372036854775807 := by unfold wrap64; omega
theorem ref_fin (t : ByteArray) (h0 : t.size ≠ 0) (a b : Int) (s : ByteArray) (hc : refCand t = (a, b, s)) :
    (if (⟨(textL a b s).toArray⟩ : ByteArray).toList = t.toList then some (a, b, s, (0 : Int)) else some (0, 0, (⟨#[]⟩ : ByteArray), 2)) = some (refR t) := by
  unfold refR
  rw [hc, toList_data, toList_data]
  by_cases h : textL a b s = t.data.toList
  · rw [if_pos h, if_neg (by rintro (h1 | h1); exact h0 h1; exact h1 h)]
  · rw [if_neg h, if_pos (Or.inr h)]
theorem ref02_Read_eq (t : ByteArray) (k : Nat) (hk : 60 ≤ k) : antecedentref02_Read.f k t = some (refR t) := by
  obtain ⟨k, rfl⟩ : ∃ j, k = j + 1 := ⟨k - 1, by omega⟩
  unfold antecedentref02_Read.f
  by_cases h0 : t.size = 0
  · rw [if_pos ((toList_nil t).2 h0)]
    unfold refR
    rw [if_pos (Or.inl h0)]
  · rw [if_neg (fun h => h0 ((toList_nil t).1 h)), if_pos (by omega)]
    by_cases h1 : bt t 0 = 35
    · have hc : refCand t = (2, wrap64 (numOf (t.extract 1 t.size) 16), ⟨#[]⟩) := by unfold refCand; rw [if_pos h1]
      rw [if_pos h1, if_pos (by omega), number_some]
      simp only [Option.bind_some]
      rw [ref02_Text_eq _ _ _ (k + 1) (by omega) (wrap64_rng _)]
      exact ref_fin t h0 _ _ _ hc
    · rw [if_neg h1]
      by_cases h2 : bt t 0 = 45
      · have hc : refCand t = (1, wrap64 (IntKind.u64.wrap (-numOf (t.extract 1 t.size) 10)), ⟨#[]⟩) := by unfold refCand; rw [if_neg h1, if_pos h2]
        rw [if_pos h2, if_pos (by omega), number_some]
        simp only [Option.bind_some]
        rw [ref02_Text_eq _ _ _ (k + 1) (by omega) (wrap64_rng _)]
        exact ref_fin t h0 _ _ _ hc
      · rw [if_neg h2]
        have hsym : ¬ (48 ≤ bt t 0 ∧ bt t 0 ≤ 57) → antecedentref02_Read.j0 (k + 1) t false 3 0 t = some (refR t) := fun h3 => by
          have hc : refCand t = (3, 0, t) := by unfold refCand; rw [if_neg h1, if_neg h2, if_neg h3]
          simp only [antecedentref02_Read.j0, Bool.false_eq_true, if_false]
          rw [ref02_Text_eq _ _ _ k (by omega) (by omega)]
          exact ref_fin t h0 _ _ _ hc
        by_cases h3 : bt t 0 ≥ 48
        · rw [if_pos h3]
          by_cases h4 : bt t 0 ≤ 57
          · have hc : refCand t = (1, wrap64 (numOf t 10), ⟨#[]⟩) := by unfold refCand; rw [if_neg h1, if_neg h2, if_pos ⟨h3, h4⟩]
            rw [decide_eq_true h4]
            simp only [antecedentref02_Read.j0, if_true]
            rw [number_some]
            simp only [Option.bind_some]
            rw [ref02_Text_eq _ _ _ k (by omega) (wrap64_rng _)]
            exact ref_fin t h0 _ _ _ hc
          · rw [decide_eq_false h4]; exact hsym (by omega)
        · rw [if_neg h3]; exact hsym (by omega)
/-! ### a text of a value that can be is read as that value -/
def txt (k n : Int) (s : ByteArray) : ByteArray := ⟨(textL k n s).toArray⟩
theorem numOf_dec (u : Nat) (hu : u < 18446744073709551616) : numOf ⟨(Lib.decDigits u).toArray⟩ 10 = (u : Int) := Option.some.inj (number_dec u hu)
theorem numOf_hex16 (u : Nat) (hu : u < 18446744073709551616) : numOf ⟨(hex16 u).toArray⟩ 16 = (u : Int) := Option.some.inj (number_hex16 u hu)
theorem bt_cons (c : UInt8) (l : List UInt8) : bt ⟨(c :: l).toArray⟩ 0 = (c.toNat : Int) := by
  have := bt_nat ⟨(c :: l).toArray⟩ 0 (by simp [ByteArray.size])
  exact this
theorem extract_cons (c : UInt8) (l : List UInt8) : (⟨(c :: l).toArray⟩ : ByteArray).extract 1 (⟨(c :: l).toArray⟩ : ByteArray).size = ⟨l.toArray⟩ := by
  apply ba_eq
  rw [Lib.extract_data]
  have : (⟨(c :: l).toArray⟩ : ByteArray).size = l.length + 1 := by simp [ByteArray.size]
  rw [this]
  simp
theorem wrap_back (n : Int) (h : -9223372036854775808 ≤ n ∧ n ≤ 9223372036854775807) : wrap64 (IntKind.u64.wrap n) = n := by
  rw [IntKind.wrap_u64]; unfold wrap64; omega
theorem right_cases {k n : Int} {s : ByteArray} (h : rightB k n s = true) : (k = 1 ∧ s = ⟨#[]⟩) ∨ (k = 2 ∧ s = ⟨#[]⟩ ∧ floB n = true) ∨ (k = 3 ∧ n = 0 ∧ nameB s = true) := by
  unfold rightB at h
  split at h
  · exact Or.inl ⟨by assumption, ba_zero (by simpa using h)⟩
  · split at h
    · simp only [Bool.and_eq_true, decide_eq_true_eq] at h
      exact Or.inr (Or.inl ⟨by assumption, ba_zero h.1, h.2⟩)
    · split at h
      · simp only [Bool.and_eq_true, decide_eq_true_eq] at h
        exact Or.inr (Or.inr ⟨by assumption, h.1, h.2⟩)
      · cases h
theorem name_head {s : ByteArray} (h : nameB s = true) : ∃ c l, s.data.toList = c :: l ∧ 97 ≤ c.toNat ∧ c.toNat ≤ 122 := by
  unfold nameB at h
  simp only [Bool.and_eq_true, decide_eq_true_eq] at h
  cases hl : s.data.toList with
  | nil => have : s.size = 0 := by rw [Lib.size_eq, hl]; rfl
           omega
  | cons c l =>
    have hs : s = ⟨(c :: l).toArray⟩ := by rw [← hl, ba_eta]
    rw [hs, bt_cons] at h
    exact ⟨c, l, rfl, by omega, by omega⟩
theorem itoa_head (n : Int) : ∃ c l, Lib.itoa n = c :: l ∧ (c.toNat = 45 ∧ n < 0 ∧ l = Lib.decDigits n.natAbs ∨ 48 ≤ c.toNat ∧ c.toNat ≤ 57 ∧ 0 ≤ n ∧ c :: l = Lib.decDigits n.toNat) := by
  unfold Lib.itoa
  split
  · exact ⟨45, _, rfl, Or.inl ⟨rfl, by assumption, rfl⟩⟩
  · cases hd : Lib.decDigits n.toNat with
    | nil => exact absurd hd (dec_ne _)
    | cons c l =>
      have hc := dec_digit n.toNat c (by rw [hd]; exact List.mem_cons_self ..)
      exact ⟨c, l, rfl, Or.inr ⟨hc.1, hc.2, by omega, rfl⟩⟩
theorem prefix35 (c : UInt8) (l : List UInt8) (h : c.toNat ≠ 35) : Lib.hasPrefix (c :: l) [35] = false := by
  unfold Lib.hasPrefix
  have : ((35 : UInt8) == c) = false := by rw [beq_eq_false_iff_ne]; rintro rfl; exact h rfl
  simp [List.isPrefixOf, this]
theorem cand_text (k n : Int) (s : ByteArray) (hr : rightB k n s = true) (hn : -9223372036854775808 ≤ n ∧ n ≤ 9223372036854775807) :
    candR (txt k n s) = (k, n, s) ∧ refCand (txt k n s) = (k, n, s) ∧ textL k n s ≠ [] := by
  have ht : textL k n s = if k = 1 then Lib.itoa n else if k = 2 then 35 :: hex16 (IntKind.u64.wrap n).toNat else s.data.toList := by unfold textL; rw [if_pos hr]
  unfold txt
  rcases right_cases hr with ⟨rfl, rfl⟩ | ⟨rfl, rfl, hf⟩ | ⟨rfl, rfl, hN⟩
  · rw [if_pos rfl] at ht
    rw [ht]
    obtain ⟨c, l, he, hc⟩ := itoa_head n
    have hp := parseInt_itoa n hn
    rw [he] at hp ⊢
    refine ⟨?_, ?_, by simp⟩
    · unfold candR
      rw [if_neg (by rw [prefix35 c l (by omega)]; simp)]
      simp only [hp]
    · unfold refCand
      rw [bt_cons]
      rcases hc with ⟨h1, h2, h3⟩ | ⟨h1, h2, h3, h4⟩
      · rw [if_neg (by omega), if_pos (by omega), extract_cons, h3, numOf_dec _ (by omega)]
        have e : (-((n.natAbs : Nat) : Int)) = n := by omega
        rw [e, wrap_back n hn]
      · rw [if_neg (by omega), if_neg (by omega), if_pos (by omega), h4, numOf_dec _ (by omega)]
        have e : ((n.toNat : Nat) : Int) = n := by omega
        rw [e]
        have : wrap64 n = n := by unfold wrap64; omega
        rw [this]
  · rw [if_neg (by omega), if_pos rfl] at ht
    rw [ht]
    have hw := wrap_u64 n
    obtain ⟨u, hu⟩ : ∃ u : Nat, IntKind.u64.wrap n = (u : Int) := ⟨_, (Int.toNat_of_nonneg hw.1).symm⟩
    rw [hu, Int.toNat_natCast]
    have hu2 : u < 18446744073709551616 := by omega
    have hb := wrap_back n hn
    rw [hu] at hb
    refine ⟨?_, ?_, by simp⟩
    · unfold candR
      have h1 : Lib.hasPrefix (35 :: hex16 u) [35] = true := by simp [Lib.hasPrefix, List.isPrefixOf]
      have h2 : Lib.trimPrefix (35 :: hex16 u) [35] = hex16 u := by unfold Lib.trimPrefix; rw [if_pos h1]; rfl
      simp only [h1, if_true, h2, num16_hex16 u hu2, hb]
    · unfold refCand
      rw [bt_cons, if_pos (by rfl), extract_cons, numOf_hex16 u hu2, hb]
  · rw [if_neg (by omega), if_neg (by omega)] at ht
    obtain ⟨c, l, he, h1, h2⟩ := name_head hN
    rw [ht, ba_eta]
    have hs : s = ⟨(c :: l).toArray⟩ := by rw [← he, ba_eta]
    refine ⟨?_, ?_, by rw [he]; simp⟩
    · unfold candR
      rw [he, if_neg (by rw [prefix35 c l (by omega)]; simp)]
      have hp : Lib.parseIntB 64 (c :: l) = .syntax := by
        rw [Lib.parseIntB_64]
        have e1 : ¬ (c.toNat = 43 ∨ c.toNat = 45) := by omega
        have hm : Lib.parseMag (c :: l) = .syntax := by
          unfold Lib.parseMag
          rw [if_neg (by simp)]
          simp only [Lib.parseUint10]
          rw [if_neg (by omega)]
        simp only [Lib.atoiAll, e1, if_false, hm]
      rw [hp]
    · unfold refCand
      have hb : bt s 0 = (c.toNat : Int) := by rw [hs, bt_cons]
      rw [hb, if_neg (by omega), if_neg (by omega), if_neg (by omega)]
theorem candR_rng (t : ByteArray) : -9223372036854775808 ≤ (candR t).2.1 ∧ (candR t).2.1 ≤ 9223372036854775807 := by
  unfold candR
  split
  · exact wrap64_rng _
  · split
    · rename_i n h
      have := Lib.parseIntB_bounds h
      have e : ((2 ^ (64 - 1) : Nat) : Int) = 9223372036854775808 := by decide
      rw [e] at this
      show -9223372036854775808 ≤ n ∧ n ≤ 9223372036854775807
      omega
    · show -9223372036854775808 ≤ (0 : Int) ∧ (0 : Int) ≤ 9223372036854775807
      omega
theorem refCand_rng (t : ByteArray) : -9223372036854775808 ≤ (refCand t).2.1 ∧ (refCand t).2.1 ≤ 9223372036854775807 := by
  unfold refCand
  split
  · exact wrap64_rng _
  · split
    · exact wrap64_rng _
    · split
      · exact wrap64_rng _
      · show -9223372036854775808 ≤ (0 : Int) ∧ (0 : Int) ≤ 9223372036854775807
        omega
theorem text_right {k n : Int} {s : ByteArray} (h : textL k n s ≠ []) : rightB k n s = true := by
  unfold textL at h
  split at h
  · assumption
  · exact absurd rfl h
theorem data_ne {t : ByteArray} (h : t.size ≠ 0) : t.data.toList ≠ [] := fun e => h (by rw [Lib.size_eq, e]; rfl)
/-- the code and the reference read alike. -/
theorem refR_eq (t : ByteArray) : refR t = readR t := by
  unfold refR readR
  by_cases h0 : t.size = 0
  · rw [if_pos (Or.inl h0), if_pos (Or.inl h0)]
  · have hd := data_ne h0
    have key : ∀ k n s, textL k n s = t.data.toList → -9223372036854775808 ≤ n ∧ n ≤ 9223372036854775807 → candR t = (k, n, s) ∧ refCand t = (k, n, s) := fun k n s h hr => by
      have := cand_text k n s (text_right (by rw [h]; exact hd)) hr
      unfold txt at this
      rw [h, ba_eta] at this
      exact ⟨this.1, this.2.1⟩
    by_cases h1 : textL (candR t).1 (candR t).2.1 (candR t).2.2 = t.data.toList
    · obtain ⟨e1, e2⟩ := key _ _ _ h1 (candR_rng t)
      rw [e2, if_neg (by rintro (h | h); exact h0 h; exact h h1)]
    · by_cases h2 : textL (refCand t).1 (refCand t).2.1 (refCand t).2.2 = t.data.toList
      · obtain ⟨e1, e2⟩ := key _ _ _ h2 (refCand_rng t)
        rw [e1] at h1
        exact absurd h2 h1
      · rw [if_pos (Or.inr h2), if_pos (Or.inr h1)]
/-- what is told as a text is read as it was. -/
theorem readR_text (k n : Int) (s : ByteArray) (hr : rightB k n s = true) (hn : -9223372036854775808 ≤ n ∧ n ≤ 9223372036854775807) : readR (txt k n s) = (k, n, s, 0) := by
  obtain ⟨h1, _, h3⟩ := cand_text k n s hr hn
  unfold readR
  rw [h1]
  have h0 : (txt k n s).size ≠ 0 := fun h => h3 (by
    have : (txt k n s).data.toList = textL k n s := by simp [txt]
    rw [← this]
    exact List.length_eq_zero_iff.1 (by rw [← Lib.size_eq]; exact h))
  rw [if_neg]
  rintro (h | h)
  · exact h0 h
  · exact h (by simp [txt])
/-- what is read is told as it stood. -/
theorem readR_cases (t : ByteArray) : readR t = (0, 0, ⟨#[]⟩, 2) ∨ ∃ k n s, readR t = (k, n, s, 0) ∧ rightB k n s = true ∧ textL k n s = t.data.toList ∧ -9223372036854775808 ≤ n ∧ n ≤ 9223372036854775807 := by
  unfold readR
  by_cases h : t.size = 0 ∨ textL (candR t).1 (candR t).2.1 (candR t).2.2 ≠ t.data.toList
  · rw [if_pos h]; exact Or.inl rfl
  · rw [if_neg h]
    have h1 : textL (candR t).1 (candR t).2.1 (candR t).2.2 = t.data.toList := Decidable.not_not.1 (fun h2 => h (Or.inr h2))
    have h0 : t.size ≠ 0 := fun h2 => h (Or.inl h2)
    exact Or.inr ⟨_, _, _, rfl, text_right (by rw [h1]; exact data_ne h0), h1, candR_rng t⟩
theorem read_f (t : ByteArray) (h : t.size ≤ 281474976710656) : value_Read.f t = some (readR t) := by unfold value_Read.f; rw [if_pos h]
end Go.Proofs.YtklpbdmmmloejaaDoor.X
