/-
  ValueUnlike, in plain Lean.
-/
import Derived.Test.YtklpbdmmmloejaaDoorXtK
import Derived.Test.YtklpbdmmmloejaaDoorXx11
namespace Go.Proofs.YtklpbdmmmloejaaDoor.X
set_option linter.unusedVariables false
set_option linter.unusedSimpArgs false
open Go.RowKit Go.Proofs.YtklpbdmmmloejaaDoorW.PrintWords Go.Proofs.YtklpbdmmmloejaaDoorW.PrintLast Go.Proofs.YtklpbdmmmloejaaDoorW.PrintMore
theorem text_inj {a b : S23} (ha : rightB a.f0 a.f1 a.f2 = true) (hb : rightB b.f0 b.f1 b.f2 = true) (na : -9223372036854775808 ≤ a.f1 ∧ a.f1 ≤ 9223372036854775807) (nb : -9223372036854775808 ≤ b.f1 ∧ b.f1 ≤ 9223372036854775807) :
    textL a.f0 a.f1 a.f2 = textL b.f0 b.f1 b.f2 ↔ a = b := by
  constructor
  · intro h
    have h1 := (cand_text _ _ _ ha na).1
    have h2 := (cand_text _ _ _ hb nb).1
    unfold txt at h1 h2
    rw [h, h2] at h1
    injection h1 with e1 h1
    injection h1 with e2 e3
    exact (S_ext a b).2 ⟨e1.symm, e2.symm, e3.symm⟩
  · rintro rfl; rfl
theorem head_name (c : UInt8) (l : List UInt8) (h : ¬ (97 ≤ c.toNat ∧ c.toNat ≤ 122)) : nameB ⟨(c :: l).toArray⟩ = false := by
  unfold nameB
  rw [bt_cons]
  have : decide (97 ≤ (c.toNat : Int) ∧ (c.toNat : Int) ≤ 122) = false := decide_eq_false (by omega)
  rw [this]
  simp
theorem hexL_16 (u : Nat) (hu : u < 18446744073709551616) : (hex16 u).length = 16 := by
  have := hexL_length u 16 (by omega) hu
  unfold hex16
  simp
  omega
/-- the kind of a value's text. -/
theorem text_kind (k n : Int) (s : ByteArray) (hr : rightB k n s = true) (hn : -9223372036854775808 ≤ n ∧ n ≤ 9223372036854775807) :
    nameB (txt k n s) = (k == 3) ∧ (bt (txt k n s) 0 == 35) = (k == 2) ∧ (k = 2 → (txt k n s).size = 17) := by
  have ht : textL k n s = if k = 1 then Lib.itoa n else if k = 2 then 35 :: hex16 (IntKind.u64.wrap n).toNat else s.data.toList := by unfold textL; rw [if_pos hr]
  unfold txt
  rcases right_cases hr with ⟨rfl, rfl⟩ | ⟨rfl, rfl, hf⟩ | ⟨rfl, rfl, hN⟩
  · rw [if_pos rfl] at ht
    obtain ⟨c, l, he, hc⟩ := itoa_head n
    rw [ht, he, head_name c l (by omega), bt_cons]
    refine ⟨rfl, ?_, fun h => by omega⟩
    rw [Bool.eq_iff_iff]
    simp
    omega
  · rw [if_neg (by omega), if_pos rfl] at ht
    rw [ht, head_name 35 _ (by decide), bt_cons]
    have hw := wrap_u64 n
    refine ⟨rfl, rfl, fun _ => ?_⟩
    show (35 :: hex16 _).toArray.size = 17
    simp [hexL_16 _ (show (IntKind.u64.wrap n).toNat < 18446744073709551616 by omega)]
  · rw [if_neg (by omega), if_neg (by omega)] at ht
    obtain ⟨c, l, he, h1, h2⟩ := name_head hN
    rw [ht, ba_eta, hN]
    have hs : s = ⟨(c :: l).toArray⟩ := by rw [← he, ba_eta]
    have hb : bt s 0 = (c.toNat : Int) := by rw [hs, bt_cons]
    refine ⟨rfl, ?_, fun h => by omega⟩
    rw [hb, Bool.eq_iff_iff]
    simp
    omega
theorem pureValueUnlike (a : S23) (ha : okS a = true) (hsa : a.f2.size ≤ maxLen) (b : S23) (hb : okS b = true) (hsb : b.f2.size ≤ maxLen) :
    ∃ k, antecedentlaw02_ValueUnlike.f k a.f0 a.f1 a.f2 b.f0 b.f1 b.f2 = some true := by
  refine ⟨100, ?_⟩
  have na := okS_n ha
  have nb := okS_n hb
  unfold antecedentlaw02_ValueUnlike.f
  rw [awake_true 100 (by omega)]
  simp only [Option.bind_some, if_true]
  rw [value_Right_eq 100 (by omega), value_Right_eq 100 (by omega)]
  simp only [Option.bind_some]
  have hy : antecedentlaw02_ValueUnlike.j0 100 true a.f0 a.f1 a.f2 b.f0 b.f1 b.f2 = some true := by
    rw [show (100 : Nat) = 99 + 1 from rfl]
    simp only [antecedentlaw02_ValueUnlike.j0, if_true]
  cases ra : rightB a.f0 a.f1 a.f2 with
  | false => simp [hy]
  | true =>
    cases rb : rightB b.f0 b.f1 b.f2 with
    | false => simp [hy]
    | true =>
      simp only [if_true, Bool.not_true]
      rw [show (100 : Nat) = 99 + 1 from rfl]
      simp only [antecedentlaw02_ValueUnlike.j0, Bool.false_eq_true, if_false]
      rw [value_Text_eq _ _ _ na, value_Text_eq _ _ _ nb]
      simp only [Option.bind_some, txt_list]
      have he : ((textL a.f0 a.f1 a.f2 == textL b.f0 b.f1 b.f2) != (a.f0 == b.f0 && (a.f1 == b.f1 && (a.f2.toList == b.f2.toList)))) = false := by
        have h1 := text_inj ra rb na nb
        rw [S_ext] at h1
        have h2 : a.f2.toList = b.f2.toList ↔ a.f2 = b.f2 := ⟨fun h => ba_eq (by rw [← toList_data, ← toList_data, h]), fun h => by rw [h]⟩
        rw [bne_eq_false_iff_eq, Bool.eq_iff_iff]
        simp only [beq_iff_eq, Bool.and_eq_true, h1, h2]
      have hne := (cand_text _ _ _ ra na).2.2
      have hk := text_kind _ _ _ ra na
      have hsz : (txt a.f0 a.f1 a.f2).size = (textL a.f0 a.f1 a.f2).length := by simp [txt, ByteArray.size]
      have hpos : 0 < (textL a.f0 a.f1 a.f2).length := List.length_pos_iff.2 hne
      rw [he]
      simp only [Bool.false_eq_true, if_false]
      rw [if_neg hne, value_Name_eq _ 99 (by omega)]
      simp only [Option.bind_some]
      rw [hk.1]
      simp only [beq_self_eq_true, if_true]
      rw [if_pos (by omega), hk.2.1]
      simp only [beq_self_eq_true, if_true]
      by_cases h2 : a.f0 = 2
      · rw [if_pos h2, hk.2.2 h2]; rfl
      · rw [if_neg h2]
end Go.Proofs.YtklpbdmmmloejaaDoor.X
