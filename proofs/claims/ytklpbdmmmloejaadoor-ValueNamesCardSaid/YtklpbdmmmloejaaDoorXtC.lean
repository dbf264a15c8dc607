/-
  THE ORDER OF VALUES, in plain Lean, and that the code and the reference tell it.
-/
import Derived.Test.YtklpbdmmmloejaaDoorXtA
import Derived.Test.YtklpbdmmmloejaaDoorXtN
import Derived.Test.YtklpbdmmmloejaaDoorXx4
import Derived.Test.YtklpbdmmmloejaaDoorXx3
namespace Go.Proofs.YtklpbdmmmloejaaDoor.X
set_option linter.unusedVariables false
set_option linter.unusedSimpArgs false
open Go.RowKit Go.Proofs.YtklpbdmmmloejaaDoorW.PrintWords Go.Proofs.YtklpbdmmmloejaaDoorW.PrintLast Go.Proofs.YtklpbdmmmloejaaDoorW.PrintMore

def cmpI (a b : Int) : Int := if a < b then -1 else if b < a then 1 else 0
/-- how two values lie to each other. -/
def cmpV (x y : S23) : Int :=
  if cmpI x.f0 y.f0 ≠ 0 then cmpI x.f0 y.f0 else if cmpI x.f1 y.f1 ≠ 0 then cmpI x.f1 y.f1 else Lib.compareBytes x.f2.data.toList y.f2.data.toList
theorem cmp_int_eq (a b : Int) : cmp_Compare_int.f a b = some (cmpI a b) := by
  unfold cmp_Compare_int.f cmp_isNaN_int.f cmpI
  simp only [Option.bind_some, bne_self_eq_false, Bool.false_eq_true, if_false]
  by_cases h1 : a < b
  · simp [h1]
  · rw [if_neg h1, if_neg h1]
    by_cases h2 : b < a
    · have h3 : a > b := h2
      simp [h2, h3]
    · have h3 : ¬ a > b := h2
      simp [h2, h3]
theorem cmp_int64_eq (a b : Int) : cmp_Compare_int64.f a b = some (cmpI a b) := by
  unfold cmp_Compare_int64.f cmp_isNaN_int64.f cmpI
  simp only [Option.bind_some, bne_self_eq_false, Bool.false_eq_true, if_false]
  by_cases h1 : a < b
  · simp [h1]
  · rw [if_neg h1, if_neg h1]
    by_cases h2 : b < a
    · have h3 : a > b := h2
      simp [h2, h3]
    · have h3 : ¬ a > b := h2
      simp [h2, h3]
theorem wrap_0 : wrap64 (0 + 1) = 1 := by unfold wrap64; omega
theorem wrap_1 : wrap64 (1 + 1) = 2 := by unfold wrap64; omega
theorem wrap_2 : wrap64 (2 + 1) = 3 := by unfold wrap64; omega
theorem cmp_or_eq (a b c : Int) (k : Nat) (hk : 4 ≤ k) : cmp_Or_int.f k [a, b, c] = some (if a ≠ 0 then a else if b ≠ 0 then b else c) := by
  obtain ⟨k, rfl⟩ : ∃ m, k = m + 4 := ⟨k - 4, by omega⟩
  have r0 : rd [a, b, c] 0 = a := rfl
  have r1 : rd [a, b, c] 1 = b := rfl
  have r2 : rd [a, b, c] 2 = c := rfl
  have hl : (([a, b, c] : List Int).length : Int) = 3 := rfl
  unfold cmp_Or_int.f
  rw [hl]
  simp only [cmp_Or_int.l0, hl, r0, r1, r2, wrap_0, wrap_1, wrap_2]
  by_cases h1 : a = 0
  · subst h1
    by_cases h2 : b = 0
    · subst h2
      by_cases h3 : c = 0
      · subst h3; simp
      · simp [h3]
    · simp [h2]
  · simp [h1]
theorem value_Compare_eq (x y : S23) (k : Nat) (hk : 4 ≤ k) : value_Compare.f k x.f0 x.f1 x.f2 y.f0 y.f1 y.f2 = some (cmpV x y) := by
  unfold value_Compare.f strings_Compare.f
  rw [cmp_int_eq, cmp_int64_eq]
  simp only [Option.bind_some]
  rw [cmp_or_eq _ _ _ k hk]
  rfl
theorem bytesLess_compare : ∀ (a b : List UInt8), Lib.compareBytes a b = if Op.bytesLess a b = true then -1 else if Op.bytesLess b a = true then 1 else 0
  | [], [] => rfl
  | [], _ :: _ => rfl
  | _ :: _, [] => rfl
  | a :: as_, b :: bs => by
    simp only [Lib.compareBytes, Op.bytesLess, Bool.or_eq_true, decide_eq_true_eq, Bool.and_eq_true, beq_iff_eq]
    by_cases h1 : a < b
    · simp [h1]
    · by_cases h2 : b < a
      · have h3 : ¬ a = b := by rintro rfl; exact h1 h2
        simp [h1, h2, h3]
      · have h3 : a = b := by
          have := UInt8.lt_or_lt_of_ne (a := a) (b := b)
          by_cases h : a = b
          · exact h
          · rcases this h with h | h
            · exact absurd h h1
            · exact absurd h h2
        subst h3
        simp only [h1, if_false, false_or, true_and]
        rw [bytesLess_compare as_ bs]
theorem ref02_Compare_eq (x y : S23) : antecedentref02_Compare.f x.f0 x.f1 x.f2 y.f0 y.f1 y.f2 = some (cmpV x y) := by
  unfold antecedentref02_Compare.f cmpV cmpI
  by_cases h0 : x.f0 = y.f0
  · rw [if_pos h0, h0]
    simp only [Int.lt_irrefl, if_false, ne_eq, not_true_eq_false]
    by_cases h1 : x.f1 = y.f1
    · rw [if_pos h1, h1]
      simp only [Int.lt_irrefl, if_false, not_true_eq_false]
      rw [bytesLess_compare, toList_data, toList_data]
      split
      · rfl
      · split <;> rfl
    · rw [if_neg h1]
      by_cases h2 : x.f1 < y.f1
      · simp [h2]
      · have h3 : y.f1 < x.f1 := by omega
        simp [h2, h3]
  · rw [if_neg h0]
    by_cases h2 : x.f0 < y.f0
    · simp [h2]
    · have h3 : y.f0 < x.f0 := by omega
      simp [h2, h3]
theorem S_ext (x y : S23) : x = y ↔ x.f0 = y.f0 ∧ x.f1 = y.f1 ∧ x.f2 = y.f2 := by
  constructor
  · rintro rfl; exact ⟨rfl, rfl, rfl⟩
  · obtain ⟨a, b, c⟩ := x
    obtain ⟨d, e, f⟩ := y
    rintro ⟨rfl, rfl, rfl⟩
    rfl
instance : DecidableEq S23 := fun x y => decidable_of_iff _ (S_ext x y).symm
/-- a comparison that is an order. -/
structure IsOrd {α : Type} (c : α → α → Int) : Prop where
  rng : ∀ x y, c x y = -1 ∨ c x y = 0 ∨ c x y = 1
  anti : ∀ x y, c x y = -c y x
  eq : ∀ x y, c x y = 0 ↔ x = y
  trans : ∀ x y z, c x y ≤ 0 → c y z ≤ 0 → c x z ≤ 0
theorem IsOrd.self {α : Type} {c : α → α → Int} (h : IsOrd c) (x : α) : c x x = 0 := (h.eq x x).2 rfl
/-- a strict step behind one that isn't. -/
theorem IsOrd.lt_of_lt {α : Type} {c : α → α → Int} (h : IsOrd c) {x y z : α} (h1 : c x y < 0) (h2 : c y z ≤ 0) : c x z < 0 := by
  have h3 := h.trans x y z (by omega) h2
  rcases Int.lt_or_eq_of_le h3 with h4 | h4
  · exact h4
  · have := (h.eq x z).1 h4
    subst this
    have := h.anti x y
    omega
theorem IsOrd.lt_of_le {α : Type} {c : α → α → Int} (h : IsOrd c) {x y z : α} (h1 : c x y ≤ 0) (h2 : c y z < 0) : c x z < 0 := by
  have h3 := h.trans x y z h1 (by omega)
  rcases Int.lt_or_eq_of_le h3 with h4 | h4
  · exact h4
  · have := (h.eq x z).1 h4
    subst this
    have := h.anti x y
    omega
theorem ordI : IsOrd cmpI := by
  refine ⟨?_, ?_, ?_, ?_⟩
  · intro x y; unfold cmpI; split
    · exact .inl rfl
    · split
      · exact .inr (.inr rfl)
      · exact .inr (.inl rfl)
  · intro x y; unfold cmpI; by_cases h : x < y <;> by_cases h' : y < x <;> simp [h, h'] <;> omega
  · intro x y; unfold cmpI; by_cases h : x < y <;> by_cases h' : y < x <;> simp [h, h'] <;> omega
  · intro x y z; unfold cmpI; intro h1 h2; split at h1 <;> split at h2 <;> (try split at h1) <;> (try split at h2) <;> (try omega) <;> (split <;> (try split)) <;> omega
/-- list by list. -/
def lexL {α : Type} (c : α → α → Int) : List α → List α → Int
  | [], [] => 0
  | [], _ :: _ => -1
  | _ :: _, [] => 1
  | x :: xs, y :: ys => if c x y ≠ 0 then c x y else lexL c xs ys
theorem ordL {α : Type} {c : α → α → Int} (h : IsOrd c) : IsOrd (lexL c) := by
  refine ⟨?_, ?_, ?_, ?_⟩
  · intro x
    induction x with
    | nil => intro y; cases y <;> simp [lexL]
    | cons a x ih =>
      intro y
      cases y with
      | nil => simp [lexL]
      | cons b y =>
        simp only [lexL]
        split
        · exact h.rng a b
        · exact ih y
  · intro x
    induction x with
    | nil => intro y; cases y <;> simp [lexL]
    | cons a x ih =>
      intro y
      cases y with
      | nil => simp [lexL]
      | cons b y =>
        simp only [lexL]
        have := h.anti a b
        by_cases h1 : c a b = 0
        · rw [if_neg (by simp [h1]), if_neg (by simp; omega)]; exact ih y
        · rw [if_pos h1, if_pos (by omega)]; exact this
  · intro x
    induction x with
    | nil => intro y; cases y <;> simp [lexL]
    | cons a x ih =>
      intro y
      cases y with
      | nil => simp [lexL]
      | cons b y =>
        simp only [lexL, List.cons.injEq]
        by_cases h1 : c a b = 0
        · rw [if_neg (by simp [h1]), ih y, (h.eq a b).1 h1]; simp
        · rw [if_pos h1]
          constructor
          · intro h2; exact absurd h2 h1
          · rintro ⟨rfl, _⟩; exact absurd (h.self a) h1
  · intro x
    induction x with
    | nil => intro y z; cases y <;> cases z <;> simp [lexL]
    | cons a x ih =>
      intro y z
      cases y with
      | nil => simp [lexL]
      | cons b y =>
        cases z with
        | nil => simp [lexL]
        | cons d z =>
          simp only [lexL]
          intro h1 h2
          by_cases e1 : c a b = 0
          · have := (h.eq a b).1 e1
            subst this
            rw [if_neg (by simp [e1])] at h1
            by_cases e2 : c a d = 0
            · rw [if_neg (by simp [e2])] at h2
              rw [if_neg (by simp [e2])]
              exact ih y z h1 h2
            · rw [if_pos e2] at h2
              rw [if_pos e2]
              exact h2
          · rw [if_pos e1] at h1
            by_cases e2 : c b d = 0
            · have := (h.eq b d).1 e2
              subst this
              rw [if_pos e1]; exact h1
            · rw [if_pos e2] at h2
              have := h.lt_of_lt (x := a) (y := b) (z := d) (by omega) h2
              rw [if_pos (by omega)]
              omega
def cmpB (a b : UInt8) : Int := cmpI (a.toNat : Int) (b.toNat : Int)
theorem ordB : IsOrd cmpB :=
  ⟨fun x y => ordI.rng _ _, fun x y => ordI.anti _ _, fun x y => by
    unfold cmpB
    rw [ordI.eq]
    constructor
    · intro h; exact UInt8.toNat_inj.1 (by omega)
    · rintro rfl; rfl, fun x y z => ordI.trans _ _ _⟩
theorem compareBytes_eq : ∀ a b : List UInt8, Lib.compareBytes a b = lexL cmpB a b
  | [], [] => rfl
  | [], _ :: _ => rfl
  | _ :: _, [] => rfl
  | a :: x, b :: y => by
    simp only [Lib.compareBytes, lexL, cmpB, cmpI, UInt8.lt_iff_toNat_lt]
    by_cases h1 : a.toNat < b.toNat
    · have h2 : (a.toNat : Int) < b.toNat := by omega
      simp [h1, h2]
    · have h2 : ¬ (a.toNat : Int) < b.toNat := by omega
      by_cases h3 : b.toNat < a.toNat
      · have h4 : (b.toNat : Int) < a.toNat := by omega
        simp [h1, h2, h3, h4]
      · have h4 : ¬ (b.toNat : Int) < a.toNat := by omega
        simp only [h1, h2, h3, h4, if_false, ne_eq, not_true_eq_false]
        exact compareBytes_eq x y
theorem ordV : IsOrd cmpV := by
  have oB := ordL ordB
  have e0 : ∀ x y : S23, cmpV x y = if cmpI x.f0 y.f0 ≠ 0 then cmpI x.f0 y.f0 else if cmpI x.f1 y.f1 ≠ 0 then cmpI x.f1 y.f1 else lexL cmpB x.f2.data.toList y.f2.data.toList := fun x y => by
    unfold cmpV; rw [compareBytes_eq]
  refine ⟨?_, ?_, ?_, ?_⟩
  · intro x y
    rw [e0]
    split
    · exact ordI.rng _ _
    · split
      · exact ordI.rng _ _
      · exact oB.rng _ _
  · intro x y
    rw [e0, e0]
    have h0 := ordI.anti x.f0 y.f0
    have h1 := ordI.anti x.f1 y.f1
    have h2 := oB.anti x.f2.data.toList y.f2.data.toList
    by_cases k0 : cmpI x.f0 y.f0 = 0
    · rw [if_neg (by simp [k0]), if_neg (show ¬ cmpI y.f0 x.f0 ≠ 0 by simp; omega)]
      by_cases k1 : cmpI x.f1 y.f1 = 0
      · rw [if_neg (by simp [k1]), if_neg (show ¬ cmpI y.f1 x.f1 ≠ 0 by simp; omega)]; exact h2
      · rw [if_pos k1, if_pos (show cmpI y.f1 x.f1 ≠ 0 by omega)]; exact h1
    · rw [if_pos k0, if_pos (show cmpI y.f0 x.f0 ≠ 0 by omega)]; exact h0
  · intro x y
    rw [e0, S_ext]
    by_cases k0 : cmpI x.f0 y.f0 = 0
    · rw [if_neg (by simp [k0])]
      by_cases k1 : cmpI x.f1 y.f1 = 0
      · rw [if_neg (by simp [k1]), oB.eq]
        constructor
        · intro h
          exact ⟨(ordI.eq _ _).1 k0, (ordI.eq _ _).1 k1, by apply ByteArray.ext; exact Array.toList_inj.1 h⟩
        · rintro ⟨_, _, h⟩; rw [h]
      · rw [if_pos k1]
        constructor
        · intro h; exact absurd h k1
        · rintro ⟨_, h, _⟩; exact absurd ((ordI.eq _ _).2 h) k1
    · rw [if_pos k0]
      constructor
      · intro h; exact absurd h k0
      · rintro ⟨h, _⟩; exact absurd ((ordI.eq _ _).2 h) k0
  · intro x y z
    rw [e0, e0, e0]
    intro h1 h2
    by_cases k0 : cmpI x.f0 y.f0 = 0
    · have q0 := (ordI.eq _ _).1 k0
      rw [if_neg (by simp [k0])] at h1
      rw [← q0] at h2
      by_cases m0 : cmpI x.f0 z.f0 = 0
      · rw [if_neg (by simp [m0])] at h2
        rw [if_neg (by simp [m0])]
        by_cases k1 : cmpI x.f1 y.f1 = 0
        · have q1 := (ordI.eq _ _).1 k1
          rw [if_neg (by simp [k1])] at h1
          rw [← q1] at h2
          by_cases m1 : cmpI x.f1 z.f1 = 0
          · rw [if_neg (by simp [m1])] at h2
            rw [if_neg (by simp [m1])]
            exact oB.trans _ _ _ h1 h2
          · rw [if_pos m1] at h2
            rw [if_pos m1]; exact h2
        · rw [if_pos k1] at h1
          by_cases m1 : cmpI y.f1 z.f1 = 0
          · have q1 := (ordI.eq _ _).1 m1
            rw [← q1, if_pos k1]; exact h1
          · rw [if_pos m1] at h2
            have := ordI.lt_of_lt (x := x.f1) (y := y.f1) (z := z.f1) (by omega) h2
            rw [if_pos (by omega)]; omega
      · rw [if_pos m0] at h2
        rw [if_pos m0]; exact h2
    · rw [if_pos k0] at h1
      by_cases m0 : cmpI y.f0 z.f0 = 0
      · have q0 := (ordI.eq _ _).1 m0
        rw [← q0, if_pos k0]; exact h1
      · rw [if_pos m0] at h2
        have := ordI.lt_of_lt (x := x.f0) (y := y.f0) (z := z.f0) (by omega) h2
        rw [if_pos (by omega)]; omega
end Go.Proofs.YtklpbdmmmloejaaDoor.X
