/-
  THE ORDER OF VALUES AND OF LISTS OF VALUES, in plain Lean.
-/
import Derived.Test.YtepgdjbjcnolnaaDoorXtM
namespace Go.Proofs.YtepgdjbjcnolnaaDoor.X
set_option linter.unusedVariables false
set_option linter.unusedSimpArgs false
open Go.RowKit Go.Proofs.YtepgdjbjcnolnaaDoorW.PrintWords Go.Proofs.YtepgdjbjcnolnaaDoorW.PrintLast Go.Proofs.YtepgdjbjcnolnaaDoorW.PrintMore

/-- a comparison that is an order. -/
structure IsOrd {α : Type} (c : α → α → Int) : Prop where
  rng : ∀ x y, c x y = -1 ∨ c x y = 0 ∨ c x y = 1
  anti : ∀ x y, c x y = -c y x
  eq : ∀ x y, c x y = 0 ↔ x = y
  trans : ∀ x y z, c x y ≤ 0 → c y z ≤ 0 → c x z ≤ 0
theorem IsOrd.self {α : Type} {c : α → α → Int} (h : IsOrd c) (x : α) : c x x = 0 := (h.eq x x).2 rfl
/-- a strict step behind one that isn't. -/
theorem IsOrd.lt_of_lt {α : Type} {c : α → α → Int} (h : IsOrd c) {x y z : α} (h1 : c x y < 0) (h2 : c y z ≤ 0) : c x z < 0 := by
  have h3 := h.trans x y z (by omega) h2
  rcases Int.lt_or_eq_of_le h3 with h4 | h4
  · exact h4
  · have := (h.eq x z).1 h4
    subst this
    have := h.anti x y
    omega
theorem IsOrd.lt_of_le {α : Type} {c : α → α → Int} (h : IsOrd c) {x y z : α} (h1 : c x y ≤ 0) (h2 : c y z < 0) : c x z < 0 := by
  have h3 := h.trans x y z h1 (by omega)
  rcases Int.lt_or_eq_of_le h3 with h4 | h4
  · exact h4
  · have := (h.eq x z).1 h4
    subst this
    have := h.anti x y
    omega
theorem ordI : IsOrd cmpI := by
  refine ⟨?_, ?_, ?_, ?_⟩
  · intro x y; unfold cmpI; split
    · exact .inl rfl
    · split
      · exact .inr (.inr rfl)
      · exact .inr (.inl rfl)
  · intro x y; unfold cmpI; by_cases h : x < y <;> by_cases h' : y < x <;> simp [h, h'] <;> omega
  · intro x y; unfold cmpI; by_cases h : x < y <;> by_cases h' : y < x <;> simp [h, h'] <;> omega
  · intro x y z; unfold cmpI; intro h1 h2; split at h1 <;> split at h2 <;> (try split at h1) <;> (try split at h2) <;> (try omega) <;> (split <;> (try split)) <;> omega
/-- list by list. -/
def lexL {α : Type} (c : α → α → Int) : List α → List α → Int
  | [], [] => 0
  | [], _ :: _ => -1
  | _ :: _, [] => 1
  | x :: xs, y :: ys => if c x y ≠ 0 then c x y else lexL c xs ys
theorem ordL {α : Type} {c : α → α → Int} (h : IsOrd c) : IsOrd (lexL c) := by
  refine ⟨?_, ?_, ?_, ?_⟩
  · intro x
    induction x with
    | nil => intro y; cases y <;> simp [lexL]
    | cons a x ih =>
      intro y
      cases y with
      | nil => simp [lexL]
      | cons b y =>
        simp only [lexL]
        split
        · exact h.rng a b
        · exact ih y
  · intro x
    induction x with
    | nil => intro y; cases y <;> simp [lexL]
    | cons a x ih =>
      intro y
      cases y with
      | nil => simp [lexL]
      | cons b y =>
        simp only [lexL]
        have := h.anti a b
        by_cases h1 : c a b = 0
        · rw [if_neg (by simp [h1]), if_neg (by simp; omega)]; exact ih y
        · rw [if_pos h1, if_pos (by omega)]; exact this
  · intro x
    induction x with
    | nil => intro y; cases y <;> simp [lexL]
    | cons a x ih =>
      intro y
      cases y with
      | nil => simp [lexL]
      | cons b y =>
        simp only [lexL, List.cons.injEq]
        by_cases h1 : c a b = 0
        · rw [if_neg (by simp [h1]), ih y, (h.eq a b).1 h1]; simp
        · rw [if_pos h1]
          constructor
          · intro h2; exact absurd h2 h1
          · rintro ⟨rfl, _⟩; exact absurd (h.self a) h1
  · intro x
    induction x with
    | nil => intro y z; cases y <;> cases z <;> simp [lexL]
    | cons a x ih =>
      intro y z
      cases y with
      | nil => simp [lexL]
      | cons b y =>
        cases z with
        | nil => simp [lexL]
        | cons d z =>
          simp only [lexL]
          intro h1 h2
          by_cases e1 : c a b = 0
          · have := (h.eq a b).1 e1
            subst this
            rw [if_neg (by simp [e1])] at h1
            by_cases e2 : c a d = 0
            · rw [if_neg (by simp [e2])] at h2
              rw [if_neg (by simp [e2])]
              exact ih y z h1 h2
            · rw [if_pos e2] at h2
              rw [if_pos e2]
              exact h2
          · rw [if_pos e1] at h1
            by_cases e2 : c b d = 0
            · have := (h.eq b d).1 e2
              subst this
              rw [if_pos e1]; exact h1
            · rw [if_pos e2] at h2
              have := h.lt_of_lt (x := a) (y := b) (z := d) (by omega) h2
              rw [if_pos (by omega)]
              omega
def cmpB (a b : UInt8) : Int := cmpI (a.toNat : Int) (b.toNat : Int)
theorem ordB : IsOrd cmpB :=
  ⟨fun x y => ordI.rng _ _, fun x y => ordI.anti _ _, fun x y => by
    unfold cmpB
    rw [ordI.eq]
    constructor
    · intro h; exact UInt8.toNat_inj.1 (by omega)
    · rintro rfl; rfl, fun x y z => ordI.trans _ _ _⟩
theorem compareBytes_eq : ∀ a b : List UInt8, Lib.compareBytes a b = lexL cmpB a b
  | [], [] => rfl
  | [], _ :: _ => rfl
  | _ :: _, [] => rfl
  | a :: x, b :: y => by
    simp only [Lib.compareBytes, lexL, cmpB, cmpI, UInt8.lt_iff_toNat_lt]
    by_cases h1 : a.toNat < b.toNat
    · have h2 : (a.toNat : Int) < b.toNat := by omega
      simp [h1, h2]
    · have h2 : ¬ (a.toNat : Int) < b.toNat := by omega
      by_cases h3 : b.toNat < a.toNat
      · have h4 : (b.toNat : Int) < a.toNat := by omega
        simp [h1, h2, h3, h4]
      · have h4 : ¬ (b.toNat : Int) < a.toNat := by omega
        simp only [h1, h2, h3, h4, if_false, ne_eq, not_true_eq_false]
        exact compareBytes_eq x y
theorem ordV : IsOrd cmpV := by
  have oB := ordL ordB
  have e0 : ∀ x y : S38, cmpV x y = if cmpI x.f0 y.f0 ≠ 0 then cmpI x.f0 y.f0 else if cmpI x.f1 y.f1 ≠ 0 then cmpI x.f1 y.f1 else lexL cmpB x.f2.data.toList y.f2.data.toList := fun x y => by
    unfold cmpV; rw [compareBytes_eq]
  refine ⟨?_, ?_, ?_, ?_⟩
  · intro x y
    rw [e0]
    split
    · exact ordI.rng _ _
    · split
      · exact ordI.rng _ _
      · exact oB.rng _ _
  · intro x y
    rw [e0, e0]
    have h0 := ordI.anti x.f0 y.f0
    have h1 := ordI.anti x.f1 y.f1
    have h2 := oB.anti x.f2.data.toList y.f2.data.toList
    by_cases k0 : cmpI x.f0 y.f0 = 0
    · rw [if_neg (by simp [k0]), if_neg (show ¬ cmpI y.f0 x.f0 ≠ 0 by simp; omega)]
      by_cases k1 : cmpI x.f1 y.f1 = 0
      · rw [if_neg (by simp [k1]), if_neg (show ¬ cmpI y.f1 x.f1 ≠ 0 by simp; omega)]; exact h2
      · rw [if_pos k1, if_pos (show cmpI y.f1 x.f1 ≠ 0 by omega)]; exact h1
    · rw [if_pos k0, if_pos (show cmpI y.f0 x.f0 ≠ 0 by omega)]; exact h0
  · intro x y
    rw [e0, S_ext]
    by_cases k0 : cmpI x.f0 y.f0 = 0
    · rw [if_neg (by simp [k0])]
      by_cases k1 : cmpI x.f1 y.f1 = 0
      · rw [if_neg (by simp [k1]), oB.eq]
        constructor
        · intro h
          exact ⟨(ordI.eq _ _).1 k0, (ordI.eq _ _).1 k1, by apply ByteArray.ext; exact Array.toList_inj.1 h⟩
        · rintro ⟨_, _, h⟩; rw [h]
      · rw [if_pos k1]
        constructor
        · intro h; exact absurd h k1
        · rintro ⟨_, h, _⟩; exact absurd ((ordI.eq _ _).2 h) k1
    · rw [if_pos k0]
      constructor
      · intro h; exact absurd h k0
      · rintro ⟨h, _⟩; exact absurd ((ordI.eq _ _).2 h) k0
  · intro x y z
    rw [e0, e0, e0]
    intro h1 h2
    by_cases k0 : cmpI x.f0 y.f0 = 0
    · have q0 := (ordI.eq _ _).1 k0
      rw [if_neg (by simp [k0])] at h1
      rw [← q0] at h2
      by_cases m0 : cmpI x.f0 z.f0 = 0
      · rw [if_neg (by simp [m0])] at h2
        rw [if_neg (by simp [m0])]
        by_cases k1 : cmpI x.f1 y.f1 = 0
        · have q1 := (ordI.eq _ _).1 k1
          rw [if_neg (by simp [k1])] at h1
          rw [← q1] at h2
          by_cases m1 : cmpI x.f1 z.f1 = 0
          · rw [if_neg (by simp [m1])] at h2
            rw [if_neg (by simp [m1])]
            exact oB.trans _ _ _ h1 h2
          · rw [if_pos m1] at h2
            rw [if_pos m1]; exact h2
        · rw [if_pos k1] at h1
          by_cases m1 : cmpI y.f1 z.f1 = 0
          · have q1 := (ordI.eq _ _).1 m1
            rw [← q1, if_pos k1]; exact h1
          · rw [if_pos m1] at h2
            have := ordI.lt_of_lt (x := x.f1) (y := y.f1) (z := z.f1) (by omega) h2
            rw [if_pos (by omega)]; omega
      · rw [if_pos m0] at h2
        rw [if_pos m0]; exact h2
    · rw [if_pos k0] at h1
      by_cases m0 : cmpI y.f0 z.f0 = 0
      · have q0 := (ordI.eq _ _).1 m0
        rw [← q0, if_pos k0]; exact h1
      · rw [if_pos m0] at h2
        have := ordI.lt_of_lt (x := x.f0) (y := y.f0) (z := z.f0) (by omega) h2
        rw [if_pos (by omega)]; omega
theorem orderL_eq : ∀ a b : List S38, orderL a b = lexL cmpV a b
  | [], [] => rfl
  | [], _ :: _ => rfl
  | _ :: _, [] => rfl
  | a :: x, b :: y => by simp only [orderL, lexL, orderL_eq x y]
theorem ordO : IsOrd orderL := by
  have h := ordL ordV
  have e : orderL = lexL cmpV := funext fun a => funext fun b => orderL_eq a b
  rw [e]; exact h
theorem order_append : ∀ (x y u v : List S38), x.length = y.length → orderL (x ++ u) (y ++ v) = if orderL x y ≠ 0 then orderL x y else orderL u v
  | [], [], u, v, _ => by simp [orderL]
  | a :: x, b :: y, u, v, h => by
    simp only [List.cons_append, orderL]
    by_cases k : cmpV a b = 0
    · simp only [k, ne_eq, not_true_eq_false, if_false]
      exact order_append x y u v (by simpa using h)
    · simp [k]
  | [], _ :: _, _, _, h => by simp at h
  | _ :: _, [], _, _, h => by simp at h

/-! ### what is picked by a permutation -/
theorem pickL_in {l : List S38} {p : List Int} (h : ∀ x ∈ p, inR l.length x) : pickL l p = p.map (rd_T38 l) := by
  unfold pickL
  rw [List.filter_eq_self.2]
  intro x hx
  have := h x hx
  unfold inR at this
  unfold outB
  have h1 : ¬ x < 0 := by omega
  have h2 : ¬ (l.length : Int) ≤ x := by omega
  simp [h1, h2]
theorem pick_inj {a b : List S38} {p : List Int} (hP : permP p) (ha : a.length = p.length) (hb : b.length = p.length) : pickL a p = pickL b p ↔ a = b := by
  constructor
  · intro h
    rw [pickL_in (by rw [ha]; exact hP.1), pickL_in (by rw [hb]; exact hP.1)] at h
    apply List.ext_getElem (by omega)
    intro v h1 h2
    have hm := (perm_iff p).1 hP v (by omega)
    obtain ⟨j, hj, e, _⟩ := at_mem hm
    have := congrArg (fun l => l[j]?) h
    simp only [List.getElem?_map, List.getElem?_eq_getElem hj, Option.map_some, Option.some.injEq] at this
    rw [e, rdT_at a v h1, rdT_at b v h2] at this
    exact this
  · rintro rfl; rfl
theorem cmpL_anti (a b : List S38) (p : List Int) : cmpL a b p = -cmpL b a p := ordO.anti _ _
theorem cmpL_zero {a b : List S38} {p : List Int} (hP : permP p) (ha : a.length = p.length) (hb : b.length = p.length) : cmpL a b p = 0 ↔ a = b := by
  unfold cmpL
  rw [ordO.eq, pick_inj hP ha hb]
end Go.Proofs.YtepgdjbjcnolnaaDoor.X
