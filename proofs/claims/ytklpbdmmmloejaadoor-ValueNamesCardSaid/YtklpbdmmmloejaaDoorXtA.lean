/-
  FUNCTIONS THAT ARE GIVEN BY HAND, each as a Lean function with the contract that the code comes to it: strings.Compare, strconv.FormatInt at base 10, strings.Repeat (the shelf's contracts), and the reference's Name (a range over a string).
-/
import Derived.Test.YtklpbdmmmloejaaDoorXx0
import Derived.Test.YtklpbdmmmloejaaDoorXtS
import Derived.Test.YtklpbdmmmloejaaDoorXtL
import Derived.Laws.RangeAny
import Derived.Laws.RangeString
namespace Go.Proofs.YtklpbdmmmloejaaDoor.X
set_option linter.unusedVariables false
set_option linter.unusedSimpArgs false
open Go.RowKit Go.Proofs.YtklpbdmmmloejaaDoorW.PrintWords Go.Proofs.YtklpbdmmmloejaaDoorW.PrintLast Go.Proofs.YtklpbdmmmloejaaDoorW.PrintMore

/-! ### strings.Compare -/
def strings_Compare.f (a0 : ByteArray) (a1 : ByteArray) : Option Int := some (Lib.compareBytes a0.data.toList a1.data.toList)
theorem strings_Compare.calls (a0 a1 : ByteArray) (r : Int) (w : World) (h : strings_Compare.f a0 a1 = some r) :
    Calls Tryd.prog 28 #[.string a0, .string a1] w fun e w' => e = .returned (.int .i64 r) ∧ Drawn0 w w' := by
  obtain rfl := Option.some.inj h
  refine (Tryd.strings_Compare a0 a1 w).mono ?_
  rintro e w' ⟨rfl, rfl⟩
  exact ⟨rfl, Drawn0.refl _⟩

/-! ### strconv.FormatInt, base 10 -/
def strconv_FormatInt.f (a0 : Int) (a1 : Int) : Option ByteArray := if a1 = 10 ∧ -9223372036854775808 ≤ a0 ∧ a0 ≤ 9223372036854775807 then some ⟨(Lib.itoa a0).toArray⟩ else none
theorem below_grow (w : World) (k : Nat) (os : Array Obj) : Below w.heap.size w (Sort.grow (w.drewN k) os) := by
  have h : Below w.heap.size w (w.drewN k) := pw_below_drewN (Below.refl _ _) k
  refine ⟨h.os, h.tape, h.output, ?_, ?_⟩
  · simp [Sort.grow, World.drewN]
  · intro i hi
    simp [Sort.grow, World.drewN, Array.getElem?_append, hi]
theorem strconv_FormatInt.calls (a0 a1 : Int) (r : ByteArray) (w : World) (hLW : LaidW w) (h : strconv_FormatInt.f a0 a1 = some r) :
    Calls Tryd.prog 29 #[.int .i64 a0, .int .i64 a1] w fun e w' => e = .returned (.string r) ∧ Below w.heap.size w w' := by
  unfold strconv_FormatInt.f at h
  split at h
  · rename_i hc
    obtain ⟨rfl, h0, h1⟩ := hc
    obtain rfl := Option.some.inj h
    refine (Tryd.strconv_FormatInt_10 a0 h0 h1 w hLW.t10).mono ?_
    rintro e w' ⟨rfl, k, os, rfl⟩
    exact ⟨rfl, below_grow w k os⟩
  · cases h

/-! ### strings.Repeat -/
def strings_Repeat.f (a0 : ByteArray) (a1 : Int) : Option ByteArray := if 0 ≤ a1 ∧ a1 ≤ 9223372036854775807 ∧ a0.size * a1.toNat ≤ 140737488355328 then some ⟨(Lib.repeatL a0.data.toList a1.toNat).toArray⟩ else none
theorem strings_Repeat.calls (a0 : ByteArray) (a1 : Int) (r : ByteArray) (w : World) (h : strings_Repeat.f a0 a1 = some r) :
    Calls Tryd.prog 31 #[.string a0, .int .i64 a1] w fun e w' => e = .returned (.string r) ∧ Below w.heap.size w w' := by
  unfold strings_Repeat.f at h
  split at h
  · rename_i hc
    obtain ⟨h0, h1, h2⟩ := hc
    obtain rfl := Option.some.inj h
    obtain ⟨n, rfl⟩ := Int.eq_ofNat_of_zero_le h0
    have h3 : n ≤ 9223372036854775807 := by omega
    have h4 : ((n : Int)).toNat = n := Int.toNat_natCast n
    rw [h4] at h2
    refine (Tryd.strings_Repeat a0 n w h3 h2).mono ?_
    rintro e w' ⟨rfl, hb⟩
    exact ⟨by simp only [h4], hb⟩
  · cases h

/-! ### the reference's Name -/
/-- a byte that may stand in a name. -/
def okB (c : Int) : Bool := decide (97 ≤ c ∧ c ≤ 122) || (decide (48 ≤ c ∧ c ≤ 57) || decide (c = 95))
def nameFrom (s : ByteArray) : Nat → Int → Bool
  | 0, _ => true
  | d + 1, i => okB (bt s i) && nameFrom s d (i + 1)
def nameB (s : ByteArray) : Bool := decide (1 ≤ s.size ∧ s.size ≤ 40) && (decide (97 ≤ bt s 0 ∧ bt s 0 ≤ 122) && nameFrom s s.size 0)
def antecedentref02_Name.f (a0 : ByteArray) : Option Bool := some (nameB a0)
theorem okB_hi {c : Int} (h : 128 ≤ c) : okB c = false := by
  unfold okB
  simp
  omega
theorem width_pos (s : ByteArray) (pos : Nat) (h : pos < s.size) : 1 ≤ (Utf8.decode s pos).2 := by
  by_cases ha : (s[pos]'h).toNat < 128
  · rw [decode_ascii s pos h ha]
    exact Nat.le_refl _
  · exact (decode_high s pos h (by omega)).2
theorem bt_nat (s : ByteArray) (pos : Nat) (h : pos < s.size) : bt s (pos : Int) = ((s[pos]'h).toNat : Int) := by
  have := bt_at s (pos : Int) (by simpa using h)
  simpa using this.symm
theorem below_iter (w : World) (s : ByteArray) (pos : Nat) : Below w.heap.size w (w.iter s pos) := (Below.refl _ _).alloc (Nat.le_refl _) _
theorem name_from_all (s : ByteArray) : ∀ (d : Nat) (i : Int), nameFrom s d i = true ↔ ∀ j : Nat, j < d → okB (bt s (i + j)) = true
  | 0, i => by simp [nameFrom]
  | d + 1, i => by
    simp only [nameFrom, Bool.and_eq_true, name_from_all s d (i + 1)]
    constructor
    · rintro ⟨h0, h⟩ j hj
      cases j with
      | zero => simpa using h0
      | succ j => have := h j (by omega); rwa [show i + 1 + (j : Int) = i + ((j + 1 : Nat) : Int) by omega] at this
    · intro h
      refine ⟨by simpa using h 0 (by omega), fun j hj => ?_⟩
      have := h (j + 1) (by omega)
      rwa [show i + ((j + 1 : Nat) : Int) = i + 1 + (j : Int) by omega] at this
theorem nameB_false {s : ByteArray} {j : Nat} (hj : j < s.size) (h : okB (bt s j) = false) : nameB s = false := by
  cases hn : nameB s with
  | false => rfl
  | true =>
    unfold nameB at hn
    simp only [Bool.and_eq_true] at hn
    have := (name_from_all s s.size 0).1 hn.2.2 j hj
    rw [show (0 : Int) + (j : Int) = (j : Int) by omega, h] at this
    cases this
set_option maxHeartbeats 2000000 in
set_option maxRecDepth 1000000 in
theorem ref02_Name_out (s : ByteArray) (w : World) (h : ¬ (1 ≤ s.size ∧ s.size ≤ 40 ∧ 97 ≤ bt s 0 ∧ bt s 0 ≤ 122)) :
    Calls Tryd.prog 12 #[.string s] w fun e w' => e = .returned (.bool false) ∧ Below w.heap.size w w' := by
  by_cases h1 : s.size < 1
  · have e1 : decide ((s.size : Int) < 1) = true := decide_eq_true (by omega)
    clear h h1
    go_enter Tryd.func12, Tryd.ntmps12
    go_wp2
    go_ret
    exact ⟨rfl, Below.refl _ _⟩
  · have e1 : decide ((s.size : Int) < 1) = false := decide_eq_false (by omega)
    by_cases h2 : 40 < s.size
    · have e2 : decide ((40 : Int) < (s.size : Int)) = true := decide_eq_true (by omega)
      clear h h1 h2
      go_enter Tryd.func12, Tryd.ntmps12
      go_wp2
      go_ret
      exact ⟨rfl, Below.refl _ _⟩
    · have e2 : decide ((40 : Int) < (s.size : Int)) = false := decide_eq_false (by omega)
      have hz : 0 < s.size := by omega
      have hb := bt_nat s 0 hz
      rw [show ((0 : Nat) : Int) = 0 from rfl] at hb
      by_cases h3 : (s[0].toNat : Int) < 97
      · have e3 : decide ((s[0].toNat : Int) < 97) = true := decide_eq_true h3
        clear h h1 h2 h3 hb
        go_enter Tryd.func12, Tryd.ntmps12
        go_wp2
        go_ret
        exact ⟨rfl, Below.refl _ _⟩
      · have e3 : decide ((s[0].toNat : Int) < 97) = false := decide_eq_false h3
        have e4 : decide ((122 : Int) < (s[0].toNat : Int)) = true := decide_eq_true (by omega)
        clear h h1 h2 h3 hb
        go_enter Tryd.func12, Tryd.ntmps12
        go_wp2
        go_ret
        exact ⟨rfl, Below.refl _ _⟩
theorem name_keep (w : World) (s : ByteArray) (pos : Nat) (hp : pos < s.size) (HA : Aside0 (∀ j : Nat, j < pos → okB (bt s j) = true)) (hk : okB (bt s pos) = true) :
    ∃ pos_1, w.iter s (pos + (Utf8.decode s pos).snd) = w.iter s pos_1 ∧ pos_1 ≤ s.size ∧ Aside0 (∀ j : Nat, j < pos_1 → okB (bt s j) = true) := by
  have hb := bt_nat s pos hp
  have hlt : (s[pos]'hp).toNat < 128 := by
    rcases Nat.lt_or_ge (s[pos]'hp).toNat 128 with h | h
    · exact h
    · rw [hb, okB_hi (by omega)] at hk; cases hk
  refine ⟨pos + 1, by rw [decode_ascii s pos hp hlt], by omega, ⟨fun j hj => ?_⟩⟩
  rcases Nat.lt_or_ge j pos with h | h
  · exact HA.out j h
  · obtain rfl : j = pos := by omega
    exact hk
set_option maxHeartbeats 4000000 in
set_option maxRecDepth 1000000 in
theorem ref02_Name_in (s : ByteArray) (w : World) (h1 : 1 ≤ s.size) (h2 : s.size ≤ 40) (h3 : 97 ≤ bt s 0) (h4 : bt s 0 ≤ 122) :
    Calls Tryd.prog 12 #[.string s] w fun e w' => e = .returned (.bool (nameB s)) ∧ Below w.heap.size w w' := by
  have hz : 0 < s.size := by omega
  have hb := bt_nat s 0 hz
  rw [show ((0 : Nat) : Int) = 0 from rfl] at hb
  have e1 : decide ((s.size : Int) < 1) = false := decide_eq_false (by omega)
  have e2 : decide ((40 : Int) < (s.size : Int)) = false := decide_eq_false (by omega)
  have e3 : decide ((s[0].toNat : Int) < 97) = false := decide_eq_false (by omega)
  have e4 : decide ((122 : Int) < (s[0].toNat : Int)) = false := decide_eq_false (by omega)
  clear hb
  go_enter Tryd.func12, Tryd.ntmps12
  go_wp2
  go_loopw [3] (fun v3 wr => ∃ pos : Nat, wr = w.iter s pos ∧ pos ≤ s.size ∧ Aside0 (∀ j : Nat, j < pos → okB (bt s j) = true)) (fun _ wr => s.size - wr.iterPos w.heap.size)
  case atStart => exact ⟨0, rfl, by omega, ⟨fun j hj => by omega⟩⟩
  case round =>
    obtain ⟨pos, rfl, hle, HA⟩ := hrel
    by_cases hp : pos < s.size
    · have hnx : ∀ ty, (Instr.next (.pointer (some ⟨w.heap.size, 0, none⟩)) true ty).run Tryd.prog (w.iter s pos) = _ := fun ty => run_next_any w s pos ty hp
      have hwd := width_pos s pos hp
      have hby := bt_nat s pos hp
      clear e1 e2 e3 e4
      have HB := Aside0.mk hby
      clear hby
      go_wp2
      all_goals first
        | (have hk : okB (s[pos].toNat : Int) = true := by
            clear hnx HA HB h1 h2 h3 h4
            (try simp only [Bool.not_eq_true', Bool.not_eq_false', decide_eq_true_eq, decide_eq_false_iff_not, beq_iff_eq, beq_eq_false_iff_ne, ne_eq] at *)
            unfold okB
            simp
            omega
           go_roundw
           case rel => exact name_keep w s pos hp HA (by rw [HB.out]; exact hk)
           case measure => simp; omega)
        | (have hk : okB (s[pos].toNat : Int) = false := by
            clear hnx HA HB h1 h2 h3 h4
            (try simp only [Bool.not_eq_true', Bool.not_eq_false', decide_eq_true_eq, decide_eq_false_iff_not, beq_iff_eq, beq_eq_false_iff_ne, ne_eq] at *)
            unfold okB
            simp
            omega
           go_ret
           refine ⟨?_, below_iter w s _⟩
           rw [nameB_false hp (by rw [HB.out]; exact hk)]
           first | done | rfl)
    · clear e1 e2 e3 e4
      have hnx : ∀ ty, (Instr.next (.pointer (some ⟨w.heap.size, 0, none⟩)) true ty).run Tryd.prog (w.iter s pos) = _ := fun ty => run_next_end w s pos ty hp
      go_wp2
      go_ret
      refine ⟨?_, below_iter w s pos⟩
      have : nameB s = true := by
        unfold nameB
        simp only [Bool.and_eq_true, decide_eq_true_eq]
        exact ⟨⟨h1, h2⟩, ⟨h3, h4⟩, (name_from_all s s.size 0).2 fun j hj => by rw [show (0 : Int) + (j : Int) = (j : Int) by omega]; exact HA.out j (by omega)⟩
      rw [this]
      first | done | rfl
theorem antecedentref02_Name.calls (a0 : ByteArray) (r : Bool) (w : World) (h : antecedentref02_Name.f a0 = some r) :
    Calls Tryd.prog 12 #[.string a0] w fun e w' => e = .returned (.bool r) ∧ Below w.heap.size w w' := by
  obtain rfl := Option.some.inj h
  by_cases hc : 1 ≤ a0.size ∧ a0.size ≤ 40 ∧ 97 ≤ bt a0 0 ∧ bt a0 0 ≤ 122
  · exact ref02_Name_in a0 w hc.1 hc.2.1 hc.2.2.1 hc.2.2.2
  · have : nameB a0 = false := by
      cases hn : nameB a0 with
      | false => rfl
      | true =>
        unfold nameB at hn
        simp only [Bool.and_eq_true, decide_eq_true_eq] at hn
        exact absurd ⟨hn.1.1, hn.1.2, hn.2.1.1, hn.2.1.2⟩ hc
    rw [this]
    exact ref02_Name_out a0 w hc
end Go.Proofs.YtklpbdmmmloejaaDoor.X
