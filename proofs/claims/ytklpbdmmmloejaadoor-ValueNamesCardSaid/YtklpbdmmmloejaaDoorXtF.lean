/-
  strconv.FormatUint at base 16, for every uint64: the digits of the number, no more: with the tables of math/bits as they are laid.
-/
import Derived.Test.YtklpbdmmmloejaaDoorXx0
import Derived.Test.YtklpbdmmmloejaaDoorXtL
import Derived.Laws.NewBlocks
namespace Go.Proofs.YtklpbdmmmloejaaDoor.X
set_option linter.unusedVariables false
set_option linter.unusedSimpArgs false
open Go.RowKit Go.Proofs.YtklpbdmmmloejaaDoorW.PrintWords Go.Proofs.YtklpbdmmmloejaaDoorW.PrintLast Go.Proofs.YtklpbdmmmloejaaDoorW.PrintMore

/-- a number's digits at base 16. -/
def hexc (d : Nat) : UInt8 := if d < 10 then UInt8.ofNat (48 + d) else UInt8.ofNat (87 + d)
def hexL (u : Nat) : List UInt8 := if h : u < 16 then [hexc u] else hexL (u / 16) ++ [hexc (u % 16)]
termination_by u
decreasing_by omega

set_option maxHeartbeats 400000 in
set_option maxRecDepth 100000 in
theorem tz16 (w : World) (hLW : LaidW w) :
    Calls Tryd.prog 72 #[.int .u64 16] w fun e w' => e = .returned (.int .i64 4) ∧ w' = w := by
  have hc : w.cell? ⟨5, 15, none⟩ = some (.int .u8 4) := Lib.TabIs.cell hLW.t64 gBruijn 15 (by decide)
  have hk : IntKind.u64.wrap (bits BinOp.and IntKind.u64 16 (IntKind.u64.wrap (-16)) * 285870213051353865) / 288230376151711744 = 15 := by decide +kernel
  go_enter Tryd.func72, Tryd.ntmps72
  go_wp2
  go_ret
  exact ⟨rfl, rfl⟩
/-- how far the digits are told: u's digits are v's, and ds behind them. -/
def HexInv (u v d : Nat) (ds : List UInt8) : Prop := v < 16 ^ d ∧ ds.length = 16 - d ∧ hexL u = hexL v ++ ds
/-- the array's cells: each a byte; from place i on they are ds. -/
def HexRow (cs : Array Value) (i : Nat) (ds : List UInt8) : Prop := cs.size = 65 ∧ (∀ j, j < 65 → ∃ x : Int, cs[j]? = some (.int .u8 x)) ∧ ∀ j (h : j < ds.length), cs[i + j]? = some (.int .u8 (ds[j].toNat : Int))
theorem hex_small {u v d : Nat} {ds : List UInt8} (h : HexInv u v d ds) (hd : d ≤ 16) : v < 18446744073709551616 :=
  Nat.lt_of_lt_of_le h.1 (Nat.le_trans (Nat.pow_le_pow_right (by omega) hd) (by decide))
theorem and15 (v : Nat) (h : v < 18446744073709551616) : bits BinOp.and IntKind.u64 (v : Int) 15 = ((v % 16 : Nat) : Int) := by
  have := u64_and_nat v 15 h (by decide)
  rw [show ((15 : Nat) : Int) = 15 from rfl] at this
  rw [this, show v &&& 15 = v % 16 from Nat.and_two_pow_sub_one_eq_mod v 4]
def digits36 : ByteArray := ⟨#[48, 49, 50, 51, 52, 53, 54, 55, 56, 57, 97, 98, 99, 100, 101, 102, 103, 104, 105, 106, 107, 108, 109, 110, 111, 112, 113, 114, 115, 116, 117, 118, 119, 120, 121, 122]⟩
theorem digits36_at : ∀ n : Nat, n < 16 → ∀ h : n < digits36.size, digits36[n]'h = hexc n := by decide
theorem hex_next {u v d : Nat} {ds : List UInt8} (h : HexInv u v (d + 1) ds) (hd : d + 1 ≤ 16) (hv : 16 ≤ v) : 1 ≤ d ∧ HexInv u (v / 16) d (hexc (v % 16) :: ds) := by
  obtain ⟨h1, h2, h3⟩ := h
  have hd1 : 1 ≤ d := by
    rcases Nat.eq_zero_or_pos d with rfl | h
    · simp at h1; omega
    · exact h
  refine ⟨hd1, ?_, by simp [h2]; omega, ?_⟩
  · rw [Nat.pow_succ] at h1; omega
  · rw [h3, hexL, dif_neg (by omega)]
    simp
theorem hex_last {u v d : Nat} {ds : List UInt8} (h : HexInv u v d ds) (hv : ¬ 16 ≤ v) : hexL u = hexc v :: ds := by
  rw [h.2.2, hexL, dif_pos (by omega)]
  rfl
theorem row_next {cs : Array Value} {i : Nat} {ds : List UInt8} (h : HexRow cs (i + 1) ds) (hi : i < 65) (c : UInt8) : HexRow (cs.setIfInBounds i (.int .u8 (c.toNat : Int))) i (c :: ds) := by
  obtain ⟨h1, h2, h3⟩ := h
  refine ⟨by simpa using h1, ?_, ?_⟩
  · intro j hj
    by_cases e : i = j
    · subst e; exact ⟨_, by rw [Array.getElem?_setIfInBounds_self_of_lt (by omega)]⟩
    · rw [Array.getElem?_setIfInBounds_ne e]; exact h2 j hj
  · intro j hj
    cases j with
    | zero => rw [Nat.add_zero, Array.getElem?_setIfInBounds_self_of_lt (by omega)]; rfl
    | succ j =>
      rw [Array.getElem?_setIfInBounds_ne (by omega)]
      have := h3 j (by simpa using hj)
      rw [show i + (j + 1) = i + 1 + j by omega, this]
      rfl
theorem row_zero (cs : Array Value) (h : cs = Array.replicate 65 (.int .u8 0)) : HexRow cs 65 [] := by
  subst h
  refine ⟨by simp, fun j hj => ⟨0, by simp [hj]⟩, fun j hj => by simp at hj⟩
set_option maxHeartbeats 400000 in
set_option maxRecDepth 100000 in
theorem pow2_16 (w : World) :
    Calls Tryd.prog 71 #[.int .i64 16] w fun e w' => e = .returned (.bool true) ∧ w' = w := by
  have hk : bits BinOp.and IntKind.i64 16 15 = 0 := by decide +kernel
  go_enter Tryd.func71, Tryd.ntmps71
  go_wp2
  go_ret
  exact ⟨rfl, rfl⟩
set_option maxHeartbeats 800000 in
set_option maxRecDepth 100000 in
theorem formatBits16 (u : Nat) (hu : u < 18446744073709551616) (w : World) (hLW : LaidW w) :
    Calls Tryd.prog 56 #[.slice none 0 0, .int .u64 u, .int .i64 16, .bool false, .bool false] w fun e w' => e = .returned (.tuple #[.slice none 0 0, .string ⟨(hexL u).toArray⟩]) ∧ Below w.heap.size w w' := by
  have hu16 : u < 16 ^ 16 := hu
  go_enter Tryd.func56, Tryd.ntmps56
  go_wp2_with (first | (go_at_call 71; refine (pow2_16 _).mono ?_; rintro e w' ⟨rfl, rfl⟩) | (go_at_call 72; refine (tz16 _ (by first | exact hLW.alloc _ | exact hLW)).mono ?_; rintro e w' ⟨rfl, rfl⟩))
  go_loopw [1, 13] (fun v1 v13 wr => ∃ (v d : Nat) (ds : List UInt8) (cs : Array Value), v1 = .int .u64 v ∧ v13 = .int .i64 (49 + (d : Int)) ∧ 1 ≤ d ∧ d ≤ 16 ∧ Aside0 (HexInv u v d ds) ∧ Aside0 (wr.heap[w.heap.size]? = some (.cells cs 96 (0, 0))) ∧ Aside0 (HexRow cs (49 + d) ds) ∧ Aside0 (Below w.heap.size w wr)) (fun v1 _ _ => (intOf v1).toNat)
  case atStart => exact ⟨u, 16, [], Tryd.zeroCells96, rfl, rfl, by omega, by omega, ⟨hu16, rfl, by simp⟩, ⟨heap_alloc_new w _⟩, ⟨row_zero _ rfl⟩, ⟨(Below.refl _ _).alloc (Nat.le_refl _) _⟩⟩
  case round =>
    obtain ⟨v, d, ds, cs, rfl, rfl, hd1, hd2, HI, HB, HR, HW⟩ := hrel
    have hv : v < 18446744073709551616 := hex_small HI.out hd2
    obtain ⟨d, rfl⟩ : ∃ d', d = d' + 1 := ⟨d - 1, by omega⟩
    obtain ⟨x0, hx0⟩ := HR.out.2.1 (49 + d) (by omega)
    have hcell : wr.cell? ⟨w.heap.size, 49 + d, none⟩ = some (.int .u8 x0) := (blk_cell HB.out _).trans hx0
    have hfr : wr.frozen? ⟨w.heap.size, 49 + d, none⟩ = false := blk_frozen HB.out _
    clear hx0
    by_cases hge : 16 ≤ v
    · have ht : decide ((16 : Int) ≤ (v : Int)) = true := decide_eq_true (by omega)
      have hbit := and15 v hv
      have hm : v % 16 < 36 := by omega
      go_wp2
      obtain ⟨hd', HI'⟩ := hex_next HI.out hd2 hge
      go_roundw
      case rel =>
        have e1 := digits36_at (v % 16) (by omega) (by show v % 16 < 36; omega)
        refine ⟨v / 16, d, hexc (v % 16) :: ds, cs.setIfInBounds (49 + d) (.int .u8 ((hexc (v % 16)).toNat : Int)), ?_, ?_, hd', by omega, ⟨HI'⟩, ⟨?_⟩, ⟨row_next (i := 49 + d) HR.out (by omega) _⟩, ⟨?_⟩⟩
        · first | rfl | go_num
        · go_num
        · have := blk_set HB.out (49 + d) (.int .u8 ((hexc (v % 16)).toNat : Int))
          rw [← e1] at this ⊢
          exact this
        · exact below_set HW.out (Nat.le_refl _)
      case measure => simp [intOf]; omega
    · have ht : decide ((16 : Int) ≤ (v : Int)) = false := decide_eq_false (by omega)
      have hm : v < 36 := by omega
      have hm2 : v < digits36.size := hm
      have e1 : digits36[v]'hm2 = hexc v := digits36_at v (by omega) hm2
      have hlen : (hexc v :: ds).length = 16 - d := by have := HI.out.2.1; simp [this]; omega
      have hal : Tryd.prog.arrayLen 96 = 65 := by kernel_rfl
      have hal1 : Tryd.prog.arrayLen 96 - (49 + d) = 16 - d := by rw [hal]; omega
      have hsl : ∀ W, (Instr.sliceAt 96 (.pointer (some ⟨w.heap.size, 0, none⟩)) (some (.int .i64 (49 + ((d : Int) + 1) - 1))) none none).run Tryd.prog W = .ok (.slice (some ⟨w.heap.size, 49 + d, none⟩) (16 - d) (16 - d)) W := fun W => by
        rw [run_sliceAt_array_l W 96 ⟨w.heap.size, 0, none⟩ (by simp [Program.arrayLen, Program.elem, Tryd.underlying96]) .i64 (49 + ((d : Int) + 1) - 1) (by omega) (by rw [hal]; omega)]
        rw [hal]
        go_simp
        have e2 : (49 + ((d : Int) + 1)).toNat - 1 = 49 + d := by omega
        rw [e2, if_neg (by omega)]
        exact ⟨rfl, by omega⟩
      have hrow := row_next (i := 49 + d) HR.out (by omega) (hexc v)
      have hblk := blk_set HB.out (49 + d) (.int .u8 ((hexc v).toNat : Int))
      have hcv : (convert 38 9 (.slice (some ⟨w.heap.size, 49 + d, none⟩) (16 - d) (16 - d))).run Tryd.prog (wr.setCell ⟨w.heap.size, 49 + d, none⟩ (.int .u8 (((⟨#[48, 49, 50, 51, 52, 53, 54, 55, 56, 57, 97, 98, 99, 100, 101, 102, 103, 104, 105, 106, 107, 108, 109, 110, 111, 112, 113, 114, 115, 116, 117, 118, 119, 120, 121, 122]⟩ : ByteArray)[v]'hm2).toNat : Int))) = .ok (.string ⟨(hexL u).toArray⟩) (wr.setCell ⟨w.heap.size, 49 + d, none⟩ (.int .u8 (((⟨#[48, 49, 50, 51, 52, 53, 54, 55, 56, 57, 97, 98, 99, 100, 101, 102, 103, 104, 105, 106, 107, 108, 109, 110, 111, 112, 113, 114, 115, 116, 117, 118, 119, 120, 121, 122]⟩ : ByteArray)[v]'hm2).toNat : Int))) := by
        show (convert 38 9 (.slice (some ⟨w.heap.size, 49 + d, none⟩) (16 - d) (16 - d))).run Tryd.prog (wr.setCell ⟨w.heap.size, 49 + d, none⟩ (.int .u8 ((digits36[v]'hm2).toNat : Int))) = .ok (.string ⟨(hexL u).toArray⟩) (wr.setCell ⟨w.heap.size, 49 + d, none⟩ (.int .u8 ((digits36[v]'hm2).toNat : Int)))
        rw [e1]
        have h := run_convert_bytes_back (P := Tryd.prog) (wr.setCell ⟨w.heap.size, 49 + d, none⟩ (.int .u8 ((hexc v).toNat : Int))) 38 9 5 ⟨w.heap.size, 49 + d, none⟩ (16 - d) (hexc v :: ds) Tryd.underlying38 Tryd.underlying5 Tryd.underlying9 (fun j hj => by
          rw [Lib.add_plain]
          exact (blk_cell hblk _).trans (hrow.2.2 j hj))
        rw [hlen] at h
        rw [hex_last HI.out hge]
        exact h
      have HC := Aside0.mk hcv
      have HROW := Aside0.mk hrow
      clear hrow hblk hlen hal hal1 e1 hcv
      go_wp2
      first | rw [HC.out] | erw [HC.out]
      go_wp2
      go_ret2
      exact ⟨rfl, below_set HW.out (Nat.le_refl _)⟩
set_option maxHeartbeats 400000 in
set_option maxRecDepth 100000 in
theorem int_FormatUint16 (u : Nat) (hu : u < 18446744073709551616) (w : World) (hLW : LaidW w) :
    Calls Tryd.prog 41 #[.int .u64 u, .int .i64 16] w fun e w' => e = .returned (.string ⟨(hexL u).toArray⟩) ∧ Below w.heap.size w w' := by
  go_enter Tryd.func41, Tryd.ntmps41
  go_wp2_with (go_at_call 56; refine (formatBits16 u hu _ hLW).mono ?_; rintro e w' ⟨rfl, hb⟩)
  go_ret
  exact ⟨rfl, hb⟩
def strconv_FormatUint.f (a0 : Int) (a1 : Int) : Option ByteArray := if a1 = 16 ∧ 0 ≤ a0 ∧ a0 < 18446744073709551616 then some ⟨(hexL a0.toNat).toArray⟩ else none
set_option maxHeartbeats 400000 in
set_option maxRecDepth 100000 in
theorem strconv_FormatUint.calls (a0 a1 : Int) (r : ByteArray) (w : World) (hLW : LaidW w) (h : strconv_FormatUint.f a0 a1 = some r) :
    Calls Tryd.prog 30 #[.int .u64 a0, .int .i64 a1] w fun e w' => e = .returned (.string r) ∧ Below w.heap.size w w' := by
  unfold strconv_FormatUint.f at h
  split at h
  · rename_i hc
    obtain ⟨rfl, h0, h1⟩ := hc
    obtain rfl := Option.some.inj h
    obtain ⟨u, rfl⟩ := Int.eq_ofNat_of_zero_le h0
    have hu : u < 18446744073709551616 := by omega
    rw [Int.toNat_natCast]
    clear h h0 h1
    go_enter Tryd.func30, Tryd.ntmps30
    go_wp2_with (go_at_call 41; refine (int_FormatUint16 u hu _ hLW).mono ?_; rintro e w' ⟨rfl, hb⟩)
    go_ret
    exact ⟨rfl, hb⟩
  · cases h
end Go.Proofs.YtklpbdmmmloejaaDoor.X
