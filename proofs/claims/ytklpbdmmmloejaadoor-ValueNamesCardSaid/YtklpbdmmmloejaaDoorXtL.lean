/-
  WHAT THE TABLES OF Go's LIBRARY HOLD IN THE WORLD IN WHICH A CALL BEGINS (the row's 'laid'), carried over whatever the call lays; and '>' between strings as one Bool.
-/
import Derived.Test.YtklpbdmmmloejaaDoorProg
import Derived.WalkKit
import Derived.Lib.SmallJoins
import Derived.Lib.ItoaMem
import Derived.KernelRfl
namespace Go.Proofs.YtklpbdmmmloejaaDoor.X
open Go Go.RowKit Go.Lib Go.Joins

theorem bytesLess_gtr (a b : List UInt8) : (!(Op.bytesLess a b || a == b)) = Op.bytesLess b a := by
  induction a generalizing b with
  | nil => cases b <;> simp [Op.bytesLess]
  | cons x a ih =>
    cases b with
    | nil => simp [Op.bytesLess]
    | cons y b =>
      have := ih b
      simp only [Op.bytesLess, List.cons_beq_cons]
      by_cases h1 : x < y
      · have h2 : ¬ y < x := by intro h; exact absurd (UInt8.lt_trans h1 h) (UInt8.lt_irrefl _)
        have h3 : (y == x) = false := by rw [beq_eq_false_iff_ne]; rintro rfl; exact absurd h1 (UInt8.lt_irrefl _)
        simp [h1, h2, h3]
      · by_cases h4 : x = y
        · subst h4
          simp [UInt8.lt_irrefl] at this ⊢
          exact this
        · have h5 : y < x := by
            rcases UInt8.lt_or_lt_of_ne h4 with h | h
            · exact absurd h h1
            · exact h
          simp [h1, h4, h5]
@[go_sem] theorem binOp_string_gtr (t : TypeId) (a b : ByteArray) : binOp .gtr t (.string a) (.string b) = pure (.bool (Op.bytesLess b.toList a.toList)) := by
  rw [← bytesLess_gtr]; simp [binOp, Op.stringOp]

theorem gPow : ∃ g, Tryd.prog.globalNamed "internal/strconv.uint64pow10" = some g := ⟨1, by kernel_rfl⟩
theorem gBruijn : Tryd.prog.globalNamed "math/bits.deBruijn64tab" = some 5 := by kernel_rfl
def bruijn64 : List Int := [0, 1, 56, 2, 57, 49, 28, 3, 61, 58, 42, 50, 38, 29, 17, 4, 62, 47, 59, 36, 45, 43, 51, 22, 53, 39, 33, 30, 24, 18, 12, 5, 63, 55, 48, 27, 60, 41, 37, 16, 46, 35, 44, 21, 52, 32, 23, 11, 54, 26, 40, 15, 34, 20, 31, 10, 25, 14, 19, 9, 13, 8, 7, 6]

/-- What the listed tables hold. -/
structure LaidW (w : World) : Prop where
  t10 : TabIs Tryd.prog w "internal/strconv.uint64pow10" .u64 pow10Tab
  t64 : TabIs Tryd.prog w "math/bits.deBruijn64tab" .u8 bruijn64
  eSyn : ∃ tp p, w.var? Tryd.prog "strconv.ErrSyntax" = some #[.iface tp p]
  eRan : ∃ tp p, w.var? Tryd.prog "strconv.ErrRange" = some #[.iface tp p]
theorem gSyn : Tryd.prog.globalNamed "strconv.ErrSyntax" = some 2 := by kernel_rfl
theorem gRan : Tryd.prog.globalNamed "strconv.ErrRange" = some 3 := by kernel_rfl

theorem LaidW.below {w w' : World} (h : LaidW w) (hb : Below w.heap.size w w') : LaidW w' :=
  ⟨by obtain ⟨g, hg⟩ := gPow; exact tab_stays hg h.t10 hb (Nat.le_refl _), tab_stays gBruijn h.t64 hb (Nat.le_refl _),
    by obtain ⟨tp, p, hv⟩ := h.eSyn; exact ⟨tp, p, var_stays gSyn hv hb (Nat.le_refl _)⟩, by obtain ⟨tp, p, hv⟩ := h.eRan; exact ⟨tp, p, var_stays gRan hv hb (Nat.le_refl _)⟩⟩
theorem LaidW.alloc {w : World} (h : LaidW w) (o : Obj) : LaidW (w.alloc o) := h.below ((Below.refl _ _).alloc (Nat.le_refl _) o)
theorem LaidW.drewN {w : World} (h : LaidW w) (n : Nat) : LaidW (w.drewN n) := ⟨h.t10, h.t64, h.eSyn, h.eRan⟩
theorem LaidW.drew {w : World} (h : LaidW w) : LaidW w.drew := ⟨h.t10, h.t64, h.eSyn, h.eRan⟩
end Go.Proofs.YtklpbdmmmloejaaDoor.X
