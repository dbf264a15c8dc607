/-
  WHAT THE ROWS' LIST GIVES: the tables; a world for the witness: the one that the variables' own initialisers leave.
-/
import Derived.Test.YtklpbdmmmloejaaDoorXtR
import Derived.LaidMore
import Derived.Stop.LaidErr
import Derived.MakeChecks
namespace Go.Proofs.YtklpbdmmmloejaaDoor.X
set_option linter.unusedVariables false
set_option linter.unusedSimpArgs false
open Go.ChangeShapes Go.WideShapes Go.ChangeAt Go.RowKit

theorem own : ownKnob Tryd.prog.godebug = none := by kernel_rfl
theorem laidOut : laidOutB Tryd.prog = true := by kernel_rfl
def laidAll : List (String × DataW Unit) := [("math/bits.deBruijn32tab", Rows.laid_math_bits_deBruijn32tab), ("math/bits.deBruijn64tab", Rows.laid_math_bits_deBruijn64tab), ("internal/strconv.uint64pow10", Rows.laid_internal_strconv_uint64pow10), ("strconv.ErrRange", Rows.laid_strconv_ErrRange), ("strconv.ErrSyntax", Rows.laid_strconv_ErrSyntax)]
theorem gPow1 : Tryd.prog.globalNamed "internal/strconv.uint64pow10" = some 1 := by kernel_rfl
theorem tPow1 : (Tryd.prog.globals[1]?).map (·.type) = some 95 := by kernel_rfl
theorem tBru1 : (Tryd.prog.globals[5]?).map (·.type) = some 110 := by kernel_rfl
theorem tSyn1 : (Tryd.prog.globals[2]?).map (·.type) = some 55 := by kernel_rfl
theorem tRan1 : (Tryd.prog.globals[3]?).map (·.type) = some 55 := by kernel_rfl
theorem star1 : "*" ++ "errors.errorString" = "*errors.errorString" := by decide
theorem rowErr (u : TypeId) (h : Tryd.prog.typeName? 3 u = some "*errors.errorString") : u = 106 :=
  typeName_ptr_named (nm := "errors.errorString") (by rw [star1]; kernel_rfl) (by kernel_rfl) (by decide) u (by rw [star1]; exact h)
theorem cellsErr : Tryd.prog.cellsOf 108 = 1 := by kernel_rfl
theorem cellsStr : Tryd.prog.cellsOf 9 = 1 := by kernel_rfl
theorem laidW_of {W : World} (h0 : laidMetH Tryd.prog laidAll W) : LaidW W := by
  rw [MakeChecks.laidMetH_plain _ _ _ (by kernel_rfl)] at h0
  have h1 := laidMet.tail h0
  have h2 := laidMet.tail h1
  have h3 := laidMet.tail h2
  have h4 := laidMet.tail h3
  obtain ⟨a0, s0, hv0, _⟩ := laid_sentinel h3 gRan tRan1 Tryd.underlying55 rowErr Tryd.underlying106 Tryd.underlying108 rfl rfl Tryd.underlying9 cellsErr cellsStr
  obtain ⟨a1, s1, hv1, _⟩ := laid_sentinel h4 gSyn tSyn1 Tryd.underlying55 rowErr Tryd.underlying106 Tryd.underlying108 rfl rfl Tryd.underlying9 cellsErr cellsStr
  exact ⟨Lib.tabIs_of_head (rest := _) gPow1 tPow1 Tryd.underlying95 Tryd.underlying49 (by kernel_rfl) (by kernel_rfl) h2,
    Lib.tabIs_of_head (zs := bruijn64) gBruijn tBru1 Tryd.underlying110 Tryd.underlying5 (by kernel_rfl) (by kernel_rfl) h1, ⟨_, _, hv1⟩, ⟨_, _, hv0⟩⟩
noncomputable def laidWorld (os : Os) : World := World.doorLaid Tryd.prog 600 os
theorem laid_met (os : Os) (args : Array Value) : laidMetH Tryd.prog laidAll ((laidWorld os).forCall (fun _ _ => 0) ⟨#[], args, []⟩).memory := by
  rw [MakeChecks.laidMetH_plain _ _ _ (by kernel_rfl)]
  exact laidMet_of_run' 8 (by kernel_rfl) (by kernel_rfl)
end Go.Proofs.YtklpbdmmmloejaaDoor.X
