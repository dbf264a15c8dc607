/-
  WHAT THE ROWS' LIST GIVES: the tables; a world for the witness: the one that the variables' own initialisers leave.
-/
import Derived.Test.YtepgdjbjcnolnaaDoorXtR
import Derived.LaidMore
import Derived.Stop.LaidErr
import Derived.MakeChecks
namespace Go.Proofs.YtepgdjbjcnolnaaDoor.X
set_option linter.unusedVariables false
set_option linter.unusedSimpArgs false
open Go.ChangeShapes Go.WideShapes Go.ChangeAt Go.RowKit

theorem own : ownKnob Tryd.prog.godebug = none := by kernel_rfl
theorem laidOut : laidOutB Tryd.prog = true := by kernel_rfl
def laidAll : List (String × DataW Unit) := [("math/bits.deBruijn32tab", Rows.laid_math_bits_deBruijn32tab), ("math/bits.deBruijn64tab", Rows.laid_math_bits_deBruijn64tab), ("internal/strconv.uint64pow10", Rows.laid_internal_strconv_uint64pow10)]
theorem gPow1 : Tryd.prog.globalNamed "internal/strconv.uint64pow10" = some 1 := by kernel_rfl
theorem tPow1 : (Tryd.prog.globals[1]?).map (·.type) = some 100 := by kernel_rfl
theorem tBru1 : (Tryd.prog.globals[3]?).map (·.type) = some 105 := by kernel_rfl
theorem laidW_of {W : World} (h0 : laidMetH Tryd.prog laidAll W) : LaidW W := by
  rw [MakeChecks.laidMetH_plain _ _ _ (by kernel_rfl)] at h0
  have h1 := laidMet.tail h0
  have h2 := laidMet.tail h1
  exact ⟨Lib.tabIs_of_head (rest := []) gPow1 tPow1 Tryd.underlying100 Tryd.underlying68 (by kernel_rfl) (by kernel_rfl) h2,
    Lib.tabIs_of_head (zs := bruijn64) gBruijn tBru1 Tryd.underlying105 Tryd.underlying5 (by kernel_rfl) (by kernel_rfl) h1⟩
noncomputable def laidWorld (os : Os) : World := World.doorLaid Tryd.prog 600 os
theorem laid_met (os : Os) (args : Array Value) : laidMetH Tryd.prog laidAll ((laidWorld os).forCall (fun _ _ => 0) ⟨#[], args, []⟩).memory := by
  rw [MakeChecks.laidMetH_plain _ _ _ (by kernel_rfl)]
  exact laidMet_of_run' 8 (by kernel_rfl) (by kernel_rfl)
end Go.Proofs.YtepgdjbjcnolnaaDoor.X
