/-
  WHAT COMES IN: a value: opened to what the walks' contracts ask; the listed tables; a world for the witness.
-/
import Derived.Test.YtklpbdmmmloejaaDoorXx0
import Derived.Test.YtklpbdmmmloejaaDoorXtL
import Derived.Test.YtklpbdmmmloejaaDoorRows
import Derived.Deep.Slices
import Derived.Deep.Fields
import Derived.ChangeSame
import Derived.ProofKit
import Derived.OpenShut
import Derived.Deep.DeepHandedRow
import Derived.Lib.LaidTab
import Derived.Lib.SmallJoins
namespace Go.Proofs.YtklpbdmmmloejaaDoor.X
set_option linter.unusedVariables false
set_option linter.unusedSimpArgs false
open Go.ChangeShapes Go.WideShapes Go.ChangeAt Go.RowKit Go.Deep Go.Joins Go.Proofs.YtklpbdmmmloejaaDoorW.PrintWords Go.Proofs.YtklpbdmmmloejaaDoorW.PrintLast Go.Proofs.YtklpbdmmmloejaaDoorW.PrintMore

set_option maxRecDepth 100000
theorem wf_i64 {n : Int} (h : (Lit.int .i64 n).wf = true) : -9223372036854775808 ≤ n ∧ n ≤ 9223372036854775807 := by
  simp [Lit.wf] at h
  exact h
/-- a value whose numbers are an int and an int64. -/
def okS (x : S23) : Bool := decide (-9223372036854775808 ≤ x.f0 ∧ x.f0 ≤ 9223372036854775807) && decide (-9223372036854775808 ≤ x.f1 ∧ x.f1 ≤ 9223372036854775807)
theorem cellsV : Tryd.prog.cellsOf 23 = 3 := by kernel_rfl
/-- a value that came in. -/
theorem open_value {H : Type} {enc : TypeId × Value → H} {W : World} {b0 base : Nat} {r : Reach} {spare : Nat → Bool} {held : Bool} {v : Value} {d : DataW H} {p : List MemPlace}
    (hv : Value.okWide Tryd.prog W r b0 23 v) (h : DataW.Trod enc Tryd.prog W base spare held 23 v d p) :
    ∃ x : S23, v = .agg #[.int .i64 x.f0, .int .i64 x.f1, .string x.f2] ∧ okS x = true ∧ x.f2.size ≤ maxLen := by
  obtain ⟨v0, v1, v2, y0, y1, y2, n, rfl, _, _, t0, t1, t2⟩ := open_agg3 Tryd.underlying23 (by kernel_rfl) cellsV hv h
  obtain ⟨z0, e0, _, w0⟩ := DataW.trod_int Tryd.underlying3 t0
  obtain ⟨z1, e1, _, w1⟩ := DataW.trod_int Tryd.underlying2 t1
  obtain ⟨z2, e2, _, h2⟩ := DataW.trod_string Tryd.underlying9 t2
  injection e0 with e0; injection e1 with e1; injection e2 with e2
  subst e0; subst e1; subst e2
  exact ⟨⟨z0, z1, z2⟩, rfl, by unfold okS; simp [wf_i64 w0, wf_i64 w1], h2⟩
end Go.Proofs.YtklpbdmmmloejaaDoor.X
