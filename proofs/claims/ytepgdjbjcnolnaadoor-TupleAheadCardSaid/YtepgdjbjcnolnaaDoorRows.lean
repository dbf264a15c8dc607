/-
  NARROWER THAN 'FOR EVERY INPUT', by the rows' own cells (each row's printed sentence says how): TupleTells: laid · TupleCompares: laid · TupleOrder: laid · TupleBack: laid · TupleHead: laid · TupleOwn: laid · TupleAhead: laid.
  DERIVED. THE GIVEN ROWS OF THIS SEAT. 7 by the template 'for every input the law returns true; each argument reads behind the call as it read before'; 0 by the template 'total and deterministic' (their statements: YtepgdjbjcnolnaaDoorTotals.lean).
  GIVEN WITH THE SEED: the statements are not yours to turn. If you find one false, say at which input.
  Laid BY PROGRAM, IN A SANDBOX (cutbox-rows.mjs): the forced cells as the released guide's own fill.sh prints them over the translation bff6f815a2c13425… (all of the seat's roots in one cut). By AI agents, Wed Nov 11 2026. No macro, syntax, notation, axiom, sorry.
-/
import Derived.Test.YtepgdjbjcnolnaaDoorChecked
import GoSem.Claim
import GoSem.ClaimJoined
import GoSem.ClaimMapViews
import Derived.JoinedTies
import Derived.KernelRfl
namespace Go.Proofs.YtepgdjbjcnolnaaDoor
/- THE CELL 'sum', in the pinned program and in every row, IS THE sha256 OF THE DUMP (.gsa) THAT YtepgdjbjcnolnaaDoorProg.lean LOADS. Nothing in Lean hashes anything: it is a label: what it is worth is what the hold of that sum in a sandbox is worth. -/
noncomputable def Tryd.pinned : Pinned := { name := "ytepgdjbjcnolnaadoor", sum := "bff6f815a2c13425fd60955e716e48fcfdf8284636e67a4a38bec53fb9f37807", checked := Tryd.checked }
namespace Rows
def none {H : Type} : Left H := { results := [], args := [] }

/- WHAT THE LISTED PACKAGE-LEVEL VARIABLES READ AS WHEN THE CALL BEGINS. Each datum BY PROGRAM (the guide's laid-datum.mjs) off the statement by which the dump's own 'gosem.cut.vars' lays the variable. In a bare row this is a premise. The card (YtepgdjbjcnolnaaDoorCards.lean) ties it to the program's text. -/
def laid_math_bits_deBruijn32tab {H : Type} : DataW H := .agg [.lit (.int .u8 0), .lit (.int .u8 1), .lit (.int .u8 28), .lit (.int .u8 2), .lit (.int .u8 29), .lit (.int .u8 14), .lit (.int .u8 24), .lit (.int .u8 3), .lit (.int .u8 30), .lit (.int .u8 22), .lit (.int .u8 20), .lit (.int .u8 15), .lit (.int .u8 25), .lit (.int .u8 17), .lit (.int .u8 4), .lit (.int .u8 8), .lit (.int .u8 31), .lit (.int .u8 27), .lit (.int .u8 13), .lit (.int .u8 23), .lit (.int .u8 21), .lit (.int .u8 19), .lit (.int .u8 16), .lit (.int .u8 7), .lit (.int .u8 26), .lit (.int .u8 12), .lit (.int .u8 18), .lit (.int .u8 6), .lit (.int .u8 11), .lit (.int .u8 5), .lit (.int .u8 10), .lit (.int .u8 9)]
def laid_math_bits_deBruijn64tab {H : Type} : DataW H := .agg [.lit (.int .u8 0), .lit (.int .u8 1), .lit (.int .u8 56), .lit (.int .u8 2), .lit (.int .u8 57), .lit (.int .u8 49), .lit (.int .u8 28), .lit (.int .u8 3), .lit (.int .u8 61), .lit (.int .u8 58), .lit (.int .u8 42), .lit (.int .u8 50), .lit (.int .u8 38), .lit (.int .u8 29), .lit (.int .u8 17), .lit (.int .u8 4), .lit (.int .u8 62), .lit (.int .u8 47), .lit (.int .u8 59), .lit (.int .u8 36), .lit (.int .u8 45), .lit (.int .u8 43), .lit (.int .u8 51), .lit (.int .u8 22), .lit (.int .u8 53), .lit (.int .u8 39), .lit (.int .u8 33), .lit (.int .u8 30), .lit (.int .u8 24), .lit (.int .u8 18), .lit (.int .u8 12), .lit (.int .u8 5), .lit (.int .u8 63), .lit (.int .u8 55), .lit (.int .u8 48), .lit (.int .u8 27), .lit (.int .u8 60), .lit (.int .u8 41), .lit (.int .u8 37), .lit (.int .u8 16), .lit (.int .u8 46), .lit (.int .u8 35), .lit (.int .u8 44), .lit (.int .u8 21), .lit (.int .u8 52), .lit (.int .u8 32), .lit (.int .u8 23), .lit (.int .u8 11), .lit (.int .u8 54), .lit (.int .u8 26), .lit (.int .u8 40), .lit (.int .u8 15), .lit (.int .u8 34), .lit (.int .u8 20), .lit (.int .u8 31), .lit (.int .u8 10), .lit (.int .u8 25), .lit (.int .u8 14), .lit (.int .u8 19), .lit (.int .u8 9), .lit (.int .u8 13), .lit (.int .u8 8), .lit (.int .u8 7), .lit (.int .u8 6)]
def laid_internal_strconv_uint64pow10 {H : Type} : DataW H := .agg [.lit (.int .u64 1), .lit (.int .u64 10), .lit (.int .u64 100), .lit (.int .u64 1000), .lit (.int .u64 10000), .lit (.int .u64 100000), .lit (.int .u64 1000000), .lit (.int .u64 10000000), .lit (.int .u64 100000000), .lit (.int .u64 1000000000), .lit (.int .u64 10000000000), .lit (.int .u64 100000000000), .lit (.int .u64 1000000000000), .lit (.int .u64 10000000000000), .lit (.int .u64 100000000000000), .lit (.int .u64 1000000000000000), .lit (.int .u64 10000000000000000), .lit (.int .u64 100000000000000000), .lit (.int .u64 1000000000000000000), .lit (.int .u64 10000000000000000000)]

/-- 'antecedentlaw03.TupleTells': WHATEVER THE INPUT: true; the input reads as it did. -/
def tupleTellsSpec : ChangeSpec := { name := "tupleTells", fn := fun _ => fun
  | [d1, d2, d3] => { results := [.lit (.bool true)], args := [d1, d2, d3] }
  | _ => none }
def tupleTellsRow : OpenClaim := { program := "ytepgdjbjcnolnaadoor", sum := "bff6f815a2c13425fd60955e716e48fcfdf8284636e67a4a38bec53fb9f37807", func := "antecedent/antecedentlaw03.TupleTells", spec := "tupleTells", inPlace := ["internal/bytealg.abigen_runtime_cmpstring", "internal/abi.NoEscape", "internal/bytealg.MakeNoZero"], unfollowed := true, recurses := true, named := ["internal/strconv.uint64pow10", "math/bits.deBruijn32tab", "math/bits.deBruijn64tab"], apart := false, laid := [("math/bits.deBruijn32tab", laid_math_bits_deBruijn32tab), ("math/bits.deBruijn64tab", laid_math_bits_deBruijn64tab), ("internal/strconv.uint64pow10", laid_internal_strconv_uint64pow10)] }
def TupleTellsSaid : Prop := tupleTellsRow.holds Tryd.pinned (OpenSpec.ofChange tupleTellsSpec)

/-- ITS FALSE NEIGHBOUR: 'it returns false'. Refute it at one input. -/
def tupleTellsWrong : ChangeSpec := { name := "tupleTells", fn := fun _ => fun
  | [d1, d2, d3] => { results := [.lit (.bool false)], args := [d1, d2, d3] }
  | _ => none }
def TupleTellsWrongFalsely : Prop := tupleTellsRow.holds Tryd.pinned (OpenSpec.ofChange tupleTellsWrong)

/-- 'antecedentlaw03.TupleCompares': WHATEVER THE INPUT: true; the input reads as it did. -/
def tupleComparesSpec : ChangeSpec := { name := "tupleCompares", fn := fun _ => fun
  | [d1, d2, d3] => { results := [.lit (.bool true)], args := [d1, d2, d3] }
  | _ => none }
def tupleComparesRow : OpenClaim := { program := "ytepgdjbjcnolnaadoor", sum := "bff6f815a2c13425fd60955e716e48fcfdf8284636e67a4a38bec53fb9f37807", func := "antecedent/antecedentlaw03.TupleCompares", spec := "tupleCompares", inPlace := ["internal/bytealg.abigen_runtime_cmpstring", "internal/abi.NoEscape", "internal/bytealg.MakeNoZero"], unfollowed := true, recurses := true, named := ["internal/strconv.uint64pow10", "math/bits.deBruijn32tab", "math/bits.deBruijn64tab"], apart := false, laid := [("math/bits.deBruijn32tab", laid_math_bits_deBruijn32tab), ("math/bits.deBruijn64tab", laid_math_bits_deBruijn64tab), ("internal/strconv.uint64pow10", laid_internal_strconv_uint64pow10)] }
def TupleComparesSaid : Prop := tupleComparesRow.holds Tryd.pinned (OpenSpec.ofChange tupleComparesSpec)

/-- ITS FALSE NEIGHBOUR: 'it returns false'. Refute it at one input. -/
def tupleComparesWrong : ChangeSpec := { name := "tupleCompares", fn := fun _ => fun
  | [d1, d2, d3] => { results := [.lit (.bool false)], args := [d1, d2, d3] }
  | _ => none }
def TupleComparesWrongFalsely : Prop := tupleComparesRow.holds Tryd.pinned (OpenSpec.ofChange tupleComparesWrong)

/-- 'antecedentlaw03.TupleOrder': WHATEVER THE INPUT: true; the input reads as it did. -/
def tupleOrderSpec : ChangeSpec := { name := "tupleOrder", fn := fun _ => fun
  | [d1, d2, d3, d4] => { results := [.lit (.bool true)], args := [d1, d2, d3, d4] }
  | _ => none }
def tupleOrderRow : OpenClaim := { program := "ytepgdjbjcnolnaadoor", sum := "bff6f815a2c13425fd60955e716e48fcfdf8284636e67a4a38bec53fb9f37807", func := "antecedent/antecedentlaw03.TupleOrder", spec := "tupleOrder", inPlace := ["internal/bytealg.abigen_runtime_cmpstring", "internal/abi.NoEscape", "internal/bytealg.MakeNoZero"], unfollowed := true, recurses := true, named := ["internal/strconv.uint64pow10", "math/bits.deBruijn32tab", "math/bits.deBruijn64tab"], apart := false, laid := [("math/bits.deBruijn32tab", laid_math_bits_deBruijn32tab), ("math/bits.deBruijn64tab", laid_math_bits_deBruijn64tab), ("internal/strconv.uint64pow10", laid_internal_strconv_uint64pow10)] }
def TupleOrderSaid : Prop := tupleOrderRow.holds Tryd.pinned (OpenSpec.ofChange tupleOrderSpec)

/-- ITS FALSE NEIGHBOUR: 'it returns false'. Refute it at one input. -/
def tupleOrderWrong : ChangeSpec := { name := "tupleOrder", fn := fun _ => fun
  | [d1, d2, d3, d4] => { results := [.lit (.bool false)], args := [d1, d2, d3, d4] }
  | _ => none }
def TupleOrderWrongFalsely : Prop := tupleOrderRow.holds Tryd.pinned (OpenSpec.ofChange tupleOrderWrong)

/-- 'antecedentlaw03.TupleBack': WHATEVER THE INPUT: true; the input reads as it did. -/
def tupleBackSpec : ChangeSpec := { name := "tupleBack", fn := fun _ => fun
  | [d1, d2] => { results := [.lit (.bool true)], args := [d1, d2] }
  | _ => none }
def tupleBackRow : OpenClaim := { program := "ytepgdjbjcnolnaadoor", sum := "bff6f815a2c13425fd60955e716e48fcfdf8284636e67a4a38bec53fb9f37807", func := "antecedent/antecedentlaw03.TupleBack", spec := "tupleBack", inPlace := ["internal/bytealg.abigen_runtime_cmpstring", "internal/abi.NoEscape", "internal/bytealg.MakeNoZero"], unfollowed := true, recurses := true, named := ["internal/strconv.uint64pow10", "math/bits.deBruijn32tab", "math/bits.deBruijn64tab"], apart := false, laid := [("math/bits.deBruijn32tab", laid_math_bits_deBruijn32tab), ("math/bits.deBruijn64tab", laid_math_bits_deBruijn64tab), ("internal/strconv.uint64pow10", laid_internal_strconv_uint64pow10)] }
def TupleBackSaid : Prop := tupleBackRow.holds Tryd.pinned (OpenSpec.ofChange tupleBackSpec)

/-- ITS FALSE NEIGHBOUR: 'it returns false'. Refute it at one input. -/
def tupleBackWrong : ChangeSpec := { name := "tupleBack", fn := fun _ => fun
  | [d1, d2] => { results := [.lit (.bool false)], args := [d1, d2] }
  | _ => none }
def TupleBackWrongFalsely : Prop := tupleBackRow.holds Tryd.pinned (OpenSpec.ofChange tupleBackWrong)

/-- 'antecedentlaw03.TupleHead': WHATEVER THE INPUT: true; the input reads as it did. -/
def tupleHeadSpec : ChangeSpec := { name := "tupleHead", fn := fun _ => fun
  | [d1, d2, d3, d4] => { results := [.lit (.bool true)], args := [d1, d2, d3, d4] }
  | _ => none }
def tupleHeadRow : OpenClaim := { program := "ytepgdjbjcnolnaadoor", sum := "bff6f815a2c13425fd60955e716e48fcfdf8284636e67a4a38bec53fb9f37807", func := "antecedent/antecedentlaw03.TupleHead", spec := "tupleHead", inPlace := ["internal/bytealg.abigen_runtime_cmpstring", "internal/abi.NoEscape", "internal/bytealg.MakeNoZero"], unfollowed := true, recurses := true, named := ["internal/strconv.uint64pow10", "math/bits.deBruijn32tab", "math/bits.deBruijn64tab"], apart := false, laid := [("math/bits.deBruijn32tab", laid_math_bits_deBruijn32tab), ("math/bits.deBruijn64tab", laid_math_bits_deBruijn64tab), ("internal/strconv.uint64pow10", laid_internal_strconv_uint64pow10)] }
def TupleHeadSaid : Prop := tupleHeadRow.holds Tryd.pinned (OpenSpec.ofChange tupleHeadSpec)

/-- ITS FALSE NEIGHBOUR: 'it returns false'. Refute it at one input. -/
def tupleHeadWrong : ChangeSpec := { name := "tupleHead", fn := fun _ => fun
  | [d1, d2, d3, d4] => { results := [.lit (.bool false)], args := [d1, d2, d3, d4] }
  | _ => none }
def TupleHeadWrongFalsely : Prop := tupleHeadRow.holds Tryd.pinned (OpenSpec.ofChange tupleHeadWrong)

/-- 'antecedentlaw03.TupleOwn': WHATEVER THE INPUT: true; the input reads as it did. -/
def tupleOwnSpec : ChangeSpec := { name := "tupleOwn", fn := fun _ => fun
  | [d1, d2, d3] => { results := [.lit (.bool true)], args := [d1, d2, d3] }
  | _ => none }
def tupleOwnRow : OpenClaim := { program := "ytepgdjbjcnolnaadoor", sum := "bff6f815a2c13425fd60955e716e48fcfdf8284636e67a4a38bec53fb9f37807", func := "antecedent/antecedentlaw03.TupleOwn", spec := "tupleOwn", inPlace := ["internal/bytealg.abigen_runtime_cmpstring", "internal/abi.NoEscape", "internal/bytealg.MakeNoZero"], unfollowed := true, recurses := true, named := ["internal/strconv.uint64pow10", "math/bits.deBruijn32tab", "math/bits.deBruijn64tab"], apart := false, laid := [("math/bits.deBruijn32tab", laid_math_bits_deBruijn32tab), ("math/bits.deBruijn64tab", laid_math_bits_deBruijn64tab), ("internal/strconv.uint64pow10", laid_internal_strconv_uint64pow10)] }
def TupleOwnSaid : Prop := tupleOwnRow.holds Tryd.pinned (OpenSpec.ofChange tupleOwnSpec)

/-- ITS FALSE NEIGHBOUR: 'it returns false'. Refute it at one input. -/
def tupleOwnWrong : ChangeSpec := { name := "tupleOwn", fn := fun _ => fun
  | [d1, d2, d3] => { results := [.lit (.bool false)], args := [d1, d2, d3] }
  | _ => none }
def TupleOwnWrongFalsely : Prop := tupleOwnRow.holds Tryd.pinned (OpenSpec.ofChange tupleOwnWrong)

/-- 'antecedentlaw03.TupleAhead': WHATEVER THE INPUT: true; the input reads as it did. -/
def tupleAheadSpec : ChangeSpec := { name := "tupleAhead", fn := fun _ => fun
  | [d1, d2, d3] => { results := [.lit (.bool true)], args := [d1, d2, d3] }
  | _ => none }
def tupleAheadRow : OpenClaim := { program := "ytepgdjbjcnolnaadoor", sum := "bff6f815a2c13425fd60955e716e48fcfdf8284636e67a4a38bec53fb9f37807", func := "antecedent/antecedentlaw03.TupleAhead", spec := "tupleAhead", inPlace := ["internal/bytealg.abigen_runtime_cmpstring", "internal/abi.NoEscape", "internal/bytealg.MakeNoZero"], unfollowed := true, recurses := true, named := ["internal/strconv.uint64pow10", "math/bits.deBruijn32tab", "math/bits.deBruijn64tab"], apart := false, laid := [("math/bits.deBruijn32tab", laid_math_bits_deBruijn32tab), ("math/bits.deBruijn64tab", laid_math_bits_deBruijn64tab), ("internal/strconv.uint64pow10", laid_internal_strconv_uint64pow10)] }
def TupleAheadSaid : Prop := tupleAheadRow.holds Tryd.pinned (OpenSpec.ofChange tupleAheadSpec)

/-- ITS FALSE NEIGHBOUR: 'it returns false'. Refute it at one input. -/
def tupleAheadWrong : ChangeSpec := { name := "tupleAhead", fn := fun _ => fun
  | [d1, d2, d3] => { results := [.lit (.bool false)], args := [d1, d2, d3] }
  | _ => none }
def TupleAheadWrongFalsely : Prop := tupleAheadRow.holds Tryd.pinned (OpenSpec.ofChange tupleAheadWrong)

/- THE SECOND FORM. 'bulk': how many values and letters a reading holds, each counted each time it is reached (what is shared counts as often as it is met; a slice's spare places count too). A statement '..UptoSaid' is the law's where the arguments, and the package variables that the reading takes, are together of bulk at most 1048576: NARROWER than '..Said'. Prove '..Said' where nothing that the law and all that it calls make is longer than what came in: it says more and counts as full. Else prove '..UptoSaid'. A law counts once. -/
mutual
def uptoBulk {H : Type} : DataW H → Nat
  | .lit (.string bytes) => bytes.length + 1
  | .lit _ => 1
  | .nil => 1
  | .ptr d => uptoBulk d + 1
  | .slice elems spare => uptoBulkAll elems + uptoBulkAll spare + 1
  | .agg parts => uptoBulkAll parts + 1
  | .iface _ d => uptoBulk d + 1
  | .map entries => uptoBulkEntries entries + 1
  | .held _ => 1
def uptoBulkAll {H : Type} : List (DataW H) → Nat
  | [] => 0
  | d :: r => uptoBulk d + uptoBulkAll r
def uptoBulkEntries {H : Type} : List (Lit × DataW H) → Nat
  | [] => 0
  | x :: r => uptoBulkEntry x + uptoBulkEntries r
def uptoBulkEntry {H : Type} : Lit × DataW H → Nat
  | (.string bytes, d) => bytes.length + uptoBulk d + 1
  | (_, d) => uptoBulk d + 1
 end
def uptoSmall : (H : Type) → List (DataW H) → Bool := fun _ ds => decide (uptoBulkAll ds ≤ 1048576)
def OpenSpec.upto (s : _root_.Go.ChangeSpec) : _root_.Go.OpenSpec := { _root_.Go.OpenSpec.ofChange s with cond := some uptoSmall }

/-- 'antecedentlaw03.TupleTells', WHERE WHAT IT READS IS OF BULK AT MOST 1048576: true; the input reads as it did. -/
def tupleTellsUptoRow : OpenClaim := { program := "ytepgdjbjcnolnaadoor", sum := "bff6f815a2c13425fd60955e716e48fcfdf8284636e67a4a38bec53fb9f37807", func := "antecedent/antecedentlaw03.TupleTells", spec := "tupleTells", inPlace := ["internal/bytealg.abigen_runtime_cmpstring", "internal/abi.NoEscape", "internal/bytealg.MakeNoZero"], unfollowed := true, recurses := true, named := ["internal/strconv.uint64pow10", "math/bits.deBruijn32tab", "math/bits.deBruijn64tab"], apart := false, laid := [("math/bits.deBruijn32tab", laid_math_bits_deBruijn32tab), ("math/bits.deBruijn64tab", laid_math_bits_deBruijn64tab), ("internal/strconv.uint64pow10", laid_internal_strconv_uint64pow10)], narrowed := true }
def TupleTellsUptoSaid : Prop := tupleTellsUptoRow.holds Tryd.pinned (OpenSpec.upto tupleTellsSpec)

/-- 'antecedentlaw03.TupleCompares', WHERE WHAT IT READS IS OF BULK AT MOST 1048576: true; the input reads as it did. -/
def tupleComparesUptoRow : OpenClaim := { program := "ytepgdjbjcnolnaadoor", sum := "bff6f815a2c13425fd60955e716e48fcfdf8284636e67a4a38bec53fb9f37807", func := "antecedent/antecedentlaw03.TupleCompares", spec := "tupleCompares", inPlace := ["internal/bytealg.abigen_runtime_cmpstring", "internal/abi.NoEscape", "internal/bytealg.MakeNoZero"], unfollowed := true, recurses := true, named := ["internal/strconv.uint64pow10", "math/bits.deBruijn32tab", "math/bits.deBruijn64tab"], apart := false, laid := [("math/bits.deBruijn32tab", laid_math_bits_deBruijn32tab), ("math/bits.deBruijn64tab", laid_math_bits_deBruijn64tab), ("internal/strconv.uint64pow10", laid_internal_strconv_uint64pow10)], narrowed := true }
def TupleComparesUptoSaid : Prop := tupleComparesUptoRow.holds Tryd.pinned (OpenSpec.upto tupleComparesSpec)

/-- 'antecedentlaw03.TupleOrder', WHERE WHAT IT READS IS OF BULK AT MOST 1048576: true; the input reads as it did. -/
def tupleOrderUptoRow : OpenClaim := { program := "ytepgdjbjcnolnaadoor", sum := "bff6f815a2c13425fd60955e716e48fcfdf8284636e67a4a38bec53fb9f37807", func := "antecedent/antecedentlaw03.TupleOrder", spec := "tupleOrder", inPlace := ["internal/bytealg.abigen_runtime_cmpstring", "internal/abi.NoEscape", "internal/bytealg.MakeNoZero"], unfollowed := true, recurses := true, named := ["internal/strconv.uint64pow10", "math/bits.deBruijn32tab", "math/bits.deBruijn64tab"], apart := false, laid := [("math/bits.deBruijn32tab", laid_math_bits_deBruijn32tab), ("math/bits.deBruijn64tab", laid_math_bits_deBruijn64tab), ("internal/strconv.uint64pow10", laid_internal_strconv_uint64pow10)], narrowed := true }
def TupleOrderUptoSaid : Prop := tupleOrderUptoRow.holds Tryd.pinned (OpenSpec.upto tupleOrderSpec)

/-- 'antecedentlaw03.TupleBack', WHERE WHAT IT READS IS OF BULK AT MOST 1048576: true; the input reads as it did. -/
def tupleBackUptoRow : OpenClaim := { program := "ytepgdjbjcnolnaadoor", sum := "bff6f815a2c13425fd60955e716e48fcfdf8284636e67a4a38bec53fb9f37807", func := "antecedent/antecedentlaw03.TupleBack", spec := "tupleBack", inPlace := ["internal/bytealg.abigen_runtime_cmpstring", "internal/abi.NoEscape", "internal/bytealg.MakeNoZero"], unfollowed := true, recurses := true, named := ["internal/strconv.uint64pow10", "math/bits.deBruijn32tab", "math/bits.deBruijn64tab"], apart := false, laid := [("math/bits.deBruijn32tab", laid_math_bits_deBruijn32tab), ("math/bits.deBruijn64tab", laid_math_bits_deBruijn64tab), ("internal/strconv.uint64pow10", laid_internal_strconv_uint64pow10)], narrowed := true }
def TupleBackUptoSaid : Prop := tupleBackUptoRow.holds Tryd.pinned (OpenSpec.upto tupleBackSpec)

/-- 'antecedentlaw03.TupleHead', WHERE WHAT IT READS IS OF BULK AT MOST 1048576: true; the input reads as it did. -/
def tupleHeadUptoRow : OpenClaim := { program := "ytepgdjbjcnolnaadoor", sum := "bff6f815a2c13425fd60955e716e48fcfdf8284636e67a4a38bec53fb9f37807", func := "antecedent/antecedentlaw03.TupleHead", spec := "tupleHead", inPlace := ["internal/bytealg.abigen_runtime_cmpstring", "internal/abi.NoEscape", "internal/bytealg.MakeNoZero"], unfollowed := true, recurses := true, named := ["internal/strconv.uint64pow10", "math/bits.deBruijn32tab", "math/bits.deBruijn64tab"], apart := false, laid := [("math/bits.deBruijn32tab", laid_math_bits_deBruijn32tab), ("math/bits.deBruijn64tab", laid_math_bits_deBruijn64tab), ("internal/strconv.uint64pow10", laid_internal_strconv_uint64pow10)], narrowed := true }
def TupleHeadUptoSaid : Prop := tupleHeadUptoRow.holds Tryd.pinned (OpenSpec.upto tupleHeadSpec)

/-- 'antecedentlaw03.TupleOwn', WHERE WHAT IT READS IS OF BULK AT MOST 1048576: true; the input reads as it did. -/
def tupleOwnUptoRow : OpenClaim := { program := "ytepgdjbjcnolnaadoor", sum := "bff6f815a2c13425fd60955e716e48fcfdf8284636e67a4a38bec53fb9f37807", func := "antecedent/antecedentlaw03.TupleOwn", spec := "tupleOwn", inPlace := ["internal/bytealg.abigen_runtime_cmpstring", "internal/abi.NoEscape", "internal/bytealg.MakeNoZero"], unfollowed := true, recurses := true, named := ["internal/strconv.uint64pow10", "math/bits.deBruijn32tab", "math/bits.deBruijn64tab"], apart := false, laid := [("math/bits.deBruijn32tab", laid_math_bits_deBruijn32tab), ("math/bits.deBruijn64tab", laid_math_bits_deBruijn64tab), ("internal/strconv.uint64pow10", laid_internal_strconv_uint64pow10)], narrowed := true }
def TupleOwnUptoSaid : Prop := tupleOwnUptoRow.holds Tryd.pinned (OpenSpec.upto tupleOwnSpec)

/-- 'antecedentlaw03.TupleAhead', WHERE WHAT IT READS IS OF BULK AT MOST 1048576: true; the input reads as it did. -/
def tupleAheadUptoRow : OpenClaim := { program := "ytepgdjbjcnolnaadoor", sum := "bff6f815a2c13425fd60955e716e48fcfdf8284636e67a4a38bec53fb9f37807", func := "antecedent/antecedentlaw03.TupleAhead", spec := "tupleAhead", inPlace := ["internal/bytealg.abigen_runtime_cmpstring", "internal/abi.NoEscape", "internal/bytealg.MakeNoZero"], unfollowed := true, recurses := true, named := ["internal/strconv.uint64pow10", "math/bits.deBruijn32tab", "math/bits.deBruijn64tab"], apart := false, laid := [("math/bits.deBruijn32tab", laid_math_bits_deBruijn32tab), ("math/bits.deBruijn64tab", laid_math_bits_deBruijn64tab), ("internal/strconv.uint64pow10", laid_internal_strconv_uint64pow10)], narrowed := true }
def TupleAheadUptoSaid : Prop := tupleAheadUptoRow.holds Tryd.pinned (OpenSpec.upto tupleAheadSpec)

end Rows
end Go.Proofs.YtepgdjbjcnolnaaDoor
