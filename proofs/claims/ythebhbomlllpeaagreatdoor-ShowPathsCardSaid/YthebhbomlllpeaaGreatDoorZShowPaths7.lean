/-
  ShowPaths: what the proof needs, put together by a program of this session (shake.py), part 7.
-/
import Derived.Test.YthebhbomlllpeaaGreatDoorCards
import Derived.Test.YthebhbomlllpeaaGreatDoorTie
import Derived.Test.YthebhbomlllpeaaGreatDoorProg
import Derived.Below
import Derived.Deep.Draws
import Derived.Deep.AppendLies
import Derived.Maps.AppendAt
import Derived.OwnWalk
import Derived.Laws.BytesArg
import Derived.Laws.MakeOwn
import Derived.Laws.OwnMore
import Derived.Deep.OwnRows
import Derived.Tactics
import Derived.Lib.ConvBytes
import Derived.Laws.Slices
import Derived.WalkKit
import Derived.KernelRfl
import Derived.RowKit3
import Derived.Deep.LoopGhost
import Derived.Deep.QuietTactic
import Derived.BigQuiet
import Derived.WideLaws
import Derived.Deep.DeepCutAuto
import Derived.Deep.CutBlock
import Derived.Deep.RegionHeld3
import Derived.Laws.Rows
import Derived.Lib.AppendStr
import Derived.ArgAppend
import Derived.Laws.IdiomCopy
import Derived.OrdersHeld
import Derived.Laws.BitsLemmas
import Derived.RowKit
import Derived.Lib.SmallJoins
import Derived.Lib.ItoaMem
import Derived.Laws.StructEq
import Derived.Test.YthebhbomlllpeaaGreatDoorRows
import Derived.Deep.Slices
import Derived.Deep.Fields
import Derived.ChangeSame
import Derived.ProofKit
import Derived.OpenShut
import Derived.Deep.DeepHandedRow
import Derived.Lib.LaidTab
import Derived.LaidMore
import Derived.Stop.LaidErr
import Derived.MakeChecks
import Derived.WalkLawsBesides
import Derived.StillTailTactics
import Derived.Laws.NewBlocks
import Derived.Shelf.Strings.Builder1
import Derived.Shelf.Strings.Builder2
import Derived.Shelf.Strings.OnBuilder
import Derived.Shelf.Small.Strs
import Derived.Shelf.Small.Wraps
import Derived.Shelf.Strings.BuilderF
import Derived.Shelf.Strings.BuilderK
import Derived.Shelf.Strings.Builder2Cap
import Derived.Shelf.Strconv.Itoa0
import Derived.Shelf.Strconv.Itoa1
import Derived.Shelf.LaysM
import Derived.Shelf.Strconv.Itoa2
import Derived.Shelf.Strconv.Itoa3
import Derived.Shelf.Strconv.Itoa4
import Derived.Shelf.Strconv.ParseIntEmpty
import Derived.Shelf.Strconv.Clone
import Derived.Shelf.Strconv.SyntaxError
import Derived.Shelf.LaysC
import Derived.Shelf.Strconv.ToError
import Derived.Shelf.Strconv.Lower
import Derived.Shelf.Strconv.ParseUint10
import Derived.Shelf.Strconv.ParseUint10Empty
import Derived.Shelf.Strconv.ParseUint10Any
import Derived.Shelf.Strconv.ParseInt10
import Derived.Shelf.Strconv.RangeError
import Derived.Shelf.Strconv.ToErrorRange
import Derived.Shelf.Strconv.ParseUintEmpty
import Derived.Shelf.Strconv.ParseUint10b64
import Derived.Shelf.Strconv.ParseUint10b32
import Derived.Shelf.Strconv.ParseUint10b16
import Derived.Shelf.Strconv.ParseUint10b8
import Derived.Shelf.Strconv.ParseUint10At
import Derived.Shelf.Strconv.ParseInt10At64
import Derived.Shelf.Strconv.ParseInt10At32
import Derived.Shelf.Strconv.ParseInt10At16
import Derived.Shelf.Strconv.ParseInt10At8
import Derived.Shelf.Strconv.ParseInt10All
import Derived.Shelf.Strconv.ParseIntPublic10
import Derived.Shelf.Strconv.ErrVarParseInt
import Derived.Ground.MpProg
import Derived.Shelf.Pu.ParseUintPublic10
import Derived.Shelf.Pu.ErrVarParseUint
import Derived.Shelf.Strings.Search1
import Derived.Shelf.Strings.Prefix
import Derived.Shelf.Bits.Mul64
import Derived.Shelf.Strings.Repeat
import Derived.Shelf.Strings.BuilderCap
import Derived.Lib.AtoiAllMem
import Derived.Lib.ParseIntB
import Derived.Lib.Hide
import Derived.Laws.Strings3
import Derived.Laws.Closers25
import Derived.Laws.Closers25b
import Derived.BigCall
import Derived.BigGuard
import Derived.Laws.RangeAny
import Derived.Laws.RangeString
import Derived.Lib.ParseIntBTie
import Init
import Derived.LoopN
import Derived.WalkMore
import Derived.Deep.MidRow
import Derived.Recover
import Derived.Deep.DrawnRows
import Derived.Test.YthebhbomlllpeaaGreatDoorZShowPaths6
namespace Go.Proofs.YthebhbomlllpeaaGreatDoor.X
set_option linter.unusedVariables false
set_option linter.unusedSimpArgs false
open Go.RowKit Go.Proofs.YthebhbomlllpeaaGreatDoorW.PrintWords Go.Proofs.YthebhbomlllpeaaGreatDoorW.PrintLast Go.Proofs.YthebhbomlllpeaaGreatDoorW.PrintMore
def tx2 (l : List S53) : List (List UInt8) := l.map fun t => t.f1.data.toList
theorem ref_deep_loop (ts : List S53) (hl : ts.length ≤ 20000) : ∀ (d i o m k : Nat), ts.length - i = d → i ≤ ts.length → d < k → o ≤ i → antecedentref08_Deep.l0 k ts (o : Int) (m : Int) (ts.length : Int) (i : Int) = some (((deepF (o, m) (tx2 (ts.drop i))).2 : Nat) : Int) := by
  intro d
  induction d with
  | zero =>
    intro i o m k hd hi hk ho
    obtain ⟨k, rfl⟩ : ∃ j, k = j + 1 := ⟨k - 1, by omega⟩
    simp only [antecedentref08_Deep.l0]
    rw [if_neg (by omega), List.drop_eq_nil_of_le (by omega)]
    rfl
  | succ d ih =>
    intro i o m k hd hi hk ho
    obtain ⟨k, rfl⟩ : ∃ j, k = j + 1 := ⟨k - 1, by omega⟩
    have hlt : i < ts.length := by omega
    simp only [antecedentref08_Deep.l0]
    rw [if_pos (by omega), if_pos (by omega), if_pos (by omega)]
    have hr : rd_T53 ts (i : Int) = ts[i] := by
      show ts.getD (Int.toNat (i : Int)) _ = _
      rw [Int.toNat_natCast, List.getD_eq_getElem?_getD, List.getElem?_eq_getElem hlt]
      rfl
    have hw1 : wrap64 ((i : Int) + 1) = ((i + 1 : Nat) : Int) := by unfold wrap64; omega
    have hw2 : wrap64 ((o : Int) + 1) = ((o + 1 : Nat) : Int) := by unfold wrap64; omega
    have hw3 : mx 0 (wrap64 ((o : Int) - 1)) = ((o - 1 : Nat) : Int) := by
      have : wrap64 ((o : Int) - 1) = (o : Int) - 1 := by unfold wrap64; omega
      rw [this]; unfold mx; split <;> omega
    have hf : deepF (o, m) (tx2 (ts.drop i)) = deepF (deep1 (o, m) (ts[i].f1.data.toList)) (tx2 (ts.drop (i + 1))) := by
      rw [List.drop_eq_getElem_cons hlt]
      rfl
    rw [hr, hw1, hw2, hw3, hf, toList_data]
    by_cases h40 : ts[i].f1.data.toList = [40]
    · rw [if_pos h40, if_neg (by rw [h40]; decide), mx8, ih (i + 1) (o + 1) (max m (o + 1)) k (by omega) (by omega) (by omega) (by omega)]
      unfold deep1
      rw [if_pos h40]
    · rw [if_neg h40]
      by_cases h41 : ts[i].f1.data.toList = [41]
      · rw [if_pos h41, mx8, ih (i + 1) (o - 1) (max m (o - 1)) k (by omega) (by omega) (by omega) (by omega)]
        unfold deep1
        rw [if_neg h40, if_pos h41]
      · rw [if_neg h41, mx8, ih (i + 1) o (max m o) k (by omega) (by omega) (by omega) (by omega)]
        unfold deep1
        rw [if_neg h40, if_neg h41]
theorem ref_deep (s : List UInt8) (h : s.length ≤ 20000) (k : Nat) (hk : 80100 ≤ k) : antecedentref08_Deep.f k (baL s) = some ((deepS s : Nat) : Int) := by
  have hs : (baL s).size = s.length := baL_size s
  unfold antecedentref08_Deep.f
  rw [ref_tokens_eq (baL s) (by omega) k (by omega)]
  simp only [Option.bind_some]
  unfold deepS
  show antecedentref08_Deep.l0 k (tokRes2 (baL s)).1 0 0 _ 0 = some (((deepF (0, 0) (txts ((lexRes (baL s)).1.map tkOf))).2 : Nat) : Int)
  have hL : lexRes (baL s) = tokRes (baL s) := by unfold lexRes; rw [if_neg (by omega)]
  rw [hL]
  unfold tokRes2 tokRes
  cases ht : tokN nmL vlL 0 (baL s).data.toList with
  | error i => exact ref_deep_loop [] (by simp) 0 0 0 0 k rfl (by simp) (by omega) (Nat.le_refl _)
  | ok l =>
    have hn := tok_count nmL vlL _ (baL s).data.toList 0 l (Nat.le_refl _) ht
    rw [data_length] at hn
    have hlen : (l.map (tokS2 (baL s))).length ≤ 20000 := by simp; omega
    have := ref_deep_loop (l.map (tokS2 (baL s))) hlen _ 0 0 0 k rfl (Nat.zero_le _) (by omega) (Nat.le_refl _)
    rw [List.drop_zero] at this
    refine Eq.trans this ?_
    congr 5
    unfold tx2 txts
    rw [List.map_map, List.map_map, List.map_map]
    apply List.map_congr_left
    intro x _
    show (tokS2 (baL s) x).f1.data.toList = (tokS (baL s) x).f1.data.toList
    rw [tokS_txt8]
    exact extract_at _ _ _
end Go.Proofs.YthebhbomlllpeaaGreatDoor.X
namespace Go.Proofs.YthebhbomlllpeaaGreatDoor.X
open Go.RowKit Go.Proofs.YthebhbomlllpeaaGreatDoorW.PrintWords Go.Proofs.YthebhbomlllpeaaGreatDoorW.PrintLast Go.Proofs.YthebhbomlllpeaaGreatDoorW.PrintMore
attribute [local go_sem] max2_int min2_int max_two min_two max_three min_three max_four min_four
set_option linter.unusedVariables false
set_option linter.unusedSimpArgs false
theorem eqA60 (d : Nat) (w : World) (x0 y0 : ByteArray) (x1 y1 : Int) (x2 y2 : Int) (x3 y3 : ByteArray) :
    (Op.equalIn (d + 3) 60 (.agg #[.string x0, .int .i64 x1, .int .i64 x2, .string x3]) (.agg #[.string y0, .int .i64 y1, .int .i64 y2, .string y3])).run Tryz.prog w = .ok (x0.toList == y0.toList && ((x1 == y1 && (x2 == y2 && (x3.toList == y3.toList))))) w := by
  refine eqA_of Tryz.underlying60 (by kernel_rfl) ?_
  refine eqf_cons (by rfl) (by go_simp; rfl) (by go_simp; rfl) (by go_simp) ?_
  exact eqf_last (by rfl) (by go_simp) (by go_simp) (eqA58 (d + 0) w _ _ _ _ _ _)
end Go.Proofs.YthebhbomlllpeaaGreatDoor.X
namespace Go.Proofs.YthebhbomlllpeaaGreatDoor.X
set_option linter.unusedVariables false
set_option linter.unusedSimpArgs false
open Go.RowKit Go.Proofs.YthebhbomlllpeaaGreatDoorW.PrintWords Go.Proofs.YthebhbomlllpeaaGreatDoorW.PrintLast Go.Proofs.YthebhbomlllpeaaGreatDoorW.PrintMore
attribute [local go_sem high] eqA60
/-- a literal that a machine can hold. -/
def okL (x : LtS) : Prop := okA x.f1 ∧ okT x.f3 ∧ okT x.f4 ∧ okT x.f5 ∧ (∀ y ∈ x.f6, y.f1.size ≤ 9223372036854775807) ∧ x.f6.length ≤ 140737488355328 ∧ x.f2.size ≤ 9223372036854775807
abbrev trm (x : LtS) : Nat → TmS
  | 0 => x.f3
  | 1 => x.f4
  | _ => x.f5
def chkB (x : LtS) (n j : Nat) : Bool := if j < n then !(termL (trm x j)).isEmpty else noneTB (trm x j)
theorem rest_eq (x : LtS) (n : Nat) (a o p : Bool) : restB x n a o p = (chkB x n 0 && (chkB x n 1 && (chkB x n 2 && ((a || atomNone x.f1) && ((o || (x.f2.toList == ([] : List UInt8))) && (p || (x.f6.length == 0))))))) := rfl
theorem rest_no {x : LtS} {n j : Nat} {a o p : Bool} (hj : j < 3) (h : chkB x n j = false) : restB x n a o p = false := by
  rw [rest_eq]
  match j, hj with
  | 0, _ => rw [h]; rfl
  | 1, _ => rw [h]; simp
  | 2, _ => rw [h]; simp
theorem rest_yes {x : LtS} {n : Nat} {a o p : Bool} (h : ∀ j, j < 3 → chkB x n j = true) : restB x n a o p = ((a || atomNone x.f1) && ((o || (x.f2.toList == ([] : List UInt8))) && (p || (x.f6.length == 0)))) := by
  rw [rest_eq, h 0 (by decide), h 1 (by decide), h 2 (by decide)]
  simp
theorem len_beq (n : Nat) : ((n : Int) == 0) = (n == 0) := by rw [Bool.eq_iff_iff, beq_iff_eq, beq_iff_eq]; omega
theorem isEmpty_beq (s : ByteArray) : s.toList.isEmpty = (s.toList == ([] : List UInt8)) := by cases s.toList <;> rfl
/-- a literal's cells. -/
abbrev litC (x : LtS) (A2 : Option Addr) (c2 : Nat) (A16 : Option Addr) (c16 : Nat) : Array Value := #[.int .i64 x.f0, .string x.f1.f0, .slice A2 x.f1.f1.length c2, .string x.f2, .string x.f3.f0, .int .i64 x.f3.f1.f0, .int .i64 x.f3.f1.f1, .string x.f3.f1.f2, .string x.f4.f0, .int .i64 x.f4.f1.f0, .int .i64 x.f4.f1.f1, .string x.f4.f1.f2, .string x.f5.f0, .int .i64 x.f5.f1.f0, .int .i64 x.f5.f1.f1, .string x.f5.f1.f2, .slice A16 x.f6.length c16]
set_option maxHeartbeats 4000000 in
set_option maxRecDepth 100000 in
theorem rest_show (x : LtS) (A2 : Option Addr) (c2 : Nat) (A16 : Option Addr) (c16 : Nat) (n : Nat) (hn : n ≤ 3) (a o p : Bool) (hc : (a = true ∧ o = false ∧ p = false) ∨ (a = false ∧ o = true ∧ p = false) ∨ (a = false ∧ o = false ∧ p = true)) (w : World) (hLW : LaidW w) (hx : okL x) :
    Calls Tryz.prog 74 #[.agg (litC x A2 c2 A16 c16), .int .i64 n, .bool a, .bool o, .bool p] w fun e w' => e = .returned (.bool (restB x n a o p)) ∧ Below w.heap.size w w' := by
  have hB := below_alloc (Below.refl w.heap.size w) (.cells (litC x A2 c2 A16 c16) 62)
  have hN := blk_new w (.cells (litC x A2 c2 A16 c16) 62)
  obtain ⟨nb, enb⟩ : ∃ n, w.heap.size = n := ⟨_, rfl⟩
  rw [enb] at hN
  have HB := Aside0.mk hB
  have HN := Aside0.mk hN
  have HLW := Aside0.mk hLW
  have HX := Aside0.mk hx
  obtain ⟨W, hW⟩ : ∃ W, w.alloc (.cells (litC x A2 c2 A16 c16) 62) = W := ⟨_, rfl⟩
  have HT0 := Aside0.mk (fun V (h : LaidW V) => term_show x.f3 V h hx.2.1)
  have HT1 := Aside0.mk (fun V (h : LaidW V) => term_show x.f4 V h hx.2.2.1)
  have HT2 := Aside0.mk (fun V (h : LaidW V) => term_show x.f5 V h hx.2.2.2.1)
  have HRN := Aside0.mk (fun j (hj : j < 3) (h : chkB x n j = false) => rest_no (a := a) (o := o) (p := p) hj h)
  have HRY := Aside0.mk (fun (h : ∀ j, j < 3 → chkB x n j = true) => rest_yes (a := a) (o := o) (p := p) h)
  obtain ⟨r, hr⟩ : ∃ r, restB x n a o p = r := ⟨_, rfl⟩
  rw [hr] at HRN HRY ⊢
  have HC := Aside0.mk hc
  clear hB hN hLW hx hr hc
  simp only [litC] at HB HN hW ⊢
  rw [hW] at HN HB
  have HW := Aside0.mk hW
  have d4 : W.cell? ⟨nb, 4, none⟩ = some (.string x.f3.f0) := (blk_cell HN.out 4).trans rfl
  have d5 : W.cell? ⟨nb, 5, none⟩ = some (.int .i64 x.f3.f1.f0) := (blk_cell HN.out 5).trans rfl
  have d6 : W.cell? ⟨nb, 6, none⟩ = some (.int .i64 x.f3.f1.f1) := (blk_cell HN.out 6).trans rfl
  have d7 : W.cell? ⟨nb, 7, none⟩ = some (.string x.f3.f1.f2) := (blk_cell HN.out 7).trans rfl
  have d8 : W.cell? ⟨nb, 8, none⟩ = some (.string x.f4.f0) := (blk_cell HN.out 8).trans rfl
  have d9 : W.cell? ⟨nb, 9, none⟩ = some (.int .i64 x.f4.f1.f0) := (blk_cell HN.out 9).trans rfl
  have d10 : W.cell? ⟨nb, 10, none⟩ = some (.int .i64 x.f4.f1.f1) := (blk_cell HN.out 10).trans rfl
  have d11 : W.cell? ⟨nb, 11, none⟩ = some (.string x.f4.f1.f2) := (blk_cell HN.out 11).trans rfl
  have d12 : W.cell? ⟨nb, 12, none⟩ = some (.string x.f5.f0) := (blk_cell HN.out 12).trans rfl
  have d13 : W.cell? ⟨nb, 13, none⟩ = some (.int .i64 x.f5.f1.f0) := (blk_cell HN.out 13).trans rfl
  have d14 : W.cell? ⟨nb, 14, none⟩ = some (.int .i64 x.f5.f1.f1) := (blk_cell HN.out 14).trans rfl
  have d15 : W.cell? ⟨nb, 15, none⟩ = some (.string x.f5.f1.f2) := (blk_cell HN.out 15).trans rfl
  go_enter Tryz.func74, Tryz.ntmps74
  go_wp2_with fail
  have HWB := Aside0.mk (show Below w.heap.size w W from hW ▸ HB.out)
  have HLW2 := Aside0.mk (HLW.out.below HWB.out)
  have HBR := Aside0.mk (Below.refl W.heap.size W)
  clear HB HLW hW enb d4 d5 d6 d7 d8 d9 d10 d11 d12 d13 d14 d15
  go_loopg [20] 4 (fun kq v20 w' => ∃ (i : Nat), v20 = .int .i64 i ∧ kq + i = 4 ∧ i ≤ 3 ∧ Aside0 (∀ j, j < i → chkB x n j = true) ∧ Aside0 (Below W.heap.size W w'))
  case atStart => exact ⟨0, rfl, rfl, by omega, ⟨fun j hj => by omega⟩, HBR⟩
  case round =>
    clear HBR
    obtain ⟨i, rfl, hk, hi, HCS, HB2⟩ := hrel
    by_cases hlt : i < 3
    · obtain ⟨k1, rfl⟩ : ∃ k1, gk = k1 + 1 := ⟨gk - 1, by omega⟩
      rcases (by omega : i = 0 ∨ i = 1 ∨ i = 2) with rfl | rfl | rfl
      · have hix : ∀ V : World, (Instr.index 153 (.agg #[.string x.f3.f0, .int .i64 x.f3.f1.f0, .int .i64 x.f3.f1.f1, .string x.f3.f1.f2, .string x.f4.f0, .int .i64 x.f4.f1.f0, .int .i64 x.f4.f1.f1, .string x.f4.f1.f2, .string x.f5.f0, .int .i64 x.f5.f1.f0, .int .i64 x.f5.f1.f1, .string x.f5.f1.f2]) (.int .i64 0)).run Tryz.prog V = .ok (.agg #[.string x.f3.f0, .int .i64 x.f3.f1.f0, .int .i64 x.f3.f1.f1, .string x.f3.f1.f2]) V := fun _ => by kernel_rfl
        by_cases hjn : 0 < n
        · have e1 : decide ((0 : Int) < (n : Int)) = true := decide_eq_true (by omega)
          have e2 : decide (0 < n) = true := decide_eq_true hjn
          have e3 : decide ((n : Int) ≤ 0) = false := decide_eq_false (by omega)
          have e4 : decide (n ≤ 0) = false := decide_eq_false (by omega)
          have HCK := Aside0.mk (show chkB x n 0 = !(termL x.f3).isEmpty from if_pos hjn)
          go_wp2_with fail
          refine (HT0.out _ (HLW2.out.below (below_then HB2.out HB2.out.size (below_alloc (Below.refl _ _) _)))).mono ?_
          rintro e V ⟨rfl, hb⟩
          have HB3 := Aside0.mk (below_then HB2.out HB2.out.size (below_then ((Below.refl wr.heap.size wr).alloc (Nat.le_refl _) _) (by simp) hb))
          clear hb
          obtain ⟨b, hbE⟩ : ∃ b, baL (termL x.f3) = b := ⟨_, rfl⟩
          rw [hbE]
          by_cases hs0 : termL x.f3 = []
          · have e5 : (b.toList == ([] : List UInt8)) = true := by rw [← hbE, hs0, baL_toList]; exact beq_self_eq_true _
            have e6 : (b.toList == (⟨#[]⟩ : ByteArray).toList) = true := by rw [← hbE, hs0]; exact beq_self_eq_true _
            have HF := Aside0.mk (HRN.out 0 (by decide) (by rw [HCK.out, hs0]; rfl))
            clear hbE hs0
            go_wp2
            go_ret
            exact ⟨by rw [HF.out]; rfl, below_then HWB.out HWB.out.size HB3.out⟩
          · have e5 : (b.toList == ([] : List UInt8)) = false := by rw [beq_eq_false_iff_ne, ← hbE, baL_toList]; exact hs0
            have e6 : (b.toList == (⟨#[]⟩ : ByteArray).toList) = false := by rw [beq_eq_false_iff_ne, ← hbE, baL_toList]; exact fun h => hs0 (h.trans nil_bytes)
            have HC2 := Aside0.mk (show ∀ j, j < 1 → chkB x n j = true from fun j hj => by
              rcases Nat.lt_succ_iff_lt_or_eq.1 hj with h | rfl
              · exact HCS.out j h
              · rw [HCK.out]; cases hh : termL x.f3 with
                | nil => exact absurd hh hs0
                | cons _ _ => rfl)
            clear hbE hs0
            go_wp2
            go_roundg k1
            case rel => exact ⟨1, by go_num, by omega, by omega, HC2, HB3⟩
            case measure => omega
        · obtain rfl : n = 0 := by omega
          have HCK := Aside0.mk (show chkB x 0 0 = noneTB x.f3 from rfl)
          have HB3 := Aside0.mk (below_then HB2.out HB2.out.size (below_alloc (Below.refl wr.heap.size wr) (.cells #[.string x.f3.f0, .int .i64 x.f3.f1.f0, .int .i64 x.f3.f1.f1, .string x.f3.f1.f2] 60)))
          obtain ⟨bn, hbn⟩ : ∃ b, noneTB x.f3 = b := ⟨_, rfl⟩
          have hbn2 : (x.f3.f0.toList.isEmpty && (x.f3.f1.f0 == 0 && (x.f3.f1.f1 == 0 && x.f3.f1.f2.toList.isEmpty))) = bn := by
            rw [← hbn]
            unfold noneTB noneVB
            rw [isEmpty_beq, isEmpty_beq]
          rw [hbn] at HCK
          clear hbn
          cases bn with
          | false =>
            have HF := Aside0.mk (HRN.out 0 (by decide) HCK.out)
            go_wp2
            go_ret
            exact ⟨by rw [HF.out]; rfl, below_then HWB.out HWB.out.size HB3.out⟩
          | true =>
            have HC2 := Aside0.mk (show ∀ j, j < 1 → chkB x 0 j = true from fun j hj => by
              rcases Nat.lt_succ_iff_lt_or_eq.1 hj with h | rfl
              · exact HCS.out j h
              · exact HCK.out)
            go_wp2
            go_roundg k1
            case rel => exact ⟨1, by go_num, by omega, by omega, HC2, HB3⟩
            case measure => omega
      · have hix : ∀ V : World, (Instr.index 153 (.agg #[.string x.f3.f0, .int .i64 x.f3.f1.f0, .int .i64 x.f3.f1.f1, .string x.f3.f1.f2, .string x.f4.f0, .int .i64 x.f4.f1.f0, .int .i64 x.f4.f1.f1, .string x.f4.f1.f2, .string x.f5.f0, .int .i64 x.f5.f1.f0, .int .i64 x.f5.f1.f1, .string x.f5.f1.f2]) (.int .i64 1)).run Tryz.prog V = .ok (.agg #[.string x.f4.f0, .int .i64 x.f4.f1.f0, .int .i64 x.f4.f1.f1, .string x.f4.f1.f2]) V := fun _ => by kernel_rfl
        by_cases hjn : 1 < n
        · have e1 : decide ((1 : Int) < (n : Int)) = true := decide_eq_true (by omega)
          have e2 : decide (1 < n) = true := decide_eq_true hjn
          have e3 : decide ((n : Int) ≤ 1) = false := decide_eq_false (by omega)
          have e4 : decide (n ≤ 1) = false := decide_eq_false (by omega)
          have HCK := Aside0.mk (show chkB x n 1 = !(termL x.f4).isEmpty from if_pos hjn)
          go_wp2_with fail
          refine (HT1.out _ (HLW2.out.below (below_then HB2.out HB2.out.size (below_alloc (Below.refl _ _) _)))).mono ?_
          rintro e V ⟨rfl, hb⟩
          have HB3 := Aside0.mk (below_then HB2.out HB2.out.size (below_then ((Below.refl wr.heap.size wr).alloc (Nat.le_refl _) _) (by simp) hb))
          clear hb
          obtain ⟨b, hbE⟩ : ∃ b, baL (termL x.f4) = b := ⟨_, rfl⟩
          rw [hbE]
          by_cases hs0 : termL x.f4 = []
          · have e5 : (b.toList == ([] : List UInt8)) = true := by rw [← hbE, hs0, baL_toList]; exact beq_self_eq_true _
            have e6 : (b.toList == (⟨#[]⟩ : ByteArray).toList) = true := by rw [← hbE, hs0]; exact beq_self_eq_true _
            have HF := Aside0.mk (HRN.out 1 (by decide) (by rw [HCK.out, hs0]; rfl))
            clear hbE hs0
            go_wp2
            go_ret
            exact ⟨by rw [HF.out]; rfl, below_then HWB.out HWB.out.size HB3.out⟩
          · have e5 : (b.toList == ([] : List UInt8)) = false := by rw [beq_eq_false_iff_ne, ← hbE, baL_toList]; exact hs0
            have e6 : (b.toList == (⟨#[]⟩ : ByteArray).toList) = false := by rw [beq_eq_false_iff_ne, ← hbE, baL_toList]; exact fun h => hs0 (h.trans nil_bytes)
            have HC2 := Aside0.mk (show ∀ j, j < 2 → chkB x n j = true from fun j hj => by
              rcases Nat.lt_succ_iff_lt_or_eq.1 hj with h | rfl
              · exact HCS.out j h
              · rw [HCK.out]; cases hh : termL x.f4 with
                | nil => exact absurd hh hs0
                | cons _ _ => rfl)
            clear hbE hs0
            go_wp2
            go_roundg k1
            case rel => exact ⟨2, by go_num, by omega, by omega, HC2, HB3⟩
            case measure => omega
        · have e1 : decide ((1 : Int) < (n : Int)) = false := decide_eq_false (by omega)
          have e2 : decide (1 < n) = false := decide_eq_false hjn
          have e3 : decide ((n : Int) ≤ 1) = true := decide_eq_true (by omega)
          have e4 : decide (n ≤ 1) = true := decide_eq_true (by omega)
          have HCK := Aside0.mk (show chkB x n 1 = noneTB x.f4 from if_neg hjn)
          have HB3 := Aside0.mk (below_then HB2.out HB2.out.size (below_alloc (Below.refl wr.heap.size wr) (.cells #[.string x.f4.f0, .int .i64 x.f4.f1.f0, .int .i64 x.f4.f1.f1, .string x.f4.f1.f2] 60)))
          obtain ⟨bn, hbn⟩ : ∃ b, noneTB x.f4 = b := ⟨_, rfl⟩
          have hbn2 : (x.f4.f0.toList.isEmpty && (x.f4.f1.f0 == 0 && (x.f4.f1.f1 == 0 && x.f4.f1.f2.toList.isEmpty))) = bn := by
            rw [← hbn]
            unfold noneTB noneVB
            rw [isEmpty_beq, isEmpty_beq]
          rw [hbn] at HCK
          clear hbn
          cases bn with
          | false =>
            have HF := Aside0.mk (HRN.out 1 (by decide) HCK.out)
            go_wp2
            go_ret
            exact ⟨by rw [HF.out]; rfl, below_then HWB.out HWB.out.size HB3.out⟩
          | true =>
            have HC2 := Aside0.mk (show ∀ j, j < 2 → chkB x n j = true from fun j hj => by
              rcases Nat.lt_succ_iff_lt_or_eq.1 hj with h | rfl
              · exact HCS.out j h
              · exact HCK.out)
            go_wp2
            go_roundg k1
            case rel => exact ⟨2, by go_num, by omega, by omega, HC2, HB3⟩
            case measure => omega
      · have hix : ∀ V : World, (Instr.index 153 (.agg #[.string x.f3.f0, .int .i64 x.f3.f1.f0, .int .i64 x.f3.f1.f1, .string x.f3.f1.f2, .string x.f4.f0, .int .i64 x.f4.f1.f0, .int .i64 x.f4.f1.f1, .string x.f4.f1.f2, .string x.f5.f0, .int .i64 x.f5.f1.f0, .int .i64 x.f5.f1.f1, .string x.f5.f1.f2]) (.int .i64 2)).run Tryz.prog V = .ok (.agg #[.string x.f5.f0, .int .i64 x.f5.f1.f0, .int .i64 x.f5.f1.f1, .string x.f5.f1.f2]) V := fun _ => by kernel_rfl
        by_cases hjn : 2 < n
        · have e1 : decide ((2 : Int) < (n : Int)) = true := decide_eq_true (by omega)
          have e2 : decide (2 < n) = true := decide_eq_true hjn
          have e3 : decide ((n : Int) ≤ 2) = false := decide_eq_false (by omega)
          have e4 : decide (n ≤ 2) = false := decide_eq_false (by omega)
          have HCK := Aside0.mk (show chkB x n 2 = !(termL x.f5).isEmpty from if_pos hjn)
          go_wp2_with fail
          refine (HT2.out _ (HLW2.out.below (below_then HB2.out HB2.out.size (below_alloc (Below.refl _ _) _)))).mono ?_
          rintro e V ⟨rfl, hb⟩
          have HB3 := Aside0.mk (below_then HB2.out HB2.out.size (below_then ((Below.refl wr.heap.size wr).alloc (Nat.le_refl _) _) (by simp) hb))
          clear hb
          obtain ⟨b, hbE⟩ : ∃ b, baL (termL x.f5) = b := ⟨_, rfl⟩
          rw [hbE]
          by_cases hs0 : termL x.f5 = []
          · have e5 : (b.toList == ([] : List UInt8)) = true := by rw [← hbE, hs0, baL_toList]; exact beq_self_eq_true _
            have e6 : (b.toList == (⟨#[]⟩ : ByteArray).toList) = true := by rw [← hbE, hs0]; exact beq_self_eq_true _
            have HF := Aside0.mk (HRN.out 2 (by decide) (by rw [HCK.out, hs0]; rfl))
            clear hbE hs0
            go_wp2
            go_ret
            exact ⟨by rw [HF.out]; rfl, below_then HWB.out HWB.out.size HB3.out⟩
          · have e5 : (b.toList == ([] : List UInt8)) = false := by rw [beq_eq_false_iff_ne, ← hbE, baL_toList]; exact hs0
            have e6 : (b.toList == (⟨#[]⟩ : ByteArray).toList) = false := by rw [beq_eq_false_iff_ne, ← hbE, baL_toList]; exact fun h => hs0 (h.trans nil_bytes)
            have HC2 := Aside0.mk (show ∀ j, j < 3 → chkB x n j = true from fun j hj => by
              rcases Nat.lt_succ_iff_lt_or_eq.1 hj with h | rfl
              · exact HCS.out j h
              · rw [HCK.out]; cases hh : termL x.f5 with
                | nil => exact absurd hh hs0
                | cons _ _ => rfl)
            clear hbE hs0
            go_wp2
            go_roundg k1
            case rel => exact ⟨3, by go_num, by omega, by omega, HC2, HB3⟩
            case measure => omega
        · have e1 : decide ((2 : Int) < (n : Int)) = false := decide_eq_false (by omega)
          have e2 : decide (2 < n) = false := decide_eq_false hjn
          have e3 : decide ((n : Int) ≤ 2) = true := decide_eq_true (by omega)
          have e4 : decide (n ≤ 2) = true := decide_eq_true (by omega)
          have HCK := Aside0.mk (show chkB x n 2 = noneTB x.f5 from if_neg hjn)
          have HB3 := Aside0.mk (below_then HB2.out HB2.out.size (below_alloc (Below.refl wr.heap.size wr) (.cells #[.string x.f5.f0, .int .i64 x.f5.f1.f0, .int .i64 x.f5.f1.f1, .string x.f5.f1.f2] 60)))
          obtain ⟨bn, hbn⟩ : ∃ b, noneTB x.f5 = b := ⟨_, rfl⟩
          have hbn2 : (x.f5.f0.toList.isEmpty && (x.f5.f1.f0 == 0 && (x.f5.f1.f1 == 0 && x.f5.f1.f2.toList.isEmpty))) = bn := by
            rw [← hbn]
            unfold noneTB noneVB
            rw [isEmpty_beq, isEmpty_beq]
          rw [hbn] at HCK
          clear hbn
          cases bn with
          | false =>
            have HF := Aside0.mk (HRN.out 2 (by decide) HCK.out)
            go_wp2
            go_ret
            exact ⟨by rw [HF.out]; rfl, below_then HWB.out HWB.out.size HB3.out⟩
          | true =>
            have HC2 := Aside0.mk (show ∀ j, j < 3 → chkB x n j = true from fun j hj => by
              rcases Nat.lt_succ_iff_lt_or_eq.1 hj with h | rfl
              · exact HCS.out j h
              · exact HCK.out)
            go_wp2
            go_roundg k1
            case rel => exact ⟨3, by go_num, by omega, by omega, HC2, HB3⟩
            case measure => omega
    · obtain rfl : i = 3 := by omega
      have HY := Aside0.mk (show r = ((a || ((x.f1.f0.toList == ([] : List UInt8)) && (x.f1.f1.length == 0))) && ((o || (x.f2.toList == ([] : List UInt8))) && (p || (x.f6.length == 0)))) from HRY.out HCS.out)
      have HBZ := Aside0.mk (below_then HWB.out HWB.out.size HB2.out)
      have hN3 := blk_below HN.out HB2.out
      have d1 : wr.cell? ⟨nb, 1, none⟩ = some (.string x.f1.f0) := (blk_cell hN3 1).trans rfl
      have d2 : wr.cell? ⟨nb, 2, none⟩ = some (.slice A2 x.f1.f1.length c2) := (blk_cell hN3 2).trans rfl
      have d3 : wr.cell? ⟨nb, 3, none⟩ = some (.string x.f2) := (blk_cell hN3 3).trans rfl
      have d16 : wr.cell? ⟨nb, 16, none⟩ = some (.slice A16 x.f6.length c16) := (blk_cell hN3 16).trans rfl
      obtain ⟨b1, hb1⟩ : ∃ b, (x.f1.f0.toList == ([] : List UInt8)) = b := ⟨_, rfl⟩
      obtain ⟨b2, hb2⟩ : ∃ b, (x.f1.f1.length == 0) = b := ⟨_, rfl⟩
      obtain ⟨b3, hb3⟩ : ∃ b, (x.f2.toList == ([] : List UInt8)) = b := ⟨_, rfl⟩
      obtain ⟨b4, hb4⟩ : ∃ b, (x.f6.length == 0) = b := ⟨_, rfl⟩
      rw [hb1, hb2, hb3, hb4] at HY
      have hc1 : (x.f1.f0.toList == (⟨#[]⟩ : ByteArray).toList) = b1 := by rw [nil_bytes]; exact hb1
      have hc3 : (x.f2.toList == (⟨#[]⟩ : ByteArray).toList) = b3 := by rw [nil_bytes]; exact hb3
      have hc2 : ((x.f1.f1.length : Int) == 0) = b2 := by rw [← hb2]; exact len_beq _
      have hc4 : ((x.f6.length : Int) == 0) = b4 := by rw [← hb4]; exact len_beq _
      clear HRN HRY HCS HT0 HT1 HT2 HB2 hN3 HN HW HX HLW2 HWB
      have hc := HC.out
      rcases hc with ⟨rfl, rfl, rfl⟩ | ⟨rfl, rfl, rfl⟩ | ⟨rfl, rfl, rfl⟩
      · clear hb1 hb2 hc1 hc2 d1 d2
        cases b3
        all_goals
          cases b4
          all_goals
            go_wp2
            go_ret
            exact ⟨by rw [HY.out]; simp, HBZ.out⟩
      · clear hb3 hc3 d3
        cases b1
        all_goals
          cases b2
          all_goals
            cases b4
            all_goals
              go_wp2
              go_ret
              exact ⟨by rw [HY.out]; simp, HBZ.out⟩
      · clear hb4 hc4 d16
        cases b1
        all_goals
          cases b2
          all_goals
            cases b3
            all_goals
              go_wp2
              go_ret
              exact ⟨by rw [HY.out]; simp, HBZ.out⟩
end Go.Proofs.YthebhbomlllpeaaGreatDoor.X
namespace Go.Proofs.YthebhbomlllpeaaGreatDoor.X
set_option linter.unusedVariables false
set_option linter.unusedSimpArgs false
open Go.RowKit Go.Proofs.YthebhbomlllpeaaGreatDoorW.PrintWords Go.Proofs.YthebhbomlllpeaaGreatDoorW.PrintLast Go.Proofs.YthebhbomlllpeaaGreatDoorW.PrintMore
attribute [local go_sem ↓] Go.wp_at_zero Go.wp_at_succ
theorem emp_t {l : List UInt8} {b : ByteArray} (h : baL l = b) (he : l = []) : (b.toList == ([] : List UInt8)) = true ∧ (b.toList == (⟨#[]⟩ : ByteArray).toList) = true ∧ (b.toList != ([] : List UInt8)) = false ∧ (b.toList != (⟨#[]⟩ : ByteArray).toList) = false := by
  subst h he
  exact ⟨by rw [baL_toList]; rfl, beq_self_eq_true _, by rw [baL_toList]; rfl, bne_self_eq_false _⟩
theorem emp_f {l : List UInt8} {b : ByteArray} (h : baL l = b) (he : l ≠ []) : (b.toList == ([] : List UInt8)) = false ∧ (b.toList == (⟨#[]⟩ : ByteArray).toList) = false ∧ (b.toList != ([] : List UInt8)) = true ∧ (b.toList != (⟨#[]⟩ : ByteArray).toList) = true := by
  subst h
  have h1 : (baL l).toList ≠ [] := by rw [baL_toList]; exact he
  exact ⟨beq_eq_false_iff_ne.2 h1, beq_eq_false_iff_ne.2 (by rw [nil_bytes]; exact h1), bne_iff_ne.2 h1, bne_iff_ne.2 (by rw [nil_bytes]; exact h1)⟩
/-- are steps a path? -/
def rpB (l : List StS) : Bool := !(pathL l).isEmpty
set_option maxHeartbeats 4000000 in
set_option maxRecDepth 100000 in
theorem rightPath_show (l : List StS) (A : Option Addr) (c : Nat) (w : World) (hLW : LaidW w) (hC : Kd.C k69 w A l.length l) (hl : ∀ x ∈ l, x.f1.size ≤ 9223372036854775807) (hl63 : l.length ≤ 140737488355328) :
    Calls Tryz.prog 27 #[.slice A l.length c] w fun e w' => e = .returned (.bool (rpB l)) ∧ Below w.heap.size w w' := by
  have HP := Aside0.mk (path_show l A c w hLW hC hl hl63)
  obtain ⟨r, hr⟩ : ∃ r, rpB l = r := ⟨_, rfl⟩
  have HR := Aside0.mk hr
  rw [hr]
  clear hC hl hLW hr
  go_enter Tryz.func27, Tryz.ntmps27
  go_wp2_with fail
  refine HP.out.mono ?_
  rintro e w1 ⟨rfl, hb⟩
  have HB1 := Aside0.mk hb
  clear hb
  obtain ⟨b, hbE⟩ : ∃ b, baL (pathL l) = b := ⟨_, rfl⟩
  rw [hbE]
  by_cases he : pathL l = []
  · obtain ⟨e1, e2, e3, e4⟩ := emp_t hbE he
    have HF := Aside0.mk (show r = false by rw [← HR.out]; unfold rpB; rw [he]; rfl)
    clear hbE he
    go_wp2
    go_ret
    exact ⟨by rw [HF.out]; rfl, HB1.out⟩
  · obtain ⟨e1, e2, e3, e4⟩ := emp_f hbE he
    have HF := Aside0.mk (show r = true by
      rw [← HR.out]; unfold rpB
      cases hh : pathL l with
      | nil => exact absurd hh he
      | cons _ _ => rfl)
    clear hbE he
    go_wp2
    go_ret
    exact ⟨by rw [HF.out]; rfl, HB1.out⟩
theorem neB {l : List UInt8} (h : l ≠ []) : (!l.isEmpty) = true := by
  cases l with
  | nil => exact absurd rfl h
  | cons _ _ => rfl
theorem neB_of {l : List UInt8} (h : (!l.isEmpty) = true) : l ≠ [] := fun e => by rw [e] at h; cases h
theorem wordL_len (s : List UInt8) : (wordL s).length ≤ 7 := by
  unfold wordL
  repeat' split
  all_goals simp
theorem compB_len {s : List UInt8} (h : compB s = true) : s.length ≤ 2 := by
  unfold compB at h
  simp only [Bool.or_eq_true, beq_iff_eq] at h
  rcases h with rfl | rfl | rfl | rfl <;> simp
theorem word_f (s : ByteArray) : show_word.f s = some (baL (wordL s.data.toList)) := by
  unfold show_word.f wordL
  rw [toList_iff]
  by_cases h1 : s.data.toList = [43]
  · rw [if_pos h1, if_pos h1]
  · rw [if_neg h1, if_neg h1]
    by_cases h2 : s.data.toList = [45]
    · rw [if_pos h2, if_pos h2]
    · rw [if_neg h2, if_neg h2]
      by_cases h3 : s.data.toList = [42]
      · rw [if_pos h3, if_pos h3]
      · rw [if_neg h3, if_neg h3]
set_option maxHeartbeats 8000000 in
set_option maxRecDepth 100000 in
theorem lit_show0 (x : LtS) (A2 : Option Addr) (c2 : Nat) (A16 : Option Addr) (c16 : Nat) (j : Int) (w : World) (hLW : LaidW w) (hx : okL x) (hA2 : Kd.C k60 w A2 x.f1.f1.length x.f1.f1) (hA16 : Kd.C k69 w A16 x.f6.length x.f6) (hk : x.f0 ≠ 1 ∧ x.f0 ≠ 2 ∧ x.f0 ≠ 3 ∧ x.f0 ≠ 4 ∧ x.f0 ≠ 5) :
    Calls Tryz.prog 44 #[.int .i64 j, .agg (litC x A2 c2 A16 c16)] w fun e w' => e = .returned (.string (baL (litL x))) ∧ Below w.heap.size w w' := by
  obtain ⟨nb, enb⟩ : ∃ n, w.heap.size = n := ⟨_, rfl⟩
  obtain ⟨W, hW⟩ : ∃ W, w.alloc (.cells (litC x A2 c2 A16 c16) 62) = W := ⟨_, rfl⟩
  have hBW : Below w.heap.size w W := hW ▸ below_alloc (Below.refl w.heap.size w) (.cells (litC x A2 c2 A16 c16) 62)
  have hN := blk_new w (.cells (litC x A2 c2 A16 c16) 62)
  rw [enb, hW] at hN
  have HAT := Aside0.mk (atom_show x.f1 A2 c2 W (hLW.below hBW) (Kd.C_below hA2 hBW) hx.1)
  have HPA := Aside0.mk (fun (V : World) (h : Below w.heap.size w V) => path_show x.f6 A16 c16 V (hLW.below h) (Kd.C_below hA16 h) hx.2.2.2.2.1 hx.2.2.2.2.2.1)
  have HRP := Aside0.mk (fun (V : World) (h : Below w.heap.size w V) => rightPath_show x.f6 A16 c16 V (hLW.below h) (Kd.C_below hA16 h) hx.2.2.2.2.1 hx.2.2.2.2.2.1)
  have HRS := Aside0.mk (fun (n : Nat) (hn : n ≤ 3) (a o p : Bool) (hc : (a = true ∧ o = false ∧ p = false) ∨ (a = false ∧ o = true ∧ p = false) ∨ (a = false ∧ o = false ∧ p = true)) (V : World) (h : LaidW V) => rest_show x A2 c2 A16 c16 n hn a o p hc V h hx)
  have HTA := Aside0.mk (fun V (h : LaidW V) => term_show x.f3 V h hx.2.1)
  have HTB := Aside0.mk (fun V (h : LaidW V) => term_show x.f4 V h hx.2.2.1)
  have HTC := Aside0.mk (fun V (h : LaidW V) => term_show x.f5 V h hx.2.2.2.1)
  have HWD := Aside0.mk (fun V => show_word.calls x.f2 (baL (wordL x.f2.data.toList)) V (word_f x.f2))
  have hla := termL_len x.f3 hx.2.1
  have hlb := termL_len x.f4 hx.2.2.1
  have hlc := termL_len x.f5 hx.2.2.2.1
  have hlp := pathL_len x.f6
  have hlw := wordL_len x.f2.data.toList
  have hat := head_len x.f1 0 hx.1
  obtain ⟨res, hres⟩ : ∃ r, litL x = r := ⟨_, rfl⟩
  have HRE := Aside0.mk hres
  have HLW := Aside0.mk hLW
  have HBW := Aside0.mk hBW
  have HN := Aside0.mk hN
  rw [hres]
  simp only [litC] at HAT HRS HN hW ⊢
  have HW := Aside0.mk hW
  have d1 : W.cell? ⟨nb, 1, none⟩ = some (.string x.f1.f0) := (blk_cell HN.out 1).trans rfl
  have d2 : W.cell? ⟨nb, 2, none⟩ = some (.slice A2 x.f1.f1.length c2) := (blk_cell HN.out 2).trans rfl
  have k1 : (x.f0 == 1) = false := beq_eq_false_iff_ne.2 (hk.1)
  have k2 : (x.f0 == 2) = false := beq_eq_false_iff_ne.2 (hk.2.1)
  have k3 : (x.f0 == 3) = false := beq_eq_false_iff_ne.2 (hk.2.2.1)
  have k4 : (x.f0 == 4) = false := beq_eq_false_iff_ne.2 (hk.2.2.2.1)
  have k5 : (x.f0 == 5) = false := beq_eq_false_iff_ne.2 (hk.2.2.2.2)
  have HK := Aside0.mk hk
  clear hk hLW hx hA2 hA16 hres hBW hN hla hlb hlc hlp hlw hat
  go_enter Tryz.func44, Tryz.ntmps44
  go_wp2_with fail
  refine HAT.out.mono ?_
  rintro e w1 ⟨rfl, hb⟩
  have HB1 := Aside0.mk (below_then HBW.out HBW.out.size hb)
  have HN1 := Aside0.mk (blk_below HN.out hb)
  clear hb hW d1 d2 HAT enb
  have d0 : w1.cell? ⟨nb, 0, none⟩ = some (.int .i64 x.f0) := (blk_cell HN1.out 0).trans rfl
  have d1 : w1.cell? ⟨nb, 1, none⟩ = some (.string x.f1.f0) := (blk_cell HN1.out 1).trans rfl
  have d2 : w1.cell? ⟨nb, 2, none⟩ = some (.slice A2 x.f1.f1.length c2) := (blk_cell HN1.out 2).trans rfl
  have d3 : w1.cell? ⟨nb, 3, none⟩ = some (.string x.f2) := (blk_cell HN1.out 3).trans rfl
  have d4 : w1.cell? ⟨nb, 4, none⟩ = some (.string x.f3.f0) := (blk_cell HN1.out 4).trans rfl
  have d5 : w1.cell? ⟨nb, 5, none⟩ = some (.int .i64 x.f3.f1.f0) := (blk_cell HN1.out 5).trans rfl
  have d6 : w1.cell? ⟨nb, 6, none⟩ = some (.int .i64 x.f3.f1.f1) := (blk_cell HN1.out 6).trans rfl
  have d7 : w1.cell? ⟨nb, 7, none⟩ = some (.string x.f3.f1.f2) := (blk_cell HN1.out 7).trans rfl
  have d8 : w1.cell? ⟨nb, 8, none⟩ = some (.string x.f4.f0) := (blk_cell HN1.out 8).trans rfl
  have d9 : w1.cell? ⟨nb, 9, none⟩ = some (.int .i64 x.f4.f1.f0) := (blk_cell HN1.out 9).trans rfl
  have d10 : w1.cell? ⟨nb, 10, none⟩ = some (.int .i64 x.f4.f1.f1) := (blk_cell HN1.out 10).trans rfl
  have d11 : w1.cell? ⟨nb, 11, none⟩ = some (.string x.f4.f1.f2) := (blk_cell HN1.out 11).trans rfl
  have d12 : w1.cell? ⟨nb, 12, none⟩ = some (.string x.f5.f0) := (blk_cell HN1.out 12).trans rfl
  have d13 : w1.cell? ⟨nb, 13, none⟩ = some (.int .i64 x.f5.f1.f0) := (blk_cell HN1.out 13).trans rfl
  have d14 : w1.cell? ⟨nb, 14, none⟩ = some (.int .i64 x.f5.f1.f1) := (blk_cell HN1.out 14).trans rfl
  have d15 : w1.cell? ⟨nb, 15, none⟩ = some (.string x.f5.f1.f2) := (blk_cell HN1.out 15).trans rfl
  have d16 : w1.cell? ⟨nb, 16, none⟩ = some (.slice A16 x.f6.length c16) := (blk_cell HN1.out 16).trans rfl
  obtain ⟨atx, hatx⟩ : ∃ b, baL (atomL x.f1) = b := ⟨_, rfl⟩
  rw [hatx]
  have HE := Aside0.mk (show res = [] by have hk := HK.out; rw [← HRE.out]; unfold litL; rw [if_neg (fun h => hk.1 h.1), if_neg (fun h => hk.2.1 h.1), if_neg (fun h => hk.2.2.1 h.1), if_neg (fun h => hk.2.2.2.1 h.1), if_neg (fun h => hk.2.2.2.2 h.1)])
  go_wp2
  go_ret
  exact ⟨by rw [HE.out]; rfl, HB1.out⟩
set_option maxHeartbeats 8000000 in
set_option maxRecDepth 100000 in
theorem lit_show1 (x : LtS) (A2 : Option Addr) (c2 : Nat) (A16 : Option Addr) (c16 : Nat) (j : Int) (w : World) (hLW : LaidW w) (hx : okL x) (hA2 : Kd.C k60 w A2 x.f1.f1.length x.f1.f1) (hA16 : Kd.C k69 w A16 x.f6.length x.f6) (hk : x.f0 = 1) :
    Calls Tryz.prog 44 #[.int .i64 j, .agg (litC x A2 c2 A16 c16)] w fun e w' => e = .returned (.string (baL (litL x))) ∧ Below w.heap.size w w' := by
  obtain ⟨nb, enb⟩ : ∃ n, w.heap.size = n := ⟨_, rfl⟩
  obtain ⟨W, hW⟩ : ∃ W, w.alloc (.cells (litC x A2 c2 A16 c16) 62) = W := ⟨_, rfl⟩
  have hBW : Below w.heap.size w W := hW ▸ below_alloc (Below.refl w.heap.size w) (.cells (litC x A2 c2 A16 c16) 62)
  have hN := blk_new w (.cells (litC x A2 c2 A16 c16) 62)
  rw [enb, hW] at hN
  have HAT := Aside0.mk (atom_show x.f1 A2 c2 W (hLW.below hBW) (Kd.C_below hA2 hBW) hx.1)
  have HPA := Aside0.mk (fun (V : World) (h : Below w.heap.size w V) => path_show x.f6 A16 c16 V (hLW.below h) (Kd.C_below hA16 h) hx.2.2.2.2.1 hx.2.2.2.2.2.1)
  have HRP := Aside0.mk (fun (V : World) (h : Below w.heap.size w V) => rightPath_show x.f6 A16 c16 V (hLW.below h) (Kd.C_below hA16 h) hx.2.2.2.2.1 hx.2.2.2.2.2.1)
  have HRS := Aside0.mk (fun (n : Nat) (hn : n ≤ 3) (a o p : Bool) (hc : (a = true ∧ o = false ∧ p = false) ∨ (a = false ∧ o = true ∧ p = false) ∨ (a = false ∧ o = false ∧ p = true)) (V : World) (h : LaidW V) => rest_show x A2 c2 A16 c16 n hn a o p hc V h hx)
  have HTA := Aside0.mk (fun V (h : LaidW V) => term_show x.f3 V h hx.2.1)
  have HTB := Aside0.mk (fun V (h : LaidW V) => term_show x.f4 V h hx.2.2.1)
  have HTC := Aside0.mk (fun V (h : LaidW V) => term_show x.f5 V h hx.2.2.2.1)
  have HWD := Aside0.mk (fun V => show_word.calls x.f2 (baL (wordL x.f2.data.toList)) V (word_f x.f2))
  have hla := termL_len x.f3 hx.2.1
  have hlb := termL_len x.f4 hx.2.2.1
  have hlc := termL_len x.f5 hx.2.2.2.1
  have hlp := pathL_len x.f6
  have hlw := wordL_len x.f2.data.toList
  have hat := head_len x.f1 0 hx.1
  obtain ⟨res, hres⟩ : ∃ r, litL x = r := ⟨_, rfl⟩
  have HRE := Aside0.mk hres
  have HLW := Aside0.mk hLW
  have HBW := Aside0.mk hBW
  have HN := Aside0.mk hN
  rw [hres]
  simp only [litC] at HAT HRS HN hW ⊢
  have HW := Aside0.mk hW
  have d1 : W.cell? ⟨nb, 1, none⟩ = some (.string x.f1.f0) := (blk_cell HN.out 1).trans rfl
  have d2 : W.cell? ⟨nb, 2, none⟩ = some (.slice A2 x.f1.f1.length c2) := (blk_cell HN.out 2).trans rfl
  have k1 : (x.f0 == 1) = true := beq_iff_eq.2 hk
  have k2 : (x.f0 == 2) = false := beq_eq_false_iff_ne.2 (by omega)
  have k3 : (x.f0 == 3) = false := beq_eq_false_iff_ne.2 (by omega)
  have k4 : (x.f0 == 4) = false := beq_eq_false_iff_ne.2 (by omega)
  have k5 : (x.f0 == 5) = false := beq_eq_false_iff_ne.2 (by omega)
  have HK := Aside0.mk hk
  clear hk hLW hx hA2 hA16 hres hBW hN hla hlb hlc hlp hlw hat
  go_enter Tryz.func44, Tryz.ntmps44
  go_wp2_with fail
  refine HAT.out.mono ?_
  rintro e w1 ⟨rfl, hb⟩
  have HB1 := Aside0.mk (below_then HBW.out HBW.out.size hb)
  have HN1 := Aside0.mk (blk_below HN.out hb)
  clear hb hW d1 d2 HAT enb
  have d0 : w1.cell? ⟨nb, 0, none⟩ = some (.int .i64 x.f0) := (blk_cell HN1.out 0).trans rfl
  have d1 : w1.cell? ⟨nb, 1, none⟩ = some (.string x.f1.f0) := (blk_cell HN1.out 1).trans rfl
  have d2 : w1.cell? ⟨nb, 2, none⟩ = some (.slice A2 x.f1.f1.length c2) := (blk_cell HN1.out 2).trans rfl
  have d3 : w1.cell? ⟨nb, 3, none⟩ = some (.string x.f2) := (blk_cell HN1.out 3).trans rfl
  have d4 : w1.cell? ⟨nb, 4, none⟩ = some (.string x.f3.f0) := (blk_cell HN1.out 4).trans rfl
  have d5 : w1.cell? ⟨nb, 5, none⟩ = some (.int .i64 x.f3.f1.f0) := (blk_cell HN1.out 5).trans rfl
  have d6 : w1.cell? ⟨nb, 6, none⟩ = some (.int .i64 x.f3.f1.f1) := (blk_cell HN1.out 6).trans rfl
  have d7 : w1.cell? ⟨nb, 7, none⟩ = some (.string x.f3.f1.f2) := (blk_cell HN1.out 7).trans rfl
  have d8 : w1.cell? ⟨nb, 8, none⟩ = some (.string x.f4.f0) := (blk_cell HN1.out 8).trans rfl
  have d9 : w1.cell? ⟨nb, 9, none⟩ = some (.int .i64 x.f4.f1.f0) := (blk_cell HN1.out 9).trans rfl
  have d10 : w1.cell? ⟨nb, 10, none⟩ = some (.int .i64 x.f4.f1.f1) := (blk_cell HN1.out 10).trans rfl
  have d11 : w1.cell? ⟨nb, 11, none⟩ = some (.string x.f4.f1.f2) := (blk_cell HN1.out 11).trans rfl
  have d12 : w1.cell? ⟨nb, 12, none⟩ = some (.string x.f5.f0) := (blk_cell HN1.out 12).trans rfl
  have d13 : w1.cell? ⟨nb, 13, none⟩ = some (.int .i64 x.f5.f1.f0) := (blk_cell HN1.out 13).trans rfl
  have d14 : w1.cell? ⟨nb, 14, none⟩ = some (.int .i64 x.f5.f1.f1) := (blk_cell HN1.out 14).trans rfl
  have d15 : w1.cell? ⟨nb, 15, none⟩ = some (.string x.f5.f1.f2) := (blk_cell HN1.out 15).trans rfl
  have d16 : w1.cell? ⟨nb, 16, none⟩ = some (.slice A16 x.f6.length c16) := (blk_cell HN1.out 16).trans rfl
  obtain ⟨atx, hatx⟩ : ∃ b, baL (atomL x.f1) = b := ⟨_, rfl⟩
  rw [hatx]
  go_wp2_with fail
  refine (HRS.out 0 (by decide) true false false (by decide) _ (HLW.out.below HB1.out)).mono ?_
  rintro e w2 ⟨rfl, hb⟩
  have HB2 := Aside0.mk (below_then HB1.out HB1.out.size hb)
  have HN2 := Aside0.mk (blk_below HN1.out hb)
  clear hb d0 d1 d2 d3 d4 d5 d6 d7 d8 d9 d10 d11 d12 d13 d14 d15 d16
  have d0 : w2.cell? ⟨nb, 0, none⟩ = some (.int .i64 x.f0) := (blk_cell HN2.out 0).trans rfl
  have d3 : w2.cell? ⟨nb, 3, none⟩ = some (.string x.f2) := (blk_cell HN2.out 3).trans rfl
  have d4 : w2.cell? ⟨nb, 4, none⟩ = some (.string x.f3.f0) := (blk_cell HN2.out 4).trans rfl
  have d16 : w2.cell? ⟨nb, 16, none⟩ = some (.slice A16 x.f6.length c16) := (blk_cell HN2.out 16).trans rfl
  obtain ⟨rr, hrr⟩ : ∃ b, restB x 0 true false false = b := ⟨_, rfl⟩
  rw [hrr]
  cases rr with
  | false =>
    have HE := Aside0.mk (show res = [] by have hk := HK.out; rw [← HRE.out]; unfold litL; rw [if_neg (fun h => by rw [hrr] at h; cases h.2), if_neg (fun h => absurd (hk.symm.trans h.1) (by decide)), if_neg (fun h => absurd (hk.symm.trans h.1) (by decide)), if_neg (fun h => absurd (hk.symm.trans h.1) (by decide)), if_neg (fun h => absurd (hk.symm.trans h.1) (by decide))])
    clear hrr
    go_wp2
    go_ret
    exact ⟨by rw [HE.out]; rfl, HB2.out⟩
  | true =>
    have HE := Aside0.mk (show res = atomL x.f1 by rw [← HRE.out]; unfold litL; rw [if_pos ⟨HK.out, hrr⟩])
    have HAX := Aside0.mk hatx
    clear hrr hatx
    go_wp2
    go_ret
    exact ⟨by rw [HE.out, HAX.out]; rfl, HB2.out⟩
set_option maxHeartbeats 8000000 in
set_option maxRecDepth 100000 in
theorem lit_show2 (x : LtS) (A2 : Option Addr) (c2 : Nat) (A16 : Option Addr) (c16 : Nat) (j : Int) (w : World) (hLW : LaidW w) (hx : okL x) (hA2 : Kd.C k60 w A2 x.f1.f1.length x.f1.f1) (hA16 : Kd.C k69 w A16 x.f6.length x.f6) (hk : x.f0 = 2) :
    Calls Tryz.prog 44 #[.int .i64 j, .agg (litC x A2 c2 A16 c16)] w fun e w' => e = .returned (.string (baL (litL x))) ∧ Below w.heap.size w w' := by
  obtain ⟨nb, enb⟩ : ∃ n, w.heap.size = n := ⟨_, rfl⟩
  obtain ⟨W, hW⟩ : ∃ W, w.alloc (.cells (litC x A2 c2 A16 c16) 62) = W := ⟨_, rfl⟩
  have hBW : Below w.heap.size w W := hW ▸ below_alloc (Below.refl w.heap.size w) (.cells (litC x A2 c2 A16 c16) 62)
  have hN := blk_new w (.cells (litC x A2 c2 A16 c16) 62)
  rw [enb, hW] at hN
  have HAT := Aside0.mk (atom_show x.f1 A2 c2 W (hLW.below hBW) (Kd.C_below hA2 hBW) hx.1)
  have HPA := Aside0.mk (fun (V : World) (h : Below w.heap.size w V) => path_show x.f6 A16 c16 V (hLW.below h) (Kd.C_below hA16 h) hx.2.2.2.2.1 hx.2.2.2.2.2.1)
  have HRP := Aside0.mk (fun (V : World) (h : Below w.heap.size w V) => rightPath_show x.f6 A16 c16 V (hLW.below h) (Kd.C_below hA16 h) hx.2.2.2.2.1 hx.2.2.2.2.2.1)
  have HRS := Aside0.mk (fun (n : Nat) (hn : n ≤ 3) (a o p : Bool) (hc : (a = true ∧ o = false ∧ p = false) ∨ (a = false ∧ o = true ∧ p = false) ∨ (a = false ∧ o = false ∧ p = true)) (V : World) (h : LaidW V) => rest_show x A2 c2 A16 c16 n hn a o p hc V h hx)
  have HTA := Aside0.mk (fun V (h : LaidW V) => term_show x.f3 V h hx.2.1)
  have HTB := Aside0.mk (fun V (h : LaidW V) => term_show x.f4 V h hx.2.2.1)
  have HTC := Aside0.mk (fun V (h : LaidW V) => term_show x.f5 V h hx.2.2.2.1)
  have HWD := Aside0.mk (fun V => show_word.calls x.f2 (baL (wordL x.f2.data.toList)) V (word_f x.f2))
  have hla := termL_len x.f3 hx.2.1
  have hlb := termL_len x.f4 hx.2.2.1
  have hlc := termL_len x.f5 hx.2.2.2.1
  have hlp := pathL_len x.f6
  have hlw := wordL_len x.f2.data.toList
  have hat := head_len x.f1 0 hx.1
  obtain ⟨res, hres⟩ : ∃ r, litL x = r := ⟨_, rfl⟩
  have HRE := Aside0.mk hres
  have HLW := Aside0.mk hLW
  have HBW := Aside0.mk hBW
  have HN := Aside0.mk hN
  rw [hres]
  simp only [litC] at HAT HRS HN hW ⊢
  have HW := Aside0.mk hW
  have d1 : W.cell? ⟨nb, 1, none⟩ = some (.string x.f1.f0) := (blk_cell HN.out 1).trans rfl
  have d2 : W.cell? ⟨nb, 2, none⟩ = some (.slice A2 x.f1.f1.length c2) := (blk_cell HN.out 2).trans rfl
  have k1 : (x.f0 == 1) = false := beq_eq_false_iff_ne.2 (by omega)
  have k2 : (x.f0 == 2) = true := beq_iff_eq.2 hk
  have k3 : (x.f0 == 3) = false := beq_eq_false_iff_ne.2 (by omega)
  have k4 : (x.f0 == 4) = false := beq_eq_false_iff_ne.2 (by omega)
  have k5 : (x.f0 == 5) = false := beq_eq_false_iff_ne.2 (by omega)
  have HAL := Aside0.mk hat
  have HK := Aside0.mk hk
  clear hk hLW hx hA2 hA16 hres hBW hN hla hlb hlc hlp hlw hat
  go_enter Tryz.func44, Tryz.ntmps44
  go_wp2_with fail
  refine HAT.out.mono ?_
  rintro e w1 ⟨rfl, hb⟩
  have HB1 := Aside0.mk (below_then HBW.out HBW.out.size hb)
  have HN1 := Aside0.mk (blk_below HN.out hb)
  clear hb hW d1 d2 HAT enb
  have d0 : w1.cell? ⟨nb, 0, none⟩ = some (.int .i64 x.f0) := (blk_cell HN1.out 0).trans rfl
  have d1 : w1.cell? ⟨nb, 1, none⟩ = some (.string x.f1.f0) := (blk_cell HN1.out 1).trans rfl
  have d2 : w1.cell? ⟨nb, 2, none⟩ = some (.slice A2 x.f1.f1.length c2) := (blk_cell HN1.out 2).trans rfl
  have d3 : w1.cell? ⟨nb, 3, none⟩ = some (.string x.f2) := (blk_cell HN1.out 3).trans rfl
  have d4 : w1.cell? ⟨nb, 4, none⟩ = some (.string x.f3.f0) := (blk_cell HN1.out 4).trans rfl
  have d5 : w1.cell? ⟨nb, 5, none⟩ = some (.int .i64 x.f3.f1.f0) := (blk_cell HN1.out 5).trans rfl
  have d6 : w1.cell? ⟨nb, 6, none⟩ = some (.int .i64 x.f3.f1.f1) := (blk_cell HN1.out 6).trans rfl
  have d7 : w1.cell? ⟨nb, 7, none⟩ = some (.string x.f3.f1.f2) := (blk_cell HN1.out 7).trans rfl
  have d8 : w1.cell? ⟨nb, 8, none⟩ = some (.string x.f4.f0) := (blk_cell HN1.out 8).trans rfl
  have d9 : w1.cell? ⟨nb, 9, none⟩ = some (.int .i64 x.f4.f1.f0) := (blk_cell HN1.out 9).trans rfl
  have d10 : w1.cell? ⟨nb, 10, none⟩ = some (.int .i64 x.f4.f1.f1) := (blk_cell HN1.out 10).trans rfl
  have d11 : w1.cell? ⟨nb, 11, none⟩ = some (.string x.f4.f1.f2) := (blk_cell HN1.out 11).trans rfl
  have d12 : w1.cell? ⟨nb, 12, none⟩ = some (.string x.f5.f0) := (blk_cell HN1.out 12).trans rfl
  have d13 : w1.cell? ⟨nb, 13, none⟩ = some (.int .i64 x.f5.f1.f0) := (blk_cell HN1.out 13).trans rfl
  have d14 : w1.cell? ⟨nb, 14, none⟩ = some (.int .i64 x.f5.f1.f1) := (blk_cell HN1.out 14).trans rfl
  have d15 : w1.cell? ⟨nb, 15, none⟩ = some (.string x.f5.f1.f2) := (blk_cell HN1.out 15).trans rfl
  have d16 : w1.cell? ⟨nb, 16, none⟩ = some (.slice A16 x.f6.length c16) := (blk_cell HN1.out 16).trans rfl
  obtain ⟨atx, hatx⟩ : ∃ b, baL (atomL x.f1) = b := ⟨_, rfl⟩
  rw [hatx]
  go_wp2_with fail
  refine (HRS.out 0 (by decide) true false false (by decide) _ (HLW.out.below HB1.out)).mono ?_
  rintro e w2 ⟨rfl, hb⟩
  have HB2 := Aside0.mk (below_then HB1.out HB1.out.size hb)
  have HN2 := Aside0.mk (blk_below HN1.out hb)
  clear hb d0 d1 d2 d3 d4 d5 d6 d7 d8 d9 d10 d11 d12 d13 d14 d15 d16
  have d0 : w2.cell? ⟨nb, 0, none⟩ = some (.int .i64 x.f0) := (blk_cell HN2.out 0).trans rfl
  have d3 : w2.cell? ⟨nb, 3, none⟩ = some (.string x.f2) := (blk_cell HN2.out 3).trans rfl
  have d4 : w2.cell? ⟨nb, 4, none⟩ = some (.string x.f3.f0) := (blk_cell HN2.out 4).trans rfl
  have d16 : w2.cell? ⟨nb, 16, none⟩ = some (.slice A16 x.f6.length c16) := (blk_cell HN2.out 16).trans rfl
  obtain ⟨rr, hrr⟩ : ∃ b, restB x 0 true false false = b := ⟨_, rfl⟩
  rw [hrr]
  cases rr with
  | false =>
    have HE := Aside0.mk (show res = [] by have hk := HK.out; rw [← HRE.out]; unfold litL; rw [if_neg (fun h => absurd (hk.symm.trans h.1) (by decide)), if_neg (fun h => by rw [hrr] at h; cases h.2.1), if_neg (fun h => absurd (hk.symm.trans h.1) (by decide)), if_neg (fun h => absurd (hk.symm.trans h.1) (by decide)), if_neg (fun h => absurd (hk.symm.trans h.1) (by decide))])
    clear hrr
    go_wp2
    go_ret
    exact ⟨by rw [HE.out]; rfl, HB2.out⟩
  | true =>
    by_cases hae : atomL x.f1 = []
    · obtain ⟨e1, e2, e3, e4⟩ := emp_t hatx hae
      have HE := Aside0.mk (show res = [] by have hk := HK.out; rw [← HRE.out]; unfold litL; rw [if_neg (fun h => absurd (hk.symm.trans h.1) (by decide)), if_neg (fun h => h.2.2 hae), if_neg (fun h => absurd (hk.symm.trans h.1) (by decide)), if_neg (fun h => absurd (hk.symm.trans h.1) (by decide)), if_neg (fun h => absurd (hk.symm.trans h.1) (by decide))])
      clear hrr hae hatx
      go_wp2
      go_ret
      exact ⟨by rw [HE.out]; rfl, HB2.out⟩
    · obtain ⟨e1, e2, e3, e4⟩ := emp_f hatx hae
      have HE := Aside0.mk (show res = [110, 111, 116, 32] ++ atomL x.f1 by have hk := HK.out; rw [← HRE.out]; unfold litL; rw [if_neg (fun h => absurd (hk.symm.trans h.1) (by decide)), if_pos ⟨HK.out, hrr, hae⟩])
      have hsz : atx.size ≤ 200000 := by rw [← hatx, baL_size]; exact HAL.out
      have HAX := Aside0.mk hatx
      have kq : (9223372036854775807 < 4 + atx.size) = False := eq_false (by omega)
      clear hrr hae hatx
      go_wp2
      go_ret
      exact ⟨by rw [HE.out, ← HAX.out]; exact ret_str (ba_eq (by simp)), HB2.out⟩
end Go.Proofs.YthebhbomlllpeaaGreatDoor.X
namespace Go.Proofs.YthebhbomlllpeaaGreatDoor.X
set_option linter.unusedVariables false
set_option linter.unusedSimpArgs false
open Go.RowKit Go.Proofs.YthebhbomlllpeaaGreatDoorW.PrintWords Go.Proofs.YthebhbomlllpeaaGreatDoorW.PrintLast Go.Proofs.YthebhbomlllpeaaGreatDoorW.PrintMore
attribute [local go_sem ↓] Go.wp_at_zero Go.wp_at_succ
def lit7.T : Bool × List (List Nat × List Nat) := (true, [([], []), ([0], [0]), ([1], [1]), ([2], [2]), ([], []), ([4], [4]), ([3, 5], [3, 5]), ([6], [6]), ([], []), ([8], [8]), ([9, 2], [9]), ([7, 10], [7, 10]), ([11, 10, 0, 1, 2, 3, 4, 5, 6, 7, 8, 9, 10, 11], [11])])
def lit7.B : List Nat := [0, 1, 3, 7, 0, 16, 63, 127, 0, 256, 775, 2047, 4095]
theorem lit7.tab : rtab .any (opsOf Tryz.f44 7) = lit7.T := by kernel_rfl
theorem lit7.bits : waitsOk lit7.T.2 lit7.B = true := by kernel_rfl
set_option maxHeartbeats 8000000 in
set_option maxRecDepth 100000 in
theorem lit_show3 (x : LtS) (A2 : Option Addr) (c2 : Nat) (A16 : Option Addr) (c16 : Nat) (j : Int) (w : World) (hLW : LaidW w) (hx : okL x) (hA2 : Kd.C k60 w A2 x.f1.f1.length x.f1.f1) (hA16 : Kd.C k69 w A16 x.f6.length x.f6) (hk : x.f0 = 3) :
    Calls Tryz.prog 44 #[.int .i64 j, .agg (litC x A2 c2 A16 c16)] w fun e w' => e = .returned (.string (baL (litL x))) ∧ Below w.heap.size w w' := by
  obtain ⟨nb, enb⟩ : ∃ n, w.heap.size = n := ⟨_, rfl⟩
  obtain ⟨W, hW⟩ : ∃ W, w.alloc (.cells (litC x A2 c2 A16 c16) 62) = W := ⟨_, rfl⟩
  have hBW : Below w.heap.size w W := hW ▸ below_alloc (Below.refl w.heap.size w) (.cells (litC x A2 c2 A16 c16) 62)
  have hN := blk_new w (.cells (litC x A2 c2 A16 c16) 62)
  rw [enb, hW] at hN
  have HAT := Aside0.mk (atom_show x.f1 A2 c2 W (hLW.below hBW) (Kd.C_below hA2 hBW) hx.1)
  have HPA := Aside0.mk (fun (V : World) (h : Below w.heap.size w V) => path_show x.f6 A16 c16 V (hLW.below h) (Kd.C_below hA16 h) hx.2.2.2.2.1 hx.2.2.2.2.2.1)
  have HRP := Aside0.mk (fun (V : World) (h : Below w.heap.size w V) => rightPath_show x.f6 A16 c16 V (hLW.below h) (Kd.C_below hA16 h) hx.2.2.2.2.1 hx.2.2.2.2.2.1)
  have HRS := Aside0.mk (fun (n : Nat) (hn : n ≤ 3) (a o p : Bool) (hc : (a = true ∧ o = false ∧ p = false) ∨ (a = false ∧ o = true ∧ p = false) ∨ (a = false ∧ o = false ∧ p = true)) (V : World) (h : LaidW V) => rest_show x A2 c2 A16 c16 n hn a o p hc V h hx)
  have HTA := Aside0.mk (fun V (h : LaidW V) => term_show x.f3 V h hx.2.1)
  have HTB := Aside0.mk (fun V (h : LaidW V) => term_show x.f4 V h hx.2.2.1)
  have HTC := Aside0.mk (fun V (h : LaidW V) => term_show x.f5 V h hx.2.2.2.1)
  have HWD := Aside0.mk (fun V => show_word.calls x.f2 (baL (wordL x.f2.data.toList)) V (word_f x.f2))
  have hla := termL_len x.f3 hx.2.1
  have hlb := termL_len x.f4 hx.2.2.1
  have hlc := termL_len x.f5 hx.2.2.2.1
  have hlp := pathL_len x.f6
  have hlw := wordL_len x.f2.data.toList
  have hat := head_len x.f1 0 hx.1
  obtain ⟨res, hres⟩ : ∃ r, litL x = r := ⟨_, rfl⟩
  have HRE := Aside0.mk hres
  have HLW := Aside0.mk hLW
  have HBW := Aside0.mk hBW
  have HN := Aside0.mk hN
  rw [hres]
  simp only [litC] at HAT HRS HN hW ⊢
  have HW := Aside0.mk hW
  have d1 : W.cell? ⟨nb, 1, none⟩ = some (.string x.f1.f0) := (blk_cell HN.out 1).trans rfl
  have d2 : W.cell? ⟨nb, 2, none⟩ = some (.slice A2 x.f1.f1.length c2) := (blk_cell HN.out 2).trans rfl
  have k1 : (x.f0 == 1) = false := beq_eq_false_iff_ne.2 (by omega)
  have k2 : (x.f0 == 2) = false := beq_eq_false_iff_ne.2 (by omega)
  have k3 : (x.f0 == 3) = true := beq_iff_eq.2 hk
  have k4 : (x.f0 == 4) = false := beq_eq_false_iff_ne.2 (by omega)
  have k5 : (x.f0 == 5) = false := beq_eq_false_iff_ne.2 (by omega)
  have HLN := Aside0.mk (And.intro hla (And.intro hlb (And.intro hlc (And.intro hlp hlw))))
  have HK := Aside0.mk hk
  clear hk hLW hx hA2 hA16 hres hBW hN hla hlb hlc hlp hlw hat
  go_enter Tryz.func44, Tryz.ntmps44
  go_wp2_with fail
  refine HAT.out.mono ?_
  rintro e w1 ⟨rfl, hb⟩
  have HB1 := Aside0.mk (below_then HBW.out HBW.out.size hb)
  have HN1 := Aside0.mk (blk_below HN.out hb)
  clear hb hW d1 d2 HAT enb
  have d0 : w1.cell? ⟨nb, 0, none⟩ = some (.int .i64 x.f0) := (blk_cell HN1.out 0).trans rfl
  have d1 : w1.cell? ⟨nb, 1, none⟩ = some (.string x.f1.f0) := (blk_cell HN1.out 1).trans rfl
  have d2 : w1.cell? ⟨nb, 2, none⟩ = some (.slice A2 x.f1.f1.length c2) := (blk_cell HN1.out 2).trans rfl
  have d3 : w1.cell? ⟨nb, 3, none⟩ = some (.string x.f2) := (blk_cell HN1.out 3).trans rfl
  have d4 : w1.cell? ⟨nb, 4, none⟩ = some (.string x.f3.f0) := (blk_cell HN1.out 4).trans rfl
  have d5 : w1.cell? ⟨nb, 5, none⟩ = some (.int .i64 x.f3.f1.f0) := (blk_cell HN1.out 5).trans rfl
  have d6 : w1.cell? ⟨nb, 6, none⟩ = some (.int .i64 x.f3.f1.f1) := (blk_cell HN1.out 6).trans rfl
  have d7 : w1.cell? ⟨nb, 7, none⟩ = some (.string x.f3.f1.f2) := (blk_cell HN1.out 7).trans rfl
  have d8 : w1.cell? ⟨nb, 8, none⟩ = some (.string x.f4.f0) := (blk_cell HN1.out 8).trans rfl
  have d9 : w1.cell? ⟨nb, 9, none⟩ = some (.int .i64 x.f4.f1.f0) := (blk_cell HN1.out 9).trans rfl
  have d10 : w1.cell? ⟨nb, 10, none⟩ = some (.int .i64 x.f4.f1.f1) := (blk_cell HN1.out 10).trans rfl
  have d11 : w1.cell? ⟨nb, 11, none⟩ = some (.string x.f4.f1.f2) := (blk_cell HN1.out 11).trans rfl
  have d12 : w1.cell? ⟨nb, 12, none⟩ = some (.string x.f5.f0) := (blk_cell HN1.out 12).trans rfl
  have d13 : w1.cell? ⟨nb, 13, none⟩ = some (.int .i64 x.f5.f1.f0) := (blk_cell HN1.out 13).trans rfl
  have d14 : w1.cell? ⟨nb, 14, none⟩ = some (.int .i64 x.f5.f1.f1) := (blk_cell HN1.out 14).trans rfl
  have d15 : w1.cell? ⟨nb, 15, none⟩ = some (.string x.f5.f1.f2) := (blk_cell HN1.out 15).trans rfl
  have d16 : w1.cell? ⟨nb, 16, none⟩ = some (.slice A16 x.f6.length c16) := (blk_cell HN1.out 16).trans rfl
  obtain ⟨atx, hatx⟩ : ∃ b, baL (atomL x.f1) = b := ⟨_, rfl⟩
  rw [hatx]
  obtain ⟨cnd, hcn⟩ : ∃ b, (restB x 2 false true false && compB x.f2.data.toList) = b := ⟨_, rfl⟩
  have HCN0 := Aside0.mk hcn
  have HCN := Aside0.mk hcn
  clear hcn hatx
  go_upto_region 6 with (fail)
  go_cut [32] (fun v32 wc => v32 = .bool cnd ∧ Aside0 (wc.heap[nb]? = some (.cells #[.int .i64 x.f0, .string x.f1.f0, .slice A2 x.f1.f1.length c2, .string x.f2, .string x.f3.f0, .int .i64 x.f3.f1.f0, .int .i64 x.f3.f1.f1, .string x.f3.f1.f2, .string x.f4.f0, .int .i64 x.f4.f1.f0, .int .i64 x.f4.f1.f1, .string x.f4.f1.f2, .string x.f5.f0, .int .i64 x.f5.f1.f0, .int .i64 x.f5.f1.f1, .string x.f5.f1.f2, .slice A16 x.f6.length c16] 62 (0, 0))) ∧ Aside0 (Below w.heap.size w wc))
  case first =>
    go_wp2_with fail
    refine (HRS.out 2 (by decide) false true false (by decide) _ (HLW.out.below HB1.out)).mono ?_
    rintro e w2 ⟨rfl, hb⟩
    have HB2 := Aside0.mk (below_then HB1.out HB1.out.size hb)
    have HN2 := Aside0.mk (blk_below HN1.out hb)
    clear hb d0 d1 d2 d3 d4 d5 d6 d7 d8 d9 d10 d11 d12 d13 d14 d15 d16
    have d0 : w2.cell? ⟨nb, 0, none⟩ = some (.int .i64 x.f0) := (blk_cell HN2.out 0).trans rfl
    have d3 : w2.cell? ⟨nb, 3, none⟩ = some (.string x.f2) := (blk_cell HN2.out 3).trans rfl
    have d4 : w2.cell? ⟨nb, 4, none⟩ = some (.string x.f3.f0) := (blk_cell HN2.out 4).trans rfl
    have d16 : w2.cell? ⟨nb, 16, none⟩ = some (.slice A16 x.f6.length c16) := (blk_cell HN2.out 16).trans rfl
    obtain ⟨rr, hrr⟩ : ∃ b, restB x 2 false true false = b := ⟨_, rfl⟩
    rw [hrr] at HCN ⊢
    clear hrr
    cases rr with
    | false =>
      have HC2 := Aside0.mk (show cnd = false by rw [← HCN.out]; rfl)
      go_wp2
      go_meet
      case rel => exact ⟨by first | (rw [HC2.out]; done) | (rw [HC2.out]; rfl), HN2, HB2⟩
    | true =>
      obtain ⟨t1, ht1⟩ : ∃ b, (x.f2.data.toList == ([60] : List UInt8)) = b := ⟨_, rfl⟩
      obtain ⟨t2, ht2⟩ : ∃ b, (x.f2.data.toList == ([60, 61] : List UInt8)) = b := ⟨_, rfl⟩
      obtain ⟨t3, ht3⟩ : ∃ b, (x.f2.data.toList == ([61] : List UInt8)) = b := ⟨_, rfl⟩
      obtain ⟨t4, ht4⟩ : ∃ b, (x.f2.data.toList == ([33, 61] : List UInt8)) = b := ⟨_, rfl⟩
      have HC3 := Aside0.mk (show (t1 || (t2 || (t3 || t4))) = cnd by rw [← ht1, ← ht2, ← ht3, ← ht4]; exact HCN.out)
      have g1 : (x.f2.toList == ([60] : List UInt8)) = t1 := by rw [toList_iff]; exact ht1
      have g2 : (x.f2.toList == ([60, 61] : List UInt8)) = t2 := by rw [toList_iff]; exact ht2
      have g3 : (x.f2.toList == ([61] : List UInt8)) = t3 := by rw [toList_iff]; exact ht3
      have g4 : (x.f2.toList == ([33, 61] : List UInt8)) = t4 := by rw [toList_iff]; exact ht4
      clear ht1 ht2 ht3 ht4
      cases t1 with
      | true =>
        go_wp2
        go_meet
        case rel => exact ⟨by first | (rw [← HC3.out]; done) | (rw [← HC3.out]; rfl), HN2, HB2⟩
      | false =>
        cases t2 with
        | true =>
          go_wp2
          go_meet
          case rel => exact ⟨by first | (rw [← HC3.out]; done) | (rw [← HC3.out]; rfl), HN2, HB2⟩
        | false =>
          cases t3 with
          | true =>
            go_wp2
            go_meet
            case rel => exact ⟨by first | (rw [← HC3.out]; done) | (rw [← HC3.out]; rfl), HN2, HB2⟩
          | false =>
            cases t4
            all_goals
              go_wp2
              go_meet
              case rel => exact ⟨by first | (rw [← HC3.out]; done) | (rw [← HC3.out]; rfl), HN2, HB2⟩
  case rest =>
    clear HCN HB1 HN1 d0 d1 d2 d3 d4 d5 d6 d7 d8 d9 d10 d11 d12 d13 d14 d15 d16
    obtain ⟨rfl, HN2, HB2⟩ := hcut
    have d0 : wc.cell? ⟨nb, 0, none⟩ = some (.int .i64 x.f0) := (blk_cell HN2.out 0).trans rfl
    cases cnd with
    | false =>
      have HE := Aside0.mk (show res = [] by have hk := HK.out; have hc := HCN0.out; rw [← HRE.out]; unfold litL; rw [if_neg (fun h => absurd (hk.symm.trans h.1) (by decide)), if_neg (fun h => absurd (hk.symm.trans h.1) (by decide)), if_neg (fun h => by rw [h.2.1, h.2.2] at hc; cases hc), if_neg (fun h => absurd (hk.symm.trans h.1) (by decide)), if_neg (fun h => absurd (hk.symm.trans h.1) (by decide))])
      clear HCN0
      go_wp2
      go_ret
      exact ⟨by rw [HE.out]; rfl, HB2.out⟩
    | true =>
      have HE := Aside0.mk (show res = termL x.f3 ++ ([32] ++ (x.f2.data.toList ++ ([32] ++ termL x.f4))) by have hk := HK.out; have hc := HCN0.out; rw [← HRE.out]; unfold litL; rw [if_neg (fun h => absurd (hk.symm.trans h.1) (by decide)), if_neg (fun h => absurd (hk.symm.trans h.1) (by decide)), if_pos (⟨hk, (Bool.and_eq_true_iff.1 hc).1, (Bool.and_eq_true_iff.1 hc).2⟩)])
      have hop := compB_len (Bool.and_eq_true_iff.1 HCN0.out).2
      rw [data_length] at hop
      obtain ⟨la, laE⟩ : ∃ b, baL (termL x.f3) = b := ⟨_, rfl⟩
      have laS : la.size ≤ 40 := by rw [← laE, baL_size]; exact HLN.out.1
      rw [laE] at HTA
      have laH := Aside0.mk laE
      clear laE
      obtain ⟨lb, lbE⟩ : ∃ b, baL (termL x.f4) = b := ⟨_, rfl⟩
      have lbS : lb.size ≤ 40 := by rw [← lbE, baL_size]; exact HLN.out.2.1
      rw [lbE] at HTB
      have lbH := Aside0.mk lbE
      clear lbE
      have kq0 : (9223372036854775807 < la.size + 1) = False := eq_false (by omega)
      have kq1 : (9223372036854775807 < la.size + 1 + x.f2.size) = False := eq_false (by omega)
      have kq2 : (9223372036854775807 < la.size + 1 + x.f2.size + 1) = False := eq_false (by omega)
      have kq3 : (9223372036854775807 < la.size + 1 + x.f2.size + 1 + lb.size) = False := eq_false (by omega)
      have HNV := Aside0.mk (blk_drew HN2.out)
      clear HCN0 d0
      go_wp2
      have HBV := Aside0.mk (below_drew1 HB2.out)
      obtain ⟨V0, hV0⟩ : ∃ V, wc = V := ⟨_, rfl⟩
      rw [hV0] at HBV HNV ⊢
      clear hV0 HB2 HN2
      refine start_ (n := 13) (S := fun w' => w'.heap[nb]? = some (.cells #[.int .i64 x.f0, .string x.f1.f0, .slice A2 x.f1.f1.length c2, .string x.f2, .string x.f3.f0, .int .i64 x.f3.f1.f0, .int .i64 x.f3.f1.f1, .string x.f3.f1.f2, .string x.f4.f0, .int .i64 x.f4.f1.f0, .int .i64 x.f4.f1.f1, .string x.f4.f1.f2, .string x.f5.f0, .int .i64 x.f5.f1.f0, .int .i64 x.f5.f1.f1, .string x.f5.f1.f2, .slice A16 x.f6.length c16] 62 (0, 0))) (ds := []) #[false, false, false, false, false, false, false, false, false, false, false, false, false] (by kernel_rfl) rfl rfl (HNV.out) (fun hHeld => ?_); refine with_tabW lit7.tab lit7.bits (fun HT_ HW_ => ?_)
      generalize V0.drew = V at HBV hHeld ⊢
      refine pure_ (i := 0) (N := some 60) (v := ?_) (a' := ?_) #[true, false, false, false, false, false, false, false, false, false, false, false, false] rfl rfl (any_of HT_.out (by kernel_rfl)) (fun _ _ _ h => h) (Or.inl ⟨by rfl, ?_⟩) ?_ ?_
      rotate_left
      · intro w'
        go_simp
        with_reducible rfl
      rotate_left
      · simp only [Act.put, List.setIfInBounds_toArray, List.set_cons_zero, List.set_cons_succ, i64_w, i32_w]
        rfl
      refine take_ (i := 1) (N := some 61) (v := ?_) (a' := ?_) #[true, true, false, false, false, false, false, false, false, false, false, false, false] rfl rfl (take_ofW HT_.out HW_.out (by kernel_rfl)) (fun _ _ _ h => h) (Or.inl ⟨by rfl, ?_⟩) hHeld ?_ ?_
      rotate_left
      · intro w' s1
        have f4 : w'.cell? ⟨nb, 4, none⟩ = some (.string x.f3.f0) := (blk_cell s1 4).trans rfl
        have f5 : w'.cell? ⟨nb, 5, none⟩ = some (.int .i64 x.f3.f1.f0) := (blk_cell s1 5).trans rfl
        have f6 : w'.cell? ⟨nb, 6, none⟩ = some (.int .i64 x.f3.f1.f1) := (blk_cell s1 6).trans rfl
        have f7 : w'.cell? ⟨nb, 7, none⟩ = some (.string x.f3.f1.f2) := (blk_cell s1 7).trans rfl
        clear s1
        go_simp
        with_reducible rfl
      rotate_left
      · simp only [Act.put, List.setIfInBounds_toArray, List.set_cons_zero, List.set_cons_succ, i64_w, i32_w]
        rfl
      refine pure_ (i := 4) (N := some 64) (v := ?_) (a' := ?_) #[true, true, false, false, true, false, false, false, false, false, false, false, false] rfl rfl (any_of HT_.out (by kernel_rfl)) (fun _ _ _ h => h) (Or.inl ⟨by rfl, ?_⟩) ?_ ?_
      rotate_left
      · intro w'
        go_simp
        with_reducible rfl
      rotate_left
      · simp only [Act.put, List.setIfInBounds_toArray, List.set_cons_zero, List.set_cons_succ, i64_w, i32_w]
        rfl
      refine take_ (i := 5) (N := some 65) (v := ?_) (a' := ?_) #[true, true, false, false, true, true, false, false, false, false, false, false, false] rfl rfl (take_ofW HT_.out HW_.out (by kernel_rfl)) (fun _ _ _ h => h) (Or.inl ⟨by rfl, ?_⟩) hHeld ?_ ?_
      rotate_left
      · intro w' s1
        have f3 : w'.cell? ⟨nb, 3, none⟩ = some (.string x.f2) := (blk_cell s1 3).trans rfl
        clear s1
        go_simp
        with_reducible rfl
      rotate_left
      · simp only [Act.put, List.setIfInBounds_toArray, List.set_cons_zero, List.set_cons_succ, i64_w, i32_w]
        rfl
      refine pure_ (i := 8) (N := some 68) (v := ?_) (a' := ?_) #[true, true, false, false, true, true, false, false, true, false, false, false, false] rfl rfl (any_of HT_.out (by kernel_rfl)) (fun _ _ _ h => h) (Or.inl ⟨by rfl, ?_⟩) ?_ ?_
      rotate_left
      · intro w'
        go_simp
        with_reducible rfl
      rotate_left
      · simp only [Act.put, List.setIfInBounds_toArray, List.set_cons_zero, List.set_cons_succ, i64_w, i32_w]
        rfl
      refine take_ (i := 9) (N := some 69) (v := ?_) (a' := ?_) #[true, true, false, false, true, true, false, false, true, true, false, false, false] rfl rfl (take_ofW HT_.out HW_.out (by kernel_rfl)) (fun _ _ _ h => h) (Or.inl ⟨by rfl, ?_⟩) hHeld ?_ ?_
      rotate_left
      · intro w' s1
        have f8 : w'.cell? ⟨nb, 8, none⟩ = some (.string x.f4.f0) := (blk_cell s1 8).trans rfl
        have f9 : w'.cell? ⟨nb, 9, none⟩ = some (.int .i64 x.f4.f1.f0) := (blk_cell s1 9).trans rfl
        have f10 : w'.cell? ⟨nb, 10, none⟩ = some (.int .i64 x.f4.f1.f1) := (blk_cell s1 10).trans rfl
        have f11 : w'.cell? ⟨nb, 11, none⟩ = some (.string x.f4.f1.f2) := (blk_cell s1 11).trans rfl
        clear s1
        go_simp
        with_reducible rfl
      rotate_left
      · simp only [Act.put, List.setIfInBounds_toArray, List.set_cons_zero, List.set_cons_succ, i64_w, i32_w]
        rfl
      refine one_ (i := 2) (N := some 62) #[true, true, true, false, true, true, false, false, true, true, false, false, false] rfl rfl (one_of HT_.out (by kernel_rfl)) (by decide) (fun K hK => ?_)
      refine goes_ Tryz.func70 (by kernel_rfl) rfl #[.agg #[.string x.f3.f0, .int .i64 x.f3.f1.f0, .int .i64 x.f3.f1.f1, .string x.f3.f1.f2]] (by rfl) rfl rfl (by (try simp only [List.map_toArray, List.map_cons, List.map_nil]); first | done | rfl) ?_
      refine (HTA.out _ (HLW.out.below HBV.out)).mono ?_
      rintro e V2 ⟨rfl, hb⟩
      refine ⟨_, rfl, ?_⟩
      replace HBV := Aside0.mk (below_then HBV.out HBV.out.size hb)
      replace hHeld := blk_below hHeld hb
      clear hb
      refine hK.out _ _ (hHeld) (fun hHeld => ?_)
      clear hK K
      refine norm_ (a' := ?_) ?_ ?_
      rotate_left
      · show Act.put _ (some 62) _ = _
        simp only [Act.put, List.setIfInBounds_toArray, List.set_cons_zero, List.set_cons_succ, i64_w, i32_w]
        rfl
      refine pure_ (i := 3) (N := some 63) (v := ?_) (a' := ?_) #[true, true, true, true, true, true, false, false, true, true, false, false, false] rfl rfl (any_of HT_.out (by kernel_rfl)) (fun _ _ _ h => h) (Or.inl ⟨by rfl, ?_⟩) ?_ ?_
      rotate_left
      · intro w'
        go_simp
        with_reducible rfl
      rotate_left
      · simp only [Act.put, List.setIfInBounds_toArray, List.set_cons_zero, List.set_cons_succ, i64_w, i32_w]
        rfl
      refine pure_ (i := 6) (N := some 66) (v := ?_) (a' := ?_) #[true, true, true, true, true, true, true, false, true, true, false, false, false] rfl rfl (any_of HT_.out (by kernel_rfl)) (fun _ _ _ h => h) (Or.inl ⟨by rfl, ?_⟩) ?_ ?_
      rotate_left
      · intro w'
        go_simp
        with_reducible rfl
      rotate_left
      · simp only [Act.put, List.setIfInBounds_toArray, List.set_cons_zero, List.set_cons_succ, i64_w, i32_w]
        rfl
      refine pure_ (i := 7) (N := some 67) (v := ?_) (a' := ?_) #[true, true, true, true, true, true, true, true, true, true, false, false, false] rfl rfl (any_of HT_.out (by kernel_rfl)) (fun _ _ _ h => h) (Or.inl ⟨by rfl, ?_⟩) ?_ ?_
      rotate_left
      · intro w'
        go_simp
        with_reducible rfl
      rotate_left
      · simp only [Act.put, List.setIfInBounds_toArray, List.set_cons_zero, List.set_cons_succ, i64_w, i32_w]
        rfl
      refine one_ (i := 10) (N := some 70) #[true, true, true, true, true, true, true, true, true, true, true, false, false] rfl rfl (one_of HT_.out (by kernel_rfl)) (by decide) (fun K hK => ?_)
      refine goes_ Tryz.func70 (by kernel_rfl) rfl #[.agg #[.string x.f4.f0, .int .i64 x.f4.f1.f0, .int .i64 x.f4.f1.f1, .string x.f4.f1.f2]] (by rfl) rfl rfl (by (try simp only [List.map_toArray, List.map_cons, List.map_nil]); first | done | rfl) ?_
      refine (HTB.out _ (HLW.out.below HBV.out)).mono ?_
      rintro e V2 ⟨rfl, hb⟩
      refine ⟨_, rfl, ?_⟩
      replace HBV := Aside0.mk (below_then HBV.out HBV.out.size hb)
      replace hHeld := blk_below hHeld hb
      clear hb
      refine hK.out _ _ (hHeld) (fun hHeld => ?_)
      clear hK K
      refine norm_ (a' := ?_) ?_ ?_
      rotate_left
      · show Act.put _ (some 70) _ = _
        simp only [Act.put, List.setIfInBounds_toArray, List.set_cons_zero, List.set_cons_succ, i64_w, i32_w]
        rfl
      refine pure_ (i := 11) (N := some 71) (v := ?_) (a' := ?_) #[true, true, true, true, true, true, true, true, true, true, true, true, false] rfl rfl (any_of HT_.out (by kernel_rfl)) (fun _ _ _ h => h) (Or.inl ⟨by rfl, ?_⟩) ?_ ?_
      rotate_left
      · intro w'
        go_simp
        with_reducible rfl
      rotate_left
      · simp only [Act.put, List.setIfInBounds_toArray, List.set_cons_zero, List.set_cons_succ, i64_w, i32_w]
        rfl
      refine pure_ (i := 12) (N := some 4) (v := ?_) (a' := ?_) #[true, true, true, true, true, true, true, true, true, true, true, true, true] rfl rfl (any_of HT_.out (by kernel_rfl)) (fun _ _ _ h => h) (Or.inl ⟨by rfl, ?_⟩) ?_ ?_
      rotate_left
      · intro w'
        go_simp
        with_reducible rfl
      rotate_left
      · simp only [Act.put, List.setIfInBounds_toArray, List.set_cons_zero, List.set_cons_succ, i64_w, i32_w]
        rfl
      refine done_ (done_of HT_.out (by kernel_rfl)) ?_
      go_wp2
      go_ret
      exact ⟨by rw [HE.out, ← laH.out, ← lbH.out]; exact ret_str (ba_eq (by simp)), HBV.out⟩
end Go.Proofs.YthebhbomlllpeaaGreatDoor.X
namespace Go.Proofs.YthebhbomlllpeaaGreatDoor.X
set_option linter.unusedVariables false
set_option linter.unusedSimpArgs false
open Go.RowKit Go.Proofs.YthebhbomlllpeaaGreatDoorW.PrintWords Go.Proofs.YthebhbomlllpeaaGreatDoorW.PrintLast Go.Proofs.YthebhbomlllpeaaGreatDoorW.PrintMore
attribute [local go_sem ↓] Go.wp_at_zero Go.wp_at_succ
def lit9.T : Bool × List (List Nat × List Nat) := (true, [([], []), ([0], [0]), ([1], [1]), ([2], [2]), ([], []), ([4], [4]), ([5, 2], [5]), ([3, 6], [3, 6]), ([], []), ([8], [8]), ([9, 6], [9]), ([7, 10], [7, 10]), ([], []), ([12], [12]), ([13, 10], [13]), ([11, 14], [11, 14]), ([15, 14, 0, 1, 2, 3, 4, 5, 6, 7, 8, 9, 10, 11, 12, 13, 14, 15], [15])])
def lit9.B : List Nat := [0, 1, 3, 7, 0, 16, 55, 127, 0, 256, 887, 2047, 0, 4096, 14199, 32767, 65535]
theorem lit9.tab : rtab .any (opsOf Tryz.f44 9) = lit9.T := by kernel_rfl
theorem lit9.bits : waitsOk lit9.T.2 lit9.B = true := by kernel_rfl
set_option maxHeartbeats 8000000 in
set_option maxRecDepth 100000 in
theorem lit_show4 (x : LtS) (A2 : Option Addr) (c2 : Nat) (A16 : Option Addr) (c16 : Nat) (j : Int) (w : World) (hLW : LaidW w) (hx : okL x) (hA2 : Kd.C k60 w A2 x.f1.f1.length x.f1.f1) (hA16 : Kd.C k69 w A16 x.f6.length x.f6) (hk : x.f0 = 4) :
    Calls Tryz.prog 44 #[.int .i64 j, .agg (litC x A2 c2 A16 c16)] w fun e w' => e = .returned (.string (baL (litL x))) ∧ Below w.heap.size w w' := by
  obtain ⟨nb, enb⟩ : ∃ n, w.heap.size = n := ⟨_, rfl⟩
  obtain ⟨W, hW⟩ : ∃ W, w.alloc (.cells (litC x A2 c2 A16 c16) 62) = W := ⟨_, rfl⟩
  have hBW : Below w.heap.size w W := hW ▸ below_alloc (Below.refl w.heap.size w) (.cells (litC x A2 c2 A16 c16) 62)
  have hN := blk_new w (.cells (litC x A2 c2 A16 c16) 62)
  rw [enb, hW] at hN
  have HAT := Aside0.mk (atom_show x.f1 A2 c2 W (hLW.below hBW) (Kd.C_below hA2 hBW) hx.1)
  have HPA := Aside0.mk (fun (V : World) (h : Below w.heap.size w V) => path_show x.f6 A16 c16 V (hLW.below h) (Kd.C_below hA16 h) hx.2.2.2.2.1 hx.2.2.2.2.2.1)
  have HRP := Aside0.mk (fun (V : World) (h : Below w.heap.size w V) => rightPath_show x.f6 A16 c16 V (hLW.below h) (Kd.C_below hA16 h) hx.2.2.2.2.1 hx.2.2.2.2.2.1)
  have HRS := Aside0.mk (fun (n : Nat) (hn : n ≤ 3) (a o p : Bool) (hc : (a = true ∧ o = false ∧ p = false) ∨ (a = false ∧ o = true ∧ p = false) ∨ (a = false ∧ o = false ∧ p = true)) (V : World) (h : LaidW V) => rest_show x A2 c2 A16 c16 n hn a o p hc V h hx)
  have HTA := Aside0.mk (fun V (h : LaidW V) => term_show x.f3 V h hx.2.1)
  have HTB := Aside0.mk (fun V (h : LaidW V) => term_show x.f4 V h hx.2.2.1)
  have HTC := Aside0.mk (fun V (h : LaidW V) => term_show x.f5 V h hx.2.2.2.1)
  have HWD := Aside0.mk (fun V => show_word.calls x.f2 (baL (wordL x.f2.data.toList)) V (word_f x.f2))
  have hla := termL_len x.f3 hx.2.1
  have hlb := termL_len x.f4 hx.2.2.1
  have hlc := termL_len x.f5 hx.2.2.2.1
  have hlp := pathL_len x.f6
  have hlw := wordL_len x.f2.data.toList
  have hat := head_len x.f1 0 hx.1
  obtain ⟨res, hres⟩ : ∃ r, litL x = r := ⟨_, rfl⟩
  have HRE := Aside0.mk hres
  have HLW := Aside0.mk hLW
  have HBW := Aside0.mk hBW
  have HN := Aside0.mk hN
  rw [hres]
  simp only [litC] at HAT HRS HN hW ⊢
  have HW := Aside0.mk hW
  have d1 : W.cell? ⟨nb, 1, none⟩ = some (.string x.f1.f0) := (blk_cell HN.out 1).trans rfl
  have d2 : W.cell? ⟨nb, 2, none⟩ = some (.slice A2 x.f1.f1.length c2) := (blk_cell HN.out 2).trans rfl
  have k1 : (x.f0 == 1) = false := beq_eq_false_iff_ne.2 (by omega)
  have k2 : (x.f0 == 2) = false := beq_eq_false_iff_ne.2 (by omega)
  have k3 : (x.f0 == 3) = false := beq_eq_false_iff_ne.2 (by omega)
  have k4 : (x.f0 == 4) = true := beq_iff_eq.2 hk
  have k5 : (x.f0 == 5) = false := beq_eq_false_iff_ne.2 (by omega)
  have HLN := Aside0.mk (And.intro hla (And.intro hlb (And.intro hlc (And.intro hlp hlw))))
  have HK := Aside0.mk hk
  clear hk hLW hx hA2 hA16 hres hBW hN hla hlb hlc hlp hlw hat
  go_enter Tryz.func44, Tryz.ntmps44
  go_wp2_with fail
  refine HAT.out.mono ?_
  rintro e w1 ⟨rfl, hb⟩
  have HB1 := Aside0.mk (below_then HBW.out HBW.out.size hb)
  have HN1 := Aside0.mk (blk_below HN.out hb)
  clear hb hW d1 d2 HAT enb
  have d0 : w1.cell? ⟨nb, 0, none⟩ = some (.int .i64 x.f0) := (blk_cell HN1.out 0).trans rfl
  have d1 : w1.cell? ⟨nb, 1, none⟩ = some (.string x.f1.f0) := (blk_cell HN1.out 1).trans rfl
  have d2 : w1.cell? ⟨nb, 2, none⟩ = some (.slice A2 x.f1.f1.length c2) := (blk_cell HN1.out 2).trans rfl
  have d3 : w1.cell? ⟨nb, 3, none⟩ = some (.string x.f2) := (blk_cell HN1.out 3).trans rfl
  have d4 : w1.cell? ⟨nb, 4, none⟩ = some (.string x.f3.f0) := (blk_cell HN1.out 4).trans rfl
  have d5 : w1.cell? ⟨nb, 5, none⟩ = some (.int .i64 x.f3.f1.f0) := (blk_cell HN1.out 5).trans rfl
  have d6 : w1.cell? ⟨nb, 6, none⟩ = some (.int .i64 x.f3.f1.f1) := (blk_cell HN1.out 6).trans rfl
  have d7 : w1.cell? ⟨nb, 7, none⟩ = some (.string x.f3.f1.f2) := (blk_cell HN1.out 7).trans rfl
  have d8 : w1.cell? ⟨nb, 8, none⟩ = some (.string x.f4.f0) := (blk_cell HN1.out 8).trans rfl
  have d9 : w1.cell? ⟨nb, 9, none⟩ = some (.int .i64 x.f4.f1.f0) := (blk_cell HN1.out 9).trans rfl
  have d10 : w1.cell? ⟨nb, 10, none⟩ = some (.int .i64 x.f4.f1.f1) := (blk_cell HN1.out 10).trans rfl
  have d11 : w1.cell? ⟨nb, 11, none⟩ = some (.string x.f4.f1.f2) := (blk_cell HN1.out 11).trans rfl
  have d12 : w1.cell? ⟨nb, 12, none⟩ = some (.string x.f5.f0) := (blk_cell HN1.out 12).trans rfl
  have d13 : w1.cell? ⟨nb, 13, none⟩ = some (.int .i64 x.f5.f1.f0) := (blk_cell HN1.out 13).trans rfl
  have d14 : w1.cell? ⟨nb, 14, none⟩ = some (.int .i64 x.f5.f1.f1) := (blk_cell HN1.out 14).trans rfl
  have d15 : w1.cell? ⟨nb, 15, none⟩ = some (.string x.f5.f1.f2) := (blk_cell HN1.out 15).trans rfl
  have d16 : w1.cell? ⟨nb, 16, none⟩ = some (.slice A16 x.f6.length c16) := (blk_cell HN1.out 16).trans rfl
  obtain ⟨atx, hatx⟩ : ∃ b, baL (atomL x.f1) = b := ⟨_, rfl⟩
  rw [hatx]
  obtain ⟨cnd, hcn⟩ : ∃ b, (restB x 3 false true false && (!(x.f3.f0.data.toList).isEmpty && !(wordL x.f2.data.toList).isEmpty)) = b := ⟨_, rfl⟩
  have HCN0 := Aside0.mk hcn
  have HCN := Aside0.mk hcn
  clear hcn hatx
  go_upto_region 8 with (fail)
  go_cut [72] (fun v72 wc => v72 = .bool cnd ∧ Aside0 (wc.heap[nb]? = some (.cells #[.int .i64 x.f0, .string x.f1.f0, .slice A2 x.f1.f1.length c2, .string x.f2, .string x.f3.f0, .int .i64 x.f3.f1.f0, .int .i64 x.f3.f1.f1, .string x.f3.f1.f2, .string x.f4.f0, .int .i64 x.f4.f1.f0, .int .i64 x.f4.f1.f1, .string x.f4.f1.f2, .string x.f5.f0, .int .i64 x.f5.f1.f0, .int .i64 x.f5.f1.f1, .string x.f5.f1.f2, .slice A16 x.f6.length c16] 62 (0, 0))) ∧ Aside0 (Below w.heap.size w wc))
  case first =>
    go_wp2_with fail
    refine (HRS.out 3 (by decide) false true false (by decide) _ (HLW.out.below HB1.out)).mono ?_
    rintro e w2 ⟨rfl, hb⟩
    have HB2 := Aside0.mk (below_then HB1.out HB1.out.size hb)
    have HN2 := Aside0.mk (blk_below HN1.out hb)
    clear hb d0 d1 d2 d3 d4 d5 d6 d7 d8 d9 d10 d11 d12 d13 d14 d15 d16
    have d0 : w2.cell? ⟨nb, 0, none⟩ = some (.int .i64 x.f0) := (blk_cell HN2.out 0).trans rfl
    have d3 : w2.cell? ⟨nb, 3, none⟩ = some (.string x.f2) := (blk_cell HN2.out 3).trans rfl
    have d4 : w2.cell? ⟨nb, 4, none⟩ = some (.string x.f3.f0) := (blk_cell HN2.out 4).trans rfl
    have d16 : w2.cell? ⟨nb, 16, none⟩ = some (.slice A16 x.f6.length c16) := (blk_cell HN2.out 16).trans rfl
    obtain ⟨rr, hrr⟩ : ∃ b, restB x 3 false true false = b := ⟨_, rfl⟩
    rw [hrr] at HCN ⊢
    clear hrr
    cases rr with
    | false =>
      have HC2 := Aside0.mk (show cnd = false by rw [← HCN.out]; rfl)
      go_wp2
      go_meet
      case rel => exact ⟨by first | (rw [HC2.out]; done) | (rw [HC2.out]; rfl), HN2, HB2⟩
    | true =>
      by_cases hv0 : x.f3.f0.data.toList = []
      · have e5 : (x.f3.f0.toList == ([] : List UInt8)) = true := by rw [beq_iff_eq, toList_iff]; exact hv0
        have e6 : (x.f3.f0.toList == (⟨#[]⟩ : ByteArray).toList) = true := by rw [nil_bytes]; exact e5
        have e7 : (x.f3.f0.toList != ([] : List UInt8)) = false := by rw [bne, e5]; rfl
        have e8 : (x.f3.f0.toList != (⟨#[]⟩ : ByteArray).toList) = false := by rw [bne, e6]; rfl
        have HC3 := Aside0.mk (show cnd = false by rw [← HCN.out, hv0]; rfl)
        clear hv0
        go_wp2
        go_meet
        case rel => exact ⟨by first | (rw [HC3.out]; done) | (rw [HC3.out]; rfl), HN2, HB2⟩
      · have e5 : (x.f3.f0.toList == ([] : List UInt8)) = false := by rw [beq_eq_false_iff_ne, toList_iff]; exact hv0
        have e6 : (x.f3.f0.toList == (⟨#[]⟩ : ByteArray).toList) = false := by rw [nil_bytes]; exact e5
        have e7 : (x.f3.f0.toList != ([] : List UInt8)) = true := by rw [bne, e5]; rfl
        have e8 : (x.f3.f0.toList != (⟨#[]⟩ : ByteArray).toList) = true := by rw [bne, e6]; rfl
        have HC3 := Aside0.mk (show cnd = !(wordL x.f2.data.toList).isEmpty by rw [← HCN.out, neB hv0]; rfl)
        clear hv0
        go_wp2_with fail
        refine (HWD.out _).mono ?_
        rintro e w3 ⟨rfl, nd, rfl⟩
        have HN3 := Aside0.mk (blk_drewN HN2.out nd)
        have HB3 := Aside0.mk (pw_below_drewN HB2.out nd)
        obtain ⟨wd, hwd⟩ : ∃ b, baL (wordL x.f2.data.toList) = b := ⟨_, rfl⟩
        rw [hwd]
        by_cases hw0 : wordL x.f2.data.toList = []
        · obtain ⟨e11, e12, e13, e14⟩ := emp_t hwd hw0
          have HC4 := Aside0.mk (show cnd = false by rw [HC3.out, hw0]; rfl)
          clear hwd hw0
          go_wp2
          go_meet
          case rel => exact ⟨by first | (rw [HC4.out]; done) | (rw [HC4.out]; rfl), HN3, HB3⟩
        · obtain ⟨e11, e12, e13, e14⟩ := emp_f hwd hw0
          have HC4 := Aside0.mk (show cnd = true by rw [HC3.out, neB hw0])
          clear hwd hw0
          go_wp2
          go_meet
          case rel => exact ⟨by first | (rw [HC4.out]; done) | (rw [HC4.out]; rfl), HN3, HB3⟩
  case rest =>
    clear HCN HB1 HN1 d0 d1 d2 d3 d4 d5 d6 d7 d8 d9 d10 d11 d12 d13 d14 d15 d16
    obtain ⟨rfl, HN2, HB2⟩ := hcut
    have d0 : wc.cell? ⟨nb, 0, none⟩ = some (.int .i64 x.f0) := (blk_cell HN2.out 0).trans rfl
    cases cnd with
    | false =>
      have HE := Aside0.mk (show res = [] by have hk := HK.out; have hc := HCN0.out; rw [← HRE.out]; unfold litL; rw [if_neg (fun h => absurd (hk.symm.trans h.1) (by decide)), if_neg (fun h => absurd (hk.symm.trans h.1) (by decide)), if_neg (fun h => absurd (hk.symm.trans h.1) (by decide)), if_neg (fun h => by rw [h.2.1, neB h.2.2.1, neB h.2.2.2] at hc; cases hc), if_neg (fun h => absurd (hk.symm.trans h.1) (by decide))])
      clear HCN0
      go_wp2
      go_ret
      exact ⟨by rw [HE.out]; rfl, HB2.out⟩
    | true =>
      have HE := Aside0.mk (show res = termL x.f3 ++ ([32, 105, 115, 32] ++ (termL x.f4 ++ (wordL x.f2.data.toList ++ termL x.f5))) by have hk := HK.out; have hc := HCN0.out; rw [← HRE.out]; unfold litL; rw [if_neg (fun h => absurd (hk.symm.trans h.1) (by decide)), if_neg (fun h => absurd (hk.symm.trans h.1) (by decide)), if_neg (fun h => absurd (hk.symm.trans h.1) (by decide)), if_pos (⟨hk, (Bool.and_eq_true_iff.1 hc).1, neB_of (Bool.and_eq_true_iff.1 (Bool.and_eq_true_iff.1 hc).2).1, neB_of (Bool.and_eq_true_iff.1 (Bool.and_eq_true_iff.1 hc).2).2⟩)])
      obtain ⟨la, laE⟩ : ∃ b, baL (termL x.f3) = b := ⟨_, rfl⟩
      have laS : la.size ≤ 40 := by rw [← laE, baL_size]; exact HLN.out.1
      rw [laE] at HTA
      have laH := Aside0.mk laE
      clear laE
      obtain ⟨lb, lbE⟩ : ∃ b, baL (termL x.f4) = b := ⟨_, rfl⟩
      have lbS : lb.size ≤ 40 := by rw [← lbE, baL_size]; exact HLN.out.2.1
      rw [lbE] at HTB
      have lbH := Aside0.mk lbE
      clear lbE
      obtain ⟨lc, lcE⟩ : ∃ b, baL (termL x.f5) = b := ⟨_, rfl⟩
      have lcS : lc.size ≤ 40 := by rw [← lcE, baL_size]; exact HLN.out.2.2.1
      rw [lcE] at HTC
      have lcH := Aside0.mk lcE
      clear lcE
      obtain ⟨wd, wdE⟩ : ∃ b, baL (wordL x.f2.data.toList) = b := ⟨_, rfl⟩
      have wdS : wd.size ≤ 7 := by rw [← wdE, baL_size]; exact HLN.out.2.2.2.2
      rw [wdE] at HWD
      have wdH := Aside0.mk wdE
      clear wdE
      have kq0 : (9223372036854775807 < la.size + 4) = False := eq_false (by omega)
      have kq1 : (9223372036854775807 < la.size + 4 + lb.size) = False := eq_false (by omega)
      have kq2 : (9223372036854775807 < la.size + 4 + lb.size + wd.size) = False := eq_false (by omega)
      have kq3 : (9223372036854775807 < la.size + 4 + lb.size + wd.size + lc.size) = False := eq_false (by omega)
      have HNV := Aside0.mk (blk_drew HN2.out)
      clear HCN0 d0
      go_wp2
      have HBV := Aside0.mk (below_drew1 HB2.out)
      obtain ⟨V0, hV0⟩ : ∃ V, wc = V := ⟨_, rfl⟩
      rw [hV0] at HBV HNV ⊢
      clear hV0 HB2 HN2
      refine start_ (n := 17) (S := fun w' => w'.heap[nb]? = some (.cells #[.int .i64 x.f0, .string x.f1.f0, .slice A2 x.f1.f1.length c2, .string x.f2, .string x.f3.f0, .int .i64 x.f3.f1.f0, .int .i64 x.f3.f1.f1, .string x.f3.f1.f2, .string x.f4.f0, .int .i64 x.f4.f1.f0, .int .i64 x.f4.f1.f1, .string x.f4.f1.f2, .string x.f5.f0, .int .i64 x.f5.f1.f0, .int .i64 x.f5.f1.f1, .string x.f5.f1.f2, .slice A16 x.f6.length c16] 62 (0, 0))) (ds := []) #[false, false, false, false, false, false, false, false, false, false, false, false, false, false, false, false, false] (by kernel_rfl) rfl rfl (HNV.out) (fun hHeld => ?_); refine with_tabW lit9.tab lit9.bits (fun HT_ HW_ => ?_)
      generalize V0.drew = V at HBV hHeld ⊢
      refine pure_ (i := 0) (N := some 92) (v := ?_) (a' := ?_) #[true, false, false, false, false, false, false, false, false, false, false, false, false, false, false, false, false] rfl rfl (any_of HT_.out (by kernel_rfl)) (fun _ _ _ h => h) (Or.inl ⟨by rfl, ?_⟩) ?_ ?_
      rotate_left
      · intro w'
        go_simp
        with_reducible rfl
      rotate_left
      · simp only [Act.put, List.setIfInBounds_toArray, List.set_cons_zero, List.set_cons_succ, i64_w, i32_w]
        rfl
      refine take_ (i := 1) (N := some 93) (v := ?_) (a' := ?_) #[true, true, false, false, false, false, false, false, false, false, false, false, false, false, false, false, false] rfl rfl (take_ofW HT_.out HW_.out (by kernel_rfl)) (fun _ _ _ h => h) (Or.inl ⟨by rfl, ?_⟩) hHeld ?_ ?_
      rotate_left
      · intro w' s1
        have f4 : w'.cell? ⟨nb, 4, none⟩ = some (.string x.f3.f0) := (blk_cell s1 4).trans rfl
        have f5 : w'.cell? ⟨nb, 5, none⟩ = some (.int .i64 x.f3.f1.f0) := (blk_cell s1 5).trans rfl
        have f6 : w'.cell? ⟨nb, 6, none⟩ = some (.int .i64 x.f3.f1.f1) := (blk_cell s1 6).trans rfl
        have f7 : w'.cell? ⟨nb, 7, none⟩ = some (.string x.f3.f1.f2) := (blk_cell s1 7).trans rfl
        clear s1
        go_simp
        with_reducible rfl
      rotate_left
      · simp only [Act.put, List.setIfInBounds_toArray, List.set_cons_zero, List.set_cons_succ, i64_w, i32_w]
        rfl
      refine pure_ (i := 4) (N := some 96) (v := ?_) (a' := ?_) #[true, true, false, false, true, false, false, false, false, false, false, false, false, false, false, false, false] rfl rfl (any_of HT_.out (by kernel_rfl)) (fun _ _ _ h => h) (Or.inl ⟨by rfl, ?_⟩) ?_ ?_
      rotate_left
      · intro w'
        go_simp
        with_reducible rfl
      rotate_left
      · simp only [Act.put, List.setIfInBounds_toArray, List.set_cons_zero, List.set_cons_succ, i64_w, i32_w]
        rfl
      refine take_ (i := 5) (N := some 97) (v := ?_) (a' := ?_) #[true, true, false, false, true, true, false, false, false, false, false, false, false, false, false, false, false] rfl rfl (take_ofW HT_.out HW_.out (by kernel_rfl)) (fun _ _ _ h => h) (Or.inl ⟨by rfl, ?_⟩) hHeld ?_ ?_
      rotate_left
      · intro w' s1
        have f8 : w'.cell? ⟨nb, 8, none⟩ = some (.string x.f4.f0) := (blk_cell s1 8).trans rfl
        have f9 : w'.cell? ⟨nb, 9, none⟩ = some (.int .i64 x.f4.f1.f0) := (blk_cell s1 9).trans rfl
        have f10 : w'.cell? ⟨nb, 10, none⟩ = some (.int .i64 x.f4.f1.f1) := (blk_cell s1 10).trans rfl
        have f11 : w'.cell? ⟨nb, 11, none⟩ = some (.string x.f4.f1.f2) := (blk_cell s1 11).trans rfl
        clear s1
        go_simp
        with_reducible rfl
      rotate_left
      · simp only [Act.put, List.setIfInBounds_toArray, List.set_cons_zero, List.set_cons_succ, i64_w, i32_w]
        rfl
      refine pure_ (i := 8) (N := some 100) (v := ?_) (a' := ?_) #[true, true, false, false, true, true, false, false, true, false, false, false, false, false, false, false, false] rfl rfl (any_of HT_.out (by kernel_rfl)) (fun _ _ _ h => h) (Or.inl ⟨by rfl, ?_⟩) ?_ ?_
      rotate_left
      · intro w'
        go_simp
        with_reducible rfl
      rotate_left
      · simp only [Act.put, List.setIfInBounds_toArray, List.set_cons_zero, List.set_cons_succ, i64_w, i32_w]
        rfl
      refine take_ (i := 9) (N := some 101) (v := ?_) (a' := ?_) #[true, true, false, false, true, true, false, false, true, true, false, false, false, false, false, false, false] rfl rfl (take_ofW HT_.out HW_.out (by kernel_rfl)) (fun _ _ _ h => h) (Or.inl ⟨by rfl, ?_⟩) hHeld ?_ ?_
      rotate_left
      · intro w' s1
        have f3 : w'.cell? ⟨nb, 3, none⟩ = some (.string x.f2) := (blk_cell s1 3).trans rfl
        clear s1
        go_simp
        with_reducible rfl
      rotate_left
      · simp only [Act.put, List.setIfInBounds_toArray, List.set_cons_zero, List.set_cons_succ, i64_w, i32_w]
        rfl
      refine pure_ (i := 12) (N := some 104) (v := ?_) (a' := ?_) #[true, true, false, false, true, true, false, false, true, true, false, false, true, false, false, false, false] rfl rfl (any_of HT_.out (by kernel_rfl)) (fun _ _ _ h => h) (Or.inl ⟨by rfl, ?_⟩) ?_ ?_
      rotate_left
      · intro w'
        go_simp
        with_reducible rfl
      rotate_left
      · simp only [Act.put, List.setIfInBounds_toArray, List.set_cons_zero, List.set_cons_succ, i64_w, i32_w]
        rfl
      refine take_ (i := 13) (N := some 105) (v := ?_) (a' := ?_) #[true, true, false, false, true, true, false, false, true, true, false, false, true, true, false, false, false] rfl rfl (take_ofW HT_.out HW_.out (by kernel_rfl)) (fun _ _ _ h => h) (Or.inl ⟨by rfl, ?_⟩) hHeld ?_ ?_
      rotate_left
      · intro w' s1
        have f12 : w'.cell? ⟨nb, 12, none⟩ = some (.string x.f5.f0) := (blk_cell s1 12).trans rfl
        have f13 : w'.cell? ⟨nb, 13, none⟩ = some (.int .i64 x.f5.f1.f0) := (blk_cell s1 13).trans rfl
        have f14 : w'.cell? ⟨nb, 14, none⟩ = some (.int .i64 x.f5.f1.f1) := (blk_cell s1 14).trans rfl
        have f15 : w'.cell? ⟨nb, 15, none⟩ = some (.string x.f5.f1.f2) := (blk_cell s1 15).trans rfl
        clear s1
        go_simp
        with_reducible rfl
      rotate_left
      · simp only [Act.put, List.setIfInBounds_toArray, List.set_cons_zero, List.set_cons_succ, i64_w, i32_w]
        rfl
      refine one_ (i := 2) (N := some 94) #[true, true, true, false, true, true, false, false, true, true, false, false, true, true, false, false, false] rfl rfl (one_of HT_.out (by kernel_rfl)) (by decide) (fun K hK => ?_)
      refine goes_ Tryz.func70 (by kernel_rfl) rfl #[.agg #[.string x.f3.f0, .int .i64 x.f3.f1.f0, .int .i64 x.f3.f1.f1, .string x.f3.f1.f2]] (by rfl) rfl rfl (by (try simp only [List.map_toArray, List.map_cons, List.map_nil]); first | done | rfl) ?_
      refine (HTA.out _ (HLW.out.below HBV.out)).mono ?_
      rintro e V2 ⟨rfl, hb⟩
      refine ⟨_, rfl, ?_⟩
      replace HBV := Aside0.mk (below_then HBV.out HBV.out.size hb)
      replace hHeld := blk_below hHeld hb
      clear hb
      refine hK.out _ _ (hHeld) (fun hHeld => ?_)
      clear hK K
      refine norm_ (a' := ?_) ?_ ?_
      rotate_left
      · show Act.put _ (some 94) _ = _
        simp only [Act.put, List.setIfInBounds_toArray, List.set_cons_zero, List.set_cons_succ, i64_w, i32_w]
        rfl
      refine pure_ (i := 3) (N := some 95) (v := ?_) (a' := ?_) #[true, true, true, true, true, true, false, false, true, true, false, false, true, true, false, false, false] rfl rfl (any_of HT_.out (by kernel_rfl)) (fun _ _ _ h => h) (Or.inl ⟨by rfl, ?_⟩) ?_ ?_
      rotate_left
      · intro w'
        go_simp
        with_reducible rfl
      rotate_left
      · simp only [Act.put, List.setIfInBounds_toArray, List.set_cons_zero, List.set_cons_succ, i64_w, i32_w]
        rfl
      refine one_ (i := 6) (N := some 98) #[true, true, true, true, true, true, true, false, true, true, false, false, true, true, false, false, false] rfl rfl (one_of HT_.out (by kernel_rfl)) (by decide) (fun K hK => ?_)
      refine goes_ Tryz.func70 (by kernel_rfl) rfl #[.agg #[.string x.f4.f0, .int .i64 x.f4.f1.f0, .int .i64 x.f4.f1.f1, .string x.f4.f1.f2]] (by rfl) rfl rfl (by (try simp only [List.map_toArray, List.map_cons, List.map_nil]); first | done | rfl) ?_
      refine (HTB.out _ (HLW.out.below HBV.out)).mono ?_
      rintro e V2 ⟨rfl, hb⟩
      refine ⟨_, rfl, ?_⟩
      replace HBV := Aside0.mk (below_then HBV.out HBV.out.size hb)
      replace hHeld := blk_below hHeld hb
      clear hb
      refine hK.out _ _ (hHeld) (fun hHeld => ?_)
      clear hK K
      refine norm_ (a' := ?_) ?_ ?_
      rotate_left
      · show Act.put _ (some 98) _ = _
        simp only [Act.put, List.setIfInBounds_toArray, List.set_cons_zero, List.set_cons_succ, i64_w, i32_w]
        rfl
      refine pure_ (i := 7) (N := some 99) (v := ?_) (a' := ?_) #[true, true, true, true, true, true, true, true, true, true, false, false, true, true, false, false, false] rfl rfl (any_of HT_.out (by kernel_rfl)) (fun _ _ _ h => h) (Or.inl ⟨by rfl, ?_⟩) ?_ ?_
      rotate_left
      · intro w'
        go_simp
        with_reducible rfl
      rotate_left
      · simp only [Act.put, List.setIfInBounds_toArray, List.set_cons_zero, List.set_cons_succ, i64_w, i32_w]
        rfl
      refine one_ (i := 10) (N := some 102) #[true, true, true, true, true, true, true, true, true, true, true, false, true, true, false, false, false] rfl rfl (one_of HT_.out (by kernel_rfl)) (by decide) (fun K hK => ?_)
      refine goes_ Tryz.func75 (by kernel_rfl) rfl #[.string x.f2] (by rfl) rfl rfl (by (try simp only [List.map_toArray, List.map_cons, List.map_nil]); first | done | rfl) ?_
      refine (HWD.out _).mono ?_
      rintro e V2 ⟨rfl, nd, rfl⟩
      refine ⟨_, rfl, ?_⟩
      replace HBV := Aside0.mk (pw_below_drewN HBV.out nd)
      replace hHeld := blk_drewN hHeld nd
      refine hK.out _ _ (hHeld) (fun hHeld => ?_)
      clear hK K
      refine norm_ (a' := ?_) ?_ ?_
      rotate_left
      · show Act.put _ (some 102) _ = _
        simp only [Act.put, List.setIfInBounds_toArray, List.set_cons_zero, List.set_cons_succ, i64_w, i32_w]
        rfl
      refine pure_ (i := 11) (N := some 103) (v := ?_) (a' := ?_) #[true, true, true, true, true, true, true, true, true, true, true, true, true, true, false, false, false] rfl rfl (any_of HT_.out (by kernel_rfl)) (fun _ _ _ h => h) (Or.inl ⟨by rfl, ?_⟩) ?_ ?_
      rotate_left
      · intro w'
        go_simp
        with_reducible rfl
      rotate_left
      · simp only [Act.put, List.setIfInBounds_toArray, List.set_cons_zero, List.set_cons_succ, i64_w, i32_w]
        rfl
      refine one_ (i := 14) (N := some 106) #[true, true, true, true, true, true, true, true, true, true, true, true, true, true, true, false, false] rfl rfl (one_of HT_.out (by kernel_rfl)) (by decide) (fun K hK => ?_)
      refine goes_ Tryz.func70 (by kernel_rfl) rfl #[.agg #[.string x.f5.f0, .int .i64 x.f5.f1.f0, .int .i64 x.f5.f1.f1, .string x.f5.f1.f2]] (by rfl) rfl rfl (by (try simp only [List.map_toArray, List.map_cons, List.map_nil]); first | done | rfl) ?_
      refine (HTC.out _ (HLW.out.below HBV.out)).mono ?_
      rintro e V2 ⟨rfl, hb⟩
      refine ⟨_, rfl, ?_⟩
      replace HBV := Aside0.mk (below_then HBV.out HBV.out.size hb)
      replace hHeld := blk_below hHeld hb
      clear hb
      refine hK.out _ _ (hHeld) (fun hHeld => ?_)
      clear hK K
      refine norm_ (a' := ?_) ?_ ?_
      rotate_left
      · show Act.put _ (some 106) _ = _
        simp only [Act.put, List.setIfInBounds_toArray, List.set_cons_zero, List.set_cons_succ, i64_w, i32_w]
        rfl
      refine pure_ (i := 15) (N := some 107) (v := ?_) (a' := ?_) #[true, true, true, true, true, true, true, true, true, true, true, true, true, true, true, true, false] rfl rfl (any_of HT_.out (by kernel_rfl)) (fun _ _ _ h => h) (Or.inl ⟨by rfl, ?_⟩) ?_ ?_
      rotate_left
      · intro w'
        go_simp
        with_reducible rfl
      rotate_left
      · simp only [Act.put, List.setIfInBounds_toArray, List.set_cons_zero, List.set_cons_succ, i64_w, i32_w]
        rfl
      refine pure_ (i := 16) (N := some 4) (v := ?_) (a' := ?_) #[true, true, true, true, true, true, true, true, true, true, true, true, true, true, true, true, true] rfl rfl (any_of HT_.out (by kernel_rfl)) (fun _ _ _ h => h) (Or.inl ⟨by rfl, ?_⟩) ?_ ?_
      rotate_left
      · intro w'
        go_simp
        with_reducible rfl
      rotate_left
      · simp only [Act.put, List.setIfInBounds_toArray, List.set_cons_zero, List.set_cons_succ, i64_w, i32_w]
        rfl
      refine done_ (done_of HT_.out (by kernel_rfl)) ?_
      go_wp2
      go_ret
      exact ⟨by rw [HE.out, ← laH.out, ← lbH.out, ← lcH.out, ← wdH.out]; exact ret_str (ba_eq (by simp)), HBV.out⟩
end Go.Proofs.YthebhbomlllpeaaGreatDoor.X
namespace Go.Proofs.YthebhbomlllpeaaGreatDoor.X
set_option linter.unusedVariables false
set_option linter.unusedSimpArgs false
open Go.RowKit Go.Proofs.YthebhbomlllpeaaGreatDoorW.PrintWords Go.Proofs.YthebhbomlllpeaaGreatDoorW.PrintLast Go.Proofs.YthebhbomlllpeaaGreatDoorW.PrintMore
attribute [local go_sem ↓] Go.wp_at_zero Go.wp_at_succ
def lit11.T : Bool × List (List Nat × List Nat) := (true, [([], []), ([0], [0]), ([1], [1]), ([2], [2]), ([3], [3]), ([], []), ([5], [5]), ([6, 2], [6]), ([4, 7], [4, 7]), ([8], [8]), ([], []), ([10], [10]), ([11, 7], [11]), ([9, 12], [9, 12]), ([13], [13]), ([14, 12, 0, 1, 2, 3, 4, 5, 6, 7, 8, 9, 10, 11, 12, 13, 14], [14])])
def lit11.B : List Nat := [0, 1, 3, 7, 15, 0, 32, 103, 255, 511, 0, 1024, 3303, 8191, 16383, 32767]
theorem lit11.tab : rtab .any (opsOf Tryz.f44 11) = lit11.T := by kernel_rfl
theorem lit11.bits : waitsOk lit11.T.2 lit11.B = true := by kernel_rfl
set_option maxHeartbeats 8000000 in
set_option maxRecDepth 100000 in
theorem lit_show5 (x : LtS) (A2 : Option Addr) (c2 : Nat) (A16 : Option Addr) (c16 : Nat) (j : Int) (w : World) (hLW : LaidW w) (hx : okL x) (hA2 : Kd.C k60 w A2 x.f1.f1.length x.f1.f1) (hA16 : Kd.C k69 w A16 x.f6.length x.f6) (hk : x.f0 = 5) :
    Calls Tryz.prog 44 #[.int .i64 j, .agg (litC x A2 c2 A16 c16)] w fun e w' => e = .returned (.string (baL (litL x))) ∧ Below w.heap.size w w' := by
  obtain ⟨nb, enb⟩ : ∃ n, w.heap.size = n := ⟨_, rfl⟩
  obtain ⟨W, hW⟩ : ∃ W, w.alloc (.cells (litC x A2 c2 A16 c16) 62) = W := ⟨_, rfl⟩
  have hBW : Below w.heap.size w W := hW ▸ below_alloc (Below.refl w.heap.size w) (.cells (litC x A2 c2 A16 c16) 62)
  have hN := blk_new w (.cells (litC x A2 c2 A16 c16) 62)
  rw [enb, hW] at hN
  have HAT := Aside0.mk (atom_show x.f1 A2 c2 W (hLW.below hBW) (Kd.C_below hA2 hBW) hx.1)
  have HPA := Aside0.mk (fun (V : World) (h : Below w.heap.size w V) => path_show x.f6 A16 c16 V (hLW.below h) (Kd.C_below hA16 h) hx.2.2.2.2.1 hx.2.2.2.2.2.1)
  have HRP := Aside0.mk (fun (V : World) (h : Below w.heap.size w V) => rightPath_show x.f6 A16 c16 V (hLW.below h) (Kd.C_below hA16 h) hx.2.2.2.2.1 hx.2.2.2.2.2.1)
  have HRS := Aside0.mk (fun (n : Nat) (hn : n ≤ 3) (a o p : Bool) (hc : (a = true ∧ o = false ∧ p = false) ∨ (a = false ∧ o = true ∧ p = false) ∨ (a = false ∧ o = false ∧ p = true)) (V : World) (h : LaidW V) => rest_show x A2 c2 A16 c16 n hn a o p hc V h hx)
  have HTA := Aside0.mk (fun V (h : LaidW V) => term_show x.f3 V h hx.2.1)
  have HTB := Aside0.mk (fun V (h : LaidW V) => term_show x.f4 V h hx.2.2.1)
  have HTC := Aside0.mk (fun V (h : LaidW V) => term_show x.f5 V h hx.2.2.2.1)
  have HWD := Aside0.mk (fun V => show_word.calls x.f2 (baL (wordL x.f2.data.toList)) V (word_f x.f2))
  have hla := termL_len x.f3 hx.2.1
  have hlb := termL_len x.f4 hx.2.2.1
  have hlc := termL_len x.f5 hx.2.2.2.1
  have hlp := pathL_len x.f6
  have hlw := wordL_len x.f2.data.toList
  have hat := head_len x.f1 0 hx.1
  obtain ⟨res, hres⟩ : ∃ r, litL x = r := ⟨_, rfl⟩
  have HRE := Aside0.mk hres
  have HLW := Aside0.mk hLW
  have HBW := Aside0.mk hBW
  have HN := Aside0.mk hN
  rw [hres]
  simp only [litC] at HAT HRS HN hW ⊢
  have HW := Aside0.mk hW
  have d1 : W.cell? ⟨nb, 1, none⟩ = some (.string x.f1.f0) := (blk_cell HN.out 1).trans rfl
  have d2 : W.cell? ⟨nb, 2, none⟩ = some (.slice A2 x.f1.f1.length c2) := (blk_cell HN.out 2).trans rfl
  have k1 : (x.f0 == 1) = false := beq_eq_false_iff_ne.2 (by omega)
  have k2 : (x.f0 == 2) = false := beq_eq_false_iff_ne.2 (by omega)
  have k3 : (x.f0 == 3) = false := beq_eq_false_iff_ne.2 (by omega)
  have k4 : (x.f0 == 4) = false := beq_eq_false_iff_ne.2 (by omega)
  have k5 : (x.f0 == 5) = true := beq_iff_eq.2 hk
  have HLN := Aside0.mk (And.intro hla (And.intro hlb (And.intro hlc (And.intro hlp hlw))))
  have HK := Aside0.mk hk
  clear hk hLW hx hA2 hA16 hres hBW hN hla hlb hlc hlp hlw hat
  go_enter Tryz.func44, Tryz.ntmps44
  go_wp2_with fail
  refine HAT.out.mono ?_
  rintro e w1 ⟨rfl, hb⟩
  have HB1 := Aside0.mk (below_then HBW.out HBW.out.size hb)
  have HN1 := Aside0.mk (blk_below HN.out hb)
  clear hb hW d1 d2 HAT enb
  have d0 : w1.cell? ⟨nb, 0, none⟩ = some (.int .i64 x.f0) := (blk_cell HN1.out 0).trans rfl
  have d1 : w1.cell? ⟨nb, 1, none⟩ = some (.string x.f1.f0) := (blk_cell HN1.out 1).trans rfl
  have d2 : w1.cell? ⟨nb, 2, none⟩ = some (.slice A2 x.f1.f1.length c2) := (blk_cell HN1.out 2).trans rfl
  have d3 : w1.cell? ⟨nb, 3, none⟩ = some (.string x.f2) := (blk_cell HN1.out 3).trans rfl
  have d4 : w1.cell? ⟨nb, 4, none⟩ = some (.string x.f3.f0) := (blk_cell HN1.out 4).trans rfl
  have d5 : w1.cell? ⟨nb, 5, none⟩ = some (.int .i64 x.f3.f1.f0) := (blk_cell HN1.out 5).trans rfl
  have d6 : w1.cell? ⟨nb, 6, none⟩ = some (.int .i64 x.f3.f1.f1) := (blk_cell HN1.out 6).trans rfl
  have d7 : w1.cell? ⟨nb, 7, none⟩ = some (.string x.f3.f1.f2) := (blk_cell HN1.out 7).trans rfl
  have d8 : w1.cell? ⟨nb, 8, none⟩ = some (.string x.f4.f0) := (blk_cell HN1.out 8).trans rfl
  have d9 : w1.cell? ⟨nb, 9, none⟩ = some (.int .i64 x.f4.f1.f0) := (blk_cell HN1.out 9).trans rfl
  have d10 : w1.cell? ⟨nb, 10, none⟩ = some (.int .i64 x.f4.f1.f1) := (blk_cell HN1.out 10).trans rfl
  have d11 : w1.cell? ⟨nb, 11, none⟩ = some (.string x.f4.f1.f2) := (blk_cell HN1.out 11).trans rfl
  have d12 : w1.cell? ⟨nb, 12, none⟩ = some (.string x.f5.f0) := (blk_cell HN1.out 12).trans rfl
  have d13 : w1.cell? ⟨nb, 13, none⟩ = some (.int .i64 x.f5.f1.f0) := (blk_cell HN1.out 13).trans rfl
  have d14 : w1.cell? ⟨nb, 14, none⟩ = some (.int .i64 x.f5.f1.f1) := (blk_cell HN1.out 14).trans rfl
  have d15 : w1.cell? ⟨nb, 15, none⟩ = some (.string x.f5.f1.f2) := (blk_cell HN1.out 15).trans rfl
  have d16 : w1.cell? ⟨nb, 16, none⟩ = some (.slice A16 x.f6.length c16) := (blk_cell HN1.out 16).trans rfl
  obtain ⟨atx, hatx⟩ : ∃ b, baL (atomL x.f1) = b := ⟨_, rfl⟩
  rw [hatx]
  obtain ⟨cnd, hcn⟩ : ∃ b, (restB x 2 false false true && rpB x.f6) = b := ⟨_, rfl⟩
  have HCN0 := Aside0.mk hcn
  have HCN := Aside0.mk hcn
  clear hcn hatx
  go_upto_region 10 with (fail)
  go_cut [108] (fun v108 wc => v108 = .bool cnd ∧ Aside0 (wc.heap[nb]? = some (.cells #[.int .i64 x.f0, .string x.f1.f0, .slice A2 x.f1.f1.length c2, .string x.f2, .string x.f3.f0, .int .i64 x.f3.f1.f0, .int .i64 x.f3.f1.f1, .string x.f3.f1.f2, .string x.f4.f0, .int .i64 x.f4.f1.f0, .int .i64 x.f4.f1.f1, .string x.f4.f1.f2, .string x.f5.f0, .int .i64 x.f5.f1.f0, .int .i64 x.f5.f1.f1, .string x.f5.f1.f2, .slice A16 x.f6.length c16] 62 (0, 0))) ∧ Aside0 (Below w.heap.size w wc))
  case first =>
    go_wp2_with fail
    refine (HRS.out 2 (by decide) false false true (by decide) _ (HLW.out.below HB1.out)).mono ?_
    rintro e w2 ⟨rfl, hb⟩
    have HB2 := Aside0.mk (below_then HB1.out HB1.out.size hb)
    have HN2 := Aside0.mk (blk_below HN1.out hb)
    clear hb d0 d1 d2 d3 d4 d5 d6 d7 d8 d9 d10 d11 d12 d13 d14 d15 d16
    have d0 : w2.cell? ⟨nb, 0, none⟩ = some (.int .i64 x.f0) := (blk_cell HN2.out 0).trans rfl
    have d3 : w2.cell? ⟨nb, 3, none⟩ = some (.string x.f2) := (blk_cell HN2.out 3).trans rfl
    have d4 : w2.cell? ⟨nb, 4, none⟩ = some (.string x.f3.f0) := (blk_cell HN2.out 4).trans rfl
    have d16 : w2.cell? ⟨nb, 16, none⟩ = some (.slice A16 x.f6.length c16) := (blk_cell HN2.out 16).trans rfl
    obtain ⟨rr, hrr⟩ : ∃ b, restB x 2 false false true = b := ⟨_, rfl⟩
    rw [hrr] at HCN ⊢
    clear hrr
    cases rr with
    | false =>
      have HC2 := Aside0.mk (show cnd = false by rw [← HCN.out]; rfl)
      go_wp2
      go_meet
      case rel => exact ⟨by first | (rw [HC2.out]; done) | (rw [HC2.out]; rfl), HN2, HB2⟩
    | true =>
      go_wp2_with fail
      refine (HRP.out _ HB2.out).mono ?_
      rintro e w3 ⟨rfl, hb⟩
      have HN3 := Aside0.mk (blk_below HN2.out hb)
      have HB3 := Aside0.mk (below_then HB2.out HB2.out.size hb)
      clear hb
      obtain ⟨rp, hrp⟩ : ∃ b, rpB x.f6 = b := ⟨_, rfl⟩
      rw [hrp] at HCN ⊢
      have HC3 := Aside0.mk (show rp = cnd from HCN.out)
      clear hrp
      cases rp
      all_goals
        go_wp2
        go_meet
        case rel => exact ⟨by first | (rw [← HC3.out]; done) | (rw [← HC3.out]; rfl), HN3, HB3⟩
  case rest =>
    clear HCN HB1 HN1 d0 d1 d2 d3 d4 d5 d6 d7 d8 d9 d10 d11 d12 d13 d14 d15 d16
    obtain ⟨rfl, HN2, HB2⟩ := hcut
    have d0 : wc.cell? ⟨nb, 0, none⟩ = some (.int .i64 x.f0) := (blk_cell HN2.out 0).trans rfl
    cases cnd with
    | false =>
      have HE := Aside0.mk (show res = [] by have hk := HK.out; have hc := HCN0.out; rw [← HRE.out]; unfold litL; rw [if_neg (fun h => absurd (hk.symm.trans h.1) (by decide)), if_neg (fun h => absurd (hk.symm.trans h.1) (by decide)), if_neg (fun h => absurd (hk.symm.trans h.1) (by decide)), if_neg (fun h => absurd (hk.symm.trans h.1) (by decide)), if_neg (fun h => by rw [h.2.1, show rpB x.f6 = true from neB h.2.2] at hc; cases hc)])
      clear HCN0
      go_wp2
      go_ret
      exact ⟨by rw [HE.out]; rfl, HB2.out⟩
    | true =>
      have HE := Aside0.mk (show res = [119, 97, 108, 107, 40] ++ (termL x.f3 ++ ([44, 32] ++ (pathL x.f6 ++ ([44, 32] ++ (termL x.f4 ++ [41]))))) by have hk := HK.out; have hc := HCN0.out; rw [← HRE.out]; unfold litL; rw [if_neg (fun h => absurd (hk.symm.trans h.1) (by decide)), if_neg (fun h => absurd (hk.symm.trans h.1) (by decide)), if_neg (fun h => absurd (hk.symm.trans h.1) (by decide)), if_neg (fun h => absurd (hk.symm.trans h.1) (by decide)), if_pos (⟨hk, (Bool.and_eq_true_iff.1 hc).1, neB_of (Bool.and_eq_true_iff.1 hc).2⟩)])
      obtain ⟨la, laE⟩ : ∃ b, baL (termL x.f3) = b := ⟨_, rfl⟩
      have laS : la.size ≤ 40 := by rw [← laE, baL_size]; exact HLN.out.1
      rw [laE] at HTA
      have laH := Aside0.mk laE
      clear laE
      obtain ⟨lb, lbE⟩ : ∃ b, baL (termL x.f4) = b := ⟨_, rfl⟩
      have lbS : lb.size ≤ 40 := by rw [← lbE, baL_size]; exact HLN.out.2.1
      rw [lbE] at HTB
      have lbH := Aside0.mk lbE
      clear lbE
      obtain ⟨pt, ptE⟩ : ∃ b, baL (pathL x.f6) = b := ⟨_, rfl⟩
      have ptS : pt.size ≤ 5000 := by rw [← ptE, baL_size]; exact HLN.out.2.2.2.1
      rw [ptE] at HPA
      have ptH := Aside0.mk ptE
      clear ptE
      have kq0 : (9223372036854775807 < 5 + la.size) = False := eq_false (by omega)
      have kq1 : (9223372036854775807 < 5 + la.size + 2) = False := eq_false (by omega)
      have kq2 : (9223372036854775807 < 5 + la.size + 2 + pt.size) = False := eq_false (by omega)
      have kq3 : (9223372036854775807 < 5 + la.size + 2 + pt.size + 2) = False := eq_false (by omega)
      have kq4 : (9223372036854775807 < 5 + la.size + 2 + pt.size + 2 + lb.size) = False := eq_false (by omega)
      have kq5 : (9223372036854775807 < 5 + la.size + 2 + pt.size + 2 + lb.size + 1) = False := eq_false (by omega)
      have HNV := Aside0.mk (blk_drew HN2.out)
      clear HCN0 d0
      go_wp2
      have HBV := Aside0.mk (below_drew1 HB2.out)
      obtain ⟨V0, hV0⟩ : ∃ V, wc = V := ⟨_, rfl⟩
      rw [hV0] at HBV HNV ⊢
      clear hV0 HB2 HN2
      refine start_ (n := 16) (S := fun w' => w'.heap[nb]? = some (.cells #[.int .i64 x.f0, .string x.f1.f0, .slice A2 x.f1.f1.length c2, .string x.f2, .string x.f3.f0, .int .i64 x.f3.f1.f0, .int .i64 x.f3.f1.f1, .string x.f3.f1.f2, .string x.f4.f0, .int .i64 x.f4.f1.f0, .int .i64 x.f4.f1.f1, .string x.f4.f1.f2, .string x.f5.f0, .int .i64 x.f5.f1.f0, .int .i64 x.f5.f1.f1, .string x.f5.f1.f2, .slice A16 x.f6.length c16] 62 (0, 0))) (ds := []) #[false, false, false, false, false, false, false, false, false, false, false, false, false, false, false, false] (by kernel_rfl) rfl rfl (HNV.out) (fun hHeld => ?_); refine with_tabW lit11.tab lit11.bits (fun HT_ HW_ => ?_)
      generalize V0.drew = V at HBV hHeld ⊢
      refine pure_ (i := 0) (N := some 121) (v := ?_) (a' := ?_) #[true, false, false, false, false, false, false, false, false, false, false, false, false, false, false, false] rfl rfl (any_of HT_.out (by kernel_rfl)) (fun _ _ _ h => h) (Or.inl ⟨by rfl, ?_⟩) ?_ ?_
      rotate_left
      · intro w'
        go_simp
        with_reducible rfl
      rotate_left
      · simp only [Act.put, List.setIfInBounds_toArray, List.set_cons_zero, List.set_cons_succ, i64_w, i32_w]
        rfl
      refine take_ (i := 1) (N := some 122) (v := ?_) (a' := ?_) #[true, true, false, false, false, false, false, false, false, false, false, false, false, false, false, false] rfl rfl (take_ofW HT_.out HW_.out (by kernel_rfl)) (fun _ _ _ h => h) (Or.inl ⟨by rfl, ?_⟩) hHeld ?_ ?_
      rotate_left
      · intro w' s1
        have f4 : w'.cell? ⟨nb, 4, none⟩ = some (.string x.f3.f0) := (blk_cell s1 4).trans rfl
        have f5 : w'.cell? ⟨nb, 5, none⟩ = some (.int .i64 x.f3.f1.f0) := (blk_cell s1 5).trans rfl
        have f6 : w'.cell? ⟨nb, 6, none⟩ = some (.int .i64 x.f3.f1.f1) := (blk_cell s1 6).trans rfl
        have f7 : w'.cell? ⟨nb, 7, none⟩ = some (.string x.f3.f1.f2) := (blk_cell s1 7).trans rfl
        clear s1
        go_simp
        with_reducible rfl
      rotate_left
      · simp only [Act.put, List.setIfInBounds_toArray, List.set_cons_zero, List.set_cons_succ, i64_w, i32_w]
        rfl
      refine pure_ (i := 5) (N := some 126) (v := ?_) (a' := ?_) #[true, true, false, false, false, true, false, false, false, false, false, false, false, false, false, false] rfl rfl (any_of HT_.out (by kernel_rfl)) (fun _ _ _ h => h) (Or.inl ⟨by rfl, ?_⟩) ?_ ?_
      rotate_left
      · intro w'
        go_simp
        with_reducible rfl
      rotate_left
      · simp only [Act.put, List.setIfInBounds_toArray, List.set_cons_zero, List.set_cons_succ, i64_w, i32_w]
        rfl
      refine take_ (i := 6) (N := some 127) (v := ?_) (a' := ?_) #[true, true, false, false, false, true, true, false, false, false, false, false, false, false, false, false] rfl rfl (take_ofW HT_.out HW_.out (by kernel_rfl)) (fun _ _ _ h => h) (Or.inl ⟨by rfl, ?_⟩) hHeld ?_ ?_
      rotate_left
      · intro w' s1
        have f16 : w'.cell? ⟨nb, 16, none⟩ = some (.slice A16 x.f6.length c16) := (blk_cell s1 16).trans rfl
        clear s1
        go_simp
        with_reducible rfl
      rotate_left
      · simp only [Act.put, List.setIfInBounds_toArray, List.set_cons_zero, List.set_cons_succ, i64_w, i32_w]
        rfl
      refine pure_ (i := 10) (N := some 131) (v := ?_) (a' := ?_) #[true, true, false, false, false, true, true, false, false, false, true, false, false, false, false, false] rfl rfl (any_of HT_.out (by kernel_rfl)) (fun _ _ _ h => h) (Or.inl ⟨by rfl, ?_⟩) ?_ ?_
      rotate_left
      · intro w'
        go_simp
        with_reducible rfl
      rotate_left
      · simp only [Act.put, List.setIfInBounds_toArray, List.set_cons_zero, List.set_cons_succ, i64_w, i32_w]
        rfl
      refine take_ (i := 11) (N := some 132) (v := ?_) (a' := ?_) #[true, true, false, false, false, true, true, false, false, false, true, true, false, false, false, false] rfl rfl (take_ofW HT_.out HW_.out (by kernel_rfl)) (fun _ _ _ h => h) (Or.inl ⟨by rfl, ?_⟩) hHeld ?_ ?_
      rotate_left
      · intro w' s1
        have f8 : w'.cell? ⟨nb, 8, none⟩ = some (.string x.f4.f0) := (blk_cell s1 8).trans rfl
        have f9 : w'.cell? ⟨nb, 9, none⟩ = some (.int .i64 x.f4.f1.f0) := (blk_cell s1 9).trans rfl
        have f10 : w'.cell? ⟨nb, 10, none⟩ = some (.int .i64 x.f4.f1.f1) := (blk_cell s1 10).trans rfl
        have f11 : w'.cell? ⟨nb, 11, none⟩ = some (.string x.f4.f1.f2) := (blk_cell s1 11).trans rfl
        clear s1
        go_simp
        with_reducible rfl
      rotate_left
      · simp only [Act.put, List.setIfInBounds_toArray, List.set_cons_zero, List.set_cons_succ, i64_w, i32_w]
        rfl
      refine one_ (i := 2) (N := some 123) #[true, true, true, false, false, true, true, false, false, false, true, true, false, false, false, false] rfl rfl (one_of HT_.out (by kernel_rfl)) (by decide) (fun K hK => ?_)
      refine goes_ Tryz.func70 (by kernel_rfl) rfl #[.agg #[.string x.f3.f0, .int .i64 x.f3.f1.f0, .int .i64 x.f3.f1.f1, .string x.f3.f1.f2]] (by rfl) rfl rfl (by (try simp only [List.map_toArray, List.map_cons, List.map_nil]); first | done | rfl) ?_
      refine (HTA.out _ (HLW.out.below HBV.out)).mono ?_
      rintro e V2 ⟨rfl, hb⟩
      refine ⟨_, rfl, ?_⟩
      replace HBV := Aside0.mk (below_then HBV.out HBV.out.size hb)
      replace hHeld := blk_below hHeld hb
      clear hb
      refine hK.out _ _ (hHeld) (fun hHeld => ?_)
      clear hK K
      refine norm_ (a' := ?_) ?_ ?_
      rotate_left
      · show Act.put _ (some 123) _ = _
        simp only [Act.put, List.setIfInBounds_toArray, List.set_cons_zero, List.set_cons_succ, i64_w, i32_w]
        rfl
      refine pure_ (i := 3) (N := some 124) (v := ?_) (a' := ?_) #[true, true, true, true, false, true, true, false, false, false, true, true, false, false, false, false] rfl rfl (any_of HT_.out (by kernel_rfl)) (fun _ _ _ h => h) (Or.inl ⟨by rfl, ?_⟩) ?_ ?_
      rotate_left
      · intro w'
        go_simp
        with_reducible rfl
      rotate_left
      · simp only [Act.put, List.setIfInBounds_toArray, List.set_cons_zero, List.set_cons_succ, i64_w, i32_w]
        rfl
      refine pure_ (i := 4) (N := some 125) (v := ?_) (a' := ?_) #[true, true, true, true, true, true, true, false, false, false, true, true, false, false, false, false] rfl rfl (any_of HT_.out (by kernel_rfl)) (fun _ _ _ h => h) (Or.inl ⟨by rfl, ?_⟩) ?_ ?_
      rotate_left
      · intro w'
        go_simp
        with_reducible rfl
      rotate_left
      · simp only [Act.put, List.setIfInBounds_toArray, List.set_cons_zero, List.set_cons_succ, i64_w, i32_w]
        rfl
      refine one_ (i := 7) (N := some 128) #[true, true, true, true, true, true, true, true, false, false, true, true, false, false, false, false] rfl rfl (one_of HT_.out (by kernel_rfl)) (by decide) (fun K hK => ?_)
      refine goes_ Tryz.func25 (by kernel_rfl) rfl #[.slice A16 x.f6.length c16] (by rfl) rfl rfl (by (try simp only [List.map_toArray, List.map_cons, List.map_nil]); first | done | rfl) ?_
      refine (HPA.out _ HBV.out).mono ?_
      rintro e V2 ⟨rfl, hb⟩
      refine ⟨_, rfl, ?_⟩
      replace HBV := Aside0.mk (below_then HBV.out HBV.out.size hb)
      replace hHeld := blk_below hHeld hb
      clear hb
      refine hK.out _ _ (hHeld) (fun hHeld => ?_)
      clear hK K
      refine norm_ (a' := ?_) ?_ ?_
      rotate_left
      · show Act.put _ (some 128) _ = _
        simp only [Act.put, List.setIfInBounds_toArray, List.set_cons_zero, List.set_cons_succ, i64_w, i32_w]
        rfl
      refine pure_ (i := 8) (N := some 129) (v := ?_) (a' := ?_) #[true, true, true, true, true, true, true, true, true, false, true, true, false, false, false, false] rfl rfl (any_of HT_.out (by kernel_rfl)) (fun _ _ _ h => h) (Or.inl ⟨by rfl, ?_⟩) ?_ ?_
      rotate_left
      · intro w'
        go_simp
        with_reducible rfl
      rotate_left
      · simp only [Act.put, List.setIfInBounds_toArray, List.set_cons_zero, List.set_cons_succ, i64_w, i32_w]
        rfl
      refine pure_ (i := 9) (N := some 130) (v := ?_) (a' := ?_) #[true, true, true, true, true, true, true, true, true, true, true, true, false, false, false, false] rfl rfl (any_of HT_.out (by kernel_rfl)) (fun _ _ _ h => h) (Or.inl ⟨by rfl, ?_⟩) ?_ ?_
      rotate_left
      · intro w'
        go_simp
        with_reducible rfl
      rotate_left
      · simp only [Act.put, List.setIfInBounds_toArray, List.set_cons_zero, List.set_cons_succ, i64_w, i32_w]
        rfl
      refine one_ (i := 12) (N := some 133) #[true, true, true, true, true, true, true, true, true, true, true, true, true, false, false, false] rfl rfl (one_of HT_.out (by kernel_rfl)) (by decide) (fun K hK => ?_)
      refine goes_ Tryz.func70 (by kernel_rfl) rfl #[.agg #[.string x.f4.f0, .int .i64 x.f4.f1.f0, .int .i64 x.f4.f1.f1, .string x.f4.f1.f2]] (by rfl) rfl rfl (by (try simp only [List.map_toArray, List.map_cons, List.map_nil]); first | done | rfl) ?_
      refine (HTB.out _ (HLW.out.below HBV.out)).mono ?_
      rintro e V2 ⟨rfl, hb⟩
      refine ⟨_, rfl, ?_⟩
      replace HBV := Aside0.mk (below_then HBV.out HBV.out.size hb)
      replace hHeld := blk_below hHeld hb
      clear hb
      refine hK.out _ _ (hHeld) (fun hHeld => ?_)
      clear hK K
      refine norm_ (a' := ?_) ?_ ?_
      rotate_left
      · show Act.put _ (some 133) _ = _
        simp only [Act.put, List.setIfInBounds_toArray, List.set_cons_zero, List.set_cons_succ, i64_w, i32_w]
        rfl
      refine pure_ (i := 13) (N := some 134) (v := ?_) (a' := ?_) #[true, true, true, true, true, true, true, true, true, true, true, true, true, true, false, false] rfl rfl (any_of HT_.out (by kernel_rfl)) (fun _ _ _ h => h) (Or.inl ⟨by rfl, ?_⟩) ?_ ?_
      rotate_left
      · intro w'
        go_simp
        with_reducible rfl
      rotate_left
      · simp only [Act.put, List.setIfInBounds_toArray, List.set_cons_zero, List.set_cons_succ, i64_w, i32_w]
        rfl
      refine pure_ (i := 14) (N := some 135) (v := ?_) (a' := ?_) #[true, true, true, true, true, true, true, true, true, true, true, true, true, true, true, false] rfl rfl (any_of HT_.out (by kernel_rfl)) (fun _ _ _ h => h) (Or.inl ⟨by rfl, ?_⟩) ?_ ?_
      rotate_left
      · intro w'
        go_simp
        with_reducible rfl
      rotate_left
      · simp only [Act.put, List.setIfInBounds_toArray, List.set_cons_zero, List.set_cons_succ, i64_w, i32_w]
        rfl
      refine pure_ (i := 15) (N := some 4) (v := ?_) (a' := ?_) #[true, true, true, true, true, true, true, true, true, true, true, true, true, true, true, true] rfl rfl (any_of HT_.out (by kernel_rfl)) (fun _ _ _ h => h) (Or.inl ⟨by rfl, ?_⟩) ?_ ?_
      rotate_left
      · intro w'
        go_simp
        with_reducible rfl
      rotate_left
      · simp only [Act.put, List.setIfInBounds_toArray, List.set_cons_zero, List.set_cons_succ, i64_w, i32_w]
        rfl
      refine done_ (done_of HT_.out (by kernel_rfl)) ?_
      go_wp2
      go_ret
      exact ⟨by rw [HE.out, ← laH.out, ← lbH.out, ← ptH.out]; exact ret_str (ba_eq (by simp)), HBV.out⟩
end Go.Proofs.YthebhbomlllpeaaGreatDoor.X
namespace Go.Proofs.YthebhbomlllpeaaGreatDoor.X
set_option linter.unusedVariables false
set_option linter.unusedSimpArgs false
open Go.RowKit Go.Proofs.YthebhbomlllpeaaGreatDoorW.PrintWords Go.Proofs.YthebhbomlllpeaaGreatDoorW.PrintLast Go.Proofs.YthebhbomlllpeaaGreatDoorW.PrintMore
attribute [local go_sem ↓] Go.wp_at_zero Go.wp_at_succ
theorem lit_show (x : LtS) (A2 : Option Addr) (c2 : Nat) (A16 : Option Addr) (c16 : Nat) (j : Int) (w : World) (hLW : LaidW w) (hx : okL x) (hA2 : Kd.C k60 w A2 x.f1.f1.length x.f1.f1) (hA16 : Kd.C k69 w A16 x.f6.length x.f6) :
    Calls Tryz.prog 44 #[.int .i64 j, .agg (litC x A2 c2 A16 c16)] w fun e w' => e = .returned (.string (baL (litL x))) ∧ Below w.heap.size w w' := by
  by_cases h1 : x.f0 = 1
  · exact lit_show1 x A2 c2 A16 c16 j w hLW hx hA2 hA16 h1
  by_cases h2 : x.f0 = 2
  · exact lit_show2 x A2 c2 A16 c16 j w hLW hx hA2 hA16 h2
  by_cases h3 : x.f0 = 3
  · exact lit_show3 x A2 c2 A16 c16 j w hLW hx hA2 hA16 h3
  by_cases h4 : x.f0 = 4
  · exact lit_show4 x A2 c2 A16 c16 j w hLW hx hA2 hA16 h4
  by_cases h5 : x.f0 = 5
  · exact lit_show5 x A2 c2 A16 c16 j w hLW hx hA2 hA16 h5
  exact lit_show0 x A2 c2 A16 c16 j w hLW hx hA2 hA16 ⟨h1, h2, h3, h4, h5⟩
end Go.Proofs.YthebhbomlllpeaaGreatDoor.X
namespace Go.Proofs.YthebhbomlllpeaaGreatDoor.X
set_option linter.unusedVariables false
set_option linter.unusedSimpArgs false
open Go.RowKit Go.Proofs.YthebhbomlllpeaaGreatDoorW.PrintWords Go.Proofs.YthebhbomlllpeaaGreatDoorW.PrintLast Go.Proofs.YthebhbomlllpeaaGreatDoorW.PrintMore
abbrev zRule4 : Array Value := #[.string ⟨#[]⟩, .slice none 0 0, .int .i64 0, .slice none 0 0]
set_option maxHeartbeats 4000000 in
set_option maxRecDepth 100000 in
theorem eachR_calls (w : World) (A : Option Addr) (c : Nat) (xs : List S33) (g : Nat → List UInt8) (sep : ByteArray) (hsep : sep.size ≤ 2) (hC : Kd.C k33 w A xs.length xs) (hn : xs.length ≤ 1000) (hg : ∀ i, (g i).length ≤ 100000000)
    (hby : ∀ (W : World) (i : Nat) (cs : List Value), i < xs.length → Below w.heap.size w W → k33.K W (xs.getD i z33) cs → Calls Tryz.prog 49 #[.int .i64 i, .agg cs.toArray] W fun e W' => e = .returned (.string (baL (g i))) ∧ Below W.heap.size W W') :
    Calls Tryz.prog 48 #[.slice A xs.length c, .func (.func 49) #[] #[], .string sep] w fun e w' => e = .returned (.tuple #[.string (baL (eachG g xs.length sep.data.toList).1), .bool (eachG g xs.length sep.data.toList).2]) ∧ Below w.heap.size w w' := by
  have HC := Aside0.mk hC
  have HBY := Aside0.mk hby
  have HG := Aside0.mk (And.intro hg hsep)
  have HR := Aside0.mk (Kd.R_nil Kd.string 9 w w.heap.size (fun k => w.heap.size ≤ k))
  have HB := Aside0.mk (Below.refl w.heap.size w)
  clear hC hby hg hsep
  go_enter Tryz.func48, Tryz.ntmps48
  go_wp2
  go_loopg [8, 14] (xs.length + 1) (fun kq v8 v14 w' => ∃ (i : Nat), v14 = .int .i64 i ∧ kq + i = xs.length + 1 ∧ i ≤ xs.length ∧ Aside0 (∀ j, j < i → g j ≠ []) ∧ Aside0 (Kd.R Kd.string 9 w' w.heap.size (fun k => w.heap.size ≤ k) v8 ((List.range i).map (fun j => baL (g j)))) ∧ Aside0 (Below w.heap.size w w'))
  case atStart => exact ⟨0, rfl, by omega, by omega, ⟨fun j hj => by omega⟩, HR, HB⟩
  case round =>
    clear HR HB
    obtain ⟨i, rfl, hk, hi, HE, HV, HB⟩ := hrel
    by_cases hlt : i < xs.length
    · have hz : decide ((i : Int) < (xs.length : Int)) = true := decide_eq_true (by omega)
      have hz2 : decide (i < xs.length) = true := decide_eq_true hlt
      obtain ⟨k1, rfl⟩ : ∃ k1, gk = k1 + 1 := ⟨gk - 1, by omega⟩
      obtain ⟨bk, o, cs, rfl, hcl, hK, hcell⟩ := row_at (Kd.C_below HC.out HB.out) z33 (by decide) i hlt
      have hcl : cs.length = 4 := hcl
      have hrg : wr.rangeAt bk (o + i * 4) cs := hcell
      have h1c := k33.K_one hK
      have HK := Aside0.mk (And.intro hK (And.intro hrg (And.intro hcl h1c)))
      obtain ⟨n, en⟩ : ∃ n, wr.heap.size = n := ⟨_, rfl⟩
      have hN := blk_new wr (.cells zRule4 33)
      rw [en] at hN
      have HN := Aside0.mk hN
      have HBA := Aside0.mk (below_alloc HB.out (.cells zRule4 33))
      have HNB := Aside0.mk (show w.heap.size ≤ n by rw [← en]; exact HB.out.size)
      have HRG := Aside0.mk (show (sets (wr.alloc (.cells zRule4 33)) n 0 cs).rangeAt n 0 cs from by
        have h1 := range_blk (blk_sets cs 0 _ _ hN)
        rwa [setsA_all (hcl.trans (by kernel_rfl)), List.toList_toArray] at h1)
      have hBW : Below wr.heap.size wr (sets (wr.alloc (.cells zRule4 33)) n 0 cs) := below_sets (w0 := wr) (by omega) cs 0 _ (below_alloc (Below.refl _ _) _)
      have HBW := Aside0.mk hBW
      clear hK hrg hcl h1c hcell hN hBW
      go_wp2_with (first | ((with_reducible refine gate_dst (N := 18) rfl ?_); refine wpList_load_mid rfl 33 (.tmp 17) rfl bk (o + i * 4) rfl cs _ HK.out.2.1 Tryz.underlying33 rfl (by rw [HK.out.2.2.1]; kernel_rfl) ?_) | ((with_reducible refine gate_store (t := 33) (p := 10) (v := .tmp 18) rfl ?_); refine wpList_store_mid rfl 33 (.tmp 10) (.tmp 18) rfl n 0 cs.toArray rfl rfl (there_blk HN.out (by rw [List.size_toArray, HK.out.2.2.1]; exact Nat.le_of_eq (by kernel_rfl))) (by rw [List.size_toArray, HK.out.2.2.1]; kernel_rfl) (all_oneCell_toArray HK.out.2.2.2) ?_; rw [setCells_sets, List.toList_toArray]) | ((with_reducible refine gate_dst (N := 21) rfl ?_); refine wpList_load_mid rfl 33 (.tmp 10) rfl n 0 rfl cs _ HRG.out Tryz.underlying33 rfl (by rw [HK.out.2.2.1]; kernel_rfl) ?_))
      have HCB := Aside0.mk (below_then HB.out HB.out.size HBW.out)
      refine (HBY.out _ i cs hlt HCB.out (k33.K_below HBW.out HK.out.1)).mono ?_
      rintro e w1 ⟨rfl, hb⟩
      have hb1 := below_then HBW.out HBW.out.size hb
      have HB1 := Aside0.mk (below_then HB.out HB.out.size hb1)
      have HV1 := Aside0.mk (Kd.R_below HV.out hb1)
      clear hb hb1
      obtain ⟨b, hbE⟩ : ∃ b, baL (g i) = b := ⟨_, rfl⟩
      by_cases he : g i = []
      · have e1 : (b.toList == ([] : List UInt8)) = true := by rw [← hbE, he, baL_toList]; exact beq_self_eq_true _
        have e2 : (b.toList == (⟨#[]⟩ : ByteArray).toList) = true := by rw [← hbE, he]; exact beq_self_eq_true _
        have HE := Aside0.mk (eachG_no (sep := sep.data.toList) hlt he)
        clear he
        rw [hbE]
        clear hbE
        go_wp2
        go_ret2
        rw [HE.out]
        exact ⟨rfl, HB1.out⟩
      · have e1 : (b.toList == ([] : List UInt8)) = false := by rw [beq_eq_false_iff_ne, ← hbE, baL_toList]; exact he
        have e2 : (b.toList == (⟨#[]⟩ : ByteArray).toList) = false := by rw [beq_eq_false_iff_ne, ← hbE, baL_toList]; exact fun h => he (h.trans nil_bytes)
        have HBE := Aside0.mk (And.intro hbE he)
        obtain ⟨A8, c8, rfl⟩ := Kd.R_slice HV1.out
        have HL : Aside0 (((List.range i).map fun j => baL (g j)).length ≤ 1000) := ⟨by rw [List.length_map, List.length_range]; omega⟩
        rw [hbE]
        clear hbE he
        obtain ⟨L, hL⟩ : ∃ L, ((List.range i).map fun j => baL (g j)) = L := ⟨_, rfl⟩
        rw [hL] at HV1 HL
        rw [hL]
        have HLE := Aside0.mk hL
        clear hL
        go_wp2_with ((with_reducible refine gate_builtin (b := .append) (xs := #[.tmp 25, .tmp 27]) rfl ?_); at_builtin; refine Kd.R_append Kd.string (w0 := w) w.heap.size rfl (.tmp 25) (.tmp 27) 54 9 (.string ⟨#[]⟩) 16 rfl Tryz.underlying54 info9s rfl (by decide) (by decide) (.slice A8 L.length c8) L b [.string b] (fun k => w.heap.size ≤ k) (fun _ => False) rfl (by first | rfl | (simp; rfl)) rfl (fun _ hk => hk.elim) (fun k hk => Nat.le_trans HB1.out.size hk) HV1.out HB1.out HB1.out.size (by have := HL.out; omega) ?_; intro v1 w2 ho hb hg hat; have HV2 := Aside0.mk ho; have HB2 := Aside0.mk hb; clear ho hb hg hat)
        go_roundg k1
        case rel => exact ⟨i + 1, by go_num, by omega, by omega, ⟨fun j hj => by rcases Nat.lt_succ_iff_lt_or_eq.1 hj with h | h; exact HE.out j h; exact h ▸ HBE.out.2⟩, ⟨by rw [range_snoc, HBE.out.1, HLE.out]; exact HV2.out⟩, HB2⟩
        case measure => omega
    · obtain rfl : i = xs.length := by omega
      have hz : decide ((xs.length : Int) < (xs.length : Int)) = false := decide_eq_false (by omega)
      obtain ⟨A8, c8, rfl⟩ := Kd.R_slice HV.out
      have hj := join_calls sep HV.out (by rw [range_data]; exact join_bound HG.out.1 HG.out.2 hn) (by rw [List.length_map, List.length_range]; exact hn)
      rw [range_data] at hj
      obtain ⟨L, hL⟩ : ∃ L, ((List.range xs.length).map fun j => baL (g j)) = L := ⟨_, rfl⟩
      rw [hL] at hj ⊢
      clear HV hL
      have HJ := Aside0.mk hj
      have HE2 := Aside0.mk (eachG_yes (sep := sep.data.toList) HE.out)
      clear hj
      go_wp2_with fail
      refine HJ.out.mono ?_
      rintro e w1 ⟨rfl, hb⟩
      have HB1 := Aside0.mk (below_then HB.out HB.out.size hb)
      clear hb
      go_wp2
      go_ret2
      rw [HE2.out]
      exact ⟨rfl, HB1.out⟩
end Go.Proofs.YthebhbomlllpeaaGreatDoor.X
namespace Go.Proofs.YthebhbomlllpeaaGreatDoor.X
set_option linter.unusedVariables false
set_option linter.unusedSimpArgs false
open Go.RowKit Go.Proofs.YthebhbomlllpeaaGreatDoorW.PrintWords Go.Proofs.YthebhbomlllpeaaGreatDoorW.PrintLast Go.Proofs.YthebhbomlllpeaaGreatDoorW.PrintMore
/-- a rule, a program that a machine can hold. -/
def okR (x : RlS) : Prop := okA x.f0 ∧ (∀ y ∈ x.f2, okL y) ∧ x.f2.length ≤ 1000
def okP (p : PgS) : Prop := (∀ x ∈ p.f0, okR x) ∧ p.f0.length ≤ 1000 ∧ okA p.f1
theorem atom_len (a : AtS) (h : okA a) : (atomL a).length ≤ 200000 := head_len a 0 h
theorem litL_len (x : LtS) (h : okL x) : (litL x).length ≤ 300000 := by
  have h1 := atom_len x.f1 h.1
  have h2 := termL_len x.f3 h.2.1
  have h3 := termL_len x.f4 h.2.2.1
  have h4 := termL_len x.f5 h.2.2.2.1
  have h5 := pathL_len x.f6
  have h6 := wordL_len x.f2.data.toList
  unfold litL
  split
  · omega
  · split
    · simp only [List.length_append, List.length_cons, List.length_nil]; omega
    · split
      · rename_i hc
        have := compB_len hc.2.2
        simp only [List.length_append, List.length_cons, List.length_nil]; omega
      · split
        · simp only [List.length_append, List.length_cons, List.length_nil]; omega
        · split
          · simp only [List.length_append, List.length_cons, List.length_nil]; omega
          · simp
theorem range_getD {α : Type} (f : α → List UInt8) (z : α) (xs : List α) : (List.range xs.length).map (fun i => f (xs.getD i z)) = xs.map f := by
  apply List.ext_getElem?
  intro i
  by_cases h : i < xs.length
  · rw [List.getElem?_map, List.getElem?_range h, List.getElem?_map, List.getElem?_eq_getElem h]
    simp only [Option.map_some, List.getD_eq_getElem?_getD, List.getElem?_eq_getElem h, Option.getD_some]
  · rw [List.getElem?_eq_none (by simp; omega), List.getElem?_eq_none (by simp; omega)]
theorem each_map {α : Type} (f : α → List UInt8) (z : α) (xs : List α) (sep : List UInt8) : eachG (fun i => f (xs.getD i z)) xs.length sep = eachL (xs.map f) sep := by unfold eachG; rw [range_getD]
theorem getD_all {α : Type} {P : α → Prop} {z : α} {xs : List α} (h : ∀ x ∈ xs, P x) (hz : P z) (i : Nat) : P (xs.getD i z) := by
  rw [List.getD_eq_getElem?_getD]
  cases hg : xs[i]? with
  | none => exact hz
  | some y => exact h y (List.mem_of_getElem? hg)
theorem okT_z : okT z60 := ⟨⟨by decide, by decide⟩, by decide⟩
theorem okA_z : okA z25 := ⟨(fun x hx => by cases hx), by decide⟩
theorem okL_z : okL z62 := ⟨okA_z, okT_z, okT_z, okT_z, (fun y hy => by cases hy), by decide, by decide⟩
theorem okR_z : okR z33 := ⟨okA_z, (fun y hy => by cases hy), by decide⟩
theorem body_len (x : RlS) (h : okR x) (h12 : x.f2.length ≤ 12) : (eachL (x.f2.map litL) [44, 32]).1.length ≤ 12 * 300002 := by
  refine Nat.le_trans (each_len (m := 300000) (fun y hy => ?_)) ?_
  · obtain ⟨z, hz, rfl⟩ := List.mem_map.1 hy
    exact litL_len z (h.2.1 z hz)
  · rw [List.length_map]
    exact Nat.mul_le_mul h12 (by simp)
theorem ruleL_len (x : RlS) (h : okR x) : (ruleL x).length ≤ 4000000 := by
  have h1 := head_len x.f0 x.f1 h.1
  unfold ruleL
  split
  · simp
  · rename_i hc
    have h2 := body_len x h (by omega)
    split
    · simp
    · split
      · simp only [List.length_append, List.length_cons, List.length_nil]; omega
      · simp only [List.length_append, List.length_cons, List.length_nil]; omega
theorem eachLit_calls (w : World) (A : Option Addr) (c : Nat) (xs : List LtS) (hLW : LaidW w) (hC : Kd.C k62 w A xs.length xs) (hn : xs.length ≤ 1000) (hx : ∀ y ∈ xs, okL y) :
    Calls Tryz.prog 43 #[.slice A xs.length c, .func (.func 44) #[] #[], .string ⟨#[44, 32]⟩] w fun e w' => e = .returned (.tuple #[.string (baL (eachL (xs.map litL) [44, 32]).1), .bool (eachL (xs.map litL) [44, 32]).2]) ∧ Below w.heap.size w w' := by
  have h := eachL_calls w A c xs (fun i => litL (xs.getD i z62)) ⟨#[44, 32]⟩ (by decide) hC hn (fun i => Nat.le_trans (litL_len _ (getD_all hx okL_z i)) (by decide)) (fun W i cs hi hb hK => by
    obtain ⟨A2, c2, A16, c16, rfl, _, g2, _, g16⟩ := k62_open hK
    exact lit_show (xs.getD i z62) A2 c2 A16 c16 (i : Int) W (hLW.below hb) (getD_all hx okL_z i) g2 g16)
  rw [each_map, show (⟨#[44, 32]⟩ : ByteArray).data.toList = [44, 32] from rfl] at h
  exact h
set_option maxHeartbeats 4000000 in
set_option maxRecDepth 100000 in
theorem rule_show (x : RlS) (A1 : Option Addr) (c1 : Nat) (A3 : Option Addr) (c3 : Nat) (w : World) (hLW : LaidW w) (hx : okR x) (hA1 : Kd.C k60 w A1 x.f0.f1.length x.f0.f1) (hA3 : Kd.C k62 w A3 x.f2.length x.f2) :
    Calls Tryz.prog 18 #[.agg #[.string x.f0.f0, .slice A1 x.f0.f1.length c1, .int .i64 x.f1, .slice A3 x.f2.length c3]] w fun e w' => e = .returned (.string (baL (ruleL x))) ∧ Below w.heap.size w w' := by
  obtain ⟨W, hW⟩ : ∃ W, w.alloc (.cells #[.string x.f0.f0, .slice A1 x.f0.f1.length c1, .int .i64 x.f1, .slice A3 x.f2.length c3] 33) = W := ⟨_, rfl⟩
  have hBW : Below w.heap.size w W := hW ▸ below_alloc (Below.refl w.heap.size w) _
  have hN := blk_new w (.cells #[.string x.f0.f0, .slice A1 x.f0.f1.length c1, .int .i64 x.f1, .slice A3 x.f2.length c3] 33)
  rw [hW] at hN
  have d0 : W.cell? ⟨w.heap.size, 0, none⟩ = some (.string x.f0.f0) := (blk_cell hN 0).trans rfl
  have d1 : W.cell? ⟨w.heap.size, 1, none⟩ = some (.slice A1 x.f0.f1.length c1) := (blk_cell hN 1).trans rfl
  have d2 : W.cell? ⟨w.heap.size, 2, none⟩ = some (.int .i64 x.f1) := (blk_cell hN 2).trans rfl
  have d3 : W.cell? ⟨w.heap.size, 3, none⟩ = some (.slice A3 x.f2.length c3) := (blk_cell hN 3).trans rfl
  have HB := Aside0.mk hBW
  have HN := Aside0.mk hN
  have hlb : x.f2.length ≤ 1000 := hx.2.2
  obtain ⟨res, hres⟩ : ∃ r, ruleL x = r := ⟨_, rfl⟩
  have HRE := Aside0.mk hres
  rw [hres]
  by_cases hf0 : x.f1 < 0
  · have e1 : decide (x.f1 < 0) = true := decide_eq_true hf0
    have HE := Aside0.mk (show res = [] by rw [← HRE.out]; exact if_pos (Or.inl hf0))
    clear hA1 hA3 hx hLW hBW hN hres
    go_enter Tryz.func18, Tryz.ntmps18
    go_wp2
    go_ret
    exact ⟨by rw [HE.out]; rfl, HB.out⟩
  have e1 : decide (x.f1 < 0) = false := decide_eq_false hf0
  by_cases hf5 : 5 < x.f1
  · have e2 : decide (5 < x.f1) = true := decide_eq_true hf5
    have HE := Aside0.mk (show res = [] by rw [← HRE.out]; exact if_pos (Or.inr (Or.inl hf5)))
    clear hA1 hA3 hx hLW hBW hN hres hf0 hf5
    go_enter Tryz.func18, Tryz.ntmps18
    go_wp2
    go_ret
    exact ⟨by rw [HE.out]; rfl, HB.out⟩
  have e2 : decide (5 < x.f1) = false := decide_eq_false hf5
  by_cases h12 : 12 < x.f2.length
  · have e3 : decide ((12 : Int) < (x.f2.length : Int)) = true := decide_eq_true (by omega)
    have e4 : decide (12 < x.f2.length) = true := decide_eq_true h12
    have HE := Aside0.mk (show res = [] by rw [← HRE.out]; exact if_pos (Or.inr (Or.inr h12)))
    clear hA1 hA3 hx hLW hBW hN hres hf0 hf5
    go_enter Tryz.func18, Tryz.ntmps18
    go_wp2
    go_ret
    exact ⟨by rw [HE.out]; rfl, HB.out⟩
  have e3 : decide ((12 : Int) < (x.f2.length : Int)) = false := decide_eq_false (by omega)
  have e4 : decide (12 < x.f2.length) = false := decide_eq_false h12
  obtain ⟨f, hf⟩ : ∃ f : Nat, (f : Int) = x.f1 := ⟨x.f1.toNat, by omega⟩
  have HHD := Aside0.mk (show Calls Tryz.prog 42 #[.agg #[.string x.f0.f0, .slice A1 x.f0.f1.length c1], .int .i64 x.f1] W fun e w' => e = .returned (.string (baL (headL x.f0 x.f1))) ∧ Below W.heap.size W w' from by
    have := head_calls x.f0 A1 c1 f (by omega) W (hLW.below hBW) (Kd.C_below hA1 hBW) hx.1
    rw [hf] at this
    exact this)
  have HEA := Aside0.mk (fun (V : World) (h : Below w.heap.size w V) => eachLit_calls V A3 c3 x.f2 (hLW.below h) (Kd.C_below hA3 h) hx.2.2 hx.2.1)
  have hhl := head_len x.f0 x.f1 hx.1
  have hbl := body_len x hx (by omega)
  have HE := Aside0.mk (show res = if headL x.f0 x.f1 = [] ∨ (eachL (x.f2.map litL) [44, 32]).2 = false then [] else if x.f2 = [] then headL x.f0 x.f1 ++ [46] else headL x.f0 x.f1 ++ ([32, 58, 45, 32] ++ ((eachL (x.f2.map litL) [44, 32]).1 ++ [46])) by rw [← HRE.out]; exact if_neg (by rintro (h | h | h); exact hf0 h; exact hf5 h; exact h12 h))
  obtain ⟨⟨s, ok⟩, hso⟩ : ∃ p, eachL (x.f2.map litL) [44, 32] = p := ⟨_, rfl⟩
  obtain ⟨hd, hhd⟩ : ∃ p, headL x.f0 x.f1 = p := ⟨_, rfl⟩
  rw [hso] at HE HEA hbl
  rw [hhd] at HE HHD hhl
  obtain ⟨hb, hbE⟩ : ∃ b, baL hd = b := ⟨_, rfl⟩
  obtain ⟨sb, sbE⟩ : ∃ b, baL s = b := ⟨_, rfl⟩
  have hbS : hb.size ≤ 200000 := by rw [← hbE, baL_size]; exact hhl
  have sbS : sb.size ≤ 12 * 300002 := by rw [← sbE, baL_size]; exact hbl
  have HSB := Aside0.mk sbE
  rw [hbE] at HHD
  simp only [sbE] at HEA
  clear hA1 hA3 hx hLW hBW hN hres hf0 hf5 hf hso hhd sbE hhl hbl HRE
  go_enter Tryz.func18, Tryz.ntmps18
  go_wp2_with fail
  refine HHD.out.mono ?_
  rintro e w1 ⟨rfl, hb1⟩
  have HB1 := Aside0.mk (below_then HB.out HB.out.size hb1)
  have HN1 := Aside0.mk (blk_below HN.out hb1)
  clear hb1 d0 d1 d2 d3 hW
  have d3 : w1.cell? ⟨w.heap.size, 3, none⟩ = some (.slice A3 x.f2.length c3) := (blk_cell HN1.out 3).trans rfl
  go_wp2_with fail
  refine (HEA.out _ HB1.out).mono ?_
  rintro e w2 ⟨rfl, hb2⟩
  have HB2 := Aside0.mk (below_then HB1.out HB1.out.size hb2)
  have HN2 := Aside0.mk (blk_below HN1.out hb2)
  clear hb2 d3
  have d3 : w2.cell? ⟨w.heap.size, 3, none⟩ = some (.slice A3 x.f2.length c3) := (blk_cell HN2.out 3).trans rfl
  by_cases hd0 : hd = []
  · obtain ⟨g1, g2, g3, g4⟩ := emp_t hbE hd0
    have HE2 := Aside0.mk (HE.out.trans (if_pos (Or.inl hd0)))
    clear hbE hd0
    go_wp2
    go_ret
    exact ⟨by rw [HE2.out]; rfl, HB2.out⟩
  obtain ⟨g1, g2, g3, g4⟩ := emp_f hbE hd0
  have HHB := Aside0.mk hbE
  have HD0 := Aside0.mk hd0
  clear hbE hd0
  cases ok with
  | false =>
    have HE2 := Aside0.mk (HE.out.trans (if_pos (Or.inr rfl)))
    go_wp2
    go_ret
    exact ⟨by rw [HE2.out]; rfl, HB2.out⟩
  | true =>
    have HE1 := Aside0.mk (HE.out.trans (if_neg (by rintro (h | h); exact HD0.out h; cases h)))
    clear HE
    by_cases hb0 : x.f2 = []
    · have hl0 : x.f2.length = 0 := by rw [hb0]; rfl
      have g5 : decide ((0 : Int) < (x.f2.length : Int)) = false := decide_eq_false (by omega)
      have g6 : decide (0 < x.f2.length) = false := decide_eq_false (by omega)
      have HE2 := Aside0.mk (HE1.out.trans (if_pos hb0))
      clear HE1 hb0 hl0 HEA
      have kq1 : (9223372036854775807 < hb.size + 1) = False := eq_false (by omega)
      go_wp2
      go_ret
      exact ⟨by rw [HE2.out, ← HHB.out]; exact ret_str (ba_eq (by simp)), HB2.out⟩
    · have hl0 : x.f2.length ≠ 0 := fun h => hb0 (List.length_eq_zero_iff.1 h)
      have g5 : decide ((0 : Int) < (x.f2.length : Int)) = true := decide_eq_true (by omega)
      have g6 : decide (0 < x.f2.length) = true := decide_eq_true (by omega)
      have HE2 := Aside0.mk (HE1.out.trans (if_neg hb0))
      clear HE1 hb0 hl0 HEA
      have kq1 : (9223372036854775807 < 4 + sb.size) = False := eq_false (by omega)
      have kq2 : (9223372036854775807 < hb.size + (4 + sb.size)) = False := eq_false (by omega)
      have kq3 : (9223372036854775807 < hb.size + (4 + sb.size) + 1) = False := eq_false (by omega)
      go_wp2
      go_ret
      exact ⟨by rw [HE2.out, ← HHB.out, ← HSB.out]; exact ret_str (ba_eq (by simp)), HB2.out⟩
set_option maxRecDepth 100000 in
theorem text1_show (x : RlS) (A1 : Option Addr) (c1 : Nat) (A3 : Option Addr) (c3 : Nat) (j : Int) (w : World) (hLW : LaidW w) (hx : okR x) (hA1 : Kd.C k60 w A1 x.f0.f1.length x.f0.f1) (hA3 : Kd.C k62 w A3 x.f2.length x.f2) :
    Calls Tryz.prog 49 #[.int .i64 j, .agg #[.string x.f0.f0, .slice A1 x.f0.f1.length c1, .int .i64 x.f1, .slice A3 x.f2.length c3]] w fun e w' => e = .returned (.string (baL (ruleL x))) ∧ Below w.heap.size w w' := by
  have hB := below_alloc (Below.refl w.heap.size w) (.cells #[.string x.f0.f0, .slice A1 x.f0.f1.length c1, .int .i64 x.f1, .slice A3 x.f2.length c3] 33)
  have HP := Aside0.mk (rule_show x A1 c1 A3 c3 _ (hLW.below hB) hx (Kd.C_below hA1 hB) (Kd.C_below hA3 hB))
  have HB := Aside0.mk hB
  clear hA1 hA3 hx hLW hB
  go_enter Tryz.func49, Tryz.ntmps49
  go_wp2_with fail
  refine HP.out.mono ?_
  rintro e w1 ⟨rfl, hb⟩
  have HB1 := Aside0.mk (below_then HB.out HB.out.size hb)
  clear hb
  go_wp2
  go_ret
  exact ⟨rfl, HB1.out⟩
theorem eachRule_calls (w : World) (A : Option Addr) (c : Nat) (xs : List RlS) (hLW : LaidW w) (hC : Kd.C k33 w A xs.length xs) (hn : xs.length ≤ 1000) (hx : ∀ y ∈ xs, okR y) :
    Calls Tryz.prog 48 #[.slice A xs.length c, .func (.func 49) #[] #[], .string ⟨#[10]⟩] w fun e w' => e = .returned (.tuple #[.string (baL (eachL (xs.map ruleL) [10]).1), .bool (eachL (xs.map ruleL) [10]).2]) ∧ Below w.heap.size w w' := by
  have h := eachR_calls w A c xs (fun i => ruleL (xs.getD i z33)) ⟨#[10]⟩ (by decide) hC hn (fun i => Nat.le_trans (ruleL_len _ (getD_all hx okR_z i)) (by decide)) (fun W i cs hi hb hK => by
    obtain ⟨A1, c1, A3, c3, rfl, _, g1, _, g3⟩ := k33_open hK
    exact text1_show (xs.getD i z33) A1 c1 A3 c3 (i : Int) W (hLW.below hb) (getD_all hx okR_z i) g1 g3)
  rw [each_map, show (⟨#[10]⟩ : ByteArray).data.toList = [10] from rfl] at h
  exact h
end Go.Proofs.YthebhbomlllpeaaGreatDoor.X
namespace Go.Proofs.YthebhbomlllpeaaGreatDoor.X
set_option linter.unusedVariables false
set_option linter.unusedSimpArgs false
open Go.RowKit Go.Proofs.YthebhbomlllpeaaGreatDoorW.PrintWords Go.Proofs.YthebhbomlllpeaaGreatDoorW.PrintLast Go.Proofs.YthebhbomlllpeaaGreatDoorW.PrintMore
set_option maxHeartbeats 4000000 in
set_option maxRecDepth 100000 in
theorem text_show (p : PgS) (A0 : Option Addr) (c0 : Nat) (A2 : Option Addr) (c2 : Nat) (w : World) (hLW : LaidW w) (hp : okP p) (hA0 : Kd.C k33 w A0 p.f0.length p.f0) (hA2 : Kd.C k60 w A2 p.f1.f1.length p.f1.f1) :
    Calls Tryz.prog 20 #[.agg #[.slice A0 p.f0.length c0, .string p.f1.f0, .slice A2 p.f1.f1.length c2]] w fun e w' => e = .returned (.string (baL (progL p))) ∧ Below w.heap.size w w' := by
  obtain ⟨rs, q⟩ := p
  have hlr : rs.length ≤ 1000 := hp.2.1
  obtain ⟨W, hW⟩ : ∃ W, w.alloc (.cells #[.slice A0 rs.length c0, .string q.f0, .slice A2 q.f1.length c2] 27) = W := ⟨_, rfl⟩
  have hBW : Below w.heap.size w W := hW ▸ below_alloc (Below.refl w.heap.size w) _
  have hN := blk_new w (.cells #[.slice A0 rs.length c0, .string q.f0, .slice A2 q.f1.length c2] 27)
  rw [hW] at hN
  have d0 : W.cell? ⟨w.heap.size, 0, none⟩ = some (.slice A0 rs.length c0) := (blk_cell hN 0).trans rfl
  have HB := Aside0.mk hBW
  have HN := Aside0.mk hN
  have HEA := Aside0.mk (eachRule_calls W A0 c0 rs (hLW.below hBW) (Kd.C_below hA0 hBW) hlr hp.1)
  have HAT := Aside0.mk (fun (V : World) (h : Below w.heap.size w V) => atom_show q A2 c2 V (hLW.below h) (Kd.C_below hA2 h) hp.2.2)
  have hql := atom_len q hp.2.2
  have hsl : (eachL (rs.map ruleL) [10]).1.length ≤ 1000 * 4000001 := by
    refine Nat.le_trans (each_len (m := 4000000) (fun y hy => ?_)) ?_
    · obtain ⟨z, hz, rfl⟩ := List.mem_map.1 hy
      exact ruleL_len z (hp.1 z hz)
    · rw [List.length_map]
      exact Nat.mul_le_mul hlr (by simp)
  obtain ⟨res, hres⟩ : ∃ r, progL ⟨rs, q⟩ = r := ⟨_, rfl⟩
  rw [hres]
  have HE := Aside0.mk (show res = if (eachL (rs.map ruleL) [10]).2 = false ∨ atomL q = [] ∨ 200 < rs.length ∨ 20000 < (((eachL (rs.map ruleL) [10]).1 ++ (if rs = [] then [] else [10])) ++ ([63, 45, 32] ++ (atomL q ++ [46, 10]))).length then [] else ((eachL (rs.map ruleL) [10]).1 ++ (if rs = [] then [] else [10])) ++ ([63, 45, 32] ++ (atomL q ++ [46, 10])) by rw [← hres]; rfl)
  obtain ⟨⟨s, ok⟩, hso⟩ : ∃ x, eachL (rs.map ruleL) [10] = x := ⟨_, rfl⟩
  obtain ⟨qt, hqt⟩ : ∃ x, atomL q = x := ⟨_, rfl⟩
  rw [hso] at HE HEA hsl
  rw [hqt] at HE hql
  simp only [hqt] at HAT
  obtain ⟨sb, sbE⟩ : ∃ b, baL s = b := ⟨_, rfl⟩
  obtain ⟨qb, qbE⟩ : ∃ b, baL qt = b := ⟨_, rfl⟩
  have sbS : sb.size ≤ 1000 * 4000001 := by rw [← sbE, baL_size]; exact hsl
  have qbS : qb.size ≤ 200000 := by rw [← qbE, baL_size]; exact hql
  have HSB := Aside0.mk sbE
  simp only [sbE] at HEA
  simp only [qbE] at HAT
  have HQB := Aside0.mk qbE
  clear hA0 hA2 hp hLW hBW hN hres hso hqt sbE qbE hql hsl
  go_enter Tryz.func20, Tryz.ntmps20
  go_wp2_with fail
  refine HEA.out.mono ?_
  rintro e w1 ⟨rfl, hb1⟩
  have HB1 := Aside0.mk (below_then HB.out HB.out.size hb1)
  have HN1 := Aside0.mk (blk_below HN.out hb1)
  clear hb1 d0 hW HEA
  have d0 : w1.cell? ⟨w.heap.size, 0, none⟩ = some (.slice A0 rs.length c0) := (blk_cell HN1.out 0).trans rfl
  have d1 : w1.cell? ⟨w.heap.size, 1, none⟩ = some (.string q.f0) := (blk_cell HN1.out 1).trans rfl
  have d2 : w1.cell? ⟨w.heap.size, 2, none⟩ = some (.slice A2 q.f1.length c2) := (blk_cell HN1.out 2).trans rfl
  obtain ⟨ln, hln⟩ : ∃ l, s ++ (if rs = [] then [] else [10]) = l := ⟨_, rfl⟩
  rw [hln] at HE
  by_cases hr0 : rs = []
  · have hl0 : rs.length = 0 := by rw [hr0]; rfl
    have g5 : decide ((0 : Int) < (rs.length : Int)) = false := decide_eq_false (by omega)
    have g6 : decide (0 < rs.length) = false := decide_eq_false (by omega)
    have g7 : decide ((200 : Int) < (rs.length : Int)) = false := decide_eq_false (by omega)
    have g8 : decide (200 < rs.length) = false := decide_eq_false (by omega)
    obtain ⟨lb, lbE⟩ : ∃ b, baL ln = b := ⟨_, rfl⟩
    have hsl2 : sb = lb := by rw [← lbE, ← hln, if_pos hr0, List.append_nil, HSB.out]
    subst hsl2
    have HLB := Aside0.mk lbE
    have H2 := Aside0.mk (show ¬ 200 < rs.length by omega)
    clear hr0 hl0 hln lbE HSB
    go_wp2_with fail
    refine (HAT.out _ HB1.out).mono ?_
    rintro e w2 ⟨rfl, hb2⟩
    have HB2 := Aside0.mk (below_then HB1.out HB1.out.size hb2)
    have HN2 := Aside0.mk (blk_below HN1.out hb2)
    clear hb2 d0 d1 d2
    have d0 : w2.cell? ⟨w.heap.size, 0, none⟩ = some (.slice A0 rs.length c0) := (blk_cell HN2.out 0).trans rfl
    have kq1 : (9223372036854775807 < sb.size + 3) = False := eq_false (by omega)
    have kq2 : (9223372036854775807 < sb.size + 3 + qb.size) = False := eq_false (by omega)
    have kq3 : (9223372036854775807 < sb.size + 3 + qb.size + 2) = False := eq_false (by omega)
    cases ok with
    | false =>
      have HE2 := Aside0.mk (HE.out.trans (if_pos (Or.inl rfl)))
      go_wp2
      go_ret
      exact ⟨by rw [HE2.out]; rfl, HB2.out⟩
    | true =>
    by_cases hq0 : qt = []
    · obtain ⟨g1, g2, g3, g4⟩ := emp_t HQB.out hq0
      have HE2 := Aside0.mk (HE.out.trans (if_pos (Or.inr (Or.inl hq0))))
      clear hq0
      go_wp2
      go_ret
      exact ⟨by rw [HE2.out]; rfl, HB2.out⟩
    obtain ⟨g1, g2, g3, g4⟩ := emp_f HQB.out hq0
    have HQ0 := Aside0.mk hq0
    clear hq0
    have HTX := Aside0.mk (show ((sb ++ (⟨#[63, 45, 32]⟩ : ByteArray)) ++ qb) ++ (⟨#[46, 10]⟩ : ByteArray) = baL (ln ++ ([63, 45, 32] ++ (qt ++ [46, 10]))) by rw [← HLB.out, ← HQB.out]; exact ba_eq (by simp))
    have HSZ := Aside0.mk (show (ln ++ ([63, 45, 32] ++ (qt ++ [46, 10]))).length = sb.size + 3 + qb.size + 2 by rw [← baL_size, ← HTX.out]; simp only [ByteArray.size_append]; rfl)
    by_cases hbig : 20000 < (ln ++ ([63, 45, 32] ++ (qt ++ [46, 10]))).length
    · have HE2 := Aside0.mk (HE.out.trans (if_pos (Or.inr (Or.inr (Or.inr hbig)))))
      rw [HSZ.out] at hbig
      have g9 : decide (20000 < sb.size + 3 + qb.size + 2) = true := decide_eq_true hbig
      have g10 : decide ((20000 : Int) < (sb.size : Int) + 3 + (qb.size : Int) + 2) = true := decide_eq_true (by omega)
      clear hbig
      go_wp2
      go_ret
      exact ⟨by rw [HE2.out]; rfl, HB2.out⟩
    · have HE2 := Aside0.mk (HE.out.trans (if_neg (by rintro (h | h | h | h); cases h; exact HQ0.out h; exact H2.out h; exact hbig h)))
      rw [HSZ.out] at hbig
      have g9 : decide (20000 < sb.size + 3 + qb.size + 2) = false := decide_eq_false hbig
      have g10 : decide ((20000 : Int) < (sb.size : Int) + 3 + (qb.size : Int) + 2) = false := decide_eq_false (by omega)
      clear hbig
      go_wp2
      go_ret
      exact ⟨by rw [HE2.out, ← HTX.out]; rfl, HB2.out⟩
  · have hl0 : rs.length ≠ 0 := fun h => hr0 (List.length_eq_zero_iff.1 h)
    have g5 : decide ((0 : Int) < (rs.length : Int)) = true := decide_eq_true (by omega)
    have g6 : decide (0 < rs.length) = true := decide_eq_true (by omega)
    have kq0 : (9223372036854775807 < sb.size + 1) = False := eq_false (by omega)
    obtain ⟨lb, lbE⟩ : ∃ b, baL ln = b := ⟨_, rfl⟩
    have hsl2 : sb ++ (⟨#[10]⟩ : ByteArray) = lb := by rw [← lbE, ← hln, if_neg hr0, ← HSB.out]; exact ba_eq (by simp)
    have hlbs : lb.size ≤ 1000 * 4000001 + 1 := by rw [← hsl2, ByteArray.size_append]; show sb.size + 1 ≤ _; omega
    have HLB := Aside0.mk lbE
    clear hr0 hl0 hln lbE HSB
    go_wp2_with fail
    refine (HAT.out _ HB1.out).mono ?_
    rintro e w2 ⟨rfl, hb2⟩
    have HB2 := Aside0.mk (below_then HB1.out HB1.out.size hb2)
    have HN2 := Aside0.mk (blk_below HN1.out hb2)
    clear hb2 d0 d1 d2 hsl2
    have d0 : w2.cell? ⟨w.heap.size, 0, none⟩ = some (.slice A0 rs.length c0) := (blk_cell HN2.out 0).trans rfl
    clear kq0 sbS
    by_cases h200 : 200 < rs.length
    · have H2 := Aside0.mk h200
      have g7 : decide ((200 : Int) < (rs.length : Int)) = true := decide_eq_true (by omega)
      have g8 : decide (200 < rs.length) = true := decide_eq_true (by omega)
      clear h200
      have kq1 : (9223372036854775807 < lb.size + 3) = False := eq_false (by omega)
      have kq2 : (9223372036854775807 < lb.size + 3 + qb.size) = False := eq_false (by omega)
      have kq3 : (9223372036854775807 < lb.size + 3 + qb.size + 2) = False := eq_false (by omega)
      cases ok with
      | false =>
        have HE2 := Aside0.mk (HE.out.trans (if_pos (Or.inl rfl)))
        go_wp2
        go_ret
        exact ⟨by rw [HE2.out]; rfl, HB2.out⟩
      | true =>
      by_cases hq0 : qt = []
      · obtain ⟨g1, g2, g3, g4⟩ := emp_t HQB.out hq0
        have HE2 := Aside0.mk (HE.out.trans (if_pos (Or.inr (Or.inl hq0))))
        clear hq0
        go_wp2
        go_ret
        exact ⟨by rw [HE2.out]; rfl, HB2.out⟩
      obtain ⟨g1, g2, g3, g4⟩ := emp_f HQB.out hq0
      have HQ0 := Aside0.mk hq0
      clear hq0
      have HE2 := Aside0.mk (HE.out.trans (if_pos (Or.inr (Or.inr (Or.inl H2.out)))))
      go_wp2
      go_ret
      exact ⟨by rw [HE2.out]; rfl, HB2.out⟩
    · have H2 := Aside0.mk h200
      have g7 : decide ((200 : Int) < (rs.length : Int)) = false := decide_eq_false (by omega)
      have g8 : decide (200 < rs.length) = false := decide_eq_false (by omega)
      clear h200
      have kq1 : (9223372036854775807 < lb.size + 3) = False := eq_false (by omega)
      have kq2 : (9223372036854775807 < lb.size + 3 + qb.size) = False := eq_false (by omega)
      have kq3 : (9223372036854775807 < lb.size + 3 + qb.size + 2) = False := eq_false (by omega)
      cases ok with
      | false =>
        have HE2 := Aside0.mk (HE.out.trans (if_pos (Or.inl rfl)))
        go_wp2
        go_ret
        exact ⟨by rw [HE2.out]; rfl, HB2.out⟩
      | true =>
      by_cases hq0 : qt = []
      · obtain ⟨g1, g2, g3, g4⟩ := emp_t HQB.out hq0
        have HE2 := Aside0.mk (HE.out.trans (if_pos (Or.inr (Or.inl hq0))))
        clear hq0
        go_wp2
        go_ret
        exact ⟨by rw [HE2.out]; rfl, HB2.out⟩
      obtain ⟨g1, g2, g3, g4⟩ := emp_f HQB.out hq0
      have HQ0 := Aside0.mk hq0
      clear hq0
      have HTX := Aside0.mk (show ((lb ++ (⟨#[63, 45, 32]⟩ : ByteArray)) ++ qb) ++ (⟨#[46, 10]⟩ : ByteArray) = baL (ln ++ ([63, 45, 32] ++ (qt ++ [46, 10]))) by rw [← HLB.out, ← HQB.out]; exact ba_eq (by simp))
      have HSZ := Aside0.mk (show (ln ++ ([63, 45, 32] ++ (qt ++ [46, 10]))).length = lb.size + 3 + qb.size + 2 by rw [← baL_size, ← HTX.out]; simp only [ByteArray.size_append]; rfl)
      by_cases hbig : 20000 < (ln ++ ([63, 45, 32] ++ (qt ++ [46, 10]))).length
      · have HE2 := Aside0.mk (HE.out.trans (if_pos (Or.inr (Or.inr (Or.inr hbig)))))
        rw [HSZ.out] at hbig
        have g9 : decide (20000 < lb.size + 3 + qb.size + 2) = true := decide_eq_true hbig
        have g10 : decide ((20000 : Int) < (lb.size : Int) + 3 + (qb.size : Int) + 2) = true := decide_eq_true (by omega)
        clear hbig
        go_wp2
        go_ret
        exact ⟨by rw [HE2.out]; rfl, HB2.out⟩
      · have HE2 := Aside0.mk (HE.out.trans (if_neg (by rintro (h | h | h | h); cases h; exact HQ0.out h; exact H2.out h; exact hbig h)))
        rw [HSZ.out] at hbig
        have g9 : decide (20000 < lb.size + 3 + qb.size + 2) = false := decide_eq_false hbig
        have g10 : decide ((20000 : Int) < (lb.size : Int) + 3 + (qb.size : Int) + 2) = false := decide_eq_false (by omega)
        clear hbig
        go_wp2
        go_ret
        exact ⟨by rw [HE2.out, ← HTX.out]; rfl, HB2.out⟩
set_option maxRecDepth 100000 in
theorem right_show (p : PgS) (A0 : Option Addr) (c0 : Nat) (A2 : Option Addr) (c2 : Nat) (w : World) (hLW : LaidW w) (hp : okP p) (hA0 : Kd.C k33 w A0 p.f0.length p.f0) (hA2 : Kd.C k60 w A2 p.f1.f1.length p.f1.f1) :
    Calls Tryz.prog 22 #[.agg #[.slice A0 p.f0.length c0, .string p.f1.f0, .slice A2 p.f1.f1.length c2]] w fun e w' => e = .returned (.bool (!(progL p).isEmpty)) ∧ Below w.heap.size w w' := by
  have hB := below_alloc (Below.refl w.heap.size w) (.cells #[.slice A0 p.f0.length c0, .string p.f1.f0, .slice A2 p.f1.f1.length c2] 27)
  have HP := Aside0.mk (text_show p A0 c0 A2 c2 _ (hLW.below hB) hp (Kd.C_below hA0 hB) (Kd.C_below hA2 hB))
  have HB := Aside0.mk hB
  obtain ⟨r, hr⟩ : ∃ r, (!(progL p).isEmpty) = r := ⟨_, rfl⟩
  have HR := Aside0.mk hr
  rw [hr]
  clear hA0 hA2 hp hLW hB hr
  go_enter Tryz.func22, Tryz.ntmps22
  go_wp2_with fail
  refine HP.out.mono ?_
  rintro e w1 ⟨rfl, hb⟩
  have HB1 := Aside0.mk (below_then HB.out HB.out.size hb)
  clear hb
  obtain ⟨b, hbE⟩ : ∃ b, baL (progL p) = b := ⟨_, rfl⟩
  rw [hbE]
  by_cases he : progL p = []
  · obtain ⟨e1, e2, e3, e4⟩ := emp_t hbE he
    have HF := Aside0.mk (show r = false by rw [← HR.out, he]; rfl)
    clear hbE he
    go_wp2
    go_ret
    exact ⟨by rw [HF.out]; rfl, HB1.out⟩
  · obtain ⟨e1, e2, e3, e4⟩ := emp_f hbE he
    have HF := Aside0.mk (show r = true by rw [← HR.out, neB he])
    clear hbE he
    go_wp2
    go_ret
    exact ⟨by rw [HF.out]; rfl, HB1.out⟩
end Go.Proofs.YthebhbomlllpeaaGreatDoor.X
namespace Go.Proofs.YthebhbomlllpeaaGreatDoor.X
set_option linter.unusedVariables false
set_option linter.unusedSimpArgs false
open Go.RowKit Go.Proofs.YthebhbomlllpeaaGreatDoorW.PrintWords Go.Proofs.YthebhbomlllpeaaGreatDoorW.PrintLast Go.Proofs.YthebhbomlllpeaaGreatDoorW.PrintMore
def okTB (t : TmS) : Bool := decide (-9223372036854775808 ≤ t.f1.f1) && (decide (t.f1.f1 ≤ 9223372036854775807) && decide (t.f0.size ≤ 9223372036854775807))
theorem okTB_of {t : TmS} : okTB t = true ↔ okT t := by
  unfold okTB okT
  simp only [Bool.and_eq_true, decide_eq_true_eq]
  exact ⟨fun h => ⟨⟨h.1, h.2.1⟩, h.2.2⟩, fun h => ⟨h.1.1, h.1.2, h.2⟩⟩
def okAB (l : List TmS) : Bool := l.all okTB && decide (l.length ≤ 1000)
theorem okAB_of {p : ByteArray} {l : List TmS} : okAB l = true ↔ okA ⟨p, l⟩ := by
  unfold okAB okA
  simp only [Bool.and_eq_true, decide_eq_true_eq, List.all_eq_true]
  exact ⟨fun h => ⟨fun x hx => okTB_of.1 (h.1 x hx), h.2⟩, fun h => ⟨fun x hx => okTB_of.2 (h.1 x hx), h.2⟩⟩
def okSB (l : List StS) : Bool := (l.all fun x => decide (x.f1.size ≤ 9223372036854775807)) && decide (l.length ≤ 140737488355328)
theorem okSB_of {l : List StS} : okSB l = true ↔ ((∀ x ∈ l, x.f1.size ≤ 9223372036854775807) ∧ l.length ≤ 140737488355328) := by
  unfold okSB
  simp only [Bool.and_eq_true, decide_eq_true_eq, List.all_eq_true]
def okLB (x : LtS) : Bool := okAB x.f1.f1 && (okTB x.f3 && (okTB x.f4 && (okTB x.f5 && (okSB x.f6 && decide (x.f2.size ≤ 9223372036854775807)))))
theorem okLB_of {x : LtS} : okLB x = true ↔ okL x := by
  unfold okLB okL
  simp only [Bool.and_eq_true, decide_eq_true_eq, okTB_of, okSB_of, okAB_of (p := x.f1.f0)]
  exact ⟨fun h => ⟨h.1, h.2.1, h.2.2.1, h.2.2.2.1, h.2.2.2.2.1.1, h.2.2.2.2.1.2, h.2.2.2.2.2⟩, fun h => ⟨h.1, h.2.1, h.2.2.1, h.2.2.2.1, ⟨h.2.2.2.2.1, h.2.2.2.2.2.1⟩, h.2.2.2.2.2.2⟩⟩
def okRB (a : List TmS) (b : List LtS) : Bool := okAB a && (b.all okLB && decide (b.length ≤ 1000))
theorem okRB_of {x : RlS} : okRB x.f0.f1 x.f2 = true ↔ okR x := by
  unfold okRB okR
  simp only [Bool.and_eq_true, decide_eq_true_eq, List.all_eq_true, okAB_of (p := x.f0.f0)]
  exact ⟨fun h => ⟨h.1, fun y hy => okLB_of.1 (h.2.1 y hy), h.2.2⟩, fun h => ⟨h.1, fun y hy => okLB_of.2 (h.2.1 y hy), h.2.2⟩⟩
def okPB (rs : List RlS) (a : List TmS) : Bool := (rs.all fun x => okRB x.f0.f1 x.f2) && (decide (rs.length ≤ 1000) && okAB a)
theorem okPB_of {p : PgS} : okPB p.f0 p.f1.f1 = true ↔ okP p := by
  unfold okPB okP
  simp only [Bool.and_eq_true, decide_eq_true_eq, List.all_eq_true, okAB_of (p := p.f1.f0)]
  exact ⟨fun h => ⟨fun y hy => okRB_of.1 (h.1 y hy), h.2.1, h.2.2⟩, fun h => ⟨fun y hy => okRB_of.2 (h.1 y hy), h.2.1, h.2.2⟩⟩
def show_Path.f (l0 : List S69) : Option ByteArray := if okSB l0 = true then some (baL (pathL l0)) else none
theorem show_Path.calls (A0 : Option Addr) (c0 : Nat) (l0 : List S69) (r : ByteArray) (w : World) (hLW : LaidW w) (hr0 : Kd.C k69 w A0 l0.length l0) (hc0 : l0.length ≤ c0) (h : show_Path.f l0 = some r) :
    Calls Tryz.prog 25 #[.slice A0 l0.length c0] w fun e w' => e = .returned (.string r) ∧ Below w.heap.size w w' := by
  unfold show_Path.f at h
  split at h
  · rename_i hk
    obtain rfl := Option.some.inj h
    exact path_show l0 A0 c0 w hLW hr0 (okSB_of.1 hk).1 (okSB_of.1 hk).2
  · cases h
def show_RightPath.f (l0 : List S69) : Option Bool := if okSB l0 = true then some (rpB l0) else none
theorem show_RightPath.calls (A0 : Option Addr) (c0 : Nat) (l0 : List S69) (r : Bool) (w : World) (hLW : LaidW w) (hr0 : Kd.C k69 w A0 l0.length l0) (hc0 : l0.length ≤ c0) (h : show_RightPath.f l0 = some r) :
    Calls Tryz.prog 27 #[.slice A0 l0.length c0] w fun e w' => e = .returned (.bool r) ∧ Below w.heap.size w w' := by
  unfold show_RightPath.f at h
  split at h
  · rename_i hk
    obtain rfl := Option.some.inj h
    exact rightPath_show l0 A0 c0 w hLW hr0 (okSB_of.1 hk).1 (okSB_of.1 hk).2
  · cases h
def show_Atom.f (a0_0 : ByteArray) (l0_1 : List S60) : Option ByteArray := if okAB l0_1 = true then some (baL (atomL ⟨a0_0, l0_1⟩)) else none
theorem show_Atom.calls (a0_0 : ByteArray) (A0_1 : Option Addr) (c0_1 : Nat) (l0_1 : List S60) (r : ByteArray) (w : World) (hLW : LaidW w) (hr0_1 : Kd.C k60 w A0_1 l0_1.length l0_1) (hc0_1 : l0_1.length ≤ c0_1) (h : show_Atom.f a0_0 l0_1 = some r) :
    Calls Tryz.prog 23 #[.agg #[.string a0_0, .slice A0_1 l0_1.length c0_1]] w fun e w' => e = .returned (.string r) ∧ Below w.heap.size w w' := by
  unfold show_Atom.f at h
  split at h
  · rename_i hk
    obtain rfl := Option.some.inj h
    exact atom_show ⟨a0_0, l0_1⟩ A0_1 c0_1 w hLW hr0_1 (okAB_of.1 hk)
  · cases h
def show_Rule.f (a0_0 : ByteArray) (l0_1 : List S60) (a0_2 : Int) (l0_3 : List S62) : Option ByteArray := if okRB l0_1 l0_3 = true then some (baL (ruleL ⟨⟨a0_0, l0_1⟩, a0_2, l0_3⟩)) else none
theorem show_Rule.calls (a0_0 : ByteArray) (A0_1 : Option Addr) (c0_1 : Nat) (l0_1 : List S60) (a0_2 : Int) (A0_3 : Option Addr) (c0_3 : Nat) (l0_3 : List S62) (r : ByteArray) (w : World) (hLW : LaidW w) (hr0_1 : Kd.C k60 w A0_1 l0_1.length l0_1) (hc0_1 : l0_1.length ≤ c0_1) (hr0_3 : Kd.C k62 w A0_3 l0_3.length l0_3) (hc0_3 : l0_3.length ≤ c0_3) (h : show_Rule.f a0_0 l0_1 a0_2 l0_3 = some r) :
    Calls Tryz.prog 18 #[.agg #[.string a0_0, .slice A0_1 l0_1.length c0_1, .int .i64 a0_2, .slice A0_3 l0_3.length c0_3]] w fun e w' => e = .returned (.string r) ∧ Below w.heap.size w w' := by
  unfold show_Rule.f at h
  split at h
  · rename_i hk
    obtain rfl := Option.some.inj h
    exact rule_show ⟨⟨a0_0, l0_1⟩, a0_2, l0_3⟩ A0_1 c0_1 A0_3 c0_3 w hLW (okRB_of (x := ⟨⟨a0_0, l0_1⟩, a0_2, l0_3⟩).1 hk) hr0_1 hr0_3
  · cases h
def show_Text.f (l0_0 : List S33) (a0_1 : ByteArray) (l0_2 : List S60) : Option ByteArray := if okPB l0_0 l0_2 = true then some (baL (progL ⟨l0_0, ⟨a0_1, l0_2⟩⟩)) else none
theorem show_Text.calls (A0_0 : Option Addr) (c0_0 : Nat) (l0_0 : List S33) (a0_1 : ByteArray) (A0_2 : Option Addr) (c0_2 : Nat) (l0_2 : List S60) (r : ByteArray) (w : World) (hLW : LaidW w) (hr0_0 : Kd.C k33 w A0_0 l0_0.length l0_0) (hc0_0 : l0_0.length ≤ c0_0) (hr0_2 : Kd.C k60 w A0_2 l0_2.length l0_2) (hc0_2 : l0_2.length ≤ c0_2) (h : show_Text.f l0_0 a0_1 l0_2 = some r) :
    Calls Tryz.prog 20 #[.agg #[.slice A0_0 l0_0.length c0_0, .string a0_1, .slice A0_2 l0_2.length c0_2]] w fun e w' => e = .returned (.string r) ∧ Below w.heap.size w w' := by
  unfold show_Text.f at h
  split at h
  · rename_i hk
    obtain rfl := Option.some.inj h
    exact text_show ⟨l0_0, ⟨a0_1, l0_2⟩⟩ A0_0 c0_0 A0_2 c0_2 w hLW (okPB_of (p := ⟨l0_0, ⟨a0_1, l0_2⟩⟩).1 hk) hr0_0 hr0_2
  · cases h
def show_Right.f (l0_0 : List S33) (a0_1 : ByteArray) (l0_2 : List S60) : Option Bool := if okPB l0_0 l0_2 = true then some (!(progL ⟨l0_0, ⟨a0_1, l0_2⟩⟩).isEmpty) else none
theorem show_Right.calls (A0_0 : Option Addr) (c0_0 : Nat) (l0_0 : List S33) (a0_1 : ByteArray) (A0_2 : Option Addr) (c0_2 : Nat) (l0_2 : List S60) (r : Bool) (w : World) (hLW : LaidW w) (hr0_0 : Kd.C k33 w A0_0 l0_0.length l0_0) (hc0_0 : l0_0.length ≤ c0_0) (hr0_2 : Kd.C k60 w A0_2 l0_2.length l0_2) (hc0_2 : l0_2.length ≤ c0_2) (h : show_Right.f l0_0 a0_1 l0_2 = some r) :
    Calls Tryz.prog 22 #[.agg #[.slice A0_0 l0_0.length c0_0, .string a0_1, .slice A0_2 l0_2.length c0_2]] w fun e w' => e = .returned (.bool r) ∧ Below w.heap.size w w' := by
  unfold show_Right.f at h
  split at h
  · rename_i hk
    obtain rfl := Option.some.inj h
    exact right_show ⟨l0_0, ⟨a0_1, l0_2⟩⟩ A0_0 c0_0 A0_2 c0_2 w hLW (okPB_of (p := ⟨l0_0, ⟨a0_1, l0_2⟩⟩).1 hk) hr0_0 hr0_2
  · cases h
end Go.Proofs.YthebhbomlllpeaaGreatDoor.X
namespace Go.Proofs.YthebhbomlllpeaaGreatDoor.X
set_option linter.unusedVariables false
set_option linter.unusedSimpArgs false
open Go.RowKit Go.Proofs.YthebhbomlllpeaaGreatDoorW.PrintWords Go.Proofs.YthebhbomlllpeaaGreatDoorW.PrintLast Go.Proofs.YthebhbomlllpeaaGreatDoorW.PrintMore
def aw9L : List S69 := [⟨1, ⟨#[97]⟩⟩, ⟨1, ⟨#[98]⟩⟩, ⟨1, ⟨#[99]⟩⟩, ⟨4, ⟨#[]⟩⟩, ⟨3, ⟨#[]⟩⟩]
def aw9T : List S60 := [⟨⟨#[88]⟩, ⟨0, 0, ⟨#[]⟩⟩⟩]
theorem aw9_1 : show_Path.f aw9L = some ⟨#[97, 47, 40, 98, 124, 99, 41]⟩ := by kernel_rfl
theorem aw9_3 : show_RightPath.f aw9L = some true := by kernel_rfl
theorem aw9_5 : show_Right.f [] ⟨#[113]⟩ aw9T = some true := by kernel_rfl
theorem aw9_7 : show_Text.f [] ⟨#[113]⟩ aw9T = some ⟨#[63, 45, 32, 113, 40, 88, 41, 46, 10]⟩ := by kernel_rfl
theorem aw9_9 : show_Atom.f ⟨#[113]⟩ aw9T = some ⟨#[113, 40, 88, 41]⟩ := by kernel_rfl
theorem aw9_11 : show_Rule.f ⟨#[113]⟩ aw9T 0 [] = some ⟨#[113, 40, 88, 41, 46]⟩ := by kernel_rfl
theorem lit_eq {a : ByteArray} {l : List UInt8} (h : a.data.toList = l) : (a.toList == l) = true := by rw [beq_iff_eq, ByteArray.toList_eq]; exact h
set_option maxHeartbeats 8000000 in
set_option maxRecDepth 100000 in
theorem awake9_calls (w : World) (hLW : LaidW w) :
    Calls Tryz.prog 16 #[] w fun e w' => e = .returned (.bool true) ∧ Below w.heap.size w w' := by
  have HLW := Aside0.mk hLW
  clear hLW
  have HB := Aside0.mk (Below.refl w.heap.size w)
  obtain ⟨y127, hy127⟩ : ∃ y_ : List S69, y_ = aw9L := ⟨_, rfl⟩
  obtain ⟨y130, hy130⟩ : ∃ y_ : List S60, y_ = aw9T := ⟨_, rfl⟩
  have Ny127 := Aside0.mk (show y127 = ([(⟨1, (⟨#[97]⟩ : ByteArray)⟩ : S69), (⟨1, (⟨#[98]⟩ : ByteArray)⟩ : S69), (⟨1, (⟨#[99]⟩ : ByteArray)⟩ : S69), (⟨4, (⟨#[]⟩ : ByteArray)⟩ : S69), (⟨3, (⟨#[]⟩ : ByteArray)⟩ : S69)] : List S69) from hy127)
  have Ny130 := Aside0.mk (show y130 = ([(⟨(⟨#[88]⟩ : ByteArray), (⟨0, 0, (⟨#[]⟩ : ByteArray)⟩ : S58)⟩ : S60)] : List S60) from hy130)
  obtain ⟨t134, h1, c2b0⟩ : ∃ t, show_Path.f y127 = some t ∧ (t.toList == ([97, 47, 40, 98, 124, 99, 41] : List UInt8)) = true := ⟨_, hy127 ▸ aw9_1, lit_eq rfl⟩
  obtain ⟨t137, h7, c8b0⟩ : ∃ t, show_Text.f [] ⟨#[113]⟩ y130 = some t ∧ (t.toList == ([63, 45, 32, 113, 40, 88, 41, 46, 10] : List UInt8)) = true := ⟨_, hy130 ▸ aw9_7, lit_eq rfl⟩
  obtain ⟨t138, h9, c10b0⟩ : ∃ t, show_Atom.f ⟨#[113]⟩ y130 = some t ∧ (t.toList == ([113, 40, 88, 41] : List UInt8)) = true := ⟨_, hy130 ▸ aw9_9, lit_eq rfl⟩
  obtain ⟨t139, h11, c12b0⟩ : ∃ t, show_Rule.f ⟨#[113]⟩ y130 0 [] = some t ∧ (t.toList == ([113, 40, 88, 41, 46] : List UInt8)) = true := ⟨_, hy130 ▸ aw9_11, lit_eq rfl⟩
  have A1 := Aside0.mk h1
  have A3 := Aside0.mk (show show_RightPath.f y127 = some true from hy127 ▸ aw9_3)
  have A5 := Aside0.mk (show show_Right.f [] ⟨#[113]⟩ y130 = some true from hy130 ▸ aw9_5)
  have A7 := Aside0.mk h7
  have A9 := Aside0.mk h9
  have A11 := Aside0.mk h11
  clear h1 h7 h9 h11 hy127 hy130
  go_enter Tryz.func16, Tryz.ntmps16
  go_wp2_with (first | ((with_reducible refine gate_dst (N := 8) rfl ?_); refine Kd.R_lit k69 _ 69 ?hg (N := 8) ?hd (xs := ([(⟨1, (⟨#[97]⟩ : ByteArray)⟩ : S69), (⟨1, (⟨#[98]⟩ : ByteArray)⟩ : S69), (⟨1, (⟨#[99]⟩ : ByteArray)⟩ : S69), (⟨4, (⟨#[]⟩ : ByteArray)⟩ : S69), (⟨3, (⟨#[]⟩ : ByteArray)⟩ : S69)] : List (S69))) (inner := [.int .i64 1, .string (⟨#[97]⟩ : ByteArray), .int .i64 1, .string (⟨#[98]⟩ : ByteArray), .int .i64 1, .string (⟨#[99]⟩ : ByteArray), .int .i64 4, .string (⟨#[]⟩ : ByteArray), .int .i64 3, .string (⟨#[]⟩ : ByteArray)]) (ok := fun _ => True) (okp := fun _ => True) ?hr ?hp (fun _ hk => hk) trivial (Below.refl _ _) (Nat.le_refl _) (by simp) ?_; (case hd => rfl); (case hg => rfl); (case hr => first | (go_simp; done) | (go_simp; rfl)); (case hp => exact (Reps.c2 (show Kd.M k69 _ _ _ (⟨1, (⟨#[97]⟩ : ByteArray)⟩ : S69) [.int .i64 1, .string (⟨#[97]⟩ : ByteArray)] from (k69_mkM _ _ _ (⟨1, (⟨#[97]⟩ : ByteArray)⟩ : S69) )) (Reps.c2 (show Kd.M k69 _ _ _ (⟨1, (⟨#[98]⟩ : ByteArray)⟩ : S69) [.int .i64 1, .string (⟨#[98]⟩ : ByteArray)] from (k69_mkM _ _ _ (⟨1, (⟨#[98]⟩ : ByteArray)⟩ : S69) )) (Reps.c2 (show Kd.M k69 _ _ _ (⟨1, (⟨#[99]⟩ : ByteArray)⟩ : S69) [.int .i64 1, .string (⟨#[99]⟩ : ByteArray)] from (k69_mkM _ _ _ (⟨1, (⟨#[99]⟩ : ByteArray)⟩ : S69) )) (Reps.c2 (show Kd.M k69 _ _ _ (⟨4, (⟨#[]⟩ : ByteArray)⟩ : S69) [.int .i64 4, .string (⟨#[]⟩ : ByteArray)] from (k69_mkM _ _ _ (⟨4, (⟨#[]⟩ : ByteArray)⟩ : S69) )) (Reps.c2 (show Kd.M k69 _ _ _ (⟨3, (⟨#[]⟩ : ByteArray)⟩ : S69) [.int .i64 3, .string (⟨#[]⟩ : ByteArray)] from (k69_mkM _ _ _ (⟨3, (⟨#[]⟩ : ByteArray)⟩ : S69) )) (Reps.none _ _))))))); intro v128 w12 ho13 hb hg_ hnew_; clear hg_ hnew_; (first | rw [← Ny127.out] at ho13 | (simp only [Int.reduceToNat] at ho13; rw [← Ny127.out] at ho13)); have n0_ := Aside0.mk (Kd.R_lower ho13 (below_size (by repeat (first | (with_reducible first | exact HB.out | apply below_alloc | apply pw_below_drewN | apply below_drew1) | exact HB.out)))); have n1_ := Aside0.mk (below_step (by repeat (first | (with_reducible first | exact HB.out | apply below_alloc | apply pw_below_drewN | apply below_drew1) | exact HB.out)) hb); clear HB; have HO129 := n0_; have HB := n1_; clear n0_ n1_; clear hb ho13) | ((with_reducible refine gate_dst (N := 10) rfl ?_); refine Kd.R_lit k60 _ 60 ?hg (N := 10) ?hd (xs := ([(⟨(⟨#[88]⟩ : ByteArray), (⟨0, 0, (⟨#[]⟩ : ByteArray)⟩ : S58)⟩ : S60)] : List (S60))) (inner := [.string (⟨#[88]⟩ : ByteArray), .int .i64 0, .int .i64 0, .string (⟨#[]⟩ : ByteArray)]) (ok := fun _ => True) (okp := fun _ => True) ?hr ?hp (fun _ hk => hk) trivial (Below.refl _ _) (Nat.le_refl _) (by simp) ?_; (case hd => rfl); (case hg => rfl); (case hr => first | (go_simp; done) | (go_simp; rfl)); (case hp => exact (Reps.c4 (show Kd.M k60 _ _ _ (⟨(⟨#[88]⟩ : ByteArray), (⟨0, 0, (⟨#[]⟩ : ByteArray)⟩ : S58)⟩ : S60) [.string (⟨#[88]⟩ : ByteArray), .int .i64 0, .int .i64 0, .string (⟨#[]⟩ : ByteArray)] from (k60_mkM _ _ _ (⟨(⟨#[88]⟩ : ByteArray), (⟨0, 0, (⟨#[]⟩ : ByteArray)⟩ : S58)⟩ : S60) )) (Reps.none _ _))); intro v131 w14 ho15 hb hg_ hnew_; clear hg_ hnew_; (first | rw [← Ny130.out] at ho15 | (simp only [Int.reduceToNat] at ho15; rw [← Ny130.out] at ho15)); have n0_ := Aside0.mk (Kd.R_below (by (with_reducible repeat (first | apply Kd.R_alloc | apply Kd.R_drewN | apply Kd.R_drew)); exact HO129.out) hb); have n1_ := Aside0.mk (Kd.R_lower ho15 (below_size (by repeat (first | (with_reducible first | exact HB.out | apply below_alloc | apply pw_below_drewN | apply below_drew1) | exact HB.out)))); have n2_ := Aside0.mk (below_step (by repeat (first | (with_reducible first | exact HB.out | apply below_alloc | apply pw_below_drewN | apply below_drew1) | exact HB.out)) hb); clear HO129; clear HB; have HO129 := n0_; have HO132 := n1_; have HB := n2_; clear n0_ n1_ n2_; clear hb ho15; obtain ⟨Ao16, co16, eo16⟩ := Kd.R_slice HO132.out; subst eo16) | ((with_reducible refine gate_dst (N := 2) rfl ?_); refine box_event ?hg (N := 2) ?hd (cs := #[.slice none 0 0, .string (⟨#[]⟩ : ByteArray), .slice none 0 0]) (t := 27) ?hr ?_; (case hd => rfl); (case hg => rfl); (case hr => first | (go_simp; done) | (go_simp; rfl)); intro gb133 hg w17 hbox hb; have n0_ := Aside0.mk (Kd.R_below (by (with_reducible repeat (first | apply Kd.R_alloc | apply Kd.R_drewN | apply Kd.R_drew)); exact HO129.out) hb); have n1_ := Aside0.mk (Kd.R_below (by (with_reducible repeat (first | apply Kd.R_alloc | apply Kd.R_drewN | apply Kd.R_drew)); exact HO132.out) hb); have n2_ := Aside0.mk (below_step (by repeat (first | (with_reducible first | exact HB.out | apply below_alloc | apply pw_below_drewN | apply below_drew1) | exact HB.out)) hb); have n3_ := Aside0.mk (hbox); have n4_ := Aside0.mk ((by rw [hg]; exact (below_size (by repeat (first | (with_reducible first | exact HB.out | apply below_alloc | apply pw_below_drewN | apply below_drew1) | exact HB.out))) : w.heap.size ≤ gb133)); have n5_ := Aside0.mk ((by rw [hg]; exact (below_size (by repeat (first | (with_reducible first | exact HB.out | apply below_alloc | apply pw_below_drewN | apply below_drew1) | exact HB.out))) : w.heap.size ≤ gb133)); clear HO129; clear HO132; clear HB; have HO129 := n0_; have HO132 := n1_; have HB := n2_; have BK133 := n3_; have GW133 := n4_; have GE133 := n5_; clear n0_ n1_ n2_ n3_ n4_ n5_; clear hb hbox hg; have hcz18_0 : w17.cell? ⟨gb133, 0, none⟩ = some (.slice none 0 0) := (blk_cell BK133.out 0).trans rfl; have hcz18_1 : w17.cell? ⟨gb133, 1, none⟩ = some (.string (⟨#[]⟩ : ByteArray)) := (blk_cell BK133.out 1).trans rfl; have hcz18_2 : w17.cell? ⟨gb133, 2, none⟩ = some (.slice none 0 0) := (blk_cell BK133.out 2).trans rfl; have hfz18_0 := blk_frozen BK133.out 0; have hfz18_1 := blk_frozen BK133.out 1; have hfz18_2 := blk_frozen BK133.out 2; obtain ⟨Ao19, co19, eo19⟩ := Kd.R_slice HO129.out; subst eo19) | ((with_reducible refine gate_callee (f := 25) rfl ?_); refine goesL_ (some 14) rfl rfl Tryz.func25 (by kernel_rfl) rfl #[.slice Ao19 y127.length co19] rfl (by (try simp only [List.map_toArray, List.map_cons, List.map_nil]); first | done | rfl | (simp only [List.length_drop, List.length_take]; rfl)) ?_; (with_reducible refine (show_Path.calls _ _ y127 t134 _ ?side3 ?side1 ?side2 A1.out).mono ?_); (case side1 => refine (Kd.R_reads' (e := 69) (base := w.heap.size) (ok := fun k_ => True) (n := y127.length) (c := co19) ?_).2.2; exact (by (with_reducible repeat (first | apply Kd.R_alloc | apply Kd.R_drewN | apply Kd.R_drew)); exact (Kd.R_mono (Kd.R_far (p := ⟨gb133, 2, none⟩) (Kd.R_far (p := ⟨gb133, 1, none⟩) (Kd.R_far (p := ⟨gb133, 0, none⟩) (Kd.R_types HO129.out BK133.out (by decide)) (fun _ hk => hk.2) (.slice none 0 0)) (fun _ hk => hk.2) (.string (⟨#[113]⟩ : ByteArray))) (fun _ hk => hk.2) (.slice Ao16 y130.length co16)) (fun _ h_ => h_.1)))); (case side2 => exact (Kd.R_reads' HO129.out).2.1); (case side3 => (first | (refine LaidW.below HLW.out ?_; (repeat (first | (with_reducible first | exact HB.out | apply below_alloc | apply pw_below_drewN | apply below_drew1 | refine below_set ?_ GE133.out) | exact HB.out)); done) | (repeat (first | exact HLW.out | apply LaidW.drewN | apply LaidW.drew | apply LaidW.alloc)))); rintro e w20 ⟨rfl, hb⟩; refine ⟨_, rfl, ?_⟩; have n0_ := Aside0.mk (Kd.R_below (by (with_reducible repeat (first | apply Kd.R_alloc | apply Kd.R_drewN | apply Kd.R_drew)); exact (Kd.R_mono (Kd.R_far (p := ⟨gb133, 2, none⟩) (Kd.R_far (p := ⟨gb133, 1, none⟩) (Kd.R_far (p := ⟨gb133, 0, none⟩) (Kd.R_types HO129.out BK133.out (by decide)) (fun _ hk => hk.2) (.slice none 0 0)) (fun _ hk => hk.2) (.string (⟨#[113]⟩ : ByteArray))) (fun _ hk => hk.2) (.slice Ao16 y130.length co16)) (fun _ h_ => h_.1))) hb); have n1_ := Aside0.mk (Kd.R_below (by (with_reducible repeat (first | apply Kd.R_alloc | apply Kd.R_drewN | apply Kd.R_drew)); exact (Kd.R_mono (Kd.R_far (p := ⟨gb133, 2, none⟩) (Kd.R_far (p := ⟨gb133, 1, none⟩) (Kd.R_far (p := ⟨gb133, 0, none⟩) (Kd.R_types HO132.out BK133.out (by decide)) (fun _ hk => hk.2) (.slice none 0 0)) (fun _ hk => hk.2) (.string (⟨#[113]⟩ : ByteArray))) (fun _ hk => hk.2) (.slice Ao16 y130.length co16)) (fun _ h_ => h_.1))) hb); have n2_ := Aside0.mk (blk_below (g := gb133) (o := .cells #[.slice none 0 0, .string (⟨#[113]⟩ : ByteArray), .slice Ao16 y130.length co16] 27 (0, 0)) (by (with_reducible repeat (first | refine blk_drewN ?_ _ | refine blk_drew ?_ | refine blk_alloc ?_ _)); refine blk_put (cs := #[.slice none 0 0, .string (⟨#[113]⟩ : ByteArray), .slice none 0 0]) ?_ 2 _ rfl; (with_reducible repeat (first | refine blk_drewN ?_ _ | refine blk_drew ?_ | refine blk_alloc ?_ _)); refine blk_put (cs := #[.slice none 0 0, .string (⟨#[]⟩ : ByteArray), .slice none 0 0]) ?_ 1 _ rfl; (with_reducible repeat (first | refine blk_drewN ?_ _ | refine blk_drew ?_ | refine blk_alloc ?_ _)); refine blk_put (cs := #[.slice none 0 0, .string (⟨#[]⟩ : ByteArray), .slice none 0 0]) ?_ 0 _ rfl; (with_reducible repeat (first | refine blk_drewN ?_ _ | refine blk_drew ?_ | refine blk_alloc ?_ _)); exact BK133.out) hb); have n3_ := Aside0.mk (below_step (by repeat (first | (with_reducible first | exact HB.out | apply below_alloc | apply pw_below_drewN | apply below_drew1 | refine below_set ?_ GE133.out) | exact HB.out)) hb); clear HO129; clear HO132; clear BK133; clear HB; have HO129 := n0_; have HO132 := n1_; have BK133 := n2_; have HB := n3_; clear n0_ n1_ n2_ n3_; (try clear hb); (try clear hb2); (try clear hk); (try clear hi)) | (go_at_call 27; (with_reducible refine (show_RightPath.calls _ _ y127 true _ ?side3 ?side1 ?side2 A3.out).mono ?_); (case side1 => repeat (first | exact (Kd.R_reads' HO129.out).2.2 | (with_reducible refine Kd.C_alloc ?_ _) | (with_reducible refine Kd.C_drewN ?_ _) | (with_reducible refine Kd.C_drew ?_))); (case side2 => exact (Kd.R_reads' HO129.out).2.1); (case side3 => (first | (refine LaidW.below HLW.out ?_; (repeat (first | (with_reducible first | exact HB.out | apply below_alloc | apply pw_below_drewN | apply below_drew1 | refine below_set ?_ GE133.out) | exact HB.out)); done) | (repeat (first | exact HLW.out | apply LaidW.drewN | apply LaidW.drew | apply LaidW.alloc)))); rintro e w21 ⟨rfl, hb⟩; have n0_ := Aside0.mk (Kd.R_below (by (with_reducible repeat (first | apply Kd.R_alloc | apply Kd.R_drewN | apply Kd.R_drew)); exact HO129.out) hb); have n1_ := Aside0.mk (Kd.R_below (by (with_reducible repeat (first | apply Kd.R_alloc | apply Kd.R_drewN | apply Kd.R_drew)); exact HO132.out) hb); have n2_ := Aside0.mk (blk_below (g := gb133) (o := .cells #[.slice none 0 0, .string (⟨#[113]⟩ : ByteArray), .slice Ao16 y130.length co16] 27 (0, 0)) (by (with_reducible repeat (first | refine blk_drewN ?_ _ | refine blk_drew ?_ | refine blk_alloc ?_ _)); exact BK133.out) hb); have n3_ := Aside0.mk (below_step (by repeat (first | (with_reducible first | exact HB.out | apply below_alloc | apply pw_below_drewN | apply below_drew1 | refine below_set ?_ GE133.out) | exact HB.out)) hb); clear HO129; clear HO132; clear BK133; clear HB; have HO129 := n0_; have HO132 := n1_; have BK133 := n2_; have HB := n3_; clear n0_ n1_ n2_ n3_; (try clear hb); (try clear hb2); (try clear hk); (try clear hi); have hcz22_0 : w21.cell? ⟨gb133, 0, none⟩ = some (.slice none 0 0) := (blk_cell BK133.out 0).trans rfl; have hcz22_1 : w21.cell? ⟨gb133, 1, none⟩ = some (.string (⟨#[113]⟩ : ByteArray)) := (blk_cell BK133.out 1).trans rfl; have hcz22_2 : w21.cell? ⟨gb133, 2, none⟩ = some (.slice Ao16 y130.length co16) := (blk_cell BK133.out 2).trans rfl; have hfz22_0 := blk_frozen BK133.out 0; have hfz22_1 := blk_frozen BK133.out 1; have hfz22_2 := blk_frozen BK133.out 2) | (go_at_call 22; (refine (show_Right.calls _ _ ([] : List (S33)) (⟨#[113]⟩ : ByteArray) _ _ y130 true _ ?side5 ?side1 ?side2 ?side3 ?side4 A5.out).mono ?_); (case side1 => exact Kd.C_nil _ _); (case side2 => exact Nat.le_refl _); (case side3 => repeat (first | exact (Kd.R_reads' HO132.out).2.2 | (with_reducible refine Kd.C_alloc ?_ _) | (with_reducible refine Kd.C_drewN ?_ _) | (with_reducible refine Kd.C_drew ?_))); (case side4 => exact (Kd.R_reads' HO132.out).2.1); (case side5 => (first | (refine LaidW.below HLW.out ?_; (repeat (first | (with_reducible first | exact HB.out | apply below_alloc | apply pw_below_drewN | apply below_drew1 | refine below_set ?_ GE133.out) | exact HB.out)); done) | (repeat (first | exact HLW.out | apply LaidW.drewN | apply LaidW.drew | apply LaidW.alloc)))); rintro e w23 ⟨rfl, hb⟩; have n0_ := Aside0.mk (Kd.R_below (by (with_reducible repeat (first | apply Kd.R_alloc | apply Kd.R_drewN | apply Kd.R_drew)); exact HO129.out) hb); have n1_ := Aside0.mk (Kd.R_below (by (with_reducible repeat (first | apply Kd.R_alloc | apply Kd.R_drewN | apply Kd.R_drew)); exact HO132.out) hb); have n2_ := Aside0.mk (blk_below (g := gb133) (o := .cells #[.slice none 0 0, .string (⟨#[113]⟩ : ByteArray), .slice Ao16 y130.length co16] 27 (0, 0)) (by (with_reducible repeat (first | refine blk_drewN ?_ _ | refine blk_drew ?_ | refine blk_alloc ?_ _)); exact BK133.out) hb); have n3_ := Aside0.mk (below_step (by repeat (first | (with_reducible first | exact HB.out | apply below_alloc | apply pw_below_drewN | apply below_drew1 | refine below_set ?_ GE133.out) | exact HB.out)) hb); clear HO129; clear HO132; clear BK133; clear HB; have HO129 := n0_; have HO132 := n1_; have BK133 := n2_; have HB := n3_; clear n0_ n1_ n2_ n3_; (try clear hb); (try clear hb2); (try clear hk); (try clear hi); have hcz24_0 : w23.cell? ⟨gb133, 0, none⟩ = some (.slice none 0 0) := (blk_cell BK133.out 0).trans rfl; have hcz24_1 : w23.cell? ⟨gb133, 1, none⟩ = some (.string (⟨#[113]⟩ : ByteArray)) := (blk_cell BK133.out 1).trans rfl; have hcz24_2 : w23.cell? ⟨gb133, 2, none⟩ = some (.slice Ao16 y130.length co16) := (blk_cell BK133.out 2).trans rfl; have hfz24_0 := blk_frozen BK133.out 0; have hfz24_1 := blk_frozen BK133.out 1; have hfz24_2 := blk_frozen BK133.out 2) | (go_at_call 20; (refine (show_Text.calls _ _ ([] : List (S33)) (⟨#[113]⟩ : ByteArray) _ _ y130 t137 _ ?side5 ?side1 ?side2 ?side3 ?side4 A7.out).mono ?_); (case side1 => exact Kd.C_nil _ _); (case side2 => exact Nat.le_refl _); (case side3 => repeat (first | exact (Kd.R_reads' HO132.out).2.2 | (with_reducible refine Kd.C_alloc ?_ _) | (with_reducible refine Kd.C_drewN ?_ _) | (with_reducible refine Kd.C_drew ?_))); (case side4 => exact (Kd.R_reads' HO132.out).2.1); (case side5 => (first | (refine LaidW.below HLW.out ?_; (repeat (first | (with_reducible first | exact HB.out | apply below_alloc | apply pw_below_drewN | apply below_drew1 | refine below_set ?_ GE133.out) | exact HB.out)); done) | (repeat (first | exact HLW.out | apply LaidW.drewN | apply LaidW.drew | apply LaidW.alloc)))); rintro e w25 ⟨rfl, hb⟩; have n0_ := Aside0.mk (Kd.R_below (by (with_reducible repeat (first | apply Kd.R_alloc | apply Kd.R_drewN | apply Kd.R_drew)); exact HO129.out) hb); have n1_ := Aside0.mk (Kd.R_below (by (with_reducible repeat (first | apply Kd.R_alloc | apply Kd.R_drewN | apply Kd.R_drew)); exact HO132.out) hb); have n2_ := Aside0.mk (blk_below (g := gb133) (o := .cells #[.slice none 0 0, .string (⟨#[113]⟩ : ByteArray), .slice Ao16 y130.length co16] 27 (0, 0)) (by (with_reducible repeat (first | refine blk_drewN ?_ _ | refine blk_drew ?_ | refine blk_alloc ?_ _)); exact BK133.out) hb); have n3_ := Aside0.mk (below_step (by repeat (first | (with_reducible first | exact HB.out | apply below_alloc | apply pw_below_drewN | apply below_drew1 | refine below_set ?_ GE133.out) | exact HB.out)) hb); clear HO129; clear HO132; clear BK133; clear HB; have HO129 := n0_; have HO132 := n1_; have BK133 := n2_; have HB := n3_; clear n0_ n1_ n2_ n3_; (try clear hb); (try clear hb2); (try clear hk); (try clear hi); have hcz26_0 : w25.cell? ⟨gb133, 0, none⟩ = some (.slice none 0 0) := (blk_cell BK133.out 0).trans rfl; have hcz26_1 : w25.cell? ⟨gb133, 1, none⟩ = some (.string (⟨#[113]⟩ : ByteArray)) := (blk_cell BK133.out 1).trans rfl; have hcz26_2 : w25.cell? ⟨gb133, 2, none⟩ = some (.slice Ao16 y130.length co16) := (blk_cell BK133.out 2).trans rfl; have hfz26_0 := blk_frozen BK133.out 0; have hfz26_1 := blk_frozen BK133.out 1; have hfz26_2 := blk_frozen BK133.out 2) | (go_at_call 23; (with_reducible refine (show_Atom.calls (⟨#[113]⟩ : ByteArray) _ _ y130 t138 _ ?side3 ?side1 ?side2 A9.out).mono ?_); (case side1 => repeat (first | exact (Kd.R_reads' HO132.out).2.2 | (with_reducible refine Kd.C_alloc ?_ _) | (with_reducible refine Kd.C_drewN ?_ _) | (with_reducible refine Kd.C_drew ?_))); (case side2 => exact (Kd.R_reads' HO132.out).2.1); (case side3 => (first | (refine LaidW.below HLW.out ?_; (repeat (first | (with_reducible first | exact HB.out | apply below_alloc | apply pw_below_drewN | apply below_drew1 | refine below_set ?_ GE133.out) | exact HB.out)); done) | (repeat (first | exact HLW.out | apply LaidW.drewN | apply LaidW.drew | apply LaidW.alloc)))); rintro e w27 ⟨rfl, hb⟩; have n0_ := Aside0.mk (Kd.R_below (by (with_reducible repeat (first | apply Kd.R_alloc | apply Kd.R_drewN | apply Kd.R_drew)); exact HO129.out) hb); have n1_ := Aside0.mk (Kd.R_below (by (with_reducible repeat (first | apply Kd.R_alloc | apply Kd.R_drewN | apply Kd.R_drew)); exact HO132.out) hb); have n2_ := Aside0.mk (blk_below (g := gb133) (o := .cells #[.slice none 0 0, .string (⟨#[113]⟩ : ByteArray), .slice Ao16 y130.length co16] 27 (0, 0)) (by (with_reducible repeat (first | refine blk_drewN ?_ _ | refine blk_drew ?_ | refine blk_alloc ?_ _)); exact BK133.out) hb); have n3_ := Aside0.mk (below_step (by repeat (first | (with_reducible first | exact HB.out | apply below_alloc | apply pw_below_drewN | apply below_drew1 | refine below_set ?_ GE133.out) | exact HB.out)) hb); clear HO129; clear HO132; clear BK133; clear HB; have HO129 := n0_; have HO132 := n1_; have BK133 := n2_; have HB := n3_; clear n0_ n1_ n2_ n3_; (try clear hb); (try clear hb2); (try clear hk); (try clear hi); have hcz28_0 : w27.cell? ⟨gb133, 0, none⟩ = some (.slice none 0 0) := (blk_cell BK133.out 0).trans rfl; have hcz28_1 : w27.cell? ⟨gb133, 1, none⟩ = some (.string (⟨#[113]⟩ : ByteArray)) := (blk_cell BK133.out 1).trans rfl; have hcz28_2 : w27.cell? ⟨gb133, 2, none⟩ = some (.slice Ao16 y130.length co16) := (blk_cell BK133.out 2).trans rfl; have hfz28_0 := blk_frozen BK133.out 0; have hfz28_1 := blk_frozen BK133.out 1; have hfz28_2 := blk_frozen BK133.out 2) | (go_at_call 18; (refine (show_Rule.calls (⟨#[113]⟩ : ByteArray) _ _ y130 0 _ _ ([] : List (S62)) t139 _ ?side5 ?side1 ?side2 ?side3 ?side4 A11.out).mono ?_); (case side1 => repeat (first | exact (Kd.R_reads' HO132.out).2.2 | (with_reducible refine Kd.C_alloc ?_ _) | (with_reducible refine Kd.C_drewN ?_ _) | (with_reducible refine Kd.C_drew ?_))); (case side2 => exact (Kd.R_reads' HO132.out).2.1); (case side3 => exact Kd.C_nil _ _); (case side4 => exact Nat.le_refl _); (case side5 => (first | (refine LaidW.below HLW.out ?_; (repeat (first | (with_reducible first | exact HB.out | apply below_alloc | apply pw_below_drewN | apply below_drew1 | refine below_set ?_ GE133.out) | exact HB.out)); done) | (repeat (first | exact HLW.out | apply LaidW.drewN | apply LaidW.drew | apply LaidW.alloc)))); rintro e w29 ⟨rfl, hb⟩; have n0_ := Aside0.mk (Kd.R_below (by (with_reducible repeat (first | apply Kd.R_alloc | apply Kd.R_drewN | apply Kd.R_drew)); exact HO129.out) hb); have n1_ := Aside0.mk (Kd.R_below (by (with_reducible repeat (first | apply Kd.R_alloc | apply Kd.R_drewN | apply Kd.R_drew)); exact HO132.out) hb); have n2_ := Aside0.mk (blk_below (g := gb133) (o := .cells #[.slice none 0 0, .string (⟨#[113]⟩ : ByteArray), .slice Ao16 y130.length co16] 27 (0, 0)) (by (with_reducible repeat (first | refine blk_drewN ?_ _ | refine blk_drew ?_ | refine blk_alloc ?_ _)); exact BK133.out) hb); have n3_ := Aside0.mk (below_step (by repeat (first | (with_reducible first | exact HB.out | apply below_alloc | apply pw_below_drewN | apply below_drew1 | refine below_set ?_ GE133.out) | exact HB.out)) hb); clear HO129; clear HO132; clear BK133; clear HB; have HO129 := n0_; have HO132 := n1_; have BK133 := n2_; have HB := n3_; clear n0_ n1_ n2_ n3_; (try clear hb); (try clear hb2); (try clear hk); (try clear hi)))
  go_ret
  exact ⟨by first | rfl | (simp [errW_none, errW_some] <;> rfl) | (simp [*, errW_none, errW_some] <;> rfl), by repeat (first | (with_reducible first | exact HB.out | apply below_alloc | apply pw_below_drewN | apply below_drew1 | refine below_set ?_ GE133.out) | exact HB.out)⟩
end Go.Proofs.YthebhbomlllpeaaGreatDoor.X
namespace Go.Proofs.YthebhbomlllpeaaGreatDoor.X
set_option linter.unusedVariables false
set_option linter.unusedSimpArgs false
open Go.RowKit Go.Proofs.YthebhbomlllpeaaGreatDoorW.PrintWords Go.Proofs.YthebhbomlllpeaaGreatDoorW.PrintLast Go.Proofs.YthebhbomlllpeaaGreatDoorW.PrintMore
/-- the code of the reference's text comes to textR. -/
def TextOk (l : List StS) : Prop := ∀ (A : Option Addr) (c : Nat) (w : World), Kd.C k69 w A l.length l →
    Calls Tryz.prog 52 #[.slice A l.length c, .int .i64 (l.length : Int)] w fun e' w' => e' = .returned (.tuple #[.int .i64 (outT (textR l (l.length + 1) l.length)).1, .string (outT (textR l (l.length + 1) l.length)).2.1, .int .i64 (outT (textR l (l.length + 1) l.length)).2.2]) ∧ Below w.heap.size w w'
/-- the path, out of what the text gives. -/
def endR : Option (Nat × Pc) → List UInt8
  | some (0, p) => if 32 < deepS p.1 then [] else p.1
  | _ => []
theorem pathR_end {l : List StS} (h : ¬ 100 < l.length) : pathR l = endR (textR l (l.length + 1) l.length) := by
  unfold pathR
  rw [if_neg h]
  rcases textR l (l.length + 1) l.length with _ | ⟨_ | f, p⟩ <;> rfl
set_option maxHeartbeats 4000000 in
set_option maxRecDepth 100000 in
theorem refPath_of (l : List StS) (hT : l.length ≤ 100 → TextOk l) (A : Option Addr) (c : Nat) (w : World) (hC : Kd.C k69 w A l.length l) (hl63 : l.length ≤ 140737488355328) :
    Calls Tryz.prog 26 #[.slice A l.length c] w fun e w' => e = .returned (.string (baL (pathL l))) ∧ Below w.heap.size w w' := by
  rw [← pathR_eq]
  obtain ⟨res, hres⟩ : ∃ r, pathR l = r := ⟨_, rfl⟩
  have HRE := Aside0.mk hres
  rw [hres]
  by_cases h100 : 100 < l.length
  · have e1 : decide ((100 : Int) < (l.length : Int)) = true := decide_eq_true (by omega)
    have e2 : decide (100 < l.length) = true := decide_eq_true h100
    have HE := Aside0.mk (show res = [] by rw [← HRE.out]; exact if_pos h100)
    have HB := Aside0.mk (Below.refl w.heap.size w)
    clear hC hres hT
    go_enter Tryz.func26, Tryz.ntmps26
    go_wp2
    go_ret
    exact ⟨by rw [HE.out]; rfl, HB.out⟩
  · have e1 : decide ((100 : Int) < (l.length : Int)) = false := decide_eq_false (by omega)
    have e2 : decide (100 < l.length) = false := decide_eq_false h100
    have hT0 := hT (by omega) A c w hC
    obtain ⟨o, ho⟩ : ∃ o, textR l (l.length + 1) l.length = o := ⟨_, rfl⟩
    have HO := Aside0.mk ho
    have HE := Aside0.mk (show res = endR o by rw [← HRE.out, ← ho]; exact pathR_end h100)
    rw [ho] at hT0
    have HT := Aside0.mk hT0
    have HLN := Aside0.mk (show l.length ≤ 100 by omega)
    clear hC hres hT ho hT0 HRE
    go_enter Tryz.func26, Tryz.ntmps26
    go_wp2_with fail
    refine HT.out.mono ?_
    rintro e w1 ⟨rfl, hb⟩
    have HB := Aside0.mk hb
    clear hb HT
    cases o with
    | none =>
      simp only [outT]
      go_wp2
      go_ret
      exact ⟨by rw [HE.out]; rfl, HB.out⟩
    | some b =>
      obtain ⟨f, p⟩ := b
      simp only [outT]
      cases f with
      | succ f =>
        have g1 : (((f + 1 : Nat) : Int) == 0) = false := beq_eq_false_iff_ne.2 (by omega)
        have g2 : (((f + 1 : Nat) : Int) != 0) = true := bne_iff_ne.2 (by omega)
        obtain ⟨g, hg⟩ : ∃ g : Int, ((f + 1 : Nat) : Int) = g := ⟨_, rfl⟩
        rw [hg] at g1 g2 ⊢
        clear hg
        go_wp2
        go_ret
        exact ⟨by rw [HE.out]; rfl, HB.out⟩
      | zero =>
        have hp := (textR_len (Nat.le_refl _) HO.out).1
        have hlen := HLN.out
        have HD := Aside0.mk (fun V => antecedentref08_Deep.calls 80100 (baL p.1) ((deepS p.1 : Nat) : Int) V (ref_deep p.1 (by omega) 80100 (Nat.le_refl _)))
        obtain ⟨dp, hdp⟩ : ∃ d, deepS p.1 = d := ⟨_, rfl⟩
        have HE2 := Aside0.mk (show res = if 32 < dp then [] else p.1 by rw [HE.out, ← hdp]; rfl)
        rw [hdp] at HD
        clear hdp HE hp hlen
        go_wp2_with fail
        refine (HD.out _).mono ?_
        rintro e w2 ⟨rfl, hb⟩
        have HB2 := Aside0.mk (below_then HB.out HB.out.size hb)
        clear hb
        by_cases h32 : 32 < dp
        · have g1 : decide ((32 : Int) < (dp : Int)) = true := decide_eq_true (by omega)
          have g2 : decide (32 < dp) = true := decide_eq_true h32
          go_wp2
          go_ret
          exact ⟨by rw [HE2.out, if_pos h32]; rfl, HB2.out⟩
        · have g1 : decide ((32 : Int) < (dp : Int)) = false := decide_eq_false (by omega)
          have g2 : decide (32 < dp) = false := decide_eq_false h32
          go_wp2
          go_ret
          exact ⟨by rw [HE2.out, if_neg h32]; rfl, HB2.out⟩
theorem eql_bool (x y : Bool) (w : World) : (binOp .eql 4 (.bool x) (.bool y)).run Tryz.prog w = .ok (.bool (x == y)) w := by
  simp only [binOp]
  simp [run_equal_bool w 4 x y Tryz.underlying4]
set_option maxHeartbeats 4000000 in
set_option maxRecDepth 100000 in
theorem showPaths_law (l : List StS) (hT : l.length ≤ 100 → TextOk l) (hl : ∀ x ∈ l, x.f1.size ≤ 9223372036854775807) (A : Option Addr) (c : Nat) (w : World) (hLW : LaidW w) (hC : Kd.C k69 w A l.length l) :
    Calls Tryz.prog 4 #[.slice A l.length c] w fun e w' => e = .returned (.bool true) ∧ Below w.heap.size w w' := by
  have HA := Aside0.mk (fun V (h : LaidW V) => awake9_calls V h)
  have HLW := Aside0.mk hLW
  by_cases h110 : 110 < l.length
  · have e1 : decide ((110 : Int) < (l.length : Int)) = true := decide_eq_true (by omega)
    have e2 : decide (110 < l.length) = true := decide_eq_true h110
    clear hC hT hl hLW
    go_enter Tryz.func4, Tryz.ntmps4
    go_wp2_with fail
    refine (HA.out _ HLW.out).mono ?_
    rintro e w1 ⟨rfl, hb⟩
    have HB := Aside0.mk hb
    clear hb
    go_wp2_with fail
    refine (HA.out _ (HLW.out.below HB.out)).mono ?_
    rintro e w2 ⟨rfl, hb⟩
    have HB2 := Aside0.mk (below_then HB.out HB.out.size hb)
    clear hb
    go_wp2
    go_ret
    exact ⟨rfl, HB2.out⟩
  · have e1 : decide ((110 : Int) < (l.length : Int)) = false := decide_eq_false (by omega)
    have e2 : decide (110 < l.length) = false := decide_eq_false h110
    have HP := Aside0.mk (fun (V : World) (h : Below w.heap.size w V) => path_show l A c V (hLW.below h) (Kd.C_below hC h) hl (by omega))
    have HQ := Aside0.mk (fun (V : World) (h : Below w.heap.size w V) => refPath_of l hT A c V (Kd.C_below hC h) (by omega))
    have HR := Aside0.mk (fun (V : World) (h : Below w.heap.size w V) => rightPath_show l A c V (hLW.below h) (Kd.C_below hC h) hl (by omega))
    obtain ⟨b, hbE⟩ : ∃ b, baL (pathL l) = b := ⟨_, rfl⟩
    rw [hbE] at HP HQ
    have HBE := Aside0.mk hbE
    clear hC hT hl hLW hbE
    go_enter Tryz.func4, Tryz.ntmps4
    go_wp2_with fail
    refine (HA.out _ HLW.out).mono ?_
    rintro e w1 ⟨rfl, hb⟩
    have HB := Aside0.mk hb
    clear hb
    go_wp2_with fail
    refine (HP.out _ HB.out).mono ?_
    rintro e w2 ⟨rfl, hb⟩
    have HB2 := Aside0.mk (below_then HB.out HB.out.size hb)
    clear hb
    go_wp2_with fail
    refine (HQ.out _ HB2.out).mono ?_
    rintro e w3 ⟨rfl, hb⟩
    have HB3 := Aside0.mk (below_then HB2.out HB2.out.size hb)
    clear hb
    have q1 : (b.toList == b.toList) = true := beq_self_eq_true _
    go_wp2_with fail
    refine (HR.out _ HB3.out).mono ?_
    rintro e w4 ⟨rfl, hb⟩
    have HB4 := Aside0.mk (below_then HB3.out HB3.out.size hb)
    clear hb
    go_wp2_with fail
    refine (HQ.out _ HB4.out).mono ?_
    rintro e w5 ⟨rfl, hb⟩
    have HB5 := Aside0.mk (below_then HB4.out HB4.out.size hb)
    clear hb
    have qE := eql_bool
    by_cases he : pathL l = []
    · obtain ⟨g1, g2, g3, g4⟩ := emp_t HBE.out he
      have hr : rpB l = false := by unfold rpB; rw [he]; rfl
      rw [hr]
      clear he hr
      go_wp2
      go_ret
      exact ⟨by first | rfl | simp, HB5.out⟩
    · obtain ⟨g1, g2, g3, g4⟩ := emp_f HBE.out he
      have hr : rpB l = true := neB he
      rw [hr]
      clear he hr
      go_wp2
      go_ret
      exact ⟨by first | rfl | simp, HB5.out⟩
end Go.Proofs.YthebhbomlllpeaaGreatDoor.X
