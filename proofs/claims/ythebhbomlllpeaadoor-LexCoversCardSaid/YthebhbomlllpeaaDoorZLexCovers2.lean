/-
  LexCovers: what the proof needs, put together by a program of this session (shake.py), part 2.
-/
import Derived.Test.YthebhbomlllpeaaDoorCards
import Derived.Test.YthebhbomlllpeaaDoorTie
import Derived.Test.YthebhbomlllpeaaDoorProg
import Derived.Below
import Derived.Deep.Draws
import Derived.Deep.AppendLies
import Derived.Maps.AppendAt
import Derived.OwnWalk
import Derived.Laws.BytesArg
import Derived.Laws.MakeOwn
import Derived.Laws.OwnMore
import Derived.Deep.OwnRows
import Derived.Tactics
import Derived.Lib.ConvBytes
import Derived.Laws.Slices
import Derived.WalkKit
import Derived.KernelRfl
import Derived.RowKit3
import Derived.Deep.LoopGhost
import Derived.Deep.QuietTactic
import Derived.BigQuiet
import Derived.WideLaws
import Derived.Deep.DeepCutAuto
import Derived.Deep.CutBlock
import Derived.Deep.RegionHeld3
import Derived.Laws.Rows
import Derived.Lib.AppendStr
import Derived.ArgAppend
import Derived.Laws.IdiomCopy
import Derived.OrdersHeld
import Derived.Laws.BitsLemmas
import Derived.RowKit
import Derived.Lib.SmallJoins
import Derived.Lib.ItoaMem
import Derived.Test.YthebhbomlllpeaaDoorWWords
import Derived.Test.YthebhbomlllpeaaDoorWLast
import Derived.Test.YthebhbomlllpeaaDoorWTab
import Derived.Test.YthebhbomlllpeaaDoorWFour
import Derived.Test.YthebhbomlllpeaaDoorWQPut
import Derived.Test.YthebhbomlllpeaaDoorWApart
import Derived.Test.YthebhbomlllpeaaDoorWArr
import Derived.Test.YthebhbomlllpeaaDoorWZeros
import Derived.Test.YthebhbomlllpeaaDoorWFoot
import Derived.Test.YthebhbomlllpeaaDoorWKept
import Derived.Test.YthebhbomlllpeaaDoorWShare
import Derived.Test.YthebhbomlllpeaaDoorWN
import Derived.Test.YthebhbomlllpeaaDoorWFootNe
import Derived.Test.YthebhbomlllpeaaDoorWAt
import Derived.Test.YthebhbomlllpeaaDoorWEqStruct
import Derived.Test.YthebhbomlllpeaaDoorWRepsOne
import Derived.Test.YthebhbomlllpeaaDoorWInv
import Derived.Test.YthebhbomlllpeaaDoorWInvWords
import Derived.Test.YthebhbomlllpeaaDoorWGuard
import Derived.Test.YthebhbomlllpeaaDoorWNEv
import Derived.Test.YthebhbomlllpeaaDoorWMore
import Derived.Test.YthebhbomlllpeaaDoorRows
import Derived.Deep.Slices
import Derived.Deep.Fields
import Derived.ChangeSame
import Derived.ProofKit
import Derived.OpenShut
import Derived.Deep.DeepHandedRow
import Derived.Lib.LaidTab
import Derived.LaidMore
import Derived.Stop.LaidErr
import Derived.MakeChecks
import Derived.Shelf.Strings.Builder1
import Derived.Shelf.Strings.Builder2
import Derived.Shelf.Strings.OnBuilder
import Derived.Shelf.Small.Strs
import Derived.Shelf.Small.Wraps
import Derived.Shelf.Strings.BuilderF
import Derived.Shelf.Strings.BuilderK
import Derived.Shelf.Strings.Builder2Cap
import Derived.Shelf.Strconv.Itoa0
import Derived.Shelf.Strconv.Itoa1
import Derived.Shelf.LaysM
import Derived.Shelf.Strconv.Itoa2
import Derived.Shelf.Strconv.Itoa3
import Derived.Shelf.Strconv.Itoa4
import Derived.Shelf.Strconv.ParseIntEmpty
import Derived.Shelf.Strconv.Clone
import Derived.Shelf.Strconv.SyntaxError
import Derived.Shelf.LaysC
import Derived.Shelf.Strconv.ToError
import Derived.Shelf.Strconv.Lower
import Derived.Shelf.Strconv.ParseUint10
import Derived.Shelf.Strconv.ParseUint10Empty
import Derived.Shelf.Strconv.ParseUint10Any
import Derived.Shelf.Strconv.ParseInt10
import Derived.Shelf.Strconv.RangeError
import Derived.Shelf.Strconv.ToErrorRange
import Derived.Shelf.Strconv.ParseUintEmpty
import Derived.Shelf.Strconv.ParseUint10b64
import Derived.Shelf.Strconv.ParseUint10b32
import Derived.Shelf.Strconv.ParseUint10b16
import Derived.Shelf.Strconv.ParseUint10b8
import Derived.Shelf.Strconv.ParseUint10At
import Derived.Shelf.Strconv.ParseInt10At64
import Derived.Shelf.Strconv.ParseInt10At32
import Derived.Shelf.Strconv.ParseInt10At16
import Derived.Shelf.Strconv.ParseInt10At8
import Derived.Shelf.Strconv.ParseInt10All
import Derived.Shelf.Strconv.ParseIntPublic10
import Derived.Shelf.Strconv.ErrVarParseInt
import Derived.Ground.MpProg
import Derived.Shelf.Pu.ParseUintPublic10
import Derived.Shelf.Pu.ErrVarParseUint
import Derived.Shelf.Strings.Search1
import Derived.Shelf.Strings.Prefix
import Derived.Shelf.Bits.Mul64
import Derived.Shelf.Strings.Repeat
import Derived.Shelf.Strings.BuilderCap
import Derived.Laws.NewBlocks
import Derived.Lib.AtoiAllMem
import Derived.Lib.ParseIntB
import Derived.Lib.Hide
import Derived.Laws.Strings3
import Derived.Laws.Closers25
import Derived.Laws.Closers25b
import Derived.BigCall
import Derived.BigGuard
import Derived.Laws.RangeAny
import Derived.Laws.RangeString
import Derived.Lib.ParseIntBTie
import Init
import Derived.Recover
import Derived.WalkLawsBesides
import Derived.Test.YthebhbomlllpeaaDoorZLexCovers1
namespace Go.Proofs.YthebhbomlllpeaaDoor.X
set_option linter.unusedVariables false
set_option linter.unusedSimpArgs false
open Go.RowKit Go.Proofs.YthebhbomlllpeaaDoorW.PrintWords Go.Proofs.YthebhbomlllpeaaDoorW.PrintLast Go.Proofs.YthebhbomlllpeaaDoorW.PrintMore
theorem extract_list (s : ByteArray) (a b : Nat) : (s.extract a b).data.toList = (s.data.toList.take b).drop a := by
  rw [ByteArray.data_extract, Array.toList_extract, List.extract_eq_take_drop, List.drop_take]
theorem extract_take (s : ByteArray) (n : Nat) : s.extract 0 n = ⟨(s.data.toList.take n).toArray⟩ := by
  apply ByteArray.ext
  apply Array.toList_inj.1
  rw [extract_list]; simp
theorem extract_rest (s : ByteArray) (n : Nat) : (s.extract n s.size).data.toList = s.data.toList.drop n := by
  rw [extract_list, List.take_of_length_le (by rw [data_length]; exact Nat.le_refl _)]
/-- is a text a variable's name? -/
def varL (l : List UInt8) : Bool := match l with
  | [] => false
  | c :: r => decide ((c :: r).length ≤ 40) && (greatN c && decide (runN signB (c :: r) = (c :: r).length))
def lex_Variable.f (a0 : ByteArray) : Option Bool := if a0.size ≤ 140737488355328 then some (varL a0.data.toList) else none
theorem list_head {s : ByteArray} (h : 0 < s.size) : ∃ r, s.data.toList = s[0] :: r := by
  cases hl : s.data.toList with
  | nil => have := data_length s; rw [hl] at this; simp at this; omega
  | cons c r =>
    refine ⟨r, ?_⟩
    have h2 := getElem_data s 0 h (by rw [data_length]; exact h)
    have h3 : s.data.toList[0]'(by rw [data_length]; exact h) = c := by simp [hl]
    rw [← h2, h3]
set_option maxHeartbeats 1600000 in
set_option maxRecDepth 100000 in
theorem lex_Variable.calls (a0 : ByteArray) (r : Bool) (w : World) (h : lex_Variable.f a0 = some r) :
    Calls Tryd.prog 14 #[.string a0] w fun e w' => e = .returned (.bool r) ∧ Drawn0 w w' := by
  unfold lex_Variable.f at h
  split at h
  · rename_i hs
    obtain rfl := Option.some.inj h
    clear h
    have HR := Aside0.mk (fun W => run_sign a0 hs W)
    by_cases hz : a0.size = 0
    · have hl : varL a0.data.toList = false := by
        have : a0.data.toList = [] := List.eq_nil_of_length_eq_zero (by rw [data_length]; exact hz)
        rw [this]; rfl
      have hemp : a0.toList.isEmpty = true := by rw [toList_data, List.isEmpty_iff]; exact List.eq_nil_of_length_eq_zero (by rw [data_length]; exact hz)
      rw [hl]
      clear hz hl hs
      go_enter Tryd.func14, Tryd.ntmps14
      go_wp2
      go_ret
      exact ⟨rfl, Drawn0.refl _⟩
    · have hp : 0 < a0.size := by omega
      obtain ⟨r, hr⟩ := list_head hp
      have hemp : a0.toList.isEmpty = false := by rw [toList_data, hr]; rfl
      have hlen : a0.data.toList.length = a0.size := data_length a0
      have hv : varL a0.data.toList = (decide (a0.size ≤ 40) && (greatN a0[0] && decide (runN signB a0.data.toList = a0.size))) := by
        rw [← hlen, hr]; rfl
      have HG := Aside0.mk (fun W => lex_great.calls (a0[0].toNat : Int) (greatN a0[0]) W (lex_great_eq a0[0]))
      rw [hv]
      clear hr hlen hv
      by_cases h40 : a0.size ≤ 40
      · have e1 : decide ((a0.size : Int) ≤ 40) = true := decide_eq_true (by omega)
        rw [decide_eq_true h40, Bool.true_and]
        cases hg : greatN a0[0] with
        | false =>
          rw [hg] at HG
          rw [Bool.false_and]
          clear hg hz h40 hs
          go_enter Tryd.func14, Tryd.ntmps14
          go_wp2_with (go_at_call 28; refine (HG.out _).mono ?_; rintro e w' ⟨rfl, ⟨nd, rfl⟩⟩)
          go_ret
          exact ⟨rfl, ⟨_, rfl⟩⟩
        | true =>
          rw [hg] at HG
          rw [Bool.true_and]
          clear hg hz hs
          by_cases hrun : runN signB a0.data.toList = a0.size
          · have e2 : ((runN signB a0.data.toList : Int) == (a0.size : Int)) = true := by rw [hrun]; simp
            rw [decide_eq_true hrun]
            clear hrun h40
            go_enter Tryd.func14, Tryd.ntmps14
            go_wp2_with (first | (go_at_call 28; refine (HG.out _).mono ?_; rintro e w' ⟨rfl, ⟨nd, rfl⟩⟩) | (go_at_call 29; refine (HR.out _).mono ?_; rintro e w' ⟨rfl, ⟨nd2, rfl⟩⟩))
            go_ret
            exact ⟨rfl, ⟨_, rfl⟩⟩
          · have e2 : ((runN signB a0.data.toList : Int) == (a0.size : Int)) = false := by rw [beq_eq_false_iff_ne]; omega
            rw [decide_eq_false hrun]
            clear hrun h40
            go_enter Tryd.func14, Tryd.ntmps14
            go_wp2_with (first | (go_at_call 28; refine (HG.out _).mono ?_; rintro e w' ⟨rfl, ⟨nd, rfl⟩⟩) | (go_at_call 29; refine (HR.out _).mono ?_; rintro e w' ⟨rfl, ⟨nd2, rfl⟩⟩))
            go_ret
            exact ⟨rfl, ⟨_, rfl⟩⟩
      · have e1 : decide ((a0.size : Int) ≤ 40) = false := decide_eq_false (by omega)
        rw [decide_eq_false h40, Bool.false_and]
        clear hz h40 hs
        go_enter Tryd.func14, Tryd.ntmps14
        go_wp2
        go_ret
        exact ⟨rfl, Drawn0.refl _⟩
  · cases h
theorem tok_blk {W : World} {g : Nat} {x0 x1 x2 : Value} (hg : W.heap[g]? = some (.cells #[x0, x1, x2] 34 (0, 0))) (k t a : Value) :
    (((W.setCell ⟨g, 0, none⟩ k).setCell ⟨g, 1, none⟩ t).setCell ⟨g, 2, none⟩ a).heap[g]? = some (.cells #[k, t, a] 34 (0, 0)) :=
  blk_put (cs := #[k, t, x2]) (blk_put (cs := #[k, x1, x2]) (blk_put (cs := #[x0, x1, x2]) hg 0 _ rfl) 1 _ rfl) 2 _ rfl
theorem next_ret {w W : World} {tmps : Array Value} (hg : W.heap[w.heap.size]? = some (.cells #[.int .i64 0, .string ⟨#[]⟩, .int .i64 0] 34 (0, 0))) (hb : Below w.heap.size w W) (k : Int) (t : ByteArray) (a : Int) (htmp : tmps.getD 4 undef = .pointer (some ⟨w.heap.size, 0, none⟩)) :
    bodyPost Tryd.prog Tryd.f26 (fun e w' => e = .returned (.agg #[.int .i64 k, .string t, .int .i64 a]) ∧ Below w.heap.size w w') Exit.ret { tmps := tmps, defers := [] }
      (((W.setCell ⟨w.heap.size, 0, none⟩ (.int .i64 k)).setCell ⟨w.heap.size, 1, none⟩ (.string t)).setCell ⟨w.heap.size, 2, none⟩ (.int .i64 a)) :=
  bodyPost_ret (results_single rfl (.cell w.heap.size 34 #[.int .i64 k, .string t, .int .i64 a] (0, 0) _ htmp (tok_blk hg _ _ _) Tryd.underlying34 rfl (by kernel_rfl) .nil)) rfl
    ⟨rfl, below_set (below_set (below_set hb (Nat.le_refl _)) (Nat.le_refl _)) (Nat.le_refl _)⟩
theorem blk_first (w : World) (m : Nat) (o : Obj) : ((w.alloc o).drewN m).heap[w.heap.size]? = some o := blk_drewN (blk_new w o) m
theorem below_first (w : World) (m : Nat) (o : Obj) : Below w.heap.size w ((w.alloc o).drewN m) := pw_below_drewN ((Below.refl _ _).alloc (Nat.le_refl _) _) m
theorem name_take (s : ByteArray) (n : Nat) : nmL (s.data.toList.take n) = nameB (s.extract 0 n) := by unfold nmL; rw [extract_take]
/-- what next answers. -/
def NextR (s : ByteArray) (a : Int) : Option (Nat × Nat) → Ending → Prop
  | some (k, n), e => e = .returned (.agg #[.int .i64 k, .string (s.extract 0 n), .int .i64 a])
  | none, e => e = .panicked [{ v := .iface 48 (.int .i64 a), recovered := false }]
theorem next_retA {w W : World} {tmps : Array Value} (hg : W.heap[w.heap.size]? = some (.cells #[.int .i64 0, .string ⟨#[]⟩, .int .i64 0] 34 (0, 0))) (hb : Below w.heap.size w W) (k : Int) (t : ByteArray) (a : Int) (htmp : tmps.getD 4 undef = .pointer (some ⟨w.heap.size, 0, none⟩)) (o : Obj) :
    bodyPost Tryd.prog Tryd.f26 (fun e w' => e = .returned (.agg #[.int .i64 k, .string t, .int .i64 a]) ∧ Below w.heap.size w w') Exit.ret { tmps := tmps, defers := [] }
      ((((W.setCell ⟨w.heap.size, 0, none⟩ (.int .i64 k)).setCell ⟨w.heap.size, 1, none⟩ (.string t)).setCell ⟨w.heap.size, 2, none⟩ (.int .i64 a)).alloc o) :=
  bodyPost_ret (results_single rfl (.cell w.heap.size 34 #[.int .i64 k, .string t, .int .i64 a] (0, 0) _ htmp (blk_alloc (tok_blk hg _ _ _) _) Tryd.underlying34 rfl (by kernel_rfl) .nil)) rfl
    ⟨rfl, below_alloc (below_set (below_set (below_set hb (Nat.le_refl _)) (Nat.le_refl _)) (Nat.le_refl _)) _⟩
theorem take_two {s : ByteArray} {p : List UInt8} (h : s.data.toList.take 2 = p) (hp : p.length = 2) : 2 ≤ s.size := by
  have := congrArg List.length h
  rw [List.length_take, hp, data_length] at this
  omega
theorem prefix_two (s p : ByteArray) (b : Bool) (h : (s.data.toList.take 2 == p.data.toList) = b) (hp : p.size = 2 := by rfl) : strings_HasPrefix.f s p = some b := by
  unfold strings_HasPrefix.f stringslite_HasPrefix.f
  rw [hp]
  by_cases h2 : (s.size : Int) ≥ ((2 : Nat) : Int)
  · rw [if_pos h2, if_pos (by omega), if_pos h2]
    simp only [Option.bind_some]
    have e : (s.extract 0 (((2 : Nat) : Int) : Int).toNat).toList = s.data.toList.take 2 := by
      rw [toList_data, extract_list, List.drop_zero]; rfl
    rw [e, toList_data, h]
  · rw [if_neg h2]
    simp only [Option.bind_some]
    congr 1
    rw [← h]
    symm
    rw [beq_eq_false_iff_ne]
    intro e
    have := congrArg List.length e
    rw [List.length_take, data_length, data_length, hp] at this
    omega
theorem index_pos (l : List UInt8) (c : UInt8) : decide ((0 : Int) ≤ Lib.indexByte l c) = l.contains c ∧ -1 ≤ Lib.indexByte l c := by
  induction l with
  | nil => exact ⟨rfl, Int.le_refl _⟩
  | cons b l ih =>
    obtain ⟨ih1, ih2⟩ := ih
    unfold Lib.indexByte
    by_cases hb : (b == c) = true
    · rw [if_pos hb]
      have : b = c := beq_iff_eq.1 hb
      subst this
      exact ⟨by simp, by decide⟩
    · rw [if_neg hb]
      have hc : (b :: l).contains c = l.contains c := by
        rw [List.contains_cons]
        have : (c == b) = false := by rw [beq_eq_false_iff_ne]; intro e; exact hb (beq_iff_eq.2 e.symm)
        rw [this, Bool.false_or]
      rw [hc, ← ih1]
      by_cases hm : (Lib.indexByte l c == -1) = true
      · rw [if_pos hm]
        have : Lib.indexByte l c = -1 := beq_iff_eq.1 hm
        rw [this]
        exact ⟨rfl, by decide⟩
      · rw [if_neg hm]
        have : Lib.indexByte l c ≠ -1 := fun e => hm (beq_iff_eq.2 e)
        refine ⟨?_, by omega⟩
        rw [Bool.eq_iff_iff, decide_eq_true_eq, decide_eq_true_eq]
        omega
theorem one_index (c : UInt8) : decide ((0 : Int) ≤ Lib.indexByte (⟨#[40, 41, 44, 46, 60, 61, 47, 124, 42, 43, 63, 94]⟩ : ByteArray).data.toList ((c.toNat : Int)).toNat.toUInt8) = oneB c := by
  have e : ((c.toNat : Int)).toNat.toUInt8 = c := by
    rw [Int.toNat_natCast]
    apply UInt8.toNat_inj.1
    show (UInt8.ofNat c.toNat).toNat = c.toNat
    rw [UInt8.toNat_ofNat']
    have := c.toNat_lt
    omega
  rw [e, (index_pos _ c).1]
  rfl
set_option maxHeartbeats 1600000 in
set_option maxRecDepth 100000 in
theorem next_small_true (s : ByteArray) (hs : s.size ≤ 140737488355328) (a : Int) (w : World) (hp : 0 < s.size) (n : Nat) (hsm : smallN s[0] = true) (hn : runN lowB s.data.toList = n) (hN : nameB (s.extract 0 n) = true) :
    Calls Tryd.prog 26 #[.string s, .int .i64 a] w fun e w' => NextR s a (some (1, n)) e ∧ Below w.heap.size w w' := by
  have HS := Aside0.mk (fun W => lex_small.calls (s[0].toNat : Int) (smallN s[0]) W (lex_small_eq s[0]))
  rw [hsm] at HS
  have HR := Aside0.mk (fun W => run_low s hs W)
  have hle : n ≤ s.size := by have := runN_le lowB s.data.toList; rwa [data_length, hn] at this
  rw [hn] at HR
  have HN := Aside0.mk (fun W => value_Name.calls 42 (s.extract 0 n) _ W (value_Name_eq _ 42 (Nat.le_refl _)))
  rw [hN] at HN
  clear hN hsm hs hn
  go_enter Tryd.func26, Tryd.ntmps26
  go_wp2_with (first | (go_at_call 50; refine (HS.out _).mono ?_; rintro e w' ⟨rfl, ⟨nd1, rfl⟩⟩) | (go_at_call 29; refine (HR.out _).mono ?_; rintro e w' ⟨rfl, ⟨nd4, rfl⟩⟩) | (go_at_call 19; refine (HN.out _).mono ?_; rintro e w' ⟨rfl, ⟨nd6, rfl⟩⟩))
  exact next_ret (blk_first w _ _) (below_first w _ _) 1 _ a (by rfl)
set_option maxHeartbeats 1600000 in
set_option maxRecDepth 100000 in
theorem next_small_false (s : ByteArray) (hs : s.size ≤ 140737488355328) (a : Int) (w : World) (hp : 0 < s.size) (n : Nat) (hsm : smallN s[0] = true) (hn : runN lowB s.data.toList = n) (hN : nameB (s.extract 0 n) = false) :
    Calls Tryd.prog 26 #[.string s, .int .i64 a] w fun e w' => NextR s a (none) e ∧ Below w.heap.size w w' := by
  have HS := Aside0.mk (fun W => lex_small.calls (s[0].toNat : Int) (smallN s[0]) W (lex_small_eq s[0]))
  rw [hsm] at HS
  have HR := Aside0.mk (fun W => run_low s hs W)
  have hle : n ≤ s.size := by have := runN_le lowB s.data.toList; rwa [data_length, hn] at this
  rw [hn] at HR
  have HN := Aside0.mk (fun W => value_Name.calls 42 (s.extract 0 n) _ W (value_Name_eq _ 42 (Nat.le_refl _)))
  rw [hN] at HN
  clear hN hsm hs hn
  go_enter Tryd.func26, Tryd.ntmps26
  go_wp2_with (first | (go_at_call 50; refine (HS.out _).mono ?_; rintro e w' ⟨rfl, ⟨nd1, rfl⟩⟩) | (go_at_call 29; refine (HR.out _).mono ?_; rintro e w' ⟨rfl, ⟨nd4, rfl⟩⟩) | (go_at_call 19; refine (HN.out _).mono ?_; rintro e w' ⟨rfl, ⟨nd6, rfl⟩⟩))
  exact ⟨rfl, rfl, below_first w _ _⟩
set_option maxHeartbeats 1600000 in
set_option maxRecDepth 100000 in
theorem next_great_true (s : ByteArray) (hs : s.size ≤ 140737488355328) (a : Int) (w : World) (hp : 0 < s.size) (n : Nat) (hsm : smallN s[0] = false) (hgr : greatN s[0] = true) (hn : runN signB s.data.toList = n) (hN : varL (s.data.toList.take n) = true) :
    Calls Tryd.prog 26 #[.string s, .int .i64 a] w fun e w' => NextR s a (some (2, n)) e ∧ Below w.heap.size w w' := by
  have HS := Aside0.mk (fun W => lex_small.calls (s[0].toNat : Int) (smallN s[0]) W (lex_small_eq s[0]))
  rw [hsm] at HS
  have HG := Aside0.mk (fun W => lex_great.calls (s[0].toNat : Int) (greatN s[0]) W (lex_great_eq s[0]))
  rw [hgr] at HG
  have HR := Aside0.mk (fun W => run_sign s hs W)
  have hle : n ≤ s.size := by have := runN_le signB s.data.toList; rwa [data_length, hn] at this
  rw [hn] at HR
  have hv2 := fun W => lex_Variable.calls (s.extract 0 n) _ W (by unfold lex_Variable.f; rw [if_pos (by rw [ByteArray.size_extract]; omega)])
  rw [extract_list, List.drop_zero, hN] at hv2
  have HN := Aside0.mk hv2
  clear hv2 hN hsm hgr hs hn
  go_enter Tryd.func26, Tryd.ntmps26
  go_wp2_with (first | (go_at_call 50; refine (HS.out _).mono ?_; rintro e w' ⟨rfl, ⟨nd1, rfl⟩⟩) | (go_at_call 28; refine (HG.out _).mono ?_; rintro e w' ⟨rfl, ⟨nd2, rfl⟩⟩) | (go_at_call 29; refine (HR.out _).mono ?_; rintro e w' ⟨rfl, ⟨nd4, rfl⟩⟩) | (go_at_call 14; refine (HN.out _).mono ?_; rintro e w' ⟨rfl, ⟨nd5, rfl⟩⟩))
  exact next_ret (blk_first w _ _) (below_first w _ _) 2 _ a (by rfl)
set_option maxHeartbeats 1600000 in
set_option maxRecDepth 100000 in
theorem next_great_false (s : ByteArray) (hs : s.size ≤ 140737488355328) (a : Int) (w : World) (hp : 0 < s.size) (n : Nat) (hsm : smallN s[0] = false) (hgr : greatN s[0] = true) (hn : runN signB s.data.toList = n) (hN : varL (s.data.toList.take n) = false) :
    Calls Tryd.prog 26 #[.string s, .int .i64 a] w fun e w' => NextR s a (none) e ∧ Below w.heap.size w w' := by
  have HS := Aside0.mk (fun W => lex_small.calls (s[0].toNat : Int) (smallN s[0]) W (lex_small_eq s[0]))
  rw [hsm] at HS
  have HG := Aside0.mk (fun W => lex_great.calls (s[0].toNat : Int) (greatN s[0]) W (lex_great_eq s[0]))
  rw [hgr] at HG
  have HR := Aside0.mk (fun W => run_sign s hs W)
  have hle : n ≤ s.size := by have := runN_le signB s.data.toList; rwa [data_length, hn] at this
  rw [hn] at HR
  have hv2 := fun W => lex_Variable.calls (s.extract 0 n) _ W (by unfold lex_Variable.f; rw [if_pos (by rw [ByteArray.size_extract]; omega)])
  rw [extract_list, List.drop_zero, hN] at hv2
  have HN := Aside0.mk hv2
  clear hv2 hN hsm hgr hs hn
  go_enter Tryd.func26, Tryd.ntmps26
  go_wp2_with (first | (go_at_call 50; refine (HS.out _).mono ?_; rintro e w' ⟨rfl, ⟨nd1, rfl⟩⟩) | (go_at_call 28; refine (HG.out _).mono ?_; rintro e w' ⟨rfl, ⟨nd2, rfl⟩⟩) | (go_at_call 29; refine (HR.out _).mono ?_; rintro e w' ⟨rfl, ⟨nd4, rfl⟩⟩) | (go_at_call 14; refine (HN.out _).mono ?_; rintro e w' ⟨rfl, ⟨nd5, rfl⟩⟩))
  exact ⟨rfl, rfl, below_first w _ _⟩
set_option maxHeartbeats 1600000 in
set_option maxRecDepth 100000 in
theorem next_hash_ok (s : ByteArray) (hs : s.size ≤ 140737488355328) (a : Int) (w : World) (hp : 0 < s.size) (n : Nat) (hLW : LaidW w) (hsm : smallN s[0] = false) (hgr : greatN s[0] = false) (h35 : s[0] = 35) (hn : 1 + runN signB (s.data.toList.drop 1) = n) (hR : (readR (s.extract 0 n)).2.2.2 = 0) :
    Calls Tryd.prog 26 #[.string s, .int .i64 a] w fun e w' => NextR s a (some (3, n)) e ∧ Below w.heap.size w w' := by
  have HS := Aside0.mk (fun W => lex_small.calls (s[0].toNat : Int) (smallN s[0]) W (lex_small_eq s[0]))
  rw [hsm] at HS
  have HG := Aside0.mk (fun W => lex_great.calls (s[0].toNat : Int) (greatN s[0]) W (lex_great_eq s[0]))
  rw [hgr] at HG
  have hr2 := fun W => run_sign (s.extract 1 s.size) (by rw [ByteArray.size_extract]; omega) W
  rw [extract_rest] at hr2
  have hle : n ≤ s.size := by have := runN_le signB (s.data.toList.drop 1); rw [List.length_drop, data_length] at this; omega
  generalize runN signB (s.data.toList.drop 1) = m at hn hr2
  have hw : wrap64 (1 + (m : Int)) = (n : Int) := by unfold wrap64; omega
  have HR := Aside0.mk hr2
  have HLW := Aside0.mk hLW
  obtain ⟨q1, q2, q3, q4, hq⟩ : ∃ q1 q2 q3 q4, readR (s.extract 0 n) = (q1, q2, q3, q4) := ⟨_, _, _, _, rfl⟩
  rw [hq] at hR
  have HRD : Aside0 (value_Read.f (s.extract 0 n) = some (q1, q2, q3, q4)) := ⟨by unfold value_Read.f; rw [if_pos (by rw [ByteArray.size_extract]; omega), hq]⟩
  have e35 : ((s[0].toNat : Int) == 35) = true := by rw [h35]; rfl
  have eq4 : (q4 == 0) = true := beq_iff_eq.2 hR
  clear hR hq hn hr2 hLW hsm hgr hs h35
  go_enter Tryd.func26, Tryd.ntmps26
  go_wp2_with (first | (go_at_call 50; refine (HS.out _).mono ?_; rintro e w' ⟨rfl, ⟨nd1, rfl⟩⟩) | (go_at_call 28; refine (HG.out _).mono ?_; rintro e w' ⟨rfl, ⟨nd2, rfl⟩⟩) | (go_at_call 29; refine (HR.out _).mono ?_; rintro e w' ⟨rfl, ⟨nd4, rfl⟩⟩))
  refine (value_Read.calls _ _ _ _ _ _ (by exact (HLW.out.alloc _).drewN _) HRD.out).mono ?_
  rintro e w1 ⟨rfl, hb1⟩
  have HB := Aside0.mk (below_step (below_first w _ _) hb1)
  have HK := Aside0.mk (blk_below (blk_first w _ _) hb1)
  have hz : w.heap.size < w1.heap.size := blk_lt HK.out
  clear hb1
  have hf0 := blk_frozen HK.out 0
  have hf1 := blk_frozen HK.out 1
  have hf2 := blk_frozen HK.out 2
  have hc0 : w1.cell? ⟨w.heap.size, 0, none⟩ = some (.int .i64 0) := (blk_cell HK.out 0).trans rfl
  have hc1 : w1.cell? ⟨w.heap.size, 1, none⟩ = some (.string ⟨#[]⟩) := (blk_cell HK.out 1).trans rfl
  have hc2 : w1.cell? ⟨w.heap.size, 2, none⟩ = some (.int .i64 0) := (blk_cell HK.out 2).trans rfl
  go_wp2
  exact next_retA HK.out HB.out 3 _ a rfl _
set_option maxHeartbeats 1600000 in
set_option maxRecDepth 100000 in
theorem next_hash_no (s : ByteArray) (hs : s.size ≤ 140737488355328) (a : Int) (w : World) (hp : 0 < s.size) (n : Nat) (hLW : LaidW w) (hsm : smallN s[0] = false) (hgr : greatN s[0] = false) (h35 : s[0] = 35) (hn : 1 + runN signB (s.data.toList.drop 1) = n) (hR : (readR (s.extract 0 n)).2.2.2 ≠ 0) :
    Calls Tryd.prog 26 #[.string s, .int .i64 a] w fun e w' => NextR s a (none) e ∧ Below w.heap.size w w' := by
  have HS := Aside0.mk (fun W => lex_small.calls (s[0].toNat : Int) (smallN s[0]) W (lex_small_eq s[0]))
  rw [hsm] at HS
  have HG := Aside0.mk (fun W => lex_great.calls (s[0].toNat : Int) (greatN s[0]) W (lex_great_eq s[0]))
  rw [hgr] at HG
  have hr2 := fun W => run_sign (s.extract 1 s.size) (by rw [ByteArray.size_extract]; omega) W
  rw [extract_rest] at hr2
  have hle : n ≤ s.size := by have := runN_le signB (s.data.toList.drop 1); rw [List.length_drop, data_length] at this; omega
  generalize runN signB (s.data.toList.drop 1) = m at hn hr2
  have hw : wrap64 (1 + (m : Int)) = (n : Int) := by unfold wrap64; omega
  have HR := Aside0.mk hr2
  have HLW := Aside0.mk hLW
  obtain ⟨q1, q2, q3, q4, hq⟩ : ∃ q1 q2 q3 q4, readR (s.extract 0 n) = (q1, q2, q3, q4) := ⟨_, _, _, _, rfl⟩
  rw [hq] at hR
  have HRD : Aside0 (value_Read.f (s.extract 0 n) = some (q1, q2, q3, q4)) := ⟨by unfold value_Read.f; rw [if_pos (by rw [ByteArray.size_extract]; omega), hq]⟩
  have e35 : ((s[0].toNat : Int) == 35) = true := by rw [h35]; rfl
  have eq4 : (q4 == 0) = false := beq_eq_false_iff_ne.2 hR
  clear hR hq hn hr2 hLW hsm hgr hs h35
  go_enter Tryd.func26, Tryd.ntmps26
  go_wp2_with (first | (go_at_call 50; refine (HS.out _).mono ?_; rintro e w' ⟨rfl, ⟨nd1, rfl⟩⟩) | (go_at_call 28; refine (HG.out _).mono ?_; rintro e w' ⟨rfl, ⟨nd2, rfl⟩⟩) | (go_at_call 29; refine (HR.out _).mono ?_; rintro e w' ⟨rfl, ⟨nd4, rfl⟩⟩))
  refine (value_Read.calls _ _ _ _ _ _ (by exact (HLW.out.alloc _).drewN _) HRD.out).mono ?_
  rintro e w1 ⟨rfl, hb1⟩
  have HB := Aside0.mk (below_step (below_first w _ _) hb1)
  have HK := Aside0.mk (blk_below (blk_first w _ _) hb1)
  have hz : w.heap.size < w1.heap.size := blk_lt HK.out
  clear hb1
  have hf0 := blk_frozen HK.out 0
  have hf1 := blk_frozen HK.out 1
  have hf2 := blk_frozen HK.out 2
  have hc0 : w1.cell? ⟨w.heap.size, 0, none⟩ = some (.int .i64 0) := (blk_cell HK.out 0).trans rfl
  have hc1 : w1.cell? ⟨w.heap.size, 1, none⟩ = some (.string ⟨#[]⟩) := (blk_cell HK.out 1).trans rfl
  have hc2 : w1.cell? ⟨w.heap.size, 2, none⟩ = some (.int .i64 0) := (blk_cell HK.out 2).trans rfl
  go_wp2
  exact ⟨rfl, rfl, below_alloc HB.out _⟩
set_option maxHeartbeats 1600000 in
set_option maxRecDepth 100000 in
theorem next_digit_ok (s : ByteArray) (hs : s.size ≤ 140737488355328) (a : Int) (w : World) (hp : 0 < s.size) (n : Nat) (hLW : LaidW w) (hsm : smallN s[0] = false) (hgr : greatN s[0] = false) (h35 : s[0] ≠ 35) (hdg : digitN s[0] = true) (hn : 1 + runN signB (s.data.toList.drop 1) = n) (hR : (readR (s.extract 0 n)).2.2.2 = 0) :
    Calls Tryd.prog 26 #[.string s, .int .i64 a] w fun e w' => NextR s a (some (3, n)) e ∧ Below w.heap.size w w' := by
  have HS := Aside0.mk (fun W => lex_small.calls (s[0].toNat : Int) (smallN s[0]) W (lex_small_eq s[0]))
  rw [hsm] at HS
  have HG := Aside0.mk (fun W => lex_great.calls (s[0].toNat : Int) (greatN s[0]) W (lex_great_eq s[0]))
  rw [hgr] at HG
  have hr2 := fun W => run_sign (s.extract 1 s.size) (by rw [ByteArray.size_extract]; omega) W
  rw [extract_rest] at hr2
  have hle : n ≤ s.size := by have := runN_le signB (s.data.toList.drop 1); rw [List.length_drop, data_length] at this; omega
  generalize runN signB (s.data.toList.drop 1) = m at hn hr2
  have hw : wrap64 (1 + (m : Int)) = (n : Int) := by unfold wrap64; omega
  have HR := Aside0.mk hr2
  have HLW := Aside0.mk hLW
  obtain ⟨q1, q2, q3, q4, hq⟩ : ∃ q1 q2 q3 q4, readR (s.extract 0 n) = (q1, q2, q3, q4) := ⟨_, _, _, _, rfl⟩
  rw [hq] at hR
  have HRD : Aside0 (value_Read.f (s.extract 0 n) = some (q1, q2, q3, q4)) := ⟨by unfold value_Read.f; rw [if_pos (by rw [ByteArray.size_extract]; omega), hq]⟩
  have HD := Aside0.mk (fun W => lex_digit.calls (s[0].toNat : Int) (digitN s[0]) W (lex_digit_eq s[0]))
  rw [hdg] at HD
  have e35 : ((s[0].toNat : Int) == 35) = false := by rw [show ((s[0].toNat : Int) == 35) = (s[0] == 35) from u8_eq_nat s[0] 35 (by omega)]; exact beq_eq_false_iff_ne.2 h35
  have eq4 : (q4 == 0) = true := beq_iff_eq.2 hR
  clear hR hq hn hr2 hLW hsm hgr hs h35 hdg
  go_enter Tryd.func26, Tryd.ntmps26
  go_wp2_with (first | (go_at_call 50; refine (HS.out _).mono ?_; rintro e w' ⟨rfl, ⟨nd1, rfl⟩⟩) | (go_at_call 28; refine (HG.out _).mono ?_; rintro e w' ⟨rfl, ⟨nd2, rfl⟩⟩) | (go_at_call 52; refine (HD.out _).mono ?_; rintro e w' ⟨rfl, ⟨nd3, rfl⟩⟩) | (go_at_call 29; refine (HR.out _).mono ?_; rintro e w' ⟨rfl, ⟨nd4, rfl⟩⟩))
  refine (value_Read.calls _ _ _ _ _ _ (by exact (HLW.out.alloc _).drewN _) HRD.out).mono ?_
  rintro e w1 ⟨rfl, hb1⟩
  have HB := Aside0.mk (below_step (below_first w _ _) hb1)
  have HK := Aside0.mk (blk_below (blk_first w _ _) hb1)
  have hz : w.heap.size < w1.heap.size := blk_lt HK.out
  clear hb1
  have hf0 := blk_frozen HK.out 0
  have hf1 := blk_frozen HK.out 1
  have hf2 := blk_frozen HK.out 2
  have hc0 : w1.cell? ⟨w.heap.size, 0, none⟩ = some (.int .i64 0) := (blk_cell HK.out 0).trans rfl
  have hc1 : w1.cell? ⟨w.heap.size, 1, none⟩ = some (.string ⟨#[]⟩) := (blk_cell HK.out 1).trans rfl
  have hc2 : w1.cell? ⟨w.heap.size, 2, none⟩ = some (.int .i64 0) := (blk_cell HK.out 2).trans rfl
  go_wp2
  exact next_retA HK.out HB.out 3 _ a rfl _
set_option maxHeartbeats 1600000 in
set_option maxRecDepth 100000 in
theorem next_digit_no (s : ByteArray) (hs : s.size ≤ 140737488355328) (a : Int) (w : World) (hp : 0 < s.size) (n : Nat) (hLW : LaidW w) (hsm : smallN s[0] = false) (hgr : greatN s[0] = false) (h35 : s[0] ≠ 35) (hdg : digitN s[0] = true) (hn : 1 + runN signB (s.data.toList.drop 1) = n) (hR : (readR (s.extract 0 n)).2.2.2 ≠ 0) :
    Calls Tryd.prog 26 #[.string s, .int .i64 a] w fun e w' => NextR s a (none) e ∧ Below w.heap.size w w' := by
  have HS := Aside0.mk (fun W => lex_small.calls (s[0].toNat : Int) (smallN s[0]) W (lex_small_eq s[0]))
  rw [hsm] at HS
  have HG := Aside0.mk (fun W => lex_great.calls (s[0].toNat : Int) (greatN s[0]) W (lex_great_eq s[0]))
  rw [hgr] at HG
  have hr2 := fun W => run_sign (s.extract 1 s.size) (by rw [ByteArray.size_extract]; omega) W
  rw [extract_rest] at hr2
  have hle : n ≤ s.size := by have := runN_le signB (s.data.toList.drop 1); rw [List.length_drop, data_length] at this; omega
  generalize runN signB (s.data.toList.drop 1) = m at hn hr2
  have hw : wrap64 (1 + (m : Int)) = (n : Int) := by unfold wrap64; omega
  have HR := Aside0.mk hr2
  have HLW := Aside0.mk hLW
  obtain ⟨q1, q2, q3, q4, hq⟩ : ∃ q1 q2 q3 q4, readR (s.extract 0 n) = (q1, q2, q3, q4) := ⟨_, _, _, _, rfl⟩
  rw [hq] at hR
  have HRD : Aside0 (value_Read.f (s.extract 0 n) = some (q1, q2, q3, q4)) := ⟨by unfold value_Read.f; rw [if_pos (by rw [ByteArray.size_extract]; omega), hq]⟩
  have HD := Aside0.mk (fun W => lex_digit.calls (s[0].toNat : Int) (digitN s[0]) W (lex_digit_eq s[0]))
  rw [hdg] at HD
  have e35 : ((s[0].toNat : Int) == 35) = false := by rw [show ((s[0].toNat : Int) == 35) = (s[0] == 35) from u8_eq_nat s[0] 35 (by omega)]; exact beq_eq_false_iff_ne.2 h35
  have eq4 : (q4 == 0) = false := beq_eq_false_iff_ne.2 hR
  clear hR hq hn hr2 hLW hsm hgr hs h35 hdg
  go_enter Tryd.func26, Tryd.ntmps26
  go_wp2_with (first | (go_at_call 50; refine (HS.out _).mono ?_; rintro e w' ⟨rfl, ⟨nd1, rfl⟩⟩) | (go_at_call 28; refine (HG.out _).mono ?_; rintro e w' ⟨rfl, ⟨nd2, rfl⟩⟩) | (go_at_call 52; refine (HD.out _).mono ?_; rintro e w' ⟨rfl, ⟨nd3, rfl⟩⟩) | (go_at_call 29; refine (HR.out _).mono ?_; rintro e w' ⟨rfl, ⟨nd4, rfl⟩⟩))
  refine (value_Read.calls _ _ _ _ _ _ (by exact (HLW.out.alloc _).drewN _) HRD.out).mono ?_
  rintro e w1 ⟨rfl, hb1⟩
  have HB := Aside0.mk (below_step (below_first w _ _) hb1)
  have HK := Aside0.mk (blk_below (blk_first w _ _) hb1)
  have hz : w.heap.size < w1.heap.size := blk_lt HK.out
  clear hb1
  have hf0 := blk_frozen HK.out 0
  have hf1 := blk_frozen HK.out 1
  have hf2 := blk_frozen HK.out 2
  have hc0 : w1.cell? ⟨w.heap.size, 0, none⟩ = some (.int .i64 0) := (blk_cell HK.out 0).trans rfl
  have hc1 : w1.cell? ⟨w.heap.size, 1, none⟩ = some (.string ⟨#[]⟩) := (blk_cell HK.out 1).trans rfl
  have hc2 : w1.cell? ⟨w.heap.size, 2, none⟩ = some (.int .i64 0) := (blk_cell HK.out 2).trans rfl
  go_wp2
  exact ⟨rfl, rfl, below_alloc HB.out _⟩
set_option maxHeartbeats 1600000 in
set_option maxRecDepth 100000 in
theorem next_minus_ok (s : ByteArray) (hs : s.size ≤ 140737488355328) (a : Int) (w : World) (hp : 0 < s.size) (n : Nat) (hLW : LaidW w) (hsm : smallN s[0] = false) (hgr : greatN s[0] = false) (h45 : s[0] = 45) (h1 : 1 < s.size) (hd1 : digitN s[1] = true) (hn : 1 + runN signB (s.data.toList.drop 1) = n) (hR : (readR (s.extract 0 n)).2.2.2 = 0) :
    Calls Tryd.prog 26 #[.string s, .int .i64 a] w fun e w' => NextR s a (some (3, n)) e ∧ Below w.heap.size w w' := by
  have HS := Aside0.mk (fun W => lex_small.calls (s[0].toNat : Int) (smallN s[0]) W (lex_small_eq s[0]))
  rw [hsm] at HS
  have HG := Aside0.mk (fun W => lex_great.calls (s[0].toNat : Int) (greatN s[0]) W (lex_great_eq s[0]))
  rw [hgr] at HG
  have hr2 := fun W => run_sign (s.extract 1 s.size) (by rw [ByteArray.size_extract]; omega) W
  rw [extract_rest] at hr2
  have hle : n ≤ s.size := by have := runN_le signB (s.data.toList.drop 1); rw [List.length_drop, data_length] at this; omega
  generalize runN signB (s.data.toList.drop 1) = m at hn hr2
  have hw : wrap64 (1 + (m : Int)) = (n : Int) := by unfold wrap64; omega
  have HR := Aside0.mk hr2
  have HLW := Aside0.mk hLW
  obtain ⟨q1, q2, q3, q4, hq⟩ : ∃ q1 q2 q3 q4, readR (s.extract 0 n) = (q1, q2, q3, q4) := ⟨_, _, _, _, rfl⟩
  rw [hq] at hR
  have HRD : Aside0 (value_Read.f (s.extract 0 n) = some (q1, q2, q3, q4)) := ⟨by unfold value_Read.f; rw [if_pos (by rw [ByteArray.size_extract]; omega), hq]⟩
  have HD := Aside0.mk (fun W => lex_digit.calls (s[0].toNat : Int) (digitN s[0]) W (lex_digit_eq s[0]))
  rw [show digitN s[0] = false by rw [h45]; rfl] at HD
  have HD1 := Aside0.mk (fun W => lex_digit.calls (s[1].toNat : Int) (digitN s[1]) W (lex_digit_eq s[1]))
  rw [hd1] at HD1
  have e35 : ((s[0].toNat : Int) == 35) = false := by rw [h45]; rfl
  have e45 : ((s[0].toNat : Int) == 45) = true := by rw [h45]; rfl
  have el : decide ((1 : Int) < (s.size : Int)) = true := decide_eq_true (by omega)
  have eq4 : (q4 == 0) = true := beq_iff_eq.2 hR
  clear hR hq hn hr2 hLW hsm hgr hs h45 hd1
  go_enter Tryd.func26, Tryd.ntmps26
  go_wp2_with (first | (go_at_call 50; refine (HS.out _).mono ?_; rintro e w' ⟨rfl, ⟨nd1, rfl⟩⟩) | (go_at_call 28; refine (HG.out _).mono ?_; rintro e w' ⟨rfl, ⟨nd2, rfl⟩⟩) | (go_at_call 52; (with_reducible refine (HD.out _).mono ?_); rintro e w' ⟨rfl, ⟨nd3, rfl⟩⟩) | (go_at_call 52; (with_reducible refine (HD1.out _).mono ?_); rintro e w' ⟨rfl, ⟨nd7, rfl⟩⟩) | (go_at_call 29; refine (HR.out _).mono ?_; rintro e w' ⟨rfl, ⟨nd4, rfl⟩⟩))
  refine (value_Read.calls _ _ _ _ _ _ (by exact (HLW.out.alloc _).drewN _) HRD.out).mono ?_
  rintro e w1 ⟨rfl, hb1⟩
  have HB := Aside0.mk (below_step (below_first w _ _) hb1)
  have HK := Aside0.mk (blk_below (blk_first w _ _) hb1)
  have hz : w.heap.size < w1.heap.size := blk_lt HK.out
  clear hb1
  have hf0 := blk_frozen HK.out 0
  have hf1 := blk_frozen HK.out 1
  have hf2 := blk_frozen HK.out 2
  have hc0 : w1.cell? ⟨w.heap.size, 0, none⟩ = some (.int .i64 0) := (blk_cell HK.out 0).trans rfl
  have hc1 : w1.cell? ⟨w.heap.size, 1, none⟩ = some (.string ⟨#[]⟩) := (blk_cell HK.out 1).trans rfl
  have hc2 : w1.cell? ⟨w.heap.size, 2, none⟩ = some (.int .i64 0) := (blk_cell HK.out 2).trans rfl
  go_wp2
  exact next_retA HK.out HB.out 3 _ a rfl _
set_option maxHeartbeats 1600000 in
set_option maxRecDepth 100000 in
theorem next_minus_no (s : ByteArray) (hs : s.size ≤ 140737488355328) (a : Int) (w : World) (hp : 0 < s.size) (n : Nat) (hLW : LaidW w) (hsm : smallN s[0] = false) (hgr : greatN s[0] = false) (h45 : s[0] = 45) (h1 : 1 < s.size) (hd1 : digitN s[1] = true) (hn : 1 + runN signB (s.data.toList.drop 1) = n) (hR : (readR (s.extract 0 n)).2.2.2 ≠ 0) :
    Calls Tryd.prog 26 #[.string s, .int .i64 a] w fun e w' => NextR s a (none) e ∧ Below w.heap.size w w' := by
  have HS := Aside0.mk (fun W => lex_small.calls (s[0].toNat : Int) (smallN s[0]) W (lex_small_eq s[0]))
  rw [hsm] at HS
  have HG := Aside0.mk (fun W => lex_great.calls (s[0].toNat : Int) (greatN s[0]) W (lex_great_eq s[0]))
  rw [hgr] at HG
  have hr2 := fun W => run_sign (s.extract 1 s.size) (by rw [ByteArray.size_extract]; omega) W
  rw [extract_rest] at hr2
  have hle : n ≤ s.size := by have := runN_le signB (s.data.toList.drop 1); rw [List.length_drop, data_length] at this; omega
  generalize runN signB (s.data.toList.drop 1) = m at hn hr2
  have hw : wrap64 (1 + (m : Int)) = (n : Int) := by unfold wrap64; omega
  have HR := Aside0.mk hr2
  have HLW := Aside0.mk hLW
  obtain ⟨q1, q2, q3, q4, hq⟩ : ∃ q1 q2 q3 q4, readR (s.extract 0 n) = (q1, q2, q3, q4) := ⟨_, _, _, _, rfl⟩
  rw [hq] at hR
  have HRD : Aside0 (value_Read.f (s.extract 0 n) = some (q1, q2, q3, q4)) := ⟨by unfold value_Read.f; rw [if_pos (by rw [ByteArray.size_extract]; omega), hq]⟩
  have HD := Aside0.mk (fun W => lex_digit.calls (s[0].toNat : Int) (digitN s[0]) W (lex_digit_eq s[0]))
  rw [show digitN s[0] = false by rw [h45]; rfl] at HD
  have HD1 := Aside0.mk (fun W => lex_digit.calls (s[1].toNat : Int) (digitN s[1]) W (lex_digit_eq s[1]))
  rw [hd1] at HD1
  have e35 : ((s[0].toNat : Int) == 35) = false := by rw [h45]; rfl
  have e45 : ((s[0].toNat : Int) == 45) = true := by rw [h45]; rfl
  have el : decide ((1 : Int) < (s.size : Int)) = true := decide_eq_true (by omega)
  have eq4 : (q4 == 0) = false := beq_eq_false_iff_ne.2 hR
  clear hR hq hn hr2 hLW hsm hgr hs h45 hd1
  go_enter Tryd.func26, Tryd.ntmps26
  go_wp2_with (first | (go_at_call 50; refine (HS.out _).mono ?_; rintro e w' ⟨rfl, ⟨nd1, rfl⟩⟩) | (go_at_call 28; refine (HG.out _).mono ?_; rintro e w' ⟨rfl, ⟨nd2, rfl⟩⟩) | (go_at_call 52; (with_reducible refine (HD.out _).mono ?_); rintro e w' ⟨rfl, ⟨nd3, rfl⟩⟩) | (go_at_call 52; (with_reducible refine (HD1.out _).mono ?_); rintro e w' ⟨rfl, ⟨nd7, rfl⟩⟩) | (go_at_call 29; refine (HR.out _).mono ?_; rintro e w' ⟨rfl, ⟨nd4, rfl⟩⟩))
  refine (value_Read.calls _ _ _ _ _ _ (by exact (HLW.out.alloc _).drewN _) HRD.out).mono ?_
  rintro e w1 ⟨rfl, hb1⟩
  have HB := Aside0.mk (below_step (below_first w _ _) hb1)
  have HK := Aside0.mk (blk_below (blk_first w _ _) hb1)
  have hz : w.heap.size < w1.heap.size := blk_lt HK.out
  clear hb1
  have hf0 := blk_frozen HK.out 0
  have hf1 := blk_frozen HK.out 1
  have hf2 := blk_frozen HK.out 2
  have hc0 : w1.cell? ⟨w.heap.size, 0, none⟩ = some (.int .i64 0) := (blk_cell HK.out 0).trans rfl
  have hc1 : w1.cell? ⟨w.heap.size, 1, none⟩ = some (.string ⟨#[]⟩) := (blk_cell HK.out 1).trans rfl
  have hc2 : w1.cell? ⟨w.heap.size, 2, none⟩ = some (.int .i64 0) := (blk_cell HK.out 2).trans rfl
  go_wp2
  exact ⟨rfl, rfl, below_alloc HB.out _⟩
set_option maxHeartbeats 1600000 in
set_option maxRecDepth 100000 in
theorem next_plain_0 (s : ByteArray) (hs : s.size ≤ 140737488355328) (a : Int) (w : World) (hp : 0 < s.size) (hsm : smallN s[0] = false) (hgr : greatN s[0] = false) (h35 : s[0] ≠ 35) (hdg : digitN s[0] = false) (h45 : s[0] ≠ 45) (p0 : (s.data.toList.take 2 == [60, 61]) = true) :
    Calls Tryd.prog 26 #[.string s, .int .i64 a] w fun e w' => NextR s a (some (4, 2)) e ∧ Below w.heap.size w w' := by
  have HS := Aside0.mk (fun W => lex_small.calls (s[0].toNat : Int) (smallN s[0]) W (lex_small_eq s[0]))
  rw [hsm] at HS
  have HG := Aside0.mk (fun W => lex_great.calls (s[0].toNat : Int) (greatN s[0]) W (lex_great_eq s[0]))
  rw [hgr] at HG
  have HD := Aside0.mk (fun W => lex_digit.calls (s[0].toNat : Int) (digitN s[0]) W (lex_digit_eq s[0]))
  rw [hdg] at HD
  have e35 : ((s[0].toNat : Int) == 35) = false := by rw [show ((s[0].toNat : Int) == 35) = (s[0] == 35) from u8_eq_nat s[0] 35 (by omega)]; exact beq_eq_false_iff_ne.2 h35
  have e45 : ((s[0].toNat : Int) == 45) = false := by rw [show ((s[0].toNat : Int) == 45) = (s[0] == 45) from u8_eq_nat s[0] 45 (by omega)]; exact beq_eq_false_iff_ne.2 h45
  have HP0 := Aside0.mk (fun W => strings_HasPrefix.calls s ⟨#[60, 61]⟩ _ W (prefix_two s _ _ p0))
  have h2 : (2 : Nat) ≤ s.size := take_two (beq_iff_eq.1 p0) rfl
  clear hsm hgr hs h35 hdg h45 p0
  go_enter Tryd.func26, Tryd.ntmps26
  go_wp2_with (first | (go_at_call 50; refine (HS.out _).mono ?_; rintro e w' ⟨rfl, ⟨nd1, rfl⟩⟩) | (go_at_call 28; refine (HG.out _).mono ?_; rintro e w' ⟨rfl, ⟨nd2, rfl⟩⟩) | (go_at_call 52; refine (HD.out _).mono ?_; rintro e w' ⟨rfl, ⟨nd3, rfl⟩⟩) | (go_at_call 53; (with_reducible refine (HP0.out _).mono ?_); rintro e w' ⟨rfl, ⟨np0, rfl⟩⟩))
  exact next_ret (blk_first w _ _) (below_first w _ _) 4 _ a (by rfl)
set_option maxHeartbeats 1600000 in
set_option maxRecDepth 100000 in
theorem next_plain_1 (s : ByteArray) (hs : s.size ≤ 140737488355328) (a : Int) (w : World) (hp : 0 < s.size) (hsm : smallN s[0] = false) (hgr : greatN s[0] = false) (h35 : s[0] ≠ 35) (hdg : digitN s[0] = false) (h45 : s[0] ≠ 45) (p0 : (s.data.toList.take 2 == [60, 61]) = false) (p1 : (s.data.toList.take 2 == [33, 61]) = true) :
    Calls Tryd.prog 26 #[.string s, .int .i64 a] w fun e w' => NextR s a (some (4, 2)) e ∧ Below w.heap.size w w' := by
  have HS := Aside0.mk (fun W => lex_small.calls (s[0].toNat : Int) (smallN s[0]) W (lex_small_eq s[0]))
  rw [hsm] at HS
  have HG := Aside0.mk (fun W => lex_great.calls (s[0].toNat : Int) (greatN s[0]) W (lex_great_eq s[0]))
  rw [hgr] at HG
  have HD := Aside0.mk (fun W => lex_digit.calls (s[0].toNat : Int) (digitN s[0]) W (lex_digit_eq s[0]))
  rw [hdg] at HD
  have e35 : ((s[0].toNat : Int) == 35) = false := by rw [show ((s[0].toNat : Int) == 35) = (s[0] == 35) from u8_eq_nat s[0] 35 (by omega)]; exact beq_eq_false_iff_ne.2 h35
  have e45 : ((s[0].toNat : Int) == 45) = false := by rw [show ((s[0].toNat : Int) == 45) = (s[0] == 45) from u8_eq_nat s[0] 45 (by omega)]; exact beq_eq_false_iff_ne.2 h45
  have HP0 := Aside0.mk (fun W => strings_HasPrefix.calls s ⟨#[60, 61]⟩ _ W (prefix_two s _ _ p0))
  have HP1 := Aside0.mk (fun W => strings_HasPrefix.calls s ⟨#[33, 61]⟩ _ W (prefix_two s _ _ p1))
  have h2 : (2 : Nat) ≤ s.size := take_two (beq_iff_eq.1 p1) rfl
  clear hsm hgr hs h35 hdg h45 p0 p1
  go_enter Tryd.func26, Tryd.ntmps26
  go_wp2_with (first | (go_at_call 50; refine (HS.out _).mono ?_; rintro e w' ⟨rfl, ⟨nd1, rfl⟩⟩) | (go_at_call 28; refine (HG.out _).mono ?_; rintro e w' ⟨rfl, ⟨nd2, rfl⟩⟩) | (go_at_call 52; refine (HD.out _).mono ?_; rintro e w' ⟨rfl, ⟨nd3, rfl⟩⟩) | (go_at_call 53; (with_reducible refine (HP0.out _).mono ?_); rintro e w' ⟨rfl, ⟨np0, rfl⟩⟩) | (go_at_call 53; (with_reducible refine (HP1.out _).mono ?_); rintro e w' ⟨rfl, ⟨np1, rfl⟩⟩))
  exact next_ret (blk_first w _ _) (below_first w _ _) 4 _ a (by rfl)
set_option maxHeartbeats 1600000 in
set_option maxRecDepth 100000 in
theorem next_plain_2 (s : ByteArray) (hs : s.size ≤ 140737488355328) (a : Int) (w : World) (hp : 0 < s.size) (hsm : smallN s[0] = false) (hgr : greatN s[0] = false) (h35 : s[0] ≠ 35) (hdg : digitN s[0] = false) (h45 : s[0] ≠ 45) (p0 : (s.data.toList.take 2 == [60, 61]) = false) (p1 : (s.data.toList.take 2 == [33, 61]) = false) (p2 : (s.data.toList.take 2 == [58, 45]) = true) :
    Calls Tryd.prog 26 #[.string s, .int .i64 a] w fun e w' => NextR s a (some (4, 2)) e ∧ Below w.heap.size w w' := by
  have HS := Aside0.mk (fun W => lex_small.calls (s[0].toNat : Int) (smallN s[0]) W (lex_small_eq s[0]))
  rw [hsm] at HS
  have HG := Aside0.mk (fun W => lex_great.calls (s[0].toNat : Int) (greatN s[0]) W (lex_great_eq s[0]))
  rw [hgr] at HG
  have HD := Aside0.mk (fun W => lex_digit.calls (s[0].toNat : Int) (digitN s[0]) W (lex_digit_eq s[0]))
  rw [hdg] at HD
  have e35 : ((s[0].toNat : Int) == 35) = false := by rw [show ((s[0].toNat : Int) == 35) = (s[0] == 35) from u8_eq_nat s[0] 35 (by omega)]; exact beq_eq_false_iff_ne.2 h35
  have e45 : ((s[0].toNat : Int) == 45) = false := by rw [show ((s[0].toNat : Int) == 45) = (s[0] == 45) from u8_eq_nat s[0] 45 (by omega)]; exact beq_eq_false_iff_ne.2 h45
  have HP0 := Aside0.mk (fun W => strings_HasPrefix.calls s ⟨#[60, 61]⟩ _ W (prefix_two s _ _ p0))
  have HP1 := Aside0.mk (fun W => strings_HasPrefix.calls s ⟨#[33, 61]⟩ _ W (prefix_two s _ _ p1))
  have HP2 := Aside0.mk (fun W => strings_HasPrefix.calls s ⟨#[58, 45]⟩ _ W (prefix_two s _ _ p2))
  have h2 : (2 : Nat) ≤ s.size := take_two (beq_iff_eq.1 p2) rfl
  clear hsm hgr hs h35 hdg h45 p0 p1 p2
  go_enter Tryd.func26, Tryd.ntmps26
  go_wp2_with (first | (go_at_call 50; refine (HS.out _).mono ?_; rintro e w' ⟨rfl, ⟨nd1, rfl⟩⟩) | (go_at_call 28; refine (HG.out _).mono ?_; rintro e w' ⟨rfl, ⟨nd2, rfl⟩⟩) | (go_at_call 52; refine (HD.out _).mono ?_; rintro e w' ⟨rfl, ⟨nd3, rfl⟩⟩) | (go_at_call 53; (with_reducible refine (HP0.out _).mono ?_); rintro e w' ⟨rfl, ⟨np0, rfl⟩⟩) | (go_at_call 53; (with_reducible refine (HP1.out _).mono ?_); rintro e w' ⟨rfl, ⟨np1, rfl⟩⟩) | (go_at_call 53; (with_reducible refine (HP2.out _).mono ?_); rintro e w' ⟨rfl, ⟨np2, rfl⟩⟩))
  exact next_ret (blk_first w _ _) (below_first w _ _) 4 _ a (by rfl)
set_option maxHeartbeats 1600000 in
set_option maxRecDepth 100000 in
theorem next_plain_3 (s : ByteArray) (hs : s.size ≤ 140737488355328) (a : Int) (w : World) (hp : 0 < s.size) (hsm : smallN s[0] = false) (hgr : greatN s[0] = false) (h35 : s[0] ≠ 35) (hdg : digitN s[0] = false) (h45 : s[0] ≠ 45) (p0 : (s.data.toList.take 2 == [60, 61]) = false) (p1 : (s.data.toList.take 2 == [33, 61]) = false) (p2 : (s.data.toList.take 2 == [58, 45]) = false) (p3 : (s.data.toList.take 2 == [63, 45]) = true) :
    Calls Tryd.prog 26 #[.string s, .int .i64 a] w fun e w' => NextR s a (some (4, 2)) e ∧ Below w.heap.size w w' := by
  have HS := Aside0.mk (fun W => lex_small.calls (s[0].toNat : Int) (smallN s[0]) W (lex_small_eq s[0]))
  rw [hsm] at HS
  have HG := Aside0.mk (fun W => lex_great.calls (s[0].toNat : Int) (greatN s[0]) W (lex_great_eq s[0]))
  rw [hgr] at HG
  have HD := Aside0.mk (fun W => lex_digit.calls (s[0].toNat : Int) (digitN s[0]) W (lex_digit_eq s[0]))
  rw [hdg] at HD
  have e35 : ((s[0].toNat : Int) == 35) = false := by rw [show ((s[0].toNat : Int) == 35) = (s[0] == 35) from u8_eq_nat s[0] 35 (by omega)]; exact beq_eq_false_iff_ne.2 h35
  have e45 : ((s[0].toNat : Int) == 45) = false := by rw [show ((s[0].toNat : Int) == 45) = (s[0] == 45) from u8_eq_nat s[0] 45 (by omega)]; exact beq_eq_false_iff_ne.2 h45
  have HP0 := Aside0.mk (fun W => strings_HasPrefix.calls s ⟨#[60, 61]⟩ _ W (prefix_two s _ _ p0))
  have HP1 := Aside0.mk (fun W => strings_HasPrefix.calls s ⟨#[33, 61]⟩ _ W (prefix_two s _ _ p1))
  have HP2 := Aside0.mk (fun W => strings_HasPrefix.calls s ⟨#[58, 45]⟩ _ W (prefix_two s _ _ p2))
  have HP3 := Aside0.mk (fun W => strings_HasPrefix.calls s ⟨#[63, 45]⟩ _ W (prefix_two s _ _ p3))
  have h2 : (2 : Nat) ≤ s.size := take_two (beq_iff_eq.1 p3) rfl
  clear hsm hgr hs h35 hdg h45 p0 p1 p2 p3
  go_enter Tryd.func26, Tryd.ntmps26
  go_wp2_with (first | (go_at_call 50; refine (HS.out _).mono ?_; rintro e w' ⟨rfl, ⟨nd1, rfl⟩⟩) | (go_at_call 28; refine (HG.out _).mono ?_; rintro e w' ⟨rfl, ⟨nd2, rfl⟩⟩) | (go_at_call 52; refine (HD.out _).mono ?_; rintro e w' ⟨rfl, ⟨nd3, rfl⟩⟩) | (go_at_call 53; (with_reducible refine (HP0.out _).mono ?_); rintro e w' ⟨rfl, ⟨np0, rfl⟩⟩) | (go_at_call 53; (with_reducible refine (HP1.out _).mono ?_); rintro e w' ⟨rfl, ⟨np1, rfl⟩⟩) | (go_at_call 53; (with_reducible refine (HP2.out _).mono ?_); rintro e w' ⟨rfl, ⟨np2, rfl⟩⟩) | (go_at_call 53; (with_reducible refine (HP3.out _).mono ?_); rintro e w' ⟨rfl, ⟨np3, rfl⟩⟩))
  exact next_ret (blk_first w _ _) (below_first w _ _) 4 _ a (by rfl)
set_option maxHeartbeats 1600000 in
set_option maxRecDepth 100000 in
theorem next_plain_4 (s : ByteArray) (hs : s.size ≤ 140737488355328) (a : Int) (w : World) (hp : 0 < s.size) (hsm : smallN s[0] = false) (hgr : greatN s[0] = false) (h35 : s[0] ≠ 35) (hdg : digitN s[0] = false) (h45 : s[0] ≠ 45) (p0 : (s.data.toList.take 2 == [60, 61]) = false) (p1 : (s.data.toList.take 2 == [33, 61]) = false) (p2 : (s.data.toList.take 2 == [58, 45]) = false) (p3 : (s.data.toList.take 2 == [63, 45]) = false) (hone : oneB s[0] = true) :
    Calls Tryd.prog 26 #[.string s, .int .i64 a] w fun e w' => NextR s a (some (4, 1)) e ∧ Below w.heap.size w w' := by
  have HS := Aside0.mk (fun W => lex_small.calls (s[0].toNat : Int) (smallN s[0]) W (lex_small_eq s[0]))
  rw [hsm] at HS
  have HG := Aside0.mk (fun W => lex_great.calls (s[0].toNat : Int) (greatN s[0]) W (lex_great_eq s[0]))
  rw [hgr] at HG
  have HD := Aside0.mk (fun W => lex_digit.calls (s[0].toNat : Int) (digitN s[0]) W (lex_digit_eq s[0]))
  rw [hdg] at HD
  have e35 : ((s[0].toNat : Int) == 35) = false := by rw [show ((s[0].toNat : Int) == 35) = (s[0] == 35) from u8_eq_nat s[0] 35 (by omega)]; exact beq_eq_false_iff_ne.2 h35
  have e45 : ((s[0].toNat : Int) == 45) = false := by rw [show ((s[0].toNat : Int) == 45) = (s[0] == 45) from u8_eq_nat s[0] 45 (by omega)]; exact beq_eq_false_iff_ne.2 h45
  have HP0 := Aside0.mk (fun W => strings_HasPrefix.calls s ⟨#[60, 61]⟩ _ W (prefix_two s _ _ p0))
  have HP1 := Aside0.mk (fun W => strings_HasPrefix.calls s ⟨#[33, 61]⟩ _ W (prefix_two s _ _ p1))
  have HP2 := Aside0.mk (fun W => strings_HasPrefix.calls s ⟨#[58, 45]⟩ _ W (prefix_two s _ _ p2))
  have HP3 := Aside0.mk (fun W => strings_HasPrefix.calls s ⟨#[63, 45]⟩ _ W (prefix_two s _ _ p3))
  have HI := Aside0.mk (fun W => Tryd.strings_IndexByte ⟨#[40, 41, 44, 46, 60, 61, 47, 124, 42, 43, 63, 94]⟩ (s[0].toNat : Int) W)
  have ei : decide ((0 : Int) ≤ Lib.indexByte (⟨#[40, 41, 44, 46, 60, 61, 47, 124, 42, 43, 63, 94]⟩ : ByteArray).data.toList ((s[0].toNat : Int)).toNat.toUInt8) = true := (one_index s[0]).trans hone
  generalize Lib.indexByte (⟨#[40, 41, 44, 46, 60, 61, 47, 124, 42, 43, 63, 94]⟩ : ByteArray).data.toList ((s[0].toNat : Int)).toNat.toUInt8 = ix at HI ei
  clear hsm hgr hs h35 hdg h45 p0 p1 p2 p3 hone
  go_enter Tryd.func26, Tryd.ntmps26
  go_wp2_with (first | (go_at_call 50; refine (HS.out _).mono ?_; rintro e w' ⟨rfl, ⟨nd1, rfl⟩⟩) | (go_at_call 28; refine (HG.out _).mono ?_; rintro e w' ⟨rfl, ⟨nd2, rfl⟩⟩) | (go_at_call 52; refine (HD.out _).mono ?_; rintro e w' ⟨rfl, ⟨nd3, rfl⟩⟩) | (go_at_call 53; (with_reducible refine (HP0.out _).mono ?_); rintro e w' ⟨rfl, ⟨np0, rfl⟩⟩) | (go_at_call 53; (with_reducible refine (HP1.out _).mono ?_); rintro e w' ⟨rfl, ⟨np1, rfl⟩⟩) | (go_at_call 53; (with_reducible refine (HP2.out _).mono ?_); rintro e w' ⟨rfl, ⟨np2, rfl⟩⟩) | (go_at_call 53; (with_reducible refine (HP3.out _).mono ?_); rintro e w' ⟨rfl, ⟨np3, rfl⟩⟩) | (go_at_call 25; refine (HI.out _).mono ?_; rintro e w' ⟨rfl, rfl⟩))
  exact next_ret (blk_first w _ _) (below_first w _ _) 4 _ a (by rfl)
set_option maxHeartbeats 1600000 in
set_option maxRecDepth 100000 in
theorem next_plain_5 (s : ByteArray) (hs : s.size ≤ 140737488355328) (a : Int) (w : World) (hp : 0 < s.size) (hsm : smallN s[0] = false) (hgr : greatN s[0] = false) (h35 : s[0] ≠ 35) (hdg : digitN s[0] = false) (h45 : s[0] ≠ 45) (p0 : (s.data.toList.take 2 == [60, 61]) = false) (p1 : (s.data.toList.take 2 == [33, 61]) = false) (p2 : (s.data.toList.take 2 == [58, 45]) = false) (p3 : (s.data.toList.take 2 == [63, 45]) = false) (hone : oneB s[0] = false) :
    Calls Tryd.prog 26 #[.string s, .int .i64 a] w fun e w' => NextR s a (none) e ∧ Below w.heap.size w w' := by
  have HS := Aside0.mk (fun W => lex_small.calls (s[0].toNat : Int) (smallN s[0]) W (lex_small_eq s[0]))
  rw [hsm] at HS
  have HG := Aside0.mk (fun W => lex_great.calls (s[0].toNat : Int) (greatN s[0]) W (lex_great_eq s[0]))
  rw [hgr] at HG
  have HD := Aside0.mk (fun W => lex_digit.calls (s[0].toNat : Int) (digitN s[0]) W (lex_digit_eq s[0]))
  rw [hdg] at HD
  have e35 : ((s[0].toNat : Int) == 35) = false := by rw [show ((s[0].toNat : Int) == 35) = (s[0] == 35) from u8_eq_nat s[0] 35 (by omega)]; exact beq_eq_false_iff_ne.2 h35
  have e45 : ((s[0].toNat : Int) == 45) = false := by rw [show ((s[0].toNat : Int) == 45) = (s[0] == 45) from u8_eq_nat s[0] 45 (by omega)]; exact beq_eq_false_iff_ne.2 h45
  have HP0 := Aside0.mk (fun W => strings_HasPrefix.calls s ⟨#[60, 61]⟩ _ W (prefix_two s _ _ p0))
  have HP1 := Aside0.mk (fun W => strings_HasPrefix.calls s ⟨#[33, 61]⟩ _ W (prefix_two s _ _ p1))
  have HP2 := Aside0.mk (fun W => strings_HasPrefix.calls s ⟨#[58, 45]⟩ _ W (prefix_two s _ _ p2))
  have HP3 := Aside0.mk (fun W => strings_HasPrefix.calls s ⟨#[63, 45]⟩ _ W (prefix_two s _ _ p3))
  have HI := Aside0.mk (fun W => Tryd.strings_IndexByte ⟨#[40, 41, 44, 46, 60, 61, 47, 124, 42, 43, 63, 94]⟩ (s[0].toNat : Int) W)
  have ei : decide ((0 : Int) ≤ Lib.indexByte (⟨#[40, 41, 44, 46, 60, 61, 47, 124, 42, 43, 63, 94]⟩ : ByteArray).data.toList ((s[0].toNat : Int)).toNat.toUInt8) = false := (one_index s[0]).trans hone
  generalize Lib.indexByte (⟨#[40, 41, 44, 46, 60, 61, 47, 124, 42, 43, 63, 94]⟩ : ByteArray).data.toList ((s[0].toNat : Int)).toNat.toUInt8 = ix at HI ei
  clear hsm hgr hs h35 hdg h45 p0 p1 p2 p3 hone
  go_enter Tryd.func26, Tryd.ntmps26
  go_wp2_with (first | (go_at_call 50; refine (HS.out _).mono ?_; rintro e w' ⟨rfl, ⟨nd1, rfl⟩⟩) | (go_at_call 28; refine (HG.out _).mono ?_; rintro e w' ⟨rfl, ⟨nd2, rfl⟩⟩) | (go_at_call 52; refine (HD.out _).mono ?_; rintro e w' ⟨rfl, ⟨nd3, rfl⟩⟩) | (go_at_call 53; (with_reducible refine (HP0.out _).mono ?_); rintro e w' ⟨rfl, ⟨np0, rfl⟩⟩) | (go_at_call 53; (with_reducible refine (HP1.out _).mono ?_); rintro e w' ⟨rfl, ⟨np1, rfl⟩⟩) | (go_at_call 53; (with_reducible refine (HP2.out _).mono ?_); rintro e w' ⟨rfl, ⟨np2, rfl⟩⟩) | (go_at_call 53; (with_reducible refine (HP3.out _).mono ?_); rintro e w' ⟨rfl, ⟨np3, rfl⟩⟩) | (go_at_call 25; refine (HI.out _).mono ?_; rintro e w' ⟨rfl, rfl⟩))
  exact ⟨rfl, rfl, below_first w _ _⟩
set_option maxHeartbeats 1600000 in
set_option maxRecDepth 100000 in
theorem next_short_4 (s : ByteArray) (hs : s.size ≤ 140737488355328) (a : Int) (w : World) (hp : 0 < s.size) (hsm : smallN s[0] = false) (hgr : greatN s[0] = false) (h35 : s[0] ≠ 35) (hdg : digitN s[0] = false) (h45 : s[0] = 45) (h1 : s.size ≤ 1) (p0 : (s.data.toList.take 2 == [60, 61]) = false) (p1 : (s.data.toList.take 2 == [33, 61]) = false) (p2 : (s.data.toList.take 2 == [58, 45]) = false) (p3 : (s.data.toList.take 2 == [63, 45]) = false) (hone : oneB s[0] = true) :
    Calls Tryd.prog 26 #[.string s, .int .i64 a] w fun e w' => NextR s a (some (4, 1)) e ∧ Below w.heap.size w w' := by
  have HS := Aside0.mk (fun W => lex_small.calls (s[0].toNat : Int) (smallN s[0]) W (lex_small_eq s[0]))
  rw [hsm] at HS
  have HG := Aside0.mk (fun W => lex_great.calls (s[0].toNat : Int) (greatN s[0]) W (lex_great_eq s[0]))
  rw [hgr] at HG
  have HD := Aside0.mk (fun W => lex_digit.calls (s[0].toNat : Int) (digitN s[0]) W (lex_digit_eq s[0]))
  rw [hdg] at HD
  have e35 : ((s[0].toNat : Int) == 35) = false := by rw [show ((s[0].toNat : Int) == 35) = (s[0] == 35) from u8_eq_nat s[0] 35 (by omega)]; exact beq_eq_false_iff_ne.2 h35
  have e45 : ((s[0].toNat : Int) == 45) = true := by rw [h45]; rfl
  have el : decide ((1 : Int) < (s.size : Int)) = false := decide_eq_false (by omega)
  have HP0 := Aside0.mk (fun W => strings_HasPrefix.calls s ⟨#[60, 61]⟩ _ W (prefix_two s _ _ p0))
  have HP1 := Aside0.mk (fun W => strings_HasPrefix.calls s ⟨#[33, 61]⟩ _ W (prefix_two s _ _ p1))
  have HP2 := Aside0.mk (fun W => strings_HasPrefix.calls s ⟨#[58, 45]⟩ _ W (prefix_two s _ _ p2))
  have HP3 := Aside0.mk (fun W => strings_HasPrefix.calls s ⟨#[63, 45]⟩ _ W (prefix_two s _ _ p3))
  have HI := Aside0.mk (fun W => Tryd.strings_IndexByte ⟨#[40, 41, 44, 46, 60, 61, 47, 124, 42, 43, 63, 94]⟩ (s[0].toNat : Int) W)
  have ei : decide ((0 : Int) ≤ Lib.indexByte (⟨#[40, 41, 44, 46, 60, 61, 47, 124, 42, 43, 63, 94]⟩ : ByteArray).data.toList ((s[0].toNat : Int)).toNat.toUInt8) = true := (one_index s[0]).trans hone
  generalize Lib.indexByte (⟨#[40, 41, 44, 46, 60, 61, 47, 124, 42, 43, 63, 94]⟩ : ByteArray).data.toList ((s[0].toNat : Int)).toNat.toUInt8 = ix at HI ei
  clear hsm hgr hs h35 hdg h45 p0 p1 p2 p3 hone
  go_enter Tryd.func26, Tryd.ntmps26
  go_wp2_with (first | (go_at_call 50; refine (HS.out _).mono ?_; rintro e w' ⟨rfl, ⟨nd1, rfl⟩⟩) | (go_at_call 28; refine (HG.out _).mono ?_; rintro e w' ⟨rfl, ⟨nd2, rfl⟩⟩) | (go_at_call 52; refine (HD.out _).mono ?_; rintro e w' ⟨rfl, ⟨nd3, rfl⟩⟩) | (go_at_call 53; (with_reducible refine (HP0.out _).mono ?_); rintro e w' ⟨rfl, ⟨np0, rfl⟩⟩) | (go_at_call 53; (with_reducible refine (HP1.out _).mono ?_); rintro e w' ⟨rfl, ⟨np1, rfl⟩⟩) | (go_at_call 53; (with_reducible refine (HP2.out _).mono ?_); rintro e w' ⟨rfl, ⟨np2, rfl⟩⟩) | (go_at_call 53; (with_reducible refine (HP3.out _).mono ?_); rintro e w' ⟨rfl, ⟨np3, rfl⟩⟩) | (go_at_call 25; refine (HI.out _).mono ?_; rintro e w' ⟨rfl, rfl⟩))
  exact next_ret (blk_first w _ _) (below_first w _ _) 4 _ a (by rfl)
set_option maxHeartbeats 1600000 in
set_option maxRecDepth 100000 in
theorem next_short_5 (s : ByteArray) (hs : s.size ≤ 140737488355328) (a : Int) (w : World) (hp : 0 < s.size) (hsm : smallN s[0] = false) (hgr : greatN s[0] = false) (h35 : s[0] ≠ 35) (hdg : digitN s[0] = false) (h45 : s[0] = 45) (h1 : s.size ≤ 1) (p0 : (s.data.toList.take 2 == [60, 61]) = false) (p1 : (s.data.toList.take 2 == [33, 61]) = false) (p2 : (s.data.toList.take 2 == [58, 45]) = false) (p3 : (s.data.toList.take 2 == [63, 45]) = false) (hone : oneB s[0] = false) :
    Calls Tryd.prog 26 #[.string s, .int .i64 a] w fun e w' => NextR s a (none) e ∧ Below w.heap.size w w' := by
  have HS := Aside0.mk (fun W => lex_small.calls (s[0].toNat : Int) (smallN s[0]) W (lex_small_eq s[0]))
  rw [hsm] at HS
  have HG := Aside0.mk (fun W => lex_great.calls (s[0].toNat : Int) (greatN s[0]) W (lex_great_eq s[0]))
  rw [hgr] at HG
  have HD := Aside0.mk (fun W => lex_digit.calls (s[0].toNat : Int) (digitN s[0]) W (lex_digit_eq s[0]))
  rw [hdg] at HD
  have e35 : ((s[0].toNat : Int) == 35) = false := by rw [show ((s[0].toNat : Int) == 35) = (s[0] == 35) from u8_eq_nat s[0] 35 (by omega)]; exact beq_eq_false_iff_ne.2 h35
  have e45 : ((s[0].toNat : Int) == 45) = true := by rw [h45]; rfl
  have el : decide ((1 : Int) < (s.size : Int)) = false := decide_eq_false (by omega)
  have HP0 := Aside0.mk (fun W => strings_HasPrefix.calls s ⟨#[60, 61]⟩ _ W (prefix_two s _ _ p0))
  have HP1 := Aside0.mk (fun W => strings_HasPrefix.calls s ⟨#[33, 61]⟩ _ W (prefix_two s _ _ p1))
  have HP2 := Aside0.mk (fun W => strings_HasPrefix.calls s ⟨#[58, 45]⟩ _ W (prefix_two s _ _ p2))
  have HP3 := Aside0.mk (fun W => strings_HasPrefix.calls s ⟨#[63, 45]⟩ _ W (prefix_two s _ _ p3))
  have HI := Aside0.mk (fun W => Tryd.strings_IndexByte ⟨#[40, 41, 44, 46, 60, 61, 47, 124, 42, 43, 63, 94]⟩ (s[0].toNat : Int) W)
  have ei : decide ((0 : Int) ≤ Lib.indexByte (⟨#[40, 41, 44, 46, 60, 61, 47, 124, 42, 43, 63, 94]⟩ : ByteArray).data.toList ((s[0].toNat : Int)).toNat.toUInt8) = false := (one_index s[0]).trans hone
  generalize Lib.indexByte (⟨#[40, 41, 44, 46, 60, 61, 47, 124, 42, 43, 63, 94]⟩ : ByteArray).data.toList ((s[0].toNat : Int)).toNat.toUInt8 = ix at HI ei
  clear hsm hgr hs h35 hdg h45 p0 p1 p2 p3 hone
  go_enter Tryd.func26, Tryd.ntmps26
  go_wp2_with (first | (go_at_call 50; refine (HS.out _).mono ?_; rintro e w' ⟨rfl, ⟨nd1, rfl⟩⟩) | (go_at_call 28; refine (HG.out _).mono ?_; rintro e w' ⟨rfl, ⟨nd2, rfl⟩⟩) | (go_at_call 52; refine (HD.out _).mono ?_; rintro e w' ⟨rfl, ⟨nd3, rfl⟩⟩) | (go_at_call 53; (with_reducible refine (HP0.out _).mono ?_); rintro e w' ⟨rfl, ⟨np0, rfl⟩⟩) | (go_at_call 53; (with_reducible refine (HP1.out _).mono ?_); rintro e w' ⟨rfl, ⟨np1, rfl⟩⟩) | (go_at_call 53; (with_reducible refine (HP2.out _).mono ?_); rintro e w' ⟨rfl, ⟨np2, rfl⟩⟩) | (go_at_call 53; (with_reducible refine (HP3.out _).mono ?_); rintro e w' ⟨rfl, ⟨np3, rfl⟩⟩) | (go_at_call 25; refine (HI.out _).mono ?_; rintro e w' ⟨rfl, rfl⟩))
  exact ⟨rfl, rfl, below_first w _ _⟩
set_option maxHeartbeats 1600000 in
set_option maxRecDepth 100000 in
theorem next_dash_0 (s : ByteArray) (hs : s.size ≤ 140737488355328) (a : Int) (w : World) (hp : 0 < s.size) (hsm : smallN s[0] = false) (hgr : greatN s[0] = false) (h35 : s[0] ≠ 35) (hdg : digitN s[0] = false) (h45 : s[0] = 45) (h1 : 1 < s.size) (hd1 : digitN s[1] = false) (p0 : (s.data.toList.take 2 == [60, 61]) = true) :
    Calls Tryd.prog 26 #[.string s, .int .i64 a] w fun e w' => NextR s a (some (4, 2)) e ∧ Below w.heap.size w w' := by
  have HS := Aside0.mk (fun W => lex_small.calls (s[0].toNat : Int) (smallN s[0]) W (lex_small_eq s[0]))
  rw [hsm] at HS
  have HG := Aside0.mk (fun W => lex_great.calls (s[0].toNat : Int) (greatN s[0]) W (lex_great_eq s[0]))
  rw [hgr] at HG
  have HD := Aside0.mk (fun W => lex_digit.calls (s[0].toNat : Int) (digitN s[0]) W (lex_digit_eq s[0]))
  rw [hdg] at HD
  have e35 : ((s[0].toNat : Int) == 35) = false := by rw [show ((s[0].toNat : Int) == 35) = (s[0] == 35) from u8_eq_nat s[0] 35 (by omega)]; exact beq_eq_false_iff_ne.2 h35
  have e45 : ((s[0].toNat : Int) == 45) = true := by rw [h45]; rfl
  have el : decide ((1 : Int) < (s.size : Int)) = true := decide_eq_true (by omega)
  have HD1 := Aside0.mk (fun W => lex_digit.calls (s[1].toNat : Int) (digitN s[1]) W (lex_digit_eq s[1]))
  rw [hd1] at HD1
  have HP0 := Aside0.mk (fun W => strings_HasPrefix.calls s ⟨#[60, 61]⟩ _ W (prefix_two s _ _ p0))
  have h2 : (2 : Nat) ≤ s.size := take_two (beq_iff_eq.1 p0) rfl
  clear hsm hgr hs h35 hdg h45 hd1 p0
  go_enter Tryd.func26, Tryd.ntmps26
  go_wp2_with (first | (go_at_call 50; refine (HS.out _).mono ?_; rintro e w' ⟨rfl, ⟨nd1, rfl⟩⟩) | (go_at_call 28; refine (HG.out _).mono ?_; rintro e w' ⟨rfl, ⟨nd2, rfl⟩⟩) | (go_at_call 52; (with_reducible refine (HD.out _).mono ?_); rintro e w' ⟨rfl, ⟨nd3, rfl⟩⟩) | (go_at_call 52; (with_reducible refine (HD1.out _).mono ?_); rintro e w' ⟨rfl, ⟨nd7, rfl⟩⟩) | (go_at_call 53; (with_reducible refine (HP0.out _).mono ?_); rintro e w' ⟨rfl, ⟨np0, rfl⟩⟩))
  exact next_ret (blk_first w _ _) (below_first w _ _) 4 _ a (by rfl)
set_option maxHeartbeats 1600000 in
set_option maxRecDepth 100000 in
theorem next_dash_1 (s : ByteArray) (hs : s.size ≤ 140737488355328) (a : Int) (w : World) (hp : 0 < s.size) (hsm : smallN s[0] = false) (hgr : greatN s[0] = false) (h35 : s[0] ≠ 35) (hdg : digitN s[0] = false) (h45 : s[0] = 45) (h1 : 1 < s.size) (hd1 : digitN s[1] = false) (p0 : (s.data.toList.take 2 == [60, 61]) = false) (p1 : (s.data.toList.take 2 == [33, 61]) = true) :
    Calls Tryd.prog 26 #[.string s, .int .i64 a] w fun e w' => NextR s a (some (4, 2)) e ∧ Below w.heap.size w w' := by
  have HS := Aside0.mk (fun W => lex_small.calls (s[0].toNat : Int) (smallN s[0]) W (lex_small_eq s[0]))
  rw [hsm] at HS
  have HG := Aside0.mk (fun W => lex_great.calls (s[0].toNat : Int) (greatN s[0]) W (lex_great_eq s[0]))
  rw [hgr] at HG
  have HD := Aside0.mk (fun W => lex_digit.calls (s[0].toNat : Int) (digitN s[0]) W (lex_digit_eq s[0]))
  rw [hdg] at HD
  have e35 : ((s[0].toNat : Int) == 35) = false := by rw [show ((s[0].toNat : Int) == 35) = (s[0] == 35) from u8_eq_nat s[0] 35 (by omega)]; exact beq_eq_false_iff_ne.2 h35
  have e45 : ((s[0].toNat : Int) == 45) = true := by rw [h45]; rfl
  have el : decide ((1 : Int) < (s.size : Int)) = true := decide_eq_true (by omega)
  have HD1 := Aside0.mk (fun W => lex_digit.calls (s[1].toNat : Int) (digitN s[1]) W (lex_digit_eq s[1]))
  rw [hd1] at HD1
  have HP0 := Aside0.mk (fun W => strings_HasPrefix.calls s ⟨#[60, 61]⟩ _ W (prefix_two s _ _ p0))
  have HP1 := Aside0.mk (fun W => strings_HasPrefix.calls s ⟨#[33, 61]⟩ _ W (prefix_two s _ _ p1))
  have h2 : (2 : Nat) ≤ s.size := take_two (beq_iff_eq.1 p1) rfl
  clear hsm hgr hs h35 hdg h45 hd1 p0 p1
  go_enter Tryd.func26, Tryd.ntmps26
  go_wp2_with (first | (go_at_call 50; refine (HS.out _).mono ?_; rintro e w' ⟨rfl, ⟨nd1, rfl⟩⟩) | (go_at_call 28; refine (HG.out _).mono ?_; rintro e w' ⟨rfl, ⟨nd2, rfl⟩⟩) | (go_at_call 52; (with_reducible refine (HD.out _).mono ?_); rintro e w' ⟨rfl, ⟨nd3, rfl⟩⟩) | (go_at_call 52; (with_reducible refine (HD1.out _).mono ?_); rintro e w' ⟨rfl, ⟨nd7, rfl⟩⟩) | (go_at_call 53; (with_reducible refine (HP0.out _).mono ?_); rintro e w' ⟨rfl, ⟨np0, rfl⟩⟩) | (go_at_call 53; (with_reducible refine (HP1.out _).mono ?_); rintro e w' ⟨rfl, ⟨np1, rfl⟩⟩))
  exact next_ret (blk_first w _ _) (below_first w _ _) 4 _ a (by rfl)
set_option maxHeartbeats 1600000 in
set_option maxRecDepth 100000 in
theorem next_dash_2 (s : ByteArray) (hs : s.size ≤ 140737488355328) (a : Int) (w : World) (hp : 0 < s.size) (hsm : smallN s[0] = false) (hgr : greatN s[0] = false) (h35 : s[0] ≠ 35) (hdg : digitN s[0] = false) (h45 : s[0] = 45) (h1 : 1 < s.size) (hd1 : digitN s[1] = false) (p0 : (s.data.toList.take 2 == [60, 61]) = false) (p1 : (s.data.toList.take 2 == [33, 61]) = false) (p2 : (s.data.toList.take 2 == [58, 45]) = true) :
    Calls Tryd.prog 26 #[.string s, .int .i64 a] w fun e w' => NextR s a (some (4, 2)) e ∧ Below w.heap.size w w' := by
  have HS := Aside0.mk (fun W => lex_small.calls (s[0].toNat : Int) (smallN s[0]) W (lex_small_eq s[0]))
  rw [hsm] at HS
  have HG := Aside0.mk (fun W => lex_great.calls (s[0].toNat : Int) (greatN s[0]) W (lex_great_eq s[0]))
  rw [hgr] at HG
  have HD := Aside0.mk (fun W => lex_digit.calls (s[0].toNat : Int) (digitN s[0]) W (lex_digit_eq s[0]))
  rw [hdg] at HD
  have e35 : ((s[0].toNat : Int) == 35) = false := by rw [show ((s[0].toNat : Int) == 35) = (s[0] == 35) from u8_eq_nat s[0] 35 (by omega)]; exact beq_eq_false_iff_ne.2 h35
  have e45 : ((s[0].toNat : Int) == 45) = true := by rw [h45]; rfl
  have el : decide ((1 : Int) < (s.size : Int)) = true := decide_eq_true (by omega)
  have HD1 := Aside0.mk (fun W => lex_digit.calls (s[1].toNat : Int) (digitN s[1]) W (lex_digit_eq s[1]))
  rw [hd1] at HD1
  have HP0 := Aside0.mk (fun W => strings_HasPrefix.calls s ⟨#[60, 61]⟩ _ W (prefix_two s _ _ p0))
  have HP1 := Aside0.mk (fun W => strings_HasPrefix.calls s ⟨#[33, 61]⟩ _ W (prefix_two s _ _ p1))
  have HP2 := Aside0.mk (fun W => strings_HasPrefix.calls s ⟨#[58, 45]⟩ _ W (prefix_two s _ _ p2))
  have h2 : (2 : Nat) ≤ s.size := take_two (beq_iff_eq.1 p2) rfl
  clear hsm hgr hs h35 hdg h45 hd1 p0 p1 p2
  go_enter Tryd.func26, Tryd.ntmps26
  go_wp2_with (first | (go_at_call 50; refine (HS.out _).mono ?_; rintro e w' ⟨rfl, ⟨nd1, rfl⟩⟩) | (go_at_call 28; refine (HG.out _).mono ?_; rintro e w' ⟨rfl, ⟨nd2, rfl⟩⟩) | (go_at_call 52; (with_reducible refine (HD.out _).mono ?_); rintro e w' ⟨rfl, ⟨nd3, rfl⟩⟩) | (go_at_call 52; (with_reducible refine (HD1.out _).mono ?_); rintro e w' ⟨rfl, ⟨nd7, rfl⟩⟩) | (go_at_call 53; (with_reducible refine (HP0.out _).mono ?_); rintro e w' ⟨rfl, ⟨np0, rfl⟩⟩) | (go_at_call 53; (with_reducible refine (HP1.out _).mono ?_); rintro e w' ⟨rfl, ⟨np1, rfl⟩⟩) | (go_at_call 53; (with_reducible refine (HP2.out _).mono ?_); rintro e w' ⟨rfl, ⟨np2, rfl⟩⟩))
  exact next_ret (blk_first w _ _) (below_first w _ _) 4 _ a (by rfl)
set_option maxHeartbeats 1600000 in
set_option maxRecDepth 100000 in
theorem next_dash_3 (s : ByteArray) (hs : s.size ≤ 140737488355328) (a : Int) (w : World) (hp : 0 < s.size) (hsm : smallN s[0] = false) (hgr : greatN s[0] = false) (h35 : s[0] ≠ 35) (hdg : digitN s[0] = false) (h45 : s[0] = 45) (h1 : 1 < s.size) (hd1 : digitN s[1] = false) (p0 : (s.data.toList.take 2 == [60, 61]) = false) (p1 : (s.data.toList.take 2 == [33, 61]) = false) (p2 : (s.data.toList.take 2 == [58, 45]) = false) (p3 : (s.data.toList.take 2 == [63, 45]) = true) :
    Calls Tryd.prog 26 #[.string s, .int .i64 a] w fun e w' => NextR s a (some (4, 2)) e ∧ Below w.heap.size w w' := by
  have HS := Aside0.mk (fun W => lex_small.calls (s[0].toNat : Int) (smallN s[0]) W (lex_small_eq s[0]))
  rw [hsm] at HS
  have HG := Aside0.mk (fun W => lex_great.calls (s[0].toNat : Int) (greatN s[0]) W (lex_great_eq s[0]))
  rw [hgr] at HG
  have HD := Aside0.mk (fun W => lex_digit.calls (s[0].toNat : Int) (digitN s[0]) W (lex_digit_eq s[0]))
  rw [hdg] at HD
  have e35 : ((s[0].toNat : Int) == 35) = false := by rw [show ((s[0].toNat : Int) == 35) = (s[0] == 35) from u8_eq_nat s[0] 35 (by omega)]; exact beq_eq_false_iff_ne.2 h35
  have e45 : ((s[0].toNat : Int) == 45) = true := by rw [h45]; rfl
  have el : decide ((1 : Int) < (s.size : Int)) = true := decide_eq_true (by omega)
  have HD1 := Aside0.mk (fun W => lex_digit.calls (s[1].toNat : Int) (digitN s[1]) W (lex_digit_eq s[1]))
  rw [hd1] at HD1
  have HP0 := Aside0.mk (fun W => strings_HasPrefix.calls s ⟨#[60, 61]⟩ _ W (prefix_two s _ _ p0))
  have HP1 := Aside0.mk (fun W => strings_HasPrefix.calls s ⟨#[33, 61]⟩ _ W (prefix_two s _ _ p1))
  have HP2 := Aside0.mk (fun W => strings_HasPrefix.calls s ⟨#[58, 45]⟩ _ W (prefix_two s _ _ p2))
  have HP3 := Aside0.mk (fun W => strings_HasPrefix.calls s ⟨#[63, 45]⟩ _ W (prefix_two s _ _ p3))
  have h2 : (2 : Nat) ≤ s.size := take_two (beq_iff_eq.1 p3) rfl
  clear hsm hgr hs h35 hdg h45 hd1 p0 p1 p2 p3
  go_enter Tryd.func26, Tryd.ntmps26
  go_wp2_with (first | (go_at_call 50; refine (HS.out _).mono ?_; rintro e w' ⟨rfl, ⟨nd1, rfl⟩⟩) | (go_at_call 28; refine (HG.out _).mono ?_; rintro e w' ⟨rfl, ⟨nd2, rfl⟩⟩) | (go_at_call 52; (with_reducible refine (HD.out _).mono ?_); rintro e w' ⟨rfl, ⟨nd3, rfl⟩⟩) | (go_at_call 52; (with_reducible refine (HD1.out _).mono ?_); rintro e w' ⟨rfl, ⟨nd7, rfl⟩⟩) | (go_at_call 53; (with_reducible refine (HP0.out _).mono ?_); rintro e w' ⟨rfl, ⟨np0, rfl⟩⟩) | (go_at_call 53; (with_reducible refine (HP1.out _).mono ?_); rintro e w' ⟨rfl, ⟨np1, rfl⟩⟩) | (go_at_call 53; (with_reducible refine (HP2.out _).mono ?_); rintro e w' ⟨rfl, ⟨np2, rfl⟩⟩) | (go_at_call 53; (with_reducible refine (HP3.out _).mono ?_); rintro e w' ⟨rfl, ⟨np3, rfl⟩⟩))
  exact next_ret (blk_first w _ _) (below_first w _ _) 4 _ a (by rfl)
set_option maxHeartbeats 1600000 in
set_option maxRecDepth 100000 in
theorem next_dash_4 (s : ByteArray) (hs : s.size ≤ 140737488355328) (a : Int) (w : World) (hp : 0 < s.size) (hsm : smallN s[0] = false) (hgr : greatN s[0] = false) (h35 : s[0] ≠ 35) (hdg : digitN s[0] = false) (h45 : s[0] = 45) (h1 : 1 < s.size) (hd1 : digitN s[1] = false) (p0 : (s.data.toList.take 2 == [60, 61]) = false) (p1 : (s.data.toList.take 2 == [33, 61]) = false) (p2 : (s.data.toList.take 2 == [58, 45]) = false) (p3 : (s.data.toList.take 2 == [63, 45]) = false) (hone : oneB s[0] = true) :
    Calls Tryd.prog 26 #[.string s, .int .i64 a] w fun e w' => NextR s a (some (4, 1)) e ∧ Below w.heap.size w w' := by
  have HS := Aside0.mk (fun W => lex_small.calls (s[0].toNat : Int) (smallN s[0]) W (lex_small_eq s[0]))
  rw [hsm] at HS
  have HG := Aside0.mk (fun W => lex_great.calls (s[0].toNat : Int) (greatN s[0]) W (lex_great_eq s[0]))
  rw [hgr] at HG
  have HD := Aside0.mk (fun W => lex_digit.calls (s[0].toNat : Int) (digitN s[0]) W (lex_digit_eq s[0]))
  rw [hdg] at HD
  have e35 : ((s[0].toNat : Int) == 35) = false := by rw [show ((s[0].toNat : Int) == 35) = (s[0] == 35) from u8_eq_nat s[0] 35 (by omega)]; exact beq_eq_false_iff_ne.2 h35
  have e45 : ((s[0].toNat : Int) == 45) = true := by rw [h45]; rfl
  have el : decide ((1 : Int) < (s.size : Int)) = true := decide_eq_true (by omega)
  have HD1 := Aside0.mk (fun W => lex_digit.calls (s[1].toNat : Int) (digitN s[1]) W (lex_digit_eq s[1]))
  rw [hd1] at HD1
  have HP0 := Aside0.mk (fun W => strings_HasPrefix.calls s ⟨#[60, 61]⟩ _ W (prefix_two s _ _ p0))
  have HP1 := Aside0.mk (fun W => strings_HasPrefix.calls s ⟨#[33, 61]⟩ _ W (prefix_two s _ _ p1))
  have HP2 := Aside0.mk (fun W => strings_HasPrefix.calls s ⟨#[58, 45]⟩ _ W (prefix_two s _ _ p2))
  have HP3 := Aside0.mk (fun W => strings_HasPrefix.calls s ⟨#[63, 45]⟩ _ W (prefix_two s _ _ p3))
  have HI := Aside0.mk (fun W => Tryd.strings_IndexByte ⟨#[40, 41, 44, 46, 60, 61, 47, 124, 42, 43, 63, 94]⟩ (s[0].toNat : Int) W)
  have ei : decide ((0 : Int) ≤ Lib.indexByte (⟨#[40, 41, 44, 46, 60, 61, 47, 124, 42, 43, 63, 94]⟩ : ByteArray).data.toList ((s[0].toNat : Int)).toNat.toUInt8) = true := (one_index s[0]).trans hone
  generalize Lib.indexByte (⟨#[40, 41, 44, 46, 60, 61, 47, 124, 42, 43, 63, 94]⟩ : ByteArray).data.toList ((s[0].toNat : Int)).toNat.toUInt8 = ix at HI ei
  clear hsm hgr hs h35 hdg h45 hd1 p0 p1 p2 p3 hone
  go_enter Tryd.func26, Tryd.ntmps26
  go_wp2_with (first | (go_at_call 50; refine (HS.out _).mono ?_; rintro e w' ⟨rfl, ⟨nd1, rfl⟩⟩) | (go_at_call 28; refine (HG.out _).mono ?_; rintro e w' ⟨rfl, ⟨nd2, rfl⟩⟩) | (go_at_call 52; (with_reducible refine (HD.out _).mono ?_); rintro e w' ⟨rfl, ⟨nd3, rfl⟩⟩) | (go_at_call 52; (with_reducible refine (HD1.out _).mono ?_); rintro e w' ⟨rfl, ⟨nd7, rfl⟩⟩) | (go_at_call 53; (with_reducible refine (HP0.out _).mono ?_); rintro e w' ⟨rfl, ⟨np0, rfl⟩⟩) | (go_at_call 53; (with_reducible refine (HP1.out _).mono ?_); rintro e w' ⟨rfl, ⟨np1, rfl⟩⟩) | (go_at_call 53; (with_reducible refine (HP2.out _).mono ?_); rintro e w' ⟨rfl, ⟨np2, rfl⟩⟩) | (go_at_call 53; (with_reducible refine (HP3.out _).mono ?_); rintro e w' ⟨rfl, ⟨np3, rfl⟩⟩) | (go_at_call 25; refine (HI.out _).mono ?_; rintro e w' ⟨rfl, rfl⟩))
  exact next_ret (blk_first w _ _) (below_first w _ _) 4 _ a (by rfl)
set_option maxHeartbeats 1600000 in
set_option maxRecDepth 100000 in
theorem next_dash_5 (s : ByteArray) (hs : s.size ≤ 140737488355328) (a : Int) (w : World) (hp : 0 < s.size) (hsm : smallN s[0] = false) (hgr : greatN s[0] = false) (h35 : s[0] ≠ 35) (hdg : digitN s[0] = false) (h45 : s[0] = 45) (h1 : 1 < s.size) (hd1 : digitN s[1] = false) (p0 : (s.data.toList.take 2 == [60, 61]) = false) (p1 : (s.data.toList.take 2 == [33, 61]) = false) (p2 : (s.data.toList.take 2 == [58, 45]) = false) (p3 : (s.data.toList.take 2 == [63, 45]) = false) (hone : oneB s[0] = false) :
    Calls Tryd.prog 26 #[.string s, .int .i64 a] w fun e w' => NextR s a (none) e ∧ Below w.heap.size w w' := by
  have HS := Aside0.mk (fun W => lex_small.calls (s[0].toNat : Int) (smallN s[0]) W (lex_small_eq s[0]))
  rw [hsm] at HS
  have HG := Aside0.mk (fun W => lex_great.calls (s[0].toNat : Int) (greatN s[0]) W (lex_great_eq s[0]))
  rw [hgr] at HG
  have HD := Aside0.mk (fun W => lex_digit.calls (s[0].toNat : Int) (digitN s[0]) W (lex_digit_eq s[0]))
  rw [hdg] at HD
  have e35 : ((s[0].toNat : Int) == 35) = false := by rw [show ((s[0].toNat : Int) == 35) = (s[0] == 35) from u8_eq_nat s[0] 35 (by omega)]; exact beq_eq_false_iff_ne.2 h35
  have e45 : ((s[0].toNat : Int) == 45) = true := by rw [h45]; rfl
  have el : decide ((1 : Int) < (s.size : Int)) = true := decide_eq_true (by omega)
  have HD1 := Aside0.mk (fun W => lex_digit.calls (s[1].toNat : Int) (digitN s[1]) W (lex_digit_eq s[1]))
  rw [hd1] at HD1
  have HP0 := Aside0.mk (fun W => strings_HasPrefix.calls s ⟨#[60, 61]⟩ _ W (prefix_two s _ _ p0))
  have HP1 := Aside0.mk (fun W => strings_HasPrefix.calls s ⟨#[33, 61]⟩ _ W (prefix_two s _ _ p1))
  have HP2 := Aside0.mk (fun W => strings_HasPrefix.calls s ⟨#[58, 45]⟩ _ W (prefix_two s _ _ p2))
  have HP3 := Aside0.mk (fun W => strings_HasPrefix.calls s ⟨#[63, 45]⟩ _ W (prefix_two s _ _ p3))
  have HI := Aside0.mk (fun W => Tryd.strings_IndexByte ⟨#[40, 41, 44, 46, 60, 61, 47, 124, 42, 43, 63, 94]⟩ (s[0].toNat : Int) W)
  have ei : decide ((0 : Int) ≤ Lib.indexByte (⟨#[40, 41, 44, 46, 60, 61, 47, 124, 42, 43, 63, 94]⟩ : ByteArray).data.toList ((s[0].toNat : Int)).toNat.toUInt8) = false := (one_index s[0]).trans hone
  generalize Lib.indexByte (⟨#[40, 41, 44, 46, 60, 61, 47, 124, 42, 43, 63, 94]⟩ : ByteArray).data.toList ((s[0].toNat : Int)).toNat.toUInt8 = ix at HI ei
  clear hsm hgr hs h35 hdg h45 hd1 p0 p1 p2 p3 hone
  go_enter Tryd.func26, Tryd.ntmps26
  go_wp2_with (first | (go_at_call 50; refine (HS.out _).mono ?_; rintro e w' ⟨rfl, ⟨nd1, rfl⟩⟩) | (go_at_call 28; refine (HG.out _).mono ?_; rintro e w' ⟨rfl, ⟨nd2, rfl⟩⟩) | (go_at_call 52; (with_reducible refine (HD.out _).mono ?_); rintro e w' ⟨rfl, ⟨nd3, rfl⟩⟩) | (go_at_call 52; (with_reducible refine (HD1.out _).mono ?_); rintro e w' ⟨rfl, ⟨nd7, rfl⟩⟩) | (go_at_call 53; (with_reducible refine (HP0.out _).mono ?_); rintro e w' ⟨rfl, ⟨np0, rfl⟩⟩) | (go_at_call 53; (with_reducible refine (HP1.out _).mono ?_); rintro e w' ⟨rfl, ⟨np1, rfl⟩⟩) | (go_at_call 53; (with_reducible refine (HP2.out _).mono ?_); rintro e w' ⟨rfl, ⟨np2, rfl⟩⟩) | (go_at_call 53; (with_reducible refine (HP3.out _).mono ?_); rintro e w' ⟨rfl, ⟨np3, rfl⟩⟩) | (go_at_call 25; refine (HI.out _).mono ?_; rintro e w' ⟨rfl, rfl⟩))
  exact ⟨rfl, rfl, below_first w _ _⟩
end Go.Proofs.YthebhbomlllpeaaDoor.X
namespace Go.Proofs.YthebhbomlllpeaaDoor.X
set_option linter.unusedVariables false
set_option linter.unusedSimpArgs false
open Go.RowKit Go.Proofs.YthebhbomlllpeaaDoorW.PrintWords Go.Proofs.YthebhbomlllpeaaDoorW.PrintLast Go.Proofs.YthebhbomlllpeaaDoorW.PrintMore
theorem get_drop1 {s : ByteArray} (h : 1 < s.size) : ∃ r, s.data.toList.drop 1 = s[1] :: r := by
  refine ⟨s.data.toList.drop 2, ?_⟩
  have h' : 1 < s.data.toList.length := by rw [data_length]; exact h
  rw [List.drop_eq_getElem_cons h', getElem_data s 1 h]
set_option maxRecDepth 100000 in
theorem next_any (s : ByteArray) (hs : s.size ≤ 140737488355328) (a : Int) (w : World) (hLW : LaidW w) (hp : 0 < s.size) :
    Calls Tryd.prog 26 #[.string s, .int .i64 a] w fun e w' => NextR s a (nextN nmL vlL s.data.toList) e ∧ Below w.heap.size w w' := by
  obtain ⟨r, hr⟩ := list_head hp
  have hd : s.data.toList.drop 1 = r := by rw [hr]; rfl
  have key : nextN nmL vlL s.data.toList = (if smallN s[0] then (if nmL (s.data.toList.take (runN lowB s.data.toList)) then some (1, runN lowB s.data.toList) else none) else if greatN s[0] then (if runN signB s.data.toList ≤ 40 then some (2, runN signB s.data.toList) else none) else if valB s[0] (s.data.toList.drop 1) then (if vlL (s.data.toList.take (1 + runN signB (s.data.toList.drop 1))) then some (3, 1 + runN signB (s.data.toList.drop 1)) else none) else if twoB s.data.toList then some (4, 2) else if oneB s[0] then some (4, 1) else none) := by
    rw [hd, hr]; rfl
  rw [key]
  cases hsm : smallN s[0] with
  | true =>
    rw [if_pos rfl, name_take]
    cases hN : nameB (s.extract 0 (runN lowB s.data.toList)) with
    | true => rw [if_pos rfl]; exact next_small_true s hs a w hp _ hsm rfl hN
    | false => rw [if_neg (by simp)]; exact next_small_false s hs a w hp _ hsm rfl hN
  | false =>
    rw [if_neg (by simp)]
    cases hgr : greatN s[0] with
    | true =>
      rw [if_pos rfl]
      have hvar : varL (s.data.toList.take (runN signB s.data.toList)) = decide (runN signB s.data.toList ≤ 40) := by
        have h1 : signB s[0] = true := great_sign hgr
        have h2 := runN_take signB s.data.toList
        have h3 : runN signB s.data.toList = runN signB r + 1 := by rw [hr]; simp only [runN, h1, if_true]
        have h4 : (s.data.toList.take (runN signB s.data.toList)).length = runN signB s.data.toList := by rw [List.length_take]; have := runN_le signB s.data.toList; omega
        have h5 : s.data.toList.take (runN signB s.data.toList) = s[0] :: r.take (runN signB r) := by rw [h3, hr, List.take_succ_cons]
        rw [h5] at h2 h4 ⊢
        simp only [varL]
        rw [h4, h2, hgr]
        simp
      by_cases h40 : runN signB s.data.toList ≤ 40
      · rw [if_pos h40]; exact next_great_true s hs a w hp _ hsm hgr rfl (by rw [hvar]; exact decide_eq_true h40)
      · rw [if_neg h40]; exact next_great_false s hs a w hp _ hsm hgr rfl (by rw [hvar]; exact decide_eq_false h40)
    | false =>
      rw [if_neg (by simp)]
      have hvl : vlL (s.data.toList.take (1 + runN signB (s.data.toList.drop 1))) = ((readR (s.extract 0 (1 + runN signB (s.data.toList.drop 1)))).2.2.2 == 0) := by unfold vlL; rw [extract_take]
      cases hv : valB s[0] (s.data.toList.drop 1) with
      | true =>
        rw [if_pos rfl, hvl]
        have hway : s[0] = 35 ∨ (s[0] ≠ 35 ∧ digitN s[0] = true) ∨ (s[0] = 45 ∧ ∃ h : 1 < s.size, digitN s[1] = true) := by
          unfold valB at hv
          simp only [Bool.or_eq_true, Bool.and_eq_true, beq_iff_eq] at hv
          by_cases h35 : s[0] = 35
          · exact .inl h35
          · rcases hv with (h | h) | ⟨h, h1⟩
            · exact absurd h h35
            · exact .inr (.inl ⟨h35, h⟩)
            · refine .inr (.inr ⟨h, ?_⟩)
              by_cases hz : 1 < s.size
              · obtain ⟨r2, hr2⟩ := get_drop1 hz
                rw [hr2] at h1
                exact ⟨hz, h1⟩
              · have : s.data.toList.drop 1 = [] := List.drop_eq_nil_of_le (by rw [data_length]; omega)
                rw [this] at h1
                cases h1
        by_cases hR : (readR (s.extract 0 (1 + runN signB (s.data.toList.drop 1)))).2.2.2 = 0
        · rw [if_pos (beq_iff_eq.2 hR)]
          rcases hway with h | ⟨h, h'⟩ | ⟨h, h', h''⟩
          · exact next_hash_ok s hs a w hp _ hLW hsm hgr h rfl hR
          · exact next_digit_ok s hs a w hp _ hLW hsm hgr h h' rfl hR
          · exact next_minus_ok s hs a w hp _ hLW hsm hgr h h' h'' rfl hR
        · rw [if_neg (fun h => hR (beq_iff_eq.1 h))]
          rcases hway with h | ⟨h, h'⟩ | ⟨h, h', h''⟩
          · exact next_hash_no s hs a w hp _ hLW hsm hgr h rfl hR
          · exact next_digit_no s hs a w hp _ hLW hsm hgr h h' rfl hR
          · exact next_minus_no s hs a w hp _ hLW hsm hgr h h' h'' rfl hR
      | false =>
        rw [if_neg (by simp)]
        unfold valB at hv
        simp only [Bool.or_eq_false_iff, beq_eq_false_iff_ne] at hv
        obtain ⟨⟨h35, hdg⟩, hm⟩ := hv
        have hway : s[0] ≠ 45 ∨ (s[0] = 45 ∧ s.size ≤ 1) ∨ (s[0] = 45 ∧ ∃ h : 1 < s.size, digitN s[1] = false) := by
          by_cases h45 : s[0] = 45
          · by_cases hz : 1 < s.size
            · obtain ⟨r2, hr2⟩ := get_drop1 hz
              rw [hr2, h45] at hm
              simp only [beq_self_eq_true, Bool.true_and] at hm
              exact .inr (.inr ⟨h45, hz, hm⟩)
            · exact .inr (.inl ⟨h45, by omega⟩)
          · exact .inl h45
        have hshort : s.size ≤ 1 → ∀ p : List UInt8, p.length = 2 → (s.data.toList.take 2 == p) = false := fun hz p hp2 => by
          rw [beq_eq_false_iff_ne]
          intro e
          have := congrArg List.length e
          rw [List.length_take, data_length, hp2] at this
          omega
        have htwo : twoB s.data.toList = (s.data.toList.take 2 == [60, 61] || s.data.toList.take 2 == [33, 61] || s.data.toList.take 2 == [58, 45] || s.data.toList.take 2 == [63, 45]) := rfl
        cases p0 : (s.data.toList.take 2 == [60, 61]) with
        | true =>
          rw [htwo, p0]
          simp only [Bool.true_or, if_true]
          rcases hway with h | ⟨h, h'⟩ | ⟨h, h', h''⟩
          · exact next_plain_0 s hs a w hp hsm hgr h35 hdg h p0
          · rw [hshort h' _ rfl] at p0; cases p0
          · exact next_dash_0 s hs a w hp hsm hgr h35 hdg h h' h'' p0
        | false =>
          cases p1 : (s.data.toList.take 2 == [33, 61]) with
          | true =>
            rw [htwo, p0, p1]
            simp only [Bool.false_or, Bool.true_or, if_true]
            rcases hway with h | ⟨h, h'⟩ | ⟨h, h', h''⟩
            · exact next_plain_1 s hs a w hp hsm hgr h35 hdg h p0 p1
            · rw [hshort h' _ rfl] at p1; cases p1
            · exact next_dash_1 s hs a w hp hsm hgr h35 hdg h h' h'' p0 p1
          | false =>
            cases p2 : (s.data.toList.take 2 == [58, 45]) with
            | true =>
              rw [htwo, p0, p1, p2]
              simp only [Bool.false_or, Bool.true_or, if_true]
              rcases hway with h | ⟨h, h'⟩ | ⟨h, h', h''⟩
              · exact next_plain_2 s hs a w hp hsm hgr h35 hdg h p0 p1 p2
              · rw [hshort h' _ rfl] at p2; cases p2
              · exact next_dash_2 s hs a w hp hsm hgr h35 hdg h h' h'' p0 p1 p2
            | false =>
              cases p3 : (s.data.toList.take 2 == [63, 45]) with
              | true =>
                rw [htwo, p0, p1, p2, p3]
                simp only [Bool.false_or, if_true]
                rcases hway with h | ⟨h, h'⟩ | ⟨h, h', h''⟩
                · exact next_plain_3 s hs a w hp hsm hgr h35 hdg h p0 p1 p2 p3
                · rw [hshort h' _ rfl] at p3; cases p3
                · exact next_dash_3 s hs a w hp hsm hgr h35 hdg h h' h'' p0 p1 p2 p3
              | false =>
                rw [htwo, p0, p1, p2, p3]
                simp only [Bool.false_or, Bool.false_eq_true, if_false]
                cases hone : oneB s[0] with
                | true =>
                  rw [if_pos rfl]
                  rcases hway with h | ⟨h, h'⟩ | ⟨h, h', h''⟩
                  · exact next_plain_4 s hs a w hp hsm hgr h35 hdg h p0 p1 p2 p3 hone
                  · exact next_short_4 s hs a w hp hsm hgr h35 hdg h h' p0 p1 p2 p3 hone
                  · exact next_dash_4 s hs a w hp hsm hgr h35 hdg h h' h'' p0 p1 p2 p3 hone
                | false =>
                  rw [if_neg (by simp)]
                  rcases hway with h | ⟨h, h'⟩ | ⟨h, h', h''⟩
                  · exact next_plain_5 s hs a w hp hsm hgr h35 hdg h p0 p1 p2 p3 hone
                  · exact next_short_5 s hs a w hp hsm hgr h35 hdg h h' p0 p1 p2 p3 hone
                  · exact next_dash_5 s hs a w hp hsm hgr h35 hdg h h' h'' p0 p1 p2 p3 hone
theorem blank_index (c : UInt8) : decide ((0 : Int) ≤ Lib.indexByte (⟨#[32, 9, 10]⟩ : ByteArray).data.toList ((c.toNat : Int)).toNat.toUInt8) = blankB c := by
  have e : ((c.toNat : Int)).toNat.toUInt8 = c := by
    rw [Int.toNat_natCast]
    apply UInt8.toNat_inj.1
    show (UInt8.ofNat c.toNat).toNat = c.toNat
    rw [UInt8.toNat_ofNat']
    have := c.toNat_lt
    omega
  rw [e, (index_pos _ c).1]
  unfold blankB
  simp only [List.contains_cons, List.contains_nil, Bool.or_false, Bool.or_assoc]
set_option maxHeartbeats 1600000 in
set_option maxRecDepth 100000 in
theorem tok_caught (g0 g1 g2 : Nat) (x : Int) (older : List PanicEntry) (w : World) (v0 v1 v2 : Value) (h0 : w.heap[g0]? = some (.cells #[v0] 23 (0, 0))) (h1 : w.heap[g1]? = some (.cells #[v1] 3 (0, 0))) (h2 : w.heap[g2]? = some (.cells #[v2] 24 (0, 0))) (hn1 : g1 ≠ g0) (hn2 : g2 ≠ g0) (hn3 : g2 ≠ g1) :
    CallsD Tryd.prog 24 #[.pointer (some ⟨g0, 0, none⟩), .pointer (some ⟨g1, 0, none⟩), .pointer (some ⟨g2, 0, none⟩)] (.panicking ({ v := .iface 48 (.int .i64 x), recovered := false } :: older)) w fun e u' w' =>
      e = .returned (.tuple #[]) ∧ u' = .panicking ({ v := .iface 48 (.int .i64 x), recovered := true } :: older) ∧ w' = ((w.setCell ⟨g0, 0, none⟩ (.slice none 0 0)).setCell ⟨g1, 0, none⟩ (.int .i64 x)).setCell ⟨g2, 0, none⟩ (.int .i64 2) := by
  have c0 : w.cell? ⟨g0, 0, none⟩ = some v0 := (blk_cell h0 0).trans rfl
  have c1 : w.cell? ⟨g1, 0, none⟩ = some v1 := (blk_cell h1 0).trans rfl
  have c2 : w.cell? ⟨g2, 0, none⟩ = some v2 := (blk_cell h2 0).trans rfl
  have f0 := blk_frozen h0 0
  have f1 := blk_frozen h1 0
  have f2 := blk_frozen h2 0
  have hta : ∀ (x : Int) (w : World), (Instr.typeAssert (.iface 48 (.int .i64 x)) 20 48 true).run Tryd.prog w = .ok (.tuple #[.int .i64 x, .bool true]) w := fun _ _ => by kernel_rfl
  refine callsD_of_wpS Tryd.func24 rfl fun c₀ cs hu => ?_
  apply wpS_seq
  apply wpS_region
  simp [wpOpsS, go_sem, recoverD, hu, Tryd.ntmps24, Exit.thenS, hta]
  apply wpS_seq
  apply wpS_region
  simp [wpOpsS, go_sem, recoverD, hu, Tryd.ntmps24, Exit.thenS, Array.replicate]
  refine wpS_cond (t := true) (by simp [Act.eval, Array.replicate]) ?_
  simp only [if_true]
  have k1 : ∀ u, (w.setCell ⟨g0, 0, none⟩ u).cell? ⟨g1, 0, none⟩ = some v1 := fun u => (cell_far (p := ⟨g0, 0, none⟩) (a := ⟨g1, 0, none⟩) hn1 u).trans c1
  have k2 : ∀ u u', ((w.setCell ⟨g0, 0, none⟩ u).setCell ⟨g1, 0, none⟩ u').cell? ⟨g2, 0, none⟩ = some v2 := fun u u' => (cell_far (p := ⟨g1, 0, none⟩) (a := ⟨g2, 0, none⟩) hn3 u').trans ((cell_far (p := ⟨g0, 0, none⟩) (a := ⟨g2, 0, none⟩) hn2 u).trans c2)
  apply wpS_region
  simp [wpOpsS, go_sem, Array.replicate, bodyPostS, results, Tryd.results24, c0, f0, k1, f1, k2, f2]
theorem tok_idle (p0 p1 p2 : Value) (w : World) :
    CallsD Tryd.prog 24 #[p0, p1, p2] .returning w fun e u' w' => e = .returned (.tuple #[]) ∧ u' = .returning ∧ w' = w := by
  have hta : ∀ (w : World), (Instr.typeAssert .nilIface 20 48 true).run Tryd.prog w = .ok (.tuple #[.int .i64 0, .bool false]) w := fun _ => by kernel_rfl
  refine callsD_of_wpS Tryd.func24 rfl fun c₀ cs hu => ?_
  apply wpS_seq
  apply wpS_region
  simp [wpOpsS, go_sem, recoverD, hu, Tryd.ntmps24, Exit.thenS, hta]
  apply wpS_seq
  apply wpS_region
  simp [wpOpsS, go_sem, recoverD, hu, Tryd.ntmps24, Exit.thenS, Array.replicate]
  refine wpS_cond (t := false) (by simp [Act.eval, Array.replicate]) ?_
  simp only [Bool.false_eq_true, if_false]
  refine wpS_of_wp (wp_skip ?_)
  cases c₀
  simp_all [bodyPostS, results, Tryd.results24]
/-- a token, as the code has it. -/
def tokS (s : ByteArray) (x : Nat × Nat × Nat) : S34 := ⟨x.1, (s.extract x.2.1 s.size).extract 0 x.2.2, x.2.1⟩
/-- what Tokens answers. -/
def tokRes (s : ByteArray) : List S34 × Int × Int := match tokN nmL vlL 0 s.data.toList with
  | .error i => ([], (i : Int), 2)
  | .ok l => (l.map (tokS s), 0, 0)
def lex_Tokens.f (a0 : ByteArray) : Option (List S34 × Int × Int) :=
  if a0.size ≤ 140737488351232 then (if 20000 < a0.size then some ([], 0, 4) else some (tokRes a0)) else none
def TokR (s : ByteArray) (w : World) (e : Ending) (w' : World) : Prop := ∃ v l a b, tokRes s = (l, a, b) ∧ e = .returned (.tuple #[v, .int .i64 a, .int .i64 b]) ∧ Kd.R k34 34 w' w.heap.size (fun _ => True) v l ∧ Below w.heap.size w w'
/-- so far: these are the tokens ahead of a place. -/
def TokInv (l : List UInt8) (j : Nat) (pre : List (Nat × Nat × Nat)) : Prop := tokN nmL vlL 0 l = match tokN nmL vlL j (l.drop j) with
  | .error i => .error i
  | .ok r => .ok (pre ++ r)
theorem inv_start (l : List UInt8) : TokInv l 0 [] := by
  unfold TokInv
  rw [List.drop_zero]
  cases tokN nmL vlL 0 l <;> rfl
theorem inv_blank {l : List UInt8} {j : Nat} {pre : List (Nat × Nat × Nat)} (h : TokInv l j pre) (hj : j < l.length) (hb : blankB l[j] = true) : TokInv l (j + 1) pre := by
  unfold TokInv at h ⊢
  rw [h, List.drop_eq_getElem_cons hj, tok_blank nmL vlL j _ _ hb]
theorem inv_more {l : List UInt8} {j : Nat} {pre : List (Nat × Nat × Nat)} (h : TokInv l j pre) (hj : j < l.length) (hb : blankB l[j] = false) (k n : Nat) (hn : nextN nmL vlL (l.drop j) = some (k, n)) : TokInv l (j + n) (pre ++ [(k, j, n)]) := by
  unfold TokInv at h ⊢
  rw [List.drop_eq_getElem_cons hj] at hn h
  rw [tok_more nmL vlL j _ _ hb k n hn] at h
  rw [h, ← List.drop_eq_getElem_cons hj, List.drop_drop]
  cases tokN nmL vlL (j + n) (l.drop (j + n)) with
  | error i => rfl
  | ok r => simp
theorem inv_wrong {l : List UInt8} {j : Nat} {pre : List (Nat × Nat × Nat)} (h : TokInv l j pre) (hj : j < l.length) (hb : blankB l[j] = false) (hn : nextN nmL vlL (l.drop j) = none) : tokN nmL vlL 0 l = .error j := by
  unfold TokInv at h
  rw [List.drop_eq_getElem_cons hj] at hn h
  rw [tok_wrong nmL vlL j _ _ hb hn] at h
  exact h
theorem inv_end {l : List UInt8} {j : Nat} {pre : List (Nat × Nat × Nat)} (h : TokInv l j pre) (hj : l.length ≤ j) : tokN nmL vlL 0 l = .ok pre := by
  unfold TokInv at h
  rw [List.drop_eq_nil_of_le hj, tok_nil] at h
  simpa using h
theorem infoTok : (Tryd.prog.info? 34).map (fun i => (i.zero, i.size, i.bytes)) = some (some (.agg #[.int .i64 0, .string ⟨#[]⟩, .int .i64 0]), 3, 32) := by kernel_rfl
theorem three_blocks (w : World) (o0 o1 o2 : Obj) : (((w.alloc o0).alloc o1).alloc o2).heap[w.heap.size]? = some o0 ∧ (((w.alloc o0).alloc o1).alloc o2).heap[w.heap.size + 1]? = some o1 ∧ (((w.alloc o0).alloc o1).alloc o2).heap[w.heap.size + 2]? = some o2 := by
  have z1 : (w.alloc o0).heap.size = w.heap.size + 1 := by simp
  have z2 : ((w.alloc o0).alloc o1).heap.size = w.heap.size + 2 := by simp
  refine ⟨blk_alloc (blk_alloc (blk_new w o0) _) _, ?_, ?_⟩
  · have := blk_new (w.alloc o0) o1
    rw [z1] at this
    exact blk_alloc this _
  · have := blk_new ((w.alloc o0).alloc o1) o2
    rwa [z2] at this
theorem below_three (w : World) (o0 o1 o2 : Obj) : Below w.heap.size w (((w.alloc o0).alloc o1).alloc o2) := below_alloc (below_alloc (below_alloc (Below.refl _ _) _) _) _
/-- the three named results, while the tokens are gathered. -/
structure TokW (w wr : World) (s : ByteArray) (j : Nat) (pre : List (Nat × Nat × Nat)) (A : Option Addr) (c : Nat) : Prop where
  inv : TokInv s.data.toList j pre
  len : pre.length ≤ j
  b0 : wr.heap[w.heap.size]? = some (.cells #[.slice A pre.length c] 23 (0, 0))
  b1 : wr.heap[w.heap.size + 1]? = some (.cells #[.int .i64 0] 3 (0, 0))
  b2 : wr.heap[w.heap.size + 1 + 1]? = some (.cells #[.int .i64 0] 24 (0, 0))
  own : Kd.R k34 34 wr w.heap.size (fun k => w.heap.size + 3 ≤ k) (.slice A pre.length c) (pre.map (tokS s))
  bel : Below w.heap.size w wr
theorem tokW_start (w : World) (s : ByteArray) : TokW w (((w.alloc (.cells #[.slice none 0 0] 23)).alloc (.cells #[.int .i64 0] 3)).alloc (.cells #[.int .i64 0] 24)) s 0 [] none 0 :=
  ⟨inv_start _, Nat.le_refl _, (three_blocks w _ _ _).1, (three_blocks w _ _ _).2.1, (three_blocks w _ _ _).2.2, Kd.R_nil _ _ _ _ _, below_three w _ _ _⟩
theorem TokW.blank {w wr : World} {s : ByteArray} {j : Nat} {pre : List (Nat × Nat × Nat)} {A : Option Addr} {c : Nat} (h : TokW w wr s j pre A c) (hj : j < s.data.toList.length) (hb : blankB s.data.toList[j] = true) : TokW w wr s (j + 1) pre A c :=
  ⟨inv_blank h.inv hj hb, Nat.le_succ_of_le h.len, h.b0, h.b1, h.b2, h.own, h.bel⟩
/-- behind a token that was appended and stored. -/
theorem TokW.more {w wr w1 w2 : World} {s : ByteArray} {j : Nat} {pre : List (Nat × Nat × Nat)} {A : Option Addr} {c : Nat} (h : TokW w wr s j pre A c) (hj : j < s.data.toList.length) (hb : blankB s.data.toList[j] = false) (k : Nat) (t : ByteArray) (ht : t = (s.extract j s.size).extract 0 t.size) (ht0 : 1 ≤ t.size) (hn : nextN nmL vlL (s.data.toList.drop j) = some (k, t.size))
    (hb1 : Below wr.heap.size wr w1) {v1 : Value} (ho : Kd.R k34 34 w2 w.heap.size (fun k => w.heap.size + 3 ≤ k) v1 (pre.map (tokS s) ++ [⟨k, t, j⟩])) (hb2 : Below w.heap.size w w2) {o : Obj} (hg : (w1.alloc o).grownBy w2 (Value.slice A pre.length c).ownBlock) :
    w2.heap[w.heap.size]? = some (.cells #[.slice A pre.length c] 23 (0, 0)) ∧ w2.heap[w1.heap.size]? = some o ∧ ∃ A' c', v1 = .slice A' (pre.length + 1) c' ∧ TokW w (w2.setCell ⟨w.heap.size, 0, none⟩ (.slice A' (pre.length + 1) c')) s (j + t.size) (pre ++ [(k, j, t.size)]) A' c' := by
  obtain ⟨A', c', e⟩ := Kd.R_slice ho
  have e2 : v1 = .slice A' (pre.length + 1) c' := by rw [e]; congr 1; simp
  subst e2
  have hne : ∀ i, i < 3 → some (w.heap.size + i) ≠ (Value.slice A pre.length c).ownBlock := fun i hi he => by
    have := h.own.1 _ he.symm
    omega
  have keep : ∀ i o', i < 3 → wr.heap[w.heap.size + i]? = some o' → w2.heap[w.heap.size + i]? = some o' := fun i o' hi ho' => blk_grown (blk_alloc (blk_below ho' hb1) _) hg (hne i hi)
  have k0 := keep 0 _ (by omega) h.b0
  have k1 := keep 1 _ (by omega) h.b1
  have k2 := keep 2 _ (by omega) h.b2
  have kb : w2.heap[w1.heap.size]? = some o := blk_grown (blk_new w1 o) hg (fun he => by
    have h1 := Kd.R_lt h.own _ he.symm
    have h2 := hb1.size
    omega)
  refine ⟨k0, kb, A', c', rfl, inv_more h.inv hj hb k t.size hn, by have := h.len; simp; omega, ?_, ?_, ?_, ?_, below_set hb2 (Nat.le_refl _)⟩
  · have := blk_put (cs' := #[.slice A' (pre.length + 1) c']) k0 0 (.slice A' (pre.length + 1) c') rfl
    simpa using this
  · exact blk_far k1 (by show w.heap.size + 1 ≠ w.heap.size; omega) _
  · exact blk_far k2 (by show w.heap.size + 1 + 1 ≠ w.heap.size; omega) _
  · have e3 : (pre ++ [(k, j, t.size)]).map (tokS s) = pre.map (tokS s) ++ [⟨k, t, j⟩] := by
      rw [List.map_append]
      congr 1
      simp only [List.map_cons, List.map_nil, tokS]
      rw [← ht]
    rw [e3, List.length_append]
    exact Kd.R_far (p := ⟨w.heap.size, 0, none⟩) ho (fun k hk => by show k ≠ w.heap.size; omega) _
/-- where all is told. -/
theorem TokW.ends {w wr : World} {s : ByteArray} {j : Nat} {pre : List (Nat × Nat × Nat)} {A : Option Addr} {c : Nat} (h : TokW w wr s j pre A c) (hj : s.size ≤ j) : TokR s w (.returned (.tuple #[.slice A pre.length c, .int .i64 0, .int .i64 0])) (((wr.setCell ⟨w.heap.size, 0, none⟩ (.slice A pre.length c)).setCell ⟨w.heap.size + 1, 0, none⟩ (.int .i64 0)).setCell ⟨w.heap.size + 1 + 1, 0, none⟩ (.int .i64 0)) := by
  refine ⟨_, pre.map (tokS s), 0, 0, ?_, rfl, ?_, ?_⟩
  · unfold tokRes
    rw [inv_end h.inv (by rw [data_length]; exact hj)]
  · have h1 := Kd.R_far (p := ⟨w.heap.size, 0, none⟩) h.own (fun k hk => by show k ≠ w.heap.size; omega) (.slice A pre.length c)
    have h2 := Kd.R_far (p := ⟨w.heap.size + 1, 0, none⟩) h1 (fun k hk => by show k ≠ w.heap.size + 1; omega) (.int .i64 0)
    exact Kd.R_mono (Kd.R_far (p := ⟨w.heap.size + 1 + 1, 0, none⟩) h2 (fun k hk => by show k ≠ w.heap.size + 1 + 1; omega) (.int .i64 0)) (fun _ _ => trivial)
  · exact below_set (below_set (below_set h.bel (Nat.le_refl _)) (by omega)) (by omega)
theorem TokW.wrong {w wr w1 : World} {s : ByteArray} {j : Nat} {pre : List (Nat × Nat × Nat)} {A : Option Addr} {c : Nat} (h : TokW w wr s j pre A c) (hj : j < s.data.toList.length) (hb : blankB s.data.toList[j] = false) (hn : nextN nmL vlL (s.data.toList.drop j) = none) (hb1 : Below wr.heap.size wr w1) :
    TokR s w (.returned (.tuple #[.slice none 0 0, .int .i64 j, .int .i64 2])) (((w1.setCell ⟨w.heap.size, 0, none⟩ (.slice none 0 0)).setCell ⟨w.heap.size + 1, 0, none⟩ (.int .i64 j)).setCell ⟨w.heap.size + 1 + 1, 0, none⟩ (.int .i64 2)) := by
  refine ⟨_, [], _, _, ?_, rfl, Kd.R_nil _ _ _ _ _, ?_⟩
  · unfold tokRes
    rw [inv_wrong h.inv hj hb hn]
  · exact below_set (below_set (below_set (below_step h.bel hb1) (Nat.le_refl _)) (by omega)) (by omega)
set_option maxRecDepth 100000 in
theorem tok_results {W : World} {g0 g1 g2 : Nat} {tmps : Array Value} (t0 : tmps.getD 2 undef = .pointer (some ⟨g0, 0, none⟩)) (t1 : tmps.getD 3 undef = .pointer (some ⟨g1, 0, none⟩)) (t2 : tmps.getD 4 undef = .pointer (some ⟨g2, 0, none⟩))
    {A : Option Addr} {n c : Nat} {a b : Int} (c0 : W.cell? ⟨g0, 0, none⟩ = some (.slice A n c)) (c1 : W.cell? ⟨g1, 0, none⟩ = some (.int .i64 a)) (c2 : W.cell? ⟨g2, 0, none⟩ = some (.int .i64 b)) :
    (results Tryd.f11 tmps).run Tryd.prog W = .ok (.tuple #[.slice A n c, .int .i64 a, .int .i64 b]) W := by
  simp only [Array.getD_eq_getD_getElem?] at t0 t1 t2
  simp [results, Tryd.results11, go_sem, t0, t1, t2, c0, c1, c2]
theorem three_put {W : World} {g : Nat} {x0 x1 x2 : Value} (b0 : W.heap[g]? = some (.cells #[x0] 23 (0, 0))) (b1 : W.heap[g + 1]? = some (.cells #[x1] 3 (0, 0))) (b2 : W.heap[g + 1 + 1]? = some (.cells #[x2] 24 (0, 0))) (y0 y1 y2 : Value) :
    (((W.setCell ⟨g, 0, none⟩ y0).setCell ⟨g + 1, 0, none⟩ y1).setCell ⟨g + 1 + 1, 0, none⟩ y2).cell? ⟨g, 0, none⟩ = some y0 ∧ (((W.setCell ⟨g, 0, none⟩ y0).setCell ⟨g + 1, 0, none⟩ y1).setCell ⟨g + 1 + 1, 0, none⟩ y2).cell? ⟨g + 1, 0, none⟩ = some y1 ∧ (((W.setCell ⟨g, 0, none⟩ y0).setCell ⟨g + 1, 0, none⟩ y1).setCell ⟨g + 1 + 1, 0, none⟩ y2).cell? ⟨g + 1 + 1, 0, none⟩ = some y2 := by
  have k0 := blk_put (cs' := #[y0]) b0 0 y0 rfl
  have k0' := blk_far (blk_far k0 (p := ⟨g + 1, 0, none⟩) (by show g ≠ g + 1; omega) y1) (p := ⟨g + 1 + 1, 0, none⟩) (by show g ≠ g + 1 + 1; omega) y2
  have k1 := blk_put (cs' := #[y1]) (blk_far b1 (p := ⟨g, 0, none⟩) (by show g + 1 ≠ g; omega) y0) 0 y1 rfl
  have k1' := blk_far k1 (p := ⟨g + 1 + 1, 0, none⟩) (by show g + 1 ≠ g + 1 + 1; omega) y2
  have k2 := blk_put (cs' := #[y2]) (blk_far (blk_far b2 (p := ⟨g, 0, none⟩) (by show g + 1 + 1 ≠ g; omega) y0) (p := ⟨g + 1, 0, none⟩) (by show g + 1 + 1 ≠ g + 1; omega) y1) 0 y2 rfl
  exact ⟨(blk_cell k0' 0).trans rfl, (blk_cell k1' 0).trans rfl, (blk_cell k2 0).trans rfl⟩
set_option maxHeartbeats 3200000 in
set_option maxRecDepth 100000 in
theorem tokens_any (s : ByteArray) (hs : s.size ≤ 20000) (w : World) (hLW : LaidW w) :
    Calls Tryd.prog 11 #[.string s] w (TokR s w) := by
  have hmf : ∀ (fn : Fn) (first cap : Array Value) (w : World), (Instr.makeFunc fn first cap).run Tryd.prog w = .ok (.func fn first cap) w := fun _ _ _ _ => rfl
  have e0 : decide ((20000 : Int) < (s.size : Int)) = false := decide_eq_false (by omega)
  have HLW := Aside0.mk hLW
  have H0 := Aside0.mk (tokW_start w s)
  clear hLW
  go_enter_defers Tryd.func11, Tryd.ntmps11
  go_wp2
  go_loopw [5] (fun s5 wr => ∃ (j : Nat) (pre : List (Nat × Nat × Nat)) (A : Option Addr) (c : Nat), j ≤ s.size ∧ s5 = .int .i64 j ∧ Aside0 (TokW w wr s j pre A c)) (fun s5 _ => s.size - (intOf s5).toNat)
  case atStart => exact ⟨0, [], none, 0, Nat.zero_le _, rfl, H0⟩
  case round =>
    clear H0
    obtain ⟨j, pre, A, c, hj, rfl, HT⟩ := hrel
    by_cases hlt : j < s.size
    · have hltz : decide ((j : Int) < (s.size : Int)) = true := decide_eq_true (by omega)
      have HX := Aside0.mk (fun W => Tryd.strings_IndexByte ⟨#[32, 9, 10]⟩ (s[j].toNat : Int) W)
      have hbi := blank_index s[j]
      have hjl : j < s.data.toList.length := by rw [data_length]; exact hlt
      have hgl : s.data.toList[j] = s[j] := getElem_data s j hlt hjl
      generalize Lib.indexByte (⟨#[32, 9, 10]⟩ : ByteArray).data.toList ((s[j].toNat : Int)).toNat.toUInt8 = ix at HX hbi
      cases hb : blankB s[j] with
      | true =>
        rw [hb] at hbi
        have HT1 := Aside0.mk (HT.out.blank hjl (by rw [hgl]; exact hb))
        clear hb hgl hjl
        go_wp2_with (go_at_call 25; refine (HX.out _).mono ?_; rintro e w' ⟨rfl, rfl⟩)
        go_roundw
        case rel => exact ⟨j + 1, pre, A, c, by omega, by go_num, HT1⟩
        case measure => simp [intOf]; omega
      | false =>
        rw [hb] at hbi
        have hbl : blankB s.data.toList[j] = false := by rw [hgl]; exact hb
        have HN := Aside0.mk (fun W (h : LaidW W) => next_any (s.extract j s.size) (by rw [ByteArray.size_extract]; omega) (j : Int) W h (by rw [ByteArray.size_extract]; omega))
        rw [extract_rest] at HN
        have HL := Aside0.mk (HLW.out.below HT.out.bel)
        cases hn : nextN nmL vlL (s.data.toList.drop j) with
        | none =>
          rw [hn] at HN
          have HW := Aside0.mk (fun (w1 : World) hb1 => HT.out.wrong (w1 := w1) hjl hbl hn hb1)
          have HK := Aside0.mk (And.intro HT.out.b0 (And.intro HT.out.b1 HT.out.b2))
          clear hn hb hbl hgl hjl
          go_wp2_with (go_at_call 25; refine (HX.out _).mono ?_; rintro e w' ⟨rfl, rfl⟩)
          refine (HN.out _ HL.out).mono ?_
          rintro e w1 ⟨he, hb1⟩
          obtain rfl := he
          have HR := Aside0.mk (HW.out w1 hb1)
          refine leaves_cons (f := 24) (args := #[.pointer (some ⟨w.heap.size, 0, none⟩), .pointer (some ⟨w.heap.size + 1, 0, none⟩), .pointer (some ⟨w.heap.size + 1 + 1, 0, none⟩)]) (by simp) (by simp [go_sem]) ?_
          refine (tok_caught w.heap.size (w.heap.size + 1) (w.heap.size + 1 + 1) (j : Int) [] _ _ _ _ (blk_below HK.out.1 hb1) (blk_below HK.out.2.1 hb1) (blk_below HK.out.2.2 hb1) (by omega) (by omega) (by omega)).mono ?_
          rintro e u' w'' ⟨rfl, rfl, rfl⟩
          have h3 := three_put (blk_below HK.out.1 hb1) (blk_below HK.out.2.1 hb1) (blk_below HK.out.2.2 hb1) (.slice none 0 0) (.int .i64 j) (.int .i64 2)
          exact ⟨_, tok_results rfl rfl rfl h3.1 h3.2.1 h3.2.2, HR.out⟩
        | some y =>
          obtain ⟨k, n⟩ := y
          have hp := next_pos hn
          rw [List.length_drop, data_length] at hp
          rw [hn] at HN
          have hN2 : ∀ W, LaidW W → Calls Tryd.prog 26 #[.string (s.extract j s.size), .int .i64 j] W fun e w' => e = .returned (.agg #[.int .i64 k, .string ((s.extract j s.size).extract 0 n), .int .i64 j]) ∧ Below W.heap.size W w' := HN.out
          have hsz : ((s.extract j s.size).extract 0 n).size = n := by rw [ByteArray.size_extract, ByteArray.size_extract]; omega
          generalize ht : (s.extract j s.size).extract 0 n = t at hN2 hsz
          subst hsz
          have HW := Aside0.mk (fun (w1 w2 : World) hb1 v1 ho hb2 o hg => HT.out.more (w1 := w1) (w2 := w2) hjl hbl k t ht.symm hp.1 hn hb1 (v1 := v1) ho hb2 (o := o) hg)
          have hjt : j + t.size ≤ s.size := by omega
          have ht0 : 1 ≤ t.size := hp.1
          have HN2 := Aside0.mk hN2
          have HTL := Aside0.mk HT.out.len
          clear hN2 HN hp ht hn hb hbl hgl hjl
          go_wp2_with (go_at_call 25; refine (HX.out _).mono ?_; rintro e w' ⟨rfl, rfl⟩)
          refine (HN2.out _ HL.out).mono ?_
          rintro e w1 ⟨rfl, hb1⟩
          have HB1 := Aside0.mk hb1
          have hz1 : w.heap.size + 1 + 1 < w1.heap.size := Nat.lt_of_lt_of_le (blk_lt HT.out.b2) hb1.size
          have hz0 : w.heap.size < w1.heap.size := by omega
          have hc0 : w1.cell? ⟨w.heap.size, 0, none⟩ = some (.slice A pre.length c) := (blk_cell (blk_below HT.out.b0 hb1) 0).trans rfl
          have hf0 := blk_frozen (blk_below HT.out.b0 hb1) 0
          have HO1 := Aside0.mk (Kd.R_alloc (Kd.R_below HT.out.own hb1) (.cells #[.int .i64 k, .string t, .int .i64 j] 34))
          have HB2 := Aside0.mk (below_alloc (below_step HT.out.bel hb1) (.cells #[.int .i64 k, .string t, .int .i64 j] 34))
          clear hb1
          go_wp2_with ((with_reducible refine gate_builtin (b := .append) (xs := #[.tmp 27, .tmp 29]) rfl ?_); at_builtin; refine Kd.R_append k34 (w0 := w) w.heap.size rfl (.tmp 27) (.tmp 29) 23 34 (.agg #[.int .i64 0, .string ⟨#[]⟩, .int .i64 0]) 32 rfl Tryd.underlying23 infoTok rfl (by decide) (by decide) (.slice A pre.length c) (pre.map (tokS s)) ⟨k, t, j⟩ [.int .i64 k, .string t, .int .i64 j] (fun k => w.heap.size + 3 ≤ k) (fun _ => False) rfl (by first | rfl | (simp; rfl)) (k34_mkM _ _ _ _) (fun _ hk => hk.elim) (fun k hk => by simp at hk; omega) HO1.out HB2.out HB2.out.size (by rw [List.length_map]; have := HTL.out; omega) ?_; intro v1 w2 ho hb hg hat; obtain ⟨hk0, hkb, A', c', rfl, hT⟩ := HW.out w1 w2 HB1.out v1 ho hb _ hg; have HT2 := Aside0.mk hT; have hd0 : w2.cell? ⟨w.heap.size, 0, none⟩ = some (.slice A pre.length c) := (blk_cell hk0 0).trans rfl; have hdf := blk_frozen hk0 0; have hd1 : w2.cell? ⟨w1.heap.size, 1, none⟩ = some (.string t) := (blk_cell hkb 1).trans rfl; have hne : w1.heap.size ≠ w.heap.size := (by omega); clear ho hb hg hat hk0 hkb hT)
          go_roundw
          case rel => exact ⟨j + t.size, pre ++ [(k, j, t.size)], A', c', by omega, by go_num, HT2⟩
          case measure => simp [intOf]; omega
    · have hltz : decide ((j : Int) < (s.size : Int)) = false := decide_eq_false (by omega)
      have HW := Aside0.mk (HT.out.ends (by omega))
      have hc0 : wr.cell? ⟨w.heap.size, 0, none⟩ = some (.slice A pre.length c) := (blk_cell HT.out.b0 0).trans rfl
      have hf0 := blk_frozen HT.out.b0 0
      have hf1 := blk_frozen HT.out.b1 0
      have hf2 := blk_frozen HT.out.b2 0
      have hc1 : wr.cell? ⟨w.heap.size + 1, 0, none⟩ = some (.int .i64 0) := (blk_cell HT.out.b1 0).trans rfl
      have hc2 : wr.cell? ⟨w.heap.size + 1 + 1, 0, none⟩ = some (.int .i64 0) := (blk_cell HT.out.b2 0).trans rfl
      have hz := blk_lt HT.out.b2
      go_wp2
      refine leaves_cons (f := 24) (args := #[.pointer (some ⟨w.heap.size, 0, none⟩), .pointer (some ⟨w.heap.size + 1, 0, none⟩), .pointer (some ⟨w.heap.size + 1 + 1, 0, none⟩)]) (by simp) (by simp [go_sem]) ?_
      refine (tok_idle _ _ _ _).mono ?_
      rintro e u' w'' ⟨rfl, rfl, rfl⟩
      have h3 := three_put HT.out.b0 HT.out.b1 HT.out.b2 (.slice A pre.length c) (.int .i64 0) (.int .i64 0)
      exact ⟨_, tok_results rfl rfl rfl h3.1 h3.2.1 h3.2.2, HW.out⟩
set_option maxHeartbeats 1600000 in
set_option maxRecDepth 100000 in
theorem tokens_long (s : ByteArray) (hs : 20000 < s.size) (w : World) :
    Calls Tryd.prog 11 #[.string s] w fun e w' => e = .returned (.tuple #[.slice none 0 0, .int .i64 0, .int .i64 4]) ∧ Below w.heap.size w w' := by
  have e0 : decide ((20000 : Int) < (s.size : Int)) = true := decide_eq_true (by omega)
  have H3 := Aside0.mk (three_blocks w (.cells #[.slice none 0 0] 23) (.cells #[.int .i64 0] 3) (.cells #[.int .i64 4] 24))
  have HB3 := Aside0.mk (below_three w (.cells #[.slice none 0 0] 23) (.cells #[.int .i64 0] 3) (.cells #[.int .i64 4] 24))
  clear hs
  go_enter_defers Tryd.func11, Tryd.ntmps11
  go_wp2
  exact ⟨_, tok_results rfl rfl rfl ((blk_cell H3.out.1 0).trans rfl) ((blk_cell H3.out.2.1 0).trans rfl) ((blk_cell H3.out.2.2 0).trans rfl), rfl, HB3.out⟩
theorem lex_Tokens.calls (a0 : ByteArray) (r1 : List S34) (r2 : Int) (r3 : Int) (w : World) (hLW : LaidW w) (h : lex_Tokens.f a0 = some (r1, r2, r3)) :
    Calls Tryd.prog 11 #[.string a0] w fun e w' => ∃ v0_ : Value, e = .returned (.tuple #[v0_, .int .i64 r2, .int .i64 r3]) ∧ Kd.R k34 34 w' w.heap.size (fun _ => True) v0_ r1 ∧ Below w.heap.size w w' := by
  unfold lex_Tokens.f at h
  split at h
  · split at h
    · rename_i hl
      injection h with h; injection h with e1 h; injection h with e2 e3
      subst e1; subst e2; subst e3
      refine (tokens_long a0 hl w).mono ?_
      rintro e w' ⟨rfl, hb⟩
      exact ⟨_, rfl, Kd.R_nil _ _ _ _ _, hb⟩
    · rename_i hl
      injection h with h
      refine (tokens_any a0 (by omega) w hLW).mono ?_
      rintro e w' ⟨v, l, a, b, he, rfl, hr, hb⟩
      rw [h] at he
      injection he with e1 he; injection he with e2 e3
      subst e1; subst e2; subst e3
      exact ⟨v, rfl, hr, hb⟩
  · cases h
end Go.Proofs.YthebhbomlllpeaaDoor.X
namespace Go.Proofs.YthebhbomlllpeaaDoor.X
open Go.RowKit Go.Proofs.YthebhbomlllpeaaDoorW.PrintWords Go.Proofs.YthebhbomlllpeaaDoorW.PrintLast Go.Proofs.YthebhbomlllpeaaDoorW.PrintMore
attribute [local go_sem] max2_int min2_int max_two min_two max_three min_three max_four min_four
set_option linter.unusedVariables false
set_option linter.unusedSimpArgs false
theorem eqA34 (d : Nat) (w : World) (x0 y0 : Int) (x1 y1 : ByteArray) (x2 y2 : Int) :
    (Op.equalIn (d + 2) 34 (.agg #[.int .i64 x0, .string x1, .int .i64 x2]) (.agg #[.int .i64 y0, .string y1, .int .i64 y2])).run Tryd.prog w = .ok (x0 == y0 && (x1.toList == y1.toList && (x2 == y2))) w := by
  refine eqA_of Tryd.underlying34 (by kernel_rfl) ?_
  refine eqf_cons (by rfl) (by go_simp; rfl) (by go_simp; rfl) (by go_simp) ?_
  refine eqf_cons (by rfl) (by go_simp; rfl) (by go_simp; rfl) (by go_simp) ?_
  exact eqf_last (by rfl) (by go_simp; rfl) (by go_simp; rfl) (by go_simp)
end Go.Proofs.YthebhbomlllpeaaDoor.X
namespace Go.Proofs.YthebhbomlllpeaaDoor.X
open Go.RowKit Go.Proofs.YthebhbomlllpeaaDoorW.PrintWords Go.Proofs.YthebhbomlllpeaaDoorW.PrintLast Go.Proofs.YthebhbomlllpeaaDoorW.PrintMore
attribute [local go_sem] max2_int min2_int max_two min_two max_three min_three max_four min_four
set_option linter.unusedVariables false
set_option linter.unusedSimpArgs false
def antecedentref07_sign.f (a0 : Int) : Option (Bool) := if a0 ≥ 97 then (if a0 ≤ 122 then (some true) else (if a0 ≥ 65 then (if a0 ≤ 90 then (some true) else (if a0 ≥ 48 then (if a0 ≤ 57 then (some true) else (some (a0 == 95))) else (some (a0 == 95)))) else (if a0 ≥ 48 then (if a0 ≤ 57 then (some true) else (some (a0 == 95))) else (some (a0 == 95))))) else (if a0 ≥ 65 then (if a0 ≤ 90 then (some true) else (if a0 ≥ 48 then (if a0 ≤ 57 then (some true) else (some (a0 == 95))) else (some (a0 == 95)))) else (if a0 ≥ 48 then (if a0 ≤ 57 then (some true) else (some (a0 == 95))) else (some (a0 == 95))))
mutual
def antecedentref07_Variable.j0 : Nat → ByteArray → Bool → Option (Bool)
  | 0, _, _ => none
  | k + 1, x0, x21 => if x21 = true then (some false) else (antecedentref07_Variable.l0 k x0 0)
def antecedentref07_Variable.l0 : Nat → ByteArray → Int → Option (Bool)
  | 0, _, _ => none
  | k + 1, x0, x3 => if x3 < (x0.size : Int) then (if 0 ≤ x3 then ((antecedentref07_sign.f (bt x0 x3)).bind fun t121 => (if t121 = true then (antecedentref07_Variable.l0 k x0 (wrap64 (x3 + 1))) else (some false))) else (none)) else (some true)
end
def antecedentref07_Variable.f (k : Nat) (a0 : ByteArray) : Option (Bool) := if (a0.size : Int) < 1 then (antecedentref07_Variable.j0 k a0 true) else (if (a0.size : Int) > 40 then (antecedentref07_Variable.j0 k a0 true) else (if 0 < (a0.size : Int) then (if (bt a0 0) < 65 then (antecedentref07_Variable.j0 k a0 true) else (antecedentref07_Variable.j0 k a0 (decide ((bt a0 0) > 90)))) else (none)))
def antecedentref07_run.l0 : Nat → ByteArray → Int → Bool → Int → Option (Int)
  | 0, _, _, _, _ => none
  | k + 1, x0, x1, x2, x7 => if (wrap64 (x1 + x7)) < (x0.size : Int) then (if 0 ≤ (wrap64 (x1 + x7)) then ((antecedentref07_sign.f (bt x0 (wrap64 (x1 + x7)))).bind fun t122 => (if t122 = true then (if x2 = true then (if (bt x0 (wrap64 (x1 + x7))) ≥ 65 then (if ((bt x0 (wrap64 (x1 + x7))) ≤ 90) then (some x7) else (antecedentref07_run.l0 k x0 x1 x2 (wrap64 (x7 + 1)))) else (antecedentref07_run.l0 k x0 x1 x2 (wrap64 (x7 + 1)))) else (antecedentref07_run.l0 k x0 x1 x2 (wrap64 (x7 + 1)))) else (some x7))) else (none)) else (some x7)
def antecedentref07_run.f (k : Nat) (a0 : ByteArray) (a1 : Int) (a2 : Bool) : Option (Int) := antecedentref07_run.l0 k a0 a1 a2 0
def antecedentref01_Right.f (a0 : Int) : Option (Bool) := if a0 = 9221120237041090561 then (some true) else (if a0 ≤ 9218868437227405312 then (some (decide (a0 ≥ (-9218868437227405313)))) else (some false))
mutual
def antecedentref02_Digits.l0 : Nat → Int → Int → ByteArray → Option (ByteArray)
  | 0, _, _, _ => none
  | k + 1, x0, x1, x5 => if x0 > 0 then (antecedentref02_Digits.j1 k x0 x1 x5 true) else (antecedentref02_Digits.j1 k x0 x1 x5 (x5.toList == ([] : List UInt8)))
def antecedentref02_Digits.j1 : Nat → Int → Int → ByteArray → Bool → Option (ByteArray)
  | 0, _, _, _, _ => none
  | k + 1, x0, x1, x5, x13 => if x13 = true then (if x1 = 0 then (none) else (if ((Int.tmod x0 x1) % 256) > 9 then ((some (([(((97 + ((Int.tmod x0 x1) % 256)) % 256) - 10) % 256] : List Int) : List Int)).bind fun y126 => (if (strOfNums y126).size + x5.size ≤ 9223372036854775807 then (antecedentref02_Digits.l0 k (IntKind.u64.wrap (Int.tdiv x0 x1)) x1 ((strOfNums y126) ++ x5)) else (none))) else ((some (([(48 + ((Int.tmod x0 x1) % 256)) % 256] : List Int) : List Int)).bind fun y129 => (if (strOfNums y129).size + x5.size ≤ 9223372036854775807 then (antecedentref02_Digits.l0 k (IntKind.u64.wrap (Int.tdiv x0 x1)) x1 ((strOfNums y129) ++ x5)) else (none))))) else (some x5)
end
def antecedentref02_Digits.f (k : Nat) (a0 : Int) (a1 : Int) : Option (ByteArray) := antecedentref02_Digits.l0 k a0 a1 (⟨#[]⟩ : ByteArray)
end Go.Proofs.YthebhbomlllpeaaDoor.X
namespace Go.Proofs.YthebhbomlllpeaaDoor.X
open Go.RowKit Go.Proofs.YthebhbomlllpeaaDoorW.PrintWords Go.Proofs.YthebhbomlllpeaaDoorW.PrintLast Go.Proofs.YthebhbomlllpeaaDoorW.PrintMore
attribute [local go_sem] max2_int min2_int max_two min_two max_three min_three max_four min_four
set_option linter.unusedVariables false
set_option linter.unusedSimpArgs false
theorem eqA52 (d : Nat) (w : World) (x0 y0 : Int) (x1 y1 : ByteArray) (x2 y2 : Int) :
    (Op.equalIn (d + 2) 52 (.agg #[.int .i64 x0, .string x1, .int .i64 x2]) (.agg #[.int .i64 y0, .string y1, .int .i64 y2])).run Tryd.prog w = .ok (x0 == y0 && (x1.toList == y1.toList && (x2 == y2))) w := by
  refine eqA_of Tryd.underlying52 (by kernel_rfl) ?_
  refine eqf_cons (by rfl) (by go_simp; rfl) (by go_simp; rfl) (by go_simp) ?_
  refine eqf_cons (by rfl) (by go_simp; rfl) (by go_simp; rfl) (by go_simp) ?_
  exact eqf_last (by rfl) (by go_simp; rfl) (by go_simp; rfl) (by go_simp)
end Go.Proofs.YthebhbomlllpeaaDoor.X
namespace Go.Proofs.YthebhbomlllpeaaDoor.X
open Go.RowKit Go.Proofs.YthebhbomlllpeaaDoorW.PrintWords Go.Proofs.YthebhbomlllpeaaDoorW.PrintLast Go.Proofs.YthebhbomlllpeaaDoorW.PrintMore
attribute [local go_sem] max2_int min2_int max_two min_two max_three min_three max_four min_four
set_option linter.unusedVariables false
set_option linter.unusedSimpArgs false
attribute [local go_sem high] eqA34 eqA52
mutual
def antecedentref07_mark.j0 : Nat → ByteArray → Int → ByteArray → Option (Int)
  | 0, _, _, _ => none
  | k + 1, x0, x1, x5 => if x5.toList = ([60, 61] : List UInt8) then (antecedentref07_mark.j1 k x0 x1 true) else (if x5.toList = ([33, 61] : List UInt8) then (antecedentref07_mark.j1 k x0 x1 true) else (if x5.toList = ([58, 45] : List UInt8) then (antecedentref07_mark.j1 k x0 x1 true) else (antecedentref07_mark.j1 k x0 x1 (x5.toList == ([63, 45] : List UInt8)))))
def antecedentref07_mark.j1 : Nat → ByteArray → Int → Bool → Option (Int)
  | 0, _, _, _ => none
  | k + 1, x0, x1, x30 => if x30 = true then (some 2) else (if 0 ≤ x1 then (if x1 < (x0.size : Int) then (if (bt x0 x1) = 40 then (some 1) else (if (bt x0 x1) = 41 then (some 1) else (if (bt x0 x1) = 44 then (some 1) else (if (bt x0 x1) = 46 then (some 1) else (if (bt x0 x1) = 60 then (some 1) else (if (bt x0 x1) = 61 then (some 1) else (if (bt x0 x1) = 47 then (some 1) else (if (bt x0 x1) = 124 then (some 1) else (if (bt x0 x1) = 42 then (some 1) else (if (bt x0 x1) = 43 then (some 1) else (if (bt x0 x1) = 63 then (some 1) else (if (bt x0 x1) = 94 then (some 1) else (some 0))))))))))))) else (none)) else (none))
end
def antecedentref07_mark.f (k : Nat) (a0 : ByteArray) (a1 : Int) : Option (Int) := if (wrap64 (a1 + 2)) ≤ (a0.size : Int) then (if 0 ≤ a1 then (if a1 ≤ (wrap64 (a1 + 2)) then (antecedentref07_mark.j0 k a0 a1 (a0.extract (a1 : Int).toNat ((wrap64 (a1 + 2)) : Int).toNat)) else (none)) else (none)) else (antecedentref07_mark.j0 k a0 a1 (⟨#[]⟩ : ByteArray))
def antecedentlaw07_same.l0 : Nat → List (S34) → List (S52) → Int → Int → Option (Bool)
  | 0, _, _, _, _ => none
  | k + 1, x0, x1, x12, x13 => if x13 < x12 then (if 0 ≤ x13 then (if x13 < (x0.length : Int) then (if x13 < (x1.length : Int) then (if (!(((rd_T34 x0 x13).f0) == ((rd_T52 x1 x13).f0)) || (!((((rd_T34 x0 x13).f1).toList) == (((rd_T52 x1 x13).f1).toList)) || (!(((rd_T34 x0 x13).f2) == ((rd_T52 x1 x13).f2))))) = true then (some false) else (antecedentlaw07_same.l0 k x0 x1 x12 (wrap64 (x13 + 1)))) else (none)) else (none)) else (none)) else (some true)
def antecedentlaw07_same.f (k : Nat) (l0 : List (S34)) (l1 : List (S52)) : Option (Bool) := if (l0.length : Int) = (l1.length : Int) then (antecedentlaw07_same.l0 k l0 l1 (l0.length : Int) 0) else (some false)
def antecedentref07_Key.l0 : Nat → ByteArray → List ByteArray → Int → Int → Option (Bool)
  | 0, _, _, _, _ => none
  | k + 1, x0, x3, x7, x8 => if x8 < x7 then (if 0 ≤ x8 then (if x8 < (x3.length : Int) then (if (rdOf ByteArray.empty x3 x8).toList = x0.toList then (some true) else (antecedentref07_Key.l0 k x0 x3 x7 (wrap64 (x8 + 1)))) else (none)) else (none)) else (some false)
def antecedentref07_Key.f (k : Nat) (a0 : ByteArray) : Option (Bool) := (some (([(⟨#[110, 111, 116]⟩ : ByteArray), (⟨#[105, 115]⟩ : ByteArray), (⟨#[112, 108, 117, 115]⟩ : ByteArray), (⟨#[109, 105, 110, 117, 115]⟩ : ByteArray), (⟨#[116, 105, 109, 101, 115]⟩ : ByteArray), (⟨#[119, 97, 108, 107]⟩ : ByteArray), (⟨#[99, 111, 117, 110, 116]⟩ : ByteArray), (⟨#[115, 117, 109]⟩ : ByteArray), (⟨#[109, 105, 110]⟩ : ByteArray), (⟨#[109, 97, 120]⟩ : ByteArray), (⟨#[109, 101, 97, 110]⟩ : ByteArray)] : List ByteArray) : List ByteArray)).bind fun y168 => (antecedentref07_Key.l0 k a0 y168 (y168.length : Int) 0)
end Go.Proofs.YthebhbomlllpeaaDoor.X
namespace Go.Proofs.YthebhbomlllpeaaDoor.X
set_option linter.unusedVariables false
set_option linter.unusedSimpArgs false
open Go.RowKit Go.Proofs.YthebhbomlllpeaaDoorW.PrintWords Go.Proofs.YthebhbomlllpeaaDoorW.PrintLast Go.Proofs.YthebhbomlllpeaaDoorW.PrintMore
def numDig (c : Int) : Int := if 97 ≤ c then c - 97 + 10 else (c - 48) % 256
def numStep (b n c : Int) : Int := IntKind.u64.wrap (IntKind.u64.wrap (n * b) + numDig c)
def numFrom (s : ByteArray) (b : Int) : Nat → Nat → Int → Int
  | 0, _, n => n
  | d + 1, pos, n => if pos < s.size then numFrom s b d (pos + (Utf8.decode s pos).2) (numStep b n (bt s (pos : Int))) else n
def antecedentref02_number.f (a0 : ByteArray) (a1 : Int) : Option Int := some (numFrom a0 a1 a0.size 0 0)
end Go.Proofs.YthebhbomlllpeaaDoor.X
namespace Go.Proofs.YthebhbomlllpeaaDoor.X
open Go.RowKit Go.Proofs.YthebhbomlllpeaaDoorW.PrintWords Go.Proofs.YthebhbomlllpeaaDoorW.PrintLast Go.Proofs.YthebhbomlllpeaaDoorW.PrintMore
attribute [local go_sem] max2_int min2_int max_two min_two max_three min_three max_four min_four
set_option linter.unusedVariables false
set_option linter.unusedSimpArgs false
def antecedentref02_Right.f (a0_0 : Int) (a0_1 : Int) (a0_2 : ByteArray) : Option (Bool) := if a0_0 = 1 then (some (a0_2.toList == ([] : List UInt8))) else (if a0_0 = 2 then (if a0_2.toList = ([] : List UInt8) then ((antecedentref01_Right.f a0_1).bind fun t124 => (some t124)) else (some false)) else (if a0_0 = 3 then (if a0_1 = 0 then ((antecedentref02_Name.f a0_2).bind fun t125 => (some t125)) else (some false)) else (some false)))
def antecedentref02_Text.l0 : Nat → ByteArray → Option (ByteArray)
  | 0, _ => none
  | k + 1, x3 => if (x3.size : Int) < 16 then (if 1 + x3.size ≤ 9223372036854775807 then (antecedentref02_Text.l0 k ((⟨#[48]⟩ : ByteArray) ++ x3)) else (none)) else (if 1 + x3.size ≤ 9223372036854775807 then (some ((⟨#[35]⟩ : ByteArray) ++ x3)) else (none))
def antecedentref02_Text.f (k : Nat) (a0_0 : Int) (a0_1 : Int) (a0_2 : ByteArray) : Option (ByteArray) := (antecedentref02_Right.f a0_0 a0_1 a0_2).bind fun t133 => (if t133 = true then (if a0_0 = 1 then (if a0_1 < 0 then ((antecedentref02_Digits.f k (IntKind.u64.wrap (-(IntKind.u64.wrap (a0_1)))) 10).bind fun t134 => (if 1 + t134.size ≤ 9223372036854775807 then (some ((⟨#[45]⟩ : ByteArray) ++ t134)) else (none))) else ((antecedentref02_Digits.f k (IntKind.u64.wrap (a0_1)) 10).bind fun t135 => (some t135))) else (if a0_0 = 2 then ((antecedentref02_Digits.f k (IntKind.u64.wrap (a0_1)) 16).bind fun t136 => (antecedentref02_Text.l0 k t136)) else (some a0_2))) else (some (⟨#[]⟩ : ByteArray)))
def antecedentref02_Read.j0 : Nat → ByteArray → Bool → Int → Int → ByteArray → Option (Int × Int × ByteArray × Int)
  | 0, _, _, _, _, _ => none
  | k + 1, x0, x34, x139000, x139001, x139002 => if x34 = true then ((antecedentref02_number.f x0 10).bind fun t143 => ((antecedentref02_Text.f k 1 (wrap64 (t143)) (⟨#[]⟩ : ByteArray)).bind fun t144 => (if t144.toList = x0.toList then (some (1, wrap64 (t143), (⟨#[]⟩ : ByteArray), 0)) else (some (0, 0, (⟨#[]⟩ : ByteArray), 2))))) else ((antecedentref02_Text.f k x139000 x139001 x139002).bind fun t145 => (if t145.toList = x0.toList then (some (x139000, x139001, x139002, 0)) else (some (0, 0, (⟨#[]⟩ : ByteArray), 2))))
def antecedentref02_Read.f (k : Nat) (a0 : ByteArray) : Option (Int × Int × ByteArray × Int) := if a0.toList = ([] : List UInt8) then (some (0, 0, (⟨#[]⟩ : ByteArray), 2)) else (if 0 < (a0.size : Int) then (if (bt a0 0) = 35 then (if 1 ≤ (a0.size : Int) then ((antecedentref02_number.f (a0.extract 1 a0.size) 16).bind fun t139 => ((antecedentref02_Text.f k 2 (wrap64 (t139)) (⟨#[]⟩ : ByteArray)).bind fun t140 => (if t140.toList = a0.toList then (some (2, wrap64 (t139), (⟨#[]⟩ : ByteArray), 0)) else (some (0, 0, (⟨#[]⟩ : ByteArray), 2))))) else (none)) else (if (bt a0 0) = 45 then (if 1 ≤ (a0.size : Int) then ((antecedentref02_number.f (a0.extract 1 a0.size) 10).bind fun t141 => ((antecedentref02_Text.f k 1 (wrap64 (IntKind.u64.wrap (-t141))) (⟨#[]⟩ : ByteArray)).bind fun t142 => (if t142.toList = a0.toList then (some (1, wrap64 (IntKind.u64.wrap (-t141)), (⟨#[]⟩ : ByteArray), 0)) else (some (0, 0, (⟨#[]⟩ : ByteArray), 2))))) else (none)) else (if (bt a0 0) ≥ 48 then (antecedentref02_Read.j0 k a0 (decide ((bt a0 0) ≤ 57)) 3 0 a0) else (antecedentref02_Read.j0 k a0 false 3 0 a0)))) else (none))
end Go.Proofs.YthebhbomlllpeaaDoor.X
namespace Go.Proofs.YthebhbomlllpeaaDoor.X
open Go.RowKit Go.Proofs.YthebhbomlllpeaaDoorW.PrintWords Go.Proofs.YthebhbomlllpeaaDoorW.PrintLast Go.Proofs.YthebhbomlllpeaaDoorW.PrintMore
attribute [local go_sem] max2_int min2_int max_two min_two max_three min_three max_four min_four
set_option linter.unusedVariables false
set_option linter.unusedSimpArgs false
mutual
def antecedentref07_next.j0 : Nat → ByteArray → Int → Int → Bool → Option (Int × ByteArray × Int × Bool)
  | 0, _, _, _, _ => none
  | k + 1, x0, x1, x6, x21 => if x21 = true then ((antecedentref07_run.f k x0 x1 true).bind fun t147 => (if 0 ≤ x1 then (if x1 ≤ (wrap64 (x1 + t147)) then (if (wrap64 (x1 + t147)) ≤ (x0.size : Int) then ((antecedentref02_Name.f (x0.extract (x1 : Int).toNat ((wrap64 (x1 + t147)) : Int).toNat)).bind fun t148 => (some (1, x0.extract (x1 : Int).toNat ((wrap64 (x1 + t147)) : Int).toNat, x1, t148))) else (none)) else (none)) else (none))) else (if x6 ≥ 65 then (antecedentref07_next.j1 k x0 x1 x6 (decide (x6 ≤ 90))) else (antecedentref07_next.j1 k x0 x1 x6 false))
def antecedentref07_next.j1 : Nat → ByteArray → Int → Int → Bool → Option (Int × ByteArray × Int × Bool)
  | 0, _, _, _, _ => none
  | k + 1, x0, x1, x6, x40 => if x40 = true then ((antecedentref07_run.f k x0 x1 false).bind fun t149 => (if 0 ≤ x1 then (if x1 ≤ (wrap64 (x1 + t149)) then (if (wrap64 (x1 + t149)) ≤ (x0.size : Int) then ((antecedentref07_Variable.f k (x0.extract (x1 : Int).toNat ((wrap64 (x1 + t149)) : Int).toNat)).bind fun t150 => (some (2, x0.extract (x1 : Int).toNat ((wrap64 (x1 + t149)) : Int).toNat, x1, t150))) else (none)) else (none)) else (none))) else (if x6 = 35 then (antecedentref07_next.j2 k x0 x1 true) else (if x6 ≥ 48 then (if x6 ≤ 57 then (antecedentref07_next.j2 k x0 x1 true) else (if x6 = 45 then (if (wrap64 (x1 + 1)) < (x0.size : Int) then (if 0 ≤ (wrap64 (x1 + 1)) then (if (bt x0 (wrap64 (x1 + 1))) ≥ 48 then (antecedentref07_next.j2 k x0 x1 (decide ((bt x0 (wrap64 (x1 + 1))) ≤ 57))) else (antecedentref07_next.j2 k x0 x1 false)) else (none)) else (antecedentref07_next.j2 k x0 x1 false)) else (antecedentref07_next.j2 k x0 x1 false))) else (if x6 = 45 then (if (wrap64 (x1 + 1)) < (x0.size : Int) then (if 0 ≤ (wrap64 (x1 + 1)) then (if (bt x0 (wrap64 (x1 + 1))) ≥ 48 then (antecedentref07_next.j2 k x0 x1 (decide ((bt x0 (wrap64 (x1 + 1))) ≤ 57))) else (antecedentref07_next.j2 k x0 x1 false)) else (none)) else (antecedentref07_next.j2 k x0 x1 false)) else (antecedentref07_next.j2 k x0 x1 false))))
def antecedentref07_next.j2 : Nat → ByteArray → Int → Bool → Option (Int × ByteArray × Int × Bool)
  | 0, _, _, _ => none
  | k + 1, x0, x1, x88 => if x88 = true then ((antecedentref07_run.f k x0 (wrap64 (x1 + 1)) false).bind fun t151 => (if 0 ≤ x1 then (if x1 ≤ (wrap64 ((wrap64 (x1 + 1)) + t151)) then (if (wrap64 ((wrap64 (x1 + 1)) + t151)) ≤ (x0.size : Int) then ((antecedentref02_Read.f k (x0.extract (x1 : Int).toNat ((wrap64 ((wrap64 (x1 + 1)) + t151)) : Int).toNat)).bind fun bt152 => (some (3, x0.extract (x1 : Int).toNat ((wrap64 ((wrap64 (x1 + 1)) + t151)) : Int).toNat, x1, (bt152.2.2.2 == 0)))) else (none)) else (none)) else (none))) else ((antecedentref07_mark.f k x0 x1).bind fun t157 => (if 0 ≤ x1 then (if x1 ≤ (wrap64 (x1 + t157)) then (if (wrap64 (x1 + t157)) ≤ (x0.size : Int) then (some (4, x0.extract (x1 : Int).toNat ((wrap64 (x1 + t157)) : Int).toNat, x1, decide (t157 > 0))) else (none)) else (none)) else (none)))
end
def antecedentref07_next.f (k : Nat) (a0 : ByteArray) (a1 : Int) : Option (Int × ByteArray × Int × Bool) := if 0 ≤ a1 then (if a1 < (a0.size : Int) then (if (bt a0 a1) ≥ 97 then (antecedentref07_next.j0 k a0 a1 (bt a0 a1) (decide ((bt a0 a1) ≤ 122))) else (antecedentref07_next.j0 k a0 a1 (bt a0 a1) false)) else (none)) else (none)
end Go.Proofs.YthebhbomlllpeaaDoor.X
namespace Go.Proofs.YthebhbomlllpeaaDoor.X
open Go.RowKit Go.Proofs.YthebhbomlllpeaaDoorW.PrintWords Go.Proofs.YthebhbomlllpeaaDoorW.PrintLast Go.Proofs.YthebhbomlllpeaaDoorW.PrintMore
attribute [local go_sem] max2_int min2_int max_two min_two max_three min_three max_four min_four
set_option linter.unusedVariables false
set_option linter.unusedSimpArgs false
mutual
def antecedentref07_Tokens.l0 : Nat → ByteArray → List (S52) → Int → Option ((List (S52)) × Int × Int)
  | 0, _, _, _ => none
  | k + 1, x0, x5, x6 => if x6 < (x0.size : Int) then (if 0 ≤ x6 then (if (bt x0 x6) = 32 then (antecedentref07_Tokens.j1 k x0 x5 x6 true) else (if (bt x0 x6) = 9 then (antecedentref07_Tokens.j1 k x0 x5 x6 true) else (antecedentref07_Tokens.j1 k x0 x5 x6 ((bt x0 x6) == 10)))) else (none)) else (some (x5, 0, 0))
def antecedentref07_Tokens.j1 : Nat → ByteArray → List (S52) → Int → Bool → Option ((List (S52)) × Int × Int)
  | 0, _, _, _, _ => none
  | k + 1, x0, x5, x6, x31 => if x31 = true then (antecedentref07_Tokens.l0 k x0 x5 (wrap64 (x6 + 1))) else ((antecedentref07_next.f k x0 x6).bind fun bt158 => (if bt158.2.2.2 = true then (if x5.length < 4398046511104 then (antecedentref07_Tokens.l0 k x0 (x5 ++ [(⟨bt158.1, bt158.2.1, bt158.2.2.1⟩ : S52)]) (wrap64 (x6 + (bt158.2.1.size : Int)))) else (none)) else (some (([] : List (S52)), x6, 2))))
end
def antecedentref07_Tokens.f (k : Nat) (a0 : ByteArray) : Option ((List (S52)) × Int × Int) := if (a0.size : Int) > 20000 then (some (([] : List (S52)), 0, 4)) else (antecedentref07_Tokens.l0 k a0 ([] : List (S52)) 0)
end Go.Proofs.YthebhbomlllpeaaDoor.X
namespace Go.Proofs.YthebhbomlllpeaaDoor.X
open Go.RowKit Go.Proofs.YthebhbomlllpeaaDoorW.PrintWords Go.Proofs.YthebhbomlllpeaaDoorW.PrintLast Go.Proofs.YthebhbomlllpeaaDoorW.PrintMore
attribute [local go_sem] max2_int min2_int max_two min_two max_three min_three max_four min_four
set_option linter.unusedVariables false
set_option linter.unusedSimpArgs false
attribute [local go_sem high] eqA34
def antecedentlaw07_awake.f  : Option (Bool) := (lex_Tokens.f (⟨#[112, 40, 88, 44, 45, 53, 41, 46]⟩ : ByteArray)).bind fun bt112 => (if bt112.2.2 = 0 then (if (bt112.1.length : Int) = 7 then (if 2 < (bt112.1.length : Int) then (if (((rd_T34 bt112.1 2).f0) == 2 && ((((rd_T34 bt112.1 2).f1).toList) == ([88] : List UInt8) && (((rd_T34 bt112.1 2).f2) == 2))) = true then (if 4 < (bt112.1.length : Int) then (if ((rd_T34 bt112.1 4).f1).toList = ([45, 53] : List UInt8) then ((lex_Variable.f (⟨#[88, 49]⟩ : ByteArray)).bind fun t119 => (if t119 = true then ((lex_Key.f (⟨#[119, 97, 108, 107]⟩ : ByteArray)).bind fun t120 => (some t120)) else (some false))) else (some false)) else (none)) else (some false)) else (none)) else (some false)) else (some false))
set_option maxHeartbeats 8000000 in
set_option maxRecDepth 100000 in
theorem antecedentlaw07_awake.calls  (r : Bool) (w : World) (hLW : LaidW w) (h : antecedentlaw07_awake.f  = some r) :
    Calls Tryd.prog 10 #[] w fun e w' => e = .returned (.bool r) ∧ Below w.heap.size w w' := by
  have hu34 := Tryd.underlying34
  have HLW := Aside0.mk hLW
  clear hLW
  have HB := Aside0.mk (Below.refl w.heap.size w)
  have H : ((lex_Tokens.f (⟨#[112, 40, 88, 44, 45, 53, 41, 46]⟩ : ByteArray)).bind fun bt112 => (if bt112.2.2 = 0 then (if (bt112.1.length : Int) = 7 then (if 2 < (bt112.1.length : Int) then (if (((rd_T34 bt112.1 2).f0) == 2 && ((((rd_T34 bt112.1 2).f1).toList) == ([88] : List UInt8) && (((rd_T34 bt112.1 2).f2) == 2))) = true then (if 4 < (bt112.1.length : Int) then (if ((rd_T34 bt112.1 4).f1).toList = ([45, 53] : List UInt8) then ((lex_Variable.f (⟨#[88, 49]⟩ : ByteArray)).bind fun t119 => (if t119 = true then ((lex_Key.f (⟨#[119, 97, 108, 107]⟩ : ByteArray)).bind fun t120 => (some t120)) else (some false))) else (some false)) else (none)) else (some false)) else (none)) else (some false)) else (some false))) = some r := h
  clear h
  replace H := Option.bind_eq_some_iff.mp H
  obtain ⟨⟨t112, t113, t114⟩, A10, H⟩ := H
  replace H : (if t114 = 0 then (if (t112.length : Int) = 7 then (if 2 < (t112.length : Int) then (if (((rd_T34 t112 2).f0) == 2 && ((((rd_T34 t112 2).f1).toList) == ([88] : List UInt8) && (((rd_T34 t112 2).f2) == 2))) = true then (if 4 < (t112.length : Int) then (if ((rd_T34 t112 4).f1).toList = ([45, 53] : List UInt8) then ((lex_Variable.f (⟨#[88, 49]⟩ : ByteArray)).bind fun t119 => (if t119 = true then ((lex_Key.f (⟨#[119, 97, 108, 107]⟩ : ByteArray)).bind fun t120 => (some t120)) else (some false))) else (some false)) else (none)) else (some false)) else (none)) else (some false)) else (some false)) = some r := H
  have A1 := Aside0.mk A10
  clear A10
  by_cases c2 : t114 = 0
  · rw [if_pos c2] at H
    have c2b0 : (t114 == 0) = true := beq_iff_eq.mpr c2
    have c2b1 : (t114 != 0) = false := bne_eq_false_iff_eq.mpr c2
    clear c2
    by_cases c3 : (t112.length : Int) = 7
    · rw [if_pos c3] at H
      have c3b0 : ((t112.length : Int) == 7) = true := beq_iff_eq.mpr c3
      have c3b1 : ((t112.length : Int) != 7) = false := bne_eq_false_iff_eq.mpr c3
      clear c3
      by_cases c4 : 2 < (t112.length : Int)
      · rw [if_pos c4] at H
        have c4b0 : decide (2 < (t112.length : Int)) = true := decide_eq_true c4
        have c4b1 : decide (2 < t112.length) = true := decide_eq_true (by omega)
        clear c4
        by_cases c5 : (((rd_T34 t112 2).f0) == 2 && ((((rd_T34 t112 2).f1).toList) == ([88] : List UInt8) && (((rd_T34 t112 2).f2) == 2))) = true
        · rw [if_pos c5] at H
          have c5b0 : (((rd_T34 t112 2).f0) == 2 && ((((rd_T34 t112 2).f1).toList) == ([88] : List UInt8) && (((rd_T34 t112 2).f2) == 2))) = true := c5
          (try (have c5b1 : decide (((rd_T34 t112 2).f0) = 2 && ((((rd_T34 t112 2).f1).toList) == ([88] : List UInt8) && (((rd_T34 t112 2).f2) == 2))) = true := by simpa using c5))
          (try (have c5b2 : (((rd_T34 t112 2).f0) == 2 && ((((rd_T34 t112 2).f1).toList) == ([88] : List UInt8) && (((rd_T34 t112 2).f2) == 2))) = true := by simpa using c5))
          clear c5
          by_cases c6 : 4 < (t112.length : Int)
          · rw [if_pos c6] at H
            have c6b0 : decide (4 < (t112.length : Int)) = true := decide_eq_true c6
            have c6b1 : decide (4 < t112.length) = true := decide_eq_true (by omega)
            clear c6
            by_cases c7 : ((rd_T34 t112 4).f1).toList = ([45, 53] : List UInt8)
            · rw [if_pos c7] at H
              have c7b0 : (((rd_T34 t112 4).f1).toList == ([45, 53] : List UInt8)) = true := beq_iff_eq.mpr c7
              have c7b1 : (((rd_T34 t112 4).f1).toList != ([45, 53] : List UInt8)) = false := bne_eq_false_iff_eq.mpr c7
              clear c7
              replace H := Option.bind_eq_some_iff.mp H
              obtain ⟨t119, A80, H⟩ := H
              replace H : (if t119 = true then ((lex_Key.f (⟨#[119, 97, 108, 107]⟩ : ByteArray)).bind fun t120 => (some t120)) else (some false)) = some r := H
              have A8 := Aside0.mk A80
              clear A80
              by_cases c9 : t119 = true
              · subst c9
                have H1 : ((lex_Key.f (⟨#[119, 97, 108, 107]⟩ : ByteArray)).bind fun t120 => (some t120)) = some r := by rw [if_pos rfl] at H; exact H
                clear H
                have H := H1
                clear H1
                replace H := Option.bind_eq_some_iff.mp H
                obtain ⟨t120, A100, H⟩ := H
                replace H : (some t120) = some r := H
                have A10 := Aside0.mk A100
                clear A100
                obtain rfl := Option.some.inj H
                go_enter Tryd.func10, Tryd.ntmps10
                go_wp2_with (first | ((with_reducible refine gate_callee (f := 11) rfl ?_); refine goesL_ (some 5) rfl rfl Tryd.func11 (by kernel_rfl) rfl #[.string (⟨#[112, 40, 88, 44, 45, 53, 41, 46]⟩ : ByteArray)] rfl (by (try simp only [List.map_toArray, List.map_cons, List.map_nil]); first | done | rfl | (simp only [List.length_drop, List.length_take]; rfl)) ?_; (with_reducible refine (lex_Tokens.calls (⟨#[112, 40, 88, 44, 45, 53, 41, 46]⟩ : ByteArray) t112 t113 t114 _ ?side1 A1.out).mono ?_); (case side1 => (first | (refine LaidW.below HLW.out ?_; (repeat (first | (with_reducible first | exact HB.out | apply below_alloc | apply pw_below_drewN | apply below_drew1) | exact HB.out)); done) | (repeat (first | exact HLW.out | apply LaidW.drewN | apply LaidW.drew | apply LaidW.alloc)))); rintro e w11 ⟨v115, rfl, ho0, hb⟩; refine ⟨_, rfl, ?_⟩; have n0_ := Aside0.mk (Kd.R_lower ho0 (below_size (by repeat (first | (with_reducible first | exact HB.out | apply below_alloc | apply pw_below_drewN | apply below_drew1) | exact HB.out)))); have n1_ := Aside0.mk (below_step (by repeat (first | (with_reducible first | exact HB.out | apply below_alloc | apply pw_below_drewN | apply below_drew1) | exact HB.out)) hb); clear HB; have HO116 := n0_; have HB := n1_; clear n0_ n1_; (try clear hb); (try clear hb2); (try clear hk); (try clear hi); (try clear ho0); obtain ⟨Ao12, co12, eo12⟩ := Kd.R_slice HO116.out; subst eo12; have p117 : 0 ≤ (2 : Int) := (by omega); have q117 : 2 < (t112.length : Int) := of_decide_eq_true (by first | (with_reducible assumption) | assumption); obtain ⟨ad117, e117, hx117_0, hx117_1, hx117_2⟩ := at_T34 (Kd.R_reads' HO116.out).2.2 2 p117 q117; cases e117; (try simp only [show (2 : Int).toNat = 2 from rfl, Nat.reduceMul, Nat.reduceEqDiff, Go.Addr.add, ↓reduceIte] at hx117_0); (try simp only [show (2 : Int).toNat = 2 from rfl, Nat.reduceMul, Nat.reduceEqDiff, Go.Addr.add, ↓reduceIte] at hx117_1); (try simp only [show (2 : Int).toNat = 2 from rfl, Nat.reduceMul, Nat.reduceEqDiff, Go.Addr.add, ↓reduceIte] at hx117_2); have qi117 : (2 < t112.length) = True := eq_true (by omega); (try rw [show ((2 : Int)).toNat = 2 from rfl] at hx117_0); (try rw [show 2 * 3 = 6 from rfl] at hx117_0); (try rw [show ((2 : Int)).toNat = 2 from rfl] at hx117_1); (try rw [show 2 * 3 = 6 from rfl] at hx117_1); (try rw [show ((2 : Int)).toNat = 2 from rfl] at hx117_2); (try rw [show 2 * 3 = 6 from rfl] at hx117_2); replace p117 := eq_true p117; replace q117 := eq_true q117; have p118 : 0 ≤ (4 : Int) := (by omega); have q118 : 4 < (t112.length : Int) := of_decide_eq_true (by first | (with_reducible assumption) | assumption); obtain ⟨ad118, e118, hx118_0, hx118_1, hx118_2⟩ := at_T34 (Kd.R_reads' HO116.out).2.2 4 p118 q118; obtain rfl : ad117 = ad118 := (by injection e118); (try simp only [show (4 : Int).toNat = 4 from rfl, Nat.reduceMul, Nat.reduceEqDiff, Go.Addr.add, ↓reduceIte] at hx118_0); (try simp only [show (4 : Int).toNat = 4 from rfl, Nat.reduceMul, Nat.reduceEqDiff, Go.Addr.add, ↓reduceIte] at hx118_1); (try simp only [show (4 : Int).toNat = 4 from rfl, Nat.reduceMul, Nat.reduceEqDiff, Go.Addr.add, ↓reduceIte] at hx118_2); have qi118 : (4 < t112.length) = True := eq_true (by omega); (try rw [show ((4 : Int)).toNat = 4 from rfl] at hx118_0); (try rw [show 4 * 3 = 12 from rfl] at hx118_0); (try rw [show ((4 : Int)).toNat = 4 from rfl] at hx118_1); (try rw [show 4 * 3 = 12 from rfl] at hx118_1); (try rw [show ((4 : Int)).toNat = 4 from rfl] at hx118_2); (try rw [show 4 * 3 = 12 from rfl] at hx118_2); replace p118 := eq_true p118; replace q118 := eq_true q118) | (go_at_call 14; (with_reducible refine (lex_Variable.calls (⟨#[88, 49]⟩ : ByteArray) true _ A8.out).mono ?_); rintro e w' ⟨rfl, ⟨nd, rfl⟩⟩) | (go_at_call 16; (with_reducible refine (lex_Key.calls (⟨#[119, 97, 108, 107]⟩ : ByteArray) t120 _ A10.out).mono ?_); rintro e w' ⟨rfl, ⟨nd, rfl⟩⟩))
                go_ret
                exact ⟨by first | rfl | (simp [errW_none, errW_some] <;> rfl) | (simp [*, errW_none, errW_some] <;> rfl), by repeat (first | (with_reducible first | exact HB.out | apply below_alloc | apply pw_below_drewN | apply below_drew1) | exact HB.out)⟩
              · replace c9 := Bool.eq_false_iff.mpr c9
                subst c9
                have H1 : (some false) = some r := by rw [if_neg (show ¬ (false = true) by decide)] at H; exact H
                clear H
                have H := H1
                clear H1
                obtain rfl := Option.some.inj H
                go_enter Tryd.func10, Tryd.ntmps10
                go_wp2_with (first | ((with_reducible refine gate_callee (f := 11) rfl ?_); refine goesL_ (some 5) rfl rfl Tryd.func11 (by kernel_rfl) rfl #[.string (⟨#[112, 40, 88, 44, 45, 53, 41, 46]⟩ : ByteArray)] rfl (by (try simp only [List.map_toArray, List.map_cons, List.map_nil]); first | done | rfl | (simp only [List.length_drop, List.length_take]; rfl)) ?_; (with_reducible refine (lex_Tokens.calls (⟨#[112, 40, 88, 44, 45, 53, 41, 46]⟩ : ByteArray) t112 t113 t114 _ ?side1 A1.out).mono ?_); (case side1 => (first | (refine LaidW.below HLW.out ?_; (repeat (first | (with_reducible first | exact HB.out | apply below_alloc | apply pw_below_drewN | apply below_drew1) | exact HB.out)); done) | (repeat (first | exact HLW.out | apply LaidW.drewN | apply LaidW.drew | apply LaidW.alloc)))); rintro e w13 ⟨v115, rfl, ho0, hb⟩; refine ⟨_, rfl, ?_⟩; have n0_ := Aside0.mk (Kd.R_lower ho0 (below_size (by repeat (first | (with_reducible first | exact HB.out | apply below_alloc | apply pw_below_drewN | apply below_drew1) | exact HB.out)))); have n1_ := Aside0.mk (below_step (by repeat (first | (with_reducible first | exact HB.out | apply below_alloc | apply pw_below_drewN | apply below_drew1) | exact HB.out)) hb); clear HB; have HO116 := n0_; have HB := n1_; clear n0_ n1_; (try clear hb); (try clear hb2); (try clear hk); (try clear hi); (try clear ho0); obtain ⟨Ao14, co14, eo14⟩ := Kd.R_slice HO116.out; subst eo14; have p117 : 0 ≤ (2 : Int) := (by omega); have q117 : 2 < (t112.length : Int) := of_decide_eq_true (by first | (with_reducible assumption) | assumption); obtain ⟨ad117, e117, hx117_0, hx117_1, hx117_2⟩ := at_T34 (Kd.R_reads' HO116.out).2.2 2 p117 q117; cases e117; (try simp only [show (2 : Int).toNat = 2 from rfl, Nat.reduceMul, Nat.reduceEqDiff, Go.Addr.add, ↓reduceIte] at hx117_0); (try simp only [show (2 : Int).toNat = 2 from rfl, Nat.reduceMul, Nat.reduceEqDiff, Go.Addr.add, ↓reduceIte] at hx117_1); (try simp only [show (2 : Int).toNat = 2 from rfl, Nat.reduceMul, Nat.reduceEqDiff, Go.Addr.add, ↓reduceIte] at hx117_2); have qi117 : (2 < t112.length) = True := eq_true (by omega); (try rw [show ((2 : Int)).toNat = 2 from rfl] at hx117_0); (try rw [show 2 * 3 = 6 from rfl] at hx117_0); (try rw [show ((2 : Int)).toNat = 2 from rfl] at hx117_1); (try rw [show 2 * 3 = 6 from rfl] at hx117_1); (try rw [show ((2 : Int)).toNat = 2 from rfl] at hx117_2); (try rw [show 2 * 3 = 6 from rfl] at hx117_2); replace p117 := eq_true p117; replace q117 := eq_true q117; have p118 : 0 ≤ (4 : Int) := (by omega); have q118 : 4 < (t112.length : Int) := of_decide_eq_true (by first | (with_reducible assumption) | assumption); obtain ⟨ad118, e118, hx118_0, hx118_1, hx118_2⟩ := at_T34 (Kd.R_reads' HO116.out).2.2 4 p118 q118; obtain rfl : ad117 = ad118 := (by injection e118); (try simp only [show (4 : Int).toNat = 4 from rfl, Nat.reduceMul, Nat.reduceEqDiff, Go.Addr.add, ↓reduceIte] at hx118_0); (try simp only [show (4 : Int).toNat = 4 from rfl, Nat.reduceMul, Nat.reduceEqDiff, Go.Addr.add, ↓reduceIte] at hx118_1); (try simp only [show (4 : Int).toNat = 4 from rfl, Nat.reduceMul, Nat.reduceEqDiff, Go.Addr.add, ↓reduceIte] at hx118_2); have qi118 : (4 < t112.length) = True := eq_true (by omega); (try rw [show ((4 : Int)).toNat = 4 from rfl] at hx118_0); (try rw [show 4 * 3 = 12 from rfl] at hx118_0); (try rw [show ((4 : Int)).toNat = 4 from rfl] at hx118_1); (try rw [show 4 * 3 = 12 from rfl] at hx118_1); (try rw [show ((4 : Int)).toNat = 4 from rfl] at hx118_2); (try rw [show 4 * 3 = 12 from rfl] at hx118_2); replace p118 := eq_true p118; replace q118 := eq_true q118) | (go_at_call 14; (with_reducible refine (lex_Variable.calls (⟨#[88, 49]⟩ : ByteArray) false _ A8.out).mono ?_); rintro e w' ⟨rfl, ⟨nd, rfl⟩⟩))
                go_ret
                exact ⟨by first | rfl | (simp [errW_none, errW_some] <;> rfl) | (simp [*, errW_none, errW_some] <;> rfl), by repeat (first | (with_reducible first | exact HB.out | apply below_alloc | apply pw_below_drewN | apply below_drew1) | exact HB.out)⟩
            · rw [if_neg c7] at H
              have c7b0 : (((rd_T34 t112 4).f1).toList == ([45, 53] : List UInt8)) = false := beq_eq_false_iff_ne.mpr c7
              have c7b1 : (((rd_T34 t112 4).f1).toList != ([45, 53] : List UInt8)) = true := bne_iff_ne.mpr c7
              obtain rfl := Option.some.inj H
              go_enter Tryd.func10, Tryd.ntmps10
              go_wp2_with (first | ((with_reducible refine gate_callee (f := 11) rfl ?_); refine goesL_ (some 5) rfl rfl Tryd.func11 (by kernel_rfl) rfl #[.string (⟨#[112, 40, 88, 44, 45, 53, 41, 46]⟩ : ByteArray)] rfl (by (try simp only [List.map_toArray, List.map_cons, List.map_nil]); first | done | rfl | (simp only [List.length_drop, List.length_take]; rfl)) ?_; (with_reducible refine (lex_Tokens.calls (⟨#[112, 40, 88, 44, 45, 53, 41, 46]⟩ : ByteArray) t112 t113 t114 _ ?side1 A1.out).mono ?_); (case side1 => (first | (refine LaidW.below HLW.out ?_; (repeat (first | (with_reducible first | exact HB.out | apply below_alloc | apply pw_below_drewN | apply below_drew1) | exact HB.out)); done) | (repeat (first | exact HLW.out | apply LaidW.drewN | apply LaidW.drew | apply LaidW.alloc)))); rintro e w15 ⟨v115, rfl, ho0, hb⟩; refine ⟨_, rfl, ?_⟩; have n0_ := Aside0.mk (Kd.R_lower ho0 (below_size (by repeat (first | (with_reducible first | exact HB.out | apply below_alloc | apply pw_below_drewN | apply below_drew1) | exact HB.out)))); have n1_ := Aside0.mk (below_step (by repeat (first | (with_reducible first | exact HB.out | apply below_alloc | apply pw_below_drewN | apply below_drew1) | exact HB.out)) hb); clear HB; have HO116 := n0_; have HB := n1_; clear n0_ n1_; (try clear hb); (try clear hb2); (try clear hk); (try clear hi); (try clear ho0); obtain ⟨Ao16, co16, eo16⟩ := Kd.R_slice HO116.out; subst eo16; have p117 : 0 ≤ (2 : Int) := (by omega); have q117 : 2 < (t112.length : Int) := of_decide_eq_true (by first | (with_reducible assumption) | assumption); obtain ⟨ad117, e117, hx117_0, hx117_1, hx117_2⟩ := at_T34 (Kd.R_reads' HO116.out).2.2 2 p117 q117; cases e117; (try simp only [show (2 : Int).toNat = 2 from rfl, Nat.reduceMul, Nat.reduceEqDiff, Go.Addr.add, ↓reduceIte] at hx117_0); (try simp only [show (2 : Int).toNat = 2 from rfl, Nat.reduceMul, Nat.reduceEqDiff, Go.Addr.add, ↓reduceIte] at hx117_1); (try simp only [show (2 : Int).toNat = 2 from rfl, Nat.reduceMul, Nat.reduceEqDiff, Go.Addr.add, ↓reduceIte] at hx117_2); have qi117 : (2 < t112.length) = True := eq_true (by omega); (try rw [show ((2 : Int)).toNat = 2 from rfl] at hx117_0); (try rw [show 2 * 3 = 6 from rfl] at hx117_0); (try rw [show ((2 : Int)).toNat = 2 from rfl] at hx117_1); (try rw [show 2 * 3 = 6 from rfl] at hx117_1); (try rw [show ((2 : Int)).toNat = 2 from rfl] at hx117_2); (try rw [show 2 * 3 = 6 from rfl] at hx117_2); replace p117 := eq_true p117; replace q117 := eq_true q117; have p118 : 0 ≤ (4 : Int) := (by omega); have q118 : 4 < (t112.length : Int) := of_decide_eq_true (by first | (with_reducible assumption) | assumption); obtain ⟨ad118, e118, hx118_0, hx118_1, hx118_2⟩ := at_T34 (Kd.R_reads' HO116.out).2.2 4 p118 q118; obtain rfl : ad117 = ad118 := (by injection e118); (try simp only [show (4 : Int).toNat = 4 from rfl, Nat.reduceMul, Nat.reduceEqDiff, Go.Addr.add, ↓reduceIte] at hx118_0); (try simp only [show (4 : Int).toNat = 4 from rfl, Nat.reduceMul, Nat.reduceEqDiff, Go.Addr.add, ↓reduceIte] at hx118_1); (try simp only [show (4 : Int).toNat = 4 from rfl, Nat.reduceMul, Nat.reduceEqDiff, Go.Addr.add, ↓reduceIte] at hx118_2); have qi118 : (4 < t112.length) = True := eq_true (by omega); (try rw [show ((4 : Int)).toNat = 4 from rfl] at hx118_0); (try rw [show 4 * 3 = 12 from rfl] at hx118_0); (try rw [show ((4 : Int)).toNat = 4 from rfl] at hx118_1); (try rw [show 4 * 3 = 12 from rfl] at hx118_1); (try rw [show ((4 : Int)).toNat = 4 from rfl] at hx118_2); (try rw [show 4 * 3 = 12 from rfl] at hx118_2); replace p118 := eq_true p118; replace q118 := eq_true q118))
              go_ret
              exact ⟨by first | rfl | (simp [errW_none, errW_some] <;> rfl) | (simp [*, errW_none, errW_some] <;> rfl), by repeat (first | (with_reducible first | exact HB.out | apply below_alloc | apply pw_below_drewN | apply below_drew1) | exact HB.out)⟩
          · rw [if_neg c6] at H
            exact absurd H (by simp)
        · rw [if_neg c5] at H
          have c5b0 : (((rd_T34 t112 2).f0) == 2 && ((((rd_T34 t112 2).f1).toList) == ([88] : List UInt8) && (((rd_T34 t112 2).f2) == 2))) = false := by simpa using c5
          (try (have c5b1 : decide (((rd_T34 t112 2).f0) = 2 && ((((rd_T34 t112 2).f1).toList) == ([88] : List UInt8) && (((rd_T34 t112 2).f2) == 2))) = false := by simpa using c5))
          (try (have c5b2 : (((rd_T34 t112 2).f0) == 2 && ((((rd_T34 t112 2).f1).toList) == ([88] : List UInt8) && (((rd_T34 t112 2).f2) == 2))) = false := by simpa using c5))
          (try (have c5b3 : ¬ (((rd_T34 t112 2).f0) = 2 && ((((rd_T34 t112 2).f1).toList) == ([88] : List UInt8) && (((rd_T34 t112 2).f2) == 2))) := by simpa using c5))
          clear c5
          obtain rfl := Option.some.inj H
          go_enter Tryd.func10, Tryd.ntmps10
          go_wp2_with (first | ((with_reducible refine gate_callee (f := 11) rfl ?_); refine goesL_ (some 5) rfl rfl Tryd.func11 (by kernel_rfl) rfl #[.string (⟨#[112, 40, 88, 44, 45, 53, 41, 46]⟩ : ByteArray)] rfl (by (try simp only [List.map_toArray, List.map_cons, List.map_nil]); first | done | rfl | (simp only [List.length_drop, List.length_take]; rfl)) ?_; (with_reducible refine (lex_Tokens.calls (⟨#[112, 40, 88, 44, 45, 53, 41, 46]⟩ : ByteArray) t112 t113 t114 _ ?side1 A1.out).mono ?_); (case side1 => (first | (refine LaidW.below HLW.out ?_; (repeat (first | (with_reducible first | exact HB.out | apply below_alloc | apply pw_below_drewN | apply below_drew1) | exact HB.out)); done) | (repeat (first | exact HLW.out | apply LaidW.drewN | apply LaidW.drew | apply LaidW.alloc)))); rintro e w17 ⟨v115, rfl, ho0, hb⟩; refine ⟨_, rfl, ?_⟩; have n0_ := Aside0.mk (Kd.R_lower ho0 (below_size (by repeat (first | (with_reducible first | exact HB.out | apply below_alloc | apply pw_below_drewN | apply below_drew1) | exact HB.out)))); have n1_ := Aside0.mk (below_step (by repeat (first | (with_reducible first | exact HB.out | apply below_alloc | apply pw_below_drewN | apply below_drew1) | exact HB.out)) hb); clear HB; have HO116 := n0_; have HB := n1_; clear n0_ n1_; (try clear hb); (try clear hb2); (try clear hk); (try clear hi); (try clear ho0); obtain ⟨Ao18, co18, eo18⟩ := Kd.R_slice HO116.out; subst eo18; have p117 : 0 ≤ (2 : Int) := (by omega); have q117 : 2 < (t112.length : Int) := of_decide_eq_true (by first | (with_reducible assumption) | assumption); obtain ⟨ad117, e117, hx117_0, hx117_1, hx117_2⟩ := at_T34 (Kd.R_reads' HO116.out).2.2 2 p117 q117; cases e117; (try simp only [show (2 : Int).toNat = 2 from rfl, Nat.reduceMul, Nat.reduceEqDiff, Go.Addr.add, ↓reduceIte] at hx117_0); (try simp only [show (2 : Int).toNat = 2 from rfl, Nat.reduceMul, Nat.reduceEqDiff, Go.Addr.add, ↓reduceIte] at hx117_1); (try simp only [show (2 : Int).toNat = 2 from rfl, Nat.reduceMul, Nat.reduceEqDiff, Go.Addr.add, ↓reduceIte] at hx117_2); have qi117 : (2 < t112.length) = True := eq_true (by omega); (try rw [show ((2 : Int)).toNat = 2 from rfl] at hx117_0); (try rw [show 2 * 3 = 6 from rfl] at hx117_0); (try rw [show ((2 : Int)).toNat = 2 from rfl] at hx117_1); (try rw [show 2 * 3 = 6 from rfl] at hx117_1); (try rw [show ((2 : Int)).toNat = 2 from rfl] at hx117_2); (try rw [show 2 * 3 = 6 from rfl] at hx117_2); replace p117 := eq_true p117; replace q117 := eq_true q117))
          go_ret
          exact ⟨by first | rfl | (simp [errW_none, errW_some] <;> rfl) | (simp [*, errW_none, errW_some] <;> rfl), by repeat (first | (with_reducible first | exact HB.out | apply below_alloc | apply pw_below_drewN | apply below_drew1) | exact HB.out)⟩
      · rw [if_neg c4] at H
        exact absurd H (by simp)
    · rw [if_neg c3] at H
      have c3b0 : ((t112.length : Int) == 7) = false := beq_eq_false_iff_ne.mpr c3
      have c3b1 : ((t112.length : Int) != 7) = true := bne_iff_ne.mpr c3
      obtain rfl := Option.some.inj H
      go_enter Tryd.func10, Tryd.ntmps10
      go_wp2_with (first | ((with_reducible refine gate_callee (f := 11) rfl ?_); refine goesL_ (some 5) rfl rfl Tryd.func11 (by kernel_rfl) rfl #[.string (⟨#[112, 40, 88, 44, 45, 53, 41, 46]⟩ : ByteArray)] rfl (by (try simp only [List.map_toArray, List.map_cons, List.map_nil]); first | done | rfl | (simp only [List.length_drop, List.length_take]; rfl)) ?_; (with_reducible refine (lex_Tokens.calls (⟨#[112, 40, 88, 44, 45, 53, 41, 46]⟩ : ByteArray) t112 t113 t114 _ ?side1 A1.out).mono ?_); (case side1 => (first | (refine LaidW.below HLW.out ?_; (repeat (first | (with_reducible first | exact HB.out | apply below_alloc | apply pw_below_drewN | apply below_drew1) | exact HB.out)); done) | (repeat (first | exact HLW.out | apply LaidW.drewN | apply LaidW.drew | apply LaidW.alloc)))); rintro e w19 ⟨v115, rfl, ho0, hb⟩; refine ⟨_, rfl, ?_⟩; have n0_ := Aside0.mk (Kd.R_lower ho0 (below_size (by repeat (first | (with_reducible first | exact HB.out | apply below_alloc | apply pw_below_drewN | apply below_drew1) | exact HB.out)))); have n1_ := Aside0.mk (below_step (by repeat (first | (with_reducible first | exact HB.out | apply below_alloc | apply pw_below_drewN | apply below_drew1) | exact HB.out)) hb); clear HB; have HO116 := n0_; have HB := n1_; clear n0_ n1_; (try clear hb); (try clear hb2); (try clear hk); (try clear hi); (try clear ho0); obtain ⟨Ao20, co20, eo20⟩ := Kd.R_slice HO116.out; subst eo20))
      go_ret
      exact ⟨by first | rfl | (simp [errW_none, errW_some] <;> rfl) | (simp [*, errW_none, errW_some] <;> rfl), by repeat (first | (with_reducible first | exact HB.out | apply below_alloc | apply pw_below_drewN | apply below_drew1) | exact HB.out)⟩
  · rw [if_neg c2] at H
    have c2b0 : (t114 == 0) = false := beq_eq_false_iff_ne.mpr c2
    have c2b1 : (t114 != 0) = true := bne_iff_ne.mpr c2
    obtain rfl := Option.some.inj H
    go_enter Tryd.func10, Tryd.ntmps10
    go_wp2_with (first | ((with_reducible refine gate_callee (f := 11) rfl ?_); refine goesL_ (some 5) rfl rfl Tryd.func11 (by kernel_rfl) rfl #[.string (⟨#[112, 40, 88, 44, 45, 53, 41, 46]⟩ : ByteArray)] rfl (by (try simp only [List.map_toArray, List.map_cons, List.map_nil]); first | done | rfl | (simp only [List.length_drop, List.length_take]; rfl)) ?_; (with_reducible refine (lex_Tokens.calls (⟨#[112, 40, 88, 44, 45, 53, 41, 46]⟩ : ByteArray) t112 t113 t114 _ ?side1 A1.out).mono ?_); (case side1 => (first | (refine LaidW.below HLW.out ?_; (repeat (first | (with_reducible first | exact HB.out | apply below_alloc | apply pw_below_drewN | apply below_drew1) | exact HB.out)); done) | (repeat (first | exact HLW.out | apply LaidW.drewN | apply LaidW.drew | apply LaidW.alloc)))); rintro e w21 ⟨v115, rfl, ho0, hb⟩; refine ⟨_, rfl, ?_⟩; have n0_ := Aside0.mk (Kd.R_lower ho0 (below_size (by repeat (first | (with_reducible first | exact HB.out | apply below_alloc | apply pw_below_drewN | apply below_drew1) | exact HB.out)))); have n1_ := Aside0.mk (below_step (by repeat (first | (with_reducible first | exact HB.out | apply below_alloc | apply pw_below_drewN | apply below_drew1) | exact HB.out)) hb); clear HB; have HO116 := n0_; have HB := n1_; clear n0_ n1_; (try clear hb); (try clear hb2); (try clear hk); (try clear hi); (try clear ho0)))
    go_ret
    exact ⟨by first | rfl | (simp [errW_none, errW_some] <;> rfl) | (simp [*, errW_none, errW_some] <;> rfl), by repeat (first | (with_reducible first | exact HB.out | apply below_alloc | apply pw_below_drewN | apply below_drew1) | exact HB.out)⟩
def antecedentlaw07_LexTells.j0 : Nat → ByteArray → ByteArray → Bool → Option (Bool)
  | 0, _, _, _ => none
  | k + 1, x0, x1, x32 => if x32 = true then ((antecedentlaw07_awake.f).bind fun t173 => (some t173)) else ((lex_Tokens.f x0).bind fun bt174 => ((antecedentref07_Tokens.f k x0).bind fun bt179 => ((antecedentlaw07_same.f k bt174.1 bt179.1).bind fun t184 => (if t184 = true then (if bt174.2.1 = bt179.2.1 then (if bt174.2.2 = bt179.2.2 then ((lex_Variable.f x1).bind fun t185 => ((antecedentref07_Variable.f k x1).bind fun t186 => (if (t185 == t186) = true then ((lex_Key.f x1).bind fun t187 => ((antecedentref07_Key.f k x1).bind fun t188 => (some (t187 == t188)))) else (some false)))) else (some false)) else (some false)) else (some false)))))
end Go.Proofs.YthebhbomlllpeaaDoor.X
namespace Go.Proofs.YthebhbomlllpeaaDoor.X
set_option linter.unusedVariables false
set_option linter.unusedSimpArgs false
open Go.RowKit Go.Proofs.YthebhbomlllpeaaDoorW.PrintWords Go.Proofs.YthebhbomlllpeaaDoorW.PrintLast Go.Proofs.YthebhbomlllpeaaDoorW.PrintMore
theorem tok_f (s : ByteArray) (h : s.size ≤ 20000) : lex_Tokens.f s = some (tokRes s) := by
  unfold lex_Tokens.f
  rw [if_pos (by omega), if_neg (by omega)]
theorem var_f (s : ByteArray) (h : s.size ≤ 20000) : lex_Variable.f s = some (varL s.data.toList) := by
  unfold lex_Variable.f
  rw [if_pos (by omega)]
theorem res_ok {s : ByteArray} {l : List (Nat × Nat × Nat)} (h : tokN nmL vlL 0 s.data.toList = .ok l) : tokRes s = (l.map (tokS s), 0, 0) := by unfold tokRes; rw [h]
theorem res_err {s : ByteArray} {i : Nat} (h : tokN nmL vlL 0 s.data.toList = .error i) : tokRes s = ([], (i : Int), 2) := by unfold tokRes; rw [h]
theorem vl_m5 : vlL [45, 53] = true := by
  have := vl_text (k := 1) (n := -5) (s := ⟨#[]⟩) (by decide) (by omega)
  have h : textL 1 (-5) ⟨#[]⟩ = [45, 53] := by
    rw [text_of_right (by decide), if_pos rfl]
    unfold Lib.itoa
    rw [if_pos (by omega)]
    have : (-5 : Int).natAbs = 5 := rfl
    rw [this, Lib.decDigits_one (by omega)]
    rfl
  rwa [h] at this
theorem nm_p : nmL [112] = true := by decide
theorem tok_awake : tokN nmL vlL 0 [112, 40, 88, 44, 45, 53, 41, 46] = .ok [(1, 0, 1), (4, 1, 1), (2, 2, 1), (4, 3, 1), (3, 4, 2), (4, 6, 1), (4, 7, 1)] := by
  have step : ∀ (a : Nat) (c : UInt8) (r : List UInt8) (k n : Nat) (l : List (Nat × Nat × Nat)), blankB c = false → nextN nmL vlL (c :: r) = some (k, n) → tokN nmL vlL (a + n) ((c :: r).drop n) = .ok l → tokN nmL vlL a (c :: r) = .ok ((k, a, n) :: l) := fun a c r k n l hb hn hl => by
    rw [tok_more nmL vlL a c r hb k n hn, hl]
  have h5 : nextN nmL vlL [45, 53, 41, 46] = some (3, 2) := by
    have e : runN signB [53, 41, 46] = 1 := by decide
    have e1 : smallN 45 = false := by decide
    have e2 : greatN 45 = false := by decide
    have e3 : valB 45 [53, 41, 46] = true := by decide
    simp only [nextN, e, e1, e2, e3, Bool.false_eq_true, if_false, if_true]
    have e4 : ([45, 53, 41, 46] : List UInt8).take (1 + 1) = [45, 53] := rfl
    rw [e4, vl_m5]
    rfl
  have h1 : nextN nmL vlL [112, 40, 88, 44, 45, 53, 41, 46] = some (1, 1) := by
    have e : runN lowB [112, 40, 88, 44, 45, 53, 41, 46] = 1 := by decide
    have e1 : smallN 112 = true := by decide
    simp only [nextN, e, e1, if_true]
    have e4 : ([112, 40, 88, 44, 45, 53, 41, 46] : List UInt8).take 1 = [112] := rfl
    rw [e4, nm_p]
    rfl
  have h3 : nextN nmL vlL [88, 44, 45, 53, 41, 46] = some (2, 1) := by
    have e : runN signB [88, 44, 45, 53, 41, 46] = 1 := by decide
    have e1 : smallN 88 = false := by decide
    have e2 : greatN 88 = true := by decide
    simp only [nextN, e, e1, e2, Bool.false_eq_true, if_false, if_true]
    rfl
  have hm : ∀ (c : UInt8) (r : List UInt8), smallN c = false → greatN c = false → valB c r = false → twoB (c :: r) = false → oneB c = true → nextN nmL vlL (c :: r) = some (4, 1) := fun c r e1 e2 e3 e4 e5 => by
    simp only [nextN, e1, e2, e3, e4, e5, Bool.false_eq_true, if_false, if_true]
  refine step 0 _ _ _ _ _ (by decide) h1 (step 1 _ _ _ _ _ (by decide) (hm _ _ (by decide) (by decide) (by decide) (by decide) (by decide)) (step 2 _ _ _ _ _ (by decide) h3 (step 3 _ _ _ _ _ (by decide) (hm _ _ (by decide) (by decide) (by decide) (by decide) (by decide)) (step 4 _ _ _ _ _ (by decide) h5 (step 6 _ _ _ _ _ (by decide) (hm _ _ (by decide) (by decide) (by decide) (by decide) (by decide)) (step 7 _ _ _ _ _ (by decide) (hm _ _ (by decide) (by decide) (by decide) (by decide) (by decide)) rfl))))))
theorem awake_true : antecedentlaw07_awake.f = some true := by
  unfold antecedentlaw07_awake.f
  rw [tok_f _ (by decide), res_ok tok_awake, var_f _ (by decide)]
  have h1 : (tokS ⟨#[112, 40, 88, 44, 45, 53, 41, 46]⟩ (2, 2, 1)).f1.toList = [88] := by
    rw [toList_data]; simp only [tokS]; rw [extract_list, extract_rest]; rfl
  have h2 : (tokS ⟨#[112, 40, 88, 44, 45, 53, 41, 46]⟩ (3, 4, 2)).f1.toList = [45, 53] := by
    rw [toList_data]; simp only [tokS]; rw [extract_list, extract_rest]; rfl
  have h3 : varL (⟨#[88, 49]⟩ : ByteArray).data.toList = true := by decide
  have h4 : lex_Key.f (⟨#[119, 97, 108, 107]⟩ : ByteArray) = some true := by
    unfold lex_Key.f
    rw [toList_data]
    rfl
  have r2 : ∀ a b c d e f g : S34, rd_T34 [a, b, c, d, e, f, g] 2 = c := fun _ _ _ _ _ _ _ => rfl
  have r4 : ∀ a b c d e f g : S34, rd_T34 [a, b, c, d, e, f, g] 4 = e := fun _ _ _ _ _ _ _ => rfl
  have f0 : (tokS ⟨#[112, 40, 88, 44, 45, 53, 41, 46]⟩ (2, 2, 1)).f0 = 2 := rfl
  have f2 : (tokS ⟨#[112, 40, 88, 44, 45, 53, 41, 46]⟩ (2, 2, 1)).f2 = 2 := rfl
  simp only [Option.bind_some, List.map_cons, List.map_nil, List.length_cons, List.length_nil, r2, r4, h1, h2, h3, h4, f0, f2]
  rfl
end Go.Proofs.YthebhbomlllpeaaDoor.X
