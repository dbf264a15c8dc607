/-
  ShowJoins: what the proof needs, put together by a program of this session (shake.py), part 3.
-/
import Derived.Test.YthebhbomlllpeaaDoorCards
import Derived.Test.YthebhbomlllpeaaDoorTie
import Derived.Test.YthebhbomlllpeaaDoorProg
import Derived.Below
import Derived.Deep.Draws
import Derived.Deep.AppendLies
import Derived.Maps.AppendAt
import Derived.OwnWalk
import Derived.Laws.BytesArg
import Derived.Laws.MakeOwn
import Derived.Laws.OwnMore
import Derived.Deep.OwnRows
import Derived.Tactics
import Derived.Lib.ConvBytes
import Derived.Laws.Slices
import Derived.WalkKit
import Derived.KernelRfl
import Derived.RowKit3
import Derived.Deep.LoopGhost
import Derived.Deep.QuietTactic
import Derived.BigQuiet
import Derived.WideLaws
import Derived.Deep.DeepCutAuto
import Derived.Deep.CutBlock
import Derived.Deep.RegionHeld3
import Derived.Laws.Rows
import Derived.Lib.AppendStr
import Derived.ArgAppend
import Derived.Laws.IdiomCopy
import Derived.OrdersHeld
import Derived.Laws.BitsLemmas
import Derived.RowKit
import Derived.Lib.SmallJoins
import Derived.Lib.ItoaMem
import Derived.Laws.StructEq
import Derived.Test.YthebhbomlllpeaaDoorRows
import Derived.Deep.Slices
import Derived.Deep.Fields
import Derived.ChangeSame
import Derived.ProofKit
import Derived.OpenShut
import Derived.Deep.DeepHandedRow
import Derived.Lib.LaidTab
import Derived.LaidMore
import Derived.Stop.LaidErr
import Derived.MakeChecks
import Derived.Laws.NewBlocks
import Derived.Shelf.Strings.Builder1
import Derived.Shelf.Strings.Builder2
import Derived.Shelf.Strings.OnBuilder
import Derived.Shelf.Small.Strs
import Derived.Shelf.Small.Wraps
import Derived.Shelf.Strings.BuilderF
import Derived.Shelf.Strings.BuilderK
import Derived.Shelf.Strings.Builder2Cap
import Derived.Shelf.Strconv.Itoa0
import Derived.Shelf.Strconv.Itoa1
import Derived.Shelf.LaysM
import Derived.Shelf.Strconv.Itoa2
import Derived.Shelf.Strconv.Itoa3
import Derived.Shelf.Strconv.Itoa4
import Derived.Shelf.Strconv.ParseIntEmpty
import Derived.Shelf.Strconv.Clone
import Derived.Shelf.Strconv.SyntaxError
import Derived.Shelf.LaysC
import Derived.Shelf.Strconv.ToError
import Derived.Shelf.Strconv.Lower
import Derived.Shelf.Strconv.ParseUint10
import Derived.Shelf.Strconv.ParseUint10Empty
import Derived.Shelf.Strconv.ParseUint10Any
import Derived.Shelf.Strconv.ParseInt10
import Derived.Shelf.Strconv.RangeError
import Derived.Shelf.Strconv.ToErrorRange
import Derived.Shelf.Strconv.ParseUintEmpty
import Derived.Shelf.Strconv.ParseUint10b64
import Derived.Shelf.Strconv.ParseUint10b32
import Derived.Shelf.Strconv.ParseUint10b16
import Derived.Shelf.Strconv.ParseUint10b8
import Derived.Shelf.Strconv.ParseUint10At
import Derived.Shelf.Strconv.ParseInt10At64
import Derived.Shelf.Strconv.ParseInt10At32
import Derived.Shelf.Strconv.ParseInt10At16
import Derived.Shelf.Strconv.ParseInt10At8
import Derived.Shelf.Strconv.ParseInt10All
import Derived.Shelf.Strconv.ParseIntPublic10
import Derived.Shelf.Strconv.ErrVarParseInt
import Derived.Ground.MpProg
import Derived.Shelf.Pu.ParseUintPublic10
import Derived.Shelf.Pu.ErrVarParseUint
import Derived.Shelf.Strings.Search1
import Derived.Shelf.Strings.Prefix
import Derived.Shelf.Bits.Mul64
import Derived.Shelf.Strings.Repeat
import Derived.Shelf.Strings.BuilderCap
import Derived.Lib.AtoiAllMem
import Derived.Lib.ParseIntB
import Derived.Lib.Hide
import Derived.Laws.Strings3
import Derived.Laws.Closers25
import Derived.Laws.Closers25b
import Derived.BigCall
import Derived.BigGuard
import Derived.Laws.RangeAny
import Derived.Laws.RangeString
import Derived.Lib.ParseIntBTie
import Init
import Derived.Recover
import Derived.WalkLawsBesides
import Derived.StillTailTactics
import Derived.Deep.MidRow
import Derived.Deep.DrawnRows
import Derived.Test.YthebhbomlllpeaaDoorZShowJoins2
namespace Go.Proofs.YthebhbomlllpeaaDoor.X
set_option linter.unusedVariables false
set_option linter.unusedSimpArgs false
open Go.RowKit Go.Proofs.YthebhbomlllpeaaDoorW.PrintWords Go.Proofs.YthebhbomlllpeaaDoorW.PrintLast Go.Proofs.YthebhbomlllpeaaDoorW.PrintMore
theorem extract_list (s : ByteArray) (a b : Nat) : (s.extract a b).data.toList = (s.data.toList.take b).drop a := by
  rw [ByteArray.data_extract, Array.toList_extract, List.extract_eq_take_drop, List.drop_take]
theorem extract_take (s : ByteArray) (n : Nat) : s.extract 0 n = ⟨(s.data.toList.take n).toArray⟩ := by
  apply ByteArray.ext
  apply Array.toList_inj.1
  rw [extract_list]; simp
theorem extract_rest (s : ByteArray) (n : Nat) : (s.extract n s.size).data.toList = s.data.toList.drop n := by
  rw [extract_list, List.take_of_length_le (by rw [data_length]; exact Nat.le_refl _)]
/-- is a text a variable's name? -/
def varL (l : List UInt8) : Bool := match l with
  | [] => false
  | c :: r => decide ((c :: r).length ≤ 40) && (greatN c && decide (runN signB (c :: r) = (c :: r).length))
def lex_Variable.f (a0 : ByteArray) : Option Bool := if a0.size ≤ 140737488355328 then some (varL a0.data.toList) else none
theorem list_head {s : ByteArray} (h : 0 < s.size) : ∃ r, s.data.toList = s[0] :: r := by
  cases hl : s.data.toList with
  | nil => have := data_length s; rw [hl] at this; simp at this; omega
  | cons c r =>
    refine ⟨r, ?_⟩
    have h2 := getElem_data s 0 h (by rw [data_length]; exact h)
    have h3 : s.data.toList[0]'(by rw [data_length]; exact h) = c := by simp [hl]
    rw [← h2, h3]
set_option maxHeartbeats 1600000 in
set_option maxRecDepth 100000 in
theorem lex_Variable.calls (a0 : ByteArray) (r : Bool) (w : World) (h : lex_Variable.f a0 = some r) :
    Calls Tryd.prog 14 #[.string a0] w fun e w' => e = .returned (.bool r) ∧ Drawn0 w w' := by
  unfold lex_Variable.f at h
  split at h
  · rename_i hs
    obtain rfl := Option.some.inj h
    clear h
    have HR := Aside0.mk (fun W => run_sign a0 hs W)
    by_cases hz : a0.size = 0
    · have hl : varL a0.data.toList = false := by
        have : a0.data.toList = [] := List.eq_nil_of_length_eq_zero (by rw [data_length]; exact hz)
        rw [this]; rfl
      have hemp : a0.toList.isEmpty = true := by rw [toList_data, List.isEmpty_iff]; exact List.eq_nil_of_length_eq_zero (by rw [data_length]; exact hz)
      rw [hl]
      clear hz hl hs
      go_enter Tryd.func14, Tryd.ntmps14
      go_wp2
      go_ret
      exact ⟨rfl, Drawn0.refl _⟩
    · have hp : 0 < a0.size := by omega
      obtain ⟨r, hr⟩ := list_head hp
      have hemp : a0.toList.isEmpty = false := by rw [toList_data, hr]; rfl
      have hlen : a0.data.toList.length = a0.size := data_length a0
      have hv : varL a0.data.toList = (decide (a0.size ≤ 40) && (greatN a0[0] && decide (runN signB a0.data.toList = a0.size))) := by
        rw [← hlen, hr]; rfl
      have HG := Aside0.mk (fun W => lex_great.calls (a0[0].toNat : Int) (greatN a0[0]) W (lex_great_eq a0[0]))
      rw [hv]
      clear hr hlen hv
      by_cases h40 : a0.size ≤ 40
      · have e1 : decide ((a0.size : Int) ≤ 40) = true := decide_eq_true (by omega)
        rw [decide_eq_true h40, Bool.true_and]
        cases hg : greatN a0[0] with
        | false =>
          rw [hg] at HG
          rw [Bool.false_and]
          clear hg hz h40 hs
          go_enter Tryd.func14, Tryd.ntmps14
          go_wp2_with (go_at_call 28; refine (HG.out _).mono ?_; rintro e w' ⟨rfl, ⟨nd, rfl⟩⟩)
          go_ret
          exact ⟨rfl, ⟨_, rfl⟩⟩
        | true =>
          rw [hg] at HG
          rw [Bool.true_and]
          clear hg hz hs
          by_cases hrun : runN signB a0.data.toList = a0.size
          · have e2 : ((runN signB a0.data.toList : Int) == (a0.size : Int)) = true := by rw [hrun]; simp
            rw [decide_eq_true hrun]
            clear hrun h40
            go_enter Tryd.func14, Tryd.ntmps14
            go_wp2_with (first | (go_at_call 28; refine (HG.out _).mono ?_; rintro e w' ⟨rfl, ⟨nd, rfl⟩⟩) | (go_at_call 29; refine (HR.out _).mono ?_; rintro e w' ⟨rfl, ⟨nd2, rfl⟩⟩))
            go_ret
            exact ⟨rfl, ⟨_, rfl⟩⟩
          · have e2 : ((runN signB a0.data.toList : Int) == (a0.size : Int)) = false := by rw [beq_eq_false_iff_ne]; omega
            rw [decide_eq_false hrun]
            clear hrun h40
            go_enter Tryd.func14, Tryd.ntmps14
            go_wp2_with (first | (go_at_call 28; refine (HG.out _).mono ?_; rintro e w' ⟨rfl, ⟨nd, rfl⟩⟩) | (go_at_call 29; refine (HR.out _).mono ?_; rintro e w' ⟨rfl, ⟨nd2, rfl⟩⟩))
            go_ret
            exact ⟨rfl, ⟨_, rfl⟩⟩
      · have e1 : decide ((a0.size : Int) ≤ 40) = false := decide_eq_false (by omega)
        rw [decide_eq_false h40, Bool.false_and]
        clear hz h40 hs
        go_enter Tryd.func14, Tryd.ntmps14
        go_wp2
        go_ret
        exact ⟨rfl, Drawn0.refl _⟩
  · cases h
theorem tok_blk {W : World} {g : Nat} {x0 x1 x2 : Value} (hg : W.heap[g]? = some (.cells #[x0, x1, x2] 34 (0, 0))) (k t a : Value) :
    (((W.setCell ⟨g, 0, none⟩ k).setCell ⟨g, 1, none⟩ t).setCell ⟨g, 2, none⟩ a).heap[g]? = some (.cells #[k, t, a] 34 (0, 0)) :=
  blk_put (cs := #[k, t, x2]) (blk_put (cs := #[k, x1, x2]) (blk_put (cs := #[x0, x1, x2]) hg 0 _ rfl) 1 _ rfl) 2 _ rfl
theorem next_ret {w W : World} {tmps : Array Value} (hg : W.heap[w.heap.size]? = some (.cells #[.int .i64 0, .string ⟨#[]⟩, .int .i64 0] 34 (0, 0))) (hb : Below w.heap.size w W) (k : Int) (t : ByteArray) (a : Int) (htmp : tmps.getD 4 undef = .pointer (some ⟨w.heap.size, 0, none⟩)) :
    bodyPost Tryd.prog Tryd.f26 (fun e w' => e = .returned (.agg #[.int .i64 k, .string t, .int .i64 a]) ∧ Below w.heap.size w w') Exit.ret { tmps := tmps, defers := [] }
      (((W.setCell ⟨w.heap.size, 0, none⟩ (.int .i64 k)).setCell ⟨w.heap.size, 1, none⟩ (.string t)).setCell ⟨w.heap.size, 2, none⟩ (.int .i64 a)) :=
  bodyPost_ret (results_single rfl (.cell w.heap.size 34 #[.int .i64 k, .string t, .int .i64 a] (0, 0) _ htmp (tok_blk hg _ _ _) Tryd.underlying34 rfl (by kernel_rfl) .nil)) rfl
    ⟨rfl, below_set (below_set (below_set hb (Nat.le_refl _)) (Nat.le_refl _)) (Nat.le_refl _)⟩
theorem blk_first (w : World) (m : Nat) (o : Obj) : ((w.alloc o).drewN m).heap[w.heap.size]? = some o := blk_drewN (blk_new w o) m
theorem below_first (w : World) (m : Nat) (o : Obj) : Below w.heap.size w ((w.alloc o).drewN m) := pw_below_drewN ((Below.refl _ _).alloc (Nat.le_refl _) _) m
theorem name_take (s : ByteArray) (n : Nat) : nmL (s.data.toList.take n) = nameB (s.extract 0 n) := by unfold nmL; rw [extract_take]
/-- what next answers. -/
def NextR (s : ByteArray) (a : Int) : Option (Nat × Nat) → Ending → Prop
  | some (k, n), e => e = .returned (.agg #[.int .i64 k, .string (s.extract 0 n), .int .i64 a])
  | none, e => e = .panicked [{ v := .iface 48 (.int .i64 a), recovered := false }]
theorem next_retA {w W : World} {tmps : Array Value} (hg : W.heap[w.heap.size]? = some (.cells #[.int .i64 0, .string ⟨#[]⟩, .int .i64 0] 34 (0, 0))) (hb : Below w.heap.size w W) (k : Int) (t : ByteArray) (a : Int) (htmp : tmps.getD 4 undef = .pointer (some ⟨w.heap.size, 0, none⟩)) (o : Obj) :
    bodyPost Tryd.prog Tryd.f26 (fun e w' => e = .returned (.agg #[.int .i64 k, .string t, .int .i64 a]) ∧ Below w.heap.size w w') Exit.ret { tmps := tmps, defers := [] }
      ((((W.setCell ⟨w.heap.size, 0, none⟩ (.int .i64 k)).setCell ⟨w.heap.size, 1, none⟩ (.string t)).setCell ⟨w.heap.size, 2, none⟩ (.int .i64 a)).alloc o) :=
  bodyPost_ret (results_single rfl (.cell w.heap.size 34 #[.int .i64 k, .string t, .int .i64 a] (0, 0) _ htmp (blk_alloc (tok_blk hg _ _ _) _) Tryd.underlying34 rfl (by kernel_rfl) .nil)) rfl
    ⟨rfl, below_alloc (below_set (below_set (below_set hb (Nat.le_refl _)) (Nat.le_refl _)) (Nat.le_refl _)) _⟩
theorem take_two {s : ByteArray} {p : List UInt8} (h : s.data.toList.take 2 = p) (hp : p.length = 2) : 2 ≤ s.size := by
  have := congrArg List.length h
  rw [List.length_take, hp, data_length] at this
  omega
theorem prefix_two (s p : ByteArray) (b : Bool) (h : (s.data.toList.take 2 == p.data.toList) = b) (hp : p.size = 2 := by rfl) : strings_HasPrefix.f s p = some b := by
  unfold strings_HasPrefix.f stringslite_HasPrefix.f
  rw [hp]
  by_cases h2 : (s.size : Int) ≥ ((2 : Nat) : Int)
  · rw [if_pos h2, if_pos (by omega), if_pos h2]
    simp only [Option.bind_some]
    have e : (s.extract 0 (((2 : Nat) : Int) : Int).toNat).toList = s.data.toList.take 2 := by
      rw [toList_data, extract_list, List.drop_zero]; rfl
    rw [e, toList_data, h]
  · rw [if_neg h2]
    simp only [Option.bind_some]
    congr 1
    rw [← h]
    symm
    rw [beq_eq_false_iff_ne]
    intro e
    have := congrArg List.length e
    rw [List.length_take, data_length, data_length, hp] at this
    omega
theorem index_pos (l : List UInt8) (c : UInt8) : decide ((0 : Int) ≤ Lib.indexByte l c) = l.contains c ∧ -1 ≤ Lib.indexByte l c := by
  induction l with
  | nil => exact ⟨rfl, Int.le_refl _⟩
  | cons b l ih =>
    obtain ⟨ih1, ih2⟩ := ih
    unfold Lib.indexByte
    by_cases hb : (b == c) = true
    · rw [if_pos hb]
      have : b = c := beq_iff_eq.1 hb
      subst this
      exact ⟨by simp, by decide⟩
    · rw [if_neg hb]
      have hc : (b :: l).contains c = l.contains c := by
        rw [List.contains_cons]
        have : (c == b) = false := by rw [beq_eq_false_iff_ne]; intro e; exact hb (beq_iff_eq.2 e.symm)
        rw [this, Bool.false_or]
      rw [hc, ← ih1]
      by_cases hm : (Lib.indexByte l c == -1) = true
      · rw [if_pos hm]
        have : Lib.indexByte l c = -1 := beq_iff_eq.1 hm
        rw [this]
        exact ⟨rfl, by decide⟩
      · rw [if_neg hm]
        have : Lib.indexByte l c ≠ -1 := fun e => hm (beq_iff_eq.2 e)
        refine ⟨?_, by omega⟩
        rw [Bool.eq_iff_iff, decide_eq_true_eq, decide_eq_true_eq]
        omega
theorem one_index (c : UInt8) : decide ((0 : Int) ≤ Lib.indexByte (⟨#[40, 41, 44, 46, 60, 61, 47, 124, 42, 43, 63, 94]⟩ : ByteArray).data.toList ((c.toNat : Int)).toNat.toUInt8) = oneB c := by
  have e : ((c.toNat : Int)).toNat.toUInt8 = c := by
    rw [Int.toNat_natCast]
    apply UInt8.toNat_inj.1
    show (UInt8.ofNat c.toNat).toNat = c.toNat
    rw [UInt8.toNat_ofNat']
    have := c.toNat_lt
    omega
  rw [e, (index_pos _ c).1]
  rfl
set_option maxHeartbeats 1600000 in
set_option maxRecDepth 100000 in
theorem next_small_true (s : ByteArray) (hs : s.size ≤ 140737488355328) (a : Int) (w : World) (hp : 0 < s.size) (n : Nat) (hsm : smallN s[0] = true) (hn : runN lowB s.data.toList = n) (hN : nameB (s.extract 0 n) = true) :
    Calls Tryd.prog 26 #[.string s, .int .i64 a] w fun e w' => NextR s a (some (1, n)) e ∧ Below w.heap.size w w' := by
  have HS := Aside0.mk (fun W => lex_small.calls (s[0].toNat : Int) (smallN s[0]) W (lex_small_eq s[0]))
  rw [hsm] at HS
  have HR := Aside0.mk (fun W => run_low s hs W)
  have hle : n ≤ s.size := by have := runN_le lowB s.data.toList; rwa [data_length, hn] at this
  rw [hn] at HR
  have HN := Aside0.mk (fun W => value_Name.calls 42 (s.extract 0 n) _ W (value_Name_eq _ 42 (Nat.le_refl _)))
  rw [hN] at HN
  clear hN hsm hs hn
  go_enter Tryd.func26, Tryd.ntmps26
  go_wp2_with (first | (go_at_call 50; refine (HS.out _).mono ?_; rintro e w' ⟨rfl, ⟨nd1, rfl⟩⟩) | (go_at_call 29; refine (HR.out _).mono ?_; rintro e w' ⟨rfl, ⟨nd4, rfl⟩⟩) | (go_at_call 19; refine (HN.out _).mono ?_; rintro e w' ⟨rfl, ⟨nd6, rfl⟩⟩))
  exact next_ret (blk_first w _ _) (below_first w _ _) 1 _ a (by rfl)
set_option maxHeartbeats 1600000 in
set_option maxRecDepth 100000 in
theorem next_small_false (s : ByteArray) (hs : s.size ≤ 140737488355328) (a : Int) (w : World) (hp : 0 < s.size) (n : Nat) (hsm : smallN s[0] = true) (hn : runN lowB s.data.toList = n) (hN : nameB (s.extract 0 n) = false) :
    Calls Tryd.prog 26 #[.string s, .int .i64 a] w fun e w' => NextR s a (none) e ∧ Below w.heap.size w w' := by
  have HS := Aside0.mk (fun W => lex_small.calls (s[0].toNat : Int) (smallN s[0]) W (lex_small_eq s[0]))
  rw [hsm] at HS
  have HR := Aside0.mk (fun W => run_low s hs W)
  have hle : n ≤ s.size := by have := runN_le lowB s.data.toList; rwa [data_length, hn] at this
  rw [hn] at HR
  have HN := Aside0.mk (fun W => value_Name.calls 42 (s.extract 0 n) _ W (value_Name_eq _ 42 (Nat.le_refl _)))
  rw [hN] at HN
  clear hN hsm hs hn
  go_enter Tryd.func26, Tryd.ntmps26
  go_wp2_with (first | (go_at_call 50; refine (HS.out _).mono ?_; rintro e w' ⟨rfl, ⟨nd1, rfl⟩⟩) | (go_at_call 29; refine (HR.out _).mono ?_; rintro e w' ⟨rfl, ⟨nd4, rfl⟩⟩) | (go_at_call 19; refine (HN.out _).mono ?_; rintro e w' ⟨rfl, ⟨nd6, rfl⟩⟩))
  exact ⟨rfl, rfl, below_first w _ _⟩
set_option maxHeartbeats 1600000 in
set_option maxRecDepth 100000 in
theorem next_great_true (s : ByteArray) (hs : s.size ≤ 140737488355328) (a : Int) (w : World) (hp : 0 < s.size) (n : Nat) (hsm : smallN s[0] = false) (hgr : greatN s[0] = true) (hn : runN signB s.data.toList = n) (hN : varL (s.data.toList.take n) = true) :
    Calls Tryd.prog 26 #[.string s, .int .i64 a] w fun e w' => NextR s a (some (2, n)) e ∧ Below w.heap.size w w' := by
  have HS := Aside0.mk (fun W => lex_small.calls (s[0].toNat : Int) (smallN s[0]) W (lex_small_eq s[0]))
  rw [hsm] at HS
  have HG := Aside0.mk (fun W => lex_great.calls (s[0].toNat : Int) (greatN s[0]) W (lex_great_eq s[0]))
  rw [hgr] at HG
  have HR := Aside0.mk (fun W => run_sign s hs W)
  have hle : n ≤ s.size := by have := runN_le signB s.data.toList; rwa [data_length, hn] at this
  rw [hn] at HR
  have hv2 := fun W => lex_Variable.calls (s.extract 0 n) _ W (by unfold lex_Variable.f; rw [if_pos (by rw [ByteArray.size_extract]; omega)])
  rw [extract_list, List.drop_zero, hN] at hv2
  have HN := Aside0.mk hv2
  clear hv2 hN hsm hgr hs hn
  go_enter Tryd.func26, Tryd.ntmps26
  go_wp2_with (first | (go_at_call 50; refine (HS.out _).mono ?_; rintro e w' ⟨rfl, ⟨nd1, rfl⟩⟩) | (go_at_call 28; refine (HG.out _).mono ?_; rintro e w' ⟨rfl, ⟨nd2, rfl⟩⟩) | (go_at_call 29; refine (HR.out _).mono ?_; rintro e w' ⟨rfl, ⟨nd4, rfl⟩⟩) | (go_at_call 14; refine (HN.out _).mono ?_; rintro e w' ⟨rfl, ⟨nd5, rfl⟩⟩))
  exact next_ret (blk_first w _ _) (below_first w _ _) 2 _ a (by rfl)
set_option maxHeartbeats 1600000 in
set_option maxRecDepth 100000 in
theorem next_great_false (s : ByteArray) (hs : s.size ≤ 140737488355328) (a : Int) (w : World) (hp : 0 < s.size) (n : Nat) (hsm : smallN s[0] = false) (hgr : greatN s[0] = true) (hn : runN signB s.data.toList = n) (hN : varL (s.data.toList.take n) = false) :
    Calls Tryd.prog 26 #[.string s, .int .i64 a] w fun e w' => NextR s a (none) e ∧ Below w.heap.size w w' := by
  have HS := Aside0.mk (fun W => lex_small.calls (s[0].toNat : Int) (smallN s[0]) W (lex_small_eq s[0]))
  rw [hsm] at HS
  have HG := Aside0.mk (fun W => lex_great.calls (s[0].toNat : Int) (greatN s[0]) W (lex_great_eq s[0]))
  rw [hgr] at HG
  have HR := Aside0.mk (fun W => run_sign s hs W)
  have hle : n ≤ s.size := by have := runN_le signB s.data.toList; rwa [data_length, hn] at this
  rw [hn] at HR
  have hv2 := fun W => lex_Variable.calls (s.extract 0 n) _ W (by unfold lex_Variable.f; rw [if_pos (by rw [ByteArray.size_extract]; omega)])
  rw [extract_list, List.drop_zero, hN] at hv2
  have HN := Aside0.mk hv2
  clear hv2 hN hsm hgr hs hn
  go_enter Tryd.func26, Tryd.ntmps26
  go_wp2_with (first | (go_at_call 50; refine (HS.out _).mono ?_; rintro e w' ⟨rfl, ⟨nd1, rfl⟩⟩) | (go_at_call 28; refine (HG.out _).mono ?_; rintro e w' ⟨rfl, ⟨nd2, rfl⟩⟩) | (go_at_call 29; refine (HR.out _).mono ?_; rintro e w' ⟨rfl, ⟨nd4, rfl⟩⟩) | (go_at_call 14; refine (HN.out _).mono ?_; rintro e w' ⟨rfl, ⟨nd5, rfl⟩⟩))
  exact ⟨rfl, rfl, below_first w _ _⟩
set_option maxHeartbeats 1600000 in
set_option maxRecDepth 100000 in
theorem next_hash_ok (s : ByteArray) (hs : s.size ≤ 140737488355328) (a : Int) (w : World) (hp : 0 < s.size) (n : Nat) (hLW : LaidW w) (hsm : smallN s[0] = false) (hgr : greatN s[0] = false) (h35 : s[0] = 35) (hn : 1 + runN signB (s.data.toList.drop 1) = n) (hR : (readR (s.extract 0 n)).2.2.2 = 0) :
    Calls Tryd.prog 26 #[.string s, .int .i64 a] w fun e w' => NextR s a (some (3, n)) e ∧ Below w.heap.size w w' := by
  have HS := Aside0.mk (fun W => lex_small.calls (s[0].toNat : Int) (smallN s[0]) W (lex_small_eq s[0]))
  rw [hsm] at HS
  have HG := Aside0.mk (fun W => lex_great.calls (s[0].toNat : Int) (greatN s[0]) W (lex_great_eq s[0]))
  rw [hgr] at HG
  have hr2 := fun W => run_sign (s.extract 1 s.size) (by rw [ByteArray.size_extract]; omega) W
  rw [extract_rest] at hr2
  have hle : n ≤ s.size := by have := runN_le signB (s.data.toList.drop 1); rw [List.length_drop, data_length] at this; omega
  generalize runN signB (s.data.toList.drop 1) = m at hn hr2
  have hw : wrap64 (1 + (m : Int)) = (n : Int) := by unfold wrap64; omega
  have HR := Aside0.mk hr2
  have HLW := Aside0.mk hLW
  obtain ⟨q1, q2, q3, q4, hq⟩ : ∃ q1 q2 q3 q4, readR (s.extract 0 n) = (q1, q2, q3, q4) := ⟨_, _, _, _, rfl⟩
  rw [hq] at hR
  have HRD : Aside0 (value_Read.f (s.extract 0 n) = some (q1, q2, q3, q4)) := ⟨by unfold value_Read.f; rw [if_pos (by rw [ByteArray.size_extract]; omega), hq]⟩
  have e35 : ((s[0].toNat : Int) == 35) = true := by rw [h35]; rfl
  have eq4 : (q4 == 0) = true := beq_iff_eq.2 hR
  clear hR hq hn hr2 hLW hsm hgr hs h35
  go_enter Tryd.func26, Tryd.ntmps26
  go_wp2_with (first | (go_at_call 50; refine (HS.out _).mono ?_; rintro e w' ⟨rfl, ⟨nd1, rfl⟩⟩) | (go_at_call 28; refine (HG.out _).mono ?_; rintro e w' ⟨rfl, ⟨nd2, rfl⟩⟩) | (go_at_call 29; refine (HR.out _).mono ?_; rintro e w' ⟨rfl, ⟨nd4, rfl⟩⟩))
  refine (value_Read.calls _ _ _ _ _ _ (by exact (HLW.out.alloc _).drewN _) HRD.out).mono ?_
  rintro e w1 ⟨rfl, hb1⟩
  have HB := Aside0.mk (below_step (below_first w _ _) hb1)
  have HK := Aside0.mk (blk_below (blk_first w _ _) hb1)
  have hz : w.heap.size < w1.heap.size := blk_lt HK.out
  clear hb1
  have hf0 := blk_frozen HK.out 0
  have hf1 := blk_frozen HK.out 1
  have hf2 := blk_frozen HK.out 2
  have hc0 : w1.cell? ⟨w.heap.size, 0, none⟩ = some (.int .i64 0) := (blk_cell HK.out 0).trans rfl
  have hc1 : w1.cell? ⟨w.heap.size, 1, none⟩ = some (.string ⟨#[]⟩) := (blk_cell HK.out 1).trans rfl
  have hc2 : w1.cell? ⟨w.heap.size, 2, none⟩ = some (.int .i64 0) := (blk_cell HK.out 2).trans rfl
  go_wp2
  exact next_retA HK.out HB.out 3 _ a rfl _
set_option maxHeartbeats 1600000 in
set_option maxRecDepth 100000 in
theorem next_hash_no (s : ByteArray) (hs : s.size ≤ 140737488355328) (a : Int) (w : World) (hp : 0 < s.size) (n : Nat) (hLW : LaidW w) (hsm : smallN s[0] = false) (hgr : greatN s[0] = false) (h35 : s[0] = 35) (hn : 1 + runN signB (s.data.toList.drop 1) = n) (hR : (readR (s.extract 0 n)).2.2.2 ≠ 0) :
    Calls Tryd.prog 26 #[.string s, .int .i64 a] w fun e w' => NextR s a (none) e ∧ Below w.heap.size w w' := by
  have HS := Aside0.mk (fun W => lex_small.calls (s[0].toNat : Int) (smallN s[0]) W (lex_small_eq s[0]))
  rw [hsm] at HS
  have HG := Aside0.mk (fun W => lex_great.calls (s[0].toNat : Int) (greatN s[0]) W (lex_great_eq s[0]))
  rw [hgr] at HG
  have hr2 := fun W => run_sign (s.extract 1 s.size) (by rw [ByteArray.size_extract]; omega) W
  rw [extract_rest] at hr2
  have hle : n ≤ s.size := by have := runN_le signB (s.data.toList.drop 1); rw [List.length_drop, data_length] at this; omega
  generalize runN signB (s.data.toList.drop 1) = m at hn hr2
  have hw : wrap64 (1 + (m : Int)) = (n : Int) := by unfold wrap64; omega
  have HR := Aside0.mk hr2
  have HLW := Aside0.mk hLW
  obtain ⟨q1, q2, q3, q4, hq⟩ : ∃ q1 q2 q3 q4, readR (s.extract 0 n) = (q1, q2, q3, q4) := ⟨_, _, _, _, rfl⟩
  rw [hq] at hR
  have HRD : Aside0 (value_Read.f (s.extract 0 n) = some (q1, q2, q3, q4)) := ⟨by unfold value_Read.f; rw [if_pos (by rw [ByteArray.size_extract]; omega), hq]⟩
  have e35 : ((s[0].toNat : Int) == 35) = true := by rw [h35]; rfl
  have eq4 : (q4 == 0) = false := beq_eq_false_iff_ne.2 hR
  clear hR hq hn hr2 hLW hsm hgr hs h35
  go_enter Tryd.func26, Tryd.ntmps26
  go_wp2_with (first | (go_at_call 50; refine (HS.out _).mono ?_; rintro e w' ⟨rfl, ⟨nd1, rfl⟩⟩) | (go_at_call 28; refine (HG.out _).mono ?_; rintro e w' ⟨rfl, ⟨nd2, rfl⟩⟩) | (go_at_call 29; refine (HR.out _).mono ?_; rintro e w' ⟨rfl, ⟨nd4, rfl⟩⟩))
  refine (value_Read.calls _ _ _ _ _ _ (by exact (HLW.out.alloc _).drewN _) HRD.out).mono ?_
  rintro e w1 ⟨rfl, hb1⟩
  have HB := Aside0.mk (below_step (below_first w _ _) hb1)
  have HK := Aside0.mk (blk_below (blk_first w _ _) hb1)
  have hz : w.heap.size < w1.heap.size := blk_lt HK.out
  clear hb1
  have hf0 := blk_frozen HK.out 0
  have hf1 := blk_frozen HK.out 1
  have hf2 := blk_frozen HK.out 2
  have hc0 : w1.cell? ⟨w.heap.size, 0, none⟩ = some (.int .i64 0) := (blk_cell HK.out 0).trans rfl
  have hc1 : w1.cell? ⟨w.heap.size, 1, none⟩ = some (.string ⟨#[]⟩) := (blk_cell HK.out 1).trans rfl
  have hc2 : w1.cell? ⟨w.heap.size, 2, none⟩ = some (.int .i64 0) := (blk_cell HK.out 2).trans rfl
  go_wp2
  exact ⟨rfl, rfl, below_alloc HB.out _⟩
set_option maxHeartbeats 1600000 in
set_option maxRecDepth 100000 in
theorem next_digit_ok (s : ByteArray) (hs : s.size ≤ 140737488355328) (a : Int) (w : World) (hp : 0 < s.size) (n : Nat) (hLW : LaidW w) (hsm : smallN s[0] = false) (hgr : greatN s[0] = false) (h35 : s[0] ≠ 35) (hdg : digitN s[0] = true) (hn : 1 + runN signB (s.data.toList.drop 1) = n) (hR : (readR (s.extract 0 n)).2.2.2 = 0) :
    Calls Tryd.prog 26 #[.string s, .int .i64 a] w fun e w' => NextR s a (some (3, n)) e ∧ Below w.heap.size w w' := by
  have HS := Aside0.mk (fun W => lex_small.calls (s[0].toNat : Int) (smallN s[0]) W (lex_small_eq s[0]))
  rw [hsm] at HS
  have HG := Aside0.mk (fun W => lex_great.calls (s[0].toNat : Int) (greatN s[0]) W (lex_great_eq s[0]))
  rw [hgr] at HG
  have hr2 := fun W => run_sign (s.extract 1 s.size) (by rw [ByteArray.size_extract]; omega) W
  rw [extract_rest] at hr2
  have hle : n ≤ s.size := by have := runN_le signB (s.data.toList.drop 1); rw [List.length_drop, data_length] at this; omega
  generalize runN signB (s.data.toList.drop 1) = m at hn hr2
  have hw : wrap64 (1 + (m : Int)) = (n : Int) := by unfold wrap64; omega
  have HR := Aside0.mk hr2
  have HLW := Aside0.mk hLW
  obtain ⟨q1, q2, q3, q4, hq⟩ : ∃ q1 q2 q3 q4, readR (s.extract 0 n) = (q1, q2, q3, q4) := ⟨_, _, _, _, rfl⟩
  rw [hq] at hR
  have HRD : Aside0 (value_Read.f (s.extract 0 n) = some (q1, q2, q3, q4)) := ⟨by unfold value_Read.f; rw [if_pos (by rw [ByteArray.size_extract]; omega), hq]⟩
  have HD := Aside0.mk (fun W => lex_digit.calls (s[0].toNat : Int) (digitN s[0]) W (lex_digit_eq s[0]))
  rw [hdg] at HD
  have e35 : ((s[0].toNat : Int) == 35) = false := by rw [show ((s[0].toNat : Int) == 35) = (s[0] == 35) from u8_eq_nat s[0] 35 (by omega)]; exact beq_eq_false_iff_ne.2 h35
  have eq4 : (q4 == 0) = true := beq_iff_eq.2 hR
  clear hR hq hn hr2 hLW hsm hgr hs h35 hdg
  go_enter Tryd.func26, Tryd.ntmps26
  go_wp2_with (first | (go_at_call 50; refine (HS.out _).mono ?_; rintro e w' ⟨rfl, ⟨nd1, rfl⟩⟩) | (go_at_call 28; refine (HG.out _).mono ?_; rintro e w' ⟨rfl, ⟨nd2, rfl⟩⟩) | (go_at_call 52; refine (HD.out _).mono ?_; rintro e w' ⟨rfl, ⟨nd3, rfl⟩⟩) | (go_at_call 29; refine (HR.out _).mono ?_; rintro e w' ⟨rfl, ⟨nd4, rfl⟩⟩))
  refine (value_Read.calls _ _ _ _ _ _ (by exact (HLW.out.alloc _).drewN _) HRD.out).mono ?_
  rintro e w1 ⟨rfl, hb1⟩
  have HB := Aside0.mk (below_step (below_first w _ _) hb1)
  have HK := Aside0.mk (blk_below (blk_first w _ _) hb1)
  have hz : w.heap.size < w1.heap.size := blk_lt HK.out
  clear hb1
  have hf0 := blk_frozen HK.out 0
  have hf1 := blk_frozen HK.out 1
  have hf2 := blk_frozen HK.out 2
  have hc0 : w1.cell? ⟨w.heap.size, 0, none⟩ = some (.int .i64 0) := (blk_cell HK.out 0).trans rfl
  have hc1 : w1.cell? ⟨w.heap.size, 1, none⟩ = some (.string ⟨#[]⟩) := (blk_cell HK.out 1).trans rfl
  have hc2 : w1.cell? ⟨w.heap.size, 2, none⟩ = some (.int .i64 0) := (blk_cell HK.out 2).trans rfl
  go_wp2
  exact next_retA HK.out HB.out 3 _ a rfl _
set_option maxHeartbeats 1600000 in
set_option maxRecDepth 100000 in
theorem next_digit_no (s : ByteArray) (hs : s.size ≤ 140737488355328) (a : Int) (w : World) (hp : 0 < s.size) (n : Nat) (hLW : LaidW w) (hsm : smallN s[0] = false) (hgr : greatN s[0] = false) (h35 : s[0] ≠ 35) (hdg : digitN s[0] = true) (hn : 1 + runN signB (s.data.toList.drop 1) = n) (hR : (readR (s.extract 0 n)).2.2.2 ≠ 0) :
    Calls Tryd.prog 26 #[.string s, .int .i64 a] w fun e w' => NextR s a (none) e ∧ Below w.heap.size w w' := by
  have HS := Aside0.mk (fun W => lex_small.calls (s[0].toNat : Int) (smallN s[0]) W (lex_small_eq s[0]))
  rw [hsm] at HS
  have HG := Aside0.mk (fun W => lex_great.calls (s[0].toNat : Int) (greatN s[0]) W (lex_great_eq s[0]))
  rw [hgr] at HG
  have hr2 := fun W => run_sign (s.extract 1 s.size) (by rw [ByteArray.size_extract]; omega) W
  rw [extract_rest] at hr2
  have hle : n ≤ s.size := by have := runN_le signB (s.data.toList.drop 1); rw [List.length_drop, data_length] at this; omega
  generalize runN signB (s.data.toList.drop 1) = m at hn hr2
  have hw : wrap64 (1 + (m : Int)) = (n : Int) := by unfold wrap64; omega
  have HR := Aside0.mk hr2
  have HLW := Aside0.mk hLW
  obtain ⟨q1, q2, q3, q4, hq⟩ : ∃ q1 q2 q3 q4, readR (s.extract 0 n) = (q1, q2, q3, q4) := ⟨_, _, _, _, rfl⟩
  rw [hq] at hR
  have HRD : Aside0 (value_Read.f (s.extract 0 n) = some (q1, q2, q3, q4)) := ⟨by unfold value_Read.f; rw [if_pos (by rw [ByteArray.size_extract]; omega), hq]⟩
  have HD := Aside0.mk (fun W => lex_digit.calls (s[0].toNat : Int) (digitN s[0]) W (lex_digit_eq s[0]))
  rw [hdg] at HD
  have e35 : ((s[0].toNat : Int) == 35) = false := by rw [show ((s[0].toNat : Int) == 35) = (s[0] == 35) from u8_eq_nat s[0] 35 (by omega)]; exact beq_eq_false_iff_ne.2 h35
  have eq4 : (q4 == 0) = false := beq_eq_false_iff_ne.2 hR
  clear hR hq hn hr2 hLW hsm hgr hs h35 hdg
  go_enter Tryd.func26, Tryd.ntmps26
  go_wp2_with (first | (go_at_call 50; refine (HS.out _).mono ?_; rintro e w' ⟨rfl, ⟨nd1, rfl⟩⟩) | (go_at_call 28; refine (HG.out _).mono ?_; rintro e w' ⟨rfl, ⟨nd2, rfl⟩⟩) | (go_at_call 52; refine (HD.out _).mono ?_; rintro e w' ⟨rfl, ⟨nd3, rfl⟩⟩) | (go_at_call 29; refine (HR.out _).mono ?_; rintro e w' ⟨rfl, ⟨nd4, rfl⟩⟩))
  refine (value_Read.calls _ _ _ _ _ _ (by exact (HLW.out.alloc _).drewN _) HRD.out).mono ?_
  rintro e w1 ⟨rfl, hb1⟩
  have HB := Aside0.mk (below_step (below_first w _ _) hb1)
  have HK := Aside0.mk (blk_below (blk_first w _ _) hb1)
  have hz : w.heap.size < w1.heap.size := blk_lt HK.out
  clear hb1
  have hf0 := blk_frozen HK.out 0
  have hf1 := blk_frozen HK.out 1
  have hf2 := blk_frozen HK.out 2
  have hc0 : w1.cell? ⟨w.heap.size, 0, none⟩ = some (.int .i64 0) := (blk_cell HK.out 0).trans rfl
  have hc1 : w1.cell? ⟨w.heap.size, 1, none⟩ = some (.string ⟨#[]⟩) := (blk_cell HK.out 1).trans rfl
  have hc2 : w1.cell? ⟨w.heap.size, 2, none⟩ = some (.int .i64 0) := (blk_cell HK.out 2).trans rfl
  go_wp2
  exact ⟨rfl, rfl, below_alloc HB.out _⟩
set_option maxHeartbeats 1600000 in
set_option maxRecDepth 100000 in
theorem next_minus_ok (s : ByteArray) (hs : s.size ≤ 140737488355328) (a : Int) (w : World) (hp : 0 < s.size) (n : Nat) (hLW : LaidW w) (hsm : smallN s[0] = false) (hgr : greatN s[0] = false) (h45 : s[0] = 45) (h1 : 1 < s.size) (hd1 : digitN s[1] = true) (hn : 1 + runN signB (s.data.toList.drop 1) = n) (hR : (readR (s.extract 0 n)).2.2.2 = 0) :
    Calls Tryd.prog 26 #[.string s, .int .i64 a] w fun e w' => NextR s a (some (3, n)) e ∧ Below w.heap.size w w' := by
  have HS := Aside0.mk (fun W => lex_small.calls (s[0].toNat : Int) (smallN s[0]) W (lex_small_eq s[0]))
  rw [hsm] at HS
  have HG := Aside0.mk (fun W => lex_great.calls (s[0].toNat : Int) (greatN s[0]) W (lex_great_eq s[0]))
  rw [hgr] at HG
  have hr2 := fun W => run_sign (s.extract 1 s.size) (by rw [ByteArray.size_extract]; omega) W
  rw [extract_rest] at hr2
  have hle : n ≤ s.size := by have := runN_le signB (s.data.toList.drop 1); rw [List.length_drop, data_length] at this; omega
  generalize runN signB (s.data.toList.drop 1) = m at hn hr2
  have hw : wrap64 (1 + (m : Int)) = (n : Int) := by unfold wrap64; omega
  have HR := Aside0.mk hr2
  have HLW := Aside0.mk hLW
  obtain ⟨q1, q2, q3, q4, hq⟩ : ∃ q1 q2 q3 q4, readR (s.extract 0 n) = (q1, q2, q3, q4) := ⟨_, _, _, _, rfl⟩
  rw [hq] at hR
  have HRD : Aside0 (value_Read.f (s.extract 0 n) = some (q1, q2, q3, q4)) := ⟨by unfold value_Read.f; rw [if_pos (by rw [ByteArray.size_extract]; omega), hq]⟩
  have HD := Aside0.mk (fun W => lex_digit.calls (s[0].toNat : Int) (digitN s[0]) W (lex_digit_eq s[0]))
  rw [show digitN s[0] = false by rw [h45]; rfl] at HD
  have HD1 := Aside0.mk (fun W => lex_digit.calls (s[1].toNat : Int) (digitN s[1]) W (lex_digit_eq s[1]))
  rw [hd1] at HD1
  have e35 : ((s[0].toNat : Int) == 35) = false := by rw [h45]; rfl
  have e45 : ((s[0].toNat : Int) == 45) = true := by rw [h45]; rfl
  have el : decide ((1 : Int) < (s.size : Int)) = true := decide_eq_true (by omega)
  have eq4 : (q4 == 0) = true := beq_iff_eq.2 hR
  clear hR hq hn hr2 hLW hsm hgr hs h45 hd1
  go_enter Tryd.func26, Tryd.ntmps26
  go_wp2_with (first | (go_at_call 50; refine (HS.out _).mono ?_; rintro e w' ⟨rfl, ⟨nd1, rfl⟩⟩) | (go_at_call 28; refine (HG.out _).mono ?_; rintro e w' ⟨rfl, ⟨nd2, rfl⟩⟩) | (go_at_call 52; (with_reducible refine (HD.out _).mono ?_); rintro e w' ⟨rfl, ⟨nd3, rfl⟩⟩) | (go_at_call 52; (with_reducible refine (HD1.out _).mono ?_); rintro e w' ⟨rfl, ⟨nd7, rfl⟩⟩) | (go_at_call 29; refine (HR.out _).mono ?_; rintro e w' ⟨rfl, ⟨nd4, rfl⟩⟩))
  refine (value_Read.calls _ _ _ _ _ _ (by exact (HLW.out.alloc _).drewN _) HRD.out).mono ?_
  rintro e w1 ⟨rfl, hb1⟩
  have HB := Aside0.mk (below_step (below_first w _ _) hb1)
  have HK := Aside0.mk (blk_below (blk_first w _ _) hb1)
  have hz : w.heap.size < w1.heap.size := blk_lt HK.out
  clear hb1
  have hf0 := blk_frozen HK.out 0
  have hf1 := blk_frozen HK.out 1
  have hf2 := blk_frozen HK.out 2
  have hc0 : w1.cell? ⟨w.heap.size, 0, none⟩ = some (.int .i64 0) := (blk_cell HK.out 0).trans rfl
  have hc1 : w1.cell? ⟨w.heap.size, 1, none⟩ = some (.string ⟨#[]⟩) := (blk_cell HK.out 1).trans rfl
  have hc2 : w1.cell? ⟨w.heap.size, 2, none⟩ = some (.int .i64 0) := (blk_cell HK.out 2).trans rfl
  go_wp2
  exact next_retA HK.out HB.out 3 _ a rfl _
set_option maxHeartbeats 1600000 in
set_option maxRecDepth 100000 in
theorem next_minus_no (s : ByteArray) (hs : s.size ≤ 140737488355328) (a : Int) (w : World) (hp : 0 < s.size) (n : Nat) (hLW : LaidW w) (hsm : smallN s[0] = false) (hgr : greatN s[0] = false) (h45 : s[0] = 45) (h1 : 1 < s.size) (hd1 : digitN s[1] = true) (hn : 1 + runN signB (s.data.toList.drop 1) = n) (hR : (readR (s.extract 0 n)).2.2.2 ≠ 0) :
    Calls Tryd.prog 26 #[.string s, .int .i64 a] w fun e w' => NextR s a (none) e ∧ Below w.heap.size w w' := by
  have HS := Aside0.mk (fun W => lex_small.calls (s[0].toNat : Int) (smallN s[0]) W (lex_small_eq s[0]))
  rw [hsm] at HS
  have HG := Aside0.mk (fun W => lex_great.calls (s[0].toNat : Int) (greatN s[0]) W (lex_great_eq s[0]))
  rw [hgr] at HG
  have hr2 := fun W => run_sign (s.extract 1 s.size) (by rw [ByteArray.size_extract]; omega) W
  rw [extract_rest] at hr2
  have hle : n ≤ s.size := by have := runN_le signB (s.data.toList.drop 1); rw [List.length_drop, data_length] at this; omega
  generalize runN signB (s.data.toList.drop 1) = m at hn hr2
  have hw : wrap64 (1 + (m : Int)) = (n : Int) := by unfold wrap64; omega
  have HR := Aside0.mk hr2
  have HLW := Aside0.mk hLW
  obtain ⟨q1, q2, q3, q4, hq⟩ : ∃ q1 q2 q3 q4, readR (s.extract 0 n) = (q1, q2, q3, q4) := ⟨_, _, _, _, rfl⟩
  rw [hq] at hR
  have HRD : Aside0 (value_Read.f (s.extract 0 n) = some (q1, q2, q3, q4)) := ⟨by unfold value_Read.f; rw [if_pos (by rw [ByteArray.size_extract]; omega), hq]⟩
  have HD := Aside0.mk (fun W => lex_digit.calls (s[0].toNat : Int) (digitN s[0]) W (lex_digit_eq s[0]))
  rw [show digitN s[0] = false by rw [h45]; rfl] at HD
  have HD1 := Aside0.mk (fun W => lex_digit.calls (s[1].toNat : Int) (digitN s[1]) W (lex_digit_eq s[1]))
  rw [hd1] at HD1
  have e35 : ((s[0].toNat : Int) == 35) = false := by rw [h45]; rfl
  have e45 : ((s[0].toNat : Int) == 45) = true := by rw [h45]; rfl
  have el : decide ((1 : Int) < (s.size : Int)) = true := decide_eq_true (by omega)
  have eq4 : (q4 == 0) = false := beq_eq_false_iff_ne.2 hR
  clear hR hq hn hr2 hLW hsm hgr hs h45 hd1
  go_enter Tryd.func26, Tryd.ntmps26
  go_wp2_with (first | (go_at_call 50; refine (HS.out _).mono ?_; rintro e w' ⟨rfl, ⟨nd1, rfl⟩⟩) | (go_at_call 28; refine (HG.out _).mono ?_; rintro e w' ⟨rfl, ⟨nd2, rfl⟩⟩) | (go_at_call 52; (with_reducible refine (HD.out _).mono ?_); rintro e w' ⟨rfl, ⟨nd3, rfl⟩⟩) | (go_at_call 52; (with_reducible refine (HD1.out _).mono ?_); rintro e w' ⟨rfl, ⟨nd7, rfl⟩⟩) | (go_at_call 29; refine (HR.out _).mono ?_; rintro e w' ⟨rfl, ⟨nd4, rfl⟩⟩))
  refine (value_Read.calls _ _ _ _ _ _ (by exact (HLW.out.alloc _).drewN _) HRD.out).mono ?_
  rintro e w1 ⟨rfl, hb1⟩
  have HB := Aside0.mk (below_step (below_first w _ _) hb1)
  have HK := Aside0.mk (blk_below (blk_first w _ _) hb1)
  have hz : w.heap.size < w1.heap.size := blk_lt HK.out
  clear hb1
  have hf0 := blk_frozen HK.out 0
  have hf1 := blk_frozen HK.out 1
  have hf2 := blk_frozen HK.out 2
  have hc0 : w1.cell? ⟨w.heap.size, 0, none⟩ = some (.int .i64 0) := (blk_cell HK.out 0).trans rfl
  have hc1 : w1.cell? ⟨w.heap.size, 1, none⟩ = some (.string ⟨#[]⟩) := (blk_cell HK.out 1).trans rfl
  have hc2 : w1.cell? ⟨w.heap.size, 2, none⟩ = some (.int .i64 0) := (blk_cell HK.out 2).trans rfl
  go_wp2
  exact ⟨rfl, rfl, below_alloc HB.out _⟩
set_option maxHeartbeats 1600000 in
set_option maxRecDepth 100000 in
theorem next_plain_0 (s : ByteArray) (hs : s.size ≤ 140737488355328) (a : Int) (w : World) (hp : 0 < s.size) (hsm : smallN s[0] = false) (hgr : greatN s[0] = false) (h35 : s[0] ≠ 35) (hdg : digitN s[0] = false) (h45 : s[0] ≠ 45) (p0 : (s.data.toList.take 2 == [60, 61]) = true) :
    Calls Tryd.prog 26 #[.string s, .int .i64 a] w fun e w' => NextR s a (some (4, 2)) e ∧ Below w.heap.size w w' := by
  have HS := Aside0.mk (fun W => lex_small.calls (s[0].toNat : Int) (smallN s[0]) W (lex_small_eq s[0]))
  rw [hsm] at HS
  have HG := Aside0.mk (fun W => lex_great.calls (s[0].toNat : Int) (greatN s[0]) W (lex_great_eq s[0]))
  rw [hgr] at HG
  have HD := Aside0.mk (fun W => lex_digit.calls (s[0].toNat : Int) (digitN s[0]) W (lex_digit_eq s[0]))
  rw [hdg] at HD
  have e35 : ((s[0].toNat : Int) == 35) = false := by rw [show ((s[0].toNat : Int) == 35) = (s[0] == 35) from u8_eq_nat s[0] 35 (by omega)]; exact beq_eq_false_iff_ne.2 h35
  have e45 : ((s[0].toNat : Int) == 45) = false := by rw [show ((s[0].toNat : Int) == 45) = (s[0] == 45) from u8_eq_nat s[0] 45 (by omega)]; exact beq_eq_false_iff_ne.2 h45
  have HP0 := Aside0.mk (fun W => strings_HasPrefix.calls s ⟨#[60, 61]⟩ _ W (prefix_two s _ _ p0))
  have h2 : (2 : Nat) ≤ s.size := take_two (beq_iff_eq.1 p0) rfl
  clear hsm hgr hs h35 hdg h45 p0
  go_enter Tryd.func26, Tryd.ntmps26
  go_wp2_with (first | (go_at_call 50; refine (HS.out _).mono ?_; rintro e w' ⟨rfl, ⟨nd1, rfl⟩⟩) | (go_at_call 28; refine (HG.out _).mono ?_; rintro e w' ⟨rfl, ⟨nd2, rfl⟩⟩) | (go_at_call 52; refine (HD.out _).mono ?_; rintro e w' ⟨rfl, ⟨nd3, rfl⟩⟩) | (go_at_call 53; (with_reducible refine (HP0.out _).mono ?_); rintro e w' ⟨rfl, ⟨np0, rfl⟩⟩))
  exact next_ret (blk_first w _ _) (below_first w _ _) 4 _ a (by rfl)
set_option maxHeartbeats 1600000 in
set_option maxRecDepth 100000 in
theorem next_plain_1 (s : ByteArray) (hs : s.size ≤ 140737488355328) (a : Int) (w : World) (hp : 0 < s.size) (hsm : smallN s[0] = false) (hgr : greatN s[0] = false) (h35 : s[0] ≠ 35) (hdg : digitN s[0] = false) (h45 : s[0] ≠ 45) (p0 : (s.data.toList.take 2 == [60, 61]) = false) (p1 : (s.data.toList.take 2 == [33, 61]) = true) :
    Calls Tryd.prog 26 #[.string s, .int .i64 a] w fun e w' => NextR s a (some (4, 2)) e ∧ Below w.heap.size w w' := by
  have HS := Aside0.mk (fun W => lex_small.calls (s[0].toNat : Int) (smallN s[0]) W (lex_small_eq s[0]))
  rw [hsm] at HS
  have HG := Aside0.mk (fun W => lex_great.calls (s[0].toNat : Int) (greatN s[0]) W (lex_great_eq s[0]))
  rw [hgr] at HG
  have HD := Aside0.mk (fun W => lex_digit.calls (s[0].toNat : Int) (digitN s[0]) W (lex_digit_eq s[0]))
  rw [hdg] at HD
  have e35 : ((s[0].toNat : Int) == 35) = false := by rw [show ((s[0].toNat : Int) == 35) = (s[0] == 35) from u8_eq_nat s[0] 35 (by omega)]; exact beq_eq_false_iff_ne.2 h35
  have e45 : ((s[0].toNat : Int) == 45) = false := by rw [show ((s[0].toNat : Int) == 45) = (s[0] == 45) from u8_eq_nat s[0] 45 (by omega)]; exact beq_eq_false_iff_ne.2 h45
  have HP0 := Aside0.mk (fun W => strings_HasPrefix.calls s ⟨#[60, 61]⟩ _ W (prefix_two s _ _ p0))
  have HP1 := Aside0.mk (fun W => strings_HasPrefix.calls s ⟨#[33, 61]⟩ _ W (prefix_two s _ _ p1))
  have h2 : (2 : Nat) ≤ s.size := take_two (beq_iff_eq.1 p1) rfl
  clear hsm hgr hs h35 hdg h45 p0 p1
  go_enter Tryd.func26, Tryd.ntmps26
  go_wp2_with (first | (go_at_call 50; refine (HS.out _).mono ?_; rintro e w' ⟨rfl, ⟨nd1, rfl⟩⟩) | (go_at_call 28; refine (HG.out _).mono ?_; rintro e w' ⟨rfl, ⟨nd2, rfl⟩⟩) | (go_at_call 52; refine (HD.out _).mono ?_; rintro e w' ⟨rfl, ⟨nd3, rfl⟩⟩) | (go_at_call 53; (with_reducible refine (HP0.out _).mono ?_); rintro e w' ⟨rfl, ⟨np0, rfl⟩⟩) | (go_at_call 53; (with_reducible refine (HP1.out _).mono ?_); rintro e w' ⟨rfl, ⟨np1, rfl⟩⟩))
  exact next_ret (blk_first w _ _) (below_first w _ _) 4 _ a (by rfl)
set_option maxHeartbeats 1600000 in
set_option maxRecDepth 100000 in
theorem next_plain_2 (s : ByteArray) (hs : s.size ≤ 140737488355328) (a : Int) (w : World) (hp : 0 < s.size) (hsm : smallN s[0] = false) (hgr : greatN s[0] = false) (h35 : s[0] ≠ 35) (hdg : digitN s[0] = false) (h45 : s[0] ≠ 45) (p0 : (s.data.toList.take 2 == [60, 61]) = false) (p1 : (s.data.toList.take 2 == [33, 61]) = false) (p2 : (s.data.toList.take 2 == [58, 45]) = true) :
    Calls Tryd.prog 26 #[.string s, .int .i64 a] w fun e w' => NextR s a (some (4, 2)) e ∧ Below w.heap.size w w' := by
  have HS := Aside0.mk (fun W => lex_small.calls (s[0].toNat : Int) (smallN s[0]) W (lex_small_eq s[0]))
  rw [hsm] at HS
  have HG := Aside0.mk (fun W => lex_great.calls (s[0].toNat : Int) (greatN s[0]) W (lex_great_eq s[0]))
  rw [hgr] at HG
  have HD := Aside0.mk (fun W => lex_digit.calls (s[0].toNat : Int) (digitN s[0]) W (lex_digit_eq s[0]))
  rw [hdg] at HD
  have e35 : ((s[0].toNat : Int) == 35) = false := by rw [show ((s[0].toNat : Int) == 35) = (s[0] == 35) from u8_eq_nat s[0] 35 (by omega)]; exact beq_eq_false_iff_ne.2 h35
  have e45 : ((s[0].toNat : Int) == 45) = false := by rw [show ((s[0].toNat : Int) == 45) = (s[0] == 45) from u8_eq_nat s[0] 45 (by omega)]; exact beq_eq_false_iff_ne.2 h45
  have HP0 := Aside0.mk (fun W => strings_HasPrefix.calls s ⟨#[60, 61]⟩ _ W (prefix_two s _ _ p0))
  have HP1 := Aside0.mk (fun W => strings_HasPrefix.calls s ⟨#[33, 61]⟩ _ W (prefix_two s _ _ p1))
  have HP2 := Aside0.mk (fun W => strings_HasPrefix.calls s ⟨#[58, 45]⟩ _ W (prefix_two s _ _ p2))
  have h2 : (2 : Nat) ≤ s.size := take_two (beq_iff_eq.1 p2) rfl
  clear hsm hgr hs h35 hdg h45 p0 p1 p2
  go_enter Tryd.func26, Tryd.ntmps26
  go_wp2_with (first | (go_at_call 50; refine (HS.out _).mono ?_; rintro e w' ⟨rfl, ⟨nd1, rfl⟩⟩) | (go_at_call 28; refine (HG.out _).mono ?_; rintro e w' ⟨rfl, ⟨nd2, rfl⟩⟩) | (go_at_call 52; refine (HD.out _).mono ?_; rintro e w' ⟨rfl, ⟨nd3, rfl⟩⟩) | (go_at_call 53; (with_reducible refine (HP0.out _).mono ?_); rintro e w' ⟨rfl, ⟨np0, rfl⟩⟩) | (go_at_call 53; (with_reducible refine (HP1.out _).mono ?_); rintro e w' ⟨rfl, ⟨np1, rfl⟩⟩) | (go_at_call 53; (with_reducible refine (HP2.out _).mono ?_); rintro e w' ⟨rfl, ⟨np2, rfl⟩⟩))
  exact next_ret (blk_first w _ _) (below_first w _ _) 4 _ a (by rfl)
set_option maxHeartbeats 1600000 in
set_option maxRecDepth 100000 in
theorem next_plain_3 (s : ByteArray) (hs : s.size ≤ 140737488355328) (a : Int) (w : World) (hp : 0 < s.size) (hsm : smallN s[0] = false) (hgr : greatN s[0] = false) (h35 : s[0] ≠ 35) (hdg : digitN s[0] = false) (h45 : s[0] ≠ 45) (p0 : (s.data.toList.take 2 == [60, 61]) = false) (p1 : (s.data.toList.take 2 == [33, 61]) = false) (p2 : (s.data.toList.take 2 == [58, 45]) = false) (p3 : (s.data.toList.take 2 == [63, 45]) = true) :
    Calls Tryd.prog 26 #[.string s, .int .i64 a] w fun e w' => NextR s a (some (4, 2)) e ∧ Below w.heap.size w w' := by
  have HS := Aside0.mk (fun W => lex_small.calls (s[0].toNat : Int) (smallN s[0]) W (lex_small_eq s[0]))
  rw [hsm] at HS
  have HG := Aside0.mk (fun W => lex_great.calls (s[0].toNat : Int) (greatN s[0]) W (lex_great_eq s[0]))
  rw [hgr] at HG
  have HD := Aside0.mk (fun W => lex_digit.calls (s[0].toNat : Int) (digitN s[0]) W (lex_digit_eq s[0]))
  rw [hdg] at HD
  have e35 : ((s[0].toNat : Int) == 35) = false := by rw [show ((s[0].toNat : Int) == 35) = (s[0] == 35) from u8_eq_nat s[0] 35 (by omega)]; exact beq_eq_false_iff_ne.2 h35
  have e45 : ((s[0].toNat : Int) == 45) = false := by rw [show ((s[0].toNat : Int) == 45) = (s[0] == 45) from u8_eq_nat s[0] 45 (by omega)]; exact beq_eq_false_iff_ne.2 h45
  have HP0 := Aside0.mk (fun W => strings_HasPrefix.calls s ⟨#[60, 61]⟩ _ W (prefix_two s _ _ p0))
  have HP1 := Aside0.mk (fun W => strings_HasPrefix.calls s ⟨#[33, 61]⟩ _ W (prefix_two s _ _ p1))
  have HP2 := Aside0.mk (fun W => strings_HasPrefix.calls s ⟨#[58, 45]⟩ _ W (prefix_two s _ _ p2))
  have HP3 := Aside0.mk (fun W => strings_HasPrefix.calls s ⟨#[63, 45]⟩ _ W (prefix_two s _ _ p3))
  have h2 : (2 : Nat) ≤ s.size := take_two (beq_iff_eq.1 p3) rfl
  clear hsm hgr hs h35 hdg h45 p0 p1 p2 p3
  go_enter Tryd.func26, Tryd.ntmps26
  go_wp2_with (first | (go_at_call 50; refine (HS.out _).mono ?_; rintro e w' ⟨rfl, ⟨nd1, rfl⟩⟩) | (go_at_call 28; refine (HG.out _).mono ?_; rintro e w' ⟨rfl, ⟨nd2, rfl⟩⟩) | (go_at_call 52; refine (HD.out _).mono ?_; rintro e w' ⟨rfl, ⟨nd3, rfl⟩⟩) | (go_at_call 53; (with_reducible refine (HP0.out _).mono ?_); rintro e w' ⟨rfl, ⟨np0, rfl⟩⟩) | (go_at_call 53; (with_reducible refine (HP1.out _).mono ?_); rintro e w' ⟨rfl, ⟨np1, rfl⟩⟩) | (go_at_call 53; (with_reducible refine (HP2.out _).mono ?_); rintro e w' ⟨rfl, ⟨np2, rfl⟩⟩) | (go_at_call 53; (with_reducible refine (HP3.out _).mono ?_); rintro e w' ⟨rfl, ⟨np3, rfl⟩⟩))
  exact next_ret (blk_first w _ _) (below_first w _ _) 4 _ a (by rfl)
set_option maxHeartbeats 1600000 in
set_option maxRecDepth 100000 in
theorem next_plain_4 (s : ByteArray) (hs : s.size ≤ 140737488355328) (a : Int) (w : World) (hp : 0 < s.size) (hsm : smallN s[0] = false) (hgr : greatN s[0] = false) (h35 : s[0] ≠ 35) (hdg : digitN s[0] = false) (h45 : s[0] ≠ 45) (p0 : (s.data.toList.take 2 == [60, 61]) = false) (p1 : (s.data.toList.take 2 == [33, 61]) = false) (p2 : (s.data.toList.take 2 == [58, 45]) = false) (p3 : (s.data.toList.take 2 == [63, 45]) = false) (hone : oneB s[0] = true) :
    Calls Tryd.prog 26 #[.string s, .int .i64 a] w fun e w' => NextR s a (some (4, 1)) e ∧ Below w.heap.size w w' := by
  have HS := Aside0.mk (fun W => lex_small.calls (s[0].toNat : Int) (smallN s[0]) W (lex_small_eq s[0]))
  rw [hsm] at HS
  have HG := Aside0.mk (fun W => lex_great.calls (s[0].toNat : Int) (greatN s[0]) W (lex_great_eq s[0]))
  rw [hgr] at HG
  have HD := Aside0.mk (fun W => lex_digit.calls (s[0].toNat : Int) (digitN s[0]) W (lex_digit_eq s[0]))
  rw [hdg] at HD
  have e35 : ((s[0].toNat : Int) == 35) = false := by rw [show ((s[0].toNat : Int) == 35) = (s[0] == 35) from u8_eq_nat s[0] 35 (by omega)]; exact beq_eq_false_iff_ne.2 h35
  have e45 : ((s[0].toNat : Int) == 45) = false := by rw [show ((s[0].toNat : Int) == 45) = (s[0] == 45) from u8_eq_nat s[0] 45 (by omega)]; exact beq_eq_false_iff_ne.2 h45
  have HP0 := Aside0.mk (fun W => strings_HasPrefix.calls s ⟨#[60, 61]⟩ _ W (prefix_two s _ _ p0))
  have HP1 := Aside0.mk (fun W => strings_HasPrefix.calls s ⟨#[33, 61]⟩ _ W (prefix_two s _ _ p1))
  have HP2 := Aside0.mk (fun W => strings_HasPrefix.calls s ⟨#[58, 45]⟩ _ W (prefix_two s _ _ p2))
  have HP3 := Aside0.mk (fun W => strings_HasPrefix.calls s ⟨#[63, 45]⟩ _ W (prefix_two s _ _ p3))
  have HI := Aside0.mk (fun W => Tryd.strings_IndexByte ⟨#[40, 41, 44, 46, 60, 61, 47, 124, 42, 43, 63, 94]⟩ (s[0].toNat : Int) W)
  have ei : decide ((0 : Int) ≤ Lib.indexByte (⟨#[40, 41, 44, 46, 60, 61, 47, 124, 42, 43, 63, 94]⟩ : ByteArray).data.toList ((s[0].toNat : Int)).toNat.toUInt8) = true := (one_index s[0]).trans hone
  generalize Lib.indexByte (⟨#[40, 41, 44, 46, 60, 61, 47, 124, 42, 43, 63, 94]⟩ : ByteArray).data.toList ((s[0].toNat : Int)).toNat.toUInt8 = ix at HI ei
  clear hsm hgr hs h35 hdg h45 p0 p1 p2 p3 hone
  go_enter Tryd.func26, Tryd.ntmps26
  go_wp2_with (first | (go_at_call 50; refine (HS.out _).mono ?_; rintro e w' ⟨rfl, ⟨nd1, rfl⟩⟩) | (go_at_call 28; refine (HG.out _).mono ?_; rintro e w' ⟨rfl, ⟨nd2, rfl⟩⟩) | (go_at_call 52; refine (HD.out _).mono ?_; rintro e w' ⟨rfl, ⟨nd3, rfl⟩⟩) | (go_at_call 53; (with_reducible refine (HP0.out _).mono ?_); rintro e w' ⟨rfl, ⟨np0, rfl⟩⟩) | (go_at_call 53; (with_reducible refine (HP1.out _).mono ?_); rintro e w' ⟨rfl, ⟨np1, rfl⟩⟩) | (go_at_call 53; (with_reducible refine (HP2.out _).mono ?_); rintro e w' ⟨rfl, ⟨np2, rfl⟩⟩) | (go_at_call 53; (with_reducible refine (HP3.out _).mono ?_); rintro e w' ⟨rfl, ⟨np3, rfl⟩⟩) | (go_at_call 25; refine (HI.out _).mono ?_; rintro e w' ⟨rfl, rfl⟩))
  exact next_ret (blk_first w _ _) (below_first w _ _) 4 _ a (by rfl)
set_option maxHeartbeats 1600000 in
set_option maxRecDepth 100000 in
theorem next_plain_5 (s : ByteArray) (hs : s.size ≤ 140737488355328) (a : Int) (w : World) (hp : 0 < s.size) (hsm : smallN s[0] = false) (hgr : greatN s[0] = false) (h35 : s[0] ≠ 35) (hdg : digitN s[0] = false) (h45 : s[0] ≠ 45) (p0 : (s.data.toList.take 2 == [60, 61]) = false) (p1 : (s.data.toList.take 2 == [33, 61]) = false) (p2 : (s.data.toList.take 2 == [58, 45]) = false) (p3 : (s.data.toList.take 2 == [63, 45]) = false) (hone : oneB s[0] = false) :
    Calls Tryd.prog 26 #[.string s, .int .i64 a] w fun e w' => NextR s a (none) e ∧ Below w.heap.size w w' := by
  have HS := Aside0.mk (fun W => lex_small.calls (s[0].toNat : Int) (smallN s[0]) W (lex_small_eq s[0]))
  rw [hsm] at HS
  have HG := Aside0.mk (fun W => lex_great.calls (s[0].toNat : Int) (greatN s[0]) W (lex_great_eq s[0]))
  rw [hgr] at HG
  have HD := Aside0.mk (fun W => lex_digit.calls (s[0].toNat : Int) (digitN s[0]) W (lex_digit_eq s[0]))
  rw [hdg] at HD
  have e35 : ((s[0].toNat : Int) == 35) = false := by rw [show ((s[0].toNat : Int) == 35) = (s[0] == 35) from u8_eq_nat s[0] 35 (by omega)]; exact beq_eq_false_iff_ne.2 h35
  have e45 : ((s[0].toNat : Int) == 45) = false := by rw [show ((s[0].toNat : Int) == 45) = (s[0] == 45) from u8_eq_nat s[0] 45 (by omega)]; exact beq_eq_false_iff_ne.2 h45
  have HP0 := Aside0.mk (fun W => strings_HasPrefix.calls s ⟨#[60, 61]⟩ _ W (prefix_two s _ _ p0))
  have HP1 := Aside0.mk (fun W => strings_HasPrefix.calls s ⟨#[33, 61]⟩ _ W (prefix_two s _ _ p1))
  have HP2 := Aside0.mk (fun W => strings_HasPrefix.calls s ⟨#[58, 45]⟩ _ W (prefix_two s _ _ p2))
  have HP3 := Aside0.mk (fun W => strings_HasPrefix.calls s ⟨#[63, 45]⟩ _ W (prefix_two s _ _ p3))
  have HI := Aside0.mk (fun W => Tryd.strings_IndexByte ⟨#[40, 41, 44, 46, 60, 61, 47, 124, 42, 43, 63, 94]⟩ (s[0].toNat : Int) W)
  have ei : decide ((0 : Int) ≤ Lib.indexByte (⟨#[40, 41, 44, 46, 60, 61, 47, 124, 42, 43, 63, 94]⟩ : ByteArray).data.toList ((s[0].toNat : Int)).toNat.toUInt8) = false := (one_index s[0]).trans hone
  generalize Lib.indexByte (⟨#[40, 41, 44, 46, 60, 61, 47, 124, 42, 43, 63, 94]⟩ : ByteArray).data.toList ((s[0].toNat : Int)).toNat.toUInt8 = ix at HI ei
  clear hsm hgr hs h35 hdg h45 p0 p1 p2 p3 hone
  go_enter Tryd.func26, Tryd.ntmps26
  go_wp2_with (first | (go_at_call 50; refine (HS.out _).mono ?_; rintro e w' ⟨rfl, ⟨nd1, rfl⟩⟩) | (go_at_call 28; refine (HG.out _).mono ?_; rintro e w' ⟨rfl, ⟨nd2, rfl⟩⟩) | (go_at_call 52; refine (HD.out _).mono ?_; rintro e w' ⟨rfl, ⟨nd3, rfl⟩⟩) | (go_at_call 53; (with_reducible refine (HP0.out _).mono ?_); rintro e w' ⟨rfl, ⟨np0, rfl⟩⟩) | (go_at_call 53; (with_reducible refine (HP1.out _).mono ?_); rintro e w' ⟨rfl, ⟨np1, rfl⟩⟩) | (go_at_call 53; (with_reducible refine (HP2.out _).mono ?_); rintro e w' ⟨rfl, ⟨np2, rfl⟩⟩) | (go_at_call 53; (with_reducible refine (HP3.out _).mono ?_); rintro e w' ⟨rfl, ⟨np3, rfl⟩⟩) | (go_at_call 25; refine (HI.out _).mono ?_; rintro e w' ⟨rfl, rfl⟩))
  exact ⟨rfl, rfl, below_first w _ _⟩
set_option maxHeartbeats 1600000 in
set_option maxRecDepth 100000 in
theorem next_short_4 (s : ByteArray) (hs : s.size ≤ 140737488355328) (a : Int) (w : World) (hp : 0 < s.size) (hsm : smallN s[0] = false) (hgr : greatN s[0] = false) (h35 : s[0] ≠ 35) (hdg : digitN s[0] = false) (h45 : s[0] = 45) (h1 : s.size ≤ 1) (p0 : (s.data.toList.take 2 == [60, 61]) = false) (p1 : (s.data.toList.take 2 == [33, 61]) = false) (p2 : (s.data.toList.take 2 == [58, 45]) = false) (p3 : (s.data.toList.take 2 == [63, 45]) = false) (hone : oneB s[0] = true) :
    Calls Tryd.prog 26 #[.string s, .int .i64 a] w fun e w' => NextR s a (some (4, 1)) e ∧ Below w.heap.size w w' := by
  have HS := Aside0.mk (fun W => lex_small.calls (s[0].toNat : Int) (smallN s[0]) W (lex_small_eq s[0]))
  rw [hsm] at HS
  have HG := Aside0.mk (fun W => lex_great.calls (s[0].toNat : Int) (greatN s[0]) W (lex_great_eq s[0]))
  rw [hgr] at HG
  have HD := Aside0.mk (fun W => lex_digit.calls (s[0].toNat : Int) (digitN s[0]) W (lex_digit_eq s[0]))
  rw [hdg] at HD
  have e35 : ((s[0].toNat : Int) == 35) = false := by rw [show ((s[0].toNat : Int) == 35) = (s[0] == 35) from u8_eq_nat s[0] 35 (by omega)]; exact beq_eq_false_iff_ne.2 h35
  have e45 : ((s[0].toNat : Int) == 45) = true := by rw [h45]; rfl
  have el : decide ((1 : Int) < (s.size : Int)) = false := decide_eq_false (by omega)
  have HP0 := Aside0.mk (fun W => strings_HasPrefix.calls s ⟨#[60, 61]⟩ _ W (prefix_two s _ _ p0))
  have HP1 := Aside0.mk (fun W => strings_HasPrefix.calls s ⟨#[33, 61]⟩ _ W (prefix_two s _ _ p1))
  have HP2 := Aside0.mk (fun W => strings_HasPrefix.calls s ⟨#[58, 45]⟩ _ W (prefix_two s _ _ p2))
  have HP3 := Aside0.mk (fun W => strings_HasPrefix.calls s ⟨#[63, 45]⟩ _ W (prefix_two s _ _ p3))
  have HI := Aside0.mk (fun W => Tryd.strings_IndexByte ⟨#[40, 41, 44, 46, 60, 61, 47, 124, 42, 43, 63, 94]⟩ (s[0].toNat : Int) W)
  have ei : decide ((0 : Int) ≤ Lib.indexByte (⟨#[40, 41, 44, 46, 60, 61, 47, 124, 42, 43, 63, 94]⟩ : ByteArray).data.toList ((s[0].toNat : Int)).toNat.toUInt8) = true := (one_index s[0]).trans hone
  generalize Lib.indexByte (⟨#[40, 41, 44, 46, 60, 61, 47, 124, 42, 43, 63, 94]⟩ : ByteArray).data.toList ((s[0].toNat : Int)).toNat.toUInt8 = ix at HI ei
  clear hsm hgr hs h35 hdg h45 p0 p1 p2 p3 hone
  go_enter Tryd.func26, Tryd.ntmps26
  go_wp2_with (first | (go_at_call 50; refine (HS.out _).mono ?_; rintro e w' ⟨rfl, ⟨nd1, rfl⟩⟩) | (go_at_call 28; refine (HG.out _).mono ?_; rintro e w' ⟨rfl, ⟨nd2, rfl⟩⟩) | (go_at_call 52; refine (HD.out _).mono ?_; rintro e w' ⟨rfl, ⟨nd3, rfl⟩⟩) | (go_at_call 53; (with_reducible refine (HP0.out _).mono ?_); rintro e w' ⟨rfl, ⟨np0, rfl⟩⟩) | (go_at_call 53; (with_reducible refine (HP1.out _).mono ?_); rintro e w' ⟨rfl, ⟨np1, rfl⟩⟩) | (go_at_call 53; (with_reducible refine (HP2.out _).mono ?_); rintro e w' ⟨rfl, ⟨np2, rfl⟩⟩) | (go_at_call 53; (with_reducible refine (HP3.out _).mono ?_); rintro e w' ⟨rfl, ⟨np3, rfl⟩⟩) | (go_at_call 25; refine (HI.out _).mono ?_; rintro e w' ⟨rfl, rfl⟩))
  exact next_ret (blk_first w _ _) (below_first w _ _) 4 _ a (by rfl)
set_option maxHeartbeats 1600000 in
set_option maxRecDepth 100000 in
theorem next_short_5 (s : ByteArray) (hs : s.size ≤ 140737488355328) (a : Int) (w : World) (hp : 0 < s.size) (hsm : smallN s[0] = false) (hgr : greatN s[0] = false) (h35 : s[0] ≠ 35) (hdg : digitN s[0] = false) (h45 : s[0] = 45) (h1 : s.size ≤ 1) (p0 : (s.data.toList.take 2 == [60, 61]) = false) (p1 : (s.data.toList.take 2 == [33, 61]) = false) (p2 : (s.data.toList.take 2 == [58, 45]) = false) (p3 : (s.data.toList.take 2 == [63, 45]) = false) (hone : oneB s[0] = false) :
    Calls Tryd.prog 26 #[.string s, .int .i64 a] w fun e w' => NextR s a (none) e ∧ Below w.heap.size w w' := by
  have HS := Aside0.mk (fun W => lex_small.calls (s[0].toNat : Int) (smallN s[0]) W (lex_small_eq s[0]))
  rw [hsm] at HS
  have HG := Aside0.mk (fun W => lex_great.calls (s[0].toNat : Int) (greatN s[0]) W (lex_great_eq s[0]))
  rw [hgr] at HG
  have HD := Aside0.mk (fun W => lex_digit.calls (s[0].toNat : Int) (digitN s[0]) W (lex_digit_eq s[0]))
  rw [hdg] at HD
  have e35 : ((s[0].toNat : Int) == 35) = false := by rw [show ((s[0].toNat : Int) == 35) = (s[0] == 35) from u8_eq_nat s[0] 35 (by omega)]; exact beq_eq_false_iff_ne.2 h35
  have e45 : ((s[0].toNat : Int) == 45) = true := by rw [h45]; rfl
  have el : decide ((1 : Int) < (s.size : Int)) = false := decide_eq_false (by omega)
  have HP0 := Aside0.mk (fun W => strings_HasPrefix.calls s ⟨#[60, 61]⟩ _ W (prefix_two s _ _ p0))
  have HP1 := Aside0.mk (fun W => strings_HasPrefix.calls s ⟨#[33, 61]⟩ _ W (prefix_two s _ _ p1))
  have HP2 := Aside0.mk (fun W => strings_HasPrefix.calls s ⟨#[58, 45]⟩ _ W (prefix_two s _ _ p2))
  have HP3 := Aside0.mk (fun W => strings_HasPrefix.calls s ⟨#[63, 45]⟩ _ W (prefix_two s _ _ p3))
  have HI := Aside0.mk (fun W => Tryd.strings_IndexByte ⟨#[40, 41, 44, 46, 60, 61, 47, 124, 42, 43, 63, 94]⟩ (s[0].toNat : Int) W)
  have ei : decide ((0 : Int) ≤ Lib.indexByte (⟨#[40, 41, 44, 46, 60, 61, 47, 124, 42, 43, 63, 94]⟩ : ByteArray).data.toList ((s[0].toNat : Int)).toNat.toUInt8) = false := (one_index s[0]).trans hone
  generalize Lib.indexByte (⟨#[40, 41, 44, 46, 60, 61, 47, 124, 42, 43, 63, 94]⟩ : ByteArray).data.toList ((s[0].toNat : Int)).toNat.toUInt8 = ix at HI ei
  clear hsm hgr hs h35 hdg h45 p0 p1 p2 p3 hone
  go_enter Tryd.func26, Tryd.ntmps26
  go_wp2_with (first | (go_at_call 50; refine (HS.out _).mono ?_; rintro e w' ⟨rfl, ⟨nd1, rfl⟩⟩) | (go_at_call 28; refine (HG.out _).mono ?_; rintro e w' ⟨rfl, ⟨nd2, rfl⟩⟩) | (go_at_call 52; refine (HD.out _).mono ?_; rintro e w' ⟨rfl, ⟨nd3, rfl⟩⟩) | (go_at_call 53; (with_reducible refine (HP0.out _).mono ?_); rintro e w' ⟨rfl, ⟨np0, rfl⟩⟩) | (go_at_call 53; (with_reducible refine (HP1.out _).mono ?_); rintro e w' ⟨rfl, ⟨np1, rfl⟩⟩) | (go_at_call 53; (with_reducible refine (HP2.out _).mono ?_); rintro e w' ⟨rfl, ⟨np2, rfl⟩⟩) | (go_at_call 53; (with_reducible refine (HP3.out _).mono ?_); rintro e w' ⟨rfl, ⟨np3, rfl⟩⟩) | (go_at_call 25; refine (HI.out _).mono ?_; rintro e w' ⟨rfl, rfl⟩))
  exact ⟨rfl, rfl, below_first w _ _⟩
set_option maxHeartbeats 1600000 in
set_option maxRecDepth 100000 in
theorem next_dash_0 (s : ByteArray) (hs : s.size ≤ 140737488355328) (a : Int) (w : World) (hp : 0 < s.size) (hsm : smallN s[0] = false) (hgr : greatN s[0] = false) (h35 : s[0] ≠ 35) (hdg : digitN s[0] = false) (h45 : s[0] = 45) (h1 : 1 < s.size) (hd1 : digitN s[1] = false) (p0 : (s.data.toList.take 2 == [60, 61]) = true) :
    Calls Tryd.prog 26 #[.string s, .int .i64 a] w fun e w' => NextR s a (some (4, 2)) e ∧ Below w.heap.size w w' := by
  have HS := Aside0.mk (fun W => lex_small.calls (s[0].toNat : Int) (smallN s[0]) W (lex_small_eq s[0]))
  rw [hsm] at HS
  have HG := Aside0.mk (fun W => lex_great.calls (s[0].toNat : Int) (greatN s[0]) W (lex_great_eq s[0]))
  rw [hgr] at HG
  have HD := Aside0.mk (fun W => lex_digit.calls (s[0].toNat : Int) (digitN s[0]) W (lex_digit_eq s[0]))
  rw [hdg] at HD
  have e35 : ((s[0].toNat : Int) == 35) = false := by rw [show ((s[0].toNat : Int) == 35) = (s[0] == 35) from u8_eq_nat s[0] 35 (by omega)]; exact beq_eq_false_iff_ne.2 h35
  have e45 : ((s[0].toNat : Int) == 45) = true := by rw [h45]; rfl
  have el : decide ((1 : Int) < (s.size : Int)) = true := decide_eq_true (by omega)
  have HD1 := Aside0.mk (fun W => lex_digit.calls (s[1].toNat : Int) (digitN s[1]) W (lex_digit_eq s[1]))
  rw [hd1] at HD1
  have HP0 := Aside0.mk (fun W => strings_HasPrefix.calls s ⟨#[60, 61]⟩ _ W (prefix_two s _ _ p0))
  have h2 : (2 : Nat) ≤ s.size := take_two (beq_iff_eq.1 p0) rfl
  clear hsm hgr hs h35 hdg h45 hd1 p0
  go_enter Tryd.func26, Tryd.ntmps26
  go_wp2_with (first | (go_at_call 50; refine (HS.out _).mono ?_; rintro e w' ⟨rfl, ⟨nd1, rfl⟩⟩) | (go_at_call 28; refine (HG.out _).mono ?_; rintro e w' ⟨rfl, ⟨nd2, rfl⟩⟩) | (go_at_call 52; (with_reducible refine (HD.out _).mono ?_); rintro e w' ⟨rfl, ⟨nd3, rfl⟩⟩) | (go_at_call 52; (with_reducible refine (HD1.out _).mono ?_); rintro e w' ⟨rfl, ⟨nd7, rfl⟩⟩) | (go_at_call 53; (with_reducible refine (HP0.out _).mono ?_); rintro e w' ⟨rfl, ⟨np0, rfl⟩⟩))
  exact next_ret (blk_first w _ _) (below_first w _ _) 4 _ a (by rfl)
set_option maxHeartbeats 1600000 in
set_option maxRecDepth 100000 in
theorem next_dash_1 (s : ByteArray) (hs : s.size ≤ 140737488355328) (a : Int) (w : World) (hp : 0 < s.size) (hsm : smallN s[0] = false) (hgr : greatN s[0] = false) (h35 : s[0] ≠ 35) (hdg : digitN s[0] = false) (h45 : s[0] = 45) (h1 : 1 < s.size) (hd1 : digitN s[1] = false) (p0 : (s.data.toList.take 2 == [60, 61]) = false) (p1 : (s.data.toList.take 2 == [33, 61]) = true) :
    Calls Tryd.prog 26 #[.string s, .int .i64 a] w fun e w' => NextR s a (some (4, 2)) e ∧ Below w.heap.size w w' := by
  have HS := Aside0.mk (fun W => lex_small.calls (s[0].toNat : Int) (smallN s[0]) W (lex_small_eq s[0]))
  rw [hsm] at HS
  have HG := Aside0.mk (fun W => lex_great.calls (s[0].toNat : Int) (greatN s[0]) W (lex_great_eq s[0]))
  rw [hgr] at HG
  have HD := Aside0.mk (fun W => lex_digit.calls (s[0].toNat : Int) (digitN s[0]) W (lex_digit_eq s[0]))
  rw [hdg] at HD
  have e35 : ((s[0].toNat : Int) == 35) = false := by rw [show ((s[0].toNat : Int) == 35) = (s[0] == 35) from u8_eq_nat s[0] 35 (by omega)]; exact beq_eq_false_iff_ne.2 h35
  have e45 : ((s[0].toNat : Int) == 45) = true := by rw [h45]; rfl
  have el : decide ((1 : Int) < (s.size : Int)) = true := decide_eq_true (by omega)
  have HD1 := Aside0.mk (fun W => lex_digit.calls (s[1].toNat : Int) (digitN s[1]) W (lex_digit_eq s[1]))
  rw [hd1] at HD1
  have HP0 := Aside0.mk (fun W => strings_HasPrefix.calls s ⟨#[60, 61]⟩ _ W (prefix_two s _ _ p0))
  have HP1 := Aside0.mk (fun W => strings_HasPrefix.calls s ⟨#[33, 61]⟩ _ W (prefix_two s _ _ p1))
  have h2 : (2 : Nat) ≤ s.size := take_two (beq_iff_eq.1 p1) rfl
  clear hsm hgr hs h35 hdg h45 hd1 p0 p1
  go_enter Tryd.func26, Tryd.ntmps26
  go_wp2_with (first | (go_at_call 50; refine (HS.out _).mono ?_; rintro e w' ⟨rfl, ⟨nd1, rfl⟩⟩) | (go_at_call 28; refine (HG.out _).mono ?_; rintro e w' ⟨rfl, ⟨nd2, rfl⟩⟩) | (go_at_call 52; (with_reducible refine (HD.out _).mono ?_); rintro e w' ⟨rfl, ⟨nd3, rfl⟩⟩) | (go_at_call 52; (with_reducible refine (HD1.out _).mono ?_); rintro e w' ⟨rfl, ⟨nd7, rfl⟩⟩) | (go_at_call 53; (with_reducible refine (HP0.out _).mono ?_); rintro e w' ⟨rfl, ⟨np0, rfl⟩⟩) | (go_at_call 53; (with_reducible refine (HP1.out _).mono ?_); rintro e w' ⟨rfl, ⟨np1, rfl⟩⟩))
  exact next_ret (blk_first w _ _) (below_first w _ _) 4 _ a (by rfl)
set_option maxHeartbeats 1600000 in
set_option maxRecDepth 100000 in
theorem next_dash_2 (s : ByteArray) (hs : s.size ≤ 140737488355328) (a : Int) (w : World) (hp : 0 < s.size) (hsm : smallN s[0] = false) (hgr : greatN s[0] = false) (h35 : s[0] ≠ 35) (hdg : digitN s[0] = false) (h45 : s[0] = 45) (h1 : 1 < s.size) (hd1 : digitN s[1] = false) (p0 : (s.data.toList.take 2 == [60, 61]) = false) (p1 : (s.data.toList.take 2 == [33, 61]) = false) (p2 : (s.data.toList.take 2 == [58, 45]) = true) :
    Calls Tryd.prog 26 #[.string s, .int .i64 a] w fun e w' => NextR s a (some (4, 2)) e ∧ Below w.heap.size w w' := by
  have HS := Aside0.mk (fun W => lex_small.calls (s[0].toNat : Int) (smallN s[0]) W (lex_small_eq s[0]))
  rw [hsm] at HS
  have HG := Aside0.mk (fun W => lex_great.calls (s[0].toNat : Int) (greatN s[0]) W (lex_great_eq s[0]))
  rw [hgr] at HG
  have HD := Aside0.mk (fun W => lex_digit.calls (s[0].toNat : Int) (digitN s[0]) W (lex_digit_eq s[0]))
  rw [hdg] at HD
  have e35 : ((s[0].toNat : Int) == 35) = false := by rw [show ((s[0].toNat : Int) == 35) = (s[0] == 35) from u8_eq_nat s[0] 35 (by omega)]; exact beq_eq_false_iff_ne.2 h35
  have e45 : ((s[0].toNat : Int) == 45) = true := by rw [h45]; rfl
  have el : decide ((1 : Int) < (s.size : Int)) = true := decide_eq_true (by omega)
  have HD1 := Aside0.mk (fun W => lex_digit.calls (s[1].toNat : Int) (digitN s[1]) W (lex_digit_eq s[1]))
  rw [hd1] at HD1
  have HP0 := Aside0.mk (fun W => strings_HasPrefix.calls s ⟨#[60, 61]⟩ _ W (prefix_two s _ _ p0))
  have HP1 := Aside0.mk (fun W => strings_HasPrefix.calls s ⟨#[33, 61]⟩ _ W (prefix_two s _ _ p1))
  have HP2 := Aside0.mk (fun W => strings_HasPrefix.calls s ⟨#[58, 45]⟩ _ W (prefix_two s _ _ p2))
  have h2 : (2 : Nat) ≤ s.size := take_two (beq_iff_eq.1 p2) rfl
  clear hsm hgr hs h35 hdg h45 hd1 p0 p1 p2
  go_enter Tryd.func26, Tryd.ntmps26
  go_wp2_with (first | (go_at_call 50; refine (HS.out _).mono ?_; rintro e w' ⟨rfl, ⟨nd1, rfl⟩⟩) | (go_at_call 28; refine (HG.out _).mono ?_; rintro e w' ⟨rfl, ⟨nd2, rfl⟩⟩) | (go_at_call 52; (with_reducible refine (HD.out _).mono ?_); rintro e w' ⟨rfl, ⟨nd3, rfl⟩⟩) | (go_at_call 52; (with_reducible refine (HD1.out _).mono ?_); rintro e w' ⟨rfl, ⟨nd7, rfl⟩⟩) | (go_at_call 53; (with_reducible refine (HP0.out _).mono ?_); rintro e w' ⟨rfl, ⟨np0, rfl⟩⟩) | (go_at_call 53; (with_reducible refine (HP1.out _).mono ?_); rintro e w' ⟨rfl, ⟨np1, rfl⟩⟩) | (go_at_call 53; (with_reducible refine (HP2.out _).mono ?_); rintro e w' ⟨rfl, ⟨np2, rfl⟩⟩))
  exact next_ret (blk_first w _ _) (below_first w _ _) 4 _ a (by rfl)
set_option maxHeartbeats 1600000 in
set_option maxRecDepth 100000 in
theorem next_dash_3 (s : ByteArray) (hs : s.size ≤ 140737488355328) (a : Int) (w : World) (hp : 0 < s.size) (hsm : smallN s[0] = false) (hgr : greatN s[0] = false) (h35 : s[0] ≠ 35) (hdg : digitN s[0] = false) (h45 : s[0] = 45) (h1 : 1 < s.size) (hd1 : digitN s[1] = false) (p0 : (s.data.toList.take 2 == [60, 61]) = false) (p1 : (s.data.toList.take 2 == [33, 61]) = false) (p2 : (s.data.toList.take 2 == [58, 45]) = false) (p3 : (s.data.toList.take 2 == [63, 45]) = true) :
    Calls Tryd.prog 26 #[.string s, .int .i64 a] w fun e w' => NextR s a (some (4, 2)) e ∧ Below w.heap.size w w' := by
  have HS := Aside0.mk (fun W => lex_small.calls (s[0].toNat : Int) (smallN s[0]) W (lex_small_eq s[0]))
  rw [hsm] at HS
  have HG := Aside0.mk (fun W => lex_great.calls (s[0].toNat : Int) (greatN s[0]) W (lex_great_eq s[0]))
  rw [hgr] at HG
  have HD := Aside0.mk (fun W => lex_digit.calls (s[0].toNat : Int) (digitN s[0]) W (lex_digit_eq s[0]))
  rw [hdg] at HD
  have e35 : ((s[0].toNat : Int) == 35) = false := by rw [show ((s[0].toNat : Int) == 35) = (s[0] == 35) from u8_eq_nat s[0] 35 (by omega)]; exact beq_eq_false_iff_ne.2 h35
  have e45 : ((s[0].toNat : Int) == 45) = true := by rw [h45]; rfl
  have el : decide ((1 : Int) < (s.size : Int)) = true := decide_eq_true (by omega)
  have HD1 := Aside0.mk (fun W => lex_digit.calls (s[1].toNat : Int) (digitN s[1]) W (lex_digit_eq s[1]))
  rw [hd1] at HD1
  have HP0 := Aside0.mk (fun W => strings_HasPrefix.calls s ⟨#[60, 61]⟩ _ W (prefix_two s _ _ p0))
  have HP1 := Aside0.mk (fun W => strings_HasPrefix.calls s ⟨#[33, 61]⟩ _ W (prefix_two s _ _ p1))
  have HP2 := Aside0.mk (fun W => strings_HasPrefix.calls s ⟨#[58, 45]⟩ _ W (prefix_two s _ _ p2))
  have HP3 := Aside0.mk (fun W => strings_HasPrefix.calls s ⟨#[63, 45]⟩ _ W (prefix_two s _ _ p3))
  have h2 : (2 : Nat) ≤ s.size := take_two (beq_iff_eq.1 p3) rfl
  clear hsm hgr hs h35 hdg h45 hd1 p0 p1 p2 p3
  go_enter Tryd.func26, Tryd.ntmps26
  go_wp2_with (first | (go_at_call 50; refine (HS.out _).mono ?_; rintro e w' ⟨rfl, ⟨nd1, rfl⟩⟩) | (go_at_call 28; refine (HG.out _).mono ?_; rintro e w' ⟨rfl, ⟨nd2, rfl⟩⟩) | (go_at_call 52; (with_reducible refine (HD.out _).mono ?_); rintro e w' ⟨rfl, ⟨nd3, rfl⟩⟩) | (go_at_call 52; (with_reducible refine (HD1.out _).mono ?_); rintro e w' ⟨rfl, ⟨nd7, rfl⟩⟩) | (go_at_call 53; (with_reducible refine (HP0.out _).mono ?_); rintro e w' ⟨rfl, ⟨np0, rfl⟩⟩) | (go_at_call 53; (with_reducible refine (HP1.out _).mono ?_); rintro e w' ⟨rfl, ⟨np1, rfl⟩⟩) | (go_at_call 53; (with_reducible refine (HP2.out _).mono ?_); rintro e w' ⟨rfl, ⟨np2, rfl⟩⟩) | (go_at_call 53; (with_reducible refine (HP3.out _).mono ?_); rintro e w' ⟨rfl, ⟨np3, rfl⟩⟩))
  exact next_ret (blk_first w _ _) (below_first w _ _) 4 _ a (by rfl)
set_option maxHeartbeats 1600000 in
set_option maxRecDepth 100000 in
theorem next_dash_4 (s : ByteArray) (hs : s.size ≤ 140737488355328) (a : Int) (w : World) (hp : 0 < s.size) (hsm : smallN s[0] = false) (hgr : greatN s[0] = false) (h35 : s[0] ≠ 35) (hdg : digitN s[0] = false) (h45 : s[0] = 45) (h1 : 1 < s.size) (hd1 : digitN s[1] = false) (p0 : (s.data.toList.take 2 == [60, 61]) = false) (p1 : (s.data.toList.take 2 == [33, 61]) = false) (p2 : (s.data.toList.take 2 == [58, 45]) = false) (p3 : (s.data.toList.take 2 == [63, 45]) = false) (hone : oneB s[0] = true) :
    Calls Tryd.prog 26 #[.string s, .int .i64 a] w fun e w' => NextR s a (some (4, 1)) e ∧ Below w.heap.size w w' := by
  have HS := Aside0.mk (fun W => lex_small.calls (s[0].toNat : Int) (smallN s[0]) W (lex_small_eq s[0]))
  rw [hsm] at HS
  have HG := Aside0.mk (fun W => lex_great.calls (s[0].toNat : Int) (greatN s[0]) W (lex_great_eq s[0]))
  rw [hgr] at HG
  have HD := Aside0.mk (fun W => lex_digit.calls (s[0].toNat : Int) (digitN s[0]) W (lex_digit_eq s[0]))
  rw [hdg] at HD
  have e35 : ((s[0].toNat : Int) == 35) = false := by rw [show ((s[0].toNat : Int) == 35) = (s[0] == 35) from u8_eq_nat s[0] 35 (by omega)]; exact beq_eq_false_iff_ne.2 h35
  have e45 : ((s[0].toNat : Int) == 45) = true := by rw [h45]; rfl
  have el : decide ((1 : Int) < (s.size : Int)) = true := decide_eq_true (by omega)
  have HD1 := Aside0.mk (fun W => lex_digit.calls (s[1].toNat : Int) (digitN s[1]) W (lex_digit_eq s[1]))
  rw [hd1] at HD1
  have HP0 := Aside0.mk (fun W => strings_HasPrefix.calls s ⟨#[60, 61]⟩ _ W (prefix_two s _ _ p0))
  have HP1 := Aside0.mk (fun W => strings_HasPrefix.calls s ⟨#[33, 61]⟩ _ W (prefix_two s _ _ p1))
  have HP2 := Aside0.mk (fun W => strings_HasPrefix.calls s ⟨#[58, 45]⟩ _ W (prefix_two s _ _ p2))
  have HP3 := Aside0.mk (fun W => strings_HasPrefix.calls s ⟨#[63, 45]⟩ _ W (prefix_two s _ _ p3))
  have HI := Aside0.mk (fun W => Tryd.strings_IndexByte ⟨#[40, 41, 44, 46, 60, 61, 47, 124, 42, 43, 63, 94]⟩ (s[0].toNat : Int) W)
  have ei : decide ((0 : Int) ≤ Lib.indexByte (⟨#[40, 41, 44, 46, 60, 61, 47, 124, 42, 43, 63, 94]⟩ : ByteArray).data.toList ((s[0].toNat : Int)).toNat.toUInt8) = true := (one_index s[0]).trans hone
  generalize Lib.indexByte (⟨#[40, 41, 44, 46, 60, 61, 47, 124, 42, 43, 63, 94]⟩ : ByteArray).data.toList ((s[0].toNat : Int)).toNat.toUInt8 = ix at HI ei
  clear hsm hgr hs h35 hdg h45 hd1 p0 p1 p2 p3 hone
  go_enter Tryd.func26, Tryd.ntmps26
  go_wp2_with (first | (go_at_call 50; refine (HS.out _).mono ?_; rintro e w' ⟨rfl, ⟨nd1, rfl⟩⟩) | (go_at_call 28; refine (HG.out _).mono ?_; rintro e w' ⟨rfl, ⟨nd2, rfl⟩⟩) | (go_at_call 52; (with_reducible refine (HD.out _).mono ?_); rintro e w' ⟨rfl, ⟨nd3, rfl⟩⟩) | (go_at_call 52; (with_reducible refine (HD1.out _).mono ?_); rintro e w' ⟨rfl, ⟨nd7, rfl⟩⟩) | (go_at_call 53; (with_reducible refine (HP0.out _).mono ?_); rintro e w' ⟨rfl, ⟨np0, rfl⟩⟩) | (go_at_call 53; (with_reducible refine (HP1.out _).mono ?_); rintro e w' ⟨rfl, ⟨np1, rfl⟩⟩) | (go_at_call 53; (with_reducible refine (HP2.out _).mono ?_); rintro e w' ⟨rfl, ⟨np2, rfl⟩⟩) | (go_at_call 53; (with_reducible refine (HP3.out _).mono ?_); rintro e w' ⟨rfl, ⟨np3, rfl⟩⟩) | (go_at_call 25; refine (HI.out _).mono ?_; rintro e w' ⟨rfl, rfl⟩))
  exact next_ret (blk_first w _ _) (below_first w _ _) 4 _ a (by rfl)
set_option maxHeartbeats 1600000 in
set_option maxRecDepth 100000 in
theorem next_dash_5 (s : ByteArray) (hs : s.size ≤ 140737488355328) (a : Int) (w : World) (hp : 0 < s.size) (hsm : smallN s[0] = false) (hgr : greatN s[0] = false) (h35 : s[0] ≠ 35) (hdg : digitN s[0] = false) (h45 : s[0] = 45) (h1 : 1 < s.size) (hd1 : digitN s[1] = false) (p0 : (s.data.toList.take 2 == [60, 61]) = false) (p1 : (s.data.toList.take 2 == [33, 61]) = false) (p2 : (s.data.toList.take 2 == [58, 45]) = false) (p3 : (s.data.toList.take 2 == [63, 45]) = false) (hone : oneB s[0] = false) :
    Calls Tryd.prog 26 #[.string s, .int .i64 a] w fun e w' => NextR s a (none) e ∧ Below w.heap.size w w' := by
  have HS := Aside0.mk (fun W => lex_small.calls (s[0].toNat : Int) (smallN s[0]) W (lex_small_eq s[0]))
  rw [hsm] at HS
  have HG := Aside0.mk (fun W => lex_great.calls (s[0].toNat : Int) (greatN s[0]) W (lex_great_eq s[0]))
  rw [hgr] at HG
  have HD := Aside0.mk (fun W => lex_digit.calls (s[0].toNat : Int) (digitN s[0]) W (lex_digit_eq s[0]))
  rw [hdg] at HD
  have e35 : ((s[0].toNat : Int) == 35) = false := by rw [show ((s[0].toNat : Int) == 35) = (s[0] == 35) from u8_eq_nat s[0] 35 (by omega)]; exact beq_eq_false_iff_ne.2 h35
  have e45 : ((s[0].toNat : Int) == 45) = true := by rw [h45]; rfl
  have el : decide ((1 : Int) < (s.size : Int)) = true := decide_eq_true (by omega)
  have HD1 := Aside0.mk (fun W => lex_digit.calls (s[1].toNat : Int) (digitN s[1]) W (lex_digit_eq s[1]))
  rw [hd1] at HD1
  have HP0 := Aside0.mk (fun W => strings_HasPrefix.calls s ⟨#[60, 61]⟩ _ W (prefix_two s _ _ p0))
  have HP1 := Aside0.mk (fun W => strings_HasPrefix.calls s ⟨#[33, 61]⟩ _ W (prefix_two s _ _ p1))
  have HP2 := Aside0.mk (fun W => strings_HasPrefix.calls s ⟨#[58, 45]⟩ _ W (prefix_two s _ _ p2))
  have HP3 := Aside0.mk (fun W => strings_HasPrefix.calls s ⟨#[63, 45]⟩ _ W (prefix_two s _ _ p3))
  have HI := Aside0.mk (fun W => Tryd.strings_IndexByte ⟨#[40, 41, 44, 46, 60, 61, 47, 124, 42, 43, 63, 94]⟩ (s[0].toNat : Int) W)
  have ei : decide ((0 : Int) ≤ Lib.indexByte (⟨#[40, 41, 44, 46, 60, 61, 47, 124, 42, 43, 63, 94]⟩ : ByteArray).data.toList ((s[0].toNat : Int)).toNat.toUInt8) = false := (one_index s[0]).trans hone
  generalize Lib.indexByte (⟨#[40, 41, 44, 46, 60, 61, 47, 124, 42, 43, 63, 94]⟩ : ByteArray).data.toList ((s[0].toNat : Int)).toNat.toUInt8 = ix at HI ei
  clear hsm hgr hs h35 hdg h45 hd1 p0 p1 p2 p3 hone
  go_enter Tryd.func26, Tryd.ntmps26
  go_wp2_with (first | (go_at_call 50; refine (HS.out _).mono ?_; rintro e w' ⟨rfl, ⟨nd1, rfl⟩⟩) | (go_at_call 28; refine (HG.out _).mono ?_; rintro e w' ⟨rfl, ⟨nd2, rfl⟩⟩) | (go_at_call 52; (with_reducible refine (HD.out _).mono ?_); rintro e w' ⟨rfl, ⟨nd3, rfl⟩⟩) | (go_at_call 52; (with_reducible refine (HD1.out _).mono ?_); rintro e w' ⟨rfl, ⟨nd7, rfl⟩⟩) | (go_at_call 53; (with_reducible refine (HP0.out _).mono ?_); rintro e w' ⟨rfl, ⟨np0, rfl⟩⟩) | (go_at_call 53; (with_reducible refine (HP1.out _).mono ?_); rintro e w' ⟨rfl, ⟨np1, rfl⟩⟩) | (go_at_call 53; (with_reducible refine (HP2.out _).mono ?_); rintro e w' ⟨rfl, ⟨np2, rfl⟩⟩) | (go_at_call 53; (with_reducible refine (HP3.out _).mono ?_); rintro e w' ⟨rfl, ⟨np3, rfl⟩⟩) | (go_at_call 25; refine (HI.out _).mono ?_; rintro e w' ⟨rfl, rfl⟩))
  exact ⟨rfl, rfl, below_first w _ _⟩
end Go.Proofs.YthebhbomlllpeaaDoor.X
namespace Go.Proofs.YthebhbomlllpeaaDoor.X
set_option linter.unusedVariables false
set_option linter.unusedSimpArgs false
open Go.RowKit Go.Proofs.YthebhbomlllpeaaDoorW.PrintWords Go.Proofs.YthebhbomlllpeaaDoorW.PrintLast Go.Proofs.YthebhbomlllpeaaDoorW.PrintMore
theorem get_drop1 {s : ByteArray} (h : 1 < s.size) : ∃ r, s.data.toList.drop 1 = s[1] :: r := by
  refine ⟨s.data.toList.drop 2, ?_⟩
  have h' : 1 < s.data.toList.length := by rw [data_length]; exact h
  rw [List.drop_eq_getElem_cons h', getElem_data s 1 h]
set_option maxRecDepth 100000 in
theorem next_any (s : ByteArray) (hs : s.size ≤ 140737488355328) (a : Int) (w : World) (hLW : LaidW w) (hp : 0 < s.size) :
    Calls Tryd.prog 26 #[.string s, .int .i64 a] w fun e w' => NextR s a (nextN nmL vlL s.data.toList) e ∧ Below w.heap.size w w' := by
  obtain ⟨r, hr⟩ := list_head hp
  have hd : s.data.toList.drop 1 = r := by rw [hr]; rfl
  have key : nextN nmL vlL s.data.toList = (if smallN s[0] then (if nmL (s.data.toList.take (runN lowB s.data.toList)) then some (1, runN lowB s.data.toList) else none) else if greatN s[0] then (if runN signB s.data.toList ≤ 40 then some (2, runN signB s.data.toList) else none) else if valB s[0] (s.data.toList.drop 1) then (if vlL (s.data.toList.take (1 + runN signB (s.data.toList.drop 1))) then some (3, 1 + runN signB (s.data.toList.drop 1)) else none) else if twoB s.data.toList then some (4, 2) else if oneB s[0] then some (4, 1) else none) := by
    rw [hd, hr]; rfl
  rw [key]
  cases hsm : smallN s[0] with
  | true =>
    rw [if_pos rfl, name_take]
    cases hN : nameB (s.extract 0 (runN lowB s.data.toList)) with
    | true => rw [if_pos rfl]; exact next_small_true s hs a w hp _ hsm rfl hN
    | false => rw [if_neg (by simp)]; exact next_small_false s hs a w hp _ hsm rfl hN
  | false =>
    rw [if_neg (by simp)]
    cases hgr : greatN s[0] with
    | true =>
      rw [if_pos rfl]
      have hvar : varL (s.data.toList.take (runN signB s.data.toList)) = decide (runN signB s.data.toList ≤ 40) := by
        have h1 : signB s[0] = true := great_sign hgr
        have h2 := runN_take signB s.data.toList
        have h3 : runN signB s.data.toList = runN signB r + 1 := by rw [hr]; simp only [runN, h1, if_true]
        have h4 : (s.data.toList.take (runN signB s.data.toList)).length = runN signB s.data.toList := by rw [List.length_take]; have := runN_le signB s.data.toList; omega
        have h5 : s.data.toList.take (runN signB s.data.toList) = s[0] :: r.take (runN signB r) := by rw [h3, hr, List.take_succ_cons]
        rw [h5] at h2 h4 ⊢
        simp only [varL]
        rw [h4, h2, hgr]
        simp
      by_cases h40 : runN signB s.data.toList ≤ 40
      · rw [if_pos h40]; exact next_great_true s hs a w hp _ hsm hgr rfl (by rw [hvar]; exact decide_eq_true h40)
      · rw [if_neg h40]; exact next_great_false s hs a w hp _ hsm hgr rfl (by rw [hvar]; exact decide_eq_false h40)
    | false =>
      rw [if_neg (by simp)]
      have hvl : vlL (s.data.toList.take (1 + runN signB (s.data.toList.drop 1))) = ((readR (s.extract 0 (1 + runN signB (s.data.toList.drop 1)))).2.2.2 == 0) := by unfold vlL; rw [extract_take]
      cases hv : valB s[0] (s.data.toList.drop 1) with
      | true =>
        rw [if_pos rfl, hvl]
        have hway : s[0] = 35 ∨ (s[0] ≠ 35 ∧ digitN s[0] = true) ∨ (s[0] = 45 ∧ ∃ h : 1 < s.size, digitN s[1] = true) := by
          unfold valB at hv
          simp only [Bool.or_eq_true, Bool.and_eq_true, beq_iff_eq] at hv
          by_cases h35 : s[0] = 35
          · exact .inl h35
          · rcases hv with (h | h) | ⟨h, h1⟩
            · exact absurd h h35
            · exact .inr (.inl ⟨h35, h⟩)
            · refine .inr (.inr ⟨h, ?_⟩)
              by_cases hz : 1 < s.size
              · obtain ⟨r2, hr2⟩ := get_drop1 hz
                rw [hr2] at h1
                exact ⟨hz, h1⟩
              · have : s.data.toList.drop 1 = [] := List.drop_eq_nil_of_le (by rw [data_length]; omega)
                rw [this] at h1
                cases h1
        by_cases hR : (readR (s.extract 0 (1 + runN signB (s.data.toList.drop 1)))).2.2.2 = 0
        · rw [if_pos (beq_iff_eq.2 hR)]
          rcases hway with h | ⟨h, h'⟩ | ⟨h, h', h''⟩
          · exact next_hash_ok s hs a w hp _ hLW hsm hgr h rfl hR
          · exact next_digit_ok s hs a w hp _ hLW hsm hgr h h' rfl hR
          · exact next_minus_ok s hs a w hp _ hLW hsm hgr h h' h'' rfl hR
        · rw [if_neg (fun h => hR (beq_iff_eq.1 h))]
          rcases hway with h | ⟨h, h'⟩ | ⟨h, h', h''⟩
          · exact next_hash_no s hs a w hp _ hLW hsm hgr h rfl hR
          · exact next_digit_no s hs a w hp _ hLW hsm hgr h h' rfl hR
          · exact next_minus_no s hs a w hp _ hLW hsm hgr h h' h'' rfl hR
      | false =>
        rw [if_neg (by simp)]
        unfold valB at hv
        simp only [Bool.or_eq_false_iff, beq_eq_false_iff_ne] at hv
        obtain ⟨⟨h35, hdg⟩, hm⟩ := hv
        have hway : s[0] ≠ 45 ∨ (s[0] = 45 ∧ s.size ≤ 1) ∨ (s[0] = 45 ∧ ∃ h : 1 < s.size, digitN s[1] = false) := by
          by_cases h45 : s[0] = 45
          · by_cases hz : 1 < s.size
            · obtain ⟨r2, hr2⟩ := get_drop1 hz
              rw [hr2, h45] at hm
              simp only [beq_self_eq_true, Bool.true_and] at hm
              exact .inr (.inr ⟨h45, hz, hm⟩)
            · exact .inr (.inl ⟨h45, by omega⟩)
          · exact .inl h45
        have hshort : s.size ≤ 1 → ∀ p : List UInt8, p.length = 2 → (s.data.toList.take 2 == p) = false := fun hz p hp2 => by
          rw [beq_eq_false_iff_ne]
          intro e
          have := congrArg List.length e
          rw [List.length_take, data_length, hp2] at this
          omega
        have htwo : twoB s.data.toList = (s.data.toList.take 2 == [60, 61] || s.data.toList.take 2 == [33, 61] || s.data.toList.take 2 == [58, 45] || s.data.toList.take 2 == [63, 45]) := rfl
        cases p0 : (s.data.toList.take 2 == [60, 61]) with
        | true =>
          rw [htwo, p0]
          simp only [Bool.true_or, if_true]
          rcases hway with h | ⟨h, h'⟩ | ⟨h, h', h''⟩
          · exact next_plain_0 s hs a w hp hsm hgr h35 hdg h p0
          · rw [hshort h' _ rfl] at p0; cases p0
          · exact next_dash_0 s hs a w hp hsm hgr h35 hdg h h' h'' p0
        | false =>
          cases p1 : (s.data.toList.take 2 == [33, 61]) with
          | true =>
            rw [htwo, p0, p1]
            simp only [Bool.false_or, Bool.true_or, if_true]
            rcases hway with h | ⟨h, h'⟩ | ⟨h, h', h''⟩
            · exact next_plain_1 s hs a w hp hsm hgr h35 hdg h p0 p1
            · rw [hshort h' _ rfl] at p1; cases p1
            · exact next_dash_1 s hs a w hp hsm hgr h35 hdg h h' h'' p0 p1
          | false =>
            cases p2 : (s.data.toList.take 2 == [58, 45]) with
            | true =>
              rw [htwo, p0, p1, p2]
              simp only [Bool.false_or, Bool.true_or, if_true]
              rcases hway with h | ⟨h, h'⟩ | ⟨h, h', h''⟩
              · exact next_plain_2 s hs a w hp hsm hgr h35 hdg h p0 p1 p2
              · rw [hshort h' _ rfl] at p2; cases p2
              · exact next_dash_2 s hs a w hp hsm hgr h35 hdg h h' h'' p0 p1 p2
            | false =>
              cases p3 : (s.data.toList.take 2 == [63, 45]) with
              | true =>
                rw [htwo, p0, p1, p2, p3]
                simp only [Bool.false_or, if_true]
                rcases hway with h | ⟨h, h'⟩ | ⟨h, h', h''⟩
                · exact next_plain_3 s hs a w hp hsm hgr h35 hdg h p0 p1 p2 p3
                · rw [hshort h' _ rfl] at p3; cases p3
                · exact next_dash_3 s hs a w hp hsm hgr h35 hdg h h' h'' p0 p1 p2 p3
              | false =>
                rw [htwo, p0, p1, p2, p3]
                simp only [Bool.false_or, Bool.false_eq_true, if_false]
                cases hone : oneB s[0] with
                | true =>
                  rw [if_pos rfl]
                  rcases hway with h | ⟨h, h'⟩ | ⟨h, h', h''⟩
                  · exact next_plain_4 s hs a w hp hsm hgr h35 hdg h p0 p1 p2 p3 hone
                  · exact next_short_4 s hs a w hp hsm hgr h35 hdg h h' p0 p1 p2 p3 hone
                  · exact next_dash_4 s hs a w hp hsm hgr h35 hdg h h' h'' p0 p1 p2 p3 hone
                | false =>
                  rw [if_neg (by simp)]
                  rcases hway with h | ⟨h, h'⟩ | ⟨h, h', h''⟩
                  · exact next_plain_5 s hs a w hp hsm hgr h35 hdg h p0 p1 p2 p3 hone
                  · exact next_short_5 s hs a w hp hsm hgr h35 hdg h h' p0 p1 p2 p3 hone
                  · exact next_dash_5 s hs a w hp hsm hgr h35 hdg h h' h'' p0 p1 p2 p3 hone
theorem blank_index (c : UInt8) : decide ((0 : Int) ≤ Lib.indexByte (⟨#[32, 9, 10]⟩ : ByteArray).data.toList ((c.toNat : Int)).toNat.toUInt8) = blankB c := by
  have e : ((c.toNat : Int)).toNat.toUInt8 = c := by
    rw [Int.toNat_natCast]
    apply UInt8.toNat_inj.1
    show (UInt8.ofNat c.toNat).toNat = c.toNat
    rw [UInt8.toNat_ofNat']
    have := c.toNat_lt
    omega
  rw [e, (index_pos _ c).1]
  unfold blankB
  simp only [List.contains_cons, List.contains_nil, Bool.or_false, Bool.or_assoc]
set_option maxHeartbeats 1600000 in
set_option maxRecDepth 100000 in
theorem tok_caught (g0 g1 g2 : Nat) (x : Int) (older : List PanicEntry) (w : World) (v0 v1 v2 : Value) (h0 : w.heap[g0]? = some (.cells #[v0] 23 (0, 0))) (h1 : w.heap[g1]? = some (.cells #[v1] 3 (0, 0))) (h2 : w.heap[g2]? = some (.cells #[v2] 24 (0, 0))) (hn1 : g1 ≠ g0) (hn2 : g2 ≠ g0) (hn3 : g2 ≠ g1) :
    CallsD Tryd.prog 24 #[.pointer (some ⟨g0, 0, none⟩), .pointer (some ⟨g1, 0, none⟩), .pointer (some ⟨g2, 0, none⟩)] (.panicking ({ v := .iface 48 (.int .i64 x), recovered := false } :: older)) w fun e u' w' =>
      e = .returned (.tuple #[]) ∧ u' = .panicking ({ v := .iface 48 (.int .i64 x), recovered := true } :: older) ∧ w' = ((w.setCell ⟨g0, 0, none⟩ (.slice none 0 0)).setCell ⟨g1, 0, none⟩ (.int .i64 x)).setCell ⟨g2, 0, none⟩ (.int .i64 2) := by
  have c0 : w.cell? ⟨g0, 0, none⟩ = some v0 := (blk_cell h0 0).trans rfl
  have c1 : w.cell? ⟨g1, 0, none⟩ = some v1 := (blk_cell h1 0).trans rfl
  have c2 : w.cell? ⟨g2, 0, none⟩ = some v2 := (blk_cell h2 0).trans rfl
  have f0 := blk_frozen h0 0
  have f1 := blk_frozen h1 0
  have f2 := blk_frozen h2 0
  have hta : ∀ (x : Int) (w : World), (Instr.typeAssert (.iface 48 (.int .i64 x)) 20 48 true).run Tryd.prog w = .ok (.tuple #[.int .i64 x, .bool true]) w := fun _ _ => by kernel_rfl
  refine callsD_of_wpS Tryd.func24 rfl fun c₀ cs hu => ?_
  apply wpS_seq
  apply wpS_region
  simp [wpOpsS, go_sem, recoverD, hu, Tryd.ntmps24, Exit.thenS, hta]
  apply wpS_seq
  apply wpS_region
  simp [wpOpsS, go_sem, recoverD, hu, Tryd.ntmps24, Exit.thenS, Array.replicate]
  refine wpS_cond (t := true) (by simp [Act.eval, Array.replicate]) ?_
  simp only [if_true]
  have k1 : ∀ u, (w.setCell ⟨g0, 0, none⟩ u).cell? ⟨g1, 0, none⟩ = some v1 := fun u => (cell_far (p := ⟨g0, 0, none⟩) (a := ⟨g1, 0, none⟩) hn1 u).trans c1
  have k2 : ∀ u u', ((w.setCell ⟨g0, 0, none⟩ u).setCell ⟨g1, 0, none⟩ u').cell? ⟨g2, 0, none⟩ = some v2 := fun u u' => (cell_far (p := ⟨g1, 0, none⟩) (a := ⟨g2, 0, none⟩) hn3 u').trans ((cell_far (p := ⟨g0, 0, none⟩) (a := ⟨g2, 0, none⟩) hn2 u).trans c2)
  apply wpS_region
  simp [wpOpsS, go_sem, Array.replicate, bodyPostS, results, Tryd.results24, c0, f0, k1, f1, k2, f2]
theorem tok_idle (p0 p1 p2 : Value) (w : World) :
    CallsD Tryd.prog 24 #[p0, p1, p2] .returning w fun e u' w' => e = .returned (.tuple #[]) ∧ u' = .returning ∧ w' = w := by
  have hta : ∀ (w : World), (Instr.typeAssert .nilIface 20 48 true).run Tryd.prog w = .ok (.tuple #[.int .i64 0, .bool false]) w := fun _ => by kernel_rfl
  refine callsD_of_wpS Tryd.func24 rfl fun c₀ cs hu => ?_
  apply wpS_seq
  apply wpS_region
  simp [wpOpsS, go_sem, recoverD, hu, Tryd.ntmps24, Exit.thenS, hta]
  apply wpS_seq
  apply wpS_region
  simp [wpOpsS, go_sem, recoverD, hu, Tryd.ntmps24, Exit.thenS, Array.replicate]
  refine wpS_cond (t := false) (by simp [Act.eval, Array.replicate]) ?_
  simp only [Bool.false_eq_true, if_false]
  refine wpS_of_wp (wp_skip ?_)
  cases c₀
  simp_all [bodyPostS, results, Tryd.results24]
/-- a token, as the code has it. -/
def tokS (s : ByteArray) (x : Nat × Nat × Nat) : S34 := ⟨x.1, (s.extract x.2.1 s.size).extract 0 x.2.2, x.2.1⟩
/-- what Tokens answers. -/
def tokRes (s : ByteArray) : List S34 × Int × Int := match tokN nmL vlL 0 s.data.toList with
  | .error i => ([], (i : Int), 2)
  | .ok l => (l.map (tokS s), 0, 0)
def lex_Tokens.f (a0 : ByteArray) : Option (List S34 × Int × Int) :=
  if a0.size ≤ 140737488351232 then (if 20000 < a0.size then some ([], 0, 4) else some (tokRes a0)) else none
def TokR (s : ByteArray) (w : World) (e : Ending) (w' : World) : Prop := ∃ v l a b, tokRes s = (l, a, b) ∧ e = .returned (.tuple #[v, .int .i64 a, .int .i64 b]) ∧ Kd.R k34 34 w' w.heap.size (fun _ => True) v l ∧ Below w.heap.size w w'
/-- so far: these are the tokens ahead of a place. -/
def TokInv (l : List UInt8) (j : Nat) (pre : List (Nat × Nat × Nat)) : Prop := tokN nmL vlL 0 l = match tokN nmL vlL j (l.drop j) with
  | .error i => .error i
  | .ok r => .ok (pre ++ r)
theorem inv_start (l : List UInt8) : TokInv l 0 [] := by
  unfold TokInv
  rw [List.drop_zero]
  cases tokN nmL vlL 0 l <;> rfl
theorem inv_blank {l : List UInt8} {j : Nat} {pre : List (Nat × Nat × Nat)} (h : TokInv l j pre) (hj : j < l.length) (hb : blankB l[j] = true) : TokInv l (j + 1) pre := by
  unfold TokInv at h ⊢
  rw [h, List.drop_eq_getElem_cons hj, tok_blank nmL vlL j _ _ hb]
theorem inv_more {l : List UInt8} {j : Nat} {pre : List (Nat × Nat × Nat)} (h : TokInv l j pre) (hj : j < l.length) (hb : blankB l[j] = false) (k n : Nat) (hn : nextN nmL vlL (l.drop j) = some (k, n)) : TokInv l (j + n) (pre ++ [(k, j, n)]) := by
  unfold TokInv at h ⊢
  rw [List.drop_eq_getElem_cons hj] at hn h
  rw [tok_more nmL vlL j _ _ hb k n hn] at h
  rw [h, ← List.drop_eq_getElem_cons hj, List.drop_drop]
  cases tokN nmL vlL (j + n) (l.drop (j + n)) with
  | error i => rfl
  | ok r => simp
theorem inv_wrong {l : List UInt8} {j : Nat} {pre : List (Nat × Nat × Nat)} (h : TokInv l j pre) (hj : j < l.length) (hb : blankB l[j] = false) (hn : nextN nmL vlL (l.drop j) = none) : tokN nmL vlL 0 l = .error j := by
  unfold TokInv at h
  rw [List.drop_eq_getElem_cons hj] at hn h
  rw [tok_wrong nmL vlL j _ _ hb hn] at h
  exact h
theorem inv_end {l : List UInt8} {j : Nat} {pre : List (Nat × Nat × Nat)} (h : TokInv l j pre) (hj : l.length ≤ j) : tokN nmL vlL 0 l = .ok pre := by
  unfold TokInv at h
  rw [List.drop_eq_nil_of_le hj, tok_nil] at h
  simpa using h
theorem infoTok : (Tryd.prog.info? 34).map (fun i => (i.zero, i.size, i.bytes)) = some (some (.agg #[.int .i64 0, .string ⟨#[]⟩, .int .i64 0]), 3, 32) := by kernel_rfl
theorem three_blocks (w : World) (o0 o1 o2 : Obj) : (((w.alloc o0).alloc o1).alloc o2).heap[w.heap.size]? = some o0 ∧ (((w.alloc o0).alloc o1).alloc o2).heap[w.heap.size + 1]? = some o1 ∧ (((w.alloc o0).alloc o1).alloc o2).heap[w.heap.size + 2]? = some o2 := by
  have z1 : (w.alloc o0).heap.size = w.heap.size + 1 := by simp
  have z2 : ((w.alloc o0).alloc o1).heap.size = w.heap.size + 2 := by simp
  refine ⟨blk_alloc (blk_alloc (blk_new w o0) _) _, ?_, ?_⟩
  · have := blk_new (w.alloc o0) o1
    rw [z1] at this
    exact blk_alloc this _
  · have := blk_new ((w.alloc o0).alloc o1) o2
    rwa [z2] at this
theorem below_three (w : World) (o0 o1 o2 : Obj) : Below w.heap.size w (((w.alloc o0).alloc o1).alloc o2) := below_alloc (below_alloc (below_alloc (Below.refl _ _) _) _) _
/-- the three named results, while the tokens are gathered. -/
structure TokW (w wr : World) (s : ByteArray) (j : Nat) (pre : List (Nat × Nat × Nat)) (A : Option Addr) (c : Nat) : Prop where
  inv : TokInv s.data.toList j pre
  len : pre.length ≤ j
  b0 : wr.heap[w.heap.size]? = some (.cells #[.slice A pre.length c] 23 (0, 0))
  b1 : wr.heap[w.heap.size + 1]? = some (.cells #[.int .i64 0] 3 (0, 0))
  b2 : wr.heap[w.heap.size + 1 + 1]? = some (.cells #[.int .i64 0] 24 (0, 0))
  own : Kd.R k34 34 wr w.heap.size (fun k => w.heap.size + 3 ≤ k) (.slice A pre.length c) (pre.map (tokS s))
  bel : Below w.heap.size w wr
theorem tokW_start (w : World) (s : ByteArray) : TokW w (((w.alloc (.cells #[.slice none 0 0] 23)).alloc (.cells #[.int .i64 0] 3)).alloc (.cells #[.int .i64 0] 24)) s 0 [] none 0 :=
  ⟨inv_start _, Nat.le_refl _, (three_blocks w _ _ _).1, (three_blocks w _ _ _).2.1, (three_blocks w _ _ _).2.2, Kd.R_nil _ _ _ _ _, below_three w _ _ _⟩
theorem TokW.blank {w wr : World} {s : ByteArray} {j : Nat} {pre : List (Nat × Nat × Nat)} {A : Option Addr} {c : Nat} (h : TokW w wr s j pre A c) (hj : j < s.data.toList.length) (hb : blankB s.data.toList[j] = true) : TokW w wr s (j + 1) pre A c :=
  ⟨inv_blank h.inv hj hb, Nat.le_succ_of_le h.len, h.b0, h.b1, h.b2, h.own, h.bel⟩
/-- behind a token that was appended and stored. -/
theorem TokW.more {w wr w1 w2 : World} {s : ByteArray} {j : Nat} {pre : List (Nat × Nat × Nat)} {A : Option Addr} {c : Nat} (h : TokW w wr s j pre A c) (hj : j < s.data.toList.length) (hb : blankB s.data.toList[j] = false) (k : Nat) (t : ByteArray) (ht : t = (s.extract j s.size).extract 0 t.size) (ht0 : 1 ≤ t.size) (hn : nextN nmL vlL (s.data.toList.drop j) = some (k, t.size))
    (hb1 : Below wr.heap.size wr w1) {v1 : Value} (ho : Kd.R k34 34 w2 w.heap.size (fun k => w.heap.size + 3 ≤ k) v1 (pre.map (tokS s) ++ [⟨k, t, j⟩])) (hb2 : Below w.heap.size w w2) {o : Obj} (hg : (w1.alloc o).grownBy w2 (Value.slice A pre.length c).ownBlock) :
    w2.heap[w.heap.size]? = some (.cells #[.slice A pre.length c] 23 (0, 0)) ∧ w2.heap[w1.heap.size]? = some o ∧ ∃ A' c', v1 = .slice A' (pre.length + 1) c' ∧ TokW w (w2.setCell ⟨w.heap.size, 0, none⟩ (.slice A' (pre.length + 1) c')) s (j + t.size) (pre ++ [(k, j, t.size)]) A' c' := by
  obtain ⟨A', c', e⟩ := Kd.R_slice ho
  have e2 : v1 = .slice A' (pre.length + 1) c' := by rw [e]; congr 1; simp
  subst e2
  have hne : ∀ i, i < 3 → some (w.heap.size + i) ≠ (Value.slice A pre.length c).ownBlock := fun i hi he => by
    have := h.own.1 _ he.symm
    omega
  have keep : ∀ i o', i < 3 → wr.heap[w.heap.size + i]? = some o' → w2.heap[w.heap.size + i]? = some o' := fun i o' hi ho' => blk_grown (blk_alloc (blk_below ho' hb1) _) hg (hne i hi)
  have k0 := keep 0 _ (by omega) h.b0
  have k1 := keep 1 _ (by omega) h.b1
  have k2 := keep 2 _ (by omega) h.b2
  have kb : w2.heap[w1.heap.size]? = some o := blk_grown (blk_new w1 o) hg (fun he => by
    have h1 := Kd.R_lt h.own _ he.symm
    have h2 := hb1.size
    omega)
  refine ⟨k0, kb, A', c', rfl, inv_more h.inv hj hb k t.size hn, by have := h.len; simp; omega, ?_, ?_, ?_, ?_, below_set hb2 (Nat.le_refl _)⟩
  · have := blk_put (cs' := #[.slice A' (pre.length + 1) c']) k0 0 (.slice A' (pre.length + 1) c') rfl
    simpa using this
  · exact blk_far k1 (by show w.heap.size + 1 ≠ w.heap.size; omega) _
  · exact blk_far k2 (by show w.heap.size + 1 + 1 ≠ w.heap.size; omega) _
  · have e3 : (pre ++ [(k, j, t.size)]).map (tokS s) = pre.map (tokS s) ++ [⟨k, t, j⟩] := by
      rw [List.map_append]
      congr 1
      simp only [List.map_cons, List.map_nil, tokS]
      rw [← ht]
    rw [e3, List.length_append]
    exact Kd.R_far (p := ⟨w.heap.size, 0, none⟩) ho (fun k hk => by show k ≠ w.heap.size; omega) _
/-- where all is told. -/
theorem TokW.ends {w wr : World} {s : ByteArray} {j : Nat} {pre : List (Nat × Nat × Nat)} {A : Option Addr} {c : Nat} (h : TokW w wr s j pre A c) (hj : s.size ≤ j) : TokR s w (.returned (.tuple #[.slice A pre.length c, .int .i64 0, .int .i64 0])) (((wr.setCell ⟨w.heap.size, 0, none⟩ (.slice A pre.length c)).setCell ⟨w.heap.size + 1, 0, none⟩ (.int .i64 0)).setCell ⟨w.heap.size + 1 + 1, 0, none⟩ (.int .i64 0)) := by
  refine ⟨_, pre.map (tokS s), 0, 0, ?_, rfl, ?_, ?_⟩
  · unfold tokRes
    rw [inv_end h.inv (by rw [data_length]; exact hj)]
  · have h1 := Kd.R_far (p := ⟨w.heap.size, 0, none⟩) h.own (fun k hk => by show k ≠ w.heap.size; omega) (.slice A pre.length c)
    have h2 := Kd.R_far (p := ⟨w.heap.size + 1, 0, none⟩) h1 (fun k hk => by show k ≠ w.heap.size + 1; omega) (.int .i64 0)
    exact Kd.R_mono (Kd.R_far (p := ⟨w.heap.size + 1 + 1, 0, none⟩) h2 (fun k hk => by show k ≠ w.heap.size + 1 + 1; omega) (.int .i64 0)) (fun _ _ => trivial)
  · exact below_set (below_set (below_set h.bel (Nat.le_refl _)) (by omega)) (by omega)
theorem TokW.wrong {w wr w1 : World} {s : ByteArray} {j : Nat} {pre : List (Nat × Nat × Nat)} {A : Option Addr} {c : Nat} (h : TokW w wr s j pre A c) (hj : j < s.data.toList.length) (hb : blankB s.data.toList[j] = false) (hn : nextN nmL vlL (s.data.toList.drop j) = none) (hb1 : Below wr.heap.size wr w1) :
    TokR s w (.returned (.tuple #[.slice none 0 0, .int .i64 j, .int .i64 2])) (((w1.setCell ⟨w.heap.size, 0, none⟩ (.slice none 0 0)).setCell ⟨w.heap.size + 1, 0, none⟩ (.int .i64 j)).setCell ⟨w.heap.size + 1 + 1, 0, none⟩ (.int .i64 2)) := by
  refine ⟨_, [], _, _, ?_, rfl, Kd.R_nil _ _ _ _ _, ?_⟩
  · unfold tokRes
    rw [inv_wrong h.inv hj hb hn]
  · exact below_set (below_set (below_set (below_step h.bel hb1) (Nat.le_refl _)) (by omega)) (by omega)
set_option maxRecDepth 100000 in
theorem tok_results {W : World} {g0 g1 g2 : Nat} {tmps : Array Value} (t0 : tmps.getD 2 undef = .pointer (some ⟨g0, 0, none⟩)) (t1 : tmps.getD 3 undef = .pointer (some ⟨g1, 0, none⟩)) (t2 : tmps.getD 4 undef = .pointer (some ⟨g2, 0, none⟩))
    {A : Option Addr} {n c : Nat} {a b : Int} (c0 : W.cell? ⟨g0, 0, none⟩ = some (.slice A n c)) (c1 : W.cell? ⟨g1, 0, none⟩ = some (.int .i64 a)) (c2 : W.cell? ⟨g2, 0, none⟩ = some (.int .i64 b)) :
    (results Tryd.f11 tmps).run Tryd.prog W = .ok (.tuple #[.slice A n c, .int .i64 a, .int .i64 b]) W := by
  simp only [Array.getD_eq_getD_getElem?] at t0 t1 t2
  simp [results, Tryd.results11, go_sem, t0, t1, t2, c0, c1, c2]
theorem three_put {W : World} {g : Nat} {x0 x1 x2 : Value} (b0 : W.heap[g]? = some (.cells #[x0] 23 (0, 0))) (b1 : W.heap[g + 1]? = some (.cells #[x1] 3 (0, 0))) (b2 : W.heap[g + 1 + 1]? = some (.cells #[x2] 24 (0, 0))) (y0 y1 y2 : Value) :
    (((W.setCell ⟨g, 0, none⟩ y0).setCell ⟨g + 1, 0, none⟩ y1).setCell ⟨g + 1 + 1, 0, none⟩ y2).cell? ⟨g, 0, none⟩ = some y0 ∧ (((W.setCell ⟨g, 0, none⟩ y0).setCell ⟨g + 1, 0, none⟩ y1).setCell ⟨g + 1 + 1, 0, none⟩ y2).cell? ⟨g + 1, 0, none⟩ = some y1 ∧ (((W.setCell ⟨g, 0, none⟩ y0).setCell ⟨g + 1, 0, none⟩ y1).setCell ⟨g + 1 + 1, 0, none⟩ y2).cell? ⟨g + 1 + 1, 0, none⟩ = some y2 := by
  have k0 := blk_put (cs' := #[y0]) b0 0 y0 rfl
  have k0' := blk_far (blk_far k0 (p := ⟨g + 1, 0, none⟩) (by show g ≠ g + 1; omega) y1) (p := ⟨g + 1 + 1, 0, none⟩) (by show g ≠ g + 1 + 1; omega) y2
  have k1 := blk_put (cs' := #[y1]) (blk_far b1 (p := ⟨g, 0, none⟩) (by show g + 1 ≠ g; omega) y0) 0 y1 rfl
  have k1' := blk_far k1 (p := ⟨g + 1 + 1, 0, none⟩) (by show g + 1 ≠ g + 1 + 1; omega) y2
  have k2 := blk_put (cs' := #[y2]) (blk_far (blk_far b2 (p := ⟨g, 0, none⟩) (by show g + 1 + 1 ≠ g; omega) y0) (p := ⟨g + 1, 0, none⟩) (by show g + 1 + 1 ≠ g + 1; omega) y1) 0 y2 rfl
  exact ⟨(blk_cell k0' 0).trans rfl, (blk_cell k1' 0).trans rfl, (blk_cell k2 0).trans rfl⟩
set_option maxHeartbeats 3200000 in
set_option maxRecDepth 100000 in
theorem tokens_any (s : ByteArray) (hs : s.size ≤ 20000) (w : World) (hLW : LaidW w) :
    Calls Tryd.prog 11 #[.string s] w (TokR s w) := by
  have hmf : ∀ (fn : Fn) (first cap : Array Value) (w : World), (Instr.makeFunc fn first cap).run Tryd.prog w = .ok (.func fn first cap) w := fun _ _ _ _ => rfl
  have e0 : decide ((20000 : Int) < (s.size : Int)) = false := decide_eq_false (by omega)
  have HLW := Aside0.mk hLW
  have H0 := Aside0.mk (tokW_start w s)
  clear hLW
  go_enter_defers Tryd.func11, Tryd.ntmps11
  go_wp2
  go_loopw [5] (fun s5 wr => ∃ (j : Nat) (pre : List (Nat × Nat × Nat)) (A : Option Addr) (c : Nat), j ≤ s.size ∧ s5 = .int .i64 j ∧ Aside0 (TokW w wr s j pre A c)) (fun s5 _ => s.size - (intOf s5).toNat)
  case atStart => exact ⟨0, [], none, 0, Nat.zero_le _, rfl, H0⟩
  case round =>
    clear H0
    obtain ⟨j, pre, A, c, hj, rfl, HT⟩ := hrel
    by_cases hlt : j < s.size
    · have hltz : decide ((j : Int) < (s.size : Int)) = true := decide_eq_true (by omega)
      have HX := Aside0.mk (fun W => Tryd.strings_IndexByte ⟨#[32, 9, 10]⟩ (s[j].toNat : Int) W)
      have hbi := blank_index s[j]
      have hjl : j < s.data.toList.length := by rw [data_length]; exact hlt
      have hgl : s.data.toList[j] = s[j] := getElem_data s j hlt hjl
      generalize Lib.indexByte (⟨#[32, 9, 10]⟩ : ByteArray).data.toList ((s[j].toNat : Int)).toNat.toUInt8 = ix at HX hbi
      cases hb : blankB s[j] with
      | true =>
        rw [hb] at hbi
        have HT1 := Aside0.mk (HT.out.blank hjl (by rw [hgl]; exact hb))
        clear hb hgl hjl
        go_wp2_with (go_at_call 25; refine (HX.out _).mono ?_; rintro e w' ⟨rfl, rfl⟩)
        go_roundw
        case rel => exact ⟨j + 1, pre, A, c, by omega, by go_num, HT1⟩
        case measure => simp [intOf]; omega
      | false =>
        rw [hb] at hbi
        have hbl : blankB s.data.toList[j] = false := by rw [hgl]; exact hb
        have HN := Aside0.mk (fun W (h : LaidW W) => next_any (s.extract j s.size) (by rw [ByteArray.size_extract]; omega) (j : Int) W h (by rw [ByteArray.size_extract]; omega))
        rw [extract_rest] at HN
        have HL := Aside0.mk (HLW.out.below HT.out.bel)
        cases hn : nextN nmL vlL (s.data.toList.drop j) with
        | none =>
          rw [hn] at HN
          have HW := Aside0.mk (fun (w1 : World) hb1 => HT.out.wrong (w1 := w1) hjl hbl hn hb1)
          have HK := Aside0.mk (And.intro HT.out.b0 (And.intro HT.out.b1 HT.out.b2))
          clear hn hb hbl hgl hjl
          go_wp2_with (go_at_call 25; refine (HX.out _).mono ?_; rintro e w' ⟨rfl, rfl⟩)
          refine (HN.out _ HL.out).mono ?_
          rintro e w1 ⟨he, hb1⟩
          obtain rfl := he
          have HR := Aside0.mk (HW.out w1 hb1)
          refine leaves_cons (f := 24) (args := #[.pointer (some ⟨w.heap.size, 0, none⟩), .pointer (some ⟨w.heap.size + 1, 0, none⟩), .pointer (some ⟨w.heap.size + 1 + 1, 0, none⟩)]) (by simp) (by simp [go_sem]) ?_
          refine (tok_caught w.heap.size (w.heap.size + 1) (w.heap.size + 1 + 1) (j : Int) [] _ _ _ _ (blk_below HK.out.1 hb1) (blk_below HK.out.2.1 hb1) (blk_below HK.out.2.2 hb1) (by omega) (by omega) (by omega)).mono ?_
          rintro e u' w'' ⟨rfl, rfl, rfl⟩
          have h3 := three_put (blk_below HK.out.1 hb1) (blk_below HK.out.2.1 hb1) (blk_below HK.out.2.2 hb1) (.slice none 0 0) (.int .i64 j) (.int .i64 2)
          exact ⟨_, tok_results rfl rfl rfl h3.1 h3.2.1 h3.2.2, HR.out⟩
        | some y =>
          obtain ⟨k, n⟩ := y
          have hp := next_pos hn
          rw [List.length_drop, data_length] at hp
          rw [hn] at HN
          have hN2 : ∀ W, LaidW W → Calls Tryd.prog 26 #[.string (s.extract j s.size), .int .i64 j] W fun e w' => e = .returned (.agg #[.int .i64 k, .string ((s.extract j s.size).extract 0 n), .int .i64 j]) ∧ Below W.heap.size W w' := HN.out
          have hsz : ((s.extract j s.size).extract 0 n).size = n := by rw [ByteArray.size_extract, ByteArray.size_extract]; omega
          generalize ht : (s.extract j s.size).extract 0 n = t at hN2 hsz
          subst hsz
          have HW := Aside0.mk (fun (w1 w2 : World) hb1 v1 ho hb2 o hg => HT.out.more (w1 := w1) (w2 := w2) hjl hbl k t ht.symm hp.1 hn hb1 (v1 := v1) ho hb2 (o := o) hg)
          have hjt : j + t.size ≤ s.size := by omega
          have ht0 : 1 ≤ t.size := hp.1
          have HN2 := Aside0.mk hN2
          have HTL := Aside0.mk HT.out.len
          clear hN2 HN hp ht hn hb hbl hgl hjl
          go_wp2_with (go_at_call 25; refine (HX.out _).mono ?_; rintro e w' ⟨rfl, rfl⟩)
          refine (HN2.out _ HL.out).mono ?_
          rintro e w1 ⟨rfl, hb1⟩
          have HB1 := Aside0.mk hb1
          have hz1 : w.heap.size + 1 + 1 < w1.heap.size := Nat.lt_of_lt_of_le (blk_lt HT.out.b2) hb1.size
          have hz0 : w.heap.size < w1.heap.size := by omega
          have hc0 : w1.cell? ⟨w.heap.size, 0, none⟩ = some (.slice A pre.length c) := (blk_cell (blk_below HT.out.b0 hb1) 0).trans rfl
          have hf0 := blk_frozen (blk_below HT.out.b0 hb1) 0
          have HO1 := Aside0.mk (Kd.R_alloc (Kd.R_below HT.out.own hb1) (.cells #[.int .i64 k, .string t, .int .i64 j] 34))
          have HB2 := Aside0.mk (below_alloc (below_step HT.out.bel hb1) (.cells #[.int .i64 k, .string t, .int .i64 j] 34))
          clear hb1
          go_wp2_with ((with_reducible refine gate_builtin (b := .append) (xs := #[.tmp 27, .tmp 29]) rfl ?_); at_builtin; refine Kd.R_append k34 (w0 := w) w.heap.size rfl (.tmp 27) (.tmp 29) 23 34 (.agg #[.int .i64 0, .string ⟨#[]⟩, .int .i64 0]) 32 rfl Tryd.underlying23 infoTok rfl (by decide) (by decide) (.slice A pre.length c) (pre.map (tokS s)) ⟨k, t, j⟩ [.int .i64 k, .string t, .int .i64 j] (fun k => w.heap.size + 3 ≤ k) (fun _ => False) rfl (by first | rfl | (simp; rfl)) (k34_mkM _ _ _ _) (fun _ hk => hk.elim) (fun k hk => by simp at hk; omega) HO1.out HB2.out HB2.out.size (by rw [List.length_map]; have := HTL.out; omega) ?_; intro v1 w2 ho hb hg hat; obtain ⟨hk0, hkb, A', c', rfl, hT⟩ := HW.out w1 w2 HB1.out v1 ho hb _ hg; have HT2 := Aside0.mk hT; have hd0 : w2.cell? ⟨w.heap.size, 0, none⟩ = some (.slice A pre.length c) := (blk_cell hk0 0).trans rfl; have hdf := blk_frozen hk0 0; have hd1 : w2.cell? ⟨w1.heap.size, 1, none⟩ = some (.string t) := (blk_cell hkb 1).trans rfl; have hne : w1.heap.size ≠ w.heap.size := (by omega); clear ho hb hg hat hk0 hkb hT)
          go_roundw
          case rel => exact ⟨j + t.size, pre ++ [(k, j, t.size)], A', c', by omega, by go_num, HT2⟩
          case measure => simp [intOf]; omega
    · have hltz : decide ((j : Int) < (s.size : Int)) = false := decide_eq_false (by omega)
      have HW := Aside0.mk (HT.out.ends (by omega))
      have hc0 : wr.cell? ⟨w.heap.size, 0, none⟩ = some (.slice A pre.length c) := (blk_cell HT.out.b0 0).trans rfl
      have hf0 := blk_frozen HT.out.b0 0
      have hf1 := blk_frozen HT.out.b1 0
      have hf2 := blk_frozen HT.out.b2 0
      have hc1 : wr.cell? ⟨w.heap.size + 1, 0, none⟩ = some (.int .i64 0) := (blk_cell HT.out.b1 0).trans rfl
      have hc2 : wr.cell? ⟨w.heap.size + 1 + 1, 0, none⟩ = some (.int .i64 0) := (blk_cell HT.out.b2 0).trans rfl
      have hz := blk_lt HT.out.b2
      go_wp2
      refine leaves_cons (f := 24) (args := #[.pointer (some ⟨w.heap.size, 0, none⟩), .pointer (some ⟨w.heap.size + 1, 0, none⟩), .pointer (some ⟨w.heap.size + 1 + 1, 0, none⟩)]) (by simp) (by simp [go_sem]) ?_
      refine (tok_idle _ _ _ _).mono ?_
      rintro e u' w'' ⟨rfl, rfl, rfl⟩
      have h3 := three_put HT.out.b0 HT.out.b1 HT.out.b2 (.slice A pre.length c) (.int .i64 0) (.int .i64 0)
      exact ⟨_, tok_results rfl rfl rfl h3.1 h3.2.1 h3.2.2, HW.out⟩
set_option maxHeartbeats 1600000 in
set_option maxRecDepth 100000 in
theorem tokens_long (s : ByteArray) (hs : 20000 < s.size) (w : World) :
    Calls Tryd.prog 11 #[.string s] w fun e w' => e = .returned (.tuple #[.slice none 0 0, .int .i64 0, .int .i64 4]) ∧ Below w.heap.size w w' := by
  have e0 : decide ((20000 : Int) < (s.size : Int)) = true := decide_eq_true (by omega)
  have H3 := Aside0.mk (three_blocks w (.cells #[.slice none 0 0] 23) (.cells #[.int .i64 0] 3) (.cells #[.int .i64 4] 24))
  have HB3 := Aside0.mk (below_three w (.cells #[.slice none 0 0] 23) (.cells #[.int .i64 0] 3) (.cells #[.int .i64 4] 24))
  clear hs
  go_enter_defers Tryd.func11, Tryd.ntmps11
  go_wp2
  exact ⟨_, tok_results rfl rfl rfl ((blk_cell H3.out.1 0).trans rfl) ((blk_cell H3.out.2.1 0).trans rfl) ((blk_cell H3.out.2.2 0).trans rfl), rfl, HB3.out⟩
theorem lex_Tokens.calls (a0 : ByteArray) (r1 : List S34) (r2 : Int) (r3 : Int) (w : World) (hLW : LaidW w) (h : lex_Tokens.f a0 = some (r1, r2, r3)) :
    Calls Tryd.prog 11 #[.string a0] w fun e w' => ∃ v0_ : Value, e = .returned (.tuple #[v0_, .int .i64 r2, .int .i64 r3]) ∧ Kd.R k34 34 w' w.heap.size (fun _ => True) v0_ r1 ∧ Below w.heap.size w w' := by
  unfold lex_Tokens.f at h
  split at h
  · split at h
    · rename_i hl
      injection h with h; injection h with e1 h; injection h with e2 e3
      subst e1; subst e2; subst e3
      refine (tokens_long a0 hl w).mono ?_
      rintro e w' ⟨rfl, hb⟩
      exact ⟨_, rfl, Kd.R_nil _ _ _ _ _, hb⟩
    · rename_i hl
      injection h with h
      refine (tokens_any a0 (by omega) w hLW).mono ?_
      rintro e w' ⟨v, l, a, b, he, rfl, hr, hb⟩
      rw [h] at he
      injection he with e1 he; injection he with e2 e3
      subst e1; subst e2; subst e3
      exact ⟨v, rfl, hr, hb⟩
  · cases h
end Go.Proofs.YthebhbomlllpeaaDoor.X
namespace Go.Proofs.YthebhbomlllpeaaDoor.X
open Go.RowKit Go.Proofs.YthebhbomlllpeaaDoorW.PrintWords Go.Proofs.YthebhbomlllpeaaDoorW.PrintLast Go.Proofs.YthebhbomlllpeaaDoorW.PrintMore
private theorem max2_mx_p202 (k k' : IntKind) (x y : Int) : Builtin.max2 (.int k x) (.int k' y) = pure (.int k (mx x y)) := by rw [max2_int]; rfl
private theorem min2_mn_p202 (k k' : IntKind) (x y : Int) : Builtin.min2 (.int k x) (.int k' y) = pure (.int k (mn x y)) := by rw [min2_int]; rfl
attribute [local go_sem] max2_mx_p202 min2_mn_p202 max_two min_two max_three min_three max_four min_four
set_option linter.unusedVariables false
set_option linter.unusedSimpArgs false
def parse_Deep.l0 : Nat → Int → Int → List (S34) → Int → Int → Option (Int)
  | 0, _, _, _, _, _ => none
  | k + 1, x6, x7, x16, x17, x18 => if x18 < x17 then (if 0 ≤ x18 then (if x18 < (x16.length : Int) then (if ((rd_T34 x16 x18).f1).toList = ([40] : List UInt8) then (parse_Deep.l0 k (wrap64 (x6 + 1)) (mx x7 (wrap64 (x6 + 1))) x16 x17 (wrap64 (x18 + 1))) else (if ((rd_T34 x16 x18).f1).toList = ([41] : List UInt8) then (parse_Deep.l0 k (mx 0 (wrap64 (x6 - 1))) (mx x7 (mx 0 (wrap64 (x6 - 1)))) x16 x17 (wrap64 (x18 + 1))) else (parse_Deep.l0 k x6 (mx x7 x6) x16 x17 (wrap64 (x18 + 1))))) else (none)) else (none)) else (some x7)
def parse_Deep.f (k : Nat) (a0 : ByteArray) : Option (Int) := (lex_Tokens.f a0).bind fun bt117 => (parse_Deep.l0 k 0 0 bt117.1 (bt117.1.length : Int) 0)
set_option maxHeartbeats 8000000 in
set_option maxRecDepth 100000 in
theorem parse_Deep.calls (k : Nat) (a0 : ByteArray) (r : Int) (w : World) (hLW : LaidW w) (h : parse_Deep.f k a0 = some r) :
    Calls Tryd.prog 48 #[.string a0] w fun e w' => e = .returned (.int .i64 r) ∧ Below w.heap.size w w' := by
  have hu34 := Tryd.underlying34
  have HLW := Aside0.mk hLW
  clear hLW
  have HB := Aside0.mk (Below.refl w.heap.size w)
  have H : ((lex_Tokens.f a0).bind fun bt117 => (parse_Deep.l0 k 0 0 bt117.1 (bt117.1.length : Int) 0)) = some r := h
  clear h
  replace H := Option.bind_eq_some_iff.mp H
  obtain ⟨⟨t117, t118, t119⟩, A20, H⟩ := H
  replace H : (parse_Deep.l0 k 0 0 t117 (t117.length : Int) 0) = some r := H
  have A2 := Aside0.mk A20
  clear A20
  have H' := Aside0.mk H
  clear H
  go_enter Tryd.func48, Tryd.ntmps48
  go_wp2_with (first | ((with_reducible refine gate_callee (f := 11) rfl ?_); refine goesL_ (some 12) rfl rfl Tryd.func11 (by kernel_rfl) rfl #[.string a0] rfl (by (try simp only [List.map_toArray, List.map_cons, List.map_nil]); first | done | rfl | (simp only [List.length_drop, List.length_take]; rfl)) ?_; (with_reducible refine (lex_Tokens.calls a0 t117 t118 t119 _ ?side1 A2.out).mono ?_); (case side1 => (first | (refine LaidW.below HLW.out ?_; (repeat (first | (with_reducible first | exact HB.out | apply below_alloc | apply pw_below_drewN | apply below_drew1) | exact HB.out)); done) | (repeat (first | exact HLW.out | apply LaidW.drewN | apply LaidW.drew | apply LaidW.alloc)))); rintro e w3 ⟨v120, rfl, ho0, hb⟩; refine ⟨_, rfl, ?_⟩; have n0_ := Aside0.mk (Kd.R_lower ho0 (below_size (by repeat (first | (with_reducible first | exact HB.out | apply below_alloc | apply pw_below_drewN | apply below_drew1) | exact HB.out)))); have n1_ := Aside0.mk (below_step (by repeat (first | (with_reducible first | exact HB.out | apply below_alloc | apply pw_below_drewN | apply below_drew1) | exact HB.out)) hb); clear HB; have HO121 := n0_; have HB := n1_; clear n0_ n1_; (try clear hb); (try clear hb2); (try clear hk); (try clear hi); (try clear ho0); obtain ⟨Ao4, co4, eo4⟩ := Kd.R_slice HO121.out; subst eo4))
  go_loopg [6, 7, 18] k (fun kq v6 v7 v18 w' => ∃ (x6_1 : Int) (x7_1 : Int) (x18_1 : Int), v6 = .int .i64 x6_1 ∧ v7 = .int .i64 x7_1 ∧ v18 = .int .i64 x18_1 ∧ Aside0 (parse_Deep.l0 kq x6_1 x7_1 t117 (t117.length : Int) x18_1 = some r) ∧ Aside0 (kq ≤ k) ∧ Aside0 (Kd.R k34 34 w' w.heap.size (fun _ => True) (.slice Ao4 t117.length co4) t117) ∧ Aside0 (Below w.heap.size w w'))
  case atStart => exact ⟨(0), (0), (0), (by first | rfl | (simp; done) | (simp [*]; done)), (by first | rfl | (simp; done) | (simp [*]; done)), (by first | rfl | (simp; done) | (simp [*]; done)), H', ⟨Nat.le_refl _⟩, ⟨by (with_reducible repeat (first | apply Kd.R_alloc | apply Kd.R_drewN | apply Kd.R_drew)); exact HO121.out⟩, ⟨by repeat (first | (with_reducible first | exact HB.out | apply below_alloc | apply pw_below_drewN | apply below_drew1) | exact HB.out)⟩⟩
  case round =>
    clear H'
    try clear c1
    try clear p2
    try clear c4
    obtain ⟨x6_1, x7_1, x18_1, rfl, rfl, rfl, HA, HK1, HO_16, HB⟩ := hrel
    cases gk with
    | zero => exact absurd HA.out (by simp [parse_Deep.l0])
    | succ k1 =>
      have H := HA.out
      clear HA
      simp only [parse_Deep.l0] at H
      by_cases c5 : x18_1 < (t117.length : Int)
      · rw [if_pos c5] at H
        have c5b0 : decide (x18_1 < (t117.length : Int)) = true := decide_eq_true c5
        clear c5
        by_cases c6 : 0 ≤ x18_1
        · rw [if_pos c6] at H
          have c6b0 : decide (0 ≤ x18_1) = true := decide_eq_true c6
          clear c6
          by_cases c7 : x18_1 < (t117.length : Int)
          · rw [if_pos c7] at H
            have c7b0 : decide (x18_1 < (t117.length : Int)) = true := decide_eq_true c7
            clear c7
            by_cases c8 : ((rd_T34 t117 x18_1).f1).toList = ([40] : List UInt8)
            · rw [if_pos c8] at H
              have c8b0 : (((rd_T34 t117 x18_1).f1).toList == ([40] : List UInt8)) = true := beq_iff_eq.mpr c8
              have c8b1 : (((rd_T34 t117 x18_1).f1).toList != ([40] : List UInt8)) = false := bne_eq_false_iff_eq.mpr c8
              clear c8
              obtain ⟨ji9, hji9⟩ : ∃ j_ : Int, (mx x7_1 (wrap64 (x6_1 + 1))) = j_ := ⟨_, rfl⟩
              replace H : (parse_Deep.l0 k1 (wrap64 (x6_1 + 1)) ji9 t117 (t117.length : Int) (wrap64 (x18_1 + 1))) = some r := by first | (rw [hji9] at H; exact H) | (simp only [hji9] at H ⊢; exact H)
              have hji9_ : (if x7_1 < (wrap64 (x6_1 + 1)) then (wrap64 (x6_1 + 1)) else x7_1) = ji9 := hji9
              have H' := Aside0.mk H
              clear H
              have p122 : 0 ≤ (x18_1 : Int) := of_decide_eq_true (by first | (with_reducible assumption) | assumption)
              have q122 : x18_1 < (t117.length : Int) := of_decide_eq_true (by first | (with_reducible assumption) | assumption)
              obtain ⟨ad122, e122, hx122_0, hx122_1, hx122_2⟩ := at_T34 (Kd.R_reads' HO_16.out).2.2 x18_1 p122 q122
              cases e122
              replace p122 := eq_true p122
              replace q122 := eq_true q122
              go_wp2_with (first | ((with_reducible refine gate_dst (N := 9) rfl ?_); refine box_event ?hg (N := 9) ?hd (cs := #[.int .i64 0, .string (⟨#[]⟩ : ByteArray), .int .i64 0]) (t := 34) ?hr ?_; (case hd => rfl); (case hg => rfl); (case hr => first | (go_simp; done) | (go_simp; rfl)); intro gb123 hg w10 hbox hb; have n0_ := Aside0.mk (Kd.R_below (Kd.R_elderB (by (with_reducible repeat (first | apply Kd.R_alloc | apply Kd.R_drewN | apply Kd.R_drew)); exact HO_16.out) gb123 (Nat.le_of_eq hg.symm)) hb); have n1_ := Aside0.mk (below_step (by repeat (first | (with_reducible first | exact HB.out | apply below_alloc | apply pw_below_drewN | apply below_drew1) | exact HB.out)) hb); have n2_ := Aside0.mk (hbox); have n3_ := Aside0.mk ((by rw [hg]; exact (below_size (by repeat (first | (with_reducible first | exact HB.out | apply below_alloc | apply pw_below_drewN | apply below_drew1) | exact HB.out))) : w.heap.size ≤ gb123)); have n4_ := Aside0.mk ((by rw [hg]; exact (below_size (by repeat (first | (with_reducible first | exact HB.out | apply below_alloc | apply pw_below_drewN | apply below_drew1) | exact HB.out))) : w.heap.size ≤ gb123)); clear HO_16; clear HB; have HO_16 := n0_; have HB := n1_; have BK123 := n2_; have GW123 := n3_; have GE123 := n4_; clear n0_ n1_ n2_ n3_ n4_; clear hb hbox hg; have hcz11_0 : w10.cell? ⟨gb123, 0, none⟩ = some (.int .i64 0) := (blk_cell BK123.out 0).trans rfl; have hcz11_1 : w10.cell? ⟨gb123, 1, none⟩ = some (.string (⟨#[]⟩ : ByteArray)) := (blk_cell BK123.out 1).trans rfl; have hcz11_2 : w10.cell? ⟨gb123, 2, none⟩ = some (.int .i64 0) := (blk_cell BK123.out 2).trans rfl; have hfz11_0 := blk_frozen BK123.out 0; have hfz11_1 := blk_frozen BK123.out 1; have hfz11_2 := blk_frozen BK123.out 2))
              go_roundg k1
              case measure => have := HK1.out; omega
              case rel => exact ⟨(wrap64 (x6_1 + 1)), (ji9), (wrap64 (x18_1 + 1)), (by first | rfl | (simp; done) | (simp [*]; done)), (by first | rfl | (simp; done) | (simp only [← hji9] <;> (first | rfl | simp)) | (simp [*]; done)), (by first | rfl | (simp; done) | (simp [*]; done)), H', ⟨by have := HK1.out; omega⟩, ⟨by (with_reducible repeat (first | apply Kd.R_alloc | apply Kd.R_drewN | apply Kd.R_drew)); exact Kd.R_mono (Kd.R_far (p := ⟨gb123, 2, none⟩) (Kd.R_far (p := ⟨gb123, 1, none⟩) (Kd.R_far (p := ⟨gb123, 0, none⟩) (Kd.R_mono HO_16.out (fun k_ hk => (⟨hk, hk.2⟩ : _ ∧ k_ ≠ gb123))) (fun _ hk => hk.2) (.int .i64 ((rd_T34 t117 x18_1).f0))) (fun _ hk => hk.2) (.string ((rd_T34 t117 x18_1).f1))) (fun _ hk => hk.2) (.int .i64 ((rd_T34 t117 x18_1).f2))) (fun _ hk => trivial)⟩, ⟨by repeat (first | (with_reducible first | exact HB.out | apply below_alloc | apply pw_below_drewN | apply below_drew1 | refine below_set ?_ GE123.out) | exact HB.out)⟩⟩
            · rw [if_neg c8] at H
              have c8b0 : (((rd_T34 t117 x18_1).f1).toList == ([40] : List UInt8)) = false := beq_eq_false_iff_ne.mpr c8
              have c8b1 : (((rd_T34 t117 x18_1).f1).toList != ([40] : List UInt8)) = true := bne_iff_ne.mpr c8
              by_cases c12 : ((rd_T34 t117 x18_1).f1).toList = ([41] : List UInt8)
              · rw [if_pos c12] at H
                have c12b0 : (((rd_T34 t117 x18_1).f1).toList == ([41] : List UInt8)) = true := beq_iff_eq.mpr c12
                have c12b1 : (((rd_T34 t117 x18_1).f1).toList != ([41] : List UInt8)) = false := bne_eq_false_iff_eq.mpr c12
                clear c12
                obtain ⟨ji13, hji13⟩ : ∃ j_ : Int, (mx 0 (wrap64 (x6_1 - 1))) = j_ := ⟨_, rfl⟩
                replace H : (parse_Deep.l0 k1 ji13 (mx x7_1 (ji13)) t117 (t117.length : Int) (wrap64 (x18_1 + 1))) = some r := by first | (rw [hji13] at H; exact H) | (simp only [hji13] at H ⊢; exact H)
                have hji13_ : (if 0 < (wrap64 (x6_1 - 1)) then (wrap64 (x6_1 - 1)) else 0) = ji13 := hji13
                obtain ⟨ji14, hji14⟩ : ∃ j_ : Int, (mx x7_1 (ji13)) = j_ := ⟨_, rfl⟩
                replace H : (parse_Deep.l0 k1 ji13 ji14 t117 (t117.length : Int) (wrap64 (x18_1 + 1))) = some r := by first | (rw [hji14] at H; exact H) | (simp only [hji14] at H ⊢; exact H)
                have hji14_ : (if x7_1 < (ji13) then (ji13) else x7_1) = ji14 := hji14
                have H' := Aside0.mk H
                clear H
                have p122 : 0 ≤ (x18_1 : Int) := of_decide_eq_true (by first | (with_reducible assumption) | assumption)
                have q122 : x18_1 < (t117.length : Int) := of_decide_eq_true (by first | (with_reducible assumption) | assumption)
                obtain ⟨ad122, e122, hx122_0, hx122_1, hx122_2⟩ := at_T34 (Kd.R_reads' HO_16.out).2.2 x18_1 p122 q122
                cases e122
                replace p122 := eq_true p122
                replace q122 := eq_true q122
                go_wp2_with (first | ((with_reducible refine gate_dst (N := 9) rfl ?_); refine box_event ?hg (N := 9) ?hd (cs := #[.int .i64 0, .string (⟨#[]⟩ : ByteArray), .int .i64 0]) (t := 34) ?hr ?_; (case hd => rfl); (case hg => rfl); (case hr => first | (go_simp; done) | (go_simp; rfl)); intro gb123 hg w15 hbox hb; have n0_ := Aside0.mk (Kd.R_below (Kd.R_elderB (by (with_reducible repeat (first | apply Kd.R_alloc | apply Kd.R_drewN | apply Kd.R_drew)); exact HO_16.out) gb123 (Nat.le_of_eq hg.symm)) hb); have n1_ := Aside0.mk (below_step (by repeat (first | (with_reducible first | exact HB.out | apply below_alloc | apply pw_below_drewN | apply below_drew1) | exact HB.out)) hb); have n2_ := Aside0.mk (hbox); have n3_ := Aside0.mk ((by rw [hg]; exact (below_size (by repeat (first | (with_reducible first | exact HB.out | apply below_alloc | apply pw_below_drewN | apply below_drew1) | exact HB.out))) : w.heap.size ≤ gb123)); have n4_ := Aside0.mk ((by rw [hg]; exact (below_size (by repeat (first | (with_reducible first | exact HB.out | apply below_alloc | apply pw_below_drewN | apply below_drew1) | exact HB.out))) : w.heap.size ≤ gb123)); clear HO_16; clear HB; have HO_16 := n0_; have HB := n1_; have BK123 := n2_; have GW123 := n3_; have GE123 := n4_; clear n0_ n1_ n2_ n3_ n4_; clear hb hbox hg; have hcz16_0 : w15.cell? ⟨gb123, 0, none⟩ = some (.int .i64 0) := (blk_cell BK123.out 0).trans rfl; have hcz16_1 : w15.cell? ⟨gb123, 1, none⟩ = some (.string (⟨#[]⟩ : ByteArray)) := (blk_cell BK123.out 1).trans rfl; have hcz16_2 : w15.cell? ⟨gb123, 2, none⟩ = some (.int .i64 0) := (blk_cell BK123.out 2).trans rfl; have hfz16_0 := blk_frozen BK123.out 0; have hfz16_1 := blk_frozen BK123.out 1; have hfz16_2 := blk_frozen BK123.out 2))
                go_roundg k1
                case measure => have := HK1.out; omega
                case rel => exact ⟨(ji13), (ji14), (wrap64 (x18_1 + 1)), (by first | rfl | (simp; done) | (simp only [← hji13] <;> (first | rfl | simp)) | (simp [*]; done)), (by first | rfl | (simp; done) | (simp only [← hji14] <;> (first | rfl | simp)) | (simp [*]; done)), (by first | rfl | (simp; done) | (simp [*]; done)), H', ⟨by have := HK1.out; omega⟩, ⟨by (with_reducible repeat (first | apply Kd.R_alloc | apply Kd.R_drewN | apply Kd.R_drew)); exact Kd.R_mono (Kd.R_far (p := ⟨gb123, 2, none⟩) (Kd.R_far (p := ⟨gb123, 1, none⟩) (Kd.R_far (p := ⟨gb123, 0, none⟩) (Kd.R_mono HO_16.out (fun k_ hk => (⟨hk, hk.2⟩ : _ ∧ k_ ≠ gb123))) (fun _ hk => hk.2) (.int .i64 ((rd_T34 t117 x18_1).f0))) (fun _ hk => hk.2) (.string ((rd_T34 t117 x18_1).f1))) (fun _ hk => hk.2) (.int .i64 ((rd_T34 t117 x18_1).f2))) (fun _ hk => trivial)⟩, ⟨by repeat (first | (with_reducible first | exact HB.out | apply below_alloc | apply pw_below_drewN | apply below_drew1 | refine below_set ?_ GE123.out) | exact HB.out)⟩⟩
              · rw [if_neg c12] at H
                have c12b0 : (((rd_T34 t117 x18_1).f1).toList == ([41] : List UInt8)) = false := beq_eq_false_iff_ne.mpr c12
                have c12b1 : (((rd_T34 t117 x18_1).f1).toList != ([41] : List UInt8)) = true := bne_iff_ne.mpr c12
                obtain ⟨ji17, hji17⟩ : ∃ j_ : Int, (mx x7_1 x6_1) = j_ := ⟨_, rfl⟩
                replace H : (parse_Deep.l0 k1 x6_1 ji17 t117 (t117.length : Int) (wrap64 (x18_1 + 1))) = some r := by first | (rw [hji17] at H; exact H) | (simp only [hji17] at H ⊢; exact H)
                have hji17_ : (if x7_1 < x6_1 then x6_1 else x7_1) = ji17 := hji17
                have H' := Aside0.mk H
                clear H
                have p122 : 0 ≤ (x18_1 : Int) := of_decide_eq_true (by first | (with_reducible assumption) | assumption)
                have q122 : x18_1 < (t117.length : Int) := of_decide_eq_true (by first | (with_reducible assumption) | assumption)
                obtain ⟨ad122, e122, hx122_0, hx122_1, hx122_2⟩ := at_T34 (Kd.R_reads' HO_16.out).2.2 x18_1 p122 q122
                cases e122
                replace p122 := eq_true p122
                replace q122 := eq_true q122
                go_wp2_with (first | ((with_reducible refine gate_dst (N := 9) rfl ?_); refine box_event ?hg (N := 9) ?hd (cs := #[.int .i64 0, .string (⟨#[]⟩ : ByteArray), .int .i64 0]) (t := 34) ?hr ?_; (case hd => rfl); (case hg => rfl); (case hr => first | (go_simp; done) | (go_simp; rfl)); intro gb123 hg w18 hbox hb; have n0_ := Aside0.mk (Kd.R_below (Kd.R_elderB (by (with_reducible repeat (first | apply Kd.R_alloc | apply Kd.R_drewN | apply Kd.R_drew)); exact HO_16.out) gb123 (Nat.le_of_eq hg.symm)) hb); have n1_ := Aside0.mk (below_step (by repeat (first | (with_reducible first | exact HB.out | apply below_alloc | apply pw_below_drewN | apply below_drew1) | exact HB.out)) hb); have n2_ := Aside0.mk (hbox); have n3_ := Aside0.mk ((by rw [hg]; exact (below_size (by repeat (first | (with_reducible first | exact HB.out | apply below_alloc | apply pw_below_drewN | apply below_drew1) | exact HB.out))) : w.heap.size ≤ gb123)); have n4_ := Aside0.mk ((by rw [hg]; exact (below_size (by repeat (first | (with_reducible first | exact HB.out | apply below_alloc | apply pw_below_drewN | apply below_drew1) | exact HB.out))) : w.heap.size ≤ gb123)); clear HO_16; clear HB; have HO_16 := n0_; have HB := n1_; have BK123 := n2_; have GW123 := n3_; have GE123 := n4_; clear n0_ n1_ n2_ n3_ n4_; clear hb hbox hg; have hcz19_0 : w18.cell? ⟨gb123, 0, none⟩ = some (.int .i64 0) := (blk_cell BK123.out 0).trans rfl; have hcz19_1 : w18.cell? ⟨gb123, 1, none⟩ = some (.string (⟨#[]⟩ : ByteArray)) := (blk_cell BK123.out 1).trans rfl; have hcz19_2 : w18.cell? ⟨gb123, 2, none⟩ = some (.int .i64 0) := (blk_cell BK123.out 2).trans rfl; have hfz19_0 := blk_frozen BK123.out 0; have hfz19_1 := blk_frozen BK123.out 1; have hfz19_2 := blk_frozen BK123.out 2))
                go_roundg k1
                case measure => have := HK1.out; omega
                case rel => exact ⟨(x6_1), (ji17), (wrap64 (x18_1 + 1)), (by first | rfl | (simp; done) | (simp [*]; done)), (by first | rfl | (simp; done) | (simp only [← hji17] <;> (first | rfl | simp)) | (simp [*]; done)), (by first | rfl | (simp; done) | (simp [*]; done)), H', ⟨by have := HK1.out; omega⟩, ⟨by (with_reducible repeat (first | apply Kd.R_alloc | apply Kd.R_drewN | apply Kd.R_drew)); exact Kd.R_mono (Kd.R_far (p := ⟨gb123, 2, none⟩) (Kd.R_far (p := ⟨gb123, 1, none⟩) (Kd.R_far (p := ⟨gb123, 0, none⟩) (Kd.R_mono HO_16.out (fun k_ hk => (⟨hk, hk.2⟩ : _ ∧ k_ ≠ gb123))) (fun _ hk => hk.2) (.int .i64 ((rd_T34 t117 x18_1).f0))) (fun _ hk => hk.2) (.string ((rd_T34 t117 x18_1).f1))) (fun _ hk => hk.2) (.int .i64 ((rd_T34 t117 x18_1).f2))) (fun _ hk => trivial)⟩, ⟨by repeat (first | (with_reducible first | exact HB.out | apply below_alloc | apply pw_below_drewN | apply below_drew1 | refine below_set ?_ GE123.out) | exact HB.out)⟩⟩
          · rw [if_neg c7] at H
            exact absurd H (by simp)
        · rw [if_neg c6] at H
          exact absurd H (by simp)
      · rw [if_neg c5] at H
        have c5b0 : decide (x18_1 < (t117.length : Int)) = false := decide_eq_false c5
        clear c5
        obtain rfl := Option.some.inj H
        go_wp2
        go_ret
        exact ⟨by first | rfl | (simp [errW_none, errW_some] <;> rfl) | (simp [*, errW_none, errW_some] <;> rfl), by repeat (first | (with_reducible first | exact HB.out | apply below_alloc | apply pw_below_drewN | apply below_drew1) | exact HB.out)⟩
end Go.Proofs.YthebhbomlllpeaaDoor.X
namespace Go.Proofs.YthebhbomlllpeaaDoor.X
set_option linter.unusedVariables false
set_option linter.unusedSimpArgs false
open Go.RowKit Go.Proofs.YthebhbomlllpeaaDoorW.PrintWords Go.Proofs.YthebhbomlllpeaaDoorW.PrintLast Go.Proofs.YthebhbomlllpeaaDoorW.PrintMore
def tkOf (x : S34) : TK := (x.f0, x.f1)
/-- what lex.Tokens answers. -/
def lexRes (s : ByteArray) : List S34 × Int × Int := if 20000 < s.size then ([], 0, 4) else tokRes s
theorem lex_f (s : ByteArray) (hs : s.size ≤ 140737488351232) : lex_Tokens.f s = some ((lexRes s).1, (lexRes s).2.1, (lexRes s).2.2) := by
  unfold lex_Tokens.f lexRes
  rw [if_pos hs]
  split <;> rfl
theorem cov_each8 {full : List UInt8} : ∀ (l : List (Nat × Nat × Nat)) (a : Nat), covT nmL vlL full a l → ∀ x ∈ l, nextN nmL vlL (full.drop x.2.1) = some (x.1, x.2.2) ∧ x.2.1 + x.2.2 ≤ full.length ∧ 1 ≤ x.2.2
  | [], _, _ => fun x hx => by cases hx
  | y :: l, a, ⟨h1, h2, h3, h4, h5, h6, h7, h8⟩ => fun x hx => by
    rcases List.mem_cons.1 hx with rfl | hx
    · exact ⟨h6, h3, h2⟩
    · exact cov_each8 l _ h8 x hx
theorem tokS_txt8 (s : ByteArray) (x : Nat × Nat × Nat) : (tokS s x).f1.data.toList = (s.data.toList.drop x.2.1).take x.2.2 := by
  simp only [tokS]; rw [extract_list, extract_rest]; simp
/-- a token is not empty; a word is no ( and no ). -/
def TokOk (t : TK) : Prop := 0 < t.2.size ∧ (t.1 = 1 → t.2.data.toList ≠ [40] ∧ t.2.data.toList ≠ [41])
theorem tok_ok {s : ByteArray} {l : List (Nat × Nat × Nat)} (h : tokN nmL vlL 0 s.data.toList = .ok l) : ∀ x ∈ l, TokOk (tkOf (tokS s x)) := fun x hx => by
  have hc := tok_cov nmL vlL s.data.toList _ 0 l (Nat.le_refl _) (by simpa using h)
  obtain ⟨hn, hle, h1⟩ := cov_each8 l 0 hc x hx
  have ht := tokS_txt8 s x
  refine ⟨?_, fun h0 => ?_⟩
  · show 0 < (tokS s x).f1.size
    rw [← data_length, ht, List.length_take, List.length_drop]
    omega
  · have hk : x.1 = 1 := by
      have : ((x.1 : Nat) : Int) = 1 := h0
      omega
    rw [hk] at hn
    show (tokS s x).f1.data.toList ≠ [40] ∧ (tokS s x).f1.data.toList ≠ [41]
    rw [ht]
    cases hd : s.data.toList.drop x.2.1 with
    | nil => exact ⟨by simp, by simp⟩
    | cons c r =>
      rw [hd] at hn
      obtain ⟨hs, _⟩ := next_word hn
      refine ⟨fun e => ?_, fun e => ?_⟩
      all_goals
        obtain ⟨m, hm⟩ : ∃ m, x.2.2 = m + 1 := ⟨x.2.2 - 1, by omega⟩
        rw [hm, List.take_succ_cons] at e
        injection e with e1 e2
        subst e1
        exact absurd hs (by decide)
/-- a text that has tokens: each is so; they are no more than its bytes. -/
theorem lex_ok {s : ByteArray} (hs : s.size ≤ 20000) (h : (lexRes s).2.2 = 0) : (∀ t ∈ (lexRes s).1.map tkOf, TokOk t) ∧ (lexRes s).1.length ≤ s.size := by
  unfold lexRes at h ⊢
  rw [if_neg (by omega)] at h ⊢
  unfold tokRes at h ⊢
  cases ht : tokN nmL vlL 0 s.data.toList with
  | error i => rw [ht] at h; cases h
  | ok l =>
    simp only
    refine ⟨fun t hm => ?_, ?_⟩
    · rw [List.map_map, List.mem_map] at hm
      obtain ⟨x, hx, rfl⟩ := hm
      exact tok_ok ht x hx
    · have hn := tok_count nmL vlL _ s.data.toList 0 l (Nat.le_refl _) ht
      rw [data_length] at hn
      simpa using hn
theorem mx8 (a b : Nat) : mx (a : Int) (b : Int) = ((max a b : Nat) : Int) := by unfold mx; split <;> omega
theorem deep_loop (ts : List S34) (hl : ts.length ≤ 20000) : ∀ (d i o m k : Nat), ts.length - i = d → i ≤ ts.length → d < k → o ≤ i → parse_Deep.l0 k (o : Int) (m : Int) ts (ts.length : Int) (i : Int) = some (((deepF (o, m) (txts ((ts.drop i).map tkOf))).2 : Nat) : Int) := by
  intro d
  induction d with
  | zero =>
    intro i o m k hd hi hk ho
    obtain ⟨k, rfl⟩ : ∃ j, k = j + 1 := ⟨k - 1, by omega⟩
    simp only [parse_Deep.l0]
    rw [if_neg (by omega), List.drop_eq_nil_of_le (by omega)]
    rfl
  | succ d ih =>
    intro i o m k hd hi hk ho
    obtain ⟨k, rfl⟩ : ∃ j, k = j + 1 := ⟨k - 1, by omega⟩
    have hlt : i < ts.length := by omega
    simp only [parse_Deep.l0]
    rw [if_pos (by omega), if_pos (by omega), if_pos (by omega)]
    have hr : rd_T34 ts (i : Int) = ts[i] := by
      show ts.getD (Int.toNat (i : Int)) _ = _
      rw [Int.toNat_natCast, List.getD_eq_getElem?_getD, List.getElem?_eq_getElem hlt]
      rfl
    have hw1 : wrap64 ((i : Int) + 1) = ((i + 1 : Nat) : Int) := by unfold wrap64; omega
    have hw2 : wrap64 ((o : Int) + 1) = ((o + 1 : Nat) : Int) := by unfold wrap64; omega
    have hw3 : mx 0 (wrap64 ((o : Int) - 1)) = ((o - 1 : Nat) : Int) := by
      have : wrap64 ((o : Int) - 1) = (o : Int) - 1 := by unfold wrap64; omega
      rw [this]; unfold mx; split <;> omega
    have hf : deepF (o, m) (txts ((ts.drop i).map tkOf)) = deepF (deep1 (o, m) (ts[i].f1.data.toList)) (txts ((ts.drop (i + 1)).map tkOf)) := by
      rw [List.drop_eq_getElem_cons hlt]
      rfl
    rw [hr, hw1, hw2, hw3, hf, toList_data]
    by_cases h40 : ts[i].f1.data.toList = [40]
    · rw [if_pos h40, mx8, ih (i + 1) (o + 1) (max m (o + 1)) k (by omega) (by omega) (by omega) (by omega)]
      unfold deep1
      rw [if_pos h40]
    · rw [if_neg h40]
      by_cases h41 : ts[i].f1.data.toList = [41]
      · rw [if_pos h41, mx8, ih (i + 1) (o - 1) (max m (o - 1)) k (by omega) (by omega) (by omega) (by omega)]
        unfold deep1
        rw [if_neg h40, if_pos h41]
      · rw [if_neg h41, mx8, ih (i + 1) o (max m o) k (by omega) (by omega) (by omega) (by omega)]
        unfold deep1
        rw [if_neg h40, if_neg h41]
theorem deep_f (s : ByteArray) (hs : s.size ≤ 20000) (hl : (lexRes s).1.length ≤ 20000) : parse_Deep.f ((lexRes s).1.length + 1) s = some (((deepF (0, 0) (txts ((lexRes s).1.map tkOf))).2 : Nat) : Int) := by
  unfold parse_Deep.f
  rw [lex_f s (by omega)]
  exact deep_loop (lexRes s).1 hl _ 0 0 0 _ rfl (Nat.zero_le _) (by omega) (Nat.le_refl _)
end Go.Proofs.YthebhbomlllpeaaDoor.X
namespace Go.Proofs.YthebhbomlllpeaaDoor.X
set_option linter.unusedVariables false
set_option linter.unusedSimpArgs false
open Go.RowKit Go.Proofs.YthebhbomlllpeaaDoorW.PrintWords Go.Proofs.YthebhbomlllpeaaDoorW.PrintLast Go.Proofs.YthebhbomlllpeaaDoorW.PrintMore
/-- texts of things, if all of them have one, with something between them. -/
def eachL (ws : List (List UInt8)) (sep : List UInt8) : List UInt8 × Bool := if ws.any (·.isEmpty) = true then ([], false) else (Lib.join ws sep, true)
abbrev baL (l : List UInt8) : ByteArray := ⟨l.toArray⟩
theorem baL_toList (l : List UInt8) : (baL l).toList = l := by rw [ByteArray.toList_eq]
theorem nil_bytes : (⟨#[]⟩ : ByteArray).toList = [] := by rw [ByteArray.toList_eq]
theorem tail_len : ∀ (r : List (List UInt8)) (sep : List UInt8) (m : Nat), (∀ x ∈ r, x.length ≤ m) → (Lib.joinTail sep r).length ≤ r.length * (m + sep.length)
  | [], sep, m, h => by simp [Lib.joinTail]
  | x :: r, sep, m, h => by
    have h1 := h x (by simp)
    have h2 := tail_len r sep m (fun z hz => h z (List.mem_cons_of_mem _ hz))
    have e : Lib.joinTail sep (x :: r) = sep ++ x ++ Lib.joinTail sep r := by simp [Lib.joinTail]
    rw [e, List.length_append, List.length_append, List.length_cons, Nat.add_mul, Nat.one_mul]
    omega
theorem join_len (ws : List (List UInt8)) (sep : List UInt8) (m : Nat) (h : ∀ x ∈ ws, x.length ≤ m) : (Lib.join ws sep).length ≤ ws.length * (m + sep.length) := by
  cases ws with
  | nil => simp [Lib.join_nil]
  | cons x r =>
    have h1 := h x (by simp)
    have h2 := tail_len r sep m (fun z hz => h z (List.mem_cons_of_mem _ hz))
    rw [Lib.join_cons, List.length_append, List.length_cons, Nat.add_mul, Nat.one_mul]
    omega
theorem join_bound {g : Nat → List UInt8} {n : Nat} {sep : ByteArray} (hg : ∀ i, (g i).length ≤ 100000000) (hs : sep.size ≤ 2) (hn : n ≤ 1000) : (Lib.join ((List.range n).map g) sep.data.toList).length ≤ 140737488355328 := by
  have h1 := join_len ((List.range n).map g) sep.data.toList 100000000 (fun x hx => by obtain ⟨j, _, rfl⟩ := List.mem_map.1 hx; exact hg j)
  have h2 : sep.data.toList.length ≤ 2 := by rw [data_length]; exact hs
  rw [List.length_map, List.length_range] at h1
  have h3 : n * (100000000 + sep.data.toList.length) ≤ 1000 * 100000002 := Nat.mul_le_mul hn (by omega)
  omega
theorem info9s : (Tryd.prog.info? 9).map (fun i => (i.zero, i.size, i.bytes)) = some (some (.string ⟨#[]⟩), 1, 16) := by kernel_rfl
theorem str_cells {W : World} {A : Option Addr} {ws : List ByteArray} (h : Kd.C Kd.string W A ws.length ws) (hn : 0 < ws.length) : ∃ bk o, A = some ⟨bk, o, none⟩ ∧ bk < W.heap.size ∧ ∀ (j : Nat) x, ws[j]? = some x → W.cell? ⟨bk, o + j, none⟩ = some (.string x) := by
  obtain ⟨⟨bk, o, sub⟩, rfl, hc⟩ := h.2.2 hn
  have get : ∀ (j : Nat) x, ws[j]? = some x → W.cell? ((⟨bk, o, sub⟩ : Addr).add j) = some (.string x) := fun j x hj => by
    obtain ⟨c, hl, hk, hcell⟩ := hc j x hj
    have hk : c = [.string x] := hk
    subst hk
    have := hcell 0 (.string x) rfl
    have e : j * (Kd.string).sz + 0 = j := by show j * 1 + 0 = j; omega
    rwa [e] at this
  have h0 := get 0 ws[0] (List.getElem?_eq_getElem hn)
  have hs : sub = none := by
    cases sub with
    | none => rfl
    | some s =>
      exfalso
      unfold Addr.add at h0
      revert h0
      unfold World.cell?
      simp
      split <;> simp
  subst hs
  refine ⟨bk, o, rfl, ?_, fun j x hj => ?_⟩
  · have hb : (W.heap[bk]?).isSome = true := by
      unfold World.cell? at h0
      simp [Addr.add] at h0
      cases hh : W.heap[bk]? with
      | none => rw [hh] at h0; cases h0
      | some y => rfl
    obtain ⟨y, hy⟩ := Option.isSome_iff_exists.1 hb
    exact (Array.getElem?_eq_some_iff.1 hy).1
  · have := get j x hj
    rwa [Addr.add_mid] at this
theorem join_calls {W : World} {base : Nat} {ok : Nat → Prop} {A : Option Addr} {c : Nat} {ws : List ByteArray} (sep : ByteArray) (h : Kd.R Kd.string 9 W base ok (.slice A ws.length c) ws) (hl : (Lib.join (ws.map (·.data.toList)) sep.data.toList).length ≤ 140737488355328) (hn : ws.length ≤ 1000) :
    Calls Tryd.prog 93 #[.slice A ws.length c, .string sep] W fun e W' => e = .returned (.string ⟨(Lib.join (ws.map (·.data.toList)) sep.data.toList).toArray⟩) ∧ Below W.heap.size W W' := by
  obtain ⟨A', c', he, hcap, hC⟩ := Kd.R_reads h
  injection he with he1 he2 he3
  subst he1 he3
  cases ws with
  | nil =>
    refine (Tryd.strings_Join_none A c sep W).mono ?_
    rintro e w' ⟨rfl, rfl⟩
    exact ⟨rfl, Below.refl _ _⟩
  | cons x ws =>
    obtain ⟨bk, o, rfl, hbk, hcells⟩ := str_cells hC (by simp)
    exact Tryd.strings_Join bk o c (x :: ws) sep W hcells hbk (by omega) hcap hl
/-- what each gives. -/
def eachG (g : Nat → List UInt8) (n : Nat) (sep : List UInt8) : List UInt8 × Bool := eachL ((List.range n).map g) sep
theorem eachG_no {g : Nat → List UInt8} {n i : Nat} {sep : List UInt8} (hi : i < n) (h : g i = []) : eachG g n sep = ([], false) := by
  unfold eachG eachL
  rw [if_pos]
  rw [List.any_eq_true]
  exact ⟨g i, List.mem_map.2 ⟨i, List.mem_range.2 hi, rfl⟩, by rw [h]; rfl⟩
theorem eachG_yes {g : Nat → List UInt8} {n : Nat} {sep : List UInt8} (h : ∀ i, i < n → g i ≠ []) : eachG g n sep = (Lib.join ((List.range n).map g) sep, true) := by
  unfold eachG eachL
  rw [if_neg]
  rw [List.any_eq_true]
  rintro ⟨x, hx, he⟩
  obtain ⟨i, hi, rfl⟩ := List.mem_map.1 hx
  exact h i (List.mem_range.1 hi) (List.isEmpty_iff.1 he)
theorem range_snoc (g : Nat → List UInt8) (i : Nat) : (List.range (i + 1)).map (fun j => baL (g j)) = (List.range i).map (fun j => baL (g j)) ++ [baL (g i)] := by rw [List.range_succ, List.map_append]; rfl
theorem range_data (g : Nat → List UInt8) (n : Nat) : ((List.range n).map (fun j => baL (g j))).map (·.data.toList) = (List.range n).map g := by rw [List.map_map]; rfl
set_option maxHeartbeats 4000000 in
set_option maxRecDepth 100000 in
theorem eachT_calls (w : World) (A : Option Addr) (c : Nat) (xs : List S71) (p2 p3 : Value) (g : Nat → List UInt8) (sep : ByteArray) (hsep : sep.size ≤ 2) (hC : Kd.C k71 w A xs.length xs) (hn : xs.length ≤ 1000) (hg : ∀ i, (g i).length ≤ 100000000)
    (hby : ∀ (W : World) (i : Nat), i < xs.length → Below w.heap.size w W → Calls Tryd.prog 94 #[.int .i64 i, .agg #[.string (rd_T71 xs i).f0, .int .i64 (rd_T71 xs i).f1.f0, .int .i64 (rd_T71 xs i).f1.f1, .string (rd_T71 xs i).f1.f2], p2, p3] W fun e W' => e = .returned (.string (baL (g i))) ∧ Below W.heap.size W W') :
    Calls Tryd.prog 96 #[.slice A xs.length c, .func (.func 94) #[] #[p2, p3], .string sep] w fun e w' => e = .returned (.tuple #[.string (baL (eachG g xs.length sep.data.toList).1), .bool (eachG g xs.length sep.data.toList).2]) ∧ Below w.heap.size w w' := by
  have HC := Aside0.mk hC
  have HBY := Aside0.mk hby
  have HG := Aside0.mk (And.intro hg hsep)
  have HR := Aside0.mk (Kd.R_nil Kd.string 9 w w.heap.size (fun k => w.heap.size ≤ k))
  have HB := Aside0.mk (Below.refl w.heap.size w)
  clear hC hby hg hsep
  go_enter Tryd.func96, Tryd.ntmps96
  go_wp2
  go_loopg [8, 14] (xs.length + 1) (fun kq v8 v14 w' => ∃ (i : Nat), v14 = .int .i64 i ∧ kq + i = xs.length + 1 ∧ i ≤ xs.length ∧ Aside0 (∀ j, j < i → g j ≠ []) ∧ Aside0 (Kd.R Kd.string 9 w' w.heap.size (fun k => w.heap.size ≤ k) v8 ((List.range i).map (fun j => baL (g j)))) ∧ Aside0 (Below w.heap.size w w'))
  case atStart => exact ⟨0, rfl, by omega, by omega, ⟨fun j hj => by omega⟩, HR, HB⟩
  case round =>
    clear HR HB
    obtain ⟨i, rfl, hk, hi, HE, HV, HB⟩ := hrel
    by_cases hlt : i < xs.length
    · have hz : decide ((i : Int) < (xs.length : Int)) = true := decide_eq_true (by omega)
      have hz2 : decide (i < xs.length) = true := decide_eq_true hlt
      obtain ⟨k1, rfl⟩ : ∃ k1, gk = k1 + 1 := ⟨gk - 1, by omega⟩
      obtain ⟨ad, rfl, x0, x1, x2, x3⟩ := at_T71 (Kd.C_below HC.out HB.out) (i : Int) (by omega) (by omega)
      simp only [Int.toNat_natCast] at x0 x1 x2 x3
      have hsz := HB.out.size
      go_wp2_with fail
      refine (HBY.out _ i hlt ?_).mono ?_
      · exact below_alloc HB.out _
      rintro e w1 ⟨rfl, hb⟩
      have hb1 : Below wr.heap.size wr w1 := below_then ((Below.refl wr.heap.size wr).alloc (Nat.le_refl _) _) (by simp) hb
      have HB1 := Aside0.mk (below_then HB.out HB.out.size hb1)
      have HV1 := Aside0.mk (Kd.R_below HV.out hb1)
      clear hb hb1
      obtain ⟨b, hbE⟩ : ∃ b, baL (g i) = b := ⟨_, rfl⟩
      by_cases he : g i = []
      · have e1 : (b.toList == ([] : List UInt8)) = true := by rw [← hbE, he, baL_toList]; exact beq_self_eq_true _
        have e2 : (b.toList == (⟨#[]⟩ : ByteArray).toList) = true := by rw [← hbE, he]; exact beq_self_eq_true _
        have HE := Aside0.mk (eachG_no (sep := sep.data.toList) hlt he)
        clear he
        rw [hbE]
        clear hbE
        go_wp2
        go_ret2
        rw [HE.out]
        exact ⟨rfl, HB1.out⟩
      · have e1 : (b.toList == ([] : List UInt8)) = false := by rw [beq_eq_false_iff_ne, ← hbE, baL_toList]; exact he
        have e2 : (b.toList == (⟨#[]⟩ : ByteArray).toList) = false := by rw [beq_eq_false_iff_ne, ← hbE, baL_toList]; exact fun h => he (h.trans nil_bytes)
        have HBE := Aside0.mk (And.intro hbE he)
        obtain ⟨A8, c8, rfl⟩ := Kd.R_slice HV1.out
        have HL : Aside0 (((List.range i).map fun j => baL (g j)).length ≤ 1000) := ⟨by rw [List.length_map, List.length_range]; omega⟩
        rw [hbE]
        clear hbE he
        obtain ⟨L, hL⟩ : ∃ L, ((List.range i).map fun j => baL (g j)) = L := ⟨_, rfl⟩
        rw [hL] at HV1 HL
        rw [hL]
        have HLE := Aside0.mk hL
        clear hL
        go_wp2_with ((with_reducible refine gate_builtin (b := .append) (xs := #[.tmp 25, .tmp 27]) rfl ?_); at_builtin; refine Kd.R_append Kd.string (w0 := w) w.heap.size rfl (.tmp 25) (.tmp 27) 46 9 (.string ⟨#[]⟩) 16 rfl Tryd.underlying46 info9s rfl (by decide) (by decide) (.slice A8 L.length c8) L b [.string b] (fun k => w.heap.size ≤ k) (fun _ => False) rfl (by first | rfl | (simp; rfl)) rfl (fun _ hk => hk.elim) (fun k hk => Nat.le_trans HB1.out.size hk) HV1.out HB1.out HB1.out.size (by have := HL.out; omega) ?_; intro v1 w2 ho hb hg hat; have HV2 := Aside0.mk ho; have HB2 := Aside0.mk hb; clear ho hb hg hat)
        go_roundg k1
        case rel => exact ⟨i + 1, by go_num, by omega, by omega, ⟨fun j hj => by rcases Nat.lt_succ_iff_lt_or_eq.1 hj with h | h; exact HE.out j h; exact h ▸ HBE.out.2⟩, ⟨by rw [range_snoc, HBE.out.1, HLE.out]; exact HV2.out⟩, HB2⟩
        case measure => omega
    · obtain rfl : i = xs.length := by omega
      have hz : decide ((xs.length : Int) < (xs.length : Int)) = false := decide_eq_false (by omega)
      obtain ⟨A8, c8, rfl⟩ := Kd.R_slice HV.out
      have hj := join_calls sep HV.out (by rw [range_data]; exact join_bound HG.out.1 HG.out.2 hn) (by rw [List.length_map, List.length_range]; exact hn)
      rw [range_data] at hj
      obtain ⟨L, hL⟩ : ∃ L, ((List.range xs.length).map fun j => baL (g j)) = L := ⟨_, rfl⟩
      rw [hL] at hj ⊢
      clear HV hL
      have HJ := Aside0.mk hj
      have HE2 := Aside0.mk (eachG_yes (sep := sep.data.toList) HE.out)
      clear hj
      go_wp2_with fail
      refine HJ.out.mono ?_
      rintro e w1 ⟨rfl, hb⟩
      have HB1 := Aside0.mk (below_then HB.out HB.out.size hb)
      clear hb
      go_wp2
      go_ret2
      rw [HE2.out]
      exact ⟨rfl, HB1.out⟩
end Go.Proofs.YthebhbomlllpeaaDoor.X
namespace Go.Proofs.YthebhbomlllpeaaDoor.X
set_option linter.unusedVariables false
set_option linter.unusedSimpArgs false
def predN (s : ByteArray) : Bool := nmL s.data.toList && !keyL s.data.toList
def noneVB (v : VlS) : Bool := v.f0 == 0 && (v.f1 == 0 && (v.f2.toList == ([] : List UInt8)))
def termL (t : TmS) : List UInt8 :=
  if t.f0.data.toList = [] then textL t.f1.f0 t.f1.f1 t.f1.f2 else if varL t.f0.data.toList = true then (if noneVB t.f1 = true then t.f0.data.toList else []) else []
/-- a fold's word. -/
def foldW (f : Int) : List UInt8 :=
  if f = 1 then [99, 111, 117, 110, 116] else if f = 2 then [115, 117, 109] else if f = 3 then [109, 105, 110] else if f = 4 then [109, 97, 120] else if f = 5 then [109, 101, 97, 110] else []
/-- an argument of a head; last: is it the last one? -/
def argL (f : Int) (last : Bool) (t : TmS) : List UInt8 :=
  if f = 0 ∨ last = false then termL t else if t.f0.data.toList = [] ∨ termL t = [] then [] else foldW f ++ ([40] ++ (termL t ++ [41]))
def argsL (f : Int) : List TmS → List (List UInt8)
  | [] => []
  | [t] => [argL f true t]
  | t :: u :: r => argL f false t :: argsL f (u :: r)
def headL (a : AtS) (f : Int) : List UInt8 :=
  if (eachL (argsL f a.f1) [44, 32]).2 = false ∨ predN a.f0 = false ∨ 8 < a.f1.length ∨ (0 < f ∧ a.f1 = []) then []
  else if a.f1 = [] then a.f0.data.toList
  else a.f0.data.toList ++ ([40] ++ ((eachL (argsL f a.f1) [44, 32]).1 ++ [41]))
def atomL (a : AtS) : List UInt8 := headL a 0
abbrev Pc := List UInt8 × Int
def leastL (p : Pc) (b : Int) : List UInt8 := if p.2 < b then [40] ++ (p.1 ++ [41]) else p.1
def labelL (x : StS) : List UInt8 := if predN x.f1 = true then (if x.f0 = 2 then [94] ++ x.f1.data.toList else if x.f0 = 1 then x.f1.data.toList else []) else []
def markL (k : Int) : List UInt8 := if k = 3 then [47] else if k = 4 then [124] else if k = 5 then [42] else if k = 6 then [43] else [63]
def push1 (st : List Pc) (x : StS) : Option (List Pc) :=
  if x.f0 < 1 ∨ 7 < x.f0 then none
  else if x.f0 ≤ 2 then (if labelL x = [] then none else some ((labelL x, 3) :: st))
  else if x.f1.data.toList ≠ [] then none
  else match st with
    | [] => none
    | b :: r =>
      if x.f0 ≤ 4 then
        match r with
        | [] => none
        | a :: r => if x.f0 = 3 then some ((leastL a 2 ++ (markL 3 ++ leastL b 3), 2) :: r) else some ((a.1 ++ (markL 4 ++ leastL b 2), 1) :: r)
      else some ((leastL b 3 ++ markL x.f0, 3) :: r)
def pushes : List Pc → List StS → Option (List Pc)
  | st, [] => some st
  | st, x :: l => (push1 st x).bind fun st => pushes st l
/-- how deep a text is. -/
def deepS (s : List UInt8) : Nat := (deepF (0, 0) (txts ((lexRes ⟨s.toArray⟩).1.map tkOf))).2
def pathL (l : List StS) : List UInt8 :=
  if 100 < l.length then [] else match pushes [] l with
    | some [p] => if 32 < deepS p.1 then [] else p.1
    | _ => []
end Go.Proofs.YthebhbomlllpeaaDoor.X
namespace Go.Proofs.YthebhbomlllpeaaDoor.X
set_option linter.unusedVariables false
set_option linter.unusedSimpArgs false
open Go.RowKit Go.Proofs.YthebhbomlllpeaaDoorW.PrintWords Go.Proofs.YthebhbomlllpeaaDoorW.PrintLast Go.Proofs.YthebhbomlllpeaaDoorW.PrintMore
theorem toList_data2 (s : ByteArray) : s.toList = s.data.toList := ByteArray.toList_eq s
theorem lex_Key_eq2 (s : ByteArray) : lex_Key.f s = some (keyL s.data.toList) := by
  unfold lex_Key.f
  rw [toList_data2]
  generalize s.data.toList = l
  by_cases h : l = [110, 111, 116]
  · subst h; rfl
  rw [if_neg h]
  have n0 := h
  clear h
  by_cases h : l = [105, 115]
  · subst h; rfl
  rw [if_neg h]
  have n1 := h
  clear h
  by_cases h : l = [112, 108, 117, 115]
  · subst h; rfl
  rw [if_neg h]
  have n2 := h
  clear h
  by_cases h : l = [109, 105, 110, 117, 115]
  · subst h; rfl
  rw [if_neg h]
  have n3 := h
  clear h
  by_cases h : l = [116, 105, 109, 101, 115]
  · subst h; rfl
  rw [if_neg h]
  have n4 := h
  clear h
  by_cases h : l = [119, 97, 108, 107]
  · subst h; rfl
  rw [if_neg h]
  have n5 := h
  clear h
  by_cases h : l = [99, 111, 117, 110, 116]
  · subst h; rfl
  rw [if_neg h]
  have n6 := h
  clear h
  by_cases h : l = [115, 117, 109]
  · subst h; rfl
  rw [if_neg h]
  have n7 := h
  clear h
  by_cases h : l = [109, 105, 110]
  · subst h; rfl
  rw [if_neg h]
  have n8 := h
  clear h
  by_cases h : l = [109, 97, 120]
  · subst h; rfl
  rw [if_neg h]
  have n9 := h
  clear h
  have hlast : (if l = ([109, 101, 97, 110] : List UInt8) then (some true) else (some false)) = some (l == [109, 101, 97, 110]) := by
    by_cases h : l = [109, 101, 97, 110]
    · rw [if_pos h, beq_iff_eq.2 h]
    · rw [if_neg h, beq_eq_false_iff_ne.2 h]
  rw [hlast]
  unfold keyL keysL
  simp only [List.contains_cons, List.contains_nil, Bool.or_false]
  rw [beq_eq_false_iff_ne.2 n0, beq_eq_false_iff_ne.2 n1, beq_eq_false_iff_ne.2 n2, beq_eq_false_iff_ne.2 n3, beq_eq_false_iff_ne.2 n4, beq_eq_false_iff_ne.2 n5, beq_eq_false_iff_ne.2 n6, beq_eq_false_iff_ne.2 n7, beq_eq_false_iff_ne.2 n8, beq_eq_false_iff_ne.2 n9]
  rfl
end Go.Proofs.YthebhbomlllpeaaDoor.X
namespace Go.Proofs.YthebhbomlllpeaaDoor.X
open Go.RowKit Go.Proofs.YthebhbomlllpeaaDoorW.PrintWords Go.Proofs.YthebhbomlllpeaaDoorW.PrintLast Go.Proofs.YthebhbomlllpeaaDoorW.PrintMore
attribute [local go_sem] max2_int min2_int max_two min_two max_three min_three max_four min_four
set_option linter.unusedVariables false
set_option linter.unusedSimpArgs false
theorem eqA36 (d : Nat) (w : World) (x0 y0 : Int) (x1 y1 : Int) (x2 y2 : ByteArray) :
    (Op.equalIn (d + 2) 36 (.agg #[.int .i64 x0, .int .i64 x1, .string x2]) (.agg #[.int .i64 y0, .int .i64 y1, .string y2])).run Tryd.prog w = .ok (x0 == y0 && (x1 == y1 && (x2.toList == y2.toList))) w := by
  refine eqA_of Tryd.underlying36 (by kernel_rfl) ?_
  refine eqf_cons (by rfl) (by go_simp; rfl) (by go_simp; rfl) (by go_simp) ?_
  refine eqf_cons (by rfl) (by go_simp; rfl) (by go_simp; rfl) (by go_simp) ?_
  exact eqf_last (by rfl) (by go_simp; rfl) (by go_simp; rfl) (by go_simp)
end Go.Proofs.YthebhbomlllpeaaDoor.X
namespace Go.Proofs.YthebhbomlllpeaaDoor.X
set_option linter.unusedVariables false
set_option linter.unusedSimpArgs false
open Go.RowKit Go.Proofs.YthebhbomlllpeaaDoorW.PrintWords Go.Proofs.YthebhbomlllpeaaDoorW.PrintLast Go.Proofs.YthebhbomlllpeaaDoorW.PrintMore
theorem textL_length (a b : Int) (s : ByteArray) (hb : -9223372036854775808 ≤ b ∧ b ≤ 9223372036854775807) : (textL a b s).length ≤ 40 := by
  unfold textL
  by_cases hr : rightB a b s = true
  · rw [if_pos hr]
    by_cases h1 : a = 1
    · rw [if_pos h1]
      unfold Lib.itoa
      split
      · have := nDigits_20 b.natAbs (by omega)
        simp [Lib.decDigits_length]; omega
      · have := nDigits_20 b.toNat (by omega)
        simp [Lib.decDigits_length]; omega
    · rw [if_neg h1]
      by_cases h2 : a = 2
      · rw [if_pos h2]
        have hw := wrap_u64 b
        have := hexL_length (IntKind.u64.wrap b).toNat 16 (by omega) (by omega)
        unfold hex16
        simp; omega
      · rw [if_neg h2]
        unfold rightB at hr
        rw [if_neg h1, if_neg h2] at hr
        by_cases h3 : a = 3
        · rw [if_pos h3] at hr
          simp only [Bool.and_eq_true, nameB, decide_eq_true_eq] at hr
          show s.size ≤ 40
          exact hr.2.1.2
        · rw [if_neg h3] at hr
          cases hr
  · rw [if_neg hr]; simp
end Go.Proofs.YthebhbomlllpeaaDoor.X
namespace Go.Proofs.YthebhbomlllpeaaDoor.X
set_option linter.unusedVariables false
set_option linter.unusedSimpArgs false
open Go.RowKit Go.Proofs.YthebhbomlllpeaaDoorW.PrintWords Go.Proofs.YthebhbomlllpeaaDoorW.PrintLast Go.Proofs.YthebhbomlllpeaaDoorW.PrintMore
attribute [local go_sem high] eqA36
/-- a term that a machine can hold. -/
def okT (t : TmS) : Prop := (-9223372036854775808 ≤ t.f1.f1 ∧ t.f1.f1 ≤ 9223372036854775807) ∧ t.f0.size ≤ 9223372036854775807
theorem toList_iff (s : ByteArray) : s.toList = s.data.toList := ByteArray.toList_eq s
theorem bytes_nil {s : ByteArray} (h : s.data.toList = []) : s = ⟨#[]⟩ := by
  cases s with
  | mk d => have := congrArg List.toArray h; simp at this; rw [this]
theorem term_cells {w1 w0 : World} {n : Nat} {cs : Array Value} {t : TypeId} (hn : w0.heap.size = n) (h : Below (w0.alloc (.cells cs t)).heap.size (w0.alloc (.cells cs t)) w1) : w1.heap[n]? = some (.cells cs t (0, 0)) := by
  have := blk_new w0 (.cells cs t)
  rw [hn] at this
  exact blk_below this h
set_option maxRecDepth 100000 in
theorem variable_any (v : ByteArray) (hv : v.size ≤ 9223372036854775807) (w : World) :
    Calls Tryd.prog 14 #[.string v] w fun e w' => e = .returned (.bool (varL v.data.toList)) ∧ Drawn0 w w' := by
  by_cases h40 : v.size ≤ 40
  · exact lex_Variable.calls v _ w (by unfold lex_Variable.f; exact if_pos (by omega))
  · have hl : varL v.data.toList = false := by
      obtain ⟨r, hr⟩ := list_head (s := v) (by omega)
      have hlen : v.data.toList.length = v.size := data_length v
      rw [hr] at hlen ⊢
      unfold varL
      simp only
      rw [decide_eq_false (by omega)]
      rfl
    have hemp : v.toList.isEmpty = false := by
      obtain ⟨r, hr⟩ := list_head (s := v) (by omega)
      rw [toList_data, hr]; rfl
    have e1 : decide ((v.size : Int) ≤ 40) = false := decide_eq_false (by omega)
    rw [hl]
    clear hl h40 hv
    go_enter Tryd.func14, Tryd.ntmps14
    go_wp2
    go_ret
    exact ⟨rfl, Drawn0.refl _⟩
set_option maxHeartbeats 4000000 in
set_option maxRecDepth 100000 in
theorem term_show (t : TmS) (w : World) (hLW : LaidW w) (h : okT t) :
    Calls Tryd.prog 95 #[.agg #[.string t.f0, .int .i64 t.f1.f0, .int .i64 t.f1.f1, .string t.f1.f2]] w fun e w' => e = .returned (.string (baL (termL t))) ∧ Below w.heap.size w w' := by
  obtain ⟨v, ⟨k, m, s⟩⟩ := t
  have hB := below_alloc (Below.refl w.heap.size w) (.cells #[.string v, .int .i64 k, .int .i64 m, .string s] 71)
  have hN := blk_new w (.cells #[.string v, .int .i64 k, .int .i64 m, .string s] 71)
  obtain ⟨n, en⟩ : ∃ n, w.heap.size = n := ⟨_, rfl⟩
  rw [en] at hN
  by_cases h0 : v.data.toList = []
  · have e1 : (v.toList == ([] : List UInt8)) = true := by rw [beq_iff_eq, toList_iff]; exact h0
    have e2 : (v.toList == (⟨#[]⟩ : ByteArray).toList) = true := by rw [nil_bytes]; exact e1
    have HT := Aside0.mk (fun W (hW : LaidW W) => value_Text.calls k m s (baL (textL k m s)) W hW (by unfold value_Text.f; exact if_pos h.1))
    have HE := Aside0.mk (show termL ⟨v, ⟨k, m, s⟩⟩ = textL k m s from if_pos h0)
    have HB := Aside0.mk hB
    have HLW := Aside0.mk hLW
    clear hB hN h0 h hLW
    go_enter Tryd.func95, Tryd.ntmps95
    go_wp2_with fail
    refine (HT.out _ (HLW.out.below HB.out)).mono ?_
    rintro e w1 ⟨rfl, hb⟩
    have HB1 := Aside0.mk (below_then HB.out HB.out.size hb)
    clear hb
    go_wp2
    go_ret
    exact ⟨by rw [HE.out]; rfl, HB1.out⟩
  · have e1 : (v.toList == ([] : List UInt8)) = false := by rw [beq_eq_false_iff_ne, toList_iff]; exact h0
    have e2 : (v.toList == (⟨#[]⟩ : ByteArray).toList) = false := by rw [nil_bytes]; exact e1
    have HV := Aside0.mk (fun W => variable_any v h.2 W)
    have HE := Aside0.mk (show termL ⟨v, ⟨k, m, s⟩⟩ = if varL v.data.toList = true then (if noneVB ⟨k, m, s⟩ = true then v.data.toList else []) else [] from if_neg h0)
    have HB := Aside0.mk hB
    have HN := Aside0.mk hN
    have HLW := Aside0.mk hLW
    clear hB hN h0 h hLW
    obtain ⟨b, hb⟩ : ∃ b, varL v.data.toList = b := ⟨_, rfl⟩
    rw [hb] at HV HE
    clear hb
    cases b with
    | false =>
      go_enter Tryd.func95, Tryd.ntmps95
      go_wp2_with fail
      refine (HV.out _).mono ?_
      rintro e w1 ⟨rfl, hb⟩
      obtain ⟨nd, rfl⟩ := hb
      go_wp2
      go_ret
      exact ⟨by rw [HE.out]; rfl, pw_below_drewN HB.out nd⟩
    | true =>
      obtain ⟨b2, hb2⟩ : ∃ b2, noneVB ⟨k, m, s⟩ = b2 := ⟨_, rfl⟩
      rw [hb2] at HE
      have hb3 : (k == 0 && (m == 0 && (s.toList == ([] : List UInt8)))) = b2 := hb2
      clear hb2
      cases b2 with
      | true =>
        rw [Bool.and_eq_true, Bool.and_eq_true, beq_iff_eq, beq_iff_eq, beq_iff_eq] at hb3
        obtain ⟨rfl, rfl, hs⟩ := hb3
        rw [toList_iff] at hs
        obtain rfl := bytes_nil hs
        clear hs
        go_enter Tryd.func95, Tryd.ntmps95
        go_wp2_with fail
        refine (HV.out _).mono ?_
        rintro e w1 ⟨rfl, hb⟩
        obtain ⟨nd, rfl⟩ := hb
        have hN2 := blk_drewN HN.out nd
        go_wp2
        go_ret
        exact ⟨by rw [HE.out]; rfl, pw_below_drewN HB.out nd⟩
      | false =>
        have hb4 : (k == 0 && (m == 0 && (s.toList == (⟨#[]⟩ : ByteArray).toList))) = false := by rw [nil_bytes]; exact hb3
        have hb5 : (k == 0 && (m == 0 && s.toList.isEmpty)) = false := by rw [show s.toList.isEmpty = (s.toList == ([] : List UInt8)) by cases s.toList <;> rfl]; exact hb3
        clear hb3
        go_enter Tryd.func95, Tryd.ntmps95
        go_wp2_with fail
        refine (HV.out _).mono ?_
        rintro e w1 ⟨rfl, hb⟩
        obtain ⟨nd, rfl⟩ := hb
        go_wp2
        go_ret
        exact ⟨by rw [HE.out]; rfl, pw_below_drewN HB.out nd⟩
theorem varL_len {l : List UInt8} (h : varL l = true) : l.length ≤ 40 := by
  cases l with
  | nil => simp
  | cons c r =>
    unfold varL at h
    rw [Bool.and_eq_true] at h
    exact of_decide_eq_true h.1
theorem termL_len (t : TmS) (h : okT t) : (termL t).length ≤ 40 := by
  unfold termL
  split
  · exact textL_length _ _ _ h.1
  · split
    · rename_i hv
      split
      · exact varL_len hv
      · simp
    · simp
theorem predN_len {s : ByteArray} (h : predN s = true) : s.size ≤ 40 := by
  unfold predN nmL at h
  rw [Bool.and_eq_true] at h
  have := h.1
  unfold nameB at this
  rw [Bool.and_eq_true] at this
  have := of_decide_eq_true this.1
  exact this.2
theorem predicate_f (s : ByteArray) : show_predicate.f 42 s = some (predN s) := by
  unfold show_predicate.f predN
  rw [value_Name_eq s 42 (Nat.le_refl _), lex_Key_eq2]
  simp only [Option.bind_some]
  have e : nmL s.data.toList = nameB s := rfl
  rw [e]
  cases nameB s <;> rfl
theorem argL_len (f : Int) (b : Bool) (t : TmS) (h : okT t) : (argL f b t).length ≤ 100 := by
  have h1 := termL_len t h
  have h2 : (foldW f).length ≤ 5 := by
    unfold foldW
    repeat' split
    all_goals simp
  unfold argL
  split
  · omega
  · split
    · simp
    · simp only [List.length_append, List.length_cons, List.length_nil]
      omega
theorem rd_ok {xs : List S71} (h : ∀ x ∈ xs, okT x) (i : Int) : okT (rd_T71 xs i) := by
  unfold rd_T71
  rw [List.getD_eq_getElem?_getD]
  cases hg : xs[i.toNat]? with
  | none => exact ⟨⟨by decide, by decide⟩, by decide⟩
  | some y => exact h y (List.mem_of_getElem? hg)
/-- the arguments' texts, by their numbers. -/
def argG (f : Int) (xs : List TmS) (i : Nat) : List UInt8 := argL f (decide ((i : Int) = (xs.length : Int) - 1)) (rd_T71 xs (i : Int))
theorem argsL_get (f : Int) : ∀ (xs : List TmS) (i : Nat), i < xs.length → (argsL f xs)[i]? = some (argG f xs i)
  | [], i, h => by simp at h
  | [t], i, h => by
    have : i = 0 := by simp at h; omega
    subst this
    rfl
  | t :: u :: r, 0, h => by
    show some _ = some _
    congr 1
    unfold argG
    rw [decide_eq_false (by simp; omega)]
    rfl
  | t :: u :: r, i + 1, h => by
    have ih := argsL_get f (u :: r) i (by simpa using h)
    show (argsL f (u :: r))[i]? = _
    rw [ih]
    congr 1
    unfold argG
    have e1 : rd_T71 (t :: u :: r) ((i + 1 : Nat) : Int) = rd_T71 (u :: r) (i : Int) := by
      unfold rd_T71
      rw [show ((i + 1 : Nat) : Int).toNat = i + 1 by omega, show (i : Int).toNat = i by omega]
      rfl
    rw [e1]
    congr 1
    simp only [List.length_cons]
    congr 1
    simp
theorem argsL_length (f : Int) : ∀ xs : List TmS, (argsL f xs).length = xs.length
  | [] => rfl
  | [t] => rfl
  | t :: u :: r => by
    show (argsL f (u :: r)).length + 1 = _
    rw [argsL_length f (u :: r)]
    rfl
theorem argsL_range (f : Int) (xs : List TmS) : (List.range xs.length).map (argG f xs) = argsL f xs := by
  apply List.ext_getElem?
  intro i
  by_cases h : i < xs.length
  · rw [argsL_get f xs i h, List.getElem?_map, List.getElem?_range h]
    rfl
  · rw [List.getElem?_eq_none (by simp; omega), List.getElem?_eq_none (by rw [argsL_length]; omega)]
theorem each_args (f : Int) (xs : List TmS) (sep : List UInt8) : eachG (argG f xs) xs.length sep = eachL (argsL f xs) sep := by unfold eachG; rw [argsL_range]
theorem ret_str {a b : ByteArray} (h : a = b) : Ending.returned (.string a) = .returned (.string b) := by rw [h]
theorem fold_words : ∀ (f : Nat), f ≤ 5 → ∀ w : World, (Instr.index 136 (.agg #[.string ⟨#[]⟩, .string ⟨#[99, 111, 117, 110, 116]⟩, .string ⟨#[115, 117, 109]⟩, .string ⟨#[109, 105, 110]⟩, .string ⟨#[109, 97, 120]⟩, .string ⟨#[109, 101, 97, 110]⟩]) (.int .i64 f)).run Tryd.prog w = .ok (.string (baL (foldW f))) w
  | 0, _ => fun _ => by kernel_rfl
  | 1, _ => fun _ => by kernel_rfl
  | 2, _ => fun _ => by kernel_rfl
  | 3, _ => fun _ => by kernel_rfl
  | 4, _ => fun _ => by kernel_rfl
  | 5, _ => fun _ => by kernel_rfl
  | n + 6, h => by omega
set_option maxHeartbeats 4000000 in
set_option maxRecDepth 100000 in
theorem head1_calls (t : TmS) (f : Nat) (hf : f ≤ 5) (i last : Int) (b3 b5 : Nat) (w : World) (hLW : LaidW w) (ht : okT t) (h3 : w.heap[b3]? = some (.cells #[.int .i64 f] 3 (0, 0))) (h5 : w.heap[b5]? = some (.cells #[.int .i64 last] 3 (0, 0))) :
    Calls Tryd.prog 94 #[.int .i64 i, .agg #[.string t.f0, .int .i64 t.f1.f0, .int .i64 t.f1.f1, .string t.f1.f2], .pointer (some ⟨b3, 0, none⟩), .pointer (some ⟨b5, 0, none⟩)] w fun e w' => e = .returned (.string (baL (argL f (decide (i = last)) t))) ∧ Below w.heap.size w w' := by
  have hl := termL_len t ht
  have HT := Aside0.mk (fun W (hW : LaidW W) => term_show t W hW ht)
  obtain ⟨s, hs⟩ : ∃ s, termL t = s := ⟨_, rfl⟩
  rw [hs] at HT hl
  have HE := Aside0.mk (show argL f (decide (i = last)) t = if (f : Int) = 0 ∨ decide (i = last) = false then s else if t.f0.data.toList = [] ∨ s = [] then [] else foldW f ++ ([40] ++ (s ++ [41])) by unfold argL; rw [hs])
  obtain ⟨d, hd⟩ : ∃ d, decide (i = last) = d := ⟨_, rfl⟩
  rw [hd] at HE ⊢
  have HD := Aside0.mk hd
  clear hd
  obtain ⟨v, ⟨k, m, z⟩⟩ := t
  have hB := below_alloc (Below.refl w.heap.size w) (.cells #[.string v, .int .i64 k, .int .i64 m, .string z] 71)
  obtain ⟨n, en⟩ : ∃ n, w.heap.size = n := ⟨_, rfl⟩
  have hN := fun w1 (h : Below (w.alloc (.cells #[.string v, .int .i64 k, .int .i64 m, .string z] 71)).heap.size (w.alloc (.cells #[.string v, .int .i64 k, .int .i64 m, .string z] 71)) w1) => term_cells en h
  have HN := Aside0.mk hN
  have HB := Aside0.mk hB
  have HLW := Aside0.mk (hLW.below hB)
  have H3 := Aside0.mk (blk_below h3 hB)
  have H5 := Aside0.mk (blk_below h5 hB)
  have hfs : (foldW f).length ≤ 5 := by
    unfold foldW
    repeat' split
    all_goals simp
  have HW := Aside0.mk (fold_words f hf)
  clear hN hB hLW h3 h5 ht hs
  go_enter Tryd.func94, Tryd.ntmps94
  go_wp2_with fail
  refine (HT.out _ HLW.out).mono ?_
  rintro e w1 ⟨rfl, hb⟩
  have HB1 := Aside0.mk (below_then HB.out HB.out.size hb)
  have g3 := blk_below H3.out hb
  have g5 := blk_below H5.out hb
  have hN1 := HN.out w1 hb
  have hc3 : w1.cell? ⟨b3, 0, none⟩ = some (.int .i64 f) := (blk_cell g3 0).trans rfl
  have hc5 : w1.cell? ⟨b5, 0, none⟩ = some (.int .i64 last) := (blk_cell g5 0).trans rfl
  have hv : w1.cell? ⟨n, 0, none⟩ = some (.string v) := (blk_cell hN1 0).trans rfl
  clear hb g3 g5 hN1
  by_cases hf0 : f = 0
  · subst hf0
    have HE2 := Aside0.mk (HE.out.trans (if_pos (Or.inl rfl)))
    clear HE
    go_wp2
    go_ret
    exact ⟨by rw [HE2.out]; rfl, HB1.out⟩
  · have e1 : ((f : Int) == 0) = false := beq_eq_false_iff_ne.2 (by omega)
    have e2 : (f == 0) = false := beq_eq_false_iff_ne.2 hf0
    by_cases hil : i = last
    · obtain rfl : true = d := by rw [← HD.out, decide_eq_true hil]
      have e0 : (i == last) = true := beq_iff_eq.2 hil
      have e01 : (i != last) = false := bne_eq_false_iff_eq.2 hil
      clear hil
      have HE1 := Aside0.mk (HE.out.trans (if_neg (by rintro (h | h); exact hf0 (by omega); cases h)))
      clear HE
      by_cases hv0 : v.data.toList = []
      · have e3 : (v.toList == ([] : List UInt8)) = true := by rw [beq_iff_eq, toList_iff]; exact hv0
        have e4 : (v.toList == (⟨#[]⟩ : ByteArray).toList) = true := by rw [nil_bytes]; exact e3
        have HE2 := Aside0.mk (HE1.out.trans (if_pos (Or.inl hv0)))
        clear HE1 hv0
        go_wp2
        go_ret
        exact ⟨by rw [HE2.out]; rfl, HB1.out⟩
      · have e3 : (v.toList == ([] : List UInt8)) = false := by rw [beq_eq_false_iff_ne, toList_iff]; exact hv0
        have e4 : (v.toList == (⟨#[]⟩ : ByteArray).toList) = false := by rw [nil_bytes]; exact e3
        obtain ⟨b, hbE⟩ : ∃ b, baL s = b := ⟨_, rfl⟩
        rw [hbE]
        by_cases hs0 : s = []
        · have e5 : (b.toList == ([] : List UInt8)) = true := by rw [← hbE, hs0, baL_toList]; exact beq_self_eq_true _
          have e6 : (b.toList == (⟨#[]⟩ : ByteArray).toList) = true := by rw [← hbE, hs0]; exact beq_self_eq_true _
          have HE2 := Aside0.mk (HE1.out.trans (if_pos (Or.inr hs0)))
          clear HE1 hv0 hs0 hbE
          go_wp2
          go_ret
          exact ⟨by rw [HE2.out]; rfl, HB1.out⟩
        · have e5 : (b.toList == ([] : List UInt8)) = false := by rw [beq_eq_false_iff_ne, ← hbE, baL_toList]; exact hs0
          have e6 : (b.toList == (⟨#[]⟩ : ByteArray).toList) = false := by rw [beq_eq_false_iff_ne, ← hbE, baL_toList]; exact fun h => hs0 (h.trans nil_bytes)
          have HE2 := Aside0.mk (HE1.out.trans (if_neg (by rintro (h | h); exact hv0 h; exact hs0 h)))
          have HBE := Aside0.mk hbE
          have hbs : b.size ≤ 40 := by rw [← hbE]; simpa [ByteArray.size] using hl
          obtain ⟨q, hq⟩ : ∃ q, baL (foldW f) = q := ⟨_, rfl⟩
          have hqs : q.size ≤ 5 := by rw [← hq]; simpa [ByteArray.size] using hfs
          have hw := HW.out
          rw [hq] at hw
          have HQ := Aside0.mk hq
          clear HE1 hv0 hs0 hbE hq HW hl hfs
          go_wp2
          go_ret
          exact ⟨by rw [HE2.out, ← HBE.out, ← HQ.out]; exact ret_str (ba_eq (by simp)), HB1.out⟩
    · have e3 : (i == last) = false := beq_eq_false_iff_ne.2 hil
      have e4 : (i != last) = true := bne_iff_ne.2 hil
      obtain rfl : false = d := by rw [← HD.out, decide_eq_false hil]
      have HE1 := Aside0.mk (HE.out.trans (if_pos (Or.inr rfl)))
      clear HE
      go_wp2
      go_ret
      exact ⟨by rw [HE1.out]; rfl, HB1.out⟩
end Go.Proofs.YthebhbomlllpeaaDoor.X
namespace Go.Proofs.YthebhbomlllpeaaDoor.X
set_option linter.unusedVariables false
set_option linter.unusedSimpArgs false
open Go.RowKit Go.Proofs.YthebhbomlllpeaaDoorW.PrintWords Go.Proofs.YthebhbomlllpeaaDoorW.PrintLast Go.Proofs.YthebhbomlllpeaaDoorW.PrintMore
/-- an atom that a machine can hold. -/
def okA (a : AtS) : Prop := (∀ x ∈ a.f1, okT x) ∧ a.f1.length ≤ 1000
theorem blocks3v (w : World) (o0 o1 o2 : Obj) : (((w.alloc o0).alloc o1).alloc o2).heap[w.heap.size]? = some o0 ∧ (((w.alloc o0).alloc o1).alloc o2).heap[w.heap.size + 1]? = some o1 ∧ (((w.alloc o0).alloc o1).alloc o2).heap[w.heap.size + 2]? = some o2 := by
  have z1 : (w.alloc o0).heap.size = w.heap.size + 1 := by simp
  have z2 : ((w.alloc o0).alloc o1).heap.size = w.heap.size + 2 := by simp
  refine ⟨blk_alloc (blk_alloc (blk_new w o0) _) _, ?_, ?_⟩
  · have := blk_new (w.alloc o0) o1
    rw [z1] at this
    exact blk_alloc this _
  · have := blk_new ((w.alloc o0).alloc o1) o2
    rwa [z2] at this
theorem args_len (f : Int) (xs : List TmS) (h : ∀ x ∈ xs, okT x) : ∀ x ∈ argsL f xs, x.length ≤ 100 := fun x hx => by
  rw [← argsL_range] at hx
  obtain ⟨i, _, rfl⟩ := List.mem_map.1 hx
  exact argL_len _ _ _ (rd_ok h _)
theorem each_len {ws : List (List UInt8)} {sep : List UInt8} {m : Nat} (h : ∀ x ∈ ws, x.length ≤ m) : (eachL ws sep).1.length ≤ ws.length * (m + sep.length) := by
  unfold eachL
  split
  · simp
  · exact join_len ws sep m h
theorem head_len (a : AtS) (f : Int) (h : okA a) : (headL a f).length ≤ 200000 := by
  have h1 : (eachL (argsL f a.f1) [44, 32]).1.length ≤ 1000 * 102 := Nat.le_trans (each_len (args_len f a.f1 h.1)) (by rw [argsL_length]; exact Nat.mul_le_mul h.2 (by simp))
  unfold headL
  split
  · simp
  · rename_i hc
    have hp : a.f0.size ≤ 40 := predN_len (by
      cases hb : predN a.f0 with
      | true => rfl
      | false => exact absurd (Or.inr (Or.inl hb)) hc)
    split
    · rw [data_length]; omega
    · simp only [List.length_append, List.length_cons, List.length_nil, data_length]
      omega
set_option maxHeartbeats 4000000 in
set_option maxRecDepth 100000 in
theorem head_calls (a : AtS) (A : Option Addr) (c : Nat) (f : Nat) (hf : f ≤ 5) (w : World) (hLW : LaidW w) (hC : Kd.C k71 w A a.f1.length a.f1) (ha : okA a) :
    Calls Tryd.prog 71 #[.agg #[.string a.f0, .slice A a.f1.length c], .int .i64 f] w fun e w' => e = .returned (.string (baL (headL a f))) ∧ Below w.heap.size w w' := by
  obtain ⟨p, xs⟩ := a
  have hlen : xs.length ≤ 1000 := ha.2
  obtain ⟨n, en⟩ : ∃ n, w.heap.size = n := ⟨_, rfl⟩
  obtain ⟨last, hlast⟩ : ∃ l : Int, (xs.length : Int) - 1 = l := ⟨_, rfl⟩
  have hz1 : (w.alloc (.cells #[.string p, .slice A xs.length c] 74)).heap.size = n + 1 := by simp [en]
  have hz2 : ((w.alloc (.cells #[.string p, .slice A xs.length c] 74)).alloc (.cells #[.int .i64 f] 3)).heap.size = n + 2 := by simp [en]
  have hb := blocks3v w (.cells #[.string p, .slice A xs.length c] 74) (.cells #[.int .i64 f] 3) (.cells #[.int .i64 last] 3)
  rw [en] at hb
  obtain ⟨W, hW⟩ : ∃ W, ((w.alloc (.cells #[.string p, .slice A xs.length c] 74)).alloc (.cells #[.int .i64 f] 3)).alloc (.cells #[.int .i64 last] 3) = W := ⟨_, rfl⟩
  have hBW : Below w.heap.size w W := hW ▸ below_alloc (below_alloc (below_alloc (Below.refl _ _) _) _) _
  rw [hW] at hb
  have HP := Aside0.mk (eachT_calls W A c xs (.pointer (some ⟨n + 1, 0, none⟩)) (.pointer (some ⟨n + 2, 0, none⟩)) (argG f xs) ⟨#[44, 32]⟩ (by decide) (Kd.C_below hC hBW) hlen (fun i => Nat.le_trans (argL_len _ _ _ (rd_ok ha.1 _)) (by decide)) (fun V i hi hV => by
    have := head1_calls (rd_T71 xs i) f hf (i : Int) ((xs.length : Int) - 1) (n + 1) (n + 2) V (hLW.below (below_then hBW hBW.size hV)) (rd_ok ha.1 _) (blk_below hb.2.1 hV) (by rw [hlast]; exact blk_below hb.2.2 hV)
    exact this))
  have hs1 : (eachL (argsL f xs) [44, 32]).1.length ≤ 1000 * 102 := Nat.le_trans (each_len (args_len f xs ha.1)) (by rw [argsL_length]; exact Nat.mul_le_mul hlen (by simp))
  rw [each_args, show (⟨#[44, 32]⟩ : ByteArray).data.toList = [44, 32] from rfl] at HP
  have HE := Aside0.mk (show headL ⟨p, xs⟩ f = if (eachL (argsL f xs) [44, 32]).2 = false ∨ predN p = false ∨ 8 < xs.length ∨ (0 < (f : Int) ∧ xs = []) then [] else if xs = [] then p.data.toList else p.data.toList ++ ([40] ++ ((eachL (argsL f xs) [44, 32]).1 ++ [41])) from rfl)
  obtain ⟨⟨s, ok⟩, hso⟩ : ∃ x, eachL (argsL f xs) [44, 32] = x := ⟨_, rfl⟩
  rw [hso] at HP HE hs1
  have HPR := Aside0.mk (fun V => show_predicate.calls 42 p (predN p) V (predicate_f p))
  have HPL := Aside0.mk (fun (h : predN p = true) => predN_len h)
  obtain ⟨pr, hpr⟩ : ∃ b, predN p = b := ⟨_, rfl⟩
  rw [hpr] at HPR HE HPL
  have HB := Aside0.mk (And.intro hb hBW)
  have HW := Aside0.mk hW
  have HLS := Aside0.mk hlast
  have hmf : ∀ (fn : Fn) (first cap : Array Value) (w : World), (Instr.makeFunc fn first cap).run Tryd.prog w = .ok (.func fn first cap) w := fun _ _ _ _ => rfl
  have hll : -1 ≤ last ∧ last ≤ 1000 := by omega
  clear hC ha hso hpr hb hBW hW hLW
  go_enter Tryd.func71, Tryd.ntmps71
  go_wp2_with fail
  rw [HW.out]
  refine HP.out.mono ?_
  rintro e w1 ⟨rfl, hb⟩
  have HB1 := Aside0.mk (below_then HB.out.2 HB.out.2.size hb)
  have g0 := blk_below HB.out.1.1 hb
  have g1 := blk_below HB.out.1.2.1 hb
  have g2 := blk_below HB.out.1.2.2 hb
  have hc0 : w1.cell? ⟨n, 0, none⟩ = some (.string p) := (blk_cell g0 0).trans rfl
  have hc1 : w1.cell? ⟨n, 1, none⟩ = some (.slice A xs.length c) := (blk_cell g0 1).trans rfl
  have hc3 : w1.cell? ⟨n + 1, 0, none⟩ = some (.int .i64 f) := (blk_cell g1 0).trans rfl
  have hc5 : w1.cell? ⟨n + 2, 0, none⟩ = some (.int .i64 last) := (blk_cell g2 0).trans rfl
  clear hb g0 g1 g2 HB HW HP
  cases ok with
  | false =>
    have HE2 := Aside0.mk (HE.out.trans (if_pos (Or.inl rfl)))
    clear HE
    go_wp2
    go_ret
    exact ⟨by rw [HE2.out]; rfl, HB1.out⟩
  | true =>
    cases pr with
    | false =>
      have HE2 := Aside0.mk (HE.out.trans (if_pos (Or.inr (Or.inl rfl))))
      clear HE
      go_wp2_with fail
      refine (HPR.out _).mono ?_
      rintro e w2 ⟨rfl, nd, rfl⟩
      go_wp2
      go_ret
      exact ⟨by rw [HE2.out]; rfl, pw_below_drewN HB1.out nd⟩
    | true =>
      have hpl := HPL.out rfl
      clear HPL
      have HE1 := Aside0.mk HE.out
      clear HE
      go_wp2_with fail
      refine (HPR.out _).mono ?_
      rintro e w2 ⟨rfl, nd, rfl⟩
      have HB2 := Aside0.mk (pw_below_drewN HB1.out nd)
      replace hc0 : (w1.drewN nd).cell? ⟨n, 0, none⟩ = some (.string p) := hc0
      replace hc1 : (w1.drewN nd).cell? ⟨n, 1, none⟩ = some (.slice A xs.length c) := hc1
      replace hc3 : (w1.drewN nd).cell? ⟨n + 1, 0, none⟩ = some (.int .i64 f) := hc3
      replace hc5 : (w1.drewN nd).cell? ⟨n + 2, 0, none⟩ = some (.int .i64 last) := hc5
      generalize w1.drewN nd = w2 at HB2 hc0 hc1 hc3 hc5 ⊢
      by_cases h8 : 8 < xs.length
      · have e1 : decide ((8 : Int) < (xs.length : Int)) = true := decide_eq_true (by omega)
        have e2 : decide (8 < xs.length) = true := decide_eq_true h8
        have HE2 := Aside0.mk (HE1.out.trans (if_pos (Or.inr (Or.inr (Or.inl h8)))))
        clear HE1
        go_wp2
        go_ret
        exact ⟨by rw [HE2.out]; rfl, HB2.out⟩
      · have e1 : decide ((8 : Int) < (xs.length : Int)) = false := decide_eq_false (by omega)
        have e2 : decide (8 < xs.length) = false := decide_eq_false h8
        by_cases hx : xs = []
        · have hl0 : last = -1 := by rw [← HLS.out, hx]; rfl
          have e3 : decide (last < 0) = true := decide_eq_true (by omega)
          by_cases h0 : 0 < f
          · have e4 : decide ((0 : Int) < (f : Int)) = true := decide_eq_true (by omega)
            have e5 : decide (0 < f) = true := decide_eq_true h0
            have HE2 := Aside0.mk (HE1.out.trans (if_pos (Or.inr (Or.inr (Or.inr ⟨by omega, hx⟩)))))
            clear HE1 hl0 hx
            go_wp2
            go_ret
            exact ⟨by rw [HE2.out]; rfl, HB2.out⟩
          · have e4 : decide ((0 : Int) < (f : Int)) = false := decide_eq_false (by omega)
            have e5 : decide (0 < f) = false := decide_eq_false h0
            have HE2 := Aside0.mk ((HE1.out.trans (if_neg (by rintro (h | h | h | h); cases h; cases h; exact h8 h; exact h0 (by omega)))).trans (if_pos hx))
            clear HE1 hl0 hx
            go_wp2
            go_ret
            exact ⟨by rw [HE2.out]; exact ret_str (ba_eq rfl), HB2.out⟩
        · have hl0 : 0 ≤ last := by
            have : xs.length ≠ 0 := fun h => hx (List.length_eq_zero_iff.1 h)
            have := HLS.out
            omega
          have e3 : decide (last < 0) = false := decide_eq_false (by omega)
          have HE2 := Aside0.mk ((HE1.out.trans (if_neg (by rintro (h | h | h | h); cases h; cases h; exact h8 h; exact hx h.2))).trans (if_neg hx))
          have hss : (baL s).size ≤ 102000 := by simpa [ByteArray.size] using hs1
          obtain ⟨b, hbE⟩ : ∃ b, baL s = b := ⟨_, rfl⟩
          rw [hbE] at hss ⊢
          have HBE := Aside0.mk hbE
          clear HE1 hx hbE hs1
          by_cases h0 : 0 < f
          · have e4 : decide ((0 : Int) < (f : Int)) = true := decide_eq_true (by omega)
            have e5 : decide (0 < f) = true := decide_eq_true h0
            go_wp2
            go_ret
            exact ⟨by rw [HE2.out, ← HBE.out]; exact ret_str (ba_eq (by simp)), HB2.out⟩
          · have e4 : decide ((0 : Int) < (f : Int)) = false := decide_eq_false (by omega)
            have e5 : decide (0 < f) = false := decide_eq_false h0
            go_wp2
            go_ret
            exact ⟨by rw [HE2.out, ← HBE.out]; exact ret_str (ba_eq (by simp)), HB2.out⟩
set_option maxHeartbeats 4000000 in
set_option maxRecDepth 100000 in
theorem atom_show (a : AtS) (A : Option Addr) (c : Nat) (w : World) (hLW : LaidW w) (hC : Kd.C k71 w A a.f1.length a.f1) (ha : okA a) :
    Calls Tryd.prog 44 #[.agg #[.string a.f0, .slice A a.f1.length c]] w fun e w' => e = .returned (.string (baL (atomL a))) ∧ Below w.heap.size w w' := by
  have hB := below_alloc (Below.refl w.heap.size w) (.cells #[.string a.f0, .slice A a.f1.length c] 74)
  have HP := Aside0.mk (head_calls a A c 0 (by decide) _ (hLW.below hB) (Kd.C_below hC hB) ha)
  have HB := Aside0.mk hB
  clear hC ha hB hLW
  unfold atomL
  go_enter Tryd.func44, Tryd.ntmps44
  go_wp2_with fail
  refine HP.out.mono ?_
  rintro e w1 ⟨rfl, hb⟩
  have HB1 := Aside0.mk (below_then HB.out HB.out.size hb)
  clear hb
  go_wp2
  go_ret
  exact ⟨rfl, HB1.out⟩
end Go.Proofs.YthebhbomlllpeaaDoor.X
namespace Go.Proofs.YthebhbomlllpeaaDoor.X
set_option linter.unusedVariables false
set_option linter.unusedSimpArgs false
open Go.RowKit Go.Proofs.YthebhbomlllpeaaDoorW.PrintWords Go.Proofs.YthebhbomlllpeaaDoorW.PrintLast Go.Proofs.YthebhbomlllpeaaDoorW.PrintMore
def sets (W : World) (n : Nat) : Nat → List Value → World
  | _, [] => W
  | i, v :: vs => sets (W.setCell ⟨n, i, none⟩ v) n (i + 1) vs
def setsA (cs : Array Value) : Nat → List Value → Array Value
  | _, [] => cs
  | i, v :: vs => setsA (cs.setIfInBounds i v) (i + 1) vs
theorem blk_sets {n : Nat} {t : TypeId} : ∀ (vs : List Value) (i : Nat) (W : World) (cs : Array Value), W.heap[n]? = some (.cells cs t (0, 0)) → (sets W n i vs).heap[n]? = some (.cells (setsA cs i vs) t (0, 0))
  | [], _, _, _, h => h
  | v :: vs, i, W, cs, h => blk_sets vs (i + 1) _ _ (blk_set h i v)
theorem below_sets {w0 : World} {n : Nat} (hn : w0.heap.size ≤ n) : ∀ (vs : List Value) (i : Nat) (W : World), Below w0.heap.size w0 W → Below w0.heap.size w0 (sets W n i vs)
  | [], _, _, h => h
  | v :: vs, i, W, h => below_sets hn vs (i + 1) _ (below_set h hn)
theorem setCells_sets (n : Nat) : ∀ (vs : List Value) (i : Nat) (W : World), W.setCells n i vs = sets W n i vs
  | [], _, _ => rfl
  | v :: vs, i, W => setCells_sets n vs (i + 1) _
theorem range_blk {W : World} {n : Nat} {cs : Array Value} {t : TypeId} (h : W.heap[n]? = some (.cells cs t (0, 0))) : W.rangeAt n 0 cs.toList := fun j v hv => by
  rw [Nat.zero_add, blk_cell h j]
  simpa using hv
theorem there_blk {W : World} {n : Nat} {cs : Array Value} {t : TypeId} {m : Nat} (h : W.heap[n]? = some (.cells cs t (0, 0))) (hm : m ≤ cs.size) : W.there n 0 m := fun j hj => by
  rw [Nat.zero_add]
  refine ⟨?_, blk_frozen h j⟩
  rw [blk_cell h j, Array.getElem?_eq_getElem (by omega)]
  rfl
abbrev zLit : Array Value := #[.int .i64 0, .string ⟨#[]⟩, .slice none 0 0, .string ⟨#[]⟩, .string ⟨#[]⟩, .int .i64 0, .int .i64 0, .string ⟨#[]⟩, .string ⟨#[]⟩, .int .i64 0, .int .i64 0, .string ⟨#[]⟩, .string ⟨#[]⟩, .int .i64 0, .int .i64 0, .string ⟨#[]⟩, .slice none 0 0]
end Go.Proofs.YthebhbomlllpeaaDoor.X
namespace Go.Proofs.YthebhbomlllpeaaDoor.X
set_option linter.unusedVariables false
set_option linter.unusedSimpArgs false
open Go.RowKit Go.Proofs.YthebhbomlllpeaaDoorW.PrintWords Go.Proofs.YthebhbomlllpeaaDoorW.PrintLast Go.Proofs.YthebhbomlllpeaaDoorW.PrintMore
/-- a row that is read: where it lies, and an element's cells. -/
theorem row_at {α : Type} {d : Kd α} {W : World} {A : Option Addr} {xs : List α} (h : Kd.C d W A xs.length xs) (z : α) (hs : 0 < d.sz) (i : Nat) (hi : i < xs.length) :
    ∃ bk o cs, A = some ⟨bk, o, none⟩ ∧ cs.length = d.sz ∧ d.K W (xs.getD i z) cs ∧ W.rangeAt bk (o + i * d.sz) cs := by
  obtain ⟨⟨bk, o, sub⟩, cs, rfl, hl, hK, hc⟩ := Kd.C_get h z (i : Int) (by omega) (by omega)
  rw [Int.toNat_natCast] at hK hc
  obtain ⟨ad, he, hh⟩ := h.2.2 (by omega)
  injection he with he
  subst he
  obtain ⟨c0, hl0, _, hc0⟩ := hh 0 xs[0] (List.getElem?_eq_getElem (by omega))
  have h0 := hc0 0 c0[0] (List.getElem?_eq_getElem (by omega))
  rw [Nat.zero_mul] at h0
  have hsub : sub = none := by
    cases sub with
    | none => rfl
    | some s =>
      exfalso
      unfold Addr.add at h0
      revert h0
      unfold World.cell?
      simp
      split <;> simp
  subst hsub
  refine ⟨bk, o, cs, rfl, hl, hK, fun j v hj => ?_⟩
  have := hc j v hj
  rw [Addr.add_mid] at this
  rw [← Nat.add_assoc] at this
  exact this
theorem setsA_full : ∀ (vs : List Value) (cs : Array Value) (i : Nat), i + vs.length = cs.size → (setsA cs i vs).toList = cs.toList.take i ++ vs
  | [], cs, i, h => by
    simp only [setsA, List.append_nil]
    rw [List.take_of_length_le (by rw [List.length_nil] at h; simp; omega)]
  | v :: vs, cs, i, h => by
    simp only [setsA]
    rw [setsA_full vs _ (i + 1) (by simp at h ⊢; omega)]
    have hi : i < cs.size := by simp at h; omega
    have hi2 : i < cs.toList.length := by simpa using hi
    rw [Array.toList_setIfInBounds, List.take_set, List.take_succ_eq_append_getElem hi2]
    have hl : (cs.toList.take i).length = i := by rw [List.length_take]; omega
    rw [List.set_append_right _ _ (by omega), hl]
    simp
theorem setsA_all {vs : List Value} {cs : Array Value} (h : vs.length = cs.size) : setsA cs 0 vs = vs.toArray := by
  have := setsA_full vs cs 0 (by omega)
  rw [List.take_zero, List.nil_append] at this
  apply Array.toList_inj.1
  rw [this]
set_option maxHeartbeats 4000000 in
set_option maxRecDepth 100000 in
theorem eachL_calls (w : World) (A : Option Addr) (c : Nat) (xs : List S115) (g : Nat → List UInt8) (sep : ByteArray) (hsep : sep.size ≤ 2) (hC : Kd.C k115 w A xs.length xs) (hn : xs.length ≤ 1000) (hg : ∀ i, (g i).length ≤ 100000000)
    (hby : ∀ (W : World) (i : Nat) (cs : List Value), i < xs.length → Below w.heap.size w W → k115.K W (xs.getD i z115) cs → Calls Tryd.prog 73 #[.int .i64 i, .agg cs.toArray] W fun e W' => e = .returned (.string (baL (g i))) ∧ Below W.heap.size W W') :
    Calls Tryd.prog 72 #[.slice A xs.length c, .func (.func 73) #[] #[], .string sep] w fun e w' => e = .returned (.tuple #[.string (baL (eachG g xs.length sep.data.toList).1), .bool (eachG g xs.length sep.data.toList).2]) ∧ Below w.heap.size w w' := by
  have HC := Aside0.mk hC
  have HBY := Aside0.mk hby
  have HG := Aside0.mk (And.intro hg hsep)
  have HR := Aside0.mk (Kd.R_nil Kd.string 9 w w.heap.size (fun k => w.heap.size ≤ k))
  have HB := Aside0.mk (Below.refl w.heap.size w)
  clear hC hby hg hsep
  go_enter Tryd.func72, Tryd.ntmps72
  go_wp2
  go_loopg [8, 14] (xs.length + 1) (fun kq v8 v14 w' => ∃ (i : Nat), v14 = .int .i64 i ∧ kq + i = xs.length + 1 ∧ i ≤ xs.length ∧ Aside0 (∀ j, j < i → g j ≠ []) ∧ Aside0 (Kd.R Kd.string 9 w' w.heap.size (fun k => w.heap.size ≤ k) v8 ((List.range i).map (fun j => baL (g j)))) ∧ Aside0 (Below w.heap.size w w'))
  case atStart => exact ⟨0, rfl, by omega, by omega, ⟨fun j hj => by omega⟩, HR, HB⟩
  case round =>
    clear HR HB
    obtain ⟨i, rfl, hk, hi, HE, HV, HB⟩ := hrel
    by_cases hlt : i < xs.length
    · have hz : decide ((i : Int) < (xs.length : Int)) = true := decide_eq_true (by omega)
      have hz2 : decide (i < xs.length) = true := decide_eq_true hlt
      obtain ⟨k1, rfl⟩ : ∃ k1, gk = k1 + 1 := ⟨gk - 1, by omega⟩
      obtain ⟨bk, o, cs, rfl, hcl, hK, hcell⟩ := row_at (Kd.C_below HC.out HB.out) z115 (by decide) i hlt
      have hcl : cs.length = 17 := hcl
      have hrg : wr.rangeAt bk (o + i * 17) cs := hcell
      have h1c := k115.K_one hK
      have HK := Aside0.mk (And.intro hK (And.intro hrg (And.intro hcl h1c)))
      obtain ⟨n, en⟩ : ∃ n, wr.heap.size = n := ⟨_, rfl⟩
      have hN := blk_new wr (.cells zLit 115)
      rw [en] at hN
      have HN := Aside0.mk hN
      have HBA := Aside0.mk (below_alloc HB.out (.cells zLit 115))
      have HNB := Aside0.mk (show w.heap.size ≤ n by rw [← en]; exact HB.out.size)
      have HRG := Aside0.mk (show (sets (wr.alloc (.cells zLit 115)) n 0 cs).rangeAt n 0 cs from by
        have h1 := range_blk (blk_sets cs 0 _ _ hN)
        rwa [setsA_all (hcl.trans (by kernel_rfl)), List.toList_toArray] at h1)
      have hBW : Below wr.heap.size wr (sets (wr.alloc (.cells zLit 115)) n 0 cs) := below_sets (w0 := wr) (by omega) cs 0 _ (below_alloc (Below.refl _ _) _)
      have HBW := Aside0.mk hBW
      clear hK hrg hcl h1c hcell hN hBW
      go_wp2_with (first | ((with_reducible refine gate_dst (N := 18) rfl ?_); refine wpList_load_mid rfl 115 (.tmp 17) rfl bk (o + i * 17) rfl cs _ HK.out.2.1 Tryd.underlying115 rfl (by rw [HK.out.2.2.1]; kernel_rfl) ?_) | ((with_reducible refine gate_store (t := 115) (p := 10) (v := .tmp 18) rfl ?_); refine wpList_store_mid rfl 115 (.tmp 10) (.tmp 18) rfl n 0 cs.toArray rfl rfl (there_blk HN.out (by rw [List.size_toArray, HK.out.2.2.1]; exact Nat.le_of_eq (by kernel_rfl))) (by rw [List.size_toArray, HK.out.2.2.1]; kernel_rfl) (all_oneCell_toArray HK.out.2.2.2) ?_; rw [setCells_sets, List.toList_toArray]) | ((with_reducible refine gate_dst (N := 21) rfl ?_); refine wpList_load_mid rfl 115 (.tmp 10) rfl n 0 rfl cs _ HRG.out Tryd.underlying115 rfl (by rw [HK.out.2.2.1]; kernel_rfl) ?_))
      have HCB := Aside0.mk (below_then HB.out HB.out.size HBW.out)
      refine (HBY.out _ i cs hlt HCB.out (k115.K_below HBW.out HK.out.1)).mono ?_
      rintro e w1 ⟨rfl, hb⟩
      have hb1 := below_then HBW.out HBW.out.size hb
      have HB1 := Aside0.mk (below_then HB.out HB.out.size hb1)
      have HV1 := Aside0.mk (Kd.R_below HV.out hb1)
      clear hb hb1
      obtain ⟨b, hbE⟩ : ∃ b, baL (g i) = b := ⟨_, rfl⟩
      by_cases he : g i = []
      · have e1 : (b.toList == ([] : List UInt8)) = true := by rw [← hbE, he, baL_toList]; exact beq_self_eq_true _
        have e2 : (b.toList == (⟨#[]⟩ : ByteArray).toList) = true := by rw [← hbE, he]; exact beq_self_eq_true _
        have HE := Aside0.mk (eachG_no (sep := sep.data.toList) hlt he)
        clear he
        rw [hbE]
        clear hbE
        go_wp2
        go_ret2
        rw [HE.out]
        exact ⟨rfl, HB1.out⟩
      · have e1 : (b.toList == ([] : List UInt8)) = false := by rw [beq_eq_false_iff_ne, ← hbE, baL_toList]; exact he
        have e2 : (b.toList == (⟨#[]⟩ : ByteArray).toList) = false := by rw [beq_eq_false_iff_ne, ← hbE, baL_toList]; exact fun h => he (h.trans nil_bytes)
        have HBE := Aside0.mk (And.intro hbE he)
        obtain ⟨A8, c8, rfl⟩ := Kd.R_slice HV1.out
        have HL : Aside0 (((List.range i).map fun j => baL (g j)).length ≤ 1000) := ⟨by rw [List.length_map, List.length_range]; omega⟩
        rw [hbE]
        clear hbE he
        obtain ⟨L, hL⟩ : ∃ L, ((List.range i).map fun j => baL (g j)) = L := ⟨_, rfl⟩
        rw [hL] at HV1 HL
        rw [hL]
        have HLE := Aside0.mk hL
        clear hL
        go_wp2_with ((with_reducible refine gate_builtin (b := .append) (xs := #[.tmp 25, .tmp 27]) rfl ?_); at_builtin; refine Kd.R_append Kd.string (w0 := w) w.heap.size rfl (.tmp 25) (.tmp 27) 46 9 (.string ⟨#[]⟩) 16 rfl Tryd.underlying46 info9s rfl (by decide) (by decide) (.slice A8 L.length c8) L b [.string b] (fun k => w.heap.size ≤ k) (fun _ => False) rfl (by first | rfl | (simp; rfl)) rfl (fun _ hk => hk.elim) (fun k hk => Nat.le_trans HB1.out.size hk) HV1.out HB1.out HB1.out.size (by have := HL.out; omega) ?_; intro v1 w2 ho hb hg hat; have HV2 := Aside0.mk ho; have HB2 := Aside0.mk hb; clear ho hb hg hat)
        go_roundg k1
        case rel => exact ⟨i + 1, by go_num, by omega, by omega, ⟨fun j hj => by rcases Nat.lt_succ_iff_lt_or_eq.1 hj with h | h; exact HE.out j h; exact h ▸ HBE.out.2⟩, ⟨by rw [range_snoc, HBE.out.1, HLE.out]; exact HV2.out⟩, HB2⟩
        case measure => omega
    · obtain rfl : i = xs.length := by omega
      have hz : decide ((xs.length : Int) < (xs.length : Int)) = false := decide_eq_false (by omega)
      obtain ⟨A8, c8, rfl⟩ := Kd.R_slice HV.out
      have hj := join_calls sep HV.out (by rw [range_data]; exact join_bound HG.out.1 HG.out.2 hn) (by rw [List.length_map, List.length_range]; exact hn)
      rw [range_data] at hj
      obtain ⟨L, hL⟩ : ∃ L, ((List.range xs.length).map fun j => baL (g j)) = L := ⟨_, rfl⟩
      rw [hL] at hj ⊢
      clear HV hL
      have HJ := Aside0.mk hj
      have HE2 := Aside0.mk (eachG_yes (sep := sep.data.toList) HE.out)
      clear hj
      go_wp2_with fail
      refine HJ.out.mono ?_
      rintro e w1 ⟨rfl, hb⟩
      have HB1 := Aside0.mk (below_then HB.out HB.out.size hb)
      clear hb
      go_wp2
      go_ret2
      rw [HE2.out]
      exact ⟨rfl, HB1.out⟩
end Go.Proofs.YthebhbomlllpeaaDoor.X
namespace Go.Proofs.YthebhbomlllpeaaDoor.X
set_option linter.unusedVariables false
set_option linter.unusedSimpArgs false
open Go.RowKit Go.Proofs.YthebhbomlllpeaaDoorW.PrintWords Go.Proofs.YthebhbomlllpeaaDoorW.PrintLast Go.Proofs.YthebhbomlllpeaaDoorW.PrintMore
/-- a piece, in memory. -/
abbrev kP : Kd (ByteArray × Int) := Kd.pair Kd.string (Kd.int .i64)
theorem kP_open {w : World} {x : ByteArray × Int} {cs : List Value} (h : kP.K w x cs) : cs = [.string x.1, .int .i64 x.2] := by
  obtain ⟨_, _, rfl, rfl, rfl⟩ := h
  rfl
theorem kP_mkM (w : World) (base : Nat) (ok : Nat → Prop) (x : ByteArray × Int) : kP.M w base ok x [.string x.1, .int .i64 x.2] := ⟨[.string x.1], [.int .i64 x.2], rfl, rfl, rfl⟩
theorem infoP : (Tryd.prog.info? 90).map (fun i => (i.zero, i.size, i.bytes)) = some (some (.agg #[(.string ⟨#[]⟩), (.int .i64 0)]), 2, 24) := by kernel_rfl
/-- the stack's pieces, as they lie: the top last. -/
def memS (st : List Pc) : List (ByteArray × Int) := (st.map fun p => (baL p.1, p.2)).reverse
theorem memS_cons (p : Pc) (st : List Pc) : memS (p :: st) = memS st ++ [(baL p.1, p.2)] := by simp [memS]
theorem memS_length (st : List Pc) : (memS st).length = st.length := by simp [memS]
theorem memS_at (a : List Pc) (p : Pc) (st : List Pc) : (memS (a ++ p :: st))[st.length]? = some (baL p.1, p.2) := by
  simp only [memS, List.map_append, List.map_cons, List.reverse_append, List.reverse_cons, List.append_assoc]
  rw [List.getElem?_append_right (by simp)]
  simp
/-- a piece that lies in a row. -/
theorem at_P {W : World} {A : Option Addr} {xs : List (ByteArray × Int)} (h : Kd.C kP W A xs.length xs) (i : Nat) (x : ByteArray × Int) (hi : xs[i]? = some x) :
    ∃ bk o, A = some ⟨bk, o, none⟩ ∧ W.cell? ⟨bk, o + i * 2, none⟩ = some (.string x.1) ∧ W.cell? ⟨bk, o + i * 2 + 1, none⟩ = some (.int .i64 x.2) := by
  have hlt : i < xs.length := (List.getElem?_eq_some_iff.1 hi).1
  obtain ⟨bk, o, cs, rfl, hl, hK, hr⟩ := row_at h (⟨#[]⟩, 0) (by decide) i hlt
  have he : xs.getD i (⟨#[]⟩, 0) = x := by rw [List.getD_eq_getElem?_getD, hi]; rfl
  rw [he] at hK
  obtain rfl := kP_open hK
  exact ⟨bk, o, rfl, hr 0 _ rfl, hr 1 _ rfl⟩
/-- how much is on the stack. -/
def wt : List Pc → Nat
  | [] => 0
  | p :: st => p.1.length + wt st
theorem labelL_len (x : StS) : (labelL x).length ≤ 41 := by
  unfold labelL
  split
  · rename_i h
    have := predN_len h
    split
    · simp [data_length]; omega
    · split
      · rw [data_length]; omega
      · simp
  · simp
theorem leastL_len (p : Pc) (b : Int) : (leastL p b).length ≤ p.1.length + 2 := by
  unfold leastL
  split <;> simp <;> omega
theorem markL_len (k : Int) : (markL k).length = 1 := by
  unfold markL
  repeat' split
  all_goals rfl
theorem push1_wt {st st' : List Pc} {x : StS} (h : push1 st x = some st') : wt st' ≤ wt st + 50 ∧ st'.length ≤ st.length + 1 := by
  unfold push1 at h
  split at h
  · cases h
  · split at h
    · split at h
      · cases h
      · injection h with h
        subst h
        have := labelL_len x
        simp only [wt, List.length_cons]
        omega
    · split at h
      · cases h
      · cases st with
        | nil => cases h
        | cons b r =>
          simp only at h
          split at h
          · cases r with
            | nil => cases h
            | cons a r =>
              simp only at h
              split at h
              · injection h with h
                subst h
                have h1 := leastL_len a 2
                have h2 := leastL_len b 3
                have h3 := markL_len 3
                simp only [wt, List.length_cons, List.length_append]
                omega
              · injection h with h
                subst h
                have h2 := leastL_len b 2
                have h3 := markL_len 4
                simp only [wt, List.length_cons, List.length_append]
                omega
          · injection h with h
            subst h
            have h2 := leastL_len b 3
            have h3 := markL_len x.f0
            simp only [wt, List.length_cons, List.length_append]
            omega
theorem pushes_app : ∀ (a b : List StS) (st : List Pc), pushes st (a ++ b) = (pushes st a).bind fun st => pushes st b
  | [], b, st => rfl
  | x :: a, b, st => by
    simp only [List.cons_append, pushes]
    cases push1 st x with
    | none => rfl
    | some st' => exact pushes_app a b st'
theorem pushes_wt : ∀ (l : List StS) (st st' : List Pc), pushes st l = some st' → wt st' ≤ wt st + 50 * l.length
  | [], st, st', h => by
    injection h with h
    subst h
    simp
  | x :: l, st, st', h => by
    simp only [pushes] at h
    cases hp : push1 st x with
    | none => rw [hp] at h; cases h
    | some s1 =>
      rw [hp] at h
      have h1 := (push1_wt hp).1
      have h2 := pushes_wt l s1 st' h
      simp only [List.length_cons]
      omega
theorem pushes_len : ∀ (l : List StS) (st st' : List Pc), pushes st l = some st' → st'.length ≤ st.length + l.length
  | [], st, st', h => by
    injection h with h
    subst h
    simp
  | x :: l, st, st', h => by
    simp only [pushes] at h
    cases hp : push1 st x with
    | none => rw [hp] at h; cases h
    | some s1 =>
      rw [hp] at h
      have h1 := (push1_wt hp).2
      have h2 := pushes_len l s1 st' h
      simp only [List.length_cons]
      omega
theorem wt_mem {st : List Pc} {p : Pc} (h : p ∈ st) : p.1.length ≤ wt st := by
  induction st with
  | nil => cases h
  | cons q st ih =>
    simp only [wt]
    rcases List.mem_cons.1 h with rfl | h
    · omega
    · have := ih h; omega
theorem pathL_len (l : List StS) : (pathL l).length ≤ 5000 := by
  unfold pathL
  split
  · simp
  · rename_i h
    split
    · rename_i p hp
      have := pushes_wt l [] [p] hp
      simp only [wt] at this
      split
      · simp
      · omega
    · simp
theorem label_f (x : StS) (h : x.f1.size ≤ 9223372036854775807) : show_label.f 42 x.f0 x.f1 = some (baL (labelL x)) := by
  unfold show_label.f
  rw [predicate_f]
  simp only [Option.bind_some]
  unfold labelL
  cases hp : predN x.f1 with
  | false => rfl
  | true =>
    simp only [if_true]
    by_cases h2 : x.f0 = 2
    · rw [if_pos h2, if_pos h2, if_pos (by have := predN_len hp; omega)]
      congr 1
    · rw [if_neg h2, if_neg h2]
      by_cases h1 : x.f0 = 1
      · rw [if_pos h1, if_pos h1]
      · rw [if_neg h1, if_neg h1]
theorem least_f (p : Pc) (b : Int) (h : p.1.length ≤ 100000) : show_piece_least.f (baL p.1) p.2 b = some (baL (leastL p b)) := by
  unfold show_piece_least.f leastL
  have hs : (baL p.1).size = p.1.length := by simp [ByteArray.size]
  by_cases h1 : p.2 < b
  · rw [if_pos h1, if_pos h1, if_pos (by omega), if_pos (by omega)]
    congr 1
  · rw [if_neg h1, if_neg h1]
end Go.Proofs.YthebhbomlllpeaaDoor.X
