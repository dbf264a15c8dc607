/-
  ShowPaths: what the proof needs, put together by a program of this session (shake.py), part 8.
-/
import Derived.Test.YthebhbomlllpeaaGreatDoorCards
import Derived.Test.YthebhbomlllpeaaGreatDoorTie
import Derived.Test.YthebhbomlllpeaaGreatDoorProg
import Derived.Below
import Derived.Deep.Draws
import Derived.Deep.AppendLies
import Derived.Maps.AppendAt
import Derived.OwnWalk
import Derived.Laws.BytesArg
import Derived.Laws.MakeOwn
import Derived.Laws.OwnMore
import Derived.Deep.OwnRows
import Derived.Tactics
import Derived.Lib.ConvBytes
import Derived.Laws.Slices
import Derived.WalkKit
import Derived.KernelRfl
import Derived.RowKit3
import Derived.Deep.LoopGhost
import Derived.Deep.QuietTactic
import Derived.BigQuiet
import Derived.WideLaws
import Derived.Deep.DeepCutAuto
import Derived.Deep.CutBlock
import Derived.Deep.RegionHeld3
import Derived.Laws.Rows
import Derived.Lib.AppendStr
import Derived.ArgAppend
import Derived.Laws.IdiomCopy
import Derived.OrdersHeld
import Derived.Laws.BitsLemmas
import Derived.RowKit
import Derived.Lib.SmallJoins
import Derived.Lib.ItoaMem
import Derived.Laws.StructEq
import Derived.Test.YthebhbomlllpeaaGreatDoorRows
import Derived.Deep.Slices
import Derived.Deep.Fields
import Derived.ChangeSame
import Derived.ProofKit
import Derived.OpenShut
import Derived.Deep.DeepHandedRow
import Derived.Lib.LaidTab
import Derived.LaidMore
import Derived.Stop.LaidErr
import Derived.MakeChecks
import Derived.WalkLawsBesides
import Derived.StillTailTactics
import Derived.Laws.NewBlocks
import Derived.Shelf.Strings.Builder1
import Derived.Shelf.Strings.Builder2
import Derived.Shelf.Strings.OnBuilder
import Derived.Shelf.Small.Strs
import Derived.Shelf.Small.Wraps
import Derived.Shelf.Strings.BuilderF
import Derived.Shelf.Strings.BuilderK
import Derived.Shelf.Strings.Builder2Cap
import Derived.Shelf.Strconv.Itoa0
import Derived.Shelf.Strconv.Itoa1
import Derived.Shelf.LaysM
import Derived.Shelf.Strconv.Itoa2
import Derived.Shelf.Strconv.Itoa3
import Derived.Shelf.Strconv.Itoa4
import Derived.Shelf.Strconv.ParseIntEmpty
import Derived.Shelf.Strconv.Clone
import Derived.Shelf.Strconv.SyntaxError
import Derived.Shelf.LaysC
import Derived.Shelf.Strconv.ToError
import Derived.Shelf.Strconv.Lower
import Derived.Shelf.Strconv.ParseUint10
import Derived.Shelf.Strconv.ParseUint10Empty
import Derived.Shelf.Strconv.ParseUint10Any
import Derived.Shelf.Strconv.ParseInt10
import Derived.Shelf.Strconv.RangeError
import Derived.Shelf.Strconv.ToErrorRange
import Derived.Shelf.Strconv.ParseUintEmpty
import Derived.Shelf.Strconv.ParseUint10b64
import Derived.Shelf.Strconv.ParseUint10b32
import Derived.Shelf.Strconv.ParseUint10b16
import Derived.Shelf.Strconv.ParseUint10b8
import Derived.Shelf.Strconv.ParseUint10At
import Derived.Shelf.Strconv.ParseInt10At64
import Derived.Shelf.Strconv.ParseInt10At32
import Derived.Shelf.Strconv.ParseInt10At16
import Derived.Shelf.Strconv.ParseInt10At8
import Derived.Shelf.Strconv.ParseInt10All
import Derived.Shelf.Strconv.ParseIntPublic10
import Derived.Shelf.Strconv.ErrVarParseInt
import Derived.Ground.MpProg
import Derived.Shelf.Pu.ParseUintPublic10
import Derived.Shelf.Pu.ErrVarParseUint
import Derived.Shelf.Strings.Search1
import Derived.Shelf.Strings.Prefix
import Derived.Shelf.Bits.Mul64
import Derived.Shelf.Strings.Repeat
import Derived.Shelf.Strings.BuilderCap
import Derived.Lib.AtoiAllMem
import Derived.Lib.ParseIntB
import Derived.Lib.Hide
import Derived.Laws.Strings3
import Derived.Laws.Closers25
import Derived.Laws.Closers25b
import Derived.BigCall
import Derived.BigGuard
import Derived.Laws.RangeAny
import Derived.Laws.RangeString
import Derived.Lib.ParseIntBTie
import Init
import Derived.LoopN
import Derived.WalkMore
import Derived.Deep.MidRow
import Derived.Recover
import Derived.Deep.DrawnRows
import Derived.Test.YthebhbomlllpeaaGreatDoorZShowPaths7
namespace Go.Proofs.YthebhbomlllpeaaGreatDoor.X
set_option linter.unusedVariables false
set_option linter.unusedSimpArgs false
open Go.RowKit Go.Proofs.YthebhbomlllpeaaGreatDoorW.PrintWords Go.Proofs.YthebhbomlllpeaaGreatDoorW.PrintLast Go.Proofs.YthebhbomlllpeaaGreatDoorW.PrintMore
theorem ref_pred_eq (s : ByteArray) (k : Nat) (hk : 12 ≤ k) : antecedentref09_predicate.f k s = some (predN s) := by
  unfold antecedentref09_predicate.f antecedentref02_Name.f predN
  rw [ref_key_eq s k hk]
  simp only [Option.bind_some]
  have e : nmL s.data.toList = nameB s := rfl
  rw [e]
  cases nameB s <;> rfl
theorem closed_f (p : Pc) (b : Int) (h : p.1.length ≤ 100000) : antecedentref09_closed.f (baL p.1) (decide (p.2 < b)) = some (baL (leastL p b)) := by
  unfold antecedentref09_closed.f leastL
  have hs : (baL p.1).size = p.1.length := baL_size _
  by_cases h1 : p.2 < b
  · rw [if_pos (decide_eq_true h1), if_pos h1, if_pos (by omega), if_pos (by omega)]
    congr 1
  · rw [if_neg (by simpa using h1), if_neg h1]
theorem predN_nil {s : ByteArray} (h : s.data.toList = []) : predN s = false := by
  cases hp : predN s with
  | false => rfl
  | true => exact absurd h (predN_ne hp)
theorem neq_bool (x y : Bool) (w : World) : (binOp .neq 4 (.bool x) (.bool y)).run Tryz.prog w = .ok (.bool (!(x == y))) w := by
  simp only [binOp]
  simp [run_equal_bool w 4 x y Tryz.underlying4]
theorem ret3_of {r : Int × ByteArray × Int} {a : Int} {b : ByteArray} {c : Int} (h : r = (a, b, c)) : Ending.returned (.tuple #[.int .i64 a, .string b, .int .i64 c]) = .returned (.tuple #[.int .i64 r.1, .string r.2.1, .int .i64 r.2.2]) := by rw [h]
/-- the code of the reference's text comes to textR, up to step e. -/
def RtOk (l : List StS) (n e : Nat) : Prop := ∀ (A : Option Addr) (c : Nat) (w : World), Kd.C k69 w A l.length l →
    Calls Tryz.prog 52 #[.slice A l.length c, .int .i64 e] w fun e' w' => e' = .returned (.tuple #[.int .i64 (outT (textR l n e)).1, .string (outT (textR l n e)).2.1, .int .i64 (outT (textR l n e)).2.2]) ∧ Below w.heap.size w w'
set_option maxHeartbeats 16000000 in
set_option maxRecDepth 100000 in
theorem rt_zero (l : List StS) (n : Nat) : RtOk l (n + 1) 0 := by
  intro A c w hC
  have HB := Aside0.mk (Below.refl w.heap.size w)
  have HR := Aside0.mk (show outT (textR l (n + 1) 0) = (-1, ⟨#[]⟩, 0) from rfl)
  obtain ⟨r, hr⟩ : ∃ r, outT (textR l (n + 1) 0) = r := ⟨_, rfl⟩
  rw [hr] at HR ⊢
  clear hC hr
  go_enter Tryz.func52, Tryz.ntmps52
  go_wp2
  go_ret3
  exact ⟨ret3_of HR.out, HB.out⟩
set_option maxHeartbeats 16000000 in
set_option maxRecDepth 100000 in
theorem rt_step (l : List StS) (hl : l.length ≤ 1000) (n e : Nat) (he : e + 1 ≤ l.length) (IH : ∀ e2 : Nat, e2 ≤ e → RtOk l n e2) : RtOk l (n + 1) (e + 1) := by
  intro A c w hC
  have he' : e < l.length := by omega
  have HIH := Aside0.mk IH
  obtain ⟨ad, rfl, x0, x1⟩ := at_T69 hC (e : Int) (by omega) (by omega)
  have hr : rd_T69 l (e : Int) = l[e] := by
    show l.getD (Int.toNat (e : Int)) _ = _
    rw [Int.toNat_natCast, List.getD_eq_getElem?_getD, List.getElem?_eq_getElem he']
    rfl
  rw [hr] at x0 x1
  simp only [Int.toNat_natCast] at x0 x1
  obtain ⟨⟨kd, lb⟩, hx⟩ : ∃ x, l[e] = x := ⟨_, rfl⟩
  rw [hx] at x0 x1
  simp only at x0 x1
  have HR := Aside0.mk (show textR l (n + 1) (e + 1) = if stepB ⟨kd, lb⟩ = false then none
    else if kd ≤ 2 then some (e, (labelL ⟨kd, lb⟩, 3))
    else (textR l n e).bind fun b =>
      if 4 < kd then some (b.1, (leastL b.2 3 ++ markL kd, 3))
      else (textR l n b.1).bind fun a => some (a.1, joinP kd a.2 b.2) by simp only [textR, List.getElem?_eq_getElem he', hx])
  obtain ⟨r, hr2⟩ : ∃ r, outT (textR l (n + 1) (e + 1)) = r := ⟨_, rfl⟩
  have HRR := Aside0.mk hr2
  rw [hr2]
  obtain ⟨nb, enb⟩ : ∃ n, w.heap.size = n := ⟨_, rfl⟩
  obtain ⟨W, hW⟩ : ∃ W, w.alloc (.cells #[.int .i64 kd, .string lb] 69) = W := ⟨_, rfl⟩
  have hBW : Below w.heap.size w W := hW ▸ below_alloc (Below.refl w.heap.size w) _
  have hN := blk_new w (.cells #[.int .i64 kd, .string lb] 69)
  rw [enb, hW] at hN
  have HBW := Aside0.mk hBW
  have HN := Aside0.mk hN
  have HCW := Aside0.mk (Kd.C_below hC hBW)
  have d0 : W.cell? ⟨nb, 0, none⟩ = some (.int .i64 kd) := (blk_cell hN 0).trans rfl
  have d1 : W.cell? ⟨nb, 1, none⟩ = some (.string lb) := (blk_cell hN 1).trans rfl
  obtain ⟨bad, hbad⟩ : ∃ b, (!stepB ⟨kd, lb⟩) = b := ⟨_, rfl⟩
  have HBAD := Aside0.mk hbad
  have HPR := Aside0.mk (fun V => antecedentref09_predicate.calls 12 lb (predN lb) V (ref_pred_eq lb 12 (Nat.le_refl _)))
  have hee : e ≤ 1000 := by omega
  have p0 : (0 : Int) ≤ (e : Int) := by omega
  have p1 : (e : Int) < (l.length : Int) := by omega
  have q1 : decide ((e : Int) + 1 < 1) = false := decide_eq_false (by omega)
  clear hC hr hx hr2 hBW hN hbad
  go_enter Tryz.func52, Tryz.ntmps52
  go_upto_region 4 with (fail)
  clear d0 d1
  have d0 : W.cell? ⟨nb, 0, none⟩ = some (.int .i64 kd) := (blk_cell HN.out 0).trans rfl
  have d1 : W.cell? ⟨nb, 1, none⟩ = some (.string lb) := (blk_cell HN.out 1).trans rfl
  go_cut [53] (fun v53 wc => v53 = .bool bad ∧ Aside0 (wc.heap[nb]? = some (.cells #[.int .i64 kd, .string lb] 69 (0, 0))) ∧ Aside0 (Below w.heap.size w wc) ∧ Aside0 (Kd.C k69 wc (some ad) l.length l))
  case first =>
    by_cases h1 : kd = 1
    · subst h1
      have qN := neq_bool
      by_cases h0 : lb.data.toList = []
      · have HBB := Aside0.mk (show bad = true by rw [← HBAD.out]; unfold stepB; simp only; rw [if_pos (by decide), predN_nil h0]; rfl)
        have e5 : (lb.toList == ([] : List UInt8)) = true := by rw [beq_iff_eq, toList_iff]; exact h0
        have e6 : (lb.toList == (⟨#[]⟩ : ByteArray).toList) = true := by rw [nil_bytes]; exact e5
        have e7 : (lb.toList != ([] : List UInt8)) = false := by rw [bne, e5]; rfl
        have e8 : (lb.toList != (⟨#[]⟩ : ByteArray).toList) = false := by rw [bne, e6]; rfl
        clear h0
        go_wp2
        go_meet
        case rel => exact ⟨by first | (rw [HBB.out]; done) | (rw [HBB.out]; rfl), HN, HBW, HCW⟩
      · have HBB := Aside0.mk (show bad = !predN lb by rw [← HBAD.out]; unfold stepB; simp only; rw [if_pos (by decide)]; rfl)
        have e5 : (lb.toList == ([] : List UInt8)) = false := by rw [beq_eq_false_iff_ne, toList_iff]; exact h0
        have e6 : (lb.toList == (⟨#[]⟩ : ByteArray).toList) = false := by rw [nil_bytes]; exact e5
        have e7 : (lb.toList != ([] : List UInt8)) = true := by rw [bne, e5]; rfl
        have e8 : (lb.toList != (⟨#[]⟩ : ByteArray).toList) = true := by rw [bne, e6]; rfl
        clear h0
        go_wp2_with fail
        refine (HPR.out _).mono ?_
        rintro ex V ⟨rfl, hb⟩
        have HN2 := Aside0.mk (blk_below HN.out hb)
        have HB2 := Aside0.mk (below_then HBW.out HBW.out.size hb)
        have HC2 := Aside0.mk (Kd.C_below HCW.out hb)
        have d0' : V.cell? ⟨nb, 0, none⟩ = some (.int .i64 1) := (blk_cell HN2.out 0).trans rfl
        clear hb
        obtain ⟨q, hq⟩ : ∃ q, predN lb = q := ⟨_, rfl⟩
        rw [hq] at HBB ⊢
        clear hq
        cases q with
        | false =>
          go_wp2
          go_meet
          case rel => exact ⟨by first | (rw [HBB.out]; done) | (rw [HBB.out]; rfl), HN2, HB2, HC2⟩
        | true =>
          go_wp2
          go_meet
          case rel => exact ⟨by first | (rw [HBB.out]; done) | (rw [HBB.out]; rfl), HN2, HB2, HC2⟩
    by_cases h2 : kd = 2
    · subst h2
      have qN := neq_bool
      by_cases h0 : lb.data.toList = []
      · have HBB := Aside0.mk (show bad = true by rw [← HBAD.out]; unfold stepB; simp only; rw [if_pos (by decide), predN_nil h0]; rfl)
        have e5 : (lb.toList == ([] : List UInt8)) = true := by rw [beq_iff_eq, toList_iff]; exact h0
        have e6 : (lb.toList == (⟨#[]⟩ : ByteArray).toList) = true := by rw [nil_bytes]; exact e5
        have e7 : (lb.toList != ([] : List UInt8)) = false := by rw [bne, e5]; rfl
        have e8 : (lb.toList != (⟨#[]⟩ : ByteArray).toList) = false := by rw [bne, e6]; rfl
        clear h0
        go_wp2
        go_meet
        case rel => exact ⟨by first | (rw [HBB.out]; done) | (rw [HBB.out]; rfl), HN, HBW, HCW⟩
      · have HBB := Aside0.mk (show bad = !predN lb by rw [← HBAD.out]; unfold stepB; simp only; rw [if_pos (by decide)]; rfl)
        have e5 : (lb.toList == ([] : List UInt8)) = false := by rw [beq_eq_false_iff_ne, toList_iff]; exact h0
        have e6 : (lb.toList == (⟨#[]⟩ : ByteArray).toList) = false := by rw [nil_bytes]; exact e5
        have e7 : (lb.toList != ([] : List UInt8)) = true := by rw [bne, e5]; rfl
        have e8 : (lb.toList != (⟨#[]⟩ : ByteArray).toList) = true := by rw [bne, e6]; rfl
        clear h0
        go_wp2_with fail
        refine (HPR.out _).mono ?_
        rintro ex V ⟨rfl, hb⟩
        have HN2 := Aside0.mk (blk_below HN.out hb)
        have HB2 := Aside0.mk (below_then HBW.out HBW.out.size hb)
        have HC2 := Aside0.mk (Kd.C_below HCW.out hb)
        have d0' : V.cell? ⟨nb, 0, none⟩ = some (.int .i64 2) := (blk_cell HN2.out 0).trans rfl
        clear hb
        obtain ⟨q, hq⟩ : ∃ q, predN lb = q := ⟨_, rfl⟩
        rw [hq] at HBB ⊢
        clear hq
        cases q with
        | false =>
          go_wp2
          go_meet
          case rel => exact ⟨by first | (rw [HBB.out]; done) | (rw [HBB.out]; rfl), HN2, HB2, HC2⟩
        | true =>
          go_wp2
          go_meet
          case rel => exact ⟨by first | (rw [HBB.out]; done) | (rw [HBB.out]; rfl), HN2, HB2, HC2⟩
    have k1 : (kd == 1) = false := beq_eq_false_iff_ne.2 h1
    have k2 : (kd == 2) = false := beq_eq_false_iff_ne.2 h2
    have qN := neq_bool
    by_cases h0 : lb.data.toList = []
    · have HBB := Aside0.mk (show bad = !decide (1 ≤ kd ∧ kd ≤ 7) by
        rw [← HBAD.out]; unfold stepB; simp only
        by_cases hr : 1 ≤ kd ∧ kd ≤ 7
        · rw [if_neg (by omega), h0]; simp
        · rw [decide_eq_false hr]; rfl)
      have e5 : (lb.toList == ([] : List UInt8)) = true := by rw [beq_iff_eq, toList_iff]; exact h0
      have e6 : (lb.toList == (⟨#[]⟩ : ByteArray).toList) = true := by rw [nil_bytes]; exact e5
      have e7 : (lb.toList != ([] : List UInt8)) = false := by rw [bne, e5]; rfl
      have e8 : (lb.toList != (⟨#[]⟩ : ByteArray).toList) = false := by rw [bne, e6]; rfl
      clear h0
      by_cases h3 : kd < 1
      · have k3 : decide (kd < 1) = true := decide_eq_true h3
        rw [decide_eq_false (by omega)] at HBB
        go_wp2
        go_meet
        case rel => exact ⟨by first | (rw [HBB.out]; done) | (rw [HBB.out]; rfl), HN, HBW, HCW⟩
      · have k3 : decide (kd < 1) = false := decide_eq_false h3
        by_cases h7 : 7 < kd
        · have k7 : decide (7 < kd) = true := decide_eq_true h7
          rw [decide_eq_false (by omega)] at HBB
          go_wp2
          go_meet
          case rel => exact ⟨by first | (rw [HBB.out]; done) | (rw [HBB.out]; rfl), HN, HBW, HCW⟩
        · have k7 : decide (7 < kd) = false := decide_eq_false h7
          rw [decide_eq_true (by omega)] at HBB
          go_wp2
          go_meet
          case rel => exact ⟨by first | (rw [HBB.out]; done) | (rw [HBB.out]; rfl), HN, HBW, HCW⟩
    · have HBB := Aside0.mk (show bad = true by
        rw [← HBAD.out]; unfold stepB; simp only
        by_cases hr : 1 ≤ kd ∧ kd ≤ 7
        · rw [if_neg (by omega), beq_eq_false_iff_ne.2 h0]; simp
        · rw [decide_eq_false hr]; rfl)
      have e5 : (lb.toList == ([] : List UInt8)) = false := by rw [beq_eq_false_iff_ne, toList_iff]; exact h0
      have e6 : (lb.toList == (⟨#[]⟩ : ByteArray).toList) = false := by rw [nil_bytes]; exact e5
      have e7 : (lb.toList != ([] : List UInt8)) = true := by rw [bne, e5]; rfl
      have e8 : (lb.toList != (⟨#[]⟩ : ByteArray).toList) = true := by rw [bne, e6]; rfl
      clear h0
      go_wp2
      go_meet
      case rel => exact ⟨by first | (rw [HBB.out]; done) | (rw [HBB.out]; rfl), HN, HBW, HCW⟩
  case rest =>
    clear d0 d1 HN HBW HPR HCW
    obtain ⟨rfl, HN, HB, HCW⟩ := hcut
    have d0 : wc.cell? ⟨nb, 0, none⟩ = some (.int .i64 kd) := (blk_cell HN.out 0).trans rfl
    have d1 : wc.cell? ⟨nb, 1, none⟩ = some (.string lb) := (blk_cell HN.out 1).trans rfl
    cases bad with
    | true =>
      have HRP := Aside0.mk (show r = (-1, ⟨#[]⟩, 0) by rw [← HRR.out, HR.out, if_pos (by have := HBAD.out; cases hs : stepB ⟨kd, lb⟩ with | false => rfl | true => rw [hs] at this; cases this)]; rfl)
      go_wp2
      go_ret3
      exact ⟨ret3_of HRP.out, HB.out⟩
    | false =>
      have hs : stepB ⟨kd, lb⟩ = true := by have := HBAD.out; cases hs : stepB ⟨kd, lb⟩ with | true => rfl | false => rw [hs] at this; cases this
      have HR1 := Aside0.mk (show textR l (n + 1) (e + 1) = if kd ≤ 2 then some (e, (labelL ⟨kd, lb⟩, 3))
        else (textR l n e).bind fun b =>
          if 4 < kd then some (b.1, (leastL b.2 3 ++ markL kd, 3))
          else (textR l n b.1).bind fun a => some (a.1, joinP kd a.2 b.2) by rw [HR.out, if_neg (by rw [hs]; simp)])
      have hkd : 1 ≤ kd ∧ kd ≤ 7 := by
        unfold stepB at hs
        rw [Bool.and_eq_true, decide_eq_true_eq] at hs
        exact hs.1
      have HS := Aside0.mk hs
      clear hs HR HBAD
      by_cases hk2 : kd ≤ 2
      · have hps : predN lb = true := by
          have := HS.out
          unfold stepB at this
          simp only at this
          rw [if_pos hk2, Bool.and_eq_true] at this
          exact this.2
        have hsz := predN_len hps
        rcases (by omega : kd = 1 ∨ kd = 2) with rfl | rfl
        · have HRP := Aside0.mk (show r = ((e : Int), lb, 3) by
            rw [← HRR.out, HR1.out, if_pos (by decide)]
            have : labelL ⟨1, lb⟩ = lb.data.toList := by unfold labelL; simp only; rw [if_pos hps]; rfl
            rw [this]
            show ((e : Int), baL lb.data.toList, (3 : Int)) = _
            rw [show baL lb.data.toList = lb from ba_eta lb])
          clear hps hkd hk2
          go_wp2
          go_quiet (fail)
          (try go_wp2)
          go_ret3
          exact ⟨ret3_of HRP.out, by first | exact HB.out | exact pw_below_drewN HB.out _ | exact below_drew1 HB.out⟩
        · have HRP := Aside0.mk (show r = ((e : Int), (⟨#[94]⟩ : ByteArray) ++ lb, 3) by
            rw [← HRR.out, HR1.out, if_pos (by decide)]
            have : labelL ⟨2, lb⟩ = [94] ++ lb.data.toList := by unfold labelL; simp only; rw [if_pos hps]; rfl
            rw [this]
            show ((e : Int), baL ([94] ++ lb.data.toList), (3 : Int)) = _
            congr 2)
          have kq : (9223372036854775807 < 1 + lb.size) = False := eq_false (by omega)
          clear hps hkd hk2
          go_wp2
          go_quiet (fail)
          (try go_wp2)
          go_ret3
          exact ⟨ret3_of HRP.out, by first | exact HB.out | exact pw_below_drewN HB.out _ | exact below_drew1 HB.out⟩
      · have HR2a := Aside0.mk (HR1.out.trans (if_neg hk2))
        have k1 : (kd == 1) = false := beq_eq_false_iff_ne.2 (by omega)
        have k2 : (kd == 2) = false := beq_eq_false_iff_ne.2 (by omega)
        go_wp2_with fail
        refine (HIH.out e (Nat.le_refl _) _ c _ HCW.out).mono ?_
        rintro ex w2 ⟨rfl, hb⟩
        have HB2 := Aside0.mk (below_then HB.out HB.out.size hb)
        have HN2 := Aside0.mk (blk_below HN.out hb)
        have HC2 := Aside0.mk (Kd.C_below HCW.out hb)
        clear hb d0 d1
        have d0 : w2.cell? ⟨nb, 0, none⟩ = some (.int .i64 kd) := (blk_cell HN2.out 0).trans rfl
        obtain ⟨o, ho⟩ : ∃ o, textR l n e = o := ⟨_, rfl⟩
        have HO := Aside0.mk ho
        have HR2 := Aside0.mk (show textR l (n + 1) (e + 1) = o.bind fun b =>
          if 4 < kd then some (b.1, (leastL b.2 3 ++ markL kd, 3))
          else (textR l n b.1).bind fun a => some (a.1, joinP kd a.2 b.2) by rw [HR2a.out, ho])
        rw [ho]
        clear ho
        cases o with
        | none =>
          have HRP := Aside0.mk (show r = (-1, ⟨#[]⟩, 0) by rw [← HRR.out, HR2.out]; rfl)
          simp only [outT]
          go_wp2
          go_ret3
          exact ⟨ret3_of HRP.out, HB2.out⟩
        | some b =>
          obtain ⟨fb, pb⟩ := b
          obtain ⟨hpb, hfb⟩ := textR_len (by omega) HO.out
          have hl3 := leastL_len pb 3
          simp only [outT]
          have f0 : decide ((fb : Int) < 0) = false := decide_eq_false (by omega)
          rcases (by omega : kd = 5 ∨ kd = 6 ∨ kd = 7 ∨ kd = 3 ∨ kd = 4) with rfl | rfl | rfl | rfl | rfl
          · -- mark 5
            have HRP := Aside0.mk (show r = ((fb : Int), baL (leastL pb 3 ++ [42]), 3) by rw [← HRR.out, HR2.out]; simp only [Option.bind_some]; rw [if_pos (by decide)]; rfl)
            have HCL := Aside0.mk (fun V => antecedentref09_closed.calls (baL pb.1) (decide (pb.2 < 3)) (baL (leastL pb 3)) V (closed_f pb 3 (by omega)))
            obtain ⟨lt, hlt⟩ : ∃ x, baL (leastL pb 3) = x := ⟨_, rfl⟩
            have HTX := Aside0.mk (show lt ++ (⟨#[42]⟩ : ByteArray) = baL (leastL pb 3 ++ [42]) by rw [← hlt, show (⟨#[42]⟩ : ByteArray) = baL [42] from rfl, baL_app])
            have hls : lt.size ≤ 60000 := by rw [← hlt, baL_size]; omega
            rw [hlt] at HCL
            have kq : (9223372036854775807 < lt.size + 1) = False := eq_false (by omega)
            obtain ⟨cb, hcb⟩ : ∃ b, decide (pb.2 < 3) = b := ⟨_, rfl⟩
            rw [hcb] at HCL
            clear hlt
            go_wp2_with fail
            refine (HCL.out _).mono ?_
            rintro ex V2 ⟨rfl, nd, rfl⟩
            have HB3 := Aside0.mk (pw_below_drewN HB2.out nd)
            go_wp2
            go_ret3
            exact ⟨ret3_of (by rw [HRP.out, HTX.out]), HB3.out⟩
          · -- mark 6
            have HRP := Aside0.mk (show r = ((fb : Int), baL (leastL pb 3 ++ [43]), 3) by rw [← HRR.out, HR2.out]; simp only [Option.bind_some]; rw [if_pos (by decide)]; rfl)
            have HCL := Aside0.mk (fun V => antecedentref09_closed.calls (baL pb.1) (decide (pb.2 < 3)) (baL (leastL pb 3)) V (closed_f pb 3 (by omega)))
            obtain ⟨lt, hlt⟩ : ∃ x, baL (leastL pb 3) = x := ⟨_, rfl⟩
            have HTX := Aside0.mk (show lt ++ (⟨#[43]⟩ : ByteArray) = baL (leastL pb 3 ++ [43]) by rw [← hlt, show (⟨#[43]⟩ : ByteArray) = baL [43] from rfl, baL_app])
            have hls : lt.size ≤ 60000 := by rw [← hlt, baL_size]; omega
            rw [hlt] at HCL
            have kq : (9223372036854775807 < lt.size + 1) = False := eq_false (by omega)
            obtain ⟨cb, hcb⟩ : ∃ b, decide (pb.2 < 3) = b := ⟨_, rfl⟩
            rw [hcb] at HCL
            clear hlt
            go_wp2_with fail
            refine (HCL.out _).mono ?_
            rintro ex V2 ⟨rfl, nd, rfl⟩
            have HB3 := Aside0.mk (pw_below_drewN HB2.out nd)
            go_wp2
            go_ret3
            exact ⟨ret3_of (by rw [HRP.out, HTX.out]), HB3.out⟩
          · -- mark 7
            have HRP := Aside0.mk (show r = ((fb : Int), baL (leastL pb 3 ++ [63]), 3) by rw [← HRR.out, HR2.out]; simp only [Option.bind_some]; rw [if_pos (by decide)]; rfl)
            have HCL := Aside0.mk (fun V => antecedentref09_closed.calls (baL pb.1) (decide (pb.2 < 3)) (baL (leastL pb 3)) V (closed_f pb 3 (by omega)))
            obtain ⟨lt, hlt⟩ : ∃ x, baL (leastL pb 3) = x := ⟨_, rfl⟩
            have HTX := Aside0.mk (show lt ++ (⟨#[63]⟩ : ByteArray) = baL (leastL pb 3 ++ [63]) by rw [← hlt, show (⟨#[63]⟩ : ByteArray) = baL [63] from rfl, baL_app])
            have hls : lt.size ≤ 60000 := by rw [← hlt, baL_size]; omega
            rw [hlt] at HCL
            have kq : (9223372036854775807 < lt.size + 1) = False := eq_false (by omega)
            obtain ⟨cb, hcb⟩ : ∃ b, decide (pb.2 < 3) = b := ⟨_, rfl⟩
            rw [hcb] at HCL
            clear hlt
            go_wp2_with fail
            refine (HCL.out _).mono ?_
            rintro ex V2 ⟨rfl, nd, rfl⟩
            have HB3 := Aside0.mk (pw_below_drewN HB2.out nd)
            go_wp2
            go_ret3
            exact ⟨ret3_of (by rw [HRP.out, HTX.out]), HB3.out⟩
          · -- two 3
            go_wp2_with fail
            refine (HIH.out fb (by omega) _ c _ HC2.out).mono ?_
            rintro ex w3 ⟨rfl, hb⟩
            have HB4 := Aside0.mk (below_then HB2.out HB2.out.size hb)
            have HN3 := Aside0.mk (blk_below HN2.out hb)
            clear hb d0
            have d0 : w3.cell? ⟨nb, 0, none⟩ = some (.int .i64 3) := (blk_cell HN3.out 0).trans rfl
            obtain ⟨o2, ho2⟩ : ∃ o, textR l n fb = o := ⟨_, rfl⟩
            have HO2 := Aside0.mk ho2
            have HR3 := Aside0.mk (show textR l (n + 1) (e + 1) = o2.bind fun a => some (a.1, joinP 3 a.2 pb) by rw [HR2.out]; simp only [Option.bind_some]; rw [if_neg (by decide), ho2])
            rw [ho2]
            clear ho2
            cases o2 with
            | none =>
              have HRP := Aside0.mk (show r = (-1, ⟨#[]⟩, 0) by rw [← HRR.out, HR3.out]; rfl)
              simp only [outT]
              go_wp2
              go_ret3
              exact ⟨ret3_of HRP.out, HB4.out⟩
            | some a =>
              obtain ⟨fa, pa⟩ := a
              obtain ⟨hpa, hfa⟩ := textR_len (by omega) HO2.out
              simp only [outT]
              have f1 : decide ((fa : Int) < 0) = false := decide_eq_false (by omega)
              · -- join 3
                have HRP := Aside0.mk (show r = ((fa : Int), baL (joinP 3 pa pb).1, (joinP 3 pa pb).2) by rw [← HRR.out, HR3.out]; rfl)
                have HCL := Aside0.mk (fun V => antecedentref09_closed.calls (baL pb.1) (decide (pb.2 < 3)) (baL (leastL pb 3)) V (closed_f pb 3 (by omega)))
                have HCA := Aside0.mk (fun V => antecedentref09_closed.calls (baL pa.1) (decide (pa.2 < 2)) (baL (leastL pa 2)) V (closed_f pa 2 (by omega)))
                have hl2 := leastL_len pb 3
                have hl2a := leastL_len pa 2
                obtain ⟨lt, hlt⟩ : ∃ x, baL (leastL pb 3) = x := ⟨_, rfl⟩
                obtain ⟨la, hla⟩ : ∃ x, baL (leastL pa 2) = x := ⟨_, rfl⟩
                have HTX := Aside0.mk (show (la ++ (⟨#[47]⟩ : ByteArray)) ++ lt = baL (joinP 3 pa pb).1 by rw [← hlt, ← hla, show (⟨#[47]⟩ : ByteArray) = baL [47] from rfl, baL_app, baL_app, List.append_assoc]; rfl)
                have hls : lt.size ≤ 60000 := by rw [← hlt, baL_size]; omega
                have hlas : la.size ≤ 60000 := by rw [← hla, baL_size]; omega
                rw [hlt] at HCL
                rw [hla] at HCA
                have kq1 : (9223372036854775807 < la.size + 1) = False := eq_false (by omega)
                have kq2 : (9223372036854775807 < la.size + 1 + lt.size) = False := eq_false (by omega)
                obtain ⟨cb, hcb⟩ : ∃ b, decide (pb.2 < 3) = b := ⟨_, rfl⟩
                rw [hcb] at HCL
                obtain ⟨ca, hca⟩ : ∃ b, decide (pa.2 < 2) = b := ⟨_, rfl⟩
                rw [hca] at HCA
                clear hlt hla
                go_wp2_with fail
                refine (HCA.out _).mono ?_
                rintro ex V5 ⟨rfl, nd5, rfl⟩
                have HB40 := HB4
                replace HB4 := Aside0.mk (pw_below_drewN HB40.out nd5)
                go_wp2_with fail
                refine (HCL.out _).mono ?_
                rintro ex V4 ⟨rfl, nd, rfl⟩
                have HB5 := Aside0.mk (pw_below_drewN HB4.out nd)
                go_wp2
                go_ret3
                exact ⟨ret3_of (by rw [HRP.out, HTX.out]; rfl), by first | exact HB5.out | exact pw_below_drewN HB40.out _ | exact pw_below_drewN HB4.out _⟩
          · -- two 4
            go_wp2_with fail
            refine (HIH.out fb (by omega) _ c _ HC2.out).mono ?_
            rintro ex w3 ⟨rfl, hb⟩
            have HB4 := Aside0.mk (below_then HB2.out HB2.out.size hb)
            have HN3 := Aside0.mk (blk_below HN2.out hb)
            clear hb d0
            have d0 : w3.cell? ⟨nb, 0, none⟩ = some (.int .i64 4) := (blk_cell HN3.out 0).trans rfl
            obtain ⟨o2, ho2⟩ : ∃ o, textR l n fb = o := ⟨_, rfl⟩
            have HO2 := Aside0.mk ho2
            have HR3 := Aside0.mk (show textR l (n + 1) (e + 1) = o2.bind fun a => some (a.1, joinP 4 a.2 pb) by rw [HR2.out]; simp only [Option.bind_some]; rw [if_neg (by decide), ho2])
            rw [ho2]
            clear ho2
            cases o2 with
            | none =>
              have HRP := Aside0.mk (show r = (-1, ⟨#[]⟩, 0) by rw [← HRR.out, HR3.out]; rfl)
              simp only [outT]
              go_wp2
              go_ret3
              exact ⟨ret3_of HRP.out, HB4.out⟩
            | some a =>
              obtain ⟨fa, pa⟩ := a
              obtain ⟨hpa, hfa⟩ := textR_len (by omega) HO2.out
              simp only [outT]
              have f1 : decide ((fa : Int) < 0) = false := decide_eq_false (by omega)
              · -- join 4
                have HRP := Aside0.mk (show r = ((fa : Int), baL (joinP 4 pa pb).1, (joinP 4 pa pb).2) by rw [← HRR.out, HR3.out]; rfl)
                have HCL := Aside0.mk (fun V => antecedentref09_closed.calls (baL pb.1) (decide (pb.2 < 2)) (baL (leastL pb 2)) V (closed_f pb 2 (by omega)))
                have HCA := Aside0.mk (fun V => antecedentref09_closed.calls (baL pa.1) (decide (pa.2 < 2)) (baL (leastL pa 2)) V (closed_f pa 2 (by omega)))
                have hl2 := leastL_len pb 2
                have hl2a := leastL_len pa 2
                obtain ⟨lt, hlt⟩ : ∃ x, baL (leastL pb 2) = x := ⟨_, rfl⟩
                obtain ⟨la, hla⟩ : ∃ x, baL pa.1 = x := ⟨_, rfl⟩
                have HTX := Aside0.mk (show (la ++ (⟨#[124]⟩ : ByteArray)) ++ lt = baL (joinP 4 pa pb).1 by rw [← hlt, ← hla, show (⟨#[124]⟩ : ByteArray) = baL [124] from rfl, baL_app, baL_app, List.append_assoc]; rfl)
                have hls : lt.size ≤ 60000 := by rw [← hlt, baL_size]; omega
                have hlas : la.size ≤ 60000 := by rw [← hla, baL_size]; omega
                rw [hlt] at HCL
                rw [hla]
                have kq1 : (9223372036854775807 < la.size + 1) = False := eq_false (by omega)
                have kq2 : (9223372036854775807 < la.size + 1 + lt.size) = False := eq_false (by omega)
                obtain ⟨cb, hcb⟩ : ∃ b, decide (pb.2 < 2) = b := ⟨_, rfl⟩
                rw [hcb] at HCL
                obtain ⟨ca, hca⟩ : ∃ b, decide (pa.2 < 2) = b := ⟨_, rfl⟩
                rw [hca] at HCA
                clear hlt hla
                go_wp2_with fail
                skip
                refine (HCL.out _).mono ?_
                rintro ex V4 ⟨rfl, nd, rfl⟩
                have HB5 := Aside0.mk (pw_below_drewN HB4.out nd)
                go_wp2
                go_ret3
                exact ⟨ret3_of (by rw [HRP.out, HTX.out]; rfl), by first | exact HB5.out | exact pw_below_drewN HB40.out _ | exact pw_below_drewN HB4.out _⟩
theorem refText_calls (l : List StS) (hl : l.length ≤ 1000) : ∀ (n e : Nat), e < n → e ≤ l.length → RtOk l n e
  | 0, e, hn, _ => absurd hn (Nat.not_lt_zero e)
  | n + 1, 0, _, _ => rt_zero l n
  | n + 1, e + 1, hn, he => rt_step l hl n e he fun e2 h => refText_calls l hl n e2 (by omega) (by omega)
end Go.Proofs.YthebhbomlllpeaaGreatDoor.X
namespace Go.Proofs.YthebhbomlllpeaaGreatDoor.X
set_option linter.unusedVariables false
set_option linter.unusedSimpArgs false
open Go.RowKit Go.Proofs.YthebhbomlllpeaaGreatDoorW.PrintWords Go.Proofs.YthebhbomlllpeaaGreatDoorW.PrintLast Go.Proofs.YthebhbomlllpeaaGreatDoorW.PrintMore
theorem text_ok (l : List StS) (h : l.length ≤ 100) : TextOk l := fun A c w hC =>
  refText_calls l (by omega) (l.length + 1) l.length (by omega) (Nat.le_refl _) A c w hC
def antecedentlaw09_ShowPaths.f (k : Nat) (l : List StS) : Option Bool := if l.all okStep then some true else none
theorem antecedentlaw09_ShowPaths.calls (k : Nat) (A0 : Option Addr) (c0 : Nat) (l0 : List StS) (r : Bool) (w : World) (hLW : LaidW w) (hr0 : Kd.C k69 w A0 l0.length l0) (hc0 : l0.length ≤ c0)
    (h : antecedentlaw09_ShowPaths.f k l0 = some r) :
    Calls Tryz.prog 4 #[.slice A0 l0.length c0] w fun e w' => e = .returned (.bool r) ∧ Below w.heap.size w w' := by
  unfold antecedentlaw09_ShowPaths.f at h
  split at h
  · rename_i hall
    injection h with h
    subst h
    refine showPaths_law l0 (text_ok l0) (fun x hx => ?_) A0 c0 w hLW hr0
    have := List.all_eq_true.1 hall x hx
    unfold okStep at this
    rw [Bool.and_eq_true] at this
    exact of_decide_eq_true this.2
  · cases h
end Go.Proofs.YthebhbomlllpeaaGreatDoor.X
namespace Go.Proofs.YthebhbomlllpeaaGreatDoor.X
theorem pureShowPaths (l : List S69) (h : ∀ x ∈ l, okStep x = true) : ∃ k, antecedentlaw09_ShowPaths.f k l = some true :=
  ⟨0, by unfold antecedentlaw09_ShowPaths.f; rw [if_pos (List.all_eq_true.2 h)]⟩
end Go.Proofs.YthebhbomlllpeaaGreatDoor.X
