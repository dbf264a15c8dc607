/-
  ShowPaths: what the proof needs, put together by a program of this session (shake.py), part 5.
-/
import Derived.Test.YthebhbomlllpeaaGreatDoorCards
import Derived.Test.YthebhbomlllpeaaGreatDoorTie
import Derived.Test.YthebhbomlllpeaaGreatDoorProg
import Derived.Below
import Derived.Deep.Draws
import Derived.Deep.AppendLies
import Derived.Maps.AppendAt
import Derived.OwnWalk
import Derived.Laws.BytesArg
import Derived.Laws.MakeOwn
import Derived.Laws.OwnMore
import Derived.Deep.OwnRows
import Derived.Tactics
import Derived.Lib.ConvBytes
import Derived.Laws.Slices
import Derived.WalkKit
import Derived.KernelRfl
import Derived.RowKit3
import Derived.Deep.LoopGhost
import Derived.Deep.QuietTactic
import Derived.BigQuiet
import Derived.WideLaws
import Derived.Deep.DeepCutAuto
import Derived.Deep.CutBlock
import Derived.Deep.RegionHeld3
import Derived.Laws.Rows
import Derived.Lib.AppendStr
import Derived.ArgAppend
import Derived.Laws.IdiomCopy
import Derived.OrdersHeld
import Derived.Laws.BitsLemmas
import Derived.RowKit
import Derived.Lib.SmallJoins
import Derived.Lib.ItoaMem
import Derived.Laws.StructEq
import Derived.Test.YthebhbomlllpeaaGreatDoorRows
import Derived.Deep.Slices
import Derived.Deep.Fields
import Derived.ChangeSame
import Derived.ProofKit
import Derived.OpenShut
import Derived.Deep.DeepHandedRow
import Derived.Lib.LaidTab
import Derived.LaidMore
import Derived.Stop.LaidErr
import Derived.MakeChecks
import Derived.WalkLawsBesides
import Derived.StillTailTactics
import Derived.Laws.NewBlocks
import Derived.Shelf.Strings.Builder1
import Derived.Shelf.Strings.Builder2
import Derived.Shelf.Strings.OnBuilder
import Derived.Shelf.Small.Strs
import Derived.Shelf.Small.Wraps
import Derived.Shelf.Strings.BuilderF
import Derived.Shelf.Strings.BuilderK
import Derived.Shelf.Strings.Builder2Cap
import Derived.Shelf.Strconv.Itoa0
import Derived.Shelf.Strconv.Itoa1
import Derived.Shelf.LaysM
import Derived.Shelf.Strconv.Itoa2
import Derived.Shelf.Strconv.Itoa3
import Derived.Shelf.Strconv.Itoa4
import Derived.Shelf.Strconv.ParseIntEmpty
import Derived.Shelf.Strconv.Clone
import Derived.Shelf.Strconv.SyntaxError
import Derived.Shelf.LaysC
import Derived.Shelf.Strconv.ToError
import Derived.Shelf.Strconv.Lower
import Derived.Shelf.Strconv.ParseUint10
import Derived.Shelf.Strconv.ParseUint10Empty
import Derived.Shelf.Strconv.ParseUint10Any
import Derived.Shelf.Strconv.ParseInt10
import Derived.Shelf.Strconv.RangeError
import Derived.Shelf.Strconv.ToErrorRange
import Derived.Shelf.Strconv.ParseUintEmpty
import Derived.Shelf.Strconv.ParseUint10b64
import Derived.Shelf.Strconv.ParseUint10b32
import Derived.Shelf.Strconv.ParseUint10b16
import Derived.Shelf.Strconv.ParseUint10b8
import Derived.Shelf.Strconv.ParseUint10At
import Derived.Shelf.Strconv.ParseInt10At64
import Derived.Shelf.Strconv.ParseInt10At32
import Derived.Shelf.Strconv.ParseInt10At16
import Derived.Shelf.Strconv.ParseInt10At8
import Derived.Shelf.Strconv.ParseInt10All
import Derived.Shelf.Strconv.ParseIntPublic10
import Derived.Shelf.Strconv.ErrVarParseInt
import Derived.Ground.MpProg
import Derived.Shelf.Pu.ParseUintPublic10
import Derived.Shelf.Pu.ErrVarParseUint
import Derived.Shelf.Strings.Search1
import Derived.Shelf.Strings.Prefix
import Derived.Shelf.Bits.Mul64
import Derived.Shelf.Strings.Repeat
import Derived.Shelf.Strings.BuilderCap
import Derived.Lib.AtoiAllMem
import Derived.Lib.ParseIntB
import Derived.Lib.Hide
import Derived.Laws.Strings3
import Derived.Laws.Closers25
import Derived.Laws.Closers25b
import Derived.BigCall
import Derived.BigGuard
import Derived.Laws.RangeAny
import Derived.Laws.RangeString
import Derived.Lib.ParseIntBTie
import Init
import Derived.LoopN
import Derived.WalkMore
import Derived.Deep.MidRow
import Derived.Recover
import Derived.Deep.DrawnRows
import Derived.Test.YthebhbomlllpeaaGreatDoorZShowPaths4
namespace Go.Proofs.YthebhbomlllpeaaGreatDoor.X
set_option linter.unusedVariables false
set_option linter.unusedSimpArgs false
open Go.RowKit Go.Proofs.YthebhbomlllpeaaGreatDoorW.PrintWords Go.Proofs.YthebhbomlllpeaaGreatDoorW.PrintLast Go.Proofs.YthebhbomlllpeaaGreatDoorW.PrintMore
attribute [local go_sem ↓] Go.wp_at_zero Go.wp_at_succ
def show22.T : Bool × List (List Nat × List Nat) := (true, [([], []), ([], []), ([1], [1]), ([0, 2], [0, 2]), ([], []), ([], []), ([5], [5]), ([4, 6], [4, 6]), ([7], [7]), ([8], [8]), ([], []), ([9, 10], [9, 10]), ([], []), ([12, 9], [12]), ([11, 13], [11, 13]), ([14], [14]), ([15], [15]), ([3, 16, 13], [3, 16]), ([17, 17, 0, 1, 2, 3, 4, 5, 6, 7, 8, 9, 10, 11, 12, 13, 14, 15, 16, 17], [0, 4, 17])])
def show22.B : List Nat := [0, 0, 2, 7, 0, 0, 32, 112, 240, 496, 0, 2032, 0, 5104, 16368, 32752, 65520, 131071, 262143]
theorem show22.tab : rtab .any (opsOf Tryz.f25 22) = show22.T := by kernel_rfl
theorem show22.bits : waitsOk show22.T.2 show22.B = true := by kernel_rfl
def show24.T : Bool × List (List Nat × List Nat) := (true, [([], []), ([], []), ([1], [1]), ([0, 2], [0, 2]), ([], []), ([], []), ([5], [5]), ([4, 6], [4, 6]), ([7], [7]), ([8], [8]), ([], []), ([9, 10], [9, 10]), ([], []), ([12], [12]), ([11, 13], [11, 13]), ([14], [14]), ([15], [15]), ([3, 16, 13], [3, 16]), ([17, 17, 0, 1, 2, 3, 4, 5, 6, 7, 8, 9, 10, 11, 12, 13, 14, 15, 16, 17], [0, 4, 17])])
def show24.B : List Nat := [0, 0, 2, 7, 0, 0, 32, 112, 240, 496, 0, 2032, 0, 4096, 16368, 32752, 65520, 131071, 262143]
theorem show24.tab : rtab .any (opsOf Tryz.f25 24) = show24.T := by kernel_rfl
theorem show24.bits : waitsOk show24.T.2 show24.B = true := by kernel_rfl
/-- the signs, as they lie. -/
abbrev signsV : Array Value := #[.string ⟨#[]⟩, .string ⟨#[]⟩, .string ⟨#[]⟩, .string ⟨#[47]⟩, .string ⟨#[124]⟩, .string ⟨#[42]⟩, .string ⟨#[43]⟩, .string ⟨#[63]⟩]
/-- a path under way. -/
structure PaM (w W : World) (n3 : Nat) (u : Value) (st : List Pc) : Prop where
  B : Below w.heap.size w W
  own : Kd.R kP 85 W w.heap.size (fun k => w.heap.size ≤ k ∧ k ≠ n3) u (memS st)
  b3 : W.heap[n3]? = some (.cells signsV 81 (0, 0))
  h3 : w.heap.size ≤ n3
theorem PaM.below {w W W1 : World} {n3 : Nat} {u : Value} {st : List Pc} (h : PaM w W n3 u st) (hb : Below W.heap.size W W1) : PaM w W1 n3 u st :=
  ⟨below_then h.B h.B.size hb, Kd.R_below h.own hb, blk_below h.b3 hb, h.h3⟩
theorem PaM.more {w W w2 : World} {n3 : Nat} {u u' : Value} {st : List Pc} {p : Pc} (h : PaM w W n3 u st) (ho : Kd.R kP 85 w2 w.heap.size (fun k => w.heap.size ≤ k ∧ k ≠ n3) u' (memS st ++ [(baL p.1, p.2)])) (hb : Below w.heap.size w w2) (hg : W.grownBy w2 u.ownBlock) : PaM w w2 n3 u' (p :: st) :=
  ⟨hb, by rw [memS_cons]; exact ho, blk_grown h.b3 hg (fun he => (h.own.1 n3 he.symm).2 rfl), h.h3⟩
theorem PaM.after {w W w2 : World} {n3 bk o n c : Nat} {u' : Value} {st r : List Pc} {p : Pc} (h : PaM w W n3 (.slice (some ⟨bk, o, none⟩) n c) st) (ho : Kd.R kP 85 w2 w.heap.size (fun k => w.heap.size ≤ k ∧ k ≠ n3) u' (memS r ++ [(baL p.1, p.2)])) (hb : Below w.heap.size w w2) (hg : W.grownBy w2 (some bk)) : PaM w w2 n3 u' (p :: r) :=
  ⟨hb, by rw [memS_cons]; exact ho, blk_grown h.b3 hg (fun he => (h.own.1 n3 he.symm).2 rfl), h.h3⟩
theorem memS_take2 (b a : Pc) (r : List Pc) (q : Nat) (hq : r.length = q) : (memS (b :: a :: r)).take q = memS r := by
  rw [memS_cons, memS_cons, List.append_assoc, List.take_append_of_le_length (by rw [memS_length]; omega), List.take_of_length_le (by rw [memS_length]; omega)]
theorem memS_set (p x : Pc) (st : List Pc) (m : Nat) (hm : st.length = m) : (memS (p :: st)).set m (baL x.1, x.2) = memS (x :: st) := by
  rw [memS_cons, memS_cons, List.set_append_right _ _ (by rw [memS_length]; omega), memS_length, hm, Nat.sub_self]
  rfl
theorem baL_app (a b : List UInt8) : baL a ++ baL b = baL (a ++ b) := ba_eq (by simp)
theorem baL_size (a : List UInt8) : (baL a).size = a.length := by simp [ByteArray.size]
theorem deep_S (s : List UInt8) (h : s.length ≤ 20000) : ∃ k, parse_Deep.f k (baL s) = some ((deepS s : Nat) : Int) := by
  refine ⟨_, deep_f (baL s) (by rw [baL_size]; exact h) ?_⟩
  by_cases h0 : (lexRes (baL s)).2.2 = 0
  · have := (lex_ok (by rw [baL_size]; exact h) h0).2
    rw [baL_size] at this
    omega
  · unfold lexRes at h0 ⊢
    rw [if_neg (by rw [baL_size]; omega)] at h0 ⊢
    unfold tokRes at h0 ⊢
    cases ht : tokN nmL vlL 0 (baL s).data.toList with
    | error i => simp
    | ok l => rw [ht] at h0; exact absurd rfl h0
theorem own_zero {α : Type} {d : Kd α} {e : TypeId} {W : World} {base bk o n c : Nat} {ok : Nat → Prop} {xs : List α} (h : d.R e W base ok (.slice (some ⟨bk, o, none⟩) n c) xs) : o = 0 ∧ ∃ cur, W.heap[bk]? = some (.cells cur e (0, 0)) := by
  obtain ⟨_, inner, hown, _⟩ := h
  rcases hown.2 with ⟨hv, _⟩ | ⟨g, cap, cur, hv, _, hh, _⟩
  · cases hv
  · injection hv with h1 h2 h3
    injection h1 with h1
    injection h1 with h1 h4
    subst h1 h4
    exact ⟨rfl, cur, hh⟩
/-- what is told of a whole stack. -/
def endL : List Pc → List UInt8
  | [p] => if 32 < deepS p.1 then [] else p.1
  | _ => []
theorem pathL_end {l : List StS} {st : List Pc} (h : ¬ 100 < l.length) (hs : pushes [] l = some st) : pathL l = endL st := by
  unfold pathL
  rw [if_neg h, hs]
  match st with
  | [] => rfl
  | [p] => rfl
  | _ :: _ :: _ => rfl
theorem take_snocS (l : List StS) (i : Nat) (hi : i < l.length) (x : StS) (hx : l[i] = x) : l.take (i + 1) = l.take i ++ [x] := by rw [List.take_succ_eq_append_getElem hi, hx]
theorem path_none {l : List StS} {i : Nat} {st : List Pc} {x : StS} (hl : l.length ≤ 100) (hs : pushes [] (l.take i) = some st) (hi : i < l.length) (hx : l[i] = x) (h : push1 st x = none) : pathL l = [] := by
  have : pushes [] l = none := by
    have e : l = l.take i ++ (x :: l.drop (i + 1)) := by
      have := List.take_append_drop i l
      rw [List.drop_eq_getElem_cons hi, hx] at this
      exact this.symm
    rw [e, pushes_app, hs]
    simp only [Option.bind_some, pushes, h]
    rfl
  unfold pathL
  rw [if_neg (by omega), this]
theorem showpath_step {l : List StS} {i : Nat} {st st' : List Pc} {x : StS} (hs : pushes [] (l.take i) = some st) (hi : i < l.length) (hx : l[i] = x) (h : push1 st x = some st') : pushes [] (l.take (i + 1)) = some st' := by
  rw [take_snocS l i hi x hx, pushes_app, hs]
  simp only [Option.bind_some, pushes, h]
theorem push1_nil {kd : Int} (h0 : ¬ (kd < 1 ∨ 7 < kd)) (h2 : ¬ kd ≤ 2) : push1 [] ⟨kd, ⟨#[]⟩⟩ = none := by
  unfold push1
  rw [if_neg h0, if_neg h2, if_neg (fun h => h rfl)]
theorem push1_one {kd : Int} {b : Pc} (h0 : ¬ (kd < 1 ∨ 7 < kd)) (h2 : ¬ kd ≤ 2) (h4 : kd ≤ 4) : push1 [b] ⟨kd, ⟨#[]⟩⟩ = none := by
  unfold push1
  rw [if_neg h0, if_neg h2, if_neg (fun h => h rfl)]
  simp only [if_pos h4]
theorem push1_then {b a : Pc} {r : List Pc} : push1 (b :: a :: r) ⟨3, ⟨#[]⟩⟩ = some ((leastL a 2 ++ (markL 3 ++ leastL b 3), 2) :: r) := by
  unfold push1
  rw [if_neg (by rintro (h | h); exact absurd h (by decide); exact absurd h (by decide)), if_neg (show ¬ ((3 : Int) ≤ 2) by decide), if_neg (fun h => h rfl)]
  rfl
theorem push1_or {b a : Pc} {r : List Pc} : push1 (b :: a :: r) ⟨4, ⟨#[]⟩⟩ = some ((a.1 ++ (markL 4 ++ leastL b 2), 1) :: r) := by
  unfold push1
  rw [if_neg (by rintro (h | h); exact absurd h (by decide); exact absurd h (by decide)), if_neg (show ¬ ((4 : Int) ≤ 2) by decide), if_neg (fun h => h rfl)]
  rfl
theorem push1_mark {kd : Int} {b : Pc} {r : List Pc} (h0 : ¬ (kd < 1 ∨ 7 < kd)) (h2 : ¬ kd ≤ 2) (h4 : ¬ kd ≤ 4) : push1 (b :: r) ⟨kd, ⟨#[]⟩⟩ = some ((leastL b 3 ++ markL kd, 3) :: r) := by
  unfold push1
  rw [if_neg h0, if_neg h2, if_neg (fun h => h rfl)]
  simp only [if_neg h4]
set_option maxHeartbeats 8000000 in
set_option maxRecDepth 100000 in
theorem path_show (l : List StS) (A : Option Addr) (c : Nat) (w : World) (hLW : LaidW w) (hC : Kd.C k69 w A l.length l) (hl : ∀ x ∈ l, x.f1.size ≤ 9223372036854775807) (hl63 : l.length ≤ 140737488355328) :
    Calls Tryz.prog 25 #[.slice A l.length c] w fun e w' => e = .returned (.string (baL (pathL l))) ∧ Below w.heap.size w w' := by
  by_cases h100 : 100 < l.length
  · have e1 : decide ((100 : Int) < (l.length : Int)) = true := decide_eq_true (by omega)
    have e2 : decide (100 < l.length) = true := decide_eq_true h100
    have HE := Aside0.mk (show pathL l = [] from if_pos h100)
    have HB := Aside0.mk (Below.refl w.heap.size w)
    clear hC hl hLW
    go_enter Tryz.func25, Tryz.ntmps25
    go_wp2
    go_ret
    exact ⟨by rw [HE.out]; rfl, HB.out⟩
  · have e1 : decide ((100 : Int) < (l.length : Int)) = false := decide_eq_false (by omega)
    have e2 : decide (100 < l.length) = false := decide_eq_false h100
    have hlen : l.length ≤ 100 := by omega
    have hB := below_alloc (Below.refl w.heap.size w) (.cells signsV 81)
    have h3 := blk_new w (.cells signsV 81)
    have HM := Aside0.mk (show PaM w (w.alloc (.cells signsV 81)) w.heap.size (.slice none 0 0) [] from ⟨hB, Kd.R_nil _ _ _ _ _, h3, Nat.le_refl _⟩)
    have HC := Aside0.mk hC
    have HL := Aside0.mk hl
    have HLW := Aside0.mk hLW
    clear hC hl hLW hB h3
    go_enter Tryz.func25, Tryz.ntmps25
    go_wp2
    go_loopg [4, 17] (l.length + 1) (fun kq v4 v17 w' => ∃ (i : Nat) (st : List Pc), v17 = .int .i64 i ∧ kq + i = l.length + 1 ∧ i ≤ l.length ∧ Aside0 (pushes [] (l.take i) = some st) ∧ Aside0 (PaM w w' w.heap.size v4 st))
    case atStart => exact ⟨0, [], rfl, by omega, by omega, ⟨rfl⟩, HM⟩
    case round =>
      clear HM
      obtain ⟨i, st, rfl, hk, hi, HS, HM⟩ := hrel
      by_cases hlt : i < l.length
      · have hz : decide ((i : Int) < (l.length : Int)) = true := decide_eq_true (by omega)
        have hz2 : decide (i < l.length) = true := decide_eq_true hlt
        obtain ⟨k1, rfl⟩ : ∃ k1, gk = k1 + 1 := ⟨gk - 1, by omega⟩
        obtain ⟨ad, rfl, x0, x1⟩ := at_T69 (Kd.C_below HC.out HM.out.B) (i : Int) (by omega) (by omega)
        have hr : rd_T69 l (i : Int) = l[i] := by
          show l.getD (Int.toNat (i : Int)) _ = _
          rw [Int.toNat_natCast, List.getD_eq_getElem?_getD, List.getElem?_eq_getElem hlt]
          rfl
        rw [hr] at x0 x1
        simp only [Int.toNat_natCast] at x0 x1
        obtain ⟨⟨kd, lb⟩, hx⟩ : ∃ x, l[i] = x := ⟨_, rfl⟩
        rw [hx] at x0 x1
        simp only at x0 x1
        have HX := Aside0.mk (And.intro hx (HL.out l[i] (List.getElem_mem hlt)))
        have HLN := Aside0.mk (show st.length ≤ 100 ∧ wt st ≤ 5000 from by
          have h1 := pushes_wt _ _ _ HS.out
          have h2 := pushes_len _ _ _ HS.out
          have h3 : (l.take i).length ≤ 100 := by rw [List.length_take]; omega
          simp only [wt, List.length_nil] at h1 h2
          omega)
        obtain ⟨A4, c4, hu⟩ := Kd.R_slice HM.out.own
        rw [memS_length] at hu
        subst hu
        clear hr hx
        by_cases hk1 : kd < 1
        · have f1 : decide (kd < 1) = true := decide_eq_true hk1
          have HE := Aside0.mk (path_none hlen HS.out hlt HX.out.1 (if_pos (Or.inl hk1)))
          have HB := Aside0.mk HM.out.B
          clear HS HM
          go_wp2
          go_ret
          exact ⟨by rw [HE.out]; rfl, by repeat (first | (with_reducible first | exact HB.out | apply below_alloc | apply pw_below_drewN | apply below_drew1) | exact HB.out)⟩
        have f1 : decide (kd < 1) = false := decide_eq_false hk1
        by_cases hk7 : 7 < kd
        · have f2 : decide (7 < kd) = true := decide_eq_true hk7
          have HE := Aside0.mk (path_none hlen HS.out hlt HX.out.1 (if_pos (Or.inr hk7)))
          have HB := Aside0.mk HM.out.B
          clear HS HM
          go_wp2
          go_ret
          exact ⟨by rw [HE.out]; rfl, by repeat (first | (with_reducible first | exact HB.out | apply below_alloc | apply pw_below_drewN | apply below_drew1) | exact HB.out)⟩
        have f2 : decide (7 < kd) = false := decide_eq_false hk7
        have HP0 := Aside0.mk (show ¬ (kd < 1 ∨ 7 < kd) from fun h => h.elim hk1 hk7)
        by_cases hk2 : kd ≤ 2
        · have f3 : decide (kd ≤ 2) = true := decide_eq_true hk2
          have HLB := Aside0.mk (fun V => show_label.calls 42 kd lb (baL (labelL ⟨kd, lb⟩)) V (label_f ⟨kd, lb⟩ (by have := HX.out.2; rw [HX.out.1] at this; exact this)))
          have HPU := Aside0.mk (show push1 st ⟨kd, lb⟩ = if labelL ⟨kd, lb⟩ = [] then none else some ((labelL ⟨kd, lb⟩, 3) :: st) from (if_neg HP0.out).trans (if_pos hk2))
          obtain ⟨s, hs⟩ : ∃ s, labelL ⟨kd, lb⟩ = s := ⟨_, rfl⟩
          rw [hs] at HLB HPU
          clear hs
          go_wp2_with fail
          refine (HLB.out _).mono ?_
          rintro e w1 ⟨rfl, hb⟩
          have HM1 := Aside0.mk (HM.out.below (below_then ((Below.refl wr.heap.size wr).alloc (Nat.le_refl _) _) (by simp) hb))
          clear hb
          obtain ⟨b, hbE⟩ : ∃ b, baL s = b := ⟨_, rfl⟩
          rw [hbE]
          by_cases hs0 : s = []
          · have e5 : (b.toList == ([] : List UInt8)) = true := by rw [← hbE, hs0, baL_toList]; exact beq_self_eq_true _
            have e6 : (b.toList == (⟨#[]⟩ : ByteArray).toList) = true := by rw [← hbE, hs0]; exact beq_self_eq_true _
            have HE := Aside0.mk (path_none hlen HS.out hlt HX.out.1 (HPU.out.trans (if_pos hs0)))
            have HB := Aside0.mk HM1.out.B
            clear HS HM HM1 hbE hs0
            go_wp2
            go_ret
            exact ⟨by rw [HE.out]; rfl, HB.out⟩
          · have e5 : (b.toList == ([] : List UInt8)) = false := by rw [beq_eq_false_iff_ne, ← hbE, baL_toList]; exact hs0
            have e6 : (b.toList == (⟨#[]⟩ : ByteArray).toList) = false := by rw [beq_eq_false_iff_ne, ← hbE, baL_toList]; exact fun h => hs0 (h.trans nil_bytes)
            have HS2 := Aside0.mk (showpath_step HS.out hlt HX.out.1 (HPU.out.trans (if_neg hs0)))
            have HBE := Aside0.mk hbE
            clear HS HM hbE hs0
            go_wp2_with ((with_reducible refine gate_builtin (b := .append) (xs := #[.tmp 40, .tmp 43]) rfl ?_); at_builtin; refine Kd.R_append kP (w0 := w) w.heap.size rfl (.tmp 40) (.tmp 43) 82 85 (.agg #[.string ⟨#[]⟩, .int .i64 0]) 24 rfl Tryz.underlying82 infoP rfl (by decide) (by decide) (.slice A4 st.length c4) (memS st) (b, 3) [.string b, .int .i64 3] (fun k => w.heap.size ≤ k ∧ k ≠ w.heap.size) (fun _ => False) rfl (by first | rfl | (simp; rfl)) (kP_mkM _ _ _ _) (fun _ hk => hk.elim) (fun k hk => ⟨Nat.le_trans HM1.out.B.size hk, by have := blk_lt HM1.out.b3; omega⟩) HM1.out.own HM1.out.B HM1.out.B.size (by rw [memS_length]; have := HLN.out; omega) ?_; intro v1 w2 ho hb hg hat; have HM2 := Aside0.mk (PaM.more (p := (s, 3)) HM1.out (by rw [HBE.out]; exact ho) hb hg); clear ho hb hg hat)
            go_roundg k1
            case rel => exact ⟨i + 1, _, by go_num, by omega, by omega, HS2, HM2⟩
            case measure => omega
        have f3 : decide (kd ≤ 2) = false := decide_eq_false hk2
        by_cases hlb : lb.data.toList ≠ []
        · have e5 : (lb.toList == ([] : List UInt8)) = false := by rw [beq_eq_false_iff_ne, toList_iff]; exact hlb
          have e6 : (lb.toList == (⟨#[]⟩ : ByteArray).toList) = false := by rw [nil_bytes]; exact e5
          have e7 : (lb.toList != ([] : List UInt8)) = true := by rw [bne, e5]; rfl
          have e8 : (lb.toList != (⟨#[]⟩ : ByteArray).toList) = true := by rw [bne, e6]; rfl
          have HE := Aside0.mk (path_none hlen HS.out hlt HX.out.1 ((if_neg HP0.out).trans ((if_neg hk2).trans (if_pos hlb))))
          have HB := Aside0.mk HM.out.B
          clear HS HM
          go_wp2
          go_ret
          exact ⟨by rw [HE.out]; rfl, by repeat (first | (with_reducible first | exact HB.out | apply below_alloc | apply pw_below_drewN | apply below_drew1) | exact HB.out)⟩
        have hlb0 : lb.data.toList = [] := Classical.not_not.1 hlb
        obtain rfl := bytes_nil hlb0
        clear hlb hlb0
        cases st with
        | nil =>
          have HE := Aside0.mk (path_none hlen HS.out hlt HX.out.1 (push1_nil HP0.out hk2))
          have HB := Aside0.mk HM.out.B
          clear HS HM
          go_wp2
          go_ret
          exact ⟨by rw [HE.out]; rfl, by repeat (first | (with_reducible first | exact HB.out | apply below_alloc | apply pw_below_drewN | apply below_drew1) | exact HB.out)⟩
        | cons b r =>
          obtain ⟨m, hm⟩ : ∃ m, r.length = m := ⟨_, rfl⟩
          have hmm : m < 100 := by have := HLN.out.1; rw [List.length_cons] at this; omega
          have HML := Aside0.mk hm
          rw [List.length_cons, hm] at HM ⊢
          clear hm
          have g1 : decide ((m : Int) + 1 < 1) = false := decide_eq_false (by omega)
          by_cases hone : kd ≤ 4 ∧ m = 0
          · obtain ⟨h4, rfl⟩ := hone
            obtain rfl : r = [] := List.length_eq_zero_iff.1 HML.out
            have HE := Aside0.mk (path_none hlen HS.out hlt HX.out.1 (push1_one HP0.out hk2 h4))
            have f4 : decide (kd ≤ 4) = true := decide_eq_true h4
            have HB := Aside0.mk HM.out.B
            clear HS HM
            go_wp2
            go_ret
            exact ⟨by rw [HE.out]; rfl, by repeat (first | (with_reducible first | exact HB.out | apply below_alloc | apply pw_below_drewN | apply below_drew1) | exact HB.out)⟩
          have g2 : kd ≤ 4 → decide ((m : Int) + 1 < 2) = false := fun h => decide_eq_false (by have : m ≠ 0 := fun e => hone ⟨h, e⟩; omega)
          have HONE := Aside0.mk hone
          clear hone
          rcases (by omega : kd = 3 ∨ kd = 4 ∨ kd = 5 ∨ kd = 6 ∨ kd = 7) with rfl | rfl | rfl | rfl | rfl
          · -- two
            cases r with
            | nil => exact absurd ⟨by decide, HML.out.symm⟩ HONE.out
            | cons a r =>
            obtain ⟨q, hq⟩ : ∃ q, r.length = q := ⟨_, rfl⟩
            have hmq : m = q + 1 := by rw [← HML.out, List.length_cons, hq]
            have HRL := Aside0.mk hq
            have HMQ := Aside0.mk hmq
            have g3 := g2 (by decide)
            clear g2 hq hmq
            go_wp2
            have hmq := HMQ.out
            have HB0 := below_alloc (Below.refl wr.heap.size wr) (.cells #[.int .i64 3, .string ⟨#[]⟩] 69)
            have HM0 := Aside0.mk (HM.out.below HB0)
            have hbx := blk_new wr (.cells #[.int .i64 3, .string ⟨#[]⟩] 69)
            obtain ⟨nb, enb⟩ : ∃ n, wr.heap.size = n := ⟨_, rfl⟩
            rw [enb] at hbx ⊢
            generalize wr.alloc (.cells #[.int .i64 3, .string ⟨#[]⟩] 69) = W0 at HM0 hbx ⊢
            have hown := HM0.out.own
            have hC4 := (Kd.R_reads' hown).2.2
            have hcap := (Kd.R_reads hown)
            obtain ⟨A', c', he, hcap, _⟩ := hcap
            injection he with he1 he2 he3
            subst he1 he3
            rw [memS_length, List.length_cons, List.length_cons, HRL.out] at hcap
            obtain ⟨bk, o, rfl, y0, y1⟩ := at_P hC4 m (baL b.1, b.2) (by have := memS_at [] b (a :: r); rw [List.length_cons, HRL.out, ← hmq] at this; exact this)
            obtain ⟨bk', o', he, x0', x1'⟩ := at_P hC4 q (baL a.1, a.2) (by have := memS_at [b] a r; rw [HRL.out] at this; exact this)
            injection he with he
            injection he with he1 he2
            subst he1 he2
            obtain ⟨bs, hbs⟩ : ∃ bs, baL b.1 = bs := ⟨_, rfl⟩
            obtain ⟨as1, has⟩ : ∃ as1, baL a.1 = as1 := ⟨_, rfl⟩
            simp only [hbs] at y0
            simp only [has] at x0'
            have hcb : W0.cell? ⟨nb, 0, none⟩ = some (.int .i64 3) := (blk_cell hbx 0).trans rfl
            have hcs : W0.cell? ⟨w.heap.size, 3, none⟩ = some (.string ⟨#[47]⟩) := (blk_cell HM0.out.b3 3).trans rfl
            have hwb : b.1.length ≤ 5000 := Nat.le_trans (wt_mem (by simp)) HLN.out.2
            have hwa : a.1.length ≤ 5000 := Nat.le_trans (wt_mem (by simp)) HLN.out.2
            have hsa : as1.size ≤ 5000 := by rw [← has, baL_size]; exact hwa
            have HLA := Aside0.mk (fun V => show_piece_least.calls as1 a.2 2 (baL (leastL a 2)) V (by rw [← has]; exact least_f a 2 (by omega)))
            have HLB := Aside0.mk (fun V => show_piece_least.calls bs b.2 3 (baL (leastL b 3)) V (by rw [← hbs]; exact least_f b 3 (by omega)))
            have hla := leastL_len a 2
            have hlb := leastL_len b 3
            have HTX := Aside0.mk (show (baL (leastL a 2) ++ (⟨#[47]⟩ : ByteArray)) ++ baL (leastL b 3) = baL (leastL a 2 ++ (markL 3 ++ leastL b 3)) from by rw [show (⟨#[47]⟩ : ByteArray) = baL [47] from rfl, baL_app, baL_app, List.append_assoc]; rfl)
            obtain ⟨la, hla'⟩ : ∃ x, baL (leastL a 2) = x := ⟨_, rfl⟩
            obtain ⟨lb', hlb'⟩ : ∃ x, baL (leastL b 3) = x := ⟨_, rfl⟩
            have hla2 : la.size ≤ 5002 := by rw [← hla', baL_size]; omega
            have hlb2 : lb'.size ≤ 5002 := by rw [← hlb', baL_size]; omega
            rw [hla'] at HLA
            rw [hlb'] at HLB
            (try rw [hla'] at HTX)
            (try rw [hlb'] at HTX)
            (try rw [has] at HTX)
            have HHB := Aside0.mk hbx
            have HHA := Aside0.mk has
            have p0 : (0 : Int) ≤ (m : Int) := by omega
            have p1 : (m : Int) < (m : Int) + 1 := by omega
            have q0 : (0 : Int) ≤ (q : Int) := by omega
            have q1 : (q : Int) < (m : Int) + 1 := by omega
            have q2 : (q : Int) ≤ (c4 : Int) := by omega
            have q3 : q ≤ c4 := by omega
            have HQM := Aside0.mk (show q + 1 < 100 by omega)
            have HW4 := Aside0.mk (show IntKind.i64.wrap ((m : Int) + 1 - 2) = (q : Int) by rw [i64_w]; unfold wrap64; omega)
            clear he2 hcap hown hC4 hbs has hbx HB0 HM enb x0 x1 hwb hwa hla hlb hla' hlb' hmq
            have hw1 : IntKind.i64.wrap ((m : Int) + 1 - 1) = (m : Int) := by rw [i64_w]; unfold wrap64; omega
            have hw2 : IntKind.i64.wrap (m : Int) = (m : Int) := by rw [i64_w]; unfold wrap64; omega
            have hw3 : (m : Int) + 1 - 1 = (m : Int) := by omega
            have kq1 : (9223372036854775807 < la.size + 1) = False := eq_false (by omega)
            have kq2 : (9223372036854775807 < la.size + 1 + lb'.size) = False := eq_false (by omega)
            have hw4 := HW4.out
            go_region_held3 (fun w' => w'.cell? ⟨bk, o + m * 2, none⟩ = some (.string bs) ∧ w'.cell? ⟨bk, o + m * 2 + 1, none⟩ = some (.int .i64 b.2) ∧ w'.cell? ⟨nb, 0, none⟩ = some (.int .i64 3) ∧ w'.cell? ⟨w.heap.size, 3, none⟩ = some (.string ⟨#[47]⟩)) (go_keep) (fail)
            go_wp2
            rename_i hHeld0
            clear hHeld0
            have hB1 : Below W0.heap.size W0 (W0.alloc (.cells #[.string bs, .int .i64 b.2] 85)).drew := below_drew1 (below_alloc (Below.refl _ _) _)
            have h9 := blk_drew (blk_new W0 (.cells #[.string bs, .int .i64 b.2] 85))
            obtain ⟨n9, en9⟩ : ∃ n, W0.heap.size = n := ⟨_, rfl⟩
            rw [en9] at h9 ⊢
            have HMV := Aside0.mk ((HM0.out.below hB1).below (below_drew1 (Below.refl _ _)))
            have z0 := pw_cell_below hB1 x0'
            have z1 := pw_cell_below hB1 x1'
            generalize (W0.alloc (.cells #[.string bs, .int .i64 b.2] 85)).drew = V0 at HMV z0 z1 h9 ⊢
            have u0 : V0.cell? ⟨n9, 0, none⟩ = some (.string bs) := (blk_cell h9 0).trans rfl
            have u1 : V0.cell? ⟨n9, 1, none⟩ = some (.int .i64 b.2) := (blk_cell h9 1).trans rfl
            have HRT := Aside0.mk (fun (V : World) (h : Kd.R kP 85 V w.heap.size (fun k => w.heap.size ≤ k ∧ k ≠ w.heap.size) (.slice (some ⟨bk, o, none⟩) (m + 1) c4) (memS (b :: a :: r))) => show Kd.R kP 85 V w.heap.size (fun k => w.heap.size ≤ k ∧ k ≠ w.heap.size) (.slice (some ⟨bk, o, none⟩) q c4) (memS r) from memS_take2 b a r q HRL.out ▸ Kd.R_take (m := q) h (by rw [memS_length, List.length_cons, List.length_cons, HRL.out]; omega))
            have HS2 := Aside0.mk (showpath_step HS.out hlt HX.out.1 (push1_then (b := b) (a := a) (r := r)))
            clear HS hB1 h9 en9 hcb hcs y0 y1 x0' x1' HM0 hw1 hw2 hw3
            refine start_ (n := 19) (S := fun w' => w'.cell? ⟨bk, o + q * 2, none⟩ = some (.string as1) ∧ w'.cell? ⟨bk, o + q * 2 + 1, none⟩ = some (.int .i64 a.2) ∧ w'.cell? ⟨n9, 0, none⟩ = some (.string bs) ∧ w'.cell? ⟨n9, 1, none⟩ = some (.int .i64 b.2)) (ds := [17]) #[false, false, false, false, false, false, false, false, false, false, false, false, false, false, false, false, false, false, false] (by kernel_rfl) rfl rfl (⟨z0, z1, u0, u1⟩) (fun hHeld => ?_); refine with_tabW show22.tab show22.bits (fun HT_ HW_ => ?_)
            generalize V0.drew = V at HMV hHeld ⊢
            refine pure_ (i := 0) (N := some 84) (v := ?_) (a' := ?_) #[true, false, false, false, false, false, false, false, false, false, false, false, false, false, false, false, false, false, false] rfl rfl (any_of HT_.out (by kernel_rfl)) (fun _ _ _ h => h) (Or.inl ⟨by rfl, ?_⟩) ?_ ?_
            rotate_left
            · intro w'
              go_simp
              with_reducible rfl
            rotate_left
            · simp only [Act.put, List.setIfInBounds_toArray, List.set_cons_zero, List.set_cons_succ, i64_w, i32_w]
              rfl
            refine pure_ (i := 1) (N := some 85) (v := ?_) (a' := ?_) #[true, true, false, false, false, false, false, false, false, false, false, false, false, false, false, false, false, false, false] rfl rfl (any_of HT_.out (by kernel_rfl)) (fun _ _ _ h => h) (Or.inl ⟨by rfl, ?_⟩) ?_ ?_
            rotate_left
            · intro w'
              go_simp
              with_reducible rfl
            rotate_left
            · simp only [Act.put, List.setIfInBounds_toArray, List.set_cons_zero, List.set_cons_succ, i64_w, i32_w]
              rfl
            refine pure_ (i := 2) (N := some 86) (v := ?_) (a' := ?_) #[true, true, true, false, false, false, false, false, false, false, false, false, false, false, false, false, false, false, false] rfl rfl (any_of HT_.out (by kernel_rfl)) (fun _ _ _ h => h) (Or.inl ⟨by rfl, ?_⟩) ?_ ?_
            rotate_left
            · intro w'
              go_simp
              with_reducible rfl
            rotate_left
            · simp only [Act.put, List.setIfInBounds_toArray, List.set_cons_zero, List.set_cons_succ, i64_w, i32_w]
              rfl
            refine pure_ (i := 3) (N := some 87) (v := ?_) (a' := ?_) #[true, true, true, true, false, false, false, false, false, false, false, false, false, false, false, false, false, false, false] rfl rfl (any_of HT_.out (by kernel_rfl)) (fun _ _ _ h => h) (Or.inl ⟨by rfl, ?_⟩) ?_ ?_
            rotate_left
            · intro w'
              go_simp
              with_reducible rfl
            rotate_left
            · simp only [Act.put, List.setIfInBounds_toArray, List.set_cons_zero, List.set_cons_succ, i64_w, i32_w]
              rfl
            refine pure_ (i := 4) (N := some 88) (v := ?_) (a' := ?_) #[true, true, true, true, true, false, false, false, false, false, false, false, false, false, false, false, false, false, false] rfl rfl (any_of HT_.out (by kernel_rfl)) (fun _ _ _ h => h) (Or.inl ⟨by rfl, ?_⟩) ?_ ?_
            rotate_left
            · intro w'
              go_simp
              with_reducible rfl
            rotate_left
            · simp only [Act.put, List.setIfInBounds_toArray, List.set_cons_zero, List.set_cons_succ, i64_w, i32_w]
              rfl
            refine pure_ (i := 5) (N := some 89) (v := ?_) (a' := ?_) #[true, true, true, true, true, true, false, false, false, false, false, false, false, false, false, false, false, false, false] rfl rfl (any_of HT_.out (by kernel_rfl)) (fun _ _ _ h => h) (Or.inl ⟨by rfl, ?_⟩) ?_ ?_
            rotate_left
            · intro w'
              go_simp
              with_reducible rfl
            rotate_left
            · simp only [Act.put, List.setIfInBounds_toArray, List.set_cons_zero, List.set_cons_succ, i64_w, i32_w]
              rfl
            refine pure_ (i := 6) (N := some 90) (v := ?_) (a' := ?_) #[true, true, true, true, true, true, true, false, false, false, false, false, false, false, false, false, false, false, false] rfl rfl (any_of HT_.out (by kernel_rfl)) (fun _ _ _ h => h) (Or.inl ⟨by rfl, ?_⟩) ?_ ?_
            rotate_left
            · intro w'
              go_simp
              with_reducible rfl
            rotate_left
            · simp only [Act.put, List.setIfInBounds_toArray, List.set_cons_zero, List.set_cons_succ, i64_w, i32_w]
              rfl
            refine pure_ (i := 7) (N := some 91) (v := ?_) (a' := ?_) #[true, true, true, true, true, true, true, true, false, false, false, false, false, false, false, false, false, false, false] rfl rfl (any_of HT_.out (by kernel_rfl)) (fun _ _ _ h => h) (Or.inl ⟨by rfl, ?_⟩) ?_ ?_
            rotate_left
            · intro w'
              go_simp
              with_reducible rfl
            rotate_left
            · simp only [Act.put, List.setIfInBounds_toArray, List.set_cons_zero, List.set_cons_succ, i64_w, i32_w]
              rfl
            refine take_ (i := 8) (N := some 92) (v := ?_) (a' := ?_) #[true, true, true, true, true, true, true, true, true, false, false, false, false, false, false, false, false, false, false] rfl rfl (take_ofW HT_.out HW_.out (by kernel_rfl)) (fun _ _ _ h => h) (Or.inl ⟨by rfl, ?_⟩) hHeld ?_ ?_
            rotate_left
            · rintro w' ⟨s1, s2, s3, s4⟩
              go_simp
              with_reducible rfl
            rotate_left
            · simp only [Act.put, List.setIfInBounds_toArray, List.set_cons_zero, List.set_cons_succ, i64_w, i32_w]
              rfl
            refine pure_ (i := 10) (N := some 94) (v := ?_) (a' := ?_) #[true, true, true, true, true, true, true, true, true, false, true, false, false, false, false, false, false, false, false] rfl rfl (any_of HT_.out (by kernel_rfl)) (fun _ _ _ h => h) (Or.inl ⟨by rfl, ?_⟩) ?_ ?_
            rotate_left
            · intro w'
              go_simp
              with_reducible rfl
            rotate_left
            · simp only [Act.put, List.setIfInBounds_toArray, List.set_cons_zero, List.set_cons_succ, i64_w, i32_w]
              rfl
            refine take_ (i := 12) (N := some 96) (v := ?_) (a' := ?_) #[true, true, true, true, true, true, true, true, true, false, true, false, true, false, false, false, false, false, false] rfl rfl (take_ofW HT_.out HW_.out (by kernel_rfl)) (fun _ _ _ h => h) (Or.inl ⟨by rfl, ?_⟩) hHeld ?_ ?_
            rotate_left
            · rintro w' ⟨s1, s2, s3, s4⟩
              go_simp
              with_reducible rfl
            rotate_left
            · simp only [Act.put, List.setIfInBounds_toArray, List.set_cons_zero, List.set_cons_succ, i64_w, i32_w]
              rfl
            refine one_ (i := 9) (N := some 93) #[true, true, true, true, true, true, true, true, true, true, true, false, true, false, false, false, false, false, false] rfl rfl (one_of HT_.out (by kernel_rfl)) (by decide) (fun K hK => ?_)
            refine goes_ Tryz.func51 (by kernel_rfl) rfl #[.agg #[.string as1, .int .i64 a.2], .int .i64 2] (by rfl) rfl rfl (by (try simp only [List.map_toArray, List.map_cons, List.map_nil]); first | done | rfl) ?_
            refine (HLA.out _).mono ?_
            rintro e V2 ⟨rfl, hb⟩
            refine ⟨_, rfl, ?_⟩
            replace HMV := Aside0.mk (HMV.out.below hb)
            refine hK.out _ _ (⟨pw_cell_below hb hHeld.1, pw_cell_below hb hHeld.2.1, pw_cell_below hb hHeld.2.2.1, pw_cell_below hb hHeld.2.2.2⟩) (fun hHeld => ?_)
            clear hK K
            refine norm_ (a' := ?_) ?_ ?_
            rotate_left
            · show Act.put _ (some 93) _ = _
              simp only [Act.put, List.setIfInBounds_toArray, List.set_cons_zero, List.set_cons_succ, i64_w, i32_w]
              rfl
            refine pure_ (i := 11) (N := some 95) (v := ?_) (a' := ?_) #[true, true, true, true, true, true, true, true, true, true, true, true, true, false, false, false, false, false, false] rfl rfl (any_of HT_.out (by kernel_rfl)) (fun _ _ _ h => h) (Or.inl ⟨by rfl, ?_⟩) ?_ ?_
            rotate_left
            · intro w'
              go_simp
              with_reducible rfl
            rotate_left
            · simp only [Act.put, List.setIfInBounds_toArray, List.set_cons_zero, List.set_cons_succ, i64_w, i32_w]
              rfl
            refine one_ (i := 13) (N := some 97) #[true, true, true, true, true, true, true, true, true, true, true, true, true, true, false, false, false, false, false] rfl rfl (one_of HT_.out (by kernel_rfl)) (by decide) (fun K hK => ?_)
            refine goes_ Tryz.func51 (by kernel_rfl) rfl #[.agg #[.string bs, .int .i64 b.2], .int .i64 3] (by rfl) rfl rfl (by (try simp only [List.map_toArray, List.map_cons, List.map_nil]); first | done | rfl) ?_
            refine (HLB.out _).mono ?_
            rintro e V3 ⟨rfl, hb3⟩
            refine ⟨_, rfl, ?_⟩
            have hb := hb3
            replace HMV := Aside0.mk (HMV.out.below hb)
            refine hK.out _ _ (⟨pw_cell_below hb hHeld.1, pw_cell_below hb hHeld.2.1, pw_cell_below hb hHeld.2.2.1, pw_cell_below hb hHeld.2.2.2⟩) (fun hHeld => ?_)
            clear hK K
            refine norm_ (a' := ?_) ?_ ?_
            rotate_left
            · show Act.put _ (some 97) _ = _
              simp only [Act.put, List.setIfInBounds_toArray, List.set_cons_zero, List.set_cons_succ, i64_w, i32_w]
              rfl
            refine pure_ (i := 14) (N := some 98) (v := ?_) (a' := ?_) #[true, true, true, true, true, true, true, true, true, true, true, true, true, true, true, false, false, false, false] rfl rfl (any_of HT_.out (by kernel_rfl)) (fun _ _ _ h => h) (Or.inl ⟨by rfl, ?_⟩) ?_ ?_
            rotate_left
            · intro w'
              go_simp
              with_reducible rfl
            rotate_left
            · simp only [Act.put, List.setIfInBounds_toArray, List.set_cons_zero, List.set_cons_succ, i64_w, i32_w]
              rfl
            refine pure_ (i := 15) (N := some 99) (v := ?_) (a' := ?_) #[true, true, true, true, true, true, true, true, true, true, true, true, true, true, true, true, false, false, false] rfl rfl (any_of HT_.out (by kernel_rfl)) (fun _ _ _ h => h) (Or.inl ⟨by rfl, ?_⟩) ?_ ?_
            rotate_left
            · intro w'
              go_simp
              with_reducible rfl
            rotate_left
            · simp only [Act.put, List.setIfInBounds_toArray, List.set_cons_zero, List.set_cons_succ, i64_w, i32_w]
              rfl
            refine one_ (i := 16) (N := some 100) #[true, true, true, true, true, true, true, true, true, true, true, true, true, true, true, true, true, false, false] rfl rfl (one_of HT_.out (by kernel_rfl)) (by decide) (fun K hK => ?_)
            refine value_ (w1 := ?_) (v := ?_) (by rfl) rfl ?_ ?_
            rotate_left 2
            · go_simp
              constructor
              · rfl
              · rfl
            refine hK.out _ _ (⟨(pw_cell_below (below_alloc (Below.refl _ _) _) hHeld.1), (pw_cell_below (below_alloc (Below.refl _ _) _) hHeld.2.1), (pw_cell_below (below_alloc (Below.refl _ _) _) hHeld.2.2.1), (pw_cell_below (below_alloc (Below.refl _ _) _) hHeld.2.2.2)⟩) (fun hHeld => ?_)
            clear hK K
            refine norm_ (a' := ?_) ?_ ?_
            rotate_left
            · show Act.put _ (some 100) _ = _
              simp only [Act.put, List.setIfInBounds_toArray, List.set_cons_zero, List.set_cons_succ, i64_w, i32_w]
              rfl
            refine last_ (i := 17) (N := some 101) #[true, true, true, true, true, true, true, true, true, true, true, true, true, true, true, true, true, true, false] rfl rfl (one_of HT_.out (by kernel_rfl)) (by decide) (fun K hK => ?_)
            refine Kd.R_append_step kP w.heap.size (by rfl) (.tmp 87) (.tmp 100) 82 85 (.agg #[.string ⟨#[]⟩, .int .i64 0]) 24 rfl Tryz.underlying82 infoP rfl (by decide) (by omega) (.slice (some ⟨bk, o, none⟩) q c4) (memS r) ((la ++ (⟨#[47]⟩ : ByteArray)) ++ lb', 2) [.string ((la ++ (⟨#[47]⟩ : ByteArray)) ++ lb'), .int .i64 2] (fun k => w.heap.size ≤ k ∧ k ≠ w.heap.size) (fun _ => False) rfl rfl (kP_mkM _ _ _ _) (fun _ hk => hk.elim) (fun k hk => ⟨Nat.le_trans HMV.out.B.size hk, by have := blk_lt HMV.out.b3; omega⟩) (HRT.out _ HMV.out.own) HMV.out.B HMV.out.B.size (by rw [memS_length, HRL.out]; have := HQM.out; omega) ?_
            intro u' w3 ho hb hg hat
            have HM2 := Aside0.mk (PaM.after (p := (leastL a 2 ++ (markL 3 ++ leastL b 3), 2)) HMV.out (by rw [← HTX.out]; exact ho) hb hg)
            clear ho hb hg hat hHeld
            refine hK.out _ _ ?_
            clear hK K
            refine norm_ (a' := ?_) ?_ ?_
            rotate_left
            · show Act.put _ (some 101) _ = _
              simp only [Act.put, List.setIfInBounds_toArray, List.set_cons_zero, List.set_cons_succ, i64_w, i32_w]
              rfl
            refine pure_ (i := 18) (N := some 4) (v := ?_) (a' := ?_) #[true, true, true, true, true, true, true, true, true, true, true, true, true, true, true, true, true, true, true] rfl rfl (any_of HT_.out (by kernel_rfl)) (fun _ _ _ h => h) (Or.inl ⟨by rfl, ?_⟩) ?_ ?_
            rotate_left
            · intro w'
              go_simp
              with_reducible rfl
            rotate_left
            · simp only [Act.put, List.setIfInBounds_toArray, List.set_cons_zero, List.set_cons_succ, i64_w, i32_w]
              rfl
            refine done_ (done_of HT_.out (by kernel_rfl)) ?_
            clear hw4
            go_wp2
            go_roundg k1
            case rel => exact ⟨i + 1, _, by go_num, by omega, by omega, HS2, HM2⟩
            case measure => omega
          · -- two
            cases r with
            | nil => exact absurd ⟨by decide, HML.out.symm⟩ HONE.out
            | cons a r =>
            obtain ⟨q, hq⟩ : ∃ q, r.length = q := ⟨_, rfl⟩
            have hmq : m = q + 1 := by rw [← HML.out, List.length_cons, hq]
            have HRL := Aside0.mk hq
            have HMQ := Aside0.mk hmq
            have g3 := g2 (by decide)
            clear g2 hq hmq
            go_wp2
            have hmq := HMQ.out
            have HB0 := below_alloc (Below.refl wr.heap.size wr) (.cells #[.int .i64 4, .string ⟨#[]⟩] 69)
            have HM0 := Aside0.mk (HM.out.below HB0)
            have hbx := blk_new wr (.cells #[.int .i64 4, .string ⟨#[]⟩] 69)
            obtain ⟨nb, enb⟩ : ∃ n, wr.heap.size = n := ⟨_, rfl⟩
            rw [enb] at hbx ⊢
            generalize wr.alloc (.cells #[.int .i64 4, .string ⟨#[]⟩] 69) = W0 at HM0 hbx ⊢
            have hown := HM0.out.own
            have hC4 := (Kd.R_reads' hown).2.2
            have hcap := (Kd.R_reads hown)
            obtain ⟨A', c', he, hcap, _⟩ := hcap
            injection he with he1 he2 he3
            subst he1 he3
            rw [memS_length, List.length_cons, List.length_cons, HRL.out] at hcap
            obtain ⟨bk, o, rfl, y0, y1⟩ := at_P hC4 m (baL b.1, b.2) (by have := memS_at [] b (a :: r); rw [List.length_cons, HRL.out, ← hmq] at this; exact this)
            obtain ⟨bk', o', he, x0', x1'⟩ := at_P hC4 q (baL a.1, a.2) (by have := memS_at [b] a r; rw [HRL.out] at this; exact this)
            injection he with he
            injection he with he1 he2
            subst he1 he2
            obtain ⟨bs, hbs⟩ : ∃ bs, baL b.1 = bs := ⟨_, rfl⟩
            obtain ⟨as1, has⟩ : ∃ as1, baL a.1 = as1 := ⟨_, rfl⟩
            simp only [hbs] at y0
            simp only [has] at x0'
            have hcb : W0.cell? ⟨nb, 0, none⟩ = some (.int .i64 4) := (blk_cell hbx 0).trans rfl
            have hcs : W0.cell? ⟨w.heap.size, 4, none⟩ = some (.string ⟨#[124]⟩) := (blk_cell HM0.out.b3 4).trans rfl
            have hwb : b.1.length ≤ 5000 := Nat.le_trans (wt_mem (by simp)) HLN.out.2
            have hwa : a.1.length ≤ 5000 := Nat.le_trans (wt_mem (by simp)) HLN.out.2
            have hsa : as1.size ≤ 5000 := by rw [← has, baL_size]; exact hwa
            have HLA := Aside0.mk (fun V => show_piece_least.calls as1 a.2 2 (baL (leastL a 2)) V (by rw [← has]; exact least_f a 2 (by omega)))
            have HLB := Aside0.mk (fun V => show_piece_least.calls bs b.2 2 (baL (leastL b 2)) V (by rw [← hbs]; exact least_f b 2 (by omega)))
            have hla := leastL_len a 2
            have hlb := leastL_len b 2
            have HTX := Aside0.mk (show (baL a.1 ++ (⟨#[124]⟩ : ByteArray)) ++ baL (leastL b 2) = baL (a.1 ++ (markL 4 ++ leastL b 2)) from by rw [show (⟨#[124]⟩ : ByteArray) = baL [124] from rfl, baL_app, baL_app, List.append_assoc]; rfl)
            obtain ⟨la, hla'⟩ : ∃ x, baL (leastL a 2) = x := ⟨_, rfl⟩
            obtain ⟨lb', hlb'⟩ : ∃ x, baL (leastL b 2) = x := ⟨_, rfl⟩
            have hla2 : la.size ≤ 5002 := by rw [← hla', baL_size]; omega
            have hlb2 : lb'.size ≤ 5002 := by rw [← hlb', baL_size]; omega
            rw [hla'] at HLA
            rw [hlb'] at HLB
            (try rw [hla'] at HTX)
            (try rw [hlb'] at HTX)
            (try rw [has] at HTX)
            have HHB := Aside0.mk hbx
            have HHA := Aside0.mk has
            have p0 : (0 : Int) ≤ (m : Int) := by omega
            have p1 : (m : Int) < (m : Int) + 1 := by omega
            have q0 : (0 : Int) ≤ (q : Int) := by omega
            have q1 : (q : Int) < (m : Int) + 1 := by omega
            have q2 : (q : Int) ≤ (c4 : Int) := by omega
            have q3 : q ≤ c4 := by omega
            have HQM := Aside0.mk (show q + 1 < 100 by omega)
            have HW4 := Aside0.mk (show IntKind.i64.wrap ((m : Int) + 1 - 2) = (q : Int) by rw [i64_w]; unfold wrap64; omega)
            clear he2 hcap hown hC4 hbs has hbx HB0 HM enb x0 x1 hwb hwa hla hlb hla' hlb' hmq
            have hw1 : IntKind.i64.wrap ((m : Int) + 1 - 1) = (m : Int) := by rw [i64_w]; unfold wrap64; omega
            have hw2 : IntKind.i64.wrap (m : Int) = (m : Int) := by rw [i64_w]; unfold wrap64; omega
            have hw3 : (m : Int) + 1 - 1 = (m : Int) := by omega
            have kq1 : (9223372036854775807 < as1.size + 1) = False := eq_false (by omega)
            have kq2 : (9223372036854775807 < as1.size + 1 + lb'.size) = False := eq_false (by omega)
            have hw4 := HW4.out
            go_region_held3 (fun w' => w'.cell? ⟨bk, o + m * 2, none⟩ = some (.string bs) ∧ w'.cell? ⟨bk, o + m * 2 + 1, none⟩ = some (.int .i64 b.2) ∧ w'.cell? ⟨nb, 0, none⟩ = some (.int .i64 4) ∧ w'.cell? ⟨w.heap.size, 4, none⟩ = some (.string ⟨#[124]⟩)) (go_keep) (fail)
            go_wp2
            rename_i hHeld0
            clear hHeld0
            have hB1 : Below W0.heap.size W0 (W0.alloc (.cells #[.string bs, .int .i64 b.2] 85)).drew := below_drew1 (below_alloc (Below.refl _ _) _)
            have h9 := blk_drew (blk_new W0 (.cells #[.string bs, .int .i64 b.2] 85))
            obtain ⟨n9, en9⟩ : ∃ n, W0.heap.size = n := ⟨_, rfl⟩
            rw [en9] at h9 ⊢
            have HMV := Aside0.mk ((HM0.out.below hB1).below (below_drew1 (Below.refl _ _)))
            have z0 := pw_cell_below hB1 x0'
            have z1 := pw_cell_below hB1 x1'
            generalize (W0.alloc (.cells #[.string bs, .int .i64 b.2] 85)).drew = V0 at HMV z0 z1 h9 ⊢
            have u0 : V0.cell? ⟨n9, 0, none⟩ = some (.string bs) := (blk_cell h9 0).trans rfl
            have u1 : V0.cell? ⟨n9, 1, none⟩ = some (.int .i64 b.2) := (blk_cell h9 1).trans rfl
            have HRT := Aside0.mk (fun (V : World) (h : Kd.R kP 85 V w.heap.size (fun k => w.heap.size ≤ k ∧ k ≠ w.heap.size) (.slice (some ⟨bk, o, none⟩) (m + 1) c4) (memS (b :: a :: r))) => show Kd.R kP 85 V w.heap.size (fun k => w.heap.size ≤ k ∧ k ≠ w.heap.size) (.slice (some ⟨bk, o, none⟩) q c4) (memS r) from memS_take2 b a r q HRL.out ▸ Kd.R_take (m := q) h (by rw [memS_length, List.length_cons, List.length_cons, HRL.out]; omega))
            have HS2 := Aside0.mk (showpath_step HS.out hlt HX.out.1 (push1_or (b := b) (a := a) (r := r)))
            clear HS hB1 h9 en9 hcb hcs y0 y1 x0' x1' HM0 hw1 hw2 hw3
            refine start_ (n := 19) (S := fun w' => w'.cell? ⟨bk, o + q * 2, none⟩ = some (.string as1) ∧ w'.cell? ⟨bk, o + q * 2 + 1, none⟩ = some (.int .i64 a.2) ∧ w'.cell? ⟨n9, 0, none⟩ = some (.string bs) ∧ w'.cell? ⟨n9, 1, none⟩ = some (.int .i64 b.2)) (ds := [17]) #[false, false, false, false, false, false, false, false, false, false, false, false, false, false, false, false, false, false, false] (by kernel_rfl) rfl rfl (⟨z0, z1, u0, u1⟩) (fun hHeld => ?_); refine with_tabW show24.tab show24.bits (fun HT_ HW_ => ?_)
            generalize V0.drew = V at HMV hHeld ⊢
            refine pure_ (i := 0) (N := some 104) (v := ?_) (a' := ?_) #[true, false, false, false, false, false, false, false, false, false, false, false, false, false, false, false, false, false, false] rfl rfl (any_of HT_.out (by kernel_rfl)) (fun _ _ _ h => h) (Or.inl ⟨by rfl, ?_⟩) ?_ ?_
            rotate_left
            · intro w'
              go_simp
              with_reducible rfl
            rotate_left
            · simp only [Act.put, List.setIfInBounds_toArray, List.set_cons_zero, List.set_cons_succ, i64_w, i32_w]
              rfl
            refine pure_ (i := 1) (N := some 105) (v := ?_) (a' := ?_) #[true, true, false, false, false, false, false, false, false, false, false, false, false, false, false, false, false, false, false] rfl rfl (any_of HT_.out (by kernel_rfl)) (fun _ _ _ h => h) (Or.inl ⟨by rfl, ?_⟩) ?_ ?_
            rotate_left
            · intro w'
              go_simp
              with_reducible rfl
            rotate_left
            · simp only [Act.put, List.setIfInBounds_toArray, List.set_cons_zero, List.set_cons_succ, i64_w, i32_w]
              rfl
            refine pure_ (i := 2) (N := some 106) (v := ?_) (a' := ?_) #[true, true, true, false, false, false, false, false, false, false, false, false, false, false, false, false, false, false, false] rfl rfl (any_of HT_.out (by kernel_rfl)) (fun _ _ _ h => h) (Or.inl ⟨by rfl, ?_⟩) ?_ ?_
            rotate_left
            · intro w'
              go_simp
              with_reducible rfl
            rotate_left
            · simp only [Act.put, List.setIfInBounds_toArray, List.set_cons_zero, List.set_cons_succ, i64_w, i32_w]
              rfl
            refine pure_ (i := 3) (N := some 107) (v := ?_) (a' := ?_) #[true, true, true, true, false, false, false, false, false, false, false, false, false, false, false, false, false, false, false] rfl rfl (any_of HT_.out (by kernel_rfl)) (fun _ _ _ h => h) (Or.inl ⟨by rfl, ?_⟩) ?_ ?_
            rotate_left
            · intro w'
              go_simp
              with_reducible rfl
            rotate_left
            · simp only [Act.put, List.setIfInBounds_toArray, List.set_cons_zero, List.set_cons_succ, i64_w, i32_w]
              rfl
            refine pure_ (i := 4) (N := some 108) (v := ?_) (a' := ?_) #[true, true, true, true, true, false, false, false, false, false, false, false, false, false, false, false, false, false, false] rfl rfl (any_of HT_.out (by kernel_rfl)) (fun _ _ _ h => h) (Or.inl ⟨by rfl, ?_⟩) ?_ ?_
            rotate_left
            · intro w'
              go_simp
              with_reducible rfl
            rotate_left
            · simp only [Act.put, List.setIfInBounds_toArray, List.set_cons_zero, List.set_cons_succ, i64_w, i32_w]
              rfl
            refine pure_ (i := 5) (N := some 109) (v := ?_) (a' := ?_) #[true, true, true, true, true, true, false, false, false, false, false, false, false, false, false, false, false, false, false] rfl rfl (any_of HT_.out (by kernel_rfl)) (fun _ _ _ h => h) (Or.inl ⟨by rfl, ?_⟩) ?_ ?_
            rotate_left
            · intro w'
              go_simp
              with_reducible rfl
            rotate_left
            · simp only [Act.put, List.setIfInBounds_toArray, List.set_cons_zero, List.set_cons_succ, i64_w, i32_w]
              rfl
            refine pure_ (i := 6) (N := some 110) (v := ?_) (a' := ?_) #[true, true, true, true, true, true, true, false, false, false, false, false, false, false, false, false, false, false, false] rfl rfl (any_of HT_.out (by kernel_rfl)) (fun _ _ _ h => h) (Or.inl ⟨by rfl, ?_⟩) ?_ ?_
            rotate_left
            · intro w'
              go_simp
              with_reducible rfl
            rotate_left
            · simp only [Act.put, List.setIfInBounds_toArray, List.set_cons_zero, List.set_cons_succ, i64_w, i32_w]
              rfl
            refine pure_ (i := 7) (N := some 111) (v := ?_) (a' := ?_) #[true, true, true, true, true, true, true, true, false, false, false, false, false, false, false, false, false, false, false] rfl rfl (any_of HT_.out (by kernel_rfl)) (fun _ _ _ h => h) (Or.inl ⟨by rfl, ?_⟩) ?_ ?_
            rotate_left
            · intro w'
              go_simp
              with_reducible rfl
            rotate_left
            · simp only [Act.put, List.setIfInBounds_toArray, List.set_cons_zero, List.set_cons_succ, i64_w, i32_w]
              rfl
            refine pure_ (i := 8) (N := some 112) (v := ?_) (a' := ?_) #[true, true, true, true, true, true, true, true, true, false, false, false, false, false, false, false, false, false, false] rfl rfl (any_of HT_.out (by kernel_rfl)) (fun _ _ _ h => h) (Or.inl ⟨by rfl, ?_⟩) ?_ ?_
            rotate_left
            · intro w'
              go_simp
              with_reducible rfl
            rotate_left
            · simp only [Act.put, List.setIfInBounds_toArray, List.set_cons_zero, List.set_cons_succ, i64_w, i32_w]
              rfl
            refine take_ (i := 9) (N := some 113) (v := ?_) (a' := ?_) #[true, true, true, true, true, true, true, true, true, true, false, false, false, false, false, false, false, false, false] rfl rfl (take_ofW HT_.out HW_.out (by kernel_rfl)) (fun _ _ _ h => h) (Or.inl ⟨by rfl, ?_⟩) hHeld ?_ ?_
            rotate_left
            · rintro w' ⟨s1, s2, s3, s4⟩
              go_simp
              with_reducible rfl
            rotate_left
            · simp only [Act.put, List.setIfInBounds_toArray, List.set_cons_zero, List.set_cons_succ, i64_w, i32_w]
              rfl
            refine pure_ (i := 10) (N := some 114) (v := ?_) (a' := ?_) #[true, true, true, true, true, true, true, true, true, true, true, false, false, false, false, false, false, false, false] rfl rfl (any_of HT_.out (by kernel_rfl)) (fun _ _ _ h => h) (Or.inl ⟨by rfl, ?_⟩) ?_ ?_
            rotate_left
            · intro w'
              go_simp
              with_reducible rfl
            rotate_left
            · simp only [Act.put, List.setIfInBounds_toArray, List.set_cons_zero, List.set_cons_succ, i64_w, i32_w]
              rfl
            refine pure_ (i := 11) (N := some 115) (v := ?_) (a' := ?_) #[true, true, true, true, true, true, true, true, true, true, true, true, false, false, false, false, false, false, false] rfl rfl (any_of HT_.out (by kernel_rfl)) (fun _ _ _ h => h) (Or.inl ⟨by rfl, ?_⟩) ?_ ?_
            rotate_left
            · intro w'
              go_simp
              with_reducible rfl
            rotate_left
            · simp only [Act.put, List.setIfInBounds_toArray, List.set_cons_zero, List.set_cons_succ, i64_w, i32_w]
              rfl
            refine take_ (i := 12) (N := some 116) (v := ?_) (a' := ?_) #[true, true, true, true, true, true, true, true, true, true, true, true, true, false, false, false, false, false, false] rfl rfl (take_ofW HT_.out HW_.out (by kernel_rfl)) (fun _ _ _ h => h) (Or.inl ⟨by rfl, ?_⟩) hHeld ?_ ?_
            rotate_left
            · rintro w' ⟨s1, s2, s3, s4⟩
              go_simp
              with_reducible rfl
            rotate_left
            · simp only [Act.put, List.setIfInBounds_toArray, List.set_cons_zero, List.set_cons_succ, i64_w, i32_w]
              rfl
            refine one_ (i := 13) (N := some 117) #[true, true, true, true, true, true, true, true, true, true, true, true, true, true, false, false, false, false, false] rfl rfl (one_of HT_.out (by kernel_rfl)) (by decide) (fun K hK => ?_)
            refine goes_ Tryz.func51 (by kernel_rfl) rfl #[.agg #[.string bs, .int .i64 b.2], .int .i64 2] (by rfl) rfl rfl (by (try simp only [List.map_toArray, List.map_cons, List.map_nil]); first | done | rfl) ?_
            refine (HLB.out _).mono ?_
            rintro e V2 ⟨rfl, hb⟩
            refine ⟨_, rfl, ?_⟩
            replace HMV := Aside0.mk (HMV.out.below hb)
            refine hK.out _ _ (⟨pw_cell_below hb hHeld.1, pw_cell_below hb hHeld.2.1, pw_cell_below hb hHeld.2.2.1, pw_cell_below hb hHeld.2.2.2⟩) (fun hHeld => ?_)
            clear hK K
            refine norm_ (a' := ?_) ?_ ?_
            rotate_left
            · show Act.put _ (some 117) _ = _
              simp only [Act.put, List.setIfInBounds_toArray, List.set_cons_zero, List.set_cons_succ, i64_w, i32_w]
              rfl
            refine pure_ (i := 14) (N := some 118) (v := ?_) (a' := ?_) #[true, true, true, true, true, true, true, true, true, true, true, true, true, true, true, false, false, false, false] rfl rfl (any_of HT_.out (by kernel_rfl)) (fun _ _ _ h => h) (Or.inl ⟨by rfl, ?_⟩) ?_ ?_
            rotate_left
            · intro w'
              go_simp
              with_reducible rfl
            rotate_left
            · simp only [Act.put, List.setIfInBounds_toArray, List.set_cons_zero, List.set_cons_succ, i64_w, i32_w]
              rfl
            refine pure_ (i := 15) (N := some 119) (v := ?_) (a' := ?_) #[true, true, true, true, true, true, true, true, true, true, true, true, true, true, true, true, false, false, false] rfl rfl (any_of HT_.out (by kernel_rfl)) (fun _ _ _ h => h) (Or.inl ⟨by rfl, ?_⟩) ?_ ?_
            rotate_left
            · intro w'
              go_simp
              with_reducible rfl
            rotate_left
            · simp only [Act.put, List.setIfInBounds_toArray, List.set_cons_zero, List.set_cons_succ, i64_w, i32_w]
              rfl
            refine one_ (i := 16) (N := some 120) #[true, true, true, true, true, true, true, true, true, true, true, true, true, true, true, true, true, false, false] rfl rfl (one_of HT_.out (by kernel_rfl)) (by decide) (fun K hK => ?_)
            refine value_ (w1 := ?_) (v := ?_) (by rfl) rfl ?_ ?_
            rotate_left 2
            · go_simp
              constructor
              · rfl
              · rfl
            refine hK.out _ _ (⟨(pw_cell_below (below_alloc (Below.refl _ _) _) hHeld.1), (pw_cell_below (below_alloc (Below.refl _ _) _) hHeld.2.1), (pw_cell_below (below_alloc (Below.refl _ _) _) hHeld.2.2.1), (pw_cell_below (below_alloc (Below.refl _ _) _) hHeld.2.2.2)⟩) (fun hHeld => ?_)
            clear hK K
            refine norm_ (a' := ?_) ?_ ?_
            rotate_left
            · show Act.put _ (some 120) _ = _
              simp only [Act.put, List.setIfInBounds_toArray, List.set_cons_zero, List.set_cons_succ, i64_w, i32_w]
              rfl
            refine last_ (i := 17) (N := some 121) #[true, true, true, true, true, true, true, true, true, true, true, true, true, true, true, true, true, true, false] rfl rfl (one_of HT_.out (by kernel_rfl)) (by decide) (fun K hK => ?_)
            refine Kd.R_append_step kP w.heap.size (by rfl) (.tmp 107) (.tmp 120) 82 85 (.agg #[.string ⟨#[]⟩, .int .i64 0]) 24 rfl Tryz.underlying82 infoP rfl (by decide) (by omega) (.slice (some ⟨bk, o, none⟩) q c4) (memS r) ((as1 ++ (⟨#[124]⟩ : ByteArray)) ++ lb', 1) [.string ((as1 ++ (⟨#[124]⟩ : ByteArray)) ++ lb'), .int .i64 1] (fun k => w.heap.size ≤ k ∧ k ≠ w.heap.size) (fun _ => False) rfl rfl (kP_mkM _ _ _ _) (fun _ hk => hk.elim) (fun k hk => ⟨Nat.le_trans HMV.out.B.size hk, by have := blk_lt HMV.out.b3; omega⟩) (HRT.out _ HMV.out.own) HMV.out.B HMV.out.B.size (by rw [memS_length, HRL.out]; have := HQM.out; omega) ?_
            intro u' w3 ho hb hg hat
            have HM2 := Aside0.mk (PaM.after (p := (a.1 ++ (markL 4 ++ leastL b 2), 1)) HMV.out (by rw [← HTX.out]; exact ho) hb hg)
            clear ho hb hg hat hHeld
            refine hK.out _ _ ?_
            clear hK K
            refine norm_ (a' := ?_) ?_ ?_
            rotate_left
            · show Act.put _ (some 121) _ = _
              simp only [Act.put, List.setIfInBounds_toArray, List.set_cons_zero, List.set_cons_succ, i64_w, i32_w]
              rfl
            refine pure_ (i := 18) (N := some 4) (v := ?_) (a' := ?_) #[true, true, true, true, true, true, true, true, true, true, true, true, true, true, true, true, true, true, true] rfl rfl (any_of HT_.out (by kernel_rfl)) (fun _ _ _ h => h) (Or.inl ⟨by rfl, ?_⟩) ?_ ?_
            rotate_left
            · intro w'
              go_simp
              with_reducible rfl
            rotate_left
            · simp only [Act.put, List.setIfInBounds_toArray, List.set_cons_zero, List.set_cons_succ, i64_w, i32_w]
              rfl
            refine done_ (done_of HT_.out (by kernel_rfl)) ?_
            clear hw4
            go_wp2
            go_roundg k1
            case rel => exact ⟨i + 1, _, by go_num, by omega, by omega, HS2, HM2⟩
            case measure => omega
          · -- mark
            clear g2
            go_wp2
            have HB0 := below_alloc (Below.refl wr.heap.size wr) (.cells #[.int .i64 5, .string ⟨#[]⟩] 69)
            have HM0 := Aside0.mk (HM.out.below HB0)
            have hbx := blk_new wr (.cells #[.int .i64 5, .string ⟨#[]⟩] 69)
            obtain ⟨nb, enb⟩ : ∃ n, wr.heap.size = n := ⟨_, rfl⟩
            rw [enb] at hbx ⊢
            generalize wr.alloc (.cells #[.int .i64 5, .string ⟨#[]⟩] 69) = W0 at HM0 hbx ⊢
            have hown := HM0.out.own
            have hC4 := (Kd.R_reads' hown).2.2
            obtain ⟨bk, o, rfl, y0, y1⟩ := at_P hC4 m (baL b.1, b.2) (by have := memS_at [] b r; rw [HML.out] at this; exact this)
            obtain ⟨rfl, cur, hcur⟩ := own_zero hown
            obtain ⟨bs, hbs⟩ : ∃ bs, baL b.1 = bs := ⟨_, rfl⟩
            simp only [hbs, Nat.zero_add] at y0
            simp only [Nat.zero_add] at y1
            have hcb : W0.cell? ⟨nb, 0, none⟩ = some (.int .i64 5) := (blk_cell hbx 0).trans rfl
            have hcs : W0.cell? ⟨w.heap.size, 5, none⟩ = some (.string ⟨#[42]⟩) := (blk_cell HM0.out.b3 5).trans rfl
            have hwb : b.1.length ≤ 5000 := Nat.le_trans (wt_mem (by simp)) HLN.out.2
            have HLB := Aside0.mk (fun V => show_piece_least.calls bs b.2 3 (baL (leastL b 3)) V (by rw [← hbs]; exact least_f b 3 (by omega)))
            have hlb := leastL_len b 3
            have HTX := Aside0.mk (show baL (leastL b 3) ++ (⟨#[42]⟩ : ByteArray) = baL (leastL b 3 ++ markL 5) from by rw [show (⟨#[42]⟩ : ByteArray) = baL [42] from rfl, baL_app]; rfl)
            obtain ⟨lb', hlb'⟩ : ∃ x, baL (leastL b 3) = x := ⟨_, rfl⟩
            have hlb2 : lb'.size ≤ 5002 := by rw [← hlb', baL_size]; omega
            rw [hlb'] at HLB HTX
            have HBS := Aside0.mk hbs
            have HCUR := Aside0.mk hcur
            have p0 : (0 : Int) ≤ (m : Int) := by omega
            have p1 : (m : Int) < (m : Int) + 1 := by omega
            have hmz : m * 2 < (m + 1) * 2 := by omega
            have kq1 : (9223372036854775807 < lb'.size + 1) = False := eq_false (by omega)
            have HS2 := Aside0.mk (showpath_step HS.out hlt HX.out.1 (push1_mark (b := b) (r := r) (by decide) (by decide) (by decide)))
            have HSET := Aside0.mk (memS_set b (leastL b 3 ++ markL 5, 3) r m HML.out)
            clear HS hown hC4 hbs hcur hbx HB0 HM enb x0 x1 hwb hlb hlb'
            have hw1 : IntKind.i64.wrap ((m : Int) + 1 - 1) = (m : Int) := by rw [i64_w]; unfold wrap64; omega
            have hw2 : IntKind.i64.wrap (m : Int) = (m : Int) := by rw [i64_w]; unfold wrap64; omega
            have hw3 : (m : Int) + 1 - 1 = (m : Int) := by omega
            go_region_held3 (fun w' => w'.cell? ⟨bk, m * 2, none⟩ = some (.string bs) ∧ w'.cell? ⟨bk, m * 2 + 1, none⟩ = some (.int .i64 b.2) ∧ w'.cell? ⟨nb, 0, none⟩ = some (.int .i64 5) ∧ w'.cell? ⟨w.heap.size, 5, none⟩ = some (.string ⟨#[42]⟩)) (go_keep) (fail)
            rename_i hHeld0
            go_wp2_with fail
            clear hw1 hw2 hw3 hHeld0
            refine (HLB.out _).mono ?_
            rintro e V ⟨rfl, hb⟩
            have hB1 : Below W0.heap.size W0 V := below_then (below_drew1 (below_alloc (Below.refl _ _) _)) (below_drew1 (below_alloc (Below.refl W0.heap.size W0) (.cells #[.string bs, .int .i64 b.2] 85))).size hb
            have HMV := Aside0.mk (HM0.out.below hB1)
            have z0 := pw_cell_below hB1 y0
            have z1 := pw_cell_below hB1 y1
            have hfz := blk_frozen (blk_below HCUR.out hB1) (m * 2)
            have hfz1 := blk_frozen (blk_below HCUR.out hB1) (m * 2 + 1)
            clear hb hB1 hcb hcs y0 y1 HM0
            have HCC := Aside0.mk (show ∀ (j : Nat) (u : Value), ([.string bs, .int .i64 b.2] : List Value)[j]? = some u → V.cell? ⟨bk, (m : Int).toNat * kP.sz + j, none⟩ = some u from fun j u hj => by
              match j, hj with
              | 0, hj => obtain rfl := Option.some.inj hj; exact z0
              | 1, hj => obtain rfl := Option.some.inj hj; exact z1)
            clear z0 z1
            go_wp2_with ((with_reducible refine gate_store (t := 85) (p := 81) (v := .tmp 80) rfl ?_); refine Kd.R_store kP (w0 := w) w.heap.size rfl rfl 85 (.tmp 81) (.tmp 80) rfl 85 (g := bk) (n := m + 1) (cap := c4) (o' := m * 2) (m : Int) 0 (memS (b :: r)) (lb' ++ (⟨#[42]⟩ : ByteArray), 3) (.agg #[.string (lb' ++ (⟨#[42]⟩ : ByteArray)), .int .i64 3]) [.string (lb' ++ (⟨#[42]⟩ : ByteArray)), .int .i64 3] [.string bs, .int .i64 b.2] (fun k => w.heap.size ≤ k ∧ k ≠ w.heap.size) (fun _ => False) (by first | rfl | (simp; done)) rfl rfl rfl (by kernel_rfl) (by intro q hq; simp at hq; rcases hq with rfl | rfl <;> rfl) HMV.out.own p0 (by omega) rfl HCC.out (Nat.le_refl 2) (kP_mkM _ _ _ _) (fun _ hk => hk.elim) HMV.out.B ?_; intro w3 ho hb hg; have HM2 := Aside0.mk (show PaM w w3 w.heap.size (.slice (some ⟨bk, 0, none⟩) (m + 1) c4) ((leastL b 3 ++ markL 5, 3) :: r) from ⟨hb, by rw [← HSET.out, ← HTX.out]; exact ho, blk_grown HMV.out.b3 hg (fun he => (HMV.out.own.1 w.heap.size he.symm).2 rfl), HMV.out.h3⟩); clear ho hb hg)
            go_wp2
            go_roundg k1
            case rel => exact ⟨i + 1, _, by go_num, by omega, by omega, HS2, HM2⟩
            case measure => omega
          · -- mark
            clear g2
            go_wp2
            have HB0 := below_alloc (Below.refl wr.heap.size wr) (.cells #[.int .i64 6, .string ⟨#[]⟩] 69)
            have HM0 := Aside0.mk (HM.out.below HB0)
            have hbx := blk_new wr (.cells #[.int .i64 6, .string ⟨#[]⟩] 69)
            obtain ⟨nb, enb⟩ : ∃ n, wr.heap.size = n := ⟨_, rfl⟩
            rw [enb] at hbx ⊢
            generalize wr.alloc (.cells #[.int .i64 6, .string ⟨#[]⟩] 69) = W0 at HM0 hbx ⊢
            have hown := HM0.out.own
            have hC4 := (Kd.R_reads' hown).2.2
            obtain ⟨bk, o, rfl, y0, y1⟩ := at_P hC4 m (baL b.1, b.2) (by have := memS_at [] b r; rw [HML.out] at this; exact this)
            obtain ⟨rfl, cur, hcur⟩ := own_zero hown
            obtain ⟨bs, hbs⟩ : ∃ bs, baL b.1 = bs := ⟨_, rfl⟩
            simp only [hbs, Nat.zero_add] at y0
            simp only [Nat.zero_add] at y1
            have hcb : W0.cell? ⟨nb, 0, none⟩ = some (.int .i64 6) := (blk_cell hbx 0).trans rfl
            have hcs : W0.cell? ⟨w.heap.size, 6, none⟩ = some (.string ⟨#[43]⟩) := (blk_cell HM0.out.b3 6).trans rfl
            have hwb : b.1.length ≤ 5000 := Nat.le_trans (wt_mem (by simp)) HLN.out.2
            have HLB := Aside0.mk (fun V => show_piece_least.calls bs b.2 3 (baL (leastL b 3)) V (by rw [← hbs]; exact least_f b 3 (by omega)))
            have hlb := leastL_len b 3
            have HTX := Aside0.mk (show baL (leastL b 3) ++ (⟨#[43]⟩ : ByteArray) = baL (leastL b 3 ++ markL 6) from by rw [show (⟨#[43]⟩ : ByteArray) = baL [43] from rfl, baL_app]; rfl)
            obtain ⟨lb', hlb'⟩ : ∃ x, baL (leastL b 3) = x := ⟨_, rfl⟩
            have hlb2 : lb'.size ≤ 5002 := by rw [← hlb', baL_size]; omega
            rw [hlb'] at HLB HTX
            have HBS := Aside0.mk hbs
            have HCUR := Aside0.mk hcur
            have p0 : (0 : Int) ≤ (m : Int) := by omega
            have p1 : (m : Int) < (m : Int) + 1 := by omega
            have hmz : m * 2 < (m + 1) * 2 := by omega
            have kq1 : (9223372036854775807 < lb'.size + 1) = False := eq_false (by omega)
            have HS2 := Aside0.mk (showpath_step HS.out hlt HX.out.1 (push1_mark (b := b) (r := r) (by decide) (by decide) (by decide)))
            have HSET := Aside0.mk (memS_set b (leastL b 3 ++ markL 6, 3) r m HML.out)
            clear HS hown hC4 hbs hcur hbx HB0 HM enb x0 x1 hwb hlb hlb'
            have hw1 : IntKind.i64.wrap ((m : Int) + 1 - 1) = (m : Int) := by rw [i64_w]; unfold wrap64; omega
            have hw2 : IntKind.i64.wrap (m : Int) = (m : Int) := by rw [i64_w]; unfold wrap64; omega
            have hw3 : (m : Int) + 1 - 1 = (m : Int) := by omega
            go_region_held3 (fun w' => w'.cell? ⟨bk, m * 2, none⟩ = some (.string bs) ∧ w'.cell? ⟨bk, m * 2 + 1, none⟩ = some (.int .i64 b.2) ∧ w'.cell? ⟨nb, 0, none⟩ = some (.int .i64 6) ∧ w'.cell? ⟨w.heap.size, 6, none⟩ = some (.string ⟨#[43]⟩)) (go_keep) (fail)
            rename_i hHeld0
            go_wp2_with fail
            clear hw1 hw2 hw3 hHeld0
            refine (HLB.out _).mono ?_
            rintro e V ⟨rfl, hb⟩
            have hB1 : Below W0.heap.size W0 V := below_then (below_drew1 (below_alloc (Below.refl _ _) _)) (below_drew1 (below_alloc (Below.refl W0.heap.size W0) (.cells #[.string bs, .int .i64 b.2] 85))).size hb
            have HMV := Aside0.mk (HM0.out.below hB1)
            have z0 := pw_cell_below hB1 y0
            have z1 := pw_cell_below hB1 y1
            have hfz := blk_frozen (blk_below HCUR.out hB1) (m * 2)
            have hfz1 := blk_frozen (blk_below HCUR.out hB1) (m * 2 + 1)
            clear hb hB1 hcb hcs y0 y1 HM0
            have HCC := Aside0.mk (show ∀ (j : Nat) (u : Value), ([.string bs, .int .i64 b.2] : List Value)[j]? = some u → V.cell? ⟨bk, (m : Int).toNat * kP.sz + j, none⟩ = some u from fun j u hj => by
              match j, hj with
              | 0, hj => obtain rfl := Option.some.inj hj; exact z0
              | 1, hj => obtain rfl := Option.some.inj hj; exact z1)
            clear z0 z1
            go_wp2_with ((with_reducible refine gate_store (t := 85) (p := 81) (v := .tmp 80) rfl ?_); refine Kd.R_store kP (w0 := w) w.heap.size rfl rfl 85 (.tmp 81) (.tmp 80) rfl 85 (g := bk) (n := m + 1) (cap := c4) (o' := m * 2) (m : Int) 0 (memS (b :: r)) (lb' ++ (⟨#[43]⟩ : ByteArray), 3) (.agg #[.string (lb' ++ (⟨#[43]⟩ : ByteArray)), .int .i64 3]) [.string (lb' ++ (⟨#[43]⟩ : ByteArray)), .int .i64 3] [.string bs, .int .i64 b.2] (fun k => w.heap.size ≤ k ∧ k ≠ w.heap.size) (fun _ => False) (by first | rfl | (simp; done)) rfl rfl rfl (by kernel_rfl) (by intro q hq; simp at hq; rcases hq with rfl | rfl <;> rfl) HMV.out.own p0 (by omega) rfl HCC.out (Nat.le_refl 2) (kP_mkM _ _ _ _) (fun _ hk => hk.elim) HMV.out.B ?_; intro w3 ho hb hg; have HM2 := Aside0.mk (show PaM w w3 w.heap.size (.slice (some ⟨bk, 0, none⟩) (m + 1) c4) ((leastL b 3 ++ markL 6, 3) :: r) from ⟨hb, by rw [← HSET.out, ← HTX.out]; exact ho, blk_grown HMV.out.b3 hg (fun he => (HMV.out.own.1 w.heap.size he.symm).2 rfl), HMV.out.h3⟩); clear ho hb hg)
            go_wp2
            go_roundg k1
            case rel => exact ⟨i + 1, _, by go_num, by omega, by omega, HS2, HM2⟩
            case measure => omega
          · -- mark
            clear g2
            go_wp2
            have HB0 := below_alloc (Below.refl wr.heap.size wr) (.cells #[.int .i64 7, .string ⟨#[]⟩] 69)
            have HM0 := Aside0.mk (HM.out.below HB0)
            have hbx := blk_new wr (.cells #[.int .i64 7, .string ⟨#[]⟩] 69)
            obtain ⟨nb, enb⟩ : ∃ n, wr.heap.size = n := ⟨_, rfl⟩
            rw [enb] at hbx ⊢
            generalize wr.alloc (.cells #[.int .i64 7, .string ⟨#[]⟩] 69) = W0 at HM0 hbx ⊢
            have hown := HM0.out.own
            have hC4 := (Kd.R_reads' hown).2.2
            obtain ⟨bk, o, rfl, y0, y1⟩ := at_P hC4 m (baL b.1, b.2) (by have := memS_at [] b r; rw [HML.out] at this; exact this)
            obtain ⟨rfl, cur, hcur⟩ := own_zero hown
            obtain ⟨bs, hbs⟩ : ∃ bs, baL b.1 = bs := ⟨_, rfl⟩
            simp only [hbs, Nat.zero_add] at y0
            simp only [Nat.zero_add] at y1
            have hcb : W0.cell? ⟨nb, 0, none⟩ = some (.int .i64 7) := (blk_cell hbx 0).trans rfl
            have hcs : W0.cell? ⟨w.heap.size, 7, none⟩ = some (.string ⟨#[63]⟩) := (blk_cell HM0.out.b3 7).trans rfl
            have hwb : b.1.length ≤ 5000 := Nat.le_trans (wt_mem (by simp)) HLN.out.2
            have HLB := Aside0.mk (fun V => show_piece_least.calls bs b.2 3 (baL (leastL b 3)) V (by rw [← hbs]; exact least_f b 3 (by omega)))
            have hlb := leastL_len b 3
            have HTX := Aside0.mk (show baL (leastL b 3) ++ (⟨#[63]⟩ : ByteArray) = baL (leastL b 3 ++ markL 7) from by rw [show (⟨#[63]⟩ : ByteArray) = baL [63] from rfl, baL_app]; rfl)
            obtain ⟨lb', hlb'⟩ : ∃ x, baL (leastL b 3) = x := ⟨_, rfl⟩
            have hlb2 : lb'.size ≤ 5002 := by rw [← hlb', baL_size]; omega
            rw [hlb'] at HLB HTX
            have HBS := Aside0.mk hbs
            have HCUR := Aside0.mk hcur
            have p0 : (0 : Int) ≤ (m : Int) := by omega
            have p1 : (m : Int) < (m : Int) + 1 := by omega
            have hmz : m * 2 < (m + 1) * 2 := by omega
            have kq1 : (9223372036854775807 < lb'.size + 1) = False := eq_false (by omega)
            have HS2 := Aside0.mk (showpath_step HS.out hlt HX.out.1 (push1_mark (b := b) (r := r) (by decide) (by decide) (by decide)))
            have HSET := Aside0.mk (memS_set b (leastL b 3 ++ markL 7, 3) r m HML.out)
            clear HS hown hC4 hbs hcur hbx HB0 HM enb x0 x1 hwb hlb hlb'
            have hw1 : IntKind.i64.wrap ((m : Int) + 1 - 1) = (m : Int) := by rw [i64_w]; unfold wrap64; omega
            have hw2 : IntKind.i64.wrap (m : Int) = (m : Int) := by rw [i64_w]; unfold wrap64; omega
            have hw3 : (m : Int) + 1 - 1 = (m : Int) := by omega
            go_region_held3 (fun w' => w'.cell? ⟨bk, m * 2, none⟩ = some (.string bs) ∧ w'.cell? ⟨bk, m * 2 + 1, none⟩ = some (.int .i64 b.2) ∧ w'.cell? ⟨nb, 0, none⟩ = some (.int .i64 7) ∧ w'.cell? ⟨w.heap.size, 7, none⟩ = some (.string ⟨#[63]⟩)) (go_keep) (fail)
            rename_i hHeld0
            go_wp2_with fail
            clear hw1 hw2 hw3 hHeld0
            refine (HLB.out _).mono ?_
            rintro e V ⟨rfl, hb⟩
            have hB1 : Below W0.heap.size W0 V := below_then (below_drew1 (below_alloc (Below.refl _ _) _)) (below_drew1 (below_alloc (Below.refl W0.heap.size W0) (.cells #[.string bs, .int .i64 b.2] 85))).size hb
            have HMV := Aside0.mk (HM0.out.below hB1)
            have z0 := pw_cell_below hB1 y0
            have z1 := pw_cell_below hB1 y1
            have hfz := blk_frozen (blk_below HCUR.out hB1) (m * 2)
            have hfz1 := blk_frozen (blk_below HCUR.out hB1) (m * 2 + 1)
            clear hb hB1 hcb hcs y0 y1 HM0
            have HCC := Aside0.mk (show ∀ (j : Nat) (u : Value), ([.string bs, .int .i64 b.2] : List Value)[j]? = some u → V.cell? ⟨bk, (m : Int).toNat * kP.sz + j, none⟩ = some u from fun j u hj => by
              match j, hj with
              | 0, hj => obtain rfl := Option.some.inj hj; exact z0
              | 1, hj => obtain rfl := Option.some.inj hj; exact z1)
            clear z0 z1
            go_wp2_with ((with_reducible refine gate_store (t := 85) (p := 81) (v := .tmp 80) rfl ?_); refine Kd.R_store kP (w0 := w) w.heap.size rfl rfl 85 (.tmp 81) (.tmp 80) rfl 85 (g := bk) (n := m + 1) (cap := c4) (o' := m * 2) (m : Int) 0 (memS (b :: r)) (lb' ++ (⟨#[63]⟩ : ByteArray), 3) (.agg #[.string (lb' ++ (⟨#[63]⟩ : ByteArray)), .int .i64 3]) [.string (lb' ++ (⟨#[63]⟩ : ByteArray)), .int .i64 3] [.string bs, .int .i64 b.2] (fun k => w.heap.size ≤ k ∧ k ≠ w.heap.size) (fun _ => False) (by first | rfl | (simp; done)) rfl rfl rfl (by kernel_rfl) (by intro q hq; simp at hq; rcases hq with rfl | rfl <;> rfl) HMV.out.own p0 (by omega) rfl HCC.out (Nat.le_refl 2) (kP_mkM _ _ _ _) (fun _ hk => hk.elim) HMV.out.B ?_; intro w3 ho hb hg; have HM2 := Aside0.mk (show PaM w w3 w.heap.size (.slice (some ⟨bk, 0, none⟩) (m + 1) c4) ((leastL b 3 ++ markL 7, 3) :: r) from ⟨hb, by rw [← HSET.out, ← HTX.out]; exact ho, blk_grown HMV.out.b3 hg (fun he => (HMV.out.own.1 w.heap.size he.symm).2 rfl), HMV.out.h3⟩); clear ho hb hg)
            go_wp2
            go_roundg k1
            case rel => exact ⟨i + 1, _, by go_num, by omega, by omega, HS2, HM2⟩
            case measure => omega
      · obtain rfl : i = l.length := by omega
        have hz : decide ((l.length : Int) < (l.length : Int)) = false := decide_eq_false (by omega)
        have hs := HS.out
        rw [List.take_length] at hs
        have hwt := pushes_wt _ _ _ hs
        have hml := memS_length st
        obtain ⟨A4, c4, hu⟩ := Kd.R_slice HM.out.own
        rw [hml] at hu
        subst hu
        have HE := Aside0.mk (pathL_end (by omega) hs)
        have HB := Aside0.mk HM.out.B
        clear HS hml hs
        cases st with
        | nil =>
          clear HM hwt
          go_wp2
          go_ret
          exact ⟨by rw [HE.out]; rfl, HB.out⟩
        | cons b r =>
          cases r with
          | cons b2 r =>
            have g1 : (((b :: b2 :: r).length : Int) == 1) = false := beq_eq_false_iff_ne.2 (by simp; omega)
            have g2 : (((b :: b2 :: r).length : Int) != 1) = true := bne_iff_ne.2 (by simp; omega)
            obtain ⟨k2, hk2⟩ : ∃ k2, (b :: b2 :: r).length = k2 := ⟨_, rfl⟩
            rw [hk2] at g1 g2 ⊢
            clear HM hwt hk2
            go_wp2
            go_ret
            exact ⟨by rw [HE.out]; rfl, HB.out⟩
          | nil =>
            have hC4 := (Kd.R_reads' HM.out.own).2.2
            obtain ⟨bk, o, rfl, y0, y1⟩ := at_P hC4 0 (baL b.1, b.2) rfl
            have hwb : b.1.length ≤ 5000 := by simp only [wt] at hwt; omega
            obtain ⟨kd, hkd⟩ := deep_S b.1 (by omega)
            have HD := Aside0.mk (fun V (h : LaidW V) => parse_Deep.calls kd (baL b.1) ((deepS b.1 : Nat) : Int) V h hkd)
            obtain ⟨bs, hbs⟩ : ∃ bs, baL b.1 = bs := ⟨_, rfl⟩
            have HBS := Aside0.mk hbs
            simp only [hbs] at y0
            rw [hbs] at HD
            obtain ⟨dp, hdp⟩ : ∃ d, deepS b.1 = d := ⟨_, rfl⟩
            have HE2 := Aside0.mk (show pathL l = if 32 < dp then [] else b.1 from by rw [HE.out, ← hdp]; rfl)
            rw [hdp] at HD
            rw [Nat.zero_mul, Nat.add_zero] at y0
            clear hC4 hwt hkd hbs hdp HE HM y1 hwb
            go_wp2_with fail
            refine (HD.out _ (HLW.out.below HB.out)).mono ?_
            rintro e V ⟨rfl, hb⟩
            have HB1 := Aside0.mk (below_then HB.out HB.out.size hb)
            have z0 := pw_cell_below hb y0
            clear hb y0
            by_cases h32 : 32 < dp
            · have g1 : decide ((32 : Int) < (dp : Int)) = true := decide_eq_true (by omega)
              have g2 : decide (32 < dp) = true := decide_eq_true h32
              go_wp2
              go_ret
              exact ⟨by rw [HE2.out, if_pos h32]; rfl, HB1.out⟩
            · have g1 : decide ((32 : Int) < (dp : Int)) = false := decide_eq_false (by omega)
              have g2 : decide (32 < dp) = false := decide_eq_false h32
              go_wp2
              go_ret
              exact ⟨by rw [HE2.out, if_neg h32, HBS.out]; rfl, HB1.out⟩
end Go.Proofs.YthebhbomlllpeaaGreatDoor.X
namespace Go.Proofs.YthebhbomlllpeaaGreatDoor.X
set_option linter.unusedVariables false
set_option linter.unusedSimpArgs false
open Go.RowKit Go.Proofs.YthebhbomlllpeaaGreatDoorW.PrintWords Go.Proofs.YthebhbomlllpeaaGreatDoorW.PrintLast Go.Proofs.YthebhbomlllpeaaGreatDoorW.PrintMore
def numDig (c : Int) : Int := if 97 ≤ c then c - 97 + 10 else (c - 48) % 256
def numStep (b n c : Int) : Int := IntKind.u64.wrap (IntKind.u64.wrap (n * b) + numDig c)
def numFrom (s : ByteArray) (b : Int) : Nat → Nat → Int → Int
  | 0, _, n => n
  | d + 1, pos, n => if pos < s.size then numFrom s b d (pos + (Utf8.decode s pos).2) (numStep b n (bt s (pos : Int))) else n
def antecedentref02_number.f (a0 : ByteArray) (a1 : Int) : Option Int := some (numFrom a0 a1 a0.size 0 0)
theorem numFrom_end {s : ByteArray} {b n : Int} {d pos : Nat} (h : ¬ pos < s.size) : numFrom s b d pos n = n := by
  cases d with
  | zero => rfl
  | succ d => simp only [numFrom]; rw [if_neg h]
theorem num_next {s : ByteArray} {b n T : Int} {d pos : Nat} (h : pos < s.size) (hd : s.size - pos ≤ d) (hT : numFrom s b d pos n = T) :
    ∃ d', s.size - (pos + (Utf8.decode s pos).2) ≤ d' ∧ numFrom s b d' (pos + (Utf8.decode s pos).2) (numStep b n (bt s (pos : Int))) = T := by
  obtain ⟨d, rfl⟩ : ∃ e, d = e + 1 := ⟨d - 1, by omega⟩
  simp only [numFrom] at hT
  rw [if_pos h] at hT
  have := width_pos s pos h
  exact ⟨d, by omega, hT⟩
set_option maxHeartbeats 2000000 in
set_option maxRecDepth 1000000 in
theorem antecedentref02_number.calls (a0 : ByteArray) (a1 : Int) (r : Int) (w : World) (h : antecedentref02_number.f a0 a1 = some r) :
    Calls Tryz.prog 132 #[.string a0, .int .u64 a1] w fun e w' => e = .returned (.int .u64 r) ∧ Below w.heap.size w w' := by
  have hT := Option.some.inj h
  clear h
  go_enter Tryz.func132, Tryz.ntmps132
  go_wp2
  go_loopw [5] (fun v5 wr => ∃ (pos d : Nat) (n : Int), v5 = .int .u64 n ∧ wr = w.iter a0 pos ∧ Aside0 (a0.size - pos ≤ d) ∧ Aside0 (numFrom a0 a1 d pos n = r)) (fun _ wr => a0.size - wr.iterPos w.heap.size)
  case atStart => exact ⟨0, a0.size, 0, rfl, rfl, ⟨by omega⟩, ⟨hT⟩⟩
  case round =>
    obtain ⟨pos, d, n, rfl, rfl, HD, HN⟩ := hrel
    clear hT
    by_cases hp : pos < a0.size
    · have hnx : ∀ ty, (Instr.next (.pointer (some ⟨w.heap.size, 0, none⟩)) true ty).run Tryz.prog (w.iter a0 pos) = _ := fun ty => run_next_any w a0 pos ty hp
      have hwd := width_pos a0 pos hp
      have hby := bt_nat a0 pos hp
      have hstep := num_next hp HD.out HN.out
      rw [hby] at hstep
      have HST := Aside0.mk hstep
      clear hby hstep
      obtain ⟨c, hc⟩ : ∃ c : Int, c = ((a0[pos]'hp).toNat : Int) := ⟨_, rfl⟩
      have hc0 : 0 ≤ c := by omega
      have hc1 : c < 256 := by have := (a0[pos]'hp).toNat_lt; omega
      rw [← hc] at HST
      by_cases hge : 97 ≤ c
      · have hdig : numDig c = c - 97 + 10 := by unfold numDig; rw [if_pos hge]
        go_wp2
        obtain ⟨d', h1, h2⟩ := HST.out
        unfold numStep at h2
        rw [hdig, hc] at h2
        refine ⟨⟨pos + (Utf8.decode a0 pos).2, d', _, rfl, rfl, ⟨h1⟩, ⟨h2⟩⟩, ?_⟩
        have e1 : (w.iter a0 (pos + (Utf8.decode a0 pos).snd)).iterPos w.heap.size = pos + (Utf8.decode a0 pos).snd := by simp
        have e2 : (w.iter a0 pos).iterPos w.heap.size = pos := by simp
        rw [e1, e2]
        omega
      · have hdig : numDig c = (c - 48) % 256 := by unfold numDig; rw [if_neg hge]
        go_wp2
        obtain ⟨d', h1, h2⟩ := HST.out
        unfold numStep at h2
        rw [hdig, hc] at h2
        refine ⟨⟨pos + (Utf8.decode a0 pos).2, d', _, rfl, rfl, ⟨h1⟩, ⟨h2⟩⟩, ?_⟩
        have e1 : (w.iter a0 (pos + (Utf8.decode a0 pos).snd)).iterPos w.heap.size = pos + (Utf8.decode a0 pos).snd := by simp
        have e2 : (w.iter a0 pos).iterPos w.heap.size = pos := by simp
        rw [e1, e2]
        omega
    · have hnx : ∀ ty, (Instr.next (.pointer (some ⟨w.heap.size, 0, none⟩)) true ty).run Tryz.prog (w.iter a0 pos) = _ := fun ty => run_next_end w a0 pos ty hp
      have hr : n = r := by rw [← HN.out, numFrom_end hp]
      go_wp2
      go_ret
      refine ⟨?_, below_iter w a0 pos⟩
      rw [hr]
      first | done | rfl
end Go.Proofs.YthebhbomlllpeaaGreatDoor.X
namespace Go.Proofs.YthebhbomlllpeaaGreatDoor.X
open Go.RowKit Go.Proofs.YthebhbomlllpeaaGreatDoorW.PrintWords Go.Proofs.YthebhbomlllpeaaGreatDoorW.PrintLast Go.Proofs.YthebhbomlllpeaaGreatDoorW.PrintMore
attribute [local go_sem] max2_int min2_int max_two min_two max_three min_three max_four min_four
set_option linter.unusedVariables false
set_option linter.unusedSimpArgs false
def antecedentref02_Read.j0 : Nat → ByteArray → Bool → Int → Int → ByteArray → Option (Int × Int × ByteArray × Int)
  | 0, _, _, _, _, _ => none
  | k + 1, x0, x34, x192000, x192001, x192002 => if x34 = true then ((antecedentref02_number.f x0 10).bind fun t196 => ((antecedentref02_Text.f k 1 (wrap64 (t196)) (⟨#[]⟩ : ByteArray)).bind fun t197 => (if t197.toList = x0.toList then (some (1, wrap64 (t196), (⟨#[]⟩ : ByteArray), 0)) else (some (0, 0, (⟨#[]⟩ : ByteArray), 2))))) else ((antecedentref02_Text.f k x192000 x192001 x192002).bind fun t198 => (if t198.toList = x0.toList then (some (x192000, x192001, x192002, 0)) else (some (0, 0, (⟨#[]⟩ : ByteArray), 2))))
def antecedentref02_Read.f (k : Nat) (a0 : ByteArray) : Option (Int × Int × ByteArray × Int) := if a0.toList = ([] : List UInt8) then (some (0, 0, (⟨#[]⟩ : ByteArray), 2)) else (if 0 < (a0.size : Int) then (if (bt a0 0) = 35 then (if 1 ≤ (a0.size : Int) then ((antecedentref02_number.f (a0.extract 1 a0.size) 16).bind fun t192 => ((antecedentref02_Text.f k 2 (wrap64 (t192)) (⟨#[]⟩ : ByteArray)).bind fun t193 => (if t193.toList = a0.toList then (some (2, wrap64 (t192), (⟨#[]⟩ : ByteArray), 0)) else (some (0, 0, (⟨#[]⟩ : ByteArray), 2))))) else (none)) else (if (bt a0 0) = 45 then (if 1 ≤ (a0.size : Int) then ((antecedentref02_number.f (a0.extract 1 a0.size) 10).bind fun t194 => ((antecedentref02_Text.f k 1 (wrap64 (IntKind.u64.wrap (-t194))) (⟨#[]⟩ : ByteArray)).bind fun t195 => (if t195.toList = a0.toList then (some (1, wrap64 (IntKind.u64.wrap (-t194)), (⟨#[]⟩ : ByteArray), 0)) else (some (0, 0, (⟨#[]⟩ : ByteArray), 2))))) else (none)) else (if (bt a0 0) ≥ 48 then (antecedentref02_Read.j0 k a0 (decide ((bt a0 0) ≤ 57)) 3 0 a0) else (antecedentref02_Read.j0 k a0 false 3 0 a0)))) else (none))
set_option maxHeartbeats 8000000 in
set_option maxRecDepth 100000 in
theorem antecedentref02_Read.calls (k : Nat) (a0 : ByteArray) (r1 : Int) (r2 : Int) (r3 : ByteArray) (r4 : Int) (w : World) (h : antecedentref02_Read.f k a0 = some (r1, r2, r3, r4)) :
    Calls Tryz.prog 101 #[.string a0] w fun e w' => e = .returned (.tuple #[.agg #[.int .i64 r1, .int .i64 r2, .string r3], .int .i64 r4]) ∧ Below w.heap.size w w' := by
  have hu58 := Tryz.underlying58
  have HB := Aside0.mk (Below.refl w.heap.size w)
  have H : (if a0.toList = ([] : List UInt8) then (some (0, 0, (⟨#[]⟩ : ByteArray), 2)) else (if 0 < (a0.size : Int) then (if (bt a0 0) = 35 then (if 1 ≤ (a0.size : Int) then ((antecedentref02_number.f (a0.extract 1 a0.size) 16).bind fun t192 => ((antecedentref02_Text.f k 2 (wrap64 (t192)) (⟨#[]⟩ : ByteArray)).bind fun t193 => (if t193.toList = a0.toList then (some (2, wrap64 (t192), (⟨#[]⟩ : ByteArray), 0)) else (some (0, 0, (⟨#[]⟩ : ByteArray), 2))))) else (none)) else (if (bt a0 0) = 45 then (if 1 ≤ (a0.size : Int) then ((antecedentref02_number.f (a0.extract 1 a0.size) 10).bind fun t194 => ((antecedentref02_Text.f k 1 (wrap64 (IntKind.u64.wrap (-t194))) (⟨#[]⟩ : ByteArray)).bind fun t195 => (if t195.toList = a0.toList then (some (1, wrap64 (IntKind.u64.wrap (-t194)), (⟨#[]⟩ : ByteArray), 0)) else (some (0, 0, (⟨#[]⟩ : ByteArray), 2))))) else (none)) else (if (bt a0 0) ≥ 48 then (antecedentref02_Read.j0 k a0 (decide ((bt a0 0) ≤ 57)) 3 0 a0) else (antecedentref02_Read.j0 k a0 false 3 0 a0)))) else (none))) = some (r1, r2, r3, r4) := h
  clear h
  by_cases c2 : a0.toList = ([] : List UInt8)
  · rw [if_pos c2] at H
    have c2b0 : (a0.toList == ([] : List UInt8)) = true := beq_iff_eq.mpr c2
    have c2b1 : (a0.toList != ([] : List UInt8)) = false := bne_eq_false_iff_eq.mpr c2
    clear c2
    simp only [Option.some.injEq, Prod.mk.injEq] at H
    obtain ⟨rfl, rfl, rfl, rfl⟩ := H
    go_enter Tryz.func101, Tryz.ntmps101
    go_wp2_with (first | ((with_reducible refine gate_dst (N := 2) rfl ?_); refine box_event ?hg (N := 2) ?hd (cs := #[.int .i64 0, .int .i64 0, .string (⟨#[]⟩ : ByteArray)]) (t := 58) ?hr ?_; (case hd => rfl); (case hg => rfl); (case hr => first | (go_simp; done) | (go_simp; rfl)); intro gb190 hg w3 hbox hb; have n0_ := Aside0.mk (below_step (by repeat (first | (with_reducible first | exact HB.out | apply below_alloc | apply pw_below_drewN | apply below_drew1) | exact HB.out)) hb); have n1_ := Aside0.mk (hbox); have n2_ := Aside0.mk ((by rw [hg]; exact (below_size (by repeat (first | (with_reducible first | exact HB.out | apply below_alloc | apply pw_below_drewN | apply below_drew1) | exact HB.out))) : w.heap.size ≤ gb190)); have n3_ := Aside0.mk ((by rw [hg]; exact (below_size (by repeat (first | (with_reducible first | exact HB.out | apply below_alloc | apply pw_below_drewN | apply below_drew1) | exact HB.out))) : w.heap.size ≤ gb190)); clear HB; have HB := n0_; have BK190 := n1_; have GW190 := n2_; have GE190 := n3_; clear n0_ n1_ n2_ n3_; clear hb hbox hg; have hcz4_0 : w3.cell? ⟨gb190, 0, none⟩ = some (.int .i64 0) := (blk_cell BK190.out 0).trans rfl; have hcz4_1 : w3.cell? ⟨gb190, 1, none⟩ = some (.int .i64 0) := (blk_cell BK190.out 1).trans rfl; have hcz4_2 : w3.cell? ⟨gb190, 2, none⟩ = some (.string (⟨#[]⟩ : ByteArray)) := (blk_cell BK190.out 2).trans rfl; have hfz4_0 := blk_frozen BK190.out 0; have hfz4_1 := blk_frozen BK190.out 1; have hfz4_2 := blk_frozen BK190.out 2))
    refine bodyPost_ret (results_ct rfl _ _ gb190 58 #[.int .i64 0, .int .i64 0, .string (⟨#[]⟩ : ByteArray)] (0, 0) _ rfl (by (with_reducible repeat (first | refine blk_drewN ?_ _ | refine blk_drew ?_ | refine blk_alloc ?_ _)); refine blk_put (cs := #[.int .i64 0, .int .i64 0, .string (⟨#[]⟩ : ByteArray)]) ?_ 2 _ rfl; (with_reducible repeat (first | refine blk_drewN ?_ _ | refine blk_drew ?_ | refine blk_alloc ?_ _)); refine blk_put (cs := #[.int .i64 0, .int .i64 0, .string (⟨#[]⟩ : ByteArray)]) ?_ 1 _ rfl; (with_reducible repeat (first | refine blk_drewN ?_ _ | refine blk_drew ?_ | refine blk_alloc ?_ _)); refine blk_put (cs := #[.int .i64 0, .int .i64 0, .string (⟨#[]⟩ : ByteArray)]) ?_ 0 _ rfl; (with_reducible repeat (first | refine blk_drewN ?_ _ | refine blk_drew ?_ | refine blk_alloc ?_ _)); exact BK190.out) Tryz.underlying58 rfl (by kernel_rfl)) rfl ?_
    exact ⟨by first | rfl | (simp [errW_none, errW_some] <;> rfl) | (simp [*, errW_none, errW_some] <;> rfl), by repeat (first | (with_reducible first | exact HB.out | apply below_alloc | apply pw_below_drewN | apply below_drew1 | refine below_set ?_ GE190.out) | exact HB.out)⟩
  · rw [if_neg c2] at H
    have c2b0 : (a0.toList == ([] : List UInt8)) = false := beq_eq_false_iff_ne.mpr c2
    have c2b1 : (a0.toList != ([] : List UInt8)) = true := bne_iff_ne.mpr c2
    by_cases c5 : 0 < (a0.size : Int)
    · rw [if_pos c5] at H
      have c5b0 : decide (0 < (a0.size : Int)) = true := decide_eq_true c5
      have c5b1 : decide (0 < a0.size) = true := decide_eq_true (by omega)
      clear c5
      by_cases c7 : (bt a0 0) = 35
      · rw [if_pos c7] at H
        have c7b0 : ((bt a0 0) == 35) = true := beq_iff_eq.mpr c7
        have c7b1 : ((bt a0 0) != 35) = false := bne_eq_false_iff_eq.mpr c7
        clear c7
        by_cases c8 : 1 ≤ (a0.size : Int)
        · rw [if_pos c8] at H
          have c8b0 := eq_true c8
          have c8b1 : decide (1 ≤ (a0.size : Int)) = true := decide_eq_true c8
          clear c8
          replace H := Option.bind_eq_some_iff.mp H
          obtain ⟨t192, A90, H⟩ := H
          replace H : ((antecedentref02_Text.f k 2 (wrap64 (t192)) (⟨#[]⟩ : ByteArray)).bind fun t193 => (if t193.toList = a0.toList then (some (2, wrap64 (t192), (⟨#[]⟩ : ByteArray), 0)) else (some (0, 0, (⟨#[]⟩ : ByteArray), 2)))) = some (r1, r2, r3, r4) := H
          have A9 := Aside0.mk A90
          clear A90
          replace H := Option.bind_eq_some_iff.mp H
          obtain ⟨t193, A100, H⟩ := H
          replace H : (if t193.toList = a0.toList then (some (2, wrap64 (t192), (⟨#[]⟩ : ByteArray), 0)) else (some (0, 0, (⟨#[]⟩ : ByteArray), 2))) = some (r1, r2, r3, r4) := H
          have A10 := Aside0.mk A100
          clear A100
          by_cases c11 : t193.toList = a0.toList
          · rw [if_pos c11] at H
            have c11b0 : (t193.toList == a0.toList) = true := beq_iff_eq.mpr c11
            have c11b1 : (t193.toList != a0.toList) = false := bne_eq_false_iff_eq.mpr c11
            clear c11
            simp only [Option.some.injEq, Prod.mk.injEq] at H
            obtain ⟨rfl, rfl, rfl, rfl⟩ := H
            go_enter Tryz.func101, Tryz.ntmps101
            go_wp2_with (first | ((with_reducible refine gate_dst (N := 2) rfl ?_); refine box_event ?hg (N := 2) ?hd (cs := #[.int .i64 0, .int .i64 0, .string (⟨#[]⟩ : ByteArray)]) (t := 58) ?hr ?_; (case hd => rfl); (case hg => rfl); (case hr => first | (go_simp; done) | (go_simp; rfl)); intro gb190 hg w12 hbox hb; have n0_ := Aside0.mk (below_step (by repeat (first | (with_reducible first | exact HB.out | apply below_alloc | apply pw_below_drewN | apply below_drew1) | exact HB.out)) hb); have n1_ := Aside0.mk (hbox); have n2_ := Aside0.mk ((by rw [hg]; exact (below_size (by repeat (first | (with_reducible first | exact HB.out | apply below_alloc | apply pw_below_drewN | apply below_drew1) | exact HB.out))) : w.heap.size ≤ gb190)); have n3_ := Aside0.mk ((by rw [hg]; exact (below_size (by repeat (first | (with_reducible first | exact HB.out | apply below_alloc | apply pw_below_drewN | apply below_drew1) | exact HB.out))) : w.heap.size ≤ gb190)); clear HB; have HB := n0_; have BK190 := n1_; have GW190 := n2_; have GE190 := n3_; clear n0_ n1_ n2_ n3_; clear hb hbox hg) | ((with_reducible refine gate_dst (N := 4) rfl ?_); refine box_event ?hg (N := 4) ?hd (cs := #[.int .i64 0, .int .i64 0, .string (⟨#[]⟩ : ByteArray)]) (t := 58) ?hr ?_; (case hd => rfl); (case hg => rfl); (case hr => first | (go_simp; done) | (go_simp; rfl)); intro gb191 hg w13 hbox hb; have n0_ := Aside0.mk (blk_below (g := gb190) (o := .cells #[.int .i64 0, .int .i64 0, .string (⟨#[]⟩ : ByteArray)] 58 (0, 0)) (by (with_reducible repeat (first | refine blk_drewN ?_ _ | refine blk_drew ?_ | refine blk_alloc ?_ _)); exact BK190.out) hb); have n1_ := Aside0.mk (below_step (by repeat (first | (with_reducible first | exact HB.out | apply below_alloc | apply pw_below_drewN | apply below_drew1 | refine below_set ?_ GE190.out) | exact HB.out)) hb); have n2_ := Aside0.mk (hbox); have n3_ := Aside0.mk ((by rw [hg]; exact (below_size (by repeat (first | (with_reducible first | exact HB.out | apply below_alloc | apply pw_below_drewN | apply below_drew1 | refine below_set ?_ GE190.out) | exact HB.out))) : w.heap.size ≤ gb191)); have n4_ := Aside0.mk ((by rw [hg]; exact (below_size (by repeat (first | (with_reducible first | exact HB.out | apply below_alloc | apply pw_below_drewN | apply below_drew1 | refine below_set ?_ GE190.out) | exact HB.out))) : w.heap.size ≤ gb191)); have n5_ := Aside0.mk ((by rw [hg]; exact Nat.ne_of_lt (blk_lt (g := gb190) (o := .cells #[.int .i64 0, .int .i64 0, .string (⟨#[]⟩ : ByteArray)] 58 (0, 0)) (by (with_reducible repeat (first | refine blk_drewN ?_ _ | refine blk_drew ?_ | refine blk_alloc ?_ _)); exact BK190.out)) : gb190 ≠ gb191)); have n6_ := Aside0.mk ((by rw [hg]; exact Nat.ne_of_gt (blk_lt (g := gb190) (o := .cells #[.int .i64 0, .int .i64 0, .string (⟨#[]⟩ : ByteArray)] 58 (0, 0)) (by (with_reducible repeat (first | refine blk_drewN ?_ _ | refine blk_drew ?_ | refine blk_alloc ?_ _)); exact BK190.out)) : gb191 ≠ gb190)); clear BK190; clear HB; have BK190 := n0_; have HB := n1_; have BK191 := n2_; have GW191 := n3_; have GE191 := n4_; have NB190_191 := n5_; have NB191_190 := n6_; clear n0_ n1_ n2_ n3_ n4_ n5_ n6_; clear hb hbox hg; have hnb14 := NB191_190.out; have hnc14 := NB190_191.out; have hcz15_0 : w13.cell? ⟨gb191, 0, none⟩ = some (.int .i64 0) := (blk_cell BK191.out 0).trans rfl; have hcz15_1 : w13.cell? ⟨gb191, 1, none⟩ = some (.int .i64 0) := (blk_cell BK191.out 1).trans rfl; have hcz15_2 : w13.cell? ⟨gb191, 2, none⟩ = some (.string (⟨#[]⟩ : ByteArray)) := (blk_cell BK191.out 2).trans rfl; have hfz15_0 := blk_frozen BK191.out 0; have hfz15_1 := blk_frozen BK191.out 1; have hfz15_2 := blk_frozen BK191.out 2; have p6 : 0 ≤ (0 : Int) := (by omega); have q6 : 0 < a0.size := (by have : (0 : Int) < (a0.size : Int) := of_decide_eq_true (by first | (with_reducible assumption) | assumption); omega); have hx6 : ∀ h : 0 < a0.size, ((a0[0]'h).toNat : Int) = bt a0 0 := bt_at a0 0; clear p6; have qi6 : (0 < (a0.size : Int)) = True := eq_true (of_decide_eq_true (by first | (with_reducible assumption) | assumption)); replace q6 := eq_true q6) | ((with_reducible refine gate_callee (f := 132) rfl ?_); refine goesL_ (some 15) rfl rfl Tryz.func132 (by kernel_rfl) rfl #[.string (a0.extract 1 a0.size), .int .u64 16] rfl (by (try simp only [List.map_toArray, List.map_cons, List.map_nil]); first | done | rfl | (simp only [List.length_drop, List.length_take]; rfl)) ?_; (with_reducible refine (antecedentref02_number.calls (a0.extract 1 a0.size) 16 t192 _ A9.out).mono ?_); rintro e w16 ⟨rfl, hb⟩; refine ⟨_, rfl, ?_⟩; have n0_ := Aside0.mk (blk_below (g := gb190) (o := .cells #[.int .i64 0, .int .i64 0, .string (⟨#[]⟩ : ByteArray)] 58 (0, 0)) (by (with_reducible repeat (first | refine blk_drewN ?_ _ | refine blk_drew ?_ | refine blk_alloc ?_ _)); refine blk_far ?_ NB190_191.out _; (with_reducible repeat (first | refine blk_drewN ?_ _ | refine blk_drew ?_ | refine blk_alloc ?_ _)); refine blk_far ?_ NB190_191.out _; (with_reducible repeat (first | refine blk_drewN ?_ _ | refine blk_drew ?_ | refine blk_alloc ?_ _)); refine blk_far ?_ NB190_191.out _; (with_reducible repeat (first | refine blk_drewN ?_ _ | refine blk_drew ?_ | refine blk_alloc ?_ _)); exact BK190.out) hb); have n1_ := Aside0.mk (blk_below (g := gb191) (o := .cells #[.int .i64 3, .int .i64 0, .string a0] 58 (0, 0)) (by (with_reducible repeat (first | refine blk_drewN ?_ _ | refine blk_drew ?_ | refine blk_alloc ?_ _)); refine blk_put (cs := #[.int .i64 3, .int .i64 0, .string (⟨#[]⟩ : ByteArray)]) ?_ 2 _ rfl; (with_reducible repeat (first | refine blk_drewN ?_ _ | refine blk_drew ?_ | refine blk_alloc ?_ _)); refine blk_put (cs := #[.int .i64 3, .int .i64 0, .string (⟨#[]⟩ : ByteArray)]) ?_ 1 _ rfl; (with_reducible repeat (first | refine blk_drewN ?_ _ | refine blk_drew ?_ | refine blk_alloc ?_ _)); refine blk_put (cs := #[.int .i64 0, .int .i64 0, .string (⟨#[]⟩ : ByteArray)]) ?_ 0 _ rfl; (with_reducible repeat (first | refine blk_drewN ?_ _ | refine blk_drew ?_ | refine blk_alloc ?_ _)); exact BK191.out) hb); have n2_ := Aside0.mk (below_step (by repeat (first | (with_reducible first | exact HB.out | apply below_alloc | apply pw_below_drewN | apply below_drew1 | refine below_set ?_ GE190.out | refine below_set ?_ GE191.out) | exact HB.out)) hb); clear BK190; clear BK191; clear HB; have BK190 := n0_; have BK191 := n1_; have HB := n2_; clear n0_ n1_ n2_; (try clear hb); (try clear hb2); (try clear hk); (try clear hi); have hcz17_0 : w16.cell? ⟨gb191, 0, none⟩ = some (.int .i64 3) := (blk_cell BK191.out 0).trans rfl; have hcz17_1 : w16.cell? ⟨gb191, 1, none⟩ = some (.int .i64 0) := (blk_cell BK191.out 1).trans rfl; have hcz17_2 : w16.cell? ⟨gb191, 2, none⟩ = some (.string a0) := (blk_cell BK191.out 2).trans rfl; have hfz17_0 := blk_frozen BK191.out 0; have hfz17_1 := blk_frozen BK191.out 1; have hfz17_2 := blk_frozen BK191.out 2) | ((with_reducible refine gate_callee (f := 113) rfl ?_); refine goesL_ (some 40) rfl rfl Tryz.func113 (by kernel_rfl) rfl #[.agg #[.int .i64 2, .int .i64 (wrap64 (t192)), .string (⟨#[]⟩ : ByteArray)]] rfl (by (try simp only [List.map_toArray, List.map_cons, List.map_nil]); first | done | rfl | (simp only [List.length_drop, List.length_take]; rfl)) ?_; (with_reducible refine (antecedentref02_Text.calls k 2 (wrap64 (t192)) (⟨#[]⟩ : ByteArray) t193 _ A10.out).mono ?_); rintro e w18 ⟨rfl, hb⟩; refine ⟨_, rfl, ?_⟩; have n0_ := Aside0.mk (blk_below (g := gb190) (o := .cells #[.int .i64 0, .int .i64 0, .string (⟨#[]⟩ : ByteArray)] 58 (0, 0)) (by (with_reducible repeat (first | refine blk_drewN ?_ _ | refine blk_drew ?_ | refine blk_alloc ?_ _)); refine blk_far ?_ NB190_191.out _; (with_reducible repeat (first | refine blk_drewN ?_ _ | refine blk_drew ?_ | refine blk_alloc ?_ _)); refine blk_far ?_ NB190_191.out _; (with_reducible repeat (first | refine blk_drewN ?_ _ | refine blk_drew ?_ | refine blk_alloc ?_ _)); refine blk_far ?_ NB190_191.out _; (with_reducible repeat (first | refine blk_drewN ?_ _ | refine blk_drew ?_ | refine blk_alloc ?_ _)); exact BK190.out) hb); have n1_ := Aside0.mk (blk_below (g := gb191) (o := .cells #[.int .i64 2, .int .i64 (wrap64 (t192)), .string (⟨#[]⟩ : ByteArray)] 58 (0, 0)) (by (with_reducible repeat (first | refine blk_drewN ?_ _ | refine blk_drew ?_ | refine blk_alloc ?_ _)); refine blk_put (cs := #[.int .i64 2, .int .i64 (wrap64 (t192)), .string a0]) ?_ 2 _ rfl; (with_reducible repeat (first | refine blk_drewN ?_ _ | refine blk_drew ?_ | refine blk_alloc ?_ _)); refine blk_put (cs := #[.int .i64 2, .int .i64 0, .string a0]) ?_ 1 _ rfl; (with_reducible repeat (first | refine blk_drewN ?_ _ | refine blk_drew ?_ | refine blk_alloc ?_ _)); refine blk_put (cs := #[.int .i64 3, .int .i64 0, .string a0]) ?_ 0 _ rfl; (with_reducible repeat (first | refine blk_drewN ?_ _ | refine blk_drew ?_ | refine blk_alloc ?_ _)); exact BK191.out) hb); have n2_ := Aside0.mk (below_step (by repeat (first | (with_reducible first | exact HB.out | apply below_alloc | apply pw_below_drewN | apply below_drew1 | refine below_set ?_ GE190.out | refine below_set ?_ GE191.out) | exact HB.out)) hb); clear BK190; clear BK191; clear HB; have BK190 := n0_; have BK191 := n1_; have HB := n2_; clear n0_ n1_ n2_; (try clear hb); (try clear hb2); (try clear hk); (try clear hi); have hcz19_0 : w18.cell? ⟨gb191, 0, none⟩ = some (.int .i64 2) := (blk_cell BK191.out 0).trans rfl; have hcz19_1 : w18.cell? ⟨gb191, 1, none⟩ = some (.int .i64 (wrap64 (t192))) := (blk_cell BK191.out 1).trans rfl; have hcz19_2 : w18.cell? ⟨gb191, 2, none⟩ = some (.string (⟨#[]⟩ : ByteArray)) := (blk_cell BK191.out 2).trans rfl; have hfz19_0 := blk_frozen BK191.out 0; have hfz19_1 := blk_frozen BK191.out 1; have hfz19_2 := blk_frozen BK191.out 2; have hcz20_0 : w18.cell? ⟨gb190, 0, none⟩ = some (.int .i64 0) := (blk_cell BK190.out 0).trans rfl; have hcz20_1 : w18.cell? ⟨gb190, 1, none⟩ = some (.int .i64 0) := (blk_cell BK190.out 1).trans rfl; have hcz20_2 : w18.cell? ⟨gb190, 2, none⟩ = some (.string (⟨#[]⟩ : ByteArray)) := (blk_cell BK190.out 2).trans rfl; have hfz20_0 := blk_frozen BK190.out 0; have hfz20_1 := blk_frozen BK190.out 1; have hfz20_2 := blk_frozen BK190.out 2))
            refine bodyPost_ret (results_ct rfl _ _ gb190 58 #[.int .i64 2, .int .i64 (wrap64 (t192)), .string (⟨#[]⟩ : ByteArray)] (0, 0) _ rfl (by (with_reducible repeat (first | refine blk_drewN ?_ _ | refine blk_drew ?_ | refine blk_alloc ?_ _)); refine blk_put (cs := #[.int .i64 2, .int .i64 (wrap64 (t192)), .string (⟨#[]⟩ : ByteArray)]) ?_ 2 _ rfl; (with_reducible repeat (first | refine blk_drewN ?_ _ | refine blk_drew ?_ | refine blk_alloc ?_ _)); refine blk_put (cs := #[.int .i64 2, .int .i64 0, .string (⟨#[]⟩ : ByteArray)]) ?_ 1 _ rfl; (with_reducible repeat (first | refine blk_drewN ?_ _ | refine blk_drew ?_ | refine blk_alloc ?_ _)); refine blk_put (cs := #[.int .i64 0, .int .i64 0, .string (⟨#[]⟩ : ByteArray)]) ?_ 0 _ rfl; (with_reducible repeat (first | refine blk_drewN ?_ _ | refine blk_drew ?_ | refine blk_alloc ?_ _)); exact BK190.out) Tryz.underlying58 rfl (by kernel_rfl)) rfl ?_
            exact ⟨by first | rfl | (simp [errW_none, errW_some] <;> rfl) | (simp [*, errW_none, errW_some] <;> rfl), by repeat (first | (with_reducible first | exact HB.out | apply below_alloc | apply pw_below_drewN | apply below_drew1 | refine below_set ?_ GE190.out | refine below_set ?_ GE191.out) | exact HB.out)⟩
          · rw [if_neg c11] at H
            have c11b0 : (t193.toList == a0.toList) = false := beq_eq_false_iff_ne.mpr c11
            have c11b1 : (t193.toList != a0.toList) = true := bne_iff_ne.mpr c11
            simp only [Option.some.injEq, Prod.mk.injEq] at H
            obtain ⟨rfl, rfl, rfl, rfl⟩ := H
            go_enter Tryz.func101, Tryz.ntmps101
            go_wp2_with (first | ((with_reducible refine gate_dst (N := 2) rfl ?_); refine box_event ?hg (N := 2) ?hd (cs := #[.int .i64 0, .int .i64 0, .string (⟨#[]⟩ : ByteArray)]) (t := 58) ?hr ?_; (case hd => rfl); (case hg => rfl); (case hr => first | (go_simp; done) | (go_simp; rfl)); intro gb190 hg w21 hbox hb; have n0_ := Aside0.mk (below_step (by repeat (first | (with_reducible first | exact HB.out | apply below_alloc | apply pw_below_drewN | apply below_drew1) | exact HB.out)) hb); have n1_ := Aside0.mk (hbox); have n2_ := Aside0.mk ((by rw [hg]; exact (below_size (by repeat (first | (with_reducible first | exact HB.out | apply below_alloc | apply pw_below_drewN | apply below_drew1) | exact HB.out))) : w.heap.size ≤ gb190)); have n3_ := Aside0.mk ((by rw [hg]; exact (below_size (by repeat (first | (with_reducible first | exact HB.out | apply below_alloc | apply pw_below_drewN | apply below_drew1) | exact HB.out))) : w.heap.size ≤ gb190)); clear HB; have HB := n0_; have BK190 := n1_; have GW190 := n2_; have GE190 := n3_; clear n0_ n1_ n2_ n3_; clear hb hbox hg) | ((with_reducible refine gate_dst (N := 4) rfl ?_); refine box_event ?hg (N := 4) ?hd (cs := #[.int .i64 0, .int .i64 0, .string (⟨#[]⟩ : ByteArray)]) (t := 58) ?hr ?_; (case hd => rfl); (case hg => rfl); (case hr => first | (go_simp; done) | (go_simp; rfl)); intro gb191 hg w22 hbox hb; have n0_ := Aside0.mk (blk_below (g := gb190) (o := .cells #[.int .i64 0, .int .i64 0, .string (⟨#[]⟩ : ByteArray)] 58 (0, 0)) (by (with_reducible repeat (first | refine blk_drewN ?_ _ | refine blk_drew ?_ | refine blk_alloc ?_ _)); exact BK190.out) hb); have n1_ := Aside0.mk (below_step (by repeat (first | (with_reducible first | exact HB.out | apply below_alloc | apply pw_below_drewN | apply below_drew1 | refine below_set ?_ GE190.out) | exact HB.out)) hb); have n2_ := Aside0.mk (hbox); have n3_ := Aside0.mk ((by rw [hg]; exact (below_size (by repeat (first | (with_reducible first | exact HB.out | apply below_alloc | apply pw_below_drewN | apply below_drew1 | refine below_set ?_ GE190.out) | exact HB.out))) : w.heap.size ≤ gb191)); have n4_ := Aside0.mk ((by rw [hg]; exact (below_size (by repeat (first | (with_reducible first | exact HB.out | apply below_alloc | apply pw_below_drewN | apply below_drew1 | refine below_set ?_ GE190.out) | exact HB.out))) : w.heap.size ≤ gb191)); have n5_ := Aside0.mk ((by rw [hg]; exact Nat.ne_of_lt (blk_lt (g := gb190) (o := .cells #[.int .i64 0, .int .i64 0, .string (⟨#[]⟩ : ByteArray)] 58 (0, 0)) (by (with_reducible repeat (first | refine blk_drewN ?_ _ | refine blk_drew ?_ | refine blk_alloc ?_ _)); exact BK190.out)) : gb190 ≠ gb191)); have n6_ := Aside0.mk ((by rw [hg]; exact Nat.ne_of_gt (blk_lt (g := gb190) (o := .cells #[.int .i64 0, .int .i64 0, .string (⟨#[]⟩ : ByteArray)] 58 (0, 0)) (by (with_reducible repeat (first | refine blk_drewN ?_ _ | refine blk_drew ?_ | refine blk_alloc ?_ _)); exact BK190.out)) : gb191 ≠ gb190)); clear BK190; clear HB; have BK190 := n0_; have HB := n1_; have BK191 := n2_; have GW191 := n3_; have GE191 := n4_; have NB190_191 := n5_; have NB191_190 := n6_; clear n0_ n1_ n2_ n3_ n4_ n5_ n6_; clear hb hbox hg; have hnb23 := NB191_190.out; have hnc23 := NB190_191.out; have hcz24_0 : w22.cell? ⟨gb191, 0, none⟩ = some (.int .i64 0) := (blk_cell BK191.out 0).trans rfl; have hcz24_1 : w22.cell? ⟨gb191, 1, none⟩ = some (.int .i64 0) := (blk_cell BK191.out 1).trans rfl; have hcz24_2 : w22.cell? ⟨gb191, 2, none⟩ = some (.string (⟨#[]⟩ : ByteArray)) := (blk_cell BK191.out 2).trans rfl; have hfz24_0 := blk_frozen BK191.out 0; have hfz24_1 := blk_frozen BK191.out 1; have hfz24_2 := blk_frozen BK191.out 2; have p6 : 0 ≤ (0 : Int) := (by omega); have q6 : 0 < a0.size := (by have : (0 : Int) < (a0.size : Int) := of_decide_eq_true (by first | (with_reducible assumption) | assumption); omega); have hx6 : ∀ h : 0 < a0.size, ((a0[0]'h).toNat : Int) = bt a0 0 := bt_at a0 0; clear p6; have qi6 : (0 < (a0.size : Int)) = True := eq_true (of_decide_eq_true (by first | (with_reducible assumption) | assumption)); replace q6 := eq_true q6) | ((with_reducible refine gate_callee (f := 132) rfl ?_); refine goesL_ (some 15) rfl rfl Tryz.func132 (by kernel_rfl) rfl #[.string (a0.extract 1 a0.size), .int .u64 16] rfl (by (try simp only [List.map_toArray, List.map_cons, List.map_nil]); first | done | rfl | (simp only [List.length_drop, List.length_take]; rfl)) ?_; (with_reducible refine (antecedentref02_number.calls (a0.extract 1 a0.size) 16 t192 _ A9.out).mono ?_); rintro e w25 ⟨rfl, hb⟩; refine ⟨_, rfl, ?_⟩; have n0_ := Aside0.mk (blk_below (g := gb190) (o := .cells #[.int .i64 0, .int .i64 0, .string (⟨#[]⟩ : ByteArray)] 58 (0, 0)) (by (with_reducible repeat (first | refine blk_drewN ?_ _ | refine blk_drew ?_ | refine blk_alloc ?_ _)); refine blk_far ?_ NB190_191.out _; (with_reducible repeat (first | refine blk_drewN ?_ _ | refine blk_drew ?_ | refine blk_alloc ?_ _)); refine blk_far ?_ NB190_191.out _; (with_reducible repeat (first | refine blk_drewN ?_ _ | refine blk_drew ?_ | refine blk_alloc ?_ _)); refine blk_far ?_ NB190_191.out _; (with_reducible repeat (first | refine blk_drewN ?_ _ | refine blk_drew ?_ | refine blk_alloc ?_ _)); exact BK190.out) hb); have n1_ := Aside0.mk (blk_below (g := gb191) (o := .cells #[.int .i64 3, .int .i64 0, .string a0] 58 (0, 0)) (by (with_reducible repeat (first | refine blk_drewN ?_ _ | refine blk_drew ?_ | refine blk_alloc ?_ _)); refine blk_put (cs := #[.int .i64 3, .int .i64 0, .string (⟨#[]⟩ : ByteArray)]) ?_ 2 _ rfl; (with_reducible repeat (first | refine blk_drewN ?_ _ | refine blk_drew ?_ | refine blk_alloc ?_ _)); refine blk_put (cs := #[.int .i64 3, .int .i64 0, .string (⟨#[]⟩ : ByteArray)]) ?_ 1 _ rfl; (with_reducible repeat (first | refine blk_drewN ?_ _ | refine blk_drew ?_ | refine blk_alloc ?_ _)); refine blk_put (cs := #[.int .i64 0, .int .i64 0, .string (⟨#[]⟩ : ByteArray)]) ?_ 0 _ rfl; (with_reducible repeat (first | refine blk_drewN ?_ _ | refine blk_drew ?_ | refine blk_alloc ?_ _)); exact BK191.out) hb); have n2_ := Aside0.mk (below_step (by repeat (first | (with_reducible first | exact HB.out | apply below_alloc | apply pw_below_drewN | apply below_drew1 | refine below_set ?_ GE190.out | refine below_set ?_ GE191.out) | exact HB.out)) hb); clear BK190; clear BK191; clear HB; have BK190 := n0_; have BK191 := n1_; have HB := n2_; clear n0_ n1_ n2_; (try clear hb); (try clear hb2); (try clear hk); (try clear hi); have hcz26_0 : w25.cell? ⟨gb191, 0, none⟩ = some (.int .i64 3) := (blk_cell BK191.out 0).trans rfl; have hcz26_1 : w25.cell? ⟨gb191, 1, none⟩ = some (.int .i64 0) := (blk_cell BK191.out 1).trans rfl; have hcz26_2 : w25.cell? ⟨gb191, 2, none⟩ = some (.string a0) := (blk_cell BK191.out 2).trans rfl; have hfz26_0 := blk_frozen BK191.out 0; have hfz26_1 := blk_frozen BK191.out 1; have hfz26_2 := blk_frozen BK191.out 2) | ((with_reducible refine gate_callee (f := 113) rfl ?_); refine goesL_ (some 40) rfl rfl Tryz.func113 (by kernel_rfl) rfl #[.agg #[.int .i64 2, .int .i64 (wrap64 (t192)), .string (⟨#[]⟩ : ByteArray)]] rfl (by (try simp only [List.map_toArray, List.map_cons, List.map_nil]); first | done | rfl | (simp only [List.length_drop, List.length_take]; rfl)) ?_; (with_reducible refine (antecedentref02_Text.calls k 2 (wrap64 (t192)) (⟨#[]⟩ : ByteArray) t193 _ A10.out).mono ?_); rintro e w27 ⟨rfl, hb⟩; refine ⟨_, rfl, ?_⟩; have n0_ := Aside0.mk (blk_below (g := gb190) (o := .cells #[.int .i64 0, .int .i64 0, .string (⟨#[]⟩ : ByteArray)] 58 (0, 0)) (by (with_reducible repeat (first | refine blk_drewN ?_ _ | refine blk_drew ?_ | refine blk_alloc ?_ _)); refine blk_far ?_ NB190_191.out _; (with_reducible repeat (first | refine blk_drewN ?_ _ | refine blk_drew ?_ | refine blk_alloc ?_ _)); refine blk_far ?_ NB190_191.out _; (with_reducible repeat (first | refine blk_drewN ?_ _ | refine blk_drew ?_ | refine blk_alloc ?_ _)); refine blk_far ?_ NB190_191.out _; (with_reducible repeat (first | refine blk_drewN ?_ _ | refine blk_drew ?_ | refine blk_alloc ?_ _)); exact BK190.out) hb); have n1_ := Aside0.mk (blk_below (g := gb191) (o := .cells #[.int .i64 2, .int .i64 (wrap64 (t192)), .string (⟨#[]⟩ : ByteArray)] 58 (0, 0)) (by (with_reducible repeat (first | refine blk_drewN ?_ _ | refine blk_drew ?_ | refine blk_alloc ?_ _)); refine blk_put (cs := #[.int .i64 2, .int .i64 (wrap64 (t192)), .string a0]) ?_ 2 _ rfl; (with_reducible repeat (first | refine blk_drewN ?_ _ | refine blk_drew ?_ | refine blk_alloc ?_ _)); refine blk_put (cs := #[.int .i64 2, .int .i64 0, .string a0]) ?_ 1 _ rfl; (with_reducible repeat (first | refine blk_drewN ?_ _ | refine blk_drew ?_ | refine blk_alloc ?_ _)); refine blk_put (cs := #[.int .i64 3, .int .i64 0, .string a0]) ?_ 0 _ rfl; (with_reducible repeat (first | refine blk_drewN ?_ _ | refine blk_drew ?_ | refine blk_alloc ?_ _)); exact BK191.out) hb); have n2_ := Aside0.mk (below_step (by repeat (first | (with_reducible first | exact HB.out | apply below_alloc | apply pw_below_drewN | apply below_drew1 | refine below_set ?_ GE190.out | refine below_set ?_ GE191.out) | exact HB.out)) hb); clear BK190; clear BK191; clear HB; have BK190 := n0_; have BK191 := n1_; have HB := n2_; clear n0_ n1_ n2_; (try clear hb); (try clear hb2); (try clear hk); (try clear hi); have hcz28_0 : w27.cell? ⟨gb190, 0, none⟩ = some (.int .i64 0) := (blk_cell BK190.out 0).trans rfl; have hcz28_1 : w27.cell? ⟨gb190, 1, none⟩ = some (.int .i64 0) := (blk_cell BK190.out 1).trans rfl; have hcz28_2 : w27.cell? ⟨gb190, 2, none⟩ = some (.string (⟨#[]⟩ : ByteArray)) := (blk_cell BK190.out 2).trans rfl; have hfz28_0 := blk_frozen BK190.out 0; have hfz28_1 := blk_frozen BK190.out 1; have hfz28_2 := blk_frozen BK190.out 2))
            refine bodyPost_ret (results_ct rfl _ _ gb190 58 #[.int .i64 0, .int .i64 0, .string (⟨#[]⟩ : ByteArray)] (0, 0) _ rfl (by (with_reducible repeat (first | refine blk_drewN ?_ _ | refine blk_drew ?_ | refine blk_alloc ?_ _)); refine blk_put (cs := #[.int .i64 0, .int .i64 0, .string (⟨#[]⟩ : ByteArray)]) ?_ 2 _ rfl; (with_reducible repeat (first | refine blk_drewN ?_ _ | refine blk_drew ?_ | refine blk_alloc ?_ _)); refine blk_put (cs := #[.int .i64 0, .int .i64 0, .string (⟨#[]⟩ : ByteArray)]) ?_ 1 _ rfl; (with_reducible repeat (first | refine blk_drewN ?_ _ | refine blk_drew ?_ | refine blk_alloc ?_ _)); refine blk_put (cs := #[.int .i64 0, .int .i64 0, .string (⟨#[]⟩ : ByteArray)]) ?_ 0 _ rfl; (with_reducible repeat (first | refine blk_drewN ?_ _ | refine blk_drew ?_ | refine blk_alloc ?_ _)); exact BK190.out) Tryz.underlying58 rfl (by kernel_rfl)) rfl ?_
            exact ⟨by first | rfl | (simp [errW_none, errW_some] <;> rfl) | (simp [*, errW_none, errW_some] <;> rfl), by repeat (first | (with_reducible first | exact HB.out | apply below_alloc | apply pw_below_drewN | apply below_drew1 | refine below_set ?_ GE190.out | refine below_set ?_ GE191.out) | exact HB.out)⟩
        · rw [if_neg c8] at H
          exact absurd H (by simp)
      · rw [if_neg c7] at H
        have c7b0 : ((bt a0 0) == 35) = false := beq_eq_false_iff_ne.mpr c7
        have c7b1 : ((bt a0 0) != 35) = true := bne_iff_ne.mpr c7
        by_cases c30 : (bt a0 0) = 45
        · rw [if_pos c30] at H
          have c30b0 : ((bt a0 0) == 45) = true := beq_iff_eq.mpr c30
          have c30b1 : ((bt a0 0) != 45) = false := bne_eq_false_iff_eq.mpr c30
          clear c30
          by_cases c31 : 1 ≤ (a0.size : Int)
          · rw [if_pos c31] at H
            have c31b0 := eq_true c31
            have c31b1 : decide (1 ≤ (a0.size : Int)) = true := decide_eq_true c31
            clear c31
            replace H := Option.bind_eq_some_iff.mp H
            obtain ⟨t194, A320, H⟩ := H
            replace H : ((antecedentref02_Text.f k 1 (wrap64 (IntKind.u64.wrap (-t194))) (⟨#[]⟩ : ByteArray)).bind fun t195 => (if t195.toList = a0.toList then (some (1, wrap64 (IntKind.u64.wrap (-t194)), (⟨#[]⟩ : ByteArray), 0)) else (some (0, 0, (⟨#[]⟩ : ByteArray), 2)))) = some (r1, r2, r3, r4) := H
            have A32 := Aside0.mk A320
            clear A320
            replace H := Option.bind_eq_some_iff.mp H
            obtain ⟨t195, A330, H⟩ := H
            replace H : (if t195.toList = a0.toList then (some (1, wrap64 (IntKind.u64.wrap (-t194)), (⟨#[]⟩ : ByteArray), 0)) else (some (0, 0, (⟨#[]⟩ : ByteArray), 2))) = some (r1, r2, r3, r4) := H
            have A33 := Aside0.mk A330
            clear A330
            by_cases c34 : t195.toList = a0.toList
            · rw [if_pos c34] at H
              have c34b0 : (t195.toList == a0.toList) = true := beq_iff_eq.mpr c34
              have c34b1 : (t195.toList != a0.toList) = false := bne_eq_false_iff_eq.mpr c34
              clear c34
              simp only [Option.some.injEq, Prod.mk.injEq] at H
              obtain ⟨rfl, rfl, rfl, rfl⟩ := H
              go_enter Tryz.func101, Tryz.ntmps101
              go_wp2_with (first | ((with_reducible refine gate_dst (N := 2) rfl ?_); refine box_event ?hg (N := 2) ?hd (cs := #[.int .i64 0, .int .i64 0, .string (⟨#[]⟩ : ByteArray)]) (t := 58) ?hr ?_; (case hd => rfl); (case hg => rfl); (case hr => first | (go_simp; done) | (go_simp; rfl)); intro gb190 hg w35 hbox hb; have n0_ := Aside0.mk (below_step (by repeat (first | (with_reducible first | exact HB.out | apply below_alloc | apply pw_below_drewN | apply below_drew1) | exact HB.out)) hb); have n1_ := Aside0.mk (hbox); have n2_ := Aside0.mk ((by rw [hg]; exact (below_size (by repeat (first | (with_reducible first | exact HB.out | apply below_alloc | apply pw_below_drewN | apply below_drew1) | exact HB.out))) : w.heap.size ≤ gb190)); have n3_ := Aside0.mk ((by rw [hg]; exact (below_size (by repeat (first | (with_reducible first | exact HB.out | apply below_alloc | apply pw_below_drewN | apply below_drew1) | exact HB.out))) : w.heap.size ≤ gb190)); clear HB; have HB := n0_; have BK190 := n1_; have GW190 := n2_; have GE190 := n3_; clear n0_ n1_ n2_ n3_; clear hb hbox hg) | ((with_reducible refine gate_dst (N := 4) rfl ?_); refine box_event ?hg (N := 4) ?hd (cs := #[.int .i64 0, .int .i64 0, .string (⟨#[]⟩ : ByteArray)]) (t := 58) ?hr ?_; (case hd => rfl); (case hg => rfl); (case hr => first | (go_simp; done) | (go_simp; rfl)); intro gb191 hg w36 hbox hb; have n0_ := Aside0.mk (blk_below (g := gb190) (o := .cells #[.int .i64 0, .int .i64 0, .string (⟨#[]⟩ : ByteArray)] 58 (0, 0)) (by (with_reducible repeat (first | refine blk_drewN ?_ _ | refine blk_drew ?_ | refine blk_alloc ?_ _)); exact BK190.out) hb); have n1_ := Aside0.mk (below_step (by repeat (first | (with_reducible first | exact HB.out | apply below_alloc | apply pw_below_drewN | apply below_drew1 | refine below_set ?_ GE190.out) | exact HB.out)) hb); have n2_ := Aside0.mk (hbox); have n3_ := Aside0.mk ((by rw [hg]; exact (below_size (by repeat (first | (with_reducible first | exact HB.out | apply below_alloc | apply pw_below_drewN | apply below_drew1 | refine below_set ?_ GE190.out) | exact HB.out))) : w.heap.size ≤ gb191)); have n4_ := Aside0.mk ((by rw [hg]; exact (below_size (by repeat (first | (with_reducible first | exact HB.out | apply below_alloc | apply pw_below_drewN | apply below_drew1 | refine below_set ?_ GE190.out) | exact HB.out))) : w.heap.size ≤ gb191)); have n5_ := Aside0.mk ((by rw [hg]; exact Nat.ne_of_lt (blk_lt (g := gb190) (o := .cells #[.int .i64 0, .int .i64 0, .string (⟨#[]⟩ : ByteArray)] 58 (0, 0)) (by (with_reducible repeat (first | refine blk_drewN ?_ _ | refine blk_drew ?_ | refine blk_alloc ?_ _)); exact BK190.out)) : gb190 ≠ gb191)); have n6_ := Aside0.mk ((by rw [hg]; exact Nat.ne_of_gt (blk_lt (g := gb190) (o := .cells #[.int .i64 0, .int .i64 0, .string (⟨#[]⟩ : ByteArray)] 58 (0, 0)) (by (with_reducible repeat (first | refine blk_drewN ?_ _ | refine blk_drew ?_ | refine blk_alloc ?_ _)); exact BK190.out)) : gb191 ≠ gb190)); clear BK190; clear HB; have BK190 := n0_; have HB := n1_; have BK191 := n2_; have GW191 := n3_; have GE191 := n4_; have NB190_191 := n5_; have NB191_190 := n6_; clear n0_ n1_ n2_ n3_ n4_ n5_ n6_; clear hb hbox hg; have hnb37 := NB191_190.out; have hnc37 := NB190_191.out; have hcz38_0 : w36.cell? ⟨gb191, 0, none⟩ = some (.int .i64 0) := (blk_cell BK191.out 0).trans rfl; have hcz38_1 : w36.cell? ⟨gb191, 1, none⟩ = some (.int .i64 0) := (blk_cell BK191.out 1).trans rfl; have hcz38_2 : w36.cell? ⟨gb191, 2, none⟩ = some (.string (⟨#[]⟩ : ByteArray)) := (blk_cell BK191.out 2).trans rfl; have hfz38_0 := blk_frozen BK191.out 0; have hfz38_1 := blk_frozen BK191.out 1; have hfz38_2 := blk_frozen BK191.out 2; have p6 : 0 ≤ (0 : Int) := (by omega); have q6 : 0 < a0.size := (by have : (0 : Int) < (a0.size : Int) := of_decide_eq_true (by first | (with_reducible assumption) | assumption); omega); have hx6 : ∀ h : 0 < a0.size, ((a0[0]'h).toNat : Int) = bt a0 0 := bt_at a0 0; clear p6; have qi6 : (0 < (a0.size : Int)) = True := eq_true (of_decide_eq_true (by first | (with_reducible assumption) | assumption)); replace q6 := eq_true q6; have p29 : 0 ≤ (0 : Int) := (by omega); have q29 : 0 < a0.size := (by have : (0 : Int) < (a0.size : Int) := of_decide_eq_true (by first | (with_reducible assumption) | assumption); omega); have hx29 : ∀ h : 0 < a0.size, ((a0[0]'h).toNat : Int) = bt a0 0 := bt_at a0 0; clear p29; have qi29 : (0 < (a0.size : Int)) = True := eq_true (of_decide_eq_true (by first | (with_reducible assumption) | assumption)); replace q29 := eq_true q29) | ((with_reducible refine gate_callee (f := 132) rfl ?_); refine goesL_ (some 23) rfl rfl Tryz.func132 (by kernel_rfl) rfl #[.string (a0.extract 1 a0.size), .int .u64 10] rfl (by (try simp only [List.map_toArray, List.map_cons, List.map_nil]); first | done | rfl | (simp only [List.length_drop, List.length_take]; rfl)) ?_; (with_reducible refine (antecedentref02_number.calls (a0.extract 1 a0.size) 10 t194 _ A32.out).mono ?_); rintro e w39 ⟨rfl, hb⟩; refine ⟨_, rfl, ?_⟩; have n0_ := Aside0.mk (blk_below (g := gb190) (o := .cells #[.int .i64 0, .int .i64 0, .string (⟨#[]⟩ : ByteArray)] 58 (0, 0)) (by (with_reducible repeat (first | refine blk_drewN ?_ _ | refine blk_drew ?_ | refine blk_alloc ?_ _)); refine blk_far ?_ NB190_191.out _; (with_reducible repeat (first | refine blk_drewN ?_ _ | refine blk_drew ?_ | refine blk_alloc ?_ _)); refine blk_far ?_ NB190_191.out _; (with_reducible repeat (first | refine blk_drewN ?_ _ | refine blk_drew ?_ | refine blk_alloc ?_ _)); refine blk_far ?_ NB190_191.out _; (with_reducible repeat (first | refine blk_drewN ?_ _ | refine blk_drew ?_ | refine blk_alloc ?_ _)); exact BK190.out) hb); have n1_ := Aside0.mk (blk_below (g := gb191) (o := .cells #[.int .i64 3, .int .i64 0, .string a0] 58 (0, 0)) (by (with_reducible repeat (first | refine blk_drewN ?_ _ | refine blk_drew ?_ | refine blk_alloc ?_ _)); refine blk_put (cs := #[.int .i64 3, .int .i64 0, .string (⟨#[]⟩ : ByteArray)]) ?_ 2 _ rfl; (with_reducible repeat (first | refine blk_drewN ?_ _ | refine blk_drew ?_ | refine blk_alloc ?_ _)); refine blk_put (cs := #[.int .i64 3, .int .i64 0, .string (⟨#[]⟩ : ByteArray)]) ?_ 1 _ rfl; (with_reducible repeat (first | refine blk_drewN ?_ _ | refine blk_drew ?_ | refine blk_alloc ?_ _)); refine blk_put (cs := #[.int .i64 0, .int .i64 0, .string (⟨#[]⟩ : ByteArray)]) ?_ 0 _ rfl; (with_reducible repeat (first | refine blk_drewN ?_ _ | refine blk_drew ?_ | refine blk_alloc ?_ _)); exact BK191.out) hb); have n2_ := Aside0.mk (below_step (by repeat (first | (with_reducible first | exact HB.out | apply below_alloc | apply pw_below_drewN | apply below_drew1 | refine below_set ?_ GE190.out | refine below_set ?_ GE191.out) | exact HB.out)) hb); clear BK190; clear BK191; clear HB; have BK190 := n0_; have BK191 := n1_; have HB := n2_; clear n0_ n1_ n2_; (try clear hb); (try clear hb2); (try clear hk); (try clear hi); have hcz40_0 : w39.cell? ⟨gb191, 0, none⟩ = some (.int .i64 3) := (blk_cell BK191.out 0).trans rfl; have hcz40_1 : w39.cell? ⟨gb191, 1, none⟩ = some (.int .i64 0) := (blk_cell BK191.out 1).trans rfl; have hcz40_2 : w39.cell? ⟨gb191, 2, none⟩ = some (.string a0) := (blk_cell BK191.out 2).trans rfl; have hfz40_0 := blk_frozen BK191.out 0; have hfz40_1 := blk_frozen BK191.out 1; have hfz40_2 := blk_frozen BK191.out 2) | ((with_reducible refine gate_callee (f := 113) rfl ?_); refine goesL_ (some 40) rfl rfl Tryz.func113 (by kernel_rfl) rfl #[.agg #[.int .i64 1, .int .i64 (wrap64 (IntKind.u64.wrap (-t194))), .string (⟨#[]⟩ : ByteArray)]] rfl (by (try simp only [List.map_toArray, List.map_cons, List.map_nil]); first | done | rfl | (simp only [List.length_drop, List.length_take]; rfl)) ?_; (with_reducible refine (antecedentref02_Text.calls k 1 (wrap64 (IntKind.u64.wrap (-t194))) (⟨#[]⟩ : ByteArray) t195 _ A33.out).mono ?_); rintro e w41 ⟨rfl, hb⟩; refine ⟨_, rfl, ?_⟩; have n0_ := Aside0.mk (blk_below (g := gb190) (o := .cells #[.int .i64 0, .int .i64 0, .string (⟨#[]⟩ : ByteArray)] 58 (0, 0)) (by (with_reducible repeat (first | refine blk_drewN ?_ _ | refine blk_drew ?_ | refine blk_alloc ?_ _)); refine blk_far ?_ NB190_191.out _; (with_reducible repeat (first | refine blk_drewN ?_ _ | refine blk_drew ?_ | refine blk_alloc ?_ _)); refine blk_far ?_ NB190_191.out _; (with_reducible repeat (first | refine blk_drewN ?_ _ | refine blk_drew ?_ | refine blk_alloc ?_ _)); refine blk_far ?_ NB190_191.out _; (with_reducible repeat (first | refine blk_drewN ?_ _ | refine blk_drew ?_ | refine blk_alloc ?_ _)); exact BK190.out) hb); have n1_ := Aside0.mk (blk_below (g := gb191) (o := .cells #[.int .i64 1, .int .i64 (wrap64 (IntKind.u64.wrap (-t194))), .string (⟨#[]⟩ : ByteArray)] 58 (0, 0)) (by (with_reducible repeat (first | refine blk_drewN ?_ _ | refine blk_drew ?_ | refine blk_alloc ?_ _)); refine blk_put (cs := #[.int .i64 1, .int .i64 (wrap64 (IntKind.u64.wrap (-t194))), .string a0]) ?_ 2 _ rfl; (with_reducible repeat (first | refine blk_drewN ?_ _ | refine blk_drew ?_ | refine blk_alloc ?_ _)); refine blk_put (cs := #[.int .i64 1, .int .i64 0, .string a0]) ?_ 1 _ rfl; (with_reducible repeat (first | refine blk_drewN ?_ _ | refine blk_drew ?_ | refine blk_alloc ?_ _)); refine blk_put (cs := #[.int .i64 3, .int .i64 0, .string a0]) ?_ 0 _ rfl; (with_reducible repeat (first | refine blk_drewN ?_ _ | refine blk_drew ?_ | refine blk_alloc ?_ _)); exact BK191.out) hb); have n2_ := Aside0.mk (below_step (by repeat (first | (with_reducible first | exact HB.out | apply below_alloc | apply pw_below_drewN | apply below_drew1 | refine below_set ?_ GE190.out | refine below_set ?_ GE191.out) | exact HB.out)) hb); clear BK190; clear BK191; clear HB; have BK190 := n0_; have BK191 := n1_; have HB := n2_; clear n0_ n1_ n2_; (try clear hb); (try clear hb2); (try clear hk); (try clear hi); have hcz42_0 : w41.cell? ⟨gb191, 0, none⟩ = some (.int .i64 1) := (blk_cell BK191.out 0).trans rfl; have hcz42_1 : w41.cell? ⟨gb191, 1, none⟩ = some (.int .i64 (wrap64 (IntKind.u64.wrap (-t194)))) := (blk_cell BK191.out 1).trans rfl; have hcz42_2 : w41.cell? ⟨gb191, 2, none⟩ = some (.string (⟨#[]⟩ : ByteArray)) := (blk_cell BK191.out 2).trans rfl; have hfz42_0 := blk_frozen BK191.out 0; have hfz42_1 := blk_frozen BK191.out 1; have hfz42_2 := blk_frozen BK191.out 2; have hcz43_0 : w41.cell? ⟨gb190, 0, none⟩ = some (.int .i64 0) := (blk_cell BK190.out 0).trans rfl; have hcz43_1 : w41.cell? ⟨gb190, 1, none⟩ = some (.int .i64 0) := (blk_cell BK190.out 1).trans rfl; have hcz43_2 : w41.cell? ⟨gb190, 2, none⟩ = some (.string (⟨#[]⟩ : ByteArray)) := (blk_cell BK190.out 2).trans rfl; have hfz43_0 := blk_frozen BK190.out 0; have hfz43_1 := blk_frozen BK190.out 1; have hfz43_2 := blk_frozen BK190.out 2))
              refine bodyPost_ret (results_ct rfl _ _ gb190 58 #[.int .i64 1, .int .i64 (wrap64 (IntKind.u64.wrap (-t194))), .string (⟨#[]⟩ : ByteArray)] (0, 0) _ rfl (by (with_reducible repeat (first | refine blk_drewN ?_ _ | refine blk_drew ?_ | refine blk_alloc ?_ _)); refine blk_put (cs := #[.int .i64 1, .int .i64 (wrap64 (IntKind.u64.wrap (-t194))), .string (⟨#[]⟩ : ByteArray)]) ?_ 2 _ rfl; (with_reducible repeat (first | refine blk_drewN ?_ _ | refine blk_drew ?_ | refine blk_alloc ?_ _)); refine blk_put (cs := #[.int .i64 1, .int .i64 0, .string (⟨#[]⟩ : ByteArray)]) ?_ 1 _ rfl; (with_reducible repeat (first | refine blk_drewN ?_ _ | refine blk_drew ?_ | refine blk_alloc ?_ _)); refine blk_put (cs := #[.int .i64 0, .int .i64 0, .string (⟨#[]⟩ : ByteArray)]) ?_ 0 _ rfl; (with_reducible repeat (first | refine blk_drewN ?_ _ | refine blk_drew ?_ | refine blk_alloc ?_ _)); exact BK190.out) Tryz.underlying58 rfl (by kernel_rfl)) rfl ?_
              exact ⟨by first | rfl | (simp [errW_none, errW_some] <;> rfl) | (simp [*, errW_none, errW_some] <;> rfl), by repeat (first | (with_reducible first | exact HB.out | apply below_alloc | apply pw_below_drewN | apply below_drew1 | refine below_set ?_ GE190.out | refine below_set ?_ GE191.out) | exact HB.out)⟩
            · rw [if_neg c34] at H
              have c34b0 : (t195.toList == a0.toList) = false := beq_eq_false_iff_ne.mpr c34
              have c34b1 : (t195.toList != a0.toList) = true := bne_iff_ne.mpr c34
              simp only [Option.some.injEq, Prod.mk.injEq] at H
              obtain ⟨rfl, rfl, rfl, rfl⟩ := H
              go_enter Tryz.func101, Tryz.ntmps101
              go_wp2_with (first | ((with_reducible refine gate_dst (N := 2) rfl ?_); refine box_event ?hg (N := 2) ?hd (cs := #[.int .i64 0, .int .i64 0, .string (⟨#[]⟩ : ByteArray)]) (t := 58) ?hr ?_; (case hd => rfl); (case hg => rfl); (case hr => first | (go_simp; done) | (go_simp; rfl)); intro gb190 hg w44 hbox hb; have n0_ := Aside0.mk (below_step (by repeat (first | (with_reducible first | exact HB.out | apply below_alloc | apply pw_below_drewN | apply below_drew1) | exact HB.out)) hb); have n1_ := Aside0.mk (hbox); have n2_ := Aside0.mk ((by rw [hg]; exact (below_size (by repeat (first | (with_reducible first | exact HB.out | apply below_alloc | apply pw_below_drewN | apply below_drew1) | exact HB.out))) : w.heap.size ≤ gb190)); have n3_ := Aside0.mk ((by rw [hg]; exact (below_size (by repeat (first | (with_reducible first | exact HB.out | apply below_alloc | apply pw_below_drewN | apply below_drew1) | exact HB.out))) : w.heap.size ≤ gb190)); clear HB; have HB := n0_; have BK190 := n1_; have GW190 := n2_; have GE190 := n3_; clear n0_ n1_ n2_ n3_; clear hb hbox hg) | ((with_reducible refine gate_dst (N := 4) rfl ?_); refine box_event ?hg (N := 4) ?hd (cs := #[.int .i64 0, .int .i64 0, .string (⟨#[]⟩ : ByteArray)]) (t := 58) ?hr ?_; (case hd => rfl); (case hg => rfl); (case hr => first | (go_simp; done) | (go_simp; rfl)); intro gb191 hg w45 hbox hb; have n0_ := Aside0.mk (blk_below (g := gb190) (o := .cells #[.int .i64 0, .int .i64 0, .string (⟨#[]⟩ : ByteArray)] 58 (0, 0)) (by (with_reducible repeat (first | refine blk_drewN ?_ _ | refine blk_drew ?_ | refine blk_alloc ?_ _)); exact BK190.out) hb); have n1_ := Aside0.mk (below_step (by repeat (first | (with_reducible first | exact HB.out | apply below_alloc | apply pw_below_drewN | apply below_drew1 | refine below_set ?_ GE190.out) | exact HB.out)) hb); have n2_ := Aside0.mk (hbox); have n3_ := Aside0.mk ((by rw [hg]; exact (below_size (by repeat (first | (with_reducible first | exact HB.out | apply below_alloc | apply pw_below_drewN | apply below_drew1 | refine below_set ?_ GE190.out) | exact HB.out))) : w.heap.size ≤ gb191)); have n4_ := Aside0.mk ((by rw [hg]; exact (below_size (by repeat (first | (with_reducible first | exact HB.out | apply below_alloc | apply pw_below_drewN | apply below_drew1 | refine below_set ?_ GE190.out) | exact HB.out))) : w.heap.size ≤ gb191)); have n5_ := Aside0.mk ((by rw [hg]; exact Nat.ne_of_lt (blk_lt (g := gb190) (o := .cells #[.int .i64 0, .int .i64 0, .string (⟨#[]⟩ : ByteArray)] 58 (0, 0)) (by (with_reducible repeat (first | refine blk_drewN ?_ _ | refine blk_drew ?_ | refine blk_alloc ?_ _)); exact BK190.out)) : gb190 ≠ gb191)); have n6_ := Aside0.mk ((by rw [hg]; exact Nat.ne_of_gt (blk_lt (g := gb190) (o := .cells #[.int .i64 0, .int .i64 0, .string (⟨#[]⟩ : ByteArray)] 58 (0, 0)) (by (with_reducible repeat (first | refine blk_drewN ?_ _ | refine blk_drew ?_ | refine blk_alloc ?_ _)); exact BK190.out)) : gb191 ≠ gb190)); clear BK190; clear HB; have BK190 := n0_; have HB := n1_; have BK191 := n2_; have GW191 := n3_; have GE191 := n4_; have NB190_191 := n5_; have NB191_190 := n6_; clear n0_ n1_ n2_ n3_ n4_ n5_ n6_; clear hb hbox hg; have hnb46 := NB191_190.out; have hnc46 := NB190_191.out; have hcz47_0 : w45.cell? ⟨gb191, 0, none⟩ = some (.int .i64 0) := (blk_cell BK191.out 0).trans rfl; have hcz47_1 : w45.cell? ⟨gb191, 1, none⟩ = some (.int .i64 0) := (blk_cell BK191.out 1).trans rfl; have hcz47_2 : w45.cell? ⟨gb191, 2, none⟩ = some (.string (⟨#[]⟩ : ByteArray)) := (blk_cell BK191.out 2).trans rfl; have hfz47_0 := blk_frozen BK191.out 0; have hfz47_1 := blk_frozen BK191.out 1; have hfz47_2 := blk_frozen BK191.out 2; have p6 : 0 ≤ (0 : Int) := (by omega); have q6 : 0 < a0.size := (by have : (0 : Int) < (a0.size : Int) := of_decide_eq_true (by first | (with_reducible assumption) | assumption); omega); have hx6 : ∀ h : 0 < a0.size, ((a0[0]'h).toNat : Int) = bt a0 0 := bt_at a0 0; clear p6; have qi6 : (0 < (a0.size : Int)) = True := eq_true (of_decide_eq_true (by first | (with_reducible assumption) | assumption)); replace q6 := eq_true q6; have p29 : 0 ≤ (0 : Int) := (by omega); have q29 : 0 < a0.size := (by have : (0 : Int) < (a0.size : Int) := of_decide_eq_true (by first | (with_reducible assumption) | assumption); omega); have hx29 : ∀ h : 0 < a0.size, ((a0[0]'h).toNat : Int) = bt a0 0 := bt_at a0 0; clear p29; have qi29 : (0 < (a0.size : Int)) = True := eq_true (of_decide_eq_true (by first | (with_reducible assumption) | assumption)); replace q29 := eq_true q29) | ((with_reducible refine gate_callee (f := 132) rfl ?_); refine goesL_ (some 23) rfl rfl Tryz.func132 (by kernel_rfl) rfl #[.string (a0.extract 1 a0.size), .int .u64 10] rfl (by (try simp only [List.map_toArray, List.map_cons, List.map_nil]); first | done | rfl | (simp only [List.length_drop, List.length_take]; rfl)) ?_; (with_reducible refine (antecedentref02_number.calls (a0.extract 1 a0.size) 10 t194 _ A32.out).mono ?_); rintro e w48 ⟨rfl, hb⟩; refine ⟨_, rfl, ?_⟩; have n0_ := Aside0.mk (blk_below (g := gb190) (o := .cells #[.int .i64 0, .int .i64 0, .string (⟨#[]⟩ : ByteArray)] 58 (0, 0)) (by (with_reducible repeat (first | refine blk_drewN ?_ _ | refine blk_drew ?_ | refine blk_alloc ?_ _)); refine blk_far ?_ NB190_191.out _; (with_reducible repeat (first | refine blk_drewN ?_ _ | refine blk_drew ?_ | refine blk_alloc ?_ _)); refine blk_far ?_ NB190_191.out _; (with_reducible repeat (first | refine blk_drewN ?_ _ | refine blk_drew ?_ | refine blk_alloc ?_ _)); refine blk_far ?_ NB190_191.out _; (with_reducible repeat (first | refine blk_drewN ?_ _ | refine blk_drew ?_ | refine blk_alloc ?_ _)); exact BK190.out) hb); have n1_ := Aside0.mk (blk_below (g := gb191) (o := .cells #[.int .i64 3, .int .i64 0, .string a0] 58 (0, 0)) (by (with_reducible repeat (first | refine blk_drewN ?_ _ | refine blk_drew ?_ | refine blk_alloc ?_ _)); refine blk_put (cs := #[.int .i64 3, .int .i64 0, .string (⟨#[]⟩ : ByteArray)]) ?_ 2 _ rfl; (with_reducible repeat (first | refine blk_drewN ?_ _ | refine blk_drew ?_ | refine blk_alloc ?_ _)); refine blk_put (cs := #[.int .i64 3, .int .i64 0, .string (⟨#[]⟩ : ByteArray)]) ?_ 1 _ rfl; (with_reducible repeat (first | refine blk_drewN ?_ _ | refine blk_drew ?_ | refine blk_alloc ?_ _)); refine blk_put (cs := #[.int .i64 0, .int .i64 0, .string (⟨#[]⟩ : ByteArray)]) ?_ 0 _ rfl; (with_reducible repeat (first | refine blk_drewN ?_ _ | refine blk_drew ?_ | refine blk_alloc ?_ _)); exact BK191.out) hb); have n2_ := Aside0.mk (below_step (by repeat (first | (with_reducible first | exact HB.out | apply below_alloc | apply pw_below_drewN | apply below_drew1 | refine below_set ?_ GE190.out | refine below_set ?_ GE191.out) | exact HB.out)) hb); clear BK190; clear BK191; clear HB; have BK190 := n0_; have BK191 := n1_; have HB := n2_; clear n0_ n1_ n2_; (try clear hb); (try clear hb2); (try clear hk); (try clear hi); have hcz49_0 : w48.cell? ⟨gb191, 0, none⟩ = some (.int .i64 3) := (blk_cell BK191.out 0).trans rfl; have hcz49_1 : w48.cell? ⟨gb191, 1, none⟩ = some (.int .i64 0) := (blk_cell BK191.out 1).trans rfl; have hcz49_2 : w48.cell? ⟨gb191, 2, none⟩ = some (.string a0) := (blk_cell BK191.out 2).trans rfl; have hfz49_0 := blk_frozen BK191.out 0; have hfz49_1 := blk_frozen BK191.out 1; have hfz49_2 := blk_frozen BK191.out 2) | ((with_reducible refine gate_callee (f := 113) rfl ?_); refine goesL_ (some 40) rfl rfl Tryz.func113 (by kernel_rfl) rfl #[.agg #[.int .i64 1, .int .i64 (wrap64 (IntKind.u64.wrap (-t194))), .string (⟨#[]⟩ : ByteArray)]] rfl (by (try simp only [List.map_toArray, List.map_cons, List.map_nil]); first | done | rfl | (simp only [List.length_drop, List.length_take]; rfl)) ?_; (with_reducible refine (antecedentref02_Text.calls k 1 (wrap64 (IntKind.u64.wrap (-t194))) (⟨#[]⟩ : ByteArray) t195 _ A33.out).mono ?_); rintro e w50 ⟨rfl, hb⟩; refine ⟨_, rfl, ?_⟩; have n0_ := Aside0.mk (blk_below (g := gb190) (o := .cells #[.int .i64 0, .int .i64 0, .string (⟨#[]⟩ : ByteArray)] 58 (0, 0)) (by (with_reducible repeat (first | refine blk_drewN ?_ _ | refine blk_drew ?_ | refine blk_alloc ?_ _)); refine blk_far ?_ NB190_191.out _; (with_reducible repeat (first | refine blk_drewN ?_ _ | refine blk_drew ?_ | refine blk_alloc ?_ _)); refine blk_far ?_ NB190_191.out _; (with_reducible repeat (first | refine blk_drewN ?_ _ | refine blk_drew ?_ | refine blk_alloc ?_ _)); refine blk_far ?_ NB190_191.out _; (with_reducible repeat (first | refine blk_drewN ?_ _ | refine blk_drew ?_ | refine blk_alloc ?_ _)); exact BK190.out) hb); have n1_ := Aside0.mk (blk_below (g := gb191) (o := .cells #[.int .i64 1, .int .i64 (wrap64 (IntKind.u64.wrap (-t194))), .string (⟨#[]⟩ : ByteArray)] 58 (0, 0)) (by (with_reducible repeat (first | refine blk_drewN ?_ _ | refine blk_drew ?_ | refine blk_alloc ?_ _)); refine blk_put (cs := #[.int .i64 1, .int .i64 (wrap64 (IntKind.u64.wrap (-t194))), .string a0]) ?_ 2 _ rfl; (with_reducible repeat (first | refine blk_drewN ?_ _ | refine blk_drew ?_ | refine blk_alloc ?_ _)); refine blk_put (cs := #[.int .i64 1, .int .i64 0, .string a0]) ?_ 1 _ rfl; (with_reducible repeat (first | refine blk_drewN ?_ _ | refine blk_drew ?_ | refine blk_alloc ?_ _)); refine blk_put (cs := #[.int .i64 3, .int .i64 0, .string a0]) ?_ 0 _ rfl; (with_reducible repeat (first | refine blk_drewN ?_ _ | refine blk_drew ?_ | refine blk_alloc ?_ _)); exact BK191.out) hb); have n2_ := Aside0.mk (below_step (by repeat (first | (with_reducible first | exact HB.out | apply below_alloc | apply pw_below_drewN | apply below_drew1 | refine below_set ?_ GE190.out | refine below_set ?_ GE191.out) | exact HB.out)) hb); clear BK190; clear BK191; clear HB; have BK190 := n0_; have BK191 := n1_; have HB := n2_; clear n0_ n1_ n2_; (try clear hb); (try clear hb2); (try clear hk); (try clear hi); have hcz51_0 : w50.cell? ⟨gb190, 0, none⟩ = some (.int .i64 0) := (blk_cell BK190.out 0).trans rfl; have hcz51_1 : w50.cell? ⟨gb190, 1, none⟩ = some (.int .i64 0) := (blk_cell BK190.out 1).trans rfl; have hcz51_2 : w50.cell? ⟨gb190, 2, none⟩ = some (.string (⟨#[]⟩ : ByteArray)) := (blk_cell BK190.out 2).trans rfl; have hfz51_0 := blk_frozen BK190.out 0; have hfz51_1 := blk_frozen BK190.out 1; have hfz51_2 := blk_frozen BK190.out 2))
              refine bodyPost_ret (results_ct rfl _ _ gb190 58 #[.int .i64 0, .int .i64 0, .string (⟨#[]⟩ : ByteArray)] (0, 0) _ rfl (by (with_reducible repeat (first | refine blk_drewN ?_ _ | refine blk_drew ?_ | refine blk_alloc ?_ _)); refine blk_put (cs := #[.int .i64 0, .int .i64 0, .string (⟨#[]⟩ : ByteArray)]) ?_ 2 _ rfl; (with_reducible repeat (first | refine blk_drewN ?_ _ | refine blk_drew ?_ | refine blk_alloc ?_ _)); refine blk_put (cs := #[.int .i64 0, .int .i64 0, .string (⟨#[]⟩ : ByteArray)]) ?_ 1 _ rfl; (with_reducible repeat (first | refine blk_drewN ?_ _ | refine blk_drew ?_ | refine blk_alloc ?_ _)); refine blk_put (cs := #[.int .i64 0, .int .i64 0, .string (⟨#[]⟩ : ByteArray)]) ?_ 0 _ rfl; (with_reducible repeat (first | refine blk_drewN ?_ _ | refine blk_drew ?_ | refine blk_alloc ?_ _)); exact BK190.out) Tryz.underlying58 rfl (by kernel_rfl)) rfl ?_
              exact ⟨by first | rfl | (simp [errW_none, errW_some] <;> rfl) | (simp [*, errW_none, errW_some] <;> rfl), by repeat (first | (with_reducible first | exact HB.out | apply below_alloc | apply pw_below_drewN | apply below_drew1 | refine below_set ?_ GE190.out | refine below_set ?_ GE191.out) | exact HB.out)⟩
          · rw [if_neg c31] at H
            exact absurd H (by simp)
        · rw [if_neg c30] at H
          have c30b0 : ((bt a0 0) == 45) = false := beq_eq_false_iff_ne.mpr c30
          have c30b1 : ((bt a0 0) != 45) = true := bne_iff_ne.mpr c30
          have HC52 := Aside0.mk H
          clear H
          go_enter Tryz.func101, Tryz.ntmps101
          go_upto_region 8 with (first | ((with_reducible refine gate_dst (N := 2) rfl ?_); refine box_event ?hg (N := 2) ?hd (cs := #[.int .i64 0, .int .i64 0, .string (⟨#[]⟩ : ByteArray)]) (t := 58) ?hr ?_; (case hd => rfl); (case hg => rfl); (case hr => first | (go_simp; done) | (go_simp; rfl)); intro gb190 hg w53 hbox hb; have n0_ := Aside0.mk (below_step (by repeat (first | (with_reducible first | exact HB.out | apply below_alloc | apply pw_below_drewN | apply below_drew1) | exact HB.out)) hb); have n1_ := Aside0.mk (hbox); have n2_ := Aside0.mk ((by rw [hg]; exact (below_size (by repeat (first | (with_reducible first | exact HB.out | apply below_alloc | apply pw_below_drewN | apply below_drew1) | exact HB.out))) : w.heap.size ≤ gb190)); have n3_ := Aside0.mk ((by rw [hg]; exact (below_size (by repeat (first | (with_reducible first | exact HB.out | apply below_alloc | apply pw_below_drewN | apply below_drew1) | exact HB.out))) : w.heap.size ≤ gb190)); clear HB; have HB := n0_; have BK190 := n1_; have GW190 := n2_; have GE190 := n3_; clear n0_ n1_ n2_ n3_; clear hb hbox hg) | ((with_reducible refine gate_dst (N := 4) rfl ?_); refine box_event ?hg (N := 4) ?hd (cs := #[.int .i64 0, .int .i64 0, .string (⟨#[]⟩ : ByteArray)]) (t := 58) ?hr ?_; (case hd => rfl); (case hg => rfl); (case hr => first | (go_simp; done) | (go_simp; rfl)); intro gb191 hg w54 hbox hb; have n0_ := Aside0.mk (blk_below (g := gb190) (o := .cells #[.int .i64 0, .int .i64 0, .string (⟨#[]⟩ : ByteArray)] 58 (0, 0)) (by (with_reducible repeat (first | refine blk_drewN ?_ _ | refine blk_drew ?_ | refine blk_alloc ?_ _)); exact BK190.out) hb); have n1_ := Aside0.mk (below_step (by repeat (first | (with_reducible first | exact HB.out | apply below_alloc | apply pw_below_drewN | apply below_drew1 | refine below_set ?_ GE190.out) | exact HB.out)) hb); have n2_ := Aside0.mk (hbox); have n3_ := Aside0.mk ((by rw [hg]; exact (below_size (by repeat (first | (with_reducible first | exact HB.out | apply below_alloc | apply pw_below_drewN | apply below_drew1 | refine below_set ?_ GE190.out) | exact HB.out))) : w.heap.size ≤ gb191)); have n4_ := Aside0.mk ((by rw [hg]; exact (below_size (by repeat (first | (with_reducible first | exact HB.out | apply below_alloc | apply pw_below_drewN | apply below_drew1 | refine below_set ?_ GE190.out) | exact HB.out))) : w.heap.size ≤ gb191)); have n5_ := Aside0.mk ((by rw [hg]; exact Nat.ne_of_lt (blk_lt (g := gb190) (o := .cells #[.int .i64 0, .int .i64 0, .string (⟨#[]⟩ : ByteArray)] 58 (0, 0)) (by (with_reducible repeat (first | refine blk_drewN ?_ _ | refine blk_drew ?_ | refine blk_alloc ?_ _)); exact BK190.out)) : gb190 ≠ gb191)); have n6_ := Aside0.mk ((by rw [hg]; exact Nat.ne_of_gt (blk_lt (g := gb190) (o := .cells #[.int .i64 0, .int .i64 0, .string (⟨#[]⟩ : ByteArray)] 58 (0, 0)) (by (with_reducible repeat (first | refine blk_drewN ?_ _ | refine blk_drew ?_ | refine blk_alloc ?_ _)); exact BK190.out)) : gb191 ≠ gb190)); clear BK190; clear HB; have BK190 := n0_; have HB := n1_; have BK191 := n2_; have GW191 := n3_; have GE191 := n4_; have NB190_191 := n5_; have NB191_190 := n6_; clear n0_ n1_ n2_ n3_ n4_ n5_ n6_; clear hb hbox hg; have hnb55 := NB191_190.out; have hnc55 := NB190_191.out; have hcz56_0 : w54.cell? ⟨gb191, 0, none⟩ = some (.int .i64 0) := (blk_cell BK191.out 0).trans rfl; have hcz56_1 : w54.cell? ⟨gb191, 1, none⟩ = some (.int .i64 0) := (blk_cell BK191.out 1).trans rfl; have hcz56_2 : w54.cell? ⟨gb191, 2, none⟩ = some (.string (⟨#[]⟩ : ByteArray)) := (blk_cell BK191.out 2).trans rfl; have hfz56_0 := blk_frozen BK191.out 0; have hfz56_1 := blk_frozen BK191.out 1; have hfz56_2 := blk_frozen BK191.out 2; have p6 : 0 ≤ (0 : Int) := (by omega); have q6 : 0 < a0.size := (by have : (0 : Int) < (a0.size : Int) := of_decide_eq_true (by first | (with_reducible assumption) | assumption); omega); have hx6 : ∀ h : 0 < a0.size, ((a0[0]'h).toNat : Int) = bt a0 0 := bt_at a0 0; clear p6; have qi6 : (0 < (a0.size : Int)) = True := eq_true (of_decide_eq_true (by first | (with_reducible assumption) | assumption)); replace q6 := eq_true q6; have p29 : 0 ≤ (0 : Int) := (by omega); have q29 : 0 < a0.size := (by have : (0 : Int) < (a0.size : Int) := of_decide_eq_true (by first | (with_reducible assumption) | assumption); omega); have hx29 : ∀ h : 0 < a0.size, ((a0[0]'h).toNat : Int) = bt a0 0 := bt_at a0 0; clear p29; have qi29 : (0 < (a0.size : Int)) = True := eq_true (of_decide_eq_true (by first | (with_reducible assumption) | assumption)); replace q29 := eq_true q29))
          (try simp only [Act.put, List.setIfInBounds_toArray, List.set_cons_zero, List.set_cons_succ])
          go_cut [34] (fun v34 wc => ∃ (kq : Nat) (x34_51 : Bool), v34 = .bool x34_51 ∧ Aside0 (antecedentref02_Read.j0 kq a0 x34_51 3 0 a0 = some (r1, r2, r3, r4)) ∧ Aside0 (kq ≤ k) ∧ Aside0 (wc.heap[gb190]? = some (.cells #[.int .i64 0, .int .i64 0, .string (⟨#[]⟩ : ByteArray)] 58 (0, 0))) ∧ Aside0 (wc.heap[gb191]? = some (.cells #[.int .i64 3, .int .i64 0, .string a0] 58 (0, 0))) ∧ Aside0 (Below w.heap.size w wc))
          case first =>
            have H := HC52.out
            clear HC52
            by_cases c58 : (bt a0 0) ≥ 48
            · rw [if_pos c58] at H
              have c58b0 : decide (48 ≤ (bt a0 0)) = true := decide_eq_true c58
              clear c58
              (first | rw [c58b0] | (simp only [i64_w, i32_w]; rw [c58b0]) | skip)
              have H' := Aside0.mk H
              clear H
              have p57 : 0 ≤ (0 : Int) := (by omega)
              have q57 : 0 < a0.size := (by have : (0 : Int) < (a0.size : Int) := of_decide_eq_true (by first | (with_reducible assumption) | assumption); omega)
              have hx57 : ∀ h : 0 < a0.size, ((a0[0]'h).toNat : Int) = bt a0 0 := bt_at a0 0
              clear p57
              have qi57 : (0 < (a0.size : Int)) = True := eq_true (of_decide_eq_true (by first | (with_reducible assumption) | assumption))
              replace q57 := eq_true q57
              have p59 : 0 ≤ (0 : Int) := (by omega)
              have q59 : 0 < a0.size := (by have : (0 : Int) < (a0.size : Int) := of_decide_eq_true (by first | (with_reducible assumption) | assumption); omega)
              have hx59 : ∀ h : 0 < a0.size, ((a0[0]'h).toNat : Int) = bt a0 0 := bt_at a0 0
              clear p59
              have qi59 : (0 < (a0.size : Int)) = True := eq_true (of_decide_eq_true (by first | (with_reducible assumption) | assumption))
              replace q59 := eq_true q59
              go_wp2
              go_meet
              case rel => exact ⟨_, (decide ((bt a0 0) ≤ 57)), (by first | rfl | (simp; done) | (simp [*]; done)), H', ⟨by first | omega | exact Nat.le_refl _⟩, ⟨by (with_reducible repeat (first | refine blk_drewN ?_ _ | refine blk_drew ?_ | refine blk_alloc ?_ _)); refine blk_far ?_ NB190_191.out _; (with_reducible repeat (first | refine blk_drewN ?_ _ | refine blk_drew ?_ | refine blk_alloc ?_ _)); refine blk_far ?_ NB190_191.out _; (with_reducible repeat (first | refine blk_drewN ?_ _ | refine blk_drew ?_ | refine blk_alloc ?_ _)); refine blk_far ?_ NB190_191.out _; (with_reducible repeat (first | refine blk_drewN ?_ _ | refine blk_drew ?_ | refine blk_alloc ?_ _)); exact BK190.out⟩, ⟨by (with_reducible repeat (first | refine blk_drewN ?_ _ | refine blk_drew ?_ | refine blk_alloc ?_ _)); refine blk_put (cs := #[.int .i64 3, .int .i64 0, .string (⟨#[]⟩ : ByteArray)]) ?_ 2 _ rfl; (with_reducible repeat (first | refine blk_drewN ?_ _ | refine blk_drew ?_ | refine blk_alloc ?_ _)); refine blk_put (cs := #[.int .i64 3, .int .i64 0, .string (⟨#[]⟩ : ByteArray)]) ?_ 1 _ rfl; (with_reducible repeat (first | refine blk_drewN ?_ _ | refine blk_drew ?_ | refine blk_alloc ?_ _)); refine blk_put (cs := #[.int .i64 0, .int .i64 0, .string (⟨#[]⟩ : ByteArray)]) ?_ 0 _ rfl; (with_reducible repeat (first | refine blk_drewN ?_ _ | refine blk_drew ?_ | refine blk_alloc ?_ _)); exact BK191.out⟩, ⟨by repeat (first | (with_reducible first | exact HB.out | apply below_alloc | apply pw_below_drewN | apply below_drew1 | refine below_set ?_ GE190.out | refine below_set ?_ GE191.out) | exact HB.out)⟩⟩
            · rw [if_neg c58] at H
              have c58b0 : decide (48 ≤ (bt a0 0)) = false := decide_eq_false c58
              clear c58
              (first | rw [c58b0] | (simp only [i64_w, i32_w]; rw [c58b0]) | skip)
              have H' := Aside0.mk H
              clear H
              have p57 : 0 ≤ (0 : Int) := (by omega)
              have q57 : 0 < a0.size := (by have : (0 : Int) < (a0.size : Int) := of_decide_eq_true (by first | (with_reducible assumption) | assumption); omega)
              have hx57 : ∀ h : 0 < a0.size, ((a0[0]'h).toNat : Int) = bt a0 0 := bt_at a0 0
              clear p57
              have qi57 : (0 < (a0.size : Int)) = True := eq_true (of_decide_eq_true (by first | (with_reducible assumption) | assumption))
              replace q57 := eq_true q57
              go_wp2
              go_meet
              case rel => exact ⟨_, (false), (by first | rfl | (simp; done) | (simp [*]; done)), H', ⟨by first | omega | exact Nat.le_refl _⟩, ⟨by (with_reducible repeat (first | refine blk_drewN ?_ _ | refine blk_drew ?_ | refine blk_alloc ?_ _)); refine blk_far ?_ NB190_191.out _; (with_reducible repeat (first | refine blk_drewN ?_ _ | refine blk_drew ?_ | refine blk_alloc ?_ _)); refine blk_far ?_ NB190_191.out _; (with_reducible repeat (first | refine blk_drewN ?_ _ | refine blk_drew ?_ | refine blk_alloc ?_ _)); refine blk_far ?_ NB190_191.out _; (with_reducible repeat (first | refine blk_drewN ?_ _ | refine blk_drew ?_ | refine blk_alloc ?_ _)); exact BK190.out⟩, ⟨by (with_reducible repeat (first | refine blk_drewN ?_ _ | refine blk_drew ?_ | refine blk_alloc ?_ _)); refine blk_put (cs := #[.int .i64 3, .int .i64 0, .string (⟨#[]⟩ : ByteArray)]) ?_ 2 _ rfl; (with_reducible repeat (first | refine blk_drewN ?_ _ | refine blk_drew ?_ | refine blk_alloc ?_ _)); refine blk_put (cs := #[.int .i64 3, .int .i64 0, .string (⟨#[]⟩ : ByteArray)]) ?_ 1 _ rfl; (with_reducible repeat (first | refine blk_drewN ?_ _ | refine blk_drew ?_ | refine blk_alloc ?_ _)); refine blk_put (cs := #[.int .i64 0, .int .i64 0, .string (⟨#[]⟩ : ByteArray)]) ?_ 0 _ rfl; (with_reducible repeat (first | refine blk_drewN ?_ _ | refine blk_drew ?_ | refine blk_alloc ?_ _)); exact BK191.out⟩, ⟨by repeat (first | (with_reducible first | exact HB.out | apply below_alloc | apply pw_below_drewN | apply below_drew1 | refine below_set ?_ GE190.out | refine below_set ?_ GE191.out) | exact HB.out)⟩⟩
          case rest =>
            clear HC52
            try clear c1
            try clear c2
            try clear c2b0
            try clear c2b1
            try clear p2
            try clear q2
            try clear hx2
            try clear qi2
            try clear c3
            try clear c4
            try clear c5
            try clear c5b0
            try clear c5b1
            try clear p5
            try clear q5
            try clear hx5
            try clear qi5
            try clear p6
            try clear q6
            try clear hx6
            try clear qi6
            try clear c7
            try clear c7b0
            try clear c7b1
            try clear c8
            try clear c8b0
            try clear c8b1
            try clear c10
            try clear c11
            try clear c11b0
            try clear c11b1
            try clear c13
            try clear c14
            try clear c23
            try clear p29
            try clear q29
            try clear hx29
            try clear qi29
            try clear c30
            try clear c30b0
            try clear c30b1
            try clear c31
            try clear c31b0
            try clear c31b1
            try clear c34
            try clear c34b0
            try clear c34b1
            try clear c37
            try clear c46
            try clear c55
            try clear p57
            try clear q57
            try clear hx57
            try clear qi57
            try clear c58
            try clear c58b0
            try clear p59
            try clear q59
            try clear hx59
            try clear qi59
            try clear hcz15_0
            try clear hcz15_1
            try clear hcz15_2
            try clear hcz17_0
            try clear hcz17_1
            try clear hcz17_2
            try clear hcz19_0
            try clear hcz19_1
            try clear hcz19_2
            try clear hcz20_0
            try clear hcz20_1
            try clear hcz20_2
            try clear hcz24_0
            try clear hcz24_1
            try clear hcz24_2
            try clear hcz26_0
            try clear hcz26_1
            try clear hcz26_2
            try clear hcz28_0
            try clear hcz28_1
            try clear hcz28_2
            try clear hcz38_0
            try clear hcz38_1
            try clear hcz38_2
            try clear hcz40_0
            try clear hcz40_1
            try clear hcz40_2
            try clear hcz42_0
            try clear hcz42_1
            try clear hcz42_2
            try clear hcz43_0
            try clear hcz43_1
            try clear hcz43_2
            try clear hcz47_0
            try clear hcz47_1
            try clear hcz47_2
            try clear hcz49_0
            try clear hcz49_1
            try clear hcz49_2
            try clear hcz4_0
            try clear hcz4_1
            try clear hcz4_2
            try clear hcz51_0
            try clear hcz51_1
            try clear hcz51_2
            try clear hcz56_0
            try clear hcz56_1
            try clear hcz56_2
            try clear hfz15_0
            try clear hfz15_1
            try clear hfz15_2
            try clear hfz17_0
            try clear hfz17_1
            try clear hfz17_2
            try clear hfz19_0
            try clear hfz19_1
            try clear hfz19_2
            try clear hfz20_0
            try clear hfz20_1
            try clear hfz20_2
            try clear hfz24_0
            try clear hfz24_1
            try clear hfz24_2
            try clear hfz26_0
            try clear hfz26_1
            try clear hfz26_2
            try clear hfz28_0
            try clear hfz28_1
            try clear hfz28_2
            try clear hfz38_0
            try clear hfz38_1
            try clear hfz38_2
            try clear hfz40_0
            try clear hfz40_1
            try clear hfz40_2
            try clear hfz42_0
            try clear hfz42_1
            try clear hfz42_2
            try clear hfz43_0
            try clear hfz43_1
            try clear hfz43_2
            try clear hfz47_0
            try clear hfz47_1
            try clear hfz47_2
            try clear hfz49_0
            try clear hfz49_1
            try clear hfz49_2
            try clear hfz4_0
            try clear hfz4_1
            try clear hfz4_2
            try clear hfz51_0
            try clear hfz51_1
            try clear hfz51_2
            try clear hfz56_0
            try clear hfz56_1
            try clear hfz56_2
            try clear p29
            try clear p57
            try clear p59
            try clear p6
            try clear q29
            try clear q57
            try clear q59
            try clear q6
            obtain ⟨kq, x34_51, rfl, HA, HJ51, BK190, BK191, HB⟩ := hcut
            cases kq with
            | zero => exact absurd HA.out (by simp [antecedentref02_Read.j0])
            | succ kj51 =>
              have H := HA.out
              clear HA
              simp only [antecedentref02_Read.j0] at H
              by_cases c60 : x34_51 = true
              · subst c60
                have H1 : ((antecedentref02_number.f a0 10).bind fun t196 => ((antecedentref02_Text.f kj51 1 (wrap64 (t196)) (⟨#[]⟩ : ByteArray)).bind fun t197 => (if t197.toList = a0.toList then (some (1, wrap64 (t196), (⟨#[]⟩ : ByteArray), 0)) else (some (0, 0, (⟨#[]⟩ : ByteArray), 2))))) = some (r1, r2, r3, r4) := by rw [if_pos rfl] at H; exact H
                clear H
                have H := H1
                clear H1
                replace H := Option.bind_eq_some_iff.mp H
                obtain ⟨t196, A610, H⟩ := H
                replace H : ((antecedentref02_Text.f kj51 1 (wrap64 (t196)) (⟨#[]⟩ : ByteArray)).bind fun t197 => (if t197.toList = a0.toList then (some (1, wrap64 (t196), (⟨#[]⟩ : ByteArray), 0)) else (some (0, 0, (⟨#[]⟩ : ByteArray), 2)))) = some (r1, r2, r3, r4) := H
                have A61 := Aside0.mk A610
                clear A610
                replace H := Option.bind_eq_some_iff.mp H
                obtain ⟨t197, A620, H⟩ := H
                replace H : (if t197.toList = a0.toList then (some (1, wrap64 (t196), (⟨#[]⟩ : ByteArray), 0)) else (some (0, 0, (⟨#[]⟩ : ByteArray), 2))) = some (r1, r2, r3, r4) := H
                have A62 := Aside0.mk A620
                clear A620
                by_cases c63 : t197.toList = a0.toList
                · rw [if_pos c63] at H
                  have c63b0 : (t197.toList == a0.toList) = true := beq_iff_eq.mpr c63
                  have c63b1 : (t197.toList != a0.toList) = false := bne_eq_false_iff_eq.mpr c63
                  clear c63
                  simp only [Option.some.injEq, Prod.mk.injEq] at H
                  obtain ⟨rfl, rfl, rfl, rfl⟩ := H
                  go_wp2_with (first | ((with_reducible refine gate_callee (f := 132) rfl ?_); refine goesL_ (some 36) rfl rfl Tryz.func132 (by kernel_rfl) rfl #[.string a0, .int .u64 10] rfl (by (try simp only [List.map_toArray, List.map_cons, List.map_nil]); first | done | rfl | (simp only [List.length_drop, List.length_take]; rfl)) ?_; (with_reducible refine (antecedentref02_number.calls a0 10 t196 _ A61.out).mono ?_); rintro e w64 ⟨rfl, hb⟩; refine ⟨_, rfl, ?_⟩; have n0_ := Aside0.mk (blk_below (g := gb190) (o := .cells #[.int .i64 0, .int .i64 0, .string (⟨#[]⟩ : ByteArray)] 58 (0, 0)) (by (with_reducible repeat (first | refine blk_drewN ?_ _ | refine blk_drew ?_ | refine blk_alloc ?_ _)); exact BK190.out) hb); have n1_ := Aside0.mk (blk_below (g := gb191) (o := .cells #[.int .i64 3, .int .i64 0, .string a0] 58 (0, 0)) (by (with_reducible repeat (first | refine blk_drewN ?_ _ | refine blk_drew ?_ | refine blk_alloc ?_ _)); exact BK191.out) hb); have n2_ := Aside0.mk (below_step (by repeat (first | (with_reducible first | exact HB.out | apply below_alloc | apply pw_below_drewN | apply below_drew1 | refine below_set ?_ GE190.out | refine below_set ?_ GE191.out) | exact HB.out)) hb); clear BK190; clear BK191; clear HB; have BK190 := n0_; have BK191 := n1_; have HB := n2_; clear n0_ n1_ n2_; (try clear hb); (try clear hb2); (try clear hk); (try clear hi); have hnb65 := NB191_190.out; have hnc65 := NB190_191.out; have hcz66_0 : w64.cell? ⟨gb191, 0, none⟩ = some (.int .i64 3) := (blk_cell BK191.out 0).trans rfl; have hcz66_1 : w64.cell? ⟨gb191, 1, none⟩ = some (.int .i64 0) := (blk_cell BK191.out 1).trans rfl; have hcz66_2 : w64.cell? ⟨gb191, 2, none⟩ = some (.string a0) := (blk_cell BK191.out 2).trans rfl; have hfz66_0 := blk_frozen BK191.out 0; have hfz66_1 := blk_frozen BK191.out 1; have hfz66_2 := blk_frozen BK191.out 2) | ((with_reducible refine gate_callee (f := 113) rfl ?_); refine goesL_ (some 40) rfl rfl Tryz.func113 (by kernel_rfl) rfl #[.agg #[.int .i64 1, .int .i64 (wrap64 (t196)), .string (⟨#[]⟩ : ByteArray)]] rfl (by (try simp only [List.map_toArray, List.map_cons, List.map_nil]); first | done | rfl | (simp only [List.length_drop, List.length_take]; rfl)) ?_; (with_reducible refine (antecedentref02_Text.calls kj51 1 (wrap64 (t196)) (⟨#[]⟩ : ByteArray) t197 _ A62.out).mono ?_); rintro e w67 ⟨rfl, hb⟩; refine ⟨_, rfl, ?_⟩; have n0_ := Aside0.mk (blk_below (g := gb190) (o := .cells #[.int .i64 0, .int .i64 0, .string (⟨#[]⟩ : ByteArray)] 58 (0, 0)) (by (with_reducible repeat (first | refine blk_drewN ?_ _ | refine blk_drew ?_ | refine blk_alloc ?_ _)); refine blk_far ?_ NB190_191.out _; (with_reducible repeat (first | refine blk_drewN ?_ _ | refine blk_drew ?_ | refine blk_alloc ?_ _)); refine blk_far ?_ NB190_191.out _; (with_reducible repeat (first | refine blk_drewN ?_ _ | refine blk_drew ?_ | refine blk_alloc ?_ _)); refine blk_far ?_ NB190_191.out _; (with_reducible repeat (first | refine blk_drewN ?_ _ | refine blk_drew ?_ | refine blk_alloc ?_ _)); exact BK190.out) hb); have n1_ := Aside0.mk (blk_below (g := gb191) (o := .cells #[.int .i64 1, .int .i64 (wrap64 (t196)), .string (⟨#[]⟩ : ByteArray)] 58 (0, 0)) (by (with_reducible repeat (first | refine blk_drewN ?_ _ | refine blk_drew ?_ | refine blk_alloc ?_ _)); refine blk_put (cs := #[.int .i64 1, .int .i64 (wrap64 (t196)), .string a0]) ?_ 2 _ rfl; (with_reducible repeat (first | refine blk_drewN ?_ _ | refine blk_drew ?_ | refine blk_alloc ?_ _)); refine blk_put (cs := #[.int .i64 1, .int .i64 0, .string a0]) ?_ 1 _ rfl; (with_reducible repeat (first | refine blk_drewN ?_ _ | refine blk_drew ?_ | refine blk_alloc ?_ _)); refine blk_put (cs := #[.int .i64 3, .int .i64 0, .string a0]) ?_ 0 _ rfl; (with_reducible repeat (first | refine blk_drewN ?_ _ | refine blk_drew ?_ | refine blk_alloc ?_ _)); exact BK191.out) hb); have n2_ := Aside0.mk (below_step (by repeat (first | (with_reducible first | exact HB.out | apply below_alloc | apply pw_below_drewN | apply below_drew1 | refine below_set ?_ GE190.out | refine below_set ?_ GE191.out) | exact HB.out)) hb); clear BK190; clear BK191; clear HB; have BK190 := n0_; have BK191 := n1_; have HB := n2_; clear n0_ n1_ n2_; (try clear hb); (try clear hb2); (try clear hk); (try clear hi); have hcz68_0 : w67.cell? ⟨gb191, 0, none⟩ = some (.int .i64 1) := (blk_cell BK191.out 0).trans rfl; have hcz68_1 : w67.cell? ⟨gb191, 1, none⟩ = some (.int .i64 (wrap64 (t196))) := (blk_cell BK191.out 1).trans rfl; have hcz68_2 : w67.cell? ⟨gb191, 2, none⟩ = some (.string (⟨#[]⟩ : ByteArray)) := (blk_cell BK191.out 2).trans rfl; have hfz68_0 := blk_frozen BK191.out 0; have hfz68_1 := blk_frozen BK191.out 1; have hfz68_2 := blk_frozen BK191.out 2; have hcz69_0 : w67.cell? ⟨gb190, 0, none⟩ = some (.int .i64 0) := (blk_cell BK190.out 0).trans rfl; have hcz69_1 : w67.cell? ⟨gb190, 1, none⟩ = some (.int .i64 0) := (blk_cell BK190.out 1).trans rfl; have hcz69_2 : w67.cell? ⟨gb190, 2, none⟩ = some (.string (⟨#[]⟩ : ByteArray)) := (blk_cell BK190.out 2).trans rfl; have hfz69_0 := blk_frozen BK190.out 0; have hfz69_1 := blk_frozen BK190.out 1; have hfz69_2 := blk_frozen BK190.out 2))
                  refine bodyPost_ret (results_ct rfl _ _ gb190 58 #[.int .i64 1, .int .i64 (wrap64 (t196)), .string (⟨#[]⟩ : ByteArray)] (0, 0) _ rfl (by (with_reducible repeat (first | refine blk_drewN ?_ _ | refine blk_drew ?_ | refine blk_alloc ?_ _)); refine blk_put (cs := #[.int .i64 1, .int .i64 (wrap64 (t196)), .string (⟨#[]⟩ : ByteArray)]) ?_ 2 _ rfl; (with_reducible repeat (first | refine blk_drewN ?_ _ | refine blk_drew ?_ | refine blk_alloc ?_ _)); refine blk_put (cs := #[.int .i64 1, .int .i64 0, .string (⟨#[]⟩ : ByteArray)]) ?_ 1 _ rfl; (with_reducible repeat (first | refine blk_drewN ?_ _ | refine blk_drew ?_ | refine blk_alloc ?_ _)); refine blk_put (cs := #[.int .i64 0, .int .i64 0, .string (⟨#[]⟩ : ByteArray)]) ?_ 0 _ rfl; (with_reducible repeat (first | refine blk_drewN ?_ _ | refine blk_drew ?_ | refine blk_alloc ?_ _)); exact BK190.out) Tryz.underlying58 rfl (by kernel_rfl)) rfl ?_
                  exact ⟨by first | rfl | (simp [errW_none, errW_some] <;> rfl) | (simp [*, errW_none, errW_some] <;> rfl), by repeat (first | (with_reducible first | exact HB.out | apply below_alloc | apply pw_below_drewN | apply below_drew1 | refine below_set ?_ GE190.out | refine below_set ?_ GE191.out) | exact HB.out)⟩
                · rw [if_neg c63] at H
                  have c63b0 : (t197.toList == a0.toList) = false := beq_eq_false_iff_ne.mpr c63
                  have c63b1 : (t197.toList != a0.toList) = true := bne_iff_ne.mpr c63
                  simp only [Option.some.injEq, Prod.mk.injEq] at H
                  obtain ⟨rfl, rfl, rfl, rfl⟩ := H
                  go_wp2_with (first | ((with_reducible refine gate_callee (f := 132) rfl ?_); refine goesL_ (some 36) rfl rfl Tryz.func132 (by kernel_rfl) rfl #[.string a0, .int .u64 10] rfl (by (try simp only [List.map_toArray, List.map_cons, List.map_nil]); first | done | rfl | (simp only [List.length_drop, List.length_take]; rfl)) ?_; (with_reducible refine (antecedentref02_number.calls a0 10 t196 _ A61.out).mono ?_); rintro e w70 ⟨rfl, hb⟩; refine ⟨_, rfl, ?_⟩; have n0_ := Aside0.mk (blk_below (g := gb190) (o := .cells #[.int .i64 0, .int .i64 0, .string (⟨#[]⟩ : ByteArray)] 58 (0, 0)) (by (with_reducible repeat (first | refine blk_drewN ?_ _ | refine blk_drew ?_ | refine blk_alloc ?_ _)); exact BK190.out) hb); have n1_ := Aside0.mk (blk_below (g := gb191) (o := .cells #[.int .i64 3, .int .i64 0, .string a0] 58 (0, 0)) (by (with_reducible repeat (first | refine blk_drewN ?_ _ | refine blk_drew ?_ | refine blk_alloc ?_ _)); exact BK191.out) hb); have n2_ := Aside0.mk (below_step (by repeat (first | (with_reducible first | exact HB.out | apply below_alloc | apply pw_below_drewN | apply below_drew1 | refine below_set ?_ GE190.out | refine below_set ?_ GE191.out) | exact HB.out)) hb); clear BK190; clear BK191; clear HB; have BK190 := n0_; have BK191 := n1_; have HB := n2_; clear n0_ n1_ n2_; (try clear hb); (try clear hb2); (try clear hk); (try clear hi); have hnb71 := NB191_190.out; have hnc71 := NB190_191.out; have hcz72_0 : w70.cell? ⟨gb191, 0, none⟩ = some (.int .i64 3) := (blk_cell BK191.out 0).trans rfl; have hcz72_1 : w70.cell? ⟨gb191, 1, none⟩ = some (.int .i64 0) := (blk_cell BK191.out 1).trans rfl; have hcz72_2 : w70.cell? ⟨gb191, 2, none⟩ = some (.string a0) := (blk_cell BK191.out 2).trans rfl; have hfz72_0 := blk_frozen BK191.out 0; have hfz72_1 := blk_frozen BK191.out 1; have hfz72_2 := blk_frozen BK191.out 2) | ((with_reducible refine gate_callee (f := 113) rfl ?_); refine goesL_ (some 40) rfl rfl Tryz.func113 (by kernel_rfl) rfl #[.agg #[.int .i64 1, .int .i64 (wrap64 (t196)), .string (⟨#[]⟩ : ByteArray)]] rfl (by (try simp only [List.map_toArray, List.map_cons, List.map_nil]); first | done | rfl | (simp only [List.length_drop, List.length_take]; rfl)) ?_; (with_reducible refine (antecedentref02_Text.calls kj51 1 (wrap64 (t196)) (⟨#[]⟩ : ByteArray) t197 _ A62.out).mono ?_); rintro e w73 ⟨rfl, hb⟩; refine ⟨_, rfl, ?_⟩; have n0_ := Aside0.mk (blk_below (g := gb190) (o := .cells #[.int .i64 0, .int .i64 0, .string (⟨#[]⟩ : ByteArray)] 58 (0, 0)) (by (with_reducible repeat (first | refine blk_drewN ?_ _ | refine blk_drew ?_ | refine blk_alloc ?_ _)); refine blk_far ?_ NB190_191.out _; (with_reducible repeat (first | refine blk_drewN ?_ _ | refine blk_drew ?_ | refine blk_alloc ?_ _)); refine blk_far ?_ NB190_191.out _; (with_reducible repeat (first | refine blk_drewN ?_ _ | refine blk_drew ?_ | refine blk_alloc ?_ _)); refine blk_far ?_ NB190_191.out _; (with_reducible repeat (first | refine blk_drewN ?_ _ | refine blk_drew ?_ | refine blk_alloc ?_ _)); exact BK190.out) hb); have n1_ := Aside0.mk (blk_below (g := gb191) (o := .cells #[.int .i64 1, .int .i64 (wrap64 (t196)), .string (⟨#[]⟩ : ByteArray)] 58 (0, 0)) (by (with_reducible repeat (first | refine blk_drewN ?_ _ | refine blk_drew ?_ | refine blk_alloc ?_ _)); refine blk_put (cs := #[.int .i64 1, .int .i64 (wrap64 (t196)), .string a0]) ?_ 2 _ rfl; (with_reducible repeat (first | refine blk_drewN ?_ _ | refine blk_drew ?_ | refine blk_alloc ?_ _)); refine blk_put (cs := #[.int .i64 1, .int .i64 0, .string a0]) ?_ 1 _ rfl; (with_reducible repeat (first | refine blk_drewN ?_ _ | refine blk_drew ?_ | refine blk_alloc ?_ _)); refine blk_put (cs := #[.int .i64 3, .int .i64 0, .string a0]) ?_ 0 _ rfl; (with_reducible repeat (first | refine blk_drewN ?_ _ | refine blk_drew ?_ | refine blk_alloc ?_ _)); exact BK191.out) hb); have n2_ := Aside0.mk (below_step (by repeat (first | (with_reducible first | exact HB.out | apply below_alloc | apply pw_below_drewN | apply below_drew1 | refine below_set ?_ GE190.out | refine below_set ?_ GE191.out) | exact HB.out)) hb); clear BK190; clear BK191; clear HB; have BK190 := n0_; have BK191 := n1_; have HB := n2_; clear n0_ n1_ n2_; (try clear hb); (try clear hb2); (try clear hk); (try clear hi); have hcz74_0 : w73.cell? ⟨gb190, 0, none⟩ = some (.int .i64 0) := (blk_cell BK190.out 0).trans rfl; have hcz74_1 : w73.cell? ⟨gb190, 1, none⟩ = some (.int .i64 0) := (blk_cell BK190.out 1).trans rfl; have hcz74_2 : w73.cell? ⟨gb190, 2, none⟩ = some (.string (⟨#[]⟩ : ByteArray)) := (blk_cell BK190.out 2).trans rfl; have hfz74_0 := blk_frozen BK190.out 0; have hfz74_1 := blk_frozen BK190.out 1; have hfz74_2 := blk_frozen BK190.out 2))
                  refine bodyPost_ret (results_ct rfl _ _ gb190 58 #[.int .i64 0, .int .i64 0, .string (⟨#[]⟩ : ByteArray)] (0, 0) _ rfl (by (with_reducible repeat (first | refine blk_drewN ?_ _ | refine blk_drew ?_ | refine blk_alloc ?_ _)); refine blk_put (cs := #[.int .i64 0, .int .i64 0, .string (⟨#[]⟩ : ByteArray)]) ?_ 2 _ rfl; (with_reducible repeat (first | refine blk_drewN ?_ _ | refine blk_drew ?_ | refine blk_alloc ?_ _)); refine blk_put (cs := #[.int .i64 0, .int .i64 0, .string (⟨#[]⟩ : ByteArray)]) ?_ 1 _ rfl; (with_reducible repeat (first | refine blk_drewN ?_ _ | refine blk_drew ?_ | refine blk_alloc ?_ _)); refine blk_put (cs := #[.int .i64 0, .int .i64 0, .string (⟨#[]⟩ : ByteArray)]) ?_ 0 _ rfl; (with_reducible repeat (first | refine blk_drewN ?_ _ | refine blk_drew ?_ | refine blk_alloc ?_ _)); exact BK190.out) Tryz.underlying58 rfl (by kernel_rfl)) rfl ?_
                  exact ⟨by first | rfl | (simp [errW_none, errW_some] <;> rfl) | (simp [*, errW_none, errW_some] <;> rfl), by repeat (first | (with_reducible first | exact HB.out | apply below_alloc | apply pw_below_drewN | apply below_drew1 | refine below_set ?_ GE190.out | refine below_set ?_ GE191.out) | exact HB.out)⟩
              · replace c60 := Bool.eq_false_iff.mpr c60
                subst c60
                have H1 : ((antecedentref02_Text.f kj51 3 0 a0).bind fun t198 => (if t198.toList = a0.toList then (some (3, 0, a0, 0)) else (some (0, 0, (⟨#[]⟩ : ByteArray), 2)))) = some (r1, r2, r3, r4) := by rw [if_neg (show ¬ (false = true) by decide)] at H; exact H
                clear H
                have H := H1
                clear H1
                replace H := Option.bind_eq_some_iff.mp H
                obtain ⟨t198, A750, H⟩ := H
                replace H : (if t198.toList = a0.toList then (some (3, 0, a0, 0)) else (some (0, 0, (⟨#[]⟩ : ByteArray), 2))) = some (r1, r2, r3, r4) := H
                have A75 := Aside0.mk A750
                clear A750
                by_cases c76 : t198.toList = a0.toList
                · rw [if_pos c76] at H
                  have c76b0 : (t198.toList == a0.toList) = true := beq_iff_eq.mpr c76
                  have c76b1 : (t198.toList != a0.toList) = false := bne_eq_false_iff_eq.mpr c76
                  clear c76
                  simp only [Option.some.injEq, Prod.mk.injEq] at H
                  obtain ⟨rfl, rfl, rfl, rfl⟩ := H
                  have hnb77 := NB191_190.out
                  have hnc77 := NB190_191.out
                  have hcz78_0 : wc.cell? ⟨gb191, 0, none⟩ = some (.int .i64 3) := (blk_cell BK191.out 0).trans rfl
                  have hcz78_1 : wc.cell? ⟨gb191, 1, none⟩ = some (.int .i64 0) := (blk_cell BK191.out 1).trans rfl
                  have hcz78_2 : wc.cell? ⟨gb191, 2, none⟩ = some (.string a0) := (blk_cell BK191.out 2).trans rfl
                  have hfz78_0 := blk_frozen BK191.out 0
                  have hfz78_1 := blk_frozen BK191.out 1
                  have hfz78_2 := blk_frozen BK191.out 2
                  go_wp2_with (first | ((with_reducible refine gate_callee (f := 113) rfl ?_); refine goesL_ (some 40) rfl rfl Tryz.func113 (by kernel_rfl) rfl #[.agg #[.int .i64 3, .int .i64 0, .string a0]] rfl (by (try simp only [List.map_toArray, List.map_cons, List.map_nil]); first | done | rfl | (simp only [List.length_drop, List.length_take]; rfl)) ?_; (with_reducible refine (antecedentref02_Text.calls kj51 3 0 a0 t198 _ A75.out).mono ?_); rintro e w79 ⟨rfl, hb⟩; refine ⟨_, rfl, ?_⟩; have n0_ := Aside0.mk (blk_below (g := gb190) (o := .cells #[.int .i64 0, .int .i64 0, .string (⟨#[]⟩ : ByteArray)] 58 (0, 0)) (by (with_reducible repeat (first | refine blk_drewN ?_ _ | refine blk_drew ?_ | refine blk_alloc ?_ _)); exact BK190.out) hb); have n1_ := Aside0.mk (blk_below (g := gb191) (o := .cells #[.int .i64 3, .int .i64 0, .string a0] 58 (0, 0)) (by (with_reducible repeat (first | refine blk_drewN ?_ _ | refine blk_drew ?_ | refine blk_alloc ?_ _)); exact BK191.out) hb); have n2_ := Aside0.mk (below_step (by repeat (first | (with_reducible first | exact HB.out | apply below_alloc | apply pw_below_drewN | apply below_drew1 | refine below_set ?_ GE190.out | refine below_set ?_ GE191.out) | exact HB.out)) hb); clear BK190; clear BK191; clear HB; have BK190 := n0_; have BK191 := n1_; have HB := n2_; clear n0_ n1_ n2_; (try clear hb); (try clear hb2); (try clear hk); (try clear hi); have hcz80_0 : w79.cell? ⟨gb191, 0, none⟩ = some (.int .i64 3) := (blk_cell BK191.out 0).trans rfl; have hcz80_1 : w79.cell? ⟨gb191, 1, none⟩ = some (.int .i64 0) := (blk_cell BK191.out 1).trans rfl; have hcz80_2 : w79.cell? ⟨gb191, 2, none⟩ = some (.string a0) := (blk_cell BK191.out 2).trans rfl; have hfz80_0 := blk_frozen BK191.out 0; have hfz80_1 := blk_frozen BK191.out 1; have hfz80_2 := blk_frozen BK191.out 2; have hcz81_0 : w79.cell? ⟨gb190, 0, none⟩ = some (.int .i64 0) := (blk_cell BK190.out 0).trans rfl; have hcz81_1 : w79.cell? ⟨gb190, 1, none⟩ = some (.int .i64 0) := (blk_cell BK190.out 1).trans rfl; have hcz81_2 : w79.cell? ⟨gb190, 2, none⟩ = some (.string (⟨#[]⟩ : ByteArray)) := (blk_cell BK190.out 2).trans rfl; have hfz81_0 := blk_frozen BK190.out 0; have hfz81_1 := blk_frozen BK190.out 1; have hfz81_2 := blk_frozen BK190.out 2))
                  refine bodyPost_ret (results_ct rfl _ _ gb190 58 #[.int .i64 3, .int .i64 0, .string a0] (0, 0) _ rfl (by (with_reducible repeat (first | refine blk_drewN ?_ _ | refine blk_drew ?_ | refine blk_alloc ?_ _)); refine blk_put (cs := #[.int .i64 3, .int .i64 0, .string (⟨#[]⟩ : ByteArray)]) ?_ 2 _ rfl; (with_reducible repeat (first | refine blk_drewN ?_ _ | refine blk_drew ?_ | refine blk_alloc ?_ _)); refine blk_put (cs := #[.int .i64 3, .int .i64 0, .string (⟨#[]⟩ : ByteArray)]) ?_ 1 _ rfl; (with_reducible repeat (first | refine blk_drewN ?_ _ | refine blk_drew ?_ | refine blk_alloc ?_ _)); refine blk_put (cs := #[.int .i64 0, .int .i64 0, .string (⟨#[]⟩ : ByteArray)]) ?_ 0 _ rfl; (with_reducible repeat (first | refine blk_drewN ?_ _ | refine blk_drew ?_ | refine blk_alloc ?_ _)); exact BK190.out) Tryz.underlying58 rfl (by kernel_rfl)) rfl ?_
                  exact ⟨by first | rfl | (simp [errW_none, errW_some] <;> rfl) | (simp [*, errW_none, errW_some] <;> rfl), by repeat (first | (with_reducible first | exact HB.out | apply below_alloc | apply pw_below_drewN | apply below_drew1 | refine below_set ?_ GE190.out | refine below_set ?_ GE191.out) | exact HB.out)⟩
                · rw [if_neg c76] at H
                  have c76b0 : (t198.toList == a0.toList) = false := beq_eq_false_iff_ne.mpr c76
                  have c76b1 : (t198.toList != a0.toList) = true := bne_iff_ne.mpr c76
                  simp only [Option.some.injEq, Prod.mk.injEq] at H
                  obtain ⟨rfl, rfl, rfl, rfl⟩ := H
                  have hnb82 := NB191_190.out
                  have hnc82 := NB190_191.out
                  have hcz83_0 : wc.cell? ⟨gb191, 0, none⟩ = some (.int .i64 3) := (blk_cell BK191.out 0).trans rfl
                  have hcz83_1 : wc.cell? ⟨gb191, 1, none⟩ = some (.int .i64 0) := (blk_cell BK191.out 1).trans rfl
                  have hcz83_2 : wc.cell? ⟨gb191, 2, none⟩ = some (.string a0) := (blk_cell BK191.out 2).trans rfl
                  have hfz83_0 := blk_frozen BK191.out 0
                  have hfz83_1 := blk_frozen BK191.out 1
                  have hfz83_2 := blk_frozen BK191.out 2
                  go_wp2_with (first | ((with_reducible refine gate_callee (f := 113) rfl ?_); refine goesL_ (some 40) rfl rfl Tryz.func113 (by kernel_rfl) rfl #[.agg #[.int .i64 3, .int .i64 0, .string a0]] rfl (by (try simp only [List.map_toArray, List.map_cons, List.map_nil]); first | done | rfl | (simp only [List.length_drop, List.length_take]; rfl)) ?_; (with_reducible refine (antecedentref02_Text.calls kj51 3 0 a0 t198 _ A75.out).mono ?_); rintro e w84 ⟨rfl, hb⟩; refine ⟨_, rfl, ?_⟩; have n0_ := Aside0.mk (blk_below (g := gb190) (o := .cells #[.int .i64 0, .int .i64 0, .string (⟨#[]⟩ : ByteArray)] 58 (0, 0)) (by (with_reducible repeat (first | refine blk_drewN ?_ _ | refine blk_drew ?_ | refine blk_alloc ?_ _)); exact BK190.out) hb); have n1_ := Aside0.mk (blk_below (g := gb191) (o := .cells #[.int .i64 3, .int .i64 0, .string a0] 58 (0, 0)) (by (with_reducible repeat (first | refine blk_drewN ?_ _ | refine blk_drew ?_ | refine blk_alloc ?_ _)); exact BK191.out) hb); have n2_ := Aside0.mk (below_step (by repeat (first | (with_reducible first | exact HB.out | apply below_alloc | apply pw_below_drewN | apply below_drew1 | refine below_set ?_ GE190.out | refine below_set ?_ GE191.out) | exact HB.out)) hb); clear BK190; clear BK191; clear HB; have BK190 := n0_; have BK191 := n1_; have HB := n2_; clear n0_ n1_ n2_; (try clear hb); (try clear hb2); (try clear hk); (try clear hi); have hcz85_0 : w84.cell? ⟨gb190, 0, none⟩ = some (.int .i64 0) := (blk_cell BK190.out 0).trans rfl; have hcz85_1 : w84.cell? ⟨gb190, 1, none⟩ = some (.int .i64 0) := (blk_cell BK190.out 1).trans rfl; have hcz85_2 : w84.cell? ⟨gb190, 2, none⟩ = some (.string (⟨#[]⟩ : ByteArray)) := (blk_cell BK190.out 2).trans rfl; have hfz85_0 := blk_frozen BK190.out 0; have hfz85_1 := blk_frozen BK190.out 1; have hfz85_2 := blk_frozen BK190.out 2))
                  refine bodyPost_ret (results_ct rfl _ _ gb190 58 #[.int .i64 0, .int .i64 0, .string (⟨#[]⟩ : ByteArray)] (0, 0) _ rfl (by (with_reducible repeat (first | refine blk_drewN ?_ _ | refine blk_drew ?_ | refine blk_alloc ?_ _)); refine blk_put (cs := #[.int .i64 0, .int .i64 0, .string (⟨#[]⟩ : ByteArray)]) ?_ 2 _ rfl; (with_reducible repeat (first | refine blk_drewN ?_ _ | refine blk_drew ?_ | refine blk_alloc ?_ _)); refine blk_put (cs := #[.int .i64 0, .int .i64 0, .string (⟨#[]⟩ : ByteArray)]) ?_ 1 _ rfl; (with_reducible repeat (first | refine blk_drewN ?_ _ | refine blk_drew ?_ | refine blk_alloc ?_ _)); refine blk_put (cs := #[.int .i64 0, .int .i64 0, .string (⟨#[]⟩ : ByteArray)]) ?_ 0 _ rfl; (with_reducible repeat (first | refine blk_drewN ?_ _ | refine blk_drew ?_ | refine blk_alloc ?_ _)); exact BK190.out) Tryz.underlying58 rfl (by kernel_rfl)) rfl ?_
                  exact ⟨by first | rfl | (simp [errW_none, errW_some] <;> rfl) | (simp [*, errW_none, errW_some] <;> rfl), by repeat (first | (with_reducible first | exact HB.out | apply below_alloc | apply pw_below_drewN | apply below_drew1 | refine below_set ?_ GE190.out | refine below_set ?_ GE191.out) | exact HB.out)⟩
    · rw [if_neg c5] at H
      exact absurd H (by simp)
end Go.Proofs.YthebhbomlllpeaaGreatDoor.X
namespace Go.Proofs.YthebhbomlllpeaaGreatDoor.X
set_option linter.unusedVariables false
set_option linter.unusedSimpArgs false
open Go.RowKit Go.Proofs.YthebhbomlllpeaaGreatDoorW.PrintWords Go.Proofs.YthebhbomlllpeaaGreatDoorW.PrintLast Go.Proofs.YthebhbomlllpeaaGreatDoorW.PrintMore
theorem numFrom_ascii (s : ByteArray) (b : Int) (hA : ∀ c ∈ s.data.toList, c.toNat < 128) : ∀ (d pos : Nat) (n : Int), s.size - pos ≤ d →
    numFrom s b d pos n = (s.data.toList.drop pos).foldl (fun n (c : UInt8) => numStep b n (c.toNat : Int)) n := by
  have hlen : s.data.toList.length = s.size := rfl
  intro d
  induction d with
  | zero =>
    intro pos n h
    rw [List.drop_eq_nil_of_le (by omega)]; rfl
  | succ d ih =>
    intro pos n h
    simp only [numFrom]
    by_cases hp : pos < s.size
    · have hc : (s[pos]'hp).toNat < 128 := hA _ (Array.mem_toList_iff.2 (Array.getElem_mem hp))
      rw [if_pos hp, decode_ascii s pos hp hc, ih _ _ (by omega), List.drop_eq_getElem_cons (by omega : pos < s.data.toList.length), List.foldl_cons, bt_nat s pos hp]
      rfl
    · rw [if_neg hp, List.drop_eq_nil_of_le (by omega)]; rfl
theorem number_ascii (l : List UInt8) (b : Int) (hA : ∀ c ∈ l, c.toNat < 128) : antecedentref02_number.f ⟨l.toArray⟩ b = some (l.foldl (fun n (c : UInt8) => numStep b n (c.toNat : Int)) 0) := by
  unfold antecedentref02_number.f
  rw [numFrom_ascii ⟨l.toArray⟩ b (by simpa using hA) _ _ _ (by omega)]
  rfl
theorem numDig_hexc (d : Nat) (h : d < 16) : numDig ((hexc d).toNat : Int) = (d : Int) := by
  have h1 := hexc_toNat d h
  unfold numDig
  split at h1
  · rw [if_neg (by omega), h1]; omega
  · rw [if_pos (by omega), h1]; omega
theorem hexc_lt (d : Nat) (h : d < 16) : (hexc d).toNat < 128 := by
  have h1 := hexc_toNat d h
  split at h1 <;> omega
theorem tells_ascii {b : Nat} {l : Nat → List UInt8} (hT : TellsBase b l) (u : Nat) : ∀ c ∈ l u, c.toNat < 128 := by
  have hb := hT.two
  have hb2 := hT.most
  induction u using Nat.strongRecOn with
  | _ u ih =>
    intro c hc
    by_cases h : u < b
    · rw [hT.one u h, List.mem_singleton] at hc
      subst hc; exact hexc_lt u (by omega)
    · rw [hT.more u (by omega)] at hc
      have hm : u % b < b := Nat.mod_lt _ (by omega)
      rcases List.mem_append.1 hc with hc | hc
      · exact ih (u / b) (Nat.div_lt_self (by omega) (by omega)) c hc
      · rw [List.mem_singleton] at hc
        subst hc; exact hexc_lt _ (by omega)
theorem tells_fold {b : Nat} {l : Nat → List UInt8} (hT : TellsBase b l) (u : Nat) (hu : u < 18446744073709551616) :
    (l u).foldl (fun n (c : UInt8) => numStep (b : Int) n (c.toNat : Int)) 0 = (u : Int) := by
  have hb := hT.two
  have hb2 := hT.most
  induction u using Nat.strongRecOn with
  | _ u ih =>
    by_cases h : u < b
    · rw [hT.one u h]
      simp only [List.foldl_cons, List.foldl_nil, numStep, Int.zero_mul, IntKind.wrap_u64]
      rw [numDig_hexc u (by omega)]
      omega
    · have hm : u % b < b := Nat.mod_lt _ (by omega)
      have hd := Nat.div_add_mod u b
      have hle : u / b ≤ u := Nat.div_le_self _ _
      rw [hT.more u (by omega), List.foldl_append, ih (u / b) (Nat.div_lt_self (by omega) (by omega)) (by omega)]
      simp only [List.foldl_cons, List.foldl_nil, numStep, IntKind.wrap_u64]
      rw [numDig_hexc _ (by omega)]
      have e : ((u / b : Nat) : Int) * (b : Int) = ((b * (u / b) : Nat) : Int) := by rw [Nat.mul_comm]; rfl
      rw [e]
      generalize b * (u / b) = q at hd
      generalize u % b = r at hd hm
      omega
theorem zeros_fold : ∀ (n : Nat) (l : List UInt8), (List.replicate n 48 ++ l).foldl (fun n (c : UInt8) => numStep 16 n (c.toNat : Int)) 0 = l.foldl (fun n (c : UInt8) => numStep 16 n (c.toNat : Int)) 0
  | 0, l => rfl
  | n + 1, l => by
    rw [List.replicate_succ, List.cons_append, List.foldl_cons]
    have e : numStep 16 0 ((48 : UInt8).toNat : Int) = 0 := by decide +kernel
    rw [e]
    exact zeros_fold n l
theorem number_dec (u : Nat) (hu : u < 18446744073709551616) : antecedentref02_number.f ⟨(Lib.decDigits u).toArray⟩ 10 = some (u : Int) := by
  rw [number_ascii _ _ (tells_ascii tells10 u)]
  have := tells_fold tells10 u hu
  rw [show ((10 : Nat) : Int) = 10 from rfl] at this
  rw [this]
theorem number_hex16 (u : Nat) (hu : u < 18446744073709551616) : antecedentref02_number.f ⟨(hex16 u).toArray⟩ 16 = some (u : Int) := by
  unfold hex16
  rw [number_ascii _ _ (fun c hc => by
    rcases List.mem_append.1 hc with hc | hc
    · rw [(List.mem_replicate.1 hc).2]; decide
    · exact tells_ascii tells16 u c hc), zeros_fold]
  have := tells_fold tells16 u hu
  rw [show ((16 : Nat) : Int) = 16 from rfl] at this
  rw [this]
def numOf (s : ByteArray) (b : Int) : Int := numFrom s b s.size 0 0
def refCand (t : ByteArray) : Int × Int × ByteArray :=
  if bt t 0 = 35 then (2, wrap64 (numOf (t.extract 1 t.size) 16), ⟨#[]⟩)
  else if bt t 0 = 45 then (1, wrap64 (IntKind.u64.wrap (-numOf (t.extract 1 t.size) 10)), ⟨#[]⟩)
  else if 48 ≤ bt t 0 ∧ bt t 0 ≤ 57 then (1, wrap64 (numOf t 10), ⟨#[]⟩)
  else (3, 0, t)
def refR (t : ByteArray) : Int × Int × ByteArray × Int :=
  if t.size = 0 ∨ textL (refCand t).1 (refCand t).2.1 (refCand t).2.2 ≠ t.data.toList then (0, 0, ⟨#[]⟩, 2) else ((refCand t).1, (refCand t).2.1, (refCand t).2.2, 0)
theorem number_some (s : ByteArray) (b : Int) : antecedentref02_number.f s b = some (numOf s b) := rfl
theorem ref_fin (t : ByteArray) (h0 : t.size ≠ 0) (a b : Int) (s : ByteArray) (hc : refCand t = (a, b, s)) :
    (if (⟨(textL a b s).toArray⟩ : ByteArray).toList = t.toList then some (a, b, s, (0 : Int)) else some (0, 0, (⟨#[]⟩ : ByteArray), 2)) = some (refR t) := by
  unfold refR
  rw [hc, toList_data, toList_data]
  by_cases h : textL a b s = t.data.toList
  · rw [if_pos h, if_neg (by rintro (h1 | h1); exact h0 h1; exact h1 h)]
  · rw [if_neg h, if_pos (Or.inr h)]
theorem ref02_Read_eq (t : ByteArray) (k : Nat) (hk : 60 ≤ k) : antecedentref02_Read.f k t = some (refR t) := by
  obtain ⟨k, rfl⟩ : ∃ j, k = j + 1 := ⟨k - 1, by omega⟩
  unfold antecedentref02_Read.f
  by_cases h0 : t.size = 0
  · rw [if_pos ((toList_nil t).2 h0)]
    unfold refR
    rw [if_pos (Or.inl h0)]
  · rw [if_neg (fun h => h0 ((toList_nil t).1 h)), if_pos (by omega)]
    by_cases h1 : bt t 0 = 35
    · have hc : refCand t = (2, wrap64 (numOf (t.extract 1 t.size) 16), ⟨#[]⟩) := by unfold refCand; rw [if_pos h1]
      rw [if_pos h1, if_pos (by omega), number_some]
      simp only [Option.bind_some]
      rw [ref02_Text_eq _ _ _ (k + 1) (by omega) (wrap64_rng _)]
      exact ref_fin t h0 _ _ _ hc
    · rw [if_neg h1]
      by_cases h2 : bt t 0 = 45
      · have hc : refCand t = (1, wrap64 (IntKind.u64.wrap (-numOf (t.extract 1 t.size) 10)), ⟨#[]⟩) := by unfold refCand; rw [if_neg h1, if_pos h2]
        rw [if_pos h2, if_pos (by omega), number_some]
        simp only [Option.bind_some]
        rw [ref02_Text_eq _ _ _ (k + 1) (by omega) (wrap64_rng _)]
        exact ref_fin t h0 _ _ _ hc
      · rw [if_neg h2]
        have hsym : ¬ (48 ≤ bt t 0 ∧ bt t 0 ≤ 57) → antecedentref02_Read.j0 (k + 1) t false 3 0 t = some (refR t) := fun h3 => by
          have hc : refCand t = (3, 0, t) := by unfold refCand; rw [if_neg h1, if_neg h2, if_neg h3]
          simp only [antecedentref02_Read.j0, Bool.false_eq_true, if_false]
          rw [ref02_Text_eq _ _ _ k (by omega) (by omega)]
          exact ref_fin t h0 _ _ _ hc
        by_cases h3 : bt t 0 ≥ 48
        · rw [if_pos h3]
          by_cases h4 : bt t 0 ≤ 57
          · have hc : refCand t = (1, wrap64 (numOf t 10), ⟨#[]⟩) := by unfold refCand; rw [if_neg h1, if_neg h2, if_pos ⟨h3, h4⟩]
            rw [decide_eq_true h4]
            simp only [antecedentref02_Read.j0, if_true]
            rw [number_some]
            simp only [Option.bind_some]
            rw [ref02_Text_eq _ _ _ k (by omega) (wrap64_rng _)]
            exact ref_fin t h0 _ _ _ hc
          · rw [decide_eq_false h4]; exact hsym (by omega)
        · rw [if_neg h3]; exact hsym (by omega)
theorem numOf_dec (u : Nat) (hu : u < 18446744073709551616) : numOf ⟨(Lib.decDigits u).toArray⟩ 10 = (u : Int) := Option.some.inj (number_dec u hu)
theorem numOf_hex16 (u : Nat) (hu : u < 18446744073709551616) : numOf ⟨(hex16 u).toArray⟩ 16 = (u : Int) := Option.some.inj (number_hex16 u hu)
theorem cand_ref (k n : Int) (s : ByteArray) (hr : rightB k n s = true) (hn : -9223372036854775808 ≤ n ∧ n ≤ 9223372036854775807) :
    refCand (txt k n s) = (k, n, s) := by
  have ht : textL k n s = if k = 1 then Lib.itoa n else if k = 2 then 35 :: hex16 (IntKind.u64.wrap n).toNat else s.data.toList := by unfold textL; rw [if_pos hr]
  unfold txt
  rcases right_cases hr with ⟨rfl, rfl⟩ | ⟨rfl, rfl, hf⟩ | ⟨rfl, rfl, hN⟩
  · rw [if_pos rfl] at ht
    rw [ht]
    obtain ⟨c, l, he, hc⟩ := itoa_head n
    have hp := parseInt_itoa n hn
    rw [he] at hp ⊢
    unfold refCand
    rw [bt_cons]
    rcases hc with ⟨h1, h2, h3⟩ | ⟨h1, h2, h3, h4⟩
    · rw [if_neg (by omega), if_pos (by omega), extract_cons, h3, numOf_dec _ (by omega)]
      have e : (-((n.natAbs : Nat) : Int)) = n := by omega
      rw [e, wrap_back n hn]
    · rw [if_neg (by omega), if_neg (by omega), if_pos (by omega), h4, numOf_dec _ (by omega)]
      have e : ((n.toNat : Nat) : Int) = n := by omega
      rw [e]
      have : wrap64 n = n := by unfold wrap64; omega
      rw [this]
  · rw [if_neg (by omega), if_pos rfl] at ht
    rw [ht]
    have hw := wrap_u64 n
    obtain ⟨u, hu⟩ : ∃ u : Nat, IntKind.u64.wrap n = (u : Int) := ⟨_, (Int.toNat_of_nonneg hw.1).symm⟩
    rw [hu, Int.toNat_natCast]
    have hu2 : u < 18446744073709551616 := by omega
    have hb := wrap_back n hn
    rw [hu] at hb
    unfold refCand
    rw [bt_cons, if_pos (by rfl), extract_cons, numOf_hex16 u hu2, hb]
  · rw [if_neg (by omega), if_neg (by omega)] at ht
    obtain ⟨c, l, he, h1, h2⟩ := name_head hN
    rw [ht, ba_eta]
    have hs : s = ⟨(c :: l).toArray⟩ := by rw [← he, ba_eta]
    unfold refCand
    have hb : bt s 0 = (c.toNat : Int) := by rw [hs, bt_cons]
    rw [hb, if_neg (by omega), if_neg (by omega), if_neg (by omega)]
theorem refCand_rng (t : ByteArray) : -9223372036854775808 ≤ (refCand t).2.1 ∧ (refCand t).2.1 ≤ 9223372036854775807 := by
  unfold refCand
  split
  · exact wrap64_rng _
  · split
    · exact wrap64_rng _
    · split
      · exact wrap64_rng _
      · show -9223372036854775808 ≤ (0 : Int) ∧ (0 : Int) ≤ 9223372036854775807
        omega
/-- the code and the reference read alike. -/
theorem refR_eq (t : ByteArray) : refR t = readR t := by
  unfold refR readR
  by_cases h0 : t.size = 0
  · rw [if_pos (Or.inl h0), if_pos (Or.inl h0)]
  · have hd := data_ne h0
    have key : ∀ k n s, textL k n s = t.data.toList → -9223372036854775808 ≤ n ∧ n ≤ 9223372036854775807 → candR t = (k, n, s) ∧ refCand t = (k, n, s) := fun k n s h hr => by
      have h1 := (cand_code k n s (text_right (by rw [h]; exact hd)) hr).1
      have h2 := cand_ref k n s (text_right (by rw [h]; exact hd)) hr
      unfold txt at h1 h2
      rw [h, ba_eta] at h1 h2
      exact ⟨h1, h2⟩
    by_cases h1 : textL (candR t).1 (candR t).2.1 (candR t).2.2 = t.data.toList
    · obtain ⟨e1, e2⟩ := key _ _ _ h1 (candR_rng t)
      rw [e2, if_neg (by rintro (h | h); exact h0 h; exact h h1)]
    · by_cases h2 : textL (refCand t).1 (refCand t).2.1 (refCand t).2.2 = t.data.toList
      · obtain ⟨e1, e2⟩ := key _ _ _ h2 (refCand_rng t)
        rw [e1] at h1
        exact absurd h2 h1
      · rw [if_pos (Or.inr h2), if_pos (Or.inr h1)]
end Go.Proofs.YthebhbomlllpeaaGreatDoor.X
