/-
  ShowJoins: what the proof needs, put together by a program of this session (shake.py), part 4.
-/
import Derived.Test.YthebhbomlllpeaaDoorCards
import Derived.Test.YthebhbomlllpeaaDoorTie
import Derived.Test.YthebhbomlllpeaaDoorProg
import Derived.Below
import Derived.Deep.Draws
import Derived.Deep.AppendLies
import Derived.Maps.AppendAt
import Derived.OwnWalk
import Derived.Laws.BytesArg
import Derived.Laws.MakeOwn
import Derived.Laws.OwnMore
import Derived.Deep.OwnRows
import Derived.Tactics
import Derived.Lib.ConvBytes
import Derived.Laws.Slices
import Derived.WalkKit
import Derived.KernelRfl
import Derived.RowKit3
import Derived.Deep.LoopGhost
import Derived.Deep.QuietTactic
import Derived.BigQuiet
import Derived.WideLaws
import Derived.Deep.DeepCutAuto
import Derived.Deep.CutBlock
import Derived.Deep.RegionHeld3
import Derived.Laws.Rows
import Derived.Lib.AppendStr
import Derived.ArgAppend
import Derived.Laws.IdiomCopy
import Derived.OrdersHeld
import Derived.Laws.BitsLemmas
import Derived.RowKit
import Derived.Lib.SmallJoins
import Derived.Lib.ItoaMem
import Derived.Laws.StructEq
import Derived.Test.YthebhbomlllpeaaDoorRows
import Derived.Deep.Slices
import Derived.Deep.Fields
import Derived.ChangeSame
import Derived.ProofKit
import Derived.OpenShut
import Derived.Deep.DeepHandedRow
import Derived.Lib.LaidTab
import Derived.LaidMore
import Derived.Stop.LaidErr
import Derived.MakeChecks
import Derived.Laws.NewBlocks
import Derived.Shelf.Strings.Builder1
import Derived.Shelf.Strings.Builder2
import Derived.Shelf.Strings.OnBuilder
import Derived.Shelf.Small.Strs
import Derived.Shelf.Small.Wraps
import Derived.Shelf.Strings.BuilderF
import Derived.Shelf.Strings.BuilderK
import Derived.Shelf.Strings.Builder2Cap
import Derived.Shelf.Strconv.Itoa0
import Derived.Shelf.Strconv.Itoa1
import Derived.Shelf.LaysM
import Derived.Shelf.Strconv.Itoa2
import Derived.Shelf.Strconv.Itoa3
import Derived.Shelf.Strconv.Itoa4
import Derived.Shelf.Strconv.ParseIntEmpty
import Derived.Shelf.Strconv.Clone
import Derived.Shelf.Strconv.SyntaxError
import Derived.Shelf.LaysC
import Derived.Shelf.Strconv.ToError
import Derived.Shelf.Strconv.Lower
import Derived.Shelf.Strconv.ParseUint10
import Derived.Shelf.Strconv.ParseUint10Empty
import Derived.Shelf.Strconv.ParseUint10Any
import Derived.Shelf.Strconv.ParseInt10
import Derived.Shelf.Strconv.RangeError
import Derived.Shelf.Strconv.ToErrorRange
import Derived.Shelf.Strconv.ParseUintEmpty
import Derived.Shelf.Strconv.ParseUint10b64
import Derived.Shelf.Strconv.ParseUint10b32
import Derived.Shelf.Strconv.ParseUint10b16
import Derived.Shelf.Strconv.ParseUint10b8
import Derived.Shelf.Strconv.ParseUint10At
import Derived.Shelf.Strconv.ParseInt10At64
import Derived.Shelf.Strconv.ParseInt10At32
import Derived.Shelf.Strconv.ParseInt10At16
import Derived.Shelf.Strconv.ParseInt10At8
import Derived.Shelf.Strconv.ParseInt10All
import Derived.Shelf.Strconv.ParseIntPublic10
import Derived.Shelf.Strconv.ErrVarParseInt
import Derived.Ground.MpProg
import Derived.Shelf.Pu.ParseUintPublic10
import Derived.Shelf.Pu.ErrVarParseUint
import Derived.Shelf.Strings.Search1
import Derived.Shelf.Strings.Prefix
import Derived.Shelf.Bits.Mul64
import Derived.Shelf.Strings.Repeat
import Derived.Shelf.Strings.BuilderCap
import Derived.Lib.AtoiAllMem
import Derived.Lib.ParseIntB
import Derived.Lib.Hide
import Derived.Laws.Strings3
import Derived.Laws.Closers25
import Derived.Laws.Closers25b
import Derived.BigCall
import Derived.BigGuard
import Derived.Laws.RangeAny
import Derived.Laws.RangeString
import Derived.Lib.ParseIntBTie
import Init
import Derived.Recover
import Derived.WalkLawsBesides
import Derived.StillTailTactics
import Derived.Deep.MidRow
import Derived.Deep.DrawnRows
import Derived.Test.YthebhbomlllpeaaDoorZShowJoins3
namespace Go.Proofs.YthebhbomlllpeaaDoor.X
set_option linter.unusedVariables false
set_option linter.unusedSimpArgs false
open Go.RowKit Go.Proofs.YthebhbomlllpeaaDoorW.PrintWords Go.Proofs.YthebhbomlllpeaaDoorW.PrintLast Go.Proofs.YthebhbomlllpeaaDoorW.PrintMore
attribute [local go_sem ↓] Go.wp_at_zero Go.wp_at_succ
def show22.T : Bool × List (List Nat × List Nat) := (true, [([], []), ([], []), ([1], [1]), ([0, 2], [0, 2]), ([], []), ([], []), ([5], [5]), ([4, 6], [4, 6]), ([7], [7]), ([8], [8]), ([], []), ([9, 10], [9, 10]), ([], []), ([12, 9], [12]), ([11, 13], [11, 13]), ([14], [14]), ([15], [15]), ([3, 16, 13], [3, 16]), ([17, 17, 0, 1, 2, 3, 4, 5, 6, 7, 8, 9, 10, 11, 12, 13, 14, 15, 16, 17], [0, 4, 17])])
def show22.B : List Nat := [0, 0, 2, 7, 0, 0, 32, 112, 240, 496, 0, 2032, 0, 5104, 16368, 32752, 65520, 131071, 262143]
theorem show22.tab : rtab .any (opsOf Tryd.f23 22) = show22.T := by kernel_rfl
theorem show22.bits : waitsOk show22.T.2 show22.B = true := by kernel_rfl
def show24.T : Bool × List (List Nat × List Nat) := (true, [([], []), ([], []), ([1], [1]), ([0, 2], [0, 2]), ([], []), ([], []), ([5], [5]), ([4, 6], [4, 6]), ([7], [7]), ([8], [8]), ([], []), ([9, 10], [9, 10]), ([], []), ([12], [12]), ([11, 13], [11, 13]), ([14], [14]), ([15], [15]), ([3, 16, 13], [3, 16]), ([17, 17, 0, 1, 2, 3, 4, 5, 6, 7, 8, 9, 10, 11, 12, 13, 14, 15, 16, 17], [0, 4, 17])])
def show24.B : List Nat := [0, 0, 2, 7, 0, 0, 32, 112, 240, 496, 0, 2032, 0, 4096, 16368, 32752, 65520, 131071, 262143]
theorem show24.tab : rtab .any (opsOf Tryd.f23 24) = show24.T := by kernel_rfl
theorem show24.bits : waitsOk show24.T.2 show24.B = true := by kernel_rfl
/-- the signs, as they lie. -/
abbrev signsV : Array Value := #[.string ⟨#[]⟩, .string ⟨#[]⟩, .string ⟨#[]⟩, .string ⟨#[47]⟩, .string ⟨#[124]⟩, .string ⟨#[42]⟩, .string ⟨#[43]⟩, .string ⟨#[63]⟩]
/-- a path under way. -/
structure PaM (w W : World) (n3 : Nat) (u : Value) (st : List Pc) : Prop where
  B : Below w.heap.size w W
  own : Kd.R kP 90 W w.heap.size (fun k => w.heap.size ≤ k ∧ k ≠ n3) u (memS st)
  b3 : W.heap[n3]? = some (.cells signsV 86 (0, 0))
  h3 : w.heap.size ≤ n3
theorem PaM.below {w W W1 : World} {n3 : Nat} {u : Value} {st : List Pc} (h : PaM w W n3 u st) (hb : Below W.heap.size W W1) : PaM w W1 n3 u st :=
  ⟨below_then h.B h.B.size hb, Kd.R_below h.own hb, blk_below h.b3 hb, h.h3⟩
theorem PaM.more {w W w2 : World} {n3 : Nat} {u u' : Value} {st : List Pc} {p : Pc} (h : PaM w W n3 u st) (ho : Kd.R kP 90 w2 w.heap.size (fun k => w.heap.size ≤ k ∧ k ≠ n3) u' (memS st ++ [(baL p.1, p.2)])) (hb : Below w.heap.size w w2) (hg : W.grownBy w2 u.ownBlock) : PaM w w2 n3 u' (p :: st) :=
  ⟨hb, by rw [memS_cons]; exact ho, blk_grown h.b3 hg (fun he => (h.own.1 n3 he.symm).2 rfl), h.h3⟩
theorem PaM.after {w W w2 : World} {n3 bk o n c : Nat} {u' : Value} {st r : List Pc} {p : Pc} (h : PaM w W n3 (.slice (some ⟨bk, o, none⟩) n c) st) (ho : Kd.R kP 90 w2 w.heap.size (fun k => w.heap.size ≤ k ∧ k ≠ n3) u' (memS r ++ [(baL p.1, p.2)])) (hb : Below w.heap.size w w2) (hg : W.grownBy w2 (some bk)) : PaM w w2 n3 u' (p :: r) :=
  ⟨hb, by rw [memS_cons]; exact ho, blk_grown h.b3 hg (fun he => (h.own.1 n3 he.symm).2 rfl), h.h3⟩
theorem memS_take2 (b a : Pc) (r : List Pc) (q : Nat) (hq : r.length = q) : (memS (b :: a :: r)).take q = memS r := by
  rw [memS_cons, memS_cons, List.append_assoc, List.take_append_of_le_length (by rw [memS_length]; omega), List.take_of_length_le (by rw [memS_length]; omega)]
theorem memS_set (p x : Pc) (st : List Pc) (m : Nat) (hm : st.length = m) : (memS (p :: st)).set m (baL x.1, x.2) = memS (x :: st) := by
  rw [memS_cons, memS_cons, List.set_append_right _ _ (by rw [memS_length]; omega), memS_length, hm, Nat.sub_self]
  rfl
theorem baL_app (a b : List UInt8) : baL a ++ baL b = baL (a ++ b) := ba_eq (by simp)
theorem baL_size (a : List UInt8) : (baL a).size = a.length := by simp [ByteArray.size]
theorem deep_S (s : List UInt8) (h : s.length ≤ 20000) : ∃ k, parse_Deep.f k (baL s) = some ((deepS s : Nat) : Int) := by
  refine ⟨_, deep_f (baL s) (by rw [baL_size]; exact h) ?_⟩
  by_cases h0 : (lexRes (baL s)).2.2 = 0
  · have := (lex_ok (by rw [baL_size]; exact h) h0).2
    rw [baL_size] at this
    omega
  · unfold lexRes at h0 ⊢
    rw [if_neg (by rw [baL_size]; omega)] at h0 ⊢
    unfold tokRes at h0 ⊢
    cases ht : tokN nmL vlL 0 (baL s).data.toList with
    | error i => simp
    | ok l => rw [ht] at h0; exact absurd rfl h0
theorem own_zero {α : Type} {d : Kd α} {e : TypeId} {W : World} {base bk o n c : Nat} {ok : Nat → Prop} {xs : List α} (h : d.R e W base ok (.slice (some ⟨bk, o, none⟩) n c) xs) : o = 0 ∧ ∃ cur, W.heap[bk]? = some (.cells cur e (0, 0)) := by
  obtain ⟨_, inner, hown, _⟩ := h
  rcases hown.2 with ⟨hv, _⟩ | ⟨g, cap, cur, hv, _, hh, _⟩
  · cases hv
  · injection hv with h1 h2 h3
    injection h1 with h1
    injection h1 with h1 h4
    subst h1 h4
    exact ⟨rfl, cur, hh⟩
/-- what is told of a whole stack. -/
def endL : List Pc → List UInt8
  | [p] => if 32 < deepS p.1 then [] else p.1
  | _ => []
theorem pathL_end {l : List StS} {st : List Pc} (h : ¬ 100 < l.length) (hs : pushes [] l = some st) : pathL l = endL st := by
  unfold pathL
  rw [if_neg h, hs]
  match st with
  | [] => rfl
  | [p] => rfl
  | _ :: _ :: _ => rfl
theorem take_snocS (l : List StS) (i : Nat) (hi : i < l.length) (x : StS) (hx : l[i] = x) : l.take (i + 1) = l.take i ++ [x] := by rw [List.take_succ_eq_append_getElem hi, hx]
theorem path_none {l : List StS} {i : Nat} {st : List Pc} {x : StS} (hl : l.length ≤ 100) (hs : pushes [] (l.take i) = some st) (hi : i < l.length) (hx : l[i] = x) (h : push1 st x = none) : pathL l = [] := by
  have : pushes [] l = none := by
    have e : l = l.take i ++ (x :: l.drop (i + 1)) := by
      have := List.take_append_drop i l
      rw [List.drop_eq_getElem_cons hi, hx] at this
      exact this.symm
    rw [e, pushes_app, hs]
    simp only [Option.bind_some, pushes, h]
    rfl
  unfold pathL
  rw [if_neg (by omega), this]
theorem showpath_step {l : List StS} {i : Nat} {st st' : List Pc} {x : StS} (hs : pushes [] (l.take i) = some st) (hi : i < l.length) (hx : l[i] = x) (h : push1 st x = some st') : pushes [] (l.take (i + 1)) = some st' := by
  rw [take_snocS l i hi x hx, pushes_app, hs]
  simp only [Option.bind_some, pushes, h]
theorem push1_nil {kd : Int} (h0 : ¬ (kd < 1 ∨ 7 < kd)) (h2 : ¬ kd ≤ 2) : push1 [] ⟨kd, ⟨#[]⟩⟩ = none := by
  unfold push1
  rw [if_neg h0, if_neg h2, if_neg (fun h => h rfl)]
theorem push1_one {kd : Int} {b : Pc} (h0 : ¬ (kd < 1 ∨ 7 < kd)) (h2 : ¬ kd ≤ 2) (h4 : kd ≤ 4) : push1 [b] ⟨kd, ⟨#[]⟩⟩ = none := by
  unfold push1
  rw [if_neg h0, if_neg h2, if_neg (fun h => h rfl)]
  simp only [if_pos h4]
theorem push1_then {b a : Pc} {r : List Pc} : push1 (b :: a :: r) ⟨3, ⟨#[]⟩⟩ = some ((leastL a 2 ++ (markL 3 ++ leastL b 3), 2) :: r) := by
  unfold push1
  rw [if_neg (by rintro (h | h); exact absurd h (by decide); exact absurd h (by decide)), if_neg (show ¬ ((3 : Int) ≤ 2) by decide), if_neg (fun h => h rfl)]
  rfl
theorem push1_or {b a : Pc} {r : List Pc} : push1 (b :: a :: r) ⟨4, ⟨#[]⟩⟩ = some ((a.1 ++ (markL 4 ++ leastL b 2), 1) :: r) := by
  unfold push1
  rw [if_neg (by rintro (h | h); exact absurd h (by decide); exact absurd h (by decide)), if_neg (show ¬ ((4 : Int) ≤ 2) by decide), if_neg (fun h => h rfl)]
  rfl
theorem push1_mark {kd : Int} {b : Pc} {r : List Pc} (h0 : ¬ (kd < 1 ∨ 7 < kd)) (h2 : ¬ kd ≤ 2) (h4 : ¬ kd ≤ 4) : push1 (b :: r) ⟨kd, ⟨#[]⟩⟩ = some ((leastL b 3 ++ markL kd, 3) :: r) := by
  unfold push1
  rw [if_neg h0, if_neg h2, if_neg (fun h => h rfl)]
  simp only [if_neg h4]
set_option maxHeartbeats 8000000 in
set_option maxRecDepth 100000 in
theorem path_show (l : List StS) (A : Option Addr) (c : Nat) (w : World) (hLW : LaidW w) (hC : Kd.C k45 w A l.length l) (hl : ∀ x ∈ l, x.f1.size ≤ 9223372036854775807) (hl63 : l.length ≤ 140737488355328) :
    Calls Tryd.prog 23 #[.slice A l.length c] w fun e w' => e = .returned (.string (baL (pathL l))) ∧ Below w.heap.size w w' := by
  by_cases h100 : 100 < l.length
  · have e1 : decide ((100 : Int) < (l.length : Int)) = true := decide_eq_true (by omega)
    have e2 : decide (100 < l.length) = true := decide_eq_true h100
    have HE := Aside0.mk (show pathL l = [] from if_pos h100)
    have HB := Aside0.mk (Below.refl w.heap.size w)
    clear hC hl hLW
    go_enter Tryd.func23, Tryd.ntmps23
    go_wp2
    go_ret
    exact ⟨by rw [HE.out]; rfl, HB.out⟩
  · have e1 : decide ((100 : Int) < (l.length : Int)) = false := decide_eq_false (by omega)
    have e2 : decide (100 < l.length) = false := decide_eq_false h100
    have hlen : l.length ≤ 100 := by omega
    have hB := below_alloc (Below.refl w.heap.size w) (.cells signsV 86)
    have h3 := blk_new w (.cells signsV 86)
    have HM := Aside0.mk (show PaM w (w.alloc (.cells signsV 86)) w.heap.size (.slice none 0 0) [] from ⟨hB, Kd.R_nil _ _ _ _ _, h3, Nat.le_refl _⟩)
    have HC := Aside0.mk hC
    have HL := Aside0.mk hl
    have HLW := Aside0.mk hLW
    clear hC hl hLW hB h3
    go_enter Tryd.func23, Tryd.ntmps23
    go_wp2
    go_loopg [4, 17] (l.length + 1) (fun kq v4 v17 w' => ∃ (i : Nat) (st : List Pc), v17 = .int .i64 i ∧ kq + i = l.length + 1 ∧ i ≤ l.length ∧ Aside0 (pushes [] (l.take i) = some st) ∧ Aside0 (PaM w w' w.heap.size v4 st))
    case atStart => exact ⟨0, [], rfl, by omega, by omega, ⟨rfl⟩, HM⟩
    case round =>
      clear HM
      obtain ⟨i, st, rfl, hk, hi, HS, HM⟩ := hrel
      by_cases hlt : i < l.length
      · have hz : decide ((i : Int) < (l.length : Int)) = true := decide_eq_true (by omega)
        have hz2 : decide (i < l.length) = true := decide_eq_true hlt
        obtain ⟨k1, rfl⟩ : ∃ k1, gk = k1 + 1 := ⟨gk - 1, by omega⟩
        obtain ⟨ad, rfl, x0, x1⟩ := at_T45 (Kd.C_below HC.out HM.out.B) (i : Int) (by omega) (by omega)
        have hr : rd_T45 l (i : Int) = l[i] := by
          show l.getD (Int.toNat (i : Int)) _ = _
          rw [Int.toNat_natCast, List.getD_eq_getElem?_getD, List.getElem?_eq_getElem hlt]
          rfl
        rw [hr] at x0 x1
        simp only [Int.toNat_natCast] at x0 x1
        obtain ⟨⟨kd, lb⟩, hx⟩ : ∃ x, l[i] = x := ⟨_, rfl⟩
        rw [hx] at x0 x1
        simp only at x0 x1
        have HX := Aside0.mk (And.intro hx (HL.out l[i] (List.getElem_mem hlt)))
        have HLN := Aside0.mk (show st.length ≤ 100 ∧ wt st ≤ 5000 from by
          have h1 := pushes_wt _ _ _ HS.out
          have h2 := pushes_len _ _ _ HS.out
          have h3 : (l.take i).length ≤ 100 := by rw [List.length_take]; omega
          simp only [wt, List.length_nil] at h1 h2
          omega)
        obtain ⟨A4, c4, hu⟩ := Kd.R_slice HM.out.own
        rw [memS_length] at hu
        subst hu
        clear hr hx
        by_cases hk1 : kd < 1
        · have f1 : decide (kd < 1) = true := decide_eq_true hk1
          have HE := Aside0.mk (path_none hlen HS.out hlt HX.out.1 (if_pos (Or.inl hk1)))
          have HB := Aside0.mk HM.out.B
          clear HS HM
          go_wp2
          go_ret
          exact ⟨by rw [HE.out]; rfl, by repeat (first | (with_reducible first | exact HB.out | apply below_alloc | apply pw_below_drewN | apply below_drew1) | exact HB.out)⟩
        have f1 : decide (kd < 1) = false := decide_eq_false hk1
        by_cases hk7 : 7 < kd
        · have f2 : decide (7 < kd) = true := decide_eq_true hk7
          have HE := Aside0.mk (path_none hlen HS.out hlt HX.out.1 (if_pos (Or.inr hk7)))
          have HB := Aside0.mk HM.out.B
          clear HS HM
          go_wp2
          go_ret
          exact ⟨by rw [HE.out]; rfl, by repeat (first | (with_reducible first | exact HB.out | apply below_alloc | apply pw_below_drewN | apply below_drew1) | exact HB.out)⟩
        have f2 : decide (7 < kd) = false := decide_eq_false hk7
        have HP0 := Aside0.mk (show ¬ (kd < 1 ∨ 7 < kd) from fun h => h.elim hk1 hk7)
        by_cases hk2 : kd ≤ 2
        · have f3 : decide (kd ≤ 2) = true := decide_eq_true hk2
          have HLB := Aside0.mk (fun V => show_label.calls 42 kd lb (baL (labelL ⟨kd, lb⟩)) V (label_f ⟨kd, lb⟩ (by have := HX.out.2; rw [HX.out.1] at this; exact this)))
          have HPU := Aside0.mk (show push1 st ⟨kd, lb⟩ = if labelL ⟨kd, lb⟩ = [] then none else some ((labelL ⟨kd, lb⟩, 3) :: st) from (if_neg HP0.out).trans (if_pos hk2))
          obtain ⟨s, hs⟩ : ∃ s, labelL ⟨kd, lb⟩ = s := ⟨_, rfl⟩
          rw [hs] at HLB HPU
          clear hs
          go_wp2_with fail
          refine (HLB.out _).mono ?_
          rintro e w1 ⟨rfl, hb⟩
          have HM1 := Aside0.mk (HM.out.below (below_then ((Below.refl wr.heap.size wr).alloc (Nat.le_refl _) _) (by simp) hb))
          clear hb
          obtain ⟨b, hbE⟩ : ∃ b, baL s = b := ⟨_, rfl⟩
          rw [hbE]
          by_cases hs0 : s = []
          · have e5 : (b.toList == ([] : List UInt8)) = true := by rw [← hbE, hs0, baL_toList]; exact beq_self_eq_true _
            have e6 : (b.toList == (⟨#[]⟩ : ByteArray).toList) = true := by rw [← hbE, hs0]; exact beq_self_eq_true _
            have HE := Aside0.mk (path_none hlen HS.out hlt HX.out.1 (HPU.out.trans (if_pos hs0)))
            have HB := Aside0.mk HM1.out.B
            clear HS HM HM1 hbE hs0
            go_wp2
            go_ret
            exact ⟨by rw [HE.out]; rfl, HB.out⟩
          · have e5 : (b.toList == ([] : List UInt8)) = false := by rw [beq_eq_false_iff_ne, ← hbE, baL_toList]; exact hs0
            have e6 : (b.toList == (⟨#[]⟩ : ByteArray).toList) = false := by rw [beq_eq_false_iff_ne, ← hbE, baL_toList]; exact fun h => hs0 (h.trans nil_bytes)
            have HS2 := Aside0.mk (showpath_step HS.out hlt HX.out.1 (HPU.out.trans (if_neg hs0)))
            have HBE := Aside0.mk hbE
            clear HS HM hbE hs0
            go_wp2_with ((with_reducible refine gate_builtin (b := .append) (xs := #[.tmp 40, .tmp 43]) rfl ?_); at_builtin; refine Kd.R_append kP (w0 := w) w.heap.size rfl (.tmp 40) (.tmp 43) 87 90 (.agg #[.string ⟨#[]⟩, .int .i64 0]) 24 rfl Tryd.underlying87 infoP rfl (by decide) (by decide) (.slice A4 st.length c4) (memS st) (b, 3) [.string b, .int .i64 3] (fun k => w.heap.size ≤ k ∧ k ≠ w.heap.size) (fun _ => False) rfl (by first | rfl | (simp; rfl)) (kP_mkM _ _ _ _) (fun _ hk => hk.elim) (fun k hk => ⟨Nat.le_trans HM1.out.B.size hk, by have := blk_lt HM1.out.b3; omega⟩) HM1.out.own HM1.out.B HM1.out.B.size (by rw [memS_length]; have := HLN.out; omega) ?_; intro v1 w2 ho hb hg hat; have HM2 := Aside0.mk (PaM.more (p := (s, 3)) HM1.out (by rw [HBE.out]; exact ho) hb hg); clear ho hb hg hat)
            go_roundg k1
            case rel => exact ⟨i + 1, _, by go_num, by omega, by omega, HS2, HM2⟩
            case measure => omega
        have f3 : decide (kd ≤ 2) = false := decide_eq_false hk2
        by_cases hlb : lb.data.toList ≠ []
        · have e5 : (lb.toList == ([] : List UInt8)) = false := by rw [beq_eq_false_iff_ne, toList_iff]; exact hlb
          have e6 : (lb.toList == (⟨#[]⟩ : ByteArray).toList) = false := by rw [nil_bytes]; exact e5
          have e7 : (lb.toList != ([] : List UInt8)) = true := by rw [bne, e5]; rfl
          have e8 : (lb.toList != (⟨#[]⟩ : ByteArray).toList) = true := by rw [bne, e6]; rfl
          have HE := Aside0.mk (path_none hlen HS.out hlt HX.out.1 ((if_neg HP0.out).trans ((if_neg hk2).trans (if_pos hlb))))
          have HB := Aside0.mk HM.out.B
          clear HS HM
          go_wp2
          go_ret
          exact ⟨by rw [HE.out]; rfl, by repeat (first | (with_reducible first | exact HB.out | apply below_alloc | apply pw_below_drewN | apply below_drew1) | exact HB.out)⟩
        have hlb0 : lb.data.toList = [] := Classical.not_not.1 hlb
        obtain rfl := bytes_nil hlb0
        clear hlb hlb0
        cases st with
        | nil =>
          have HE := Aside0.mk (path_none hlen HS.out hlt HX.out.1 (push1_nil HP0.out hk2))
          have HB := Aside0.mk HM.out.B
          clear HS HM
          go_wp2
          go_ret
          exact ⟨by rw [HE.out]; rfl, by repeat (first | (with_reducible first | exact HB.out | apply below_alloc | apply pw_below_drewN | apply below_drew1) | exact HB.out)⟩
        | cons b r =>
          obtain ⟨m, hm⟩ : ∃ m, r.length = m := ⟨_, rfl⟩
          have hmm : m < 100 := by have := HLN.out.1; rw [List.length_cons] at this; omega
          have HML := Aside0.mk hm
          rw [List.length_cons, hm] at HM ⊢
          clear hm
          have g1 : decide ((m : Int) + 1 < 1) = false := decide_eq_false (by omega)
          by_cases hone : kd ≤ 4 ∧ m = 0
          · obtain ⟨h4, rfl⟩ := hone
            obtain rfl : r = [] := List.length_eq_zero_iff.1 HML.out
            have HE := Aside0.mk (path_none hlen HS.out hlt HX.out.1 (push1_one HP0.out hk2 h4))
            have f4 : decide (kd ≤ 4) = true := decide_eq_true h4
            have HB := Aside0.mk HM.out.B
            clear HS HM
            go_wp2
            go_ret
            exact ⟨by rw [HE.out]; rfl, by repeat (first | (with_reducible first | exact HB.out | apply below_alloc | apply pw_below_drewN | apply below_drew1) | exact HB.out)⟩
          have g2 : kd ≤ 4 → decide ((m : Int) + 1 < 2) = false := fun h => decide_eq_false (by have : m ≠ 0 := fun e => hone ⟨h, e⟩; omega)
          have HONE := Aside0.mk hone
          clear hone
          rcases (by omega : kd = 3 ∨ kd = 4 ∨ kd = 5 ∨ kd = 6 ∨ kd = 7) with rfl | rfl | rfl | rfl | rfl
          · -- two
            cases r with
            | nil => exact absurd ⟨by decide, HML.out.symm⟩ HONE.out
            | cons a r =>
            obtain ⟨q, hq⟩ : ∃ q, r.length = q := ⟨_, rfl⟩
            have hmq : m = q + 1 := by rw [← HML.out, List.length_cons, hq]
            have HRL := Aside0.mk hq
            have HMQ := Aside0.mk hmq
            have g3 := g2 (by decide)
            clear g2 hq hmq
            go_wp2
            have hmq := HMQ.out
            have HB0 := below_alloc (Below.refl wr.heap.size wr) (.cells #[.int .i64 3, .string ⟨#[]⟩] 45)
            have HM0 := Aside0.mk (HM.out.below HB0)
            have hbx := blk_new wr (.cells #[.int .i64 3, .string ⟨#[]⟩] 45)
            obtain ⟨nb, enb⟩ : ∃ n, wr.heap.size = n := ⟨_, rfl⟩
            rw [enb] at hbx ⊢
            generalize wr.alloc (.cells #[.int .i64 3, .string ⟨#[]⟩] 45) = W0 at HM0 hbx ⊢
            have hown := HM0.out.own
            have hC4 := (Kd.R_reads' hown).2.2
            have hcap := (Kd.R_reads hown)
            obtain ⟨A', c', he, hcap, _⟩ := hcap
            injection he with he1 he2 he3
            subst he1 he3
            rw [memS_length, List.length_cons, List.length_cons, HRL.out] at hcap
            obtain ⟨bk, o, rfl, y0, y1⟩ := at_P hC4 m (baL b.1, b.2) (by have := memS_at [] b (a :: r); rw [List.length_cons, HRL.out, ← hmq] at this; exact this)
            obtain ⟨bk', o', he, x0', x1'⟩ := at_P hC4 q (baL a.1, a.2) (by have := memS_at [b] a r; rw [HRL.out] at this; exact this)
            injection he with he
            injection he with he1 he2
            subst he1 he2
            obtain ⟨bs, hbs⟩ : ∃ bs, baL b.1 = bs := ⟨_, rfl⟩
            obtain ⟨as1, has⟩ : ∃ as1, baL a.1 = as1 := ⟨_, rfl⟩
            simp only [hbs] at y0
            simp only [has] at x0'
            have hcb : W0.cell? ⟨nb, 0, none⟩ = some (.int .i64 3) := (blk_cell hbx 0).trans rfl
            have hcs : W0.cell? ⟨w.heap.size, 3, none⟩ = some (.string ⟨#[47]⟩) := (blk_cell HM0.out.b3 3).trans rfl
            have hwb : b.1.length ≤ 5000 := Nat.le_trans (wt_mem (by simp)) HLN.out.2
            have hwa : a.1.length ≤ 5000 := Nat.le_trans (wt_mem (by simp)) HLN.out.2
            have hsa : as1.size ≤ 5000 := by rw [← has, baL_size]; exact hwa
            have HLA := Aside0.mk (fun V => show_piece_least.calls as1 a.2 2 (baL (leastL a 2)) V (by rw [← has]; exact least_f a 2 (by omega)))
            have HLB := Aside0.mk (fun V => show_piece_least.calls bs b.2 3 (baL (leastL b 3)) V (by rw [← hbs]; exact least_f b 3 (by omega)))
            have hla := leastL_len a 2
            have hlb := leastL_len b 3
            have HTX := Aside0.mk (show (baL (leastL a 2) ++ (⟨#[47]⟩ : ByteArray)) ++ baL (leastL b 3) = baL (leastL a 2 ++ (markL 3 ++ leastL b 3)) from by rw [show (⟨#[47]⟩ : ByteArray) = baL [47] from rfl, baL_app, baL_app, List.append_assoc]; rfl)
            obtain ⟨la, hla'⟩ : ∃ x, baL (leastL a 2) = x := ⟨_, rfl⟩
            obtain ⟨lb', hlb'⟩ : ∃ x, baL (leastL b 3) = x := ⟨_, rfl⟩
            have hla2 : la.size ≤ 5002 := by rw [← hla', baL_size]; omega
            have hlb2 : lb'.size ≤ 5002 := by rw [← hlb', baL_size]; omega
            rw [hla'] at HLA
            rw [hlb'] at HLB
            (try rw [hla'] at HTX)
            (try rw [hlb'] at HTX)
            (try rw [has] at HTX)
            have HHB := Aside0.mk hbx
            have HHA := Aside0.mk has
            have p0 : (0 : Int) ≤ (m : Int) := by omega
            have p1 : (m : Int) < (m : Int) + 1 := by omega
            have q0 : (0 : Int) ≤ (q : Int) := by omega
            have q1 : (q : Int) < (m : Int) + 1 := by omega
            have q2 : (q : Int) ≤ (c4 : Int) := by omega
            have q3 : q ≤ c4 := by omega
            have HQM := Aside0.mk (show q + 1 < 100 by omega)
            have HW4 := Aside0.mk (show IntKind.i64.wrap ((m : Int) + 1 - 2) = (q : Int) by rw [i64_w]; unfold wrap64; omega)
            clear he2 hcap hown hC4 hbs has hbx HB0 HM enb x0 x1 hwb hwa hla hlb hla' hlb' hmq
            have hw1 : IntKind.i64.wrap ((m : Int) + 1 - 1) = (m : Int) := by rw [i64_w]; unfold wrap64; omega
            have hw2 : IntKind.i64.wrap (m : Int) = (m : Int) := by rw [i64_w]; unfold wrap64; omega
            have hw3 : (m : Int) + 1 - 1 = (m : Int) := by omega
            have kq1 : (9223372036854775807 < la.size + 1) = False := eq_false (by omega)
            have kq2 : (9223372036854775807 < la.size + 1 + lb'.size) = False := eq_false (by omega)
            have hw4 := HW4.out
            go_region_held3 (fun w' => w'.cell? ⟨bk, o + m * 2, none⟩ = some (.string bs) ∧ w'.cell? ⟨bk, o + m * 2 + 1, none⟩ = some (.int .i64 b.2) ∧ w'.cell? ⟨nb, 0, none⟩ = some (.int .i64 3) ∧ w'.cell? ⟨w.heap.size, 3, none⟩ = some (.string ⟨#[47]⟩)) (go_keep) (fail)
            go_wp2
            rename_i hHeld0
            clear hHeld0
            have hB1 : Below W0.heap.size W0 (W0.alloc (.cells #[.string bs, .int .i64 b.2] 90)).drew := below_drew1 (below_alloc (Below.refl _ _) _)
            have h9 := blk_drew (blk_new W0 (.cells #[.string bs, .int .i64 b.2] 90))
            obtain ⟨n9, en9⟩ : ∃ n, W0.heap.size = n := ⟨_, rfl⟩
            rw [en9] at h9 ⊢
            have HMV := Aside0.mk ((HM0.out.below hB1).below (below_drew1 (Below.refl _ _)))
            have z0 := pw_cell_below hB1 x0'
            have z1 := pw_cell_below hB1 x1'
            generalize (W0.alloc (.cells #[.string bs, .int .i64 b.2] 90)).drew = V0 at HMV z0 z1 h9 ⊢
            have u0 : V0.cell? ⟨n9, 0, none⟩ = some (.string bs) := (blk_cell h9 0).trans rfl
            have u1 : V0.cell? ⟨n9, 1, none⟩ = some (.int .i64 b.2) := (blk_cell h9 1).trans rfl
            have HRT := Aside0.mk (fun (V : World) (h : Kd.R kP 90 V w.heap.size (fun k => w.heap.size ≤ k ∧ k ≠ w.heap.size) (.slice (some ⟨bk, o, none⟩) (m + 1) c4) (memS (b :: a :: r))) => show Kd.R kP 90 V w.heap.size (fun k => w.heap.size ≤ k ∧ k ≠ w.heap.size) (.slice (some ⟨bk, o, none⟩) q c4) (memS r) from memS_take2 b a r q HRL.out ▸ Kd.R_take (m := q) h (by rw [memS_length, List.length_cons, List.length_cons, HRL.out]; omega))
            have HS2 := Aside0.mk (showpath_step HS.out hlt HX.out.1 (push1_then (b := b) (a := a) (r := r)))
            clear HS hB1 h9 en9 hcb hcs y0 y1 x0' x1' HM0 hw1 hw2 hw3
            refine start_ (n := 19) (S := fun w' => w'.cell? ⟨bk, o + q * 2, none⟩ = some (.string as1) ∧ w'.cell? ⟨bk, o + q * 2 + 1, none⟩ = some (.int .i64 a.2) ∧ w'.cell? ⟨n9, 0, none⟩ = some (.string bs) ∧ w'.cell? ⟨n9, 1, none⟩ = some (.int .i64 b.2)) (ds := [17]) #[false, false, false, false, false, false, false, false, false, false, false, false, false, false, false, false, false, false, false] (by kernel_rfl) rfl rfl (⟨z0, z1, u0, u1⟩) (fun hHeld => ?_); refine with_tabW show22.tab show22.bits (fun HT_ HW_ => ?_)
            generalize V0.drew = V at HMV hHeld ⊢
            refine pure_ (i := 0) (N := some 84) (v := ?_) (a' := ?_) #[true, false, false, false, false, false, false, false, false, false, false, false, false, false, false, false, false, false, false] rfl rfl (any_of HT_.out (by kernel_rfl)) (fun _ _ _ h => h) (Or.inl ⟨by rfl, ?_⟩) ?_ ?_
            rotate_left
            · intro w'
              go_simp
              with_reducible rfl
            rotate_left
            · simp only [Act.put, List.setIfInBounds_toArray, List.set_cons_zero, List.set_cons_succ, i64_w, i32_w]
              rfl
            refine pure_ (i := 1) (N := some 85) (v := ?_) (a' := ?_) #[true, true, false, false, false, false, false, false, false, false, false, false, false, false, false, false, false, false, false] rfl rfl (any_of HT_.out (by kernel_rfl)) (fun _ _ _ h => h) (Or.inl ⟨by rfl, ?_⟩) ?_ ?_
            rotate_left
            · intro w'
              go_simp
              with_reducible rfl
            rotate_left
            · simp only [Act.put, List.setIfInBounds_toArray, List.set_cons_zero, List.set_cons_succ, i64_w, i32_w]
              rfl
            refine pure_ (i := 2) (N := some 86) (v := ?_) (a' := ?_) #[true, true, true, false, false, false, false, false, false, false, false, false, false, false, false, false, false, false, false] rfl rfl (any_of HT_.out (by kernel_rfl)) (fun _ _ _ h => h) (Or.inl ⟨by rfl, ?_⟩) ?_ ?_
            rotate_left
            · intro w'
              go_simp
              with_reducible rfl
            rotate_left
            · simp only [Act.put, List.setIfInBounds_toArray, List.set_cons_zero, List.set_cons_succ, i64_w, i32_w]
              rfl
            refine pure_ (i := 3) (N := some 87) (v := ?_) (a' := ?_) #[true, true, true, true, false, false, false, false, false, false, false, false, false, false, false, false, false, false, false] rfl rfl (any_of HT_.out (by kernel_rfl)) (fun _ _ _ h => h) (Or.inl ⟨by rfl, ?_⟩) ?_ ?_
            rotate_left
            · intro w'
              go_simp
              with_reducible rfl
            rotate_left
            · simp only [Act.put, List.setIfInBounds_toArray, List.set_cons_zero, List.set_cons_succ, i64_w, i32_w]
              rfl
            refine pure_ (i := 4) (N := some 88) (v := ?_) (a' := ?_) #[true, true, true, true, true, false, false, false, false, false, false, false, false, false, false, false, false, false, false] rfl rfl (any_of HT_.out (by kernel_rfl)) (fun _ _ _ h => h) (Or.inl ⟨by rfl, ?_⟩) ?_ ?_
            rotate_left
            · intro w'
              go_simp
              with_reducible rfl
            rotate_left
            · simp only [Act.put, List.setIfInBounds_toArray, List.set_cons_zero, List.set_cons_succ, i64_w, i32_w]
              rfl
            refine pure_ (i := 5) (N := some 89) (v := ?_) (a' := ?_) #[true, true, true, true, true, true, false, false, false, false, false, false, false, false, false, false, false, false, false] rfl rfl (any_of HT_.out (by kernel_rfl)) (fun _ _ _ h => h) (Or.inl ⟨by rfl, ?_⟩) ?_ ?_
            rotate_left
            · intro w'
              go_simp
              with_reducible rfl
            rotate_left
            · simp only [Act.put, List.setIfInBounds_toArray, List.set_cons_zero, List.set_cons_succ, i64_w, i32_w]
              rfl
            refine pure_ (i := 6) (N := some 90) (v := ?_) (a' := ?_) #[true, true, true, true, true, true, true, false, false, false, false, false, false, false, false, false, false, false, false] rfl rfl (any_of HT_.out (by kernel_rfl)) (fun _ _ _ h => h) (Or.inl ⟨by rfl, ?_⟩) ?_ ?_
            rotate_left
            · intro w'
              go_simp
              with_reducible rfl
            rotate_left
            · simp only [Act.put, List.setIfInBounds_toArray, List.set_cons_zero, List.set_cons_succ, i64_w, i32_w]
              rfl
            refine pure_ (i := 7) (N := some 91) (v := ?_) (a' := ?_) #[true, true, true, true, true, true, true, true, false, false, false, false, false, false, false, false, false, false, false] rfl rfl (any_of HT_.out (by kernel_rfl)) (fun _ _ _ h => h) (Or.inl ⟨by rfl, ?_⟩) ?_ ?_
            rotate_left
            · intro w'
              go_simp
              with_reducible rfl
            rotate_left
            · simp only [Act.put, List.setIfInBounds_toArray, List.set_cons_zero, List.set_cons_succ, i64_w, i32_w]
              rfl
            refine take_ (i := 8) (N := some 92) (v := ?_) (a' := ?_) #[true, true, true, true, true, true, true, true, true, false, false, false, false, false, false, false, false, false, false] rfl rfl (take_ofW HT_.out HW_.out (by kernel_rfl)) (fun _ _ _ h => h) (Or.inl ⟨by rfl, ?_⟩) hHeld ?_ ?_
            rotate_left
            · rintro w' ⟨s1, s2, s3, s4⟩
              go_simp
              with_reducible rfl
            rotate_left
            · simp only [Act.put, List.setIfInBounds_toArray, List.set_cons_zero, List.set_cons_succ, i64_w, i32_w]
              rfl
            refine pure_ (i := 10) (N := some 94) (v := ?_) (a' := ?_) #[true, true, true, true, true, true, true, true, true, false, true, false, false, false, false, false, false, false, false] rfl rfl (any_of HT_.out (by kernel_rfl)) (fun _ _ _ h => h) (Or.inl ⟨by rfl, ?_⟩) ?_ ?_
            rotate_left
            · intro w'
              go_simp
              with_reducible rfl
            rotate_left
            · simp only [Act.put, List.setIfInBounds_toArray, List.set_cons_zero, List.set_cons_succ, i64_w, i32_w]
              rfl
            refine take_ (i := 12) (N := some 96) (v := ?_) (a' := ?_) #[true, true, true, true, true, true, true, true, true, false, true, false, true, false, false, false, false, false, false] rfl rfl (take_ofW HT_.out HW_.out (by kernel_rfl)) (fun _ _ _ h => h) (Or.inl ⟨by rfl, ?_⟩) hHeld ?_ ?_
            rotate_left
            · rintro w' ⟨s1, s2, s3, s4⟩
              go_simp
              with_reducible rfl
            rotate_left
            · simp only [Act.put, List.setIfInBounds_toArray, List.set_cons_zero, List.set_cons_succ, i64_w, i32_w]
              rfl
            refine one_ (i := 9) (N := some 93) #[true, true, true, true, true, true, true, true, true, true, true, false, true, false, false, false, false, false, false] rfl rfl (one_of HT_.out (by kernel_rfl)) (by decide) (fun K hK => ?_)
            refine goes_ Tryd.func47 (by kernel_rfl) rfl #[.agg #[.string as1, .int .i64 a.2], .int .i64 2] (by rfl) rfl rfl (by (try simp only [List.map_toArray, List.map_cons, List.map_nil]); first | done | rfl) ?_
            refine (HLA.out _).mono ?_
            rintro e V2 ⟨rfl, hb⟩
            refine ⟨_, rfl, ?_⟩
            replace HMV := Aside0.mk (HMV.out.below hb)
            refine hK.out _ _ (⟨pw_cell_below hb hHeld.1, pw_cell_below hb hHeld.2.1, pw_cell_below hb hHeld.2.2.1, pw_cell_below hb hHeld.2.2.2⟩) (fun hHeld => ?_)
            clear hK K
            refine norm_ (a' := ?_) ?_ ?_
            rotate_left
            · show Act.put _ (some 93) _ = _
              simp only [Act.put, List.setIfInBounds_toArray, List.set_cons_zero, List.set_cons_succ, i64_w, i32_w]
              rfl
            refine pure_ (i := 11) (N := some 95) (v := ?_) (a' := ?_) #[true, true, true, true, true, true, true, true, true, true, true, true, true, false, false, false, false, false, false] rfl rfl (any_of HT_.out (by kernel_rfl)) (fun _ _ _ h => h) (Or.inl ⟨by rfl, ?_⟩) ?_ ?_
            rotate_left
            · intro w'
              go_simp
              with_reducible rfl
            rotate_left
            · simp only [Act.put, List.setIfInBounds_toArray, List.set_cons_zero, List.set_cons_succ, i64_w, i32_w]
              rfl
            refine one_ (i := 13) (N := some 97) #[true, true, true, true, true, true, true, true, true, true, true, true, true, true, false, false, false, false, false] rfl rfl (one_of HT_.out (by kernel_rfl)) (by decide) (fun K hK => ?_)
            refine goes_ Tryd.func47 (by kernel_rfl) rfl #[.agg #[.string bs, .int .i64 b.2], .int .i64 3] (by rfl) rfl rfl (by (try simp only [List.map_toArray, List.map_cons, List.map_nil]); first | done | rfl) ?_
            refine (HLB.out _).mono ?_
            rintro e V3 ⟨rfl, hb3⟩
            refine ⟨_, rfl, ?_⟩
            have hb := hb3
            replace HMV := Aside0.mk (HMV.out.below hb)
            refine hK.out _ _ (⟨pw_cell_below hb hHeld.1, pw_cell_below hb hHeld.2.1, pw_cell_below hb hHeld.2.2.1, pw_cell_below hb hHeld.2.2.2⟩) (fun hHeld => ?_)
            clear hK K
            refine norm_ (a' := ?_) ?_ ?_
            rotate_left
            · show Act.put _ (some 97) _ = _
              simp only [Act.put, List.setIfInBounds_toArray, List.set_cons_zero, List.set_cons_succ, i64_w, i32_w]
              rfl
            refine pure_ (i := 14) (N := some 98) (v := ?_) (a' := ?_) #[true, true, true, true, true, true, true, true, true, true, true, true, true, true, true, false, false, false, false] rfl rfl (any_of HT_.out (by kernel_rfl)) (fun _ _ _ h => h) (Or.inl ⟨by rfl, ?_⟩) ?_ ?_
            rotate_left
            · intro w'
              go_simp
              with_reducible rfl
            rotate_left
            · simp only [Act.put, List.setIfInBounds_toArray, List.set_cons_zero, List.set_cons_succ, i64_w, i32_w]
              rfl
            refine pure_ (i := 15) (N := some 99) (v := ?_) (a' := ?_) #[true, true, true, true, true, true, true, true, true, true, true, true, true, true, true, true, false, false, false] rfl rfl (any_of HT_.out (by kernel_rfl)) (fun _ _ _ h => h) (Or.inl ⟨by rfl, ?_⟩) ?_ ?_
            rotate_left
            · intro w'
              go_simp
              with_reducible rfl
            rotate_left
            · simp only [Act.put, List.setIfInBounds_toArray, List.set_cons_zero, List.set_cons_succ, i64_w, i32_w]
              rfl
            refine one_ (i := 16) (N := some 100) #[true, true, true, true, true, true, true, true, true, true, true, true, true, true, true, true, true, false, false] rfl rfl (one_of HT_.out (by kernel_rfl)) (by decide) (fun K hK => ?_)
            refine value_ (w1 := ?_) (v := ?_) (by rfl) rfl ?_ ?_
            rotate_left 2
            · go_simp
              constructor
              · rfl
              · rfl
            refine hK.out _ _ (⟨(pw_cell_below (below_alloc (Below.refl _ _) _) hHeld.1), (pw_cell_below (below_alloc (Below.refl _ _) _) hHeld.2.1), (pw_cell_below (below_alloc (Below.refl _ _) _) hHeld.2.2.1), (pw_cell_below (below_alloc (Below.refl _ _) _) hHeld.2.2.2)⟩) (fun hHeld => ?_)
            clear hK K
            refine norm_ (a' := ?_) ?_ ?_
            rotate_left
            · show Act.put _ (some 100) _ = _
              simp only [Act.put, List.setIfInBounds_toArray, List.set_cons_zero, List.set_cons_succ, i64_w, i32_w]
              rfl
            refine last_ (i := 17) (N := some 101) #[true, true, true, true, true, true, true, true, true, true, true, true, true, true, true, true, true, true, false] rfl rfl (one_of HT_.out (by kernel_rfl)) (by decide) (fun K hK => ?_)
            refine Kd.R_append_step kP w.heap.size (by rfl) (.tmp 87) (.tmp 100) 87 90 (.agg #[.string ⟨#[]⟩, .int .i64 0]) 24 rfl Tryd.underlying87 infoP rfl (by decide) (by omega) (.slice (some ⟨bk, o, none⟩) q c4) (memS r) ((la ++ (⟨#[47]⟩ : ByteArray)) ++ lb', 2) [.string ((la ++ (⟨#[47]⟩ : ByteArray)) ++ lb'), .int .i64 2] (fun k => w.heap.size ≤ k ∧ k ≠ w.heap.size) (fun _ => False) rfl rfl (kP_mkM _ _ _ _) (fun _ hk => hk.elim) (fun k hk => ⟨Nat.le_trans HMV.out.B.size hk, by have := blk_lt HMV.out.b3; omega⟩) (HRT.out _ HMV.out.own) HMV.out.B HMV.out.B.size (by rw [memS_length, HRL.out]; have := HQM.out; omega) ?_
            intro u' w3 ho hb hg hat
            have HM2 := Aside0.mk (PaM.after (p := (leastL a 2 ++ (markL 3 ++ leastL b 3), 2)) HMV.out (by rw [← HTX.out]; exact ho) hb hg)
            clear ho hb hg hat hHeld
            refine hK.out _ _ ?_
            clear hK K
            refine norm_ (a' := ?_) ?_ ?_
            rotate_left
            · show Act.put _ (some 101) _ = _
              simp only [Act.put, List.setIfInBounds_toArray, List.set_cons_zero, List.set_cons_succ, i64_w, i32_w]
              rfl
            refine pure_ (i := 18) (N := some 4) (v := ?_) (a' := ?_) #[true, true, true, true, true, true, true, true, true, true, true, true, true, true, true, true, true, true, true] rfl rfl (any_of HT_.out (by kernel_rfl)) (fun _ _ _ h => h) (Or.inl ⟨by rfl, ?_⟩) ?_ ?_
            rotate_left
            · intro w'
              go_simp
              with_reducible rfl
            rotate_left
            · simp only [Act.put, List.setIfInBounds_toArray, List.set_cons_zero, List.set_cons_succ, i64_w, i32_w]
              rfl
            refine done_ (done_of HT_.out (by kernel_rfl)) ?_
            clear hw4
            go_wp2
            go_roundg k1
            case rel => exact ⟨i + 1, _, by go_num, by omega, by omega, HS2, HM2⟩
            case measure => omega
          · -- two
            cases r with
            | nil => exact absurd ⟨by decide, HML.out.symm⟩ HONE.out
            | cons a r =>
            obtain ⟨q, hq⟩ : ∃ q, r.length = q := ⟨_, rfl⟩
            have hmq : m = q + 1 := by rw [← HML.out, List.length_cons, hq]
            have HRL := Aside0.mk hq
            have HMQ := Aside0.mk hmq
            have g3 := g2 (by decide)
            clear g2 hq hmq
            go_wp2
            have hmq := HMQ.out
            have HB0 := below_alloc (Below.refl wr.heap.size wr) (.cells #[.int .i64 4, .string ⟨#[]⟩] 45)
            have HM0 := Aside0.mk (HM.out.below HB0)
            have hbx := blk_new wr (.cells #[.int .i64 4, .string ⟨#[]⟩] 45)
            obtain ⟨nb, enb⟩ : ∃ n, wr.heap.size = n := ⟨_, rfl⟩
            rw [enb] at hbx ⊢
            generalize wr.alloc (.cells #[.int .i64 4, .string ⟨#[]⟩] 45) = W0 at HM0 hbx ⊢
            have hown := HM0.out.own
            have hC4 := (Kd.R_reads' hown).2.2
            have hcap := (Kd.R_reads hown)
            obtain ⟨A', c', he, hcap, _⟩ := hcap
            injection he with he1 he2 he3
            subst he1 he3
            rw [memS_length, List.length_cons, List.length_cons, HRL.out] at hcap
            obtain ⟨bk, o, rfl, y0, y1⟩ := at_P hC4 m (baL b.1, b.2) (by have := memS_at [] b (a :: r); rw [List.length_cons, HRL.out, ← hmq] at this; exact this)
            obtain ⟨bk', o', he, x0', x1'⟩ := at_P hC4 q (baL a.1, a.2) (by have := memS_at [b] a r; rw [HRL.out] at this; exact this)
            injection he with he
            injection he with he1 he2
            subst he1 he2
            obtain ⟨bs, hbs⟩ : ∃ bs, baL b.1 = bs := ⟨_, rfl⟩
            obtain ⟨as1, has⟩ : ∃ as1, baL a.1 = as1 := ⟨_, rfl⟩
            simp only [hbs] at y0
            simp only [has] at x0'
            have hcb : W0.cell? ⟨nb, 0, none⟩ = some (.int .i64 4) := (blk_cell hbx 0).trans rfl
            have hcs : W0.cell? ⟨w.heap.size, 4, none⟩ = some (.string ⟨#[124]⟩) := (blk_cell HM0.out.b3 4).trans rfl
            have hwb : b.1.length ≤ 5000 := Nat.le_trans (wt_mem (by simp)) HLN.out.2
            have hwa : a.1.length ≤ 5000 := Nat.le_trans (wt_mem (by simp)) HLN.out.2
            have hsa : as1.size ≤ 5000 := by rw [← has, baL_size]; exact hwa
            have HLA := Aside0.mk (fun V => show_piece_least.calls as1 a.2 2 (baL (leastL a 2)) V (by rw [← has]; exact least_f a 2 (by omega)))
            have HLB := Aside0.mk (fun V => show_piece_least.calls bs b.2 2 (baL (leastL b 2)) V (by rw [← hbs]; exact least_f b 2 (by omega)))
            have hla := leastL_len a 2
            have hlb := leastL_len b 2
            have HTX := Aside0.mk (show (baL a.1 ++ (⟨#[124]⟩ : ByteArray)) ++ baL (leastL b 2) = baL (a.1 ++ (markL 4 ++ leastL b 2)) from by rw [show (⟨#[124]⟩ : ByteArray) = baL [124] from rfl, baL_app, baL_app, List.append_assoc]; rfl)
            obtain ⟨la, hla'⟩ : ∃ x, baL (leastL a 2) = x := ⟨_, rfl⟩
            obtain ⟨lb', hlb'⟩ : ∃ x, baL (leastL b 2) = x := ⟨_, rfl⟩
            have hla2 : la.size ≤ 5002 := by rw [← hla', baL_size]; omega
            have hlb2 : lb'.size ≤ 5002 := by rw [← hlb', baL_size]; omega
            rw [hla'] at HLA
            rw [hlb'] at HLB
            (try rw [hla'] at HTX)
            (try rw [hlb'] at HTX)
            (try rw [has] at HTX)
            have HHB := Aside0.mk hbx
            have HHA := Aside0.mk has
            have p0 : (0 : Int) ≤ (m : Int) := by omega
            have p1 : (m : Int) < (m : Int) + 1 := by omega
            have q0 : (0 : Int) ≤ (q : Int) := by omega
            have q1 : (q : Int) < (m : Int) + 1 := by omega
            have q2 : (q : Int) ≤ (c4 : Int) := by omega
            have q3 : q ≤ c4 := by omega
            have HQM := Aside0.mk (show q + 1 < 100 by omega)
            have HW4 := Aside0.mk (show IntKind.i64.wrap ((m : Int) + 1 - 2) = (q : Int) by rw [i64_w]; unfold wrap64; omega)
            clear he2 hcap hown hC4 hbs has hbx HB0 HM enb x0 x1 hwb hwa hla hlb hla' hlb' hmq
            have hw1 : IntKind.i64.wrap ((m : Int) + 1 - 1) = (m : Int) := by rw [i64_w]; unfold wrap64; omega
            have hw2 : IntKind.i64.wrap (m : Int) = (m : Int) := by rw [i64_w]; unfold wrap64; omega
            have hw3 : (m : Int) + 1 - 1 = (m : Int) := by omega
            have kq1 : (9223372036854775807 < as1.size + 1) = False := eq_false (by omega)
            have kq2 : (9223372036854775807 < as1.size + 1 + lb'.size) = False := eq_false (by omega)
            have hw4 := HW4.out
            go_region_held3 (fun w' => w'.cell? ⟨bk, o + m * 2, none⟩ = some (.string bs) ∧ w'.cell? ⟨bk, o + m * 2 + 1, none⟩ = some (.int .i64 b.2) ∧ w'.cell? ⟨nb, 0, none⟩ = some (.int .i64 4) ∧ w'.cell? ⟨w.heap.size, 4, none⟩ = some (.string ⟨#[124]⟩)) (go_keep) (fail)
            go_wp2
            rename_i hHeld0
            clear hHeld0
            have hB1 : Below W0.heap.size W0 (W0.alloc (.cells #[.string bs, .int .i64 b.2] 90)).drew := below_drew1 (below_alloc (Below.refl _ _) _)
            have h9 := blk_drew (blk_new W0 (.cells #[.string bs, .int .i64 b.2] 90))
            obtain ⟨n9, en9⟩ : ∃ n, W0.heap.size = n := ⟨_, rfl⟩
            rw [en9] at h9 ⊢
            have HMV := Aside0.mk ((HM0.out.below hB1).below (below_drew1 (Below.refl _ _)))
            have z0 := pw_cell_below hB1 x0'
            have z1 := pw_cell_below hB1 x1'
            generalize (W0.alloc (.cells #[.string bs, .int .i64 b.2] 90)).drew = V0 at HMV z0 z1 h9 ⊢
            have u0 : V0.cell? ⟨n9, 0, none⟩ = some (.string bs) := (blk_cell h9 0).trans rfl
            have u1 : V0.cell? ⟨n9, 1, none⟩ = some (.int .i64 b.2) := (blk_cell h9 1).trans rfl
            have HRT := Aside0.mk (fun (V : World) (h : Kd.R kP 90 V w.heap.size (fun k => w.heap.size ≤ k ∧ k ≠ w.heap.size) (.slice (some ⟨bk, o, none⟩) (m + 1) c4) (memS (b :: a :: r))) => show Kd.R kP 90 V w.heap.size (fun k => w.heap.size ≤ k ∧ k ≠ w.heap.size) (.slice (some ⟨bk, o, none⟩) q c4) (memS r) from memS_take2 b a r q HRL.out ▸ Kd.R_take (m := q) h (by rw [memS_length, List.length_cons, List.length_cons, HRL.out]; omega))
            have HS2 := Aside0.mk (showpath_step HS.out hlt HX.out.1 (push1_or (b := b) (a := a) (r := r)))
            clear HS hB1 h9 en9 hcb hcs y0 y1 x0' x1' HM0 hw1 hw2 hw3
            refine start_ (n := 19) (S := fun w' => w'.cell? ⟨bk, o + q * 2, none⟩ = some (.string as1) ∧ w'.cell? ⟨bk, o + q * 2 + 1, none⟩ = some (.int .i64 a.2) ∧ w'.cell? ⟨n9, 0, none⟩ = some (.string bs) ∧ w'.cell? ⟨n9, 1, none⟩ = some (.int .i64 b.2)) (ds := [17]) #[false, false, false, false, false, false, false, false, false, false, false, false, false, false, false, false, false, false, false] (by kernel_rfl) rfl rfl (⟨z0, z1, u0, u1⟩) (fun hHeld => ?_); refine with_tabW show24.tab show24.bits (fun HT_ HW_ => ?_)
            generalize V0.drew = V at HMV hHeld ⊢
            refine pure_ (i := 0) (N := some 104) (v := ?_) (a' := ?_) #[true, false, false, false, false, false, false, false, false, false, false, false, false, false, false, false, false, false, false] rfl rfl (any_of HT_.out (by kernel_rfl)) (fun _ _ _ h => h) (Or.inl ⟨by rfl, ?_⟩) ?_ ?_
            rotate_left
            · intro w'
              go_simp
              with_reducible rfl
            rotate_left
            · simp only [Act.put, List.setIfInBounds_toArray, List.set_cons_zero, List.set_cons_succ, i64_w, i32_w]
              rfl
            refine pure_ (i := 1) (N := some 105) (v := ?_) (a' := ?_) #[true, true, false, false, false, false, false, false, false, false, false, false, false, false, false, false, false, false, false] rfl rfl (any_of HT_.out (by kernel_rfl)) (fun _ _ _ h => h) (Or.inl ⟨by rfl, ?_⟩) ?_ ?_
            rotate_left
            · intro w'
              go_simp
              with_reducible rfl
            rotate_left
            · simp only [Act.put, List.setIfInBounds_toArray, List.set_cons_zero, List.set_cons_succ, i64_w, i32_w]
              rfl
            refine pure_ (i := 2) (N := some 106) (v := ?_) (a' := ?_) #[true, true, true, false, false, false, false, false, false, false, false, false, false, false, false, false, false, false, false] rfl rfl (any_of HT_.out (by kernel_rfl)) (fun _ _ _ h => h) (Or.inl ⟨by rfl, ?_⟩) ?_ ?_
            rotate_left
            · intro w'
              go_simp
              with_reducible rfl
            rotate_left
            · simp only [Act.put, List.setIfInBounds_toArray, List.set_cons_zero, List.set_cons_succ, i64_w, i32_w]
              rfl
            refine pure_ (i := 3) (N := some 107) (v := ?_) (a' := ?_) #[true, true, true, true, false, false, false, false, false, false, false, false, false, false, false, false, false, false, false] rfl rfl (any_of HT_.out (by kernel_rfl)) (fun _ _ _ h => h) (Or.inl ⟨by rfl, ?_⟩) ?_ ?_
            rotate_left
            · intro w'
              go_simp
              with_reducible rfl
            rotate_left
            · simp only [Act.put, List.setIfInBounds_toArray, List.set_cons_zero, List.set_cons_succ, i64_w, i32_w]
              rfl
            refine pure_ (i := 4) (N := some 108) (v := ?_) (a' := ?_) #[true, true, true, true, true, false, false, false, false, false, false, false, false, false, false, false, false, false, false] rfl rfl (any_of HT_.out (by kernel_rfl)) (fun _ _ _ h => h) (Or.inl ⟨by rfl, ?_⟩) ?_ ?_
            rotate_left
            · intro w'
              go_simp
              with_reducible rfl
            rotate_left
            · simp only [Act.put, List.setIfInBounds_toArray, List.set_cons_zero, List.set_cons_succ, i64_w, i32_w]
              rfl
            refine pure_ (i := 5) (N := some 109) (v := ?_) (a' := ?_) #[true, true, true, true, true, true, false, false, false, false, false, false, false, false, false, false, false, false, false] rfl rfl (any_of HT_.out (by kernel_rfl)) (fun _ _ _ h => h) (Or.inl ⟨by rfl, ?_⟩) ?_ ?_
            rotate_left
            · intro w'
              go_simp
              with_reducible rfl
            rotate_left
            · simp only [Act.put, List.setIfInBounds_toArray, List.set_cons_zero, List.set_cons_succ, i64_w, i32_w]
              rfl
            refine pure_ (i := 6) (N := some 110) (v := ?_) (a' := ?_) #[true, true, true, true, true, true, true, false, false, false, false, false, false, false, false, false, false, false, false] rfl rfl (any_of HT_.out (by kernel_rfl)) (fun _ _ _ h => h) (Or.inl ⟨by rfl, ?_⟩) ?_ ?_
            rotate_left
            · intro w'
              go_simp
              with_reducible rfl
            rotate_left
            · simp only [Act.put, List.setIfInBounds_toArray, List.set_cons_zero, List.set_cons_succ, i64_w, i32_w]
              rfl
            refine pure_ (i := 7) (N := some 111) (v := ?_) (a' := ?_) #[true, true, true, true, true, true, true, true, false, false, false, false, false, false, false, false, false, false, false] rfl rfl (any_of HT_.out (by kernel_rfl)) (fun _ _ _ h => h) (Or.inl ⟨by rfl, ?_⟩) ?_ ?_
            rotate_left
            · intro w'
              go_simp
              with_reducible rfl
            rotate_left
            · simp only [Act.put, List.setIfInBounds_toArray, List.set_cons_zero, List.set_cons_succ, i64_w, i32_w]
              rfl
            refine pure_ (i := 8) (N := some 112) (v := ?_) (a' := ?_) #[true, true, true, true, true, true, true, true, true, false, false, false, false, false, false, false, false, false, false] rfl rfl (any_of HT_.out (by kernel_rfl)) (fun _ _ _ h => h) (Or.inl ⟨by rfl, ?_⟩) ?_ ?_
            rotate_left
            · intro w'
              go_simp
              with_reducible rfl
            rotate_left
            · simp only [Act.put, List.setIfInBounds_toArray, List.set_cons_zero, List.set_cons_succ, i64_w, i32_w]
              rfl
            refine take_ (i := 9) (N := some 113) (v := ?_) (a' := ?_) #[true, true, true, true, true, true, true, true, true, true, false, false, false, false, false, false, false, false, false] rfl rfl (take_ofW HT_.out HW_.out (by kernel_rfl)) (fun _ _ _ h => h) (Or.inl ⟨by rfl, ?_⟩) hHeld ?_ ?_
            rotate_left
            · rintro w' ⟨s1, s2, s3, s4⟩
              go_simp
              with_reducible rfl
            rotate_left
            · simp only [Act.put, List.setIfInBounds_toArray, List.set_cons_zero, List.set_cons_succ, i64_w, i32_w]
              rfl
            refine pure_ (i := 10) (N := some 114) (v := ?_) (a' := ?_) #[true, true, true, true, true, true, true, true, true, true, true, false, false, false, false, false, false, false, false] rfl rfl (any_of HT_.out (by kernel_rfl)) (fun _ _ _ h => h) (Or.inl ⟨by rfl, ?_⟩) ?_ ?_
            rotate_left
            · intro w'
              go_simp
              with_reducible rfl
            rotate_left
            · simp only [Act.put, List.setIfInBounds_toArray, List.set_cons_zero, List.set_cons_succ, i64_w, i32_w]
              rfl
            refine pure_ (i := 11) (N := some 115) (v := ?_) (a' := ?_) #[true, true, true, true, true, true, true, true, true, true, true, true, false, false, false, false, false, false, false] rfl rfl (any_of HT_.out (by kernel_rfl)) (fun _ _ _ h => h) (Or.inl ⟨by rfl, ?_⟩) ?_ ?_
            rotate_left
            · intro w'
              go_simp
              with_reducible rfl
            rotate_left
            · simp only [Act.put, List.setIfInBounds_toArray, List.set_cons_zero, List.set_cons_succ, i64_w, i32_w]
              rfl
            refine take_ (i := 12) (N := some 116) (v := ?_) (a' := ?_) #[true, true, true, true, true, true, true, true, true, true, true, true, true, false, false, false, false, false, false] rfl rfl (take_ofW HT_.out HW_.out (by kernel_rfl)) (fun _ _ _ h => h) (Or.inl ⟨by rfl, ?_⟩) hHeld ?_ ?_
            rotate_left
            · rintro w' ⟨s1, s2, s3, s4⟩
              go_simp
              with_reducible rfl
            rotate_left
            · simp only [Act.put, List.setIfInBounds_toArray, List.set_cons_zero, List.set_cons_succ, i64_w, i32_w]
              rfl
            refine one_ (i := 13) (N := some 117) #[true, true, true, true, true, true, true, true, true, true, true, true, true, true, false, false, false, false, false] rfl rfl (one_of HT_.out (by kernel_rfl)) (by decide) (fun K hK => ?_)
            refine goes_ Tryd.func47 (by kernel_rfl) rfl #[.agg #[.string bs, .int .i64 b.2], .int .i64 2] (by rfl) rfl rfl (by (try simp only [List.map_toArray, List.map_cons, List.map_nil]); first | done | rfl) ?_
            refine (HLB.out _).mono ?_
            rintro e V2 ⟨rfl, hb⟩
            refine ⟨_, rfl, ?_⟩
            replace HMV := Aside0.mk (HMV.out.below hb)
            refine hK.out _ _ (⟨pw_cell_below hb hHeld.1, pw_cell_below hb hHeld.2.1, pw_cell_below hb hHeld.2.2.1, pw_cell_below hb hHeld.2.2.2⟩) (fun hHeld => ?_)
            clear hK K
            refine norm_ (a' := ?_) ?_ ?_
            rotate_left
            · show Act.put _ (some 117) _ = _
              simp only [Act.put, List.setIfInBounds_toArray, List.set_cons_zero, List.set_cons_succ, i64_w, i32_w]
              rfl
            refine pure_ (i := 14) (N := some 118) (v := ?_) (a' := ?_) #[true, true, true, true, true, true, true, true, true, true, true, true, true, true, true, false, false, false, false] rfl rfl (any_of HT_.out (by kernel_rfl)) (fun _ _ _ h => h) (Or.inl ⟨by rfl, ?_⟩) ?_ ?_
            rotate_left
            · intro w'
              go_simp
              with_reducible rfl
            rotate_left
            · simp only [Act.put, List.setIfInBounds_toArray, List.set_cons_zero, List.set_cons_succ, i64_w, i32_w]
              rfl
            refine pure_ (i := 15) (N := some 119) (v := ?_) (a' := ?_) #[true, true, true, true, true, true, true, true, true, true, true, true, true, true, true, true, false, false, false] rfl rfl (any_of HT_.out (by kernel_rfl)) (fun _ _ _ h => h) (Or.inl ⟨by rfl, ?_⟩) ?_ ?_
            rotate_left
            · intro w'
              go_simp
              with_reducible rfl
            rotate_left
            · simp only [Act.put, List.setIfInBounds_toArray, List.set_cons_zero, List.set_cons_succ, i64_w, i32_w]
              rfl
            refine one_ (i := 16) (N := some 120) #[true, true, true, true, true, true, true, true, true, true, true, true, true, true, true, true, true, false, false] rfl rfl (one_of HT_.out (by kernel_rfl)) (by decide) (fun K hK => ?_)
            refine value_ (w1 := ?_) (v := ?_) (by rfl) rfl ?_ ?_
            rotate_left 2
            · go_simp
              constructor
              · rfl
              · rfl
            refine hK.out _ _ (⟨(pw_cell_below (below_alloc (Below.refl _ _) _) hHeld.1), (pw_cell_below (below_alloc (Below.refl _ _) _) hHeld.2.1), (pw_cell_below (below_alloc (Below.refl _ _) _) hHeld.2.2.1), (pw_cell_below (below_alloc (Below.refl _ _) _) hHeld.2.2.2)⟩) (fun hHeld => ?_)
            clear hK K
            refine norm_ (a' := ?_) ?_ ?_
            rotate_left
            · show Act.put _ (some 120) _ = _
              simp only [Act.put, List.setIfInBounds_toArray, List.set_cons_zero, List.set_cons_succ, i64_w, i32_w]
              rfl
            refine last_ (i := 17) (N := some 121) #[true, true, true, true, true, true, true, true, true, true, true, true, true, true, true, true, true, true, false] rfl rfl (one_of HT_.out (by kernel_rfl)) (by decide) (fun K hK => ?_)
            refine Kd.R_append_step kP w.heap.size (by rfl) (.tmp 107) (.tmp 120) 87 90 (.agg #[.string ⟨#[]⟩, .int .i64 0]) 24 rfl Tryd.underlying87 infoP rfl (by decide) (by omega) (.slice (some ⟨bk, o, none⟩) q c4) (memS r) ((as1 ++ (⟨#[124]⟩ : ByteArray)) ++ lb', 1) [.string ((as1 ++ (⟨#[124]⟩ : ByteArray)) ++ lb'), .int .i64 1] (fun k => w.heap.size ≤ k ∧ k ≠ w.heap.size) (fun _ => False) rfl rfl (kP_mkM _ _ _ _) (fun _ hk => hk.elim) (fun k hk => ⟨Nat.le_trans HMV.out.B.size hk, by have := blk_lt HMV.out.b3; omega⟩) (HRT.out _ HMV.out.own) HMV.out.B HMV.out.B.size (by rw [memS_length, HRL.out]; have := HQM.out; omega) ?_
            intro u' w3 ho hb hg hat
            have HM2 := Aside0.mk (PaM.after (p := (a.1 ++ (markL 4 ++ leastL b 2), 1)) HMV.out (by rw [← HTX.out]; exact ho) hb hg)
            clear ho hb hg hat hHeld
            refine hK.out _ _ ?_
            clear hK K
            refine norm_ (a' := ?_) ?_ ?_
            rotate_left
            · show Act.put _ (some 121) _ = _
              simp only [Act.put, List.setIfInBounds_toArray, List.set_cons_zero, List.set_cons_succ, i64_w, i32_w]
              rfl
            refine pure_ (i := 18) (N := some 4) (v := ?_) (a' := ?_) #[true, true, true, true, true, true, true, true, true, true, true, true, true, true, true, true, true, true, true] rfl rfl (any_of HT_.out (by kernel_rfl)) (fun _ _ _ h => h) (Or.inl ⟨by rfl, ?_⟩) ?_ ?_
            rotate_left
            · intro w'
              go_simp
              with_reducible rfl
            rotate_left
            · simp only [Act.put, List.setIfInBounds_toArray, List.set_cons_zero, List.set_cons_succ, i64_w, i32_w]
              rfl
            refine done_ (done_of HT_.out (by kernel_rfl)) ?_
            clear hw4
            go_wp2
            go_roundg k1
            case rel => exact ⟨i + 1, _, by go_num, by omega, by omega, HS2, HM2⟩
            case measure => omega
          · -- mark
            clear g2
            go_wp2
            have HB0 := below_alloc (Below.refl wr.heap.size wr) (.cells #[.int .i64 5, .string ⟨#[]⟩] 45)
            have HM0 := Aside0.mk (HM.out.below HB0)
            have hbx := blk_new wr (.cells #[.int .i64 5, .string ⟨#[]⟩] 45)
            obtain ⟨nb, enb⟩ : ∃ n, wr.heap.size = n := ⟨_, rfl⟩
            rw [enb] at hbx ⊢
            generalize wr.alloc (.cells #[.int .i64 5, .string ⟨#[]⟩] 45) = W0 at HM0 hbx ⊢
            have hown := HM0.out.own
            have hC4 := (Kd.R_reads' hown).2.2
            obtain ⟨bk, o, rfl, y0, y1⟩ := at_P hC4 m (baL b.1, b.2) (by have := memS_at [] b r; rw [HML.out] at this; exact this)
            obtain ⟨rfl, cur, hcur⟩ := own_zero hown
            obtain ⟨bs, hbs⟩ : ∃ bs, baL b.1 = bs := ⟨_, rfl⟩
            simp only [hbs, Nat.zero_add] at y0
            simp only [Nat.zero_add] at y1
            have hcb : W0.cell? ⟨nb, 0, none⟩ = some (.int .i64 5) := (blk_cell hbx 0).trans rfl
            have hcs : W0.cell? ⟨w.heap.size, 5, none⟩ = some (.string ⟨#[42]⟩) := (blk_cell HM0.out.b3 5).trans rfl
            have hwb : b.1.length ≤ 5000 := Nat.le_trans (wt_mem (by simp)) HLN.out.2
            have HLB := Aside0.mk (fun V => show_piece_least.calls bs b.2 3 (baL (leastL b 3)) V (by rw [← hbs]; exact least_f b 3 (by omega)))
            have hlb := leastL_len b 3
            have HTX := Aside0.mk (show baL (leastL b 3) ++ (⟨#[42]⟩ : ByteArray) = baL (leastL b 3 ++ markL 5) from by rw [show (⟨#[42]⟩ : ByteArray) = baL [42] from rfl, baL_app]; rfl)
            obtain ⟨lb', hlb'⟩ : ∃ x, baL (leastL b 3) = x := ⟨_, rfl⟩
            have hlb2 : lb'.size ≤ 5002 := by rw [← hlb', baL_size]; omega
            rw [hlb'] at HLB HTX
            have HBS := Aside0.mk hbs
            have HCUR := Aside0.mk hcur
            have p0 : (0 : Int) ≤ (m : Int) := by omega
            have p1 : (m : Int) < (m : Int) + 1 := by omega
            have hmz : m * 2 < (m + 1) * 2 := by omega
            have kq1 : (9223372036854775807 < lb'.size + 1) = False := eq_false (by omega)
            have HS2 := Aside0.mk (showpath_step HS.out hlt HX.out.1 (push1_mark (b := b) (r := r) (by decide) (by decide) (by decide)))
            have HSET := Aside0.mk (memS_set b (leastL b 3 ++ markL 5, 3) r m HML.out)
            clear HS hown hC4 hbs hcur hbx HB0 HM enb x0 x1 hwb hlb hlb'
            have hw1 : IntKind.i64.wrap ((m : Int) + 1 - 1) = (m : Int) := by rw [i64_w]; unfold wrap64; omega
            have hw2 : IntKind.i64.wrap (m : Int) = (m : Int) := by rw [i64_w]; unfold wrap64; omega
            have hw3 : (m : Int) + 1 - 1 = (m : Int) := by omega
            go_region_held3 (fun w' => w'.cell? ⟨bk, m * 2, none⟩ = some (.string bs) ∧ w'.cell? ⟨bk, m * 2 + 1, none⟩ = some (.int .i64 b.2) ∧ w'.cell? ⟨nb, 0, none⟩ = some (.int .i64 5) ∧ w'.cell? ⟨w.heap.size, 5, none⟩ = some (.string ⟨#[42]⟩)) (go_keep) (fail)
            rename_i hHeld0
            go_wp2_with fail
            clear hw1 hw2 hw3 hHeld0
            refine (HLB.out _).mono ?_
            rintro e V ⟨rfl, hb⟩
            have hB1 : Below W0.heap.size W0 V := below_then (below_drew1 (below_alloc (Below.refl _ _) _)) (below_drew1 (below_alloc (Below.refl W0.heap.size W0) (.cells #[.string bs, .int .i64 b.2] 90))).size hb
            have HMV := Aside0.mk (HM0.out.below hB1)
            have z0 := pw_cell_below hB1 y0
            have z1 := pw_cell_below hB1 y1
            have hfz := blk_frozen (blk_below HCUR.out hB1) (m * 2)
            have hfz1 := blk_frozen (blk_below HCUR.out hB1) (m * 2 + 1)
            clear hb hB1 hcb hcs y0 y1 HM0
            have HCC := Aside0.mk (show ∀ (j : Nat) (u : Value), ([.string bs, .int .i64 b.2] : List Value)[j]? = some u → V.cell? ⟨bk, (m : Int).toNat * kP.sz + j, none⟩ = some u from fun j u hj => by
              match j, hj with
              | 0, hj => obtain rfl := Option.some.inj hj; exact z0
              | 1, hj => obtain rfl := Option.some.inj hj; exact z1)
            clear z0 z1
            go_wp2_with ((with_reducible refine gate_store (t := 90) (p := 81) (v := .tmp 80) rfl ?_); refine Kd.R_store kP (w0 := w) w.heap.size rfl rfl 90 (.tmp 81) (.tmp 80) rfl 90 (g := bk) (n := m + 1) (cap := c4) (o' := m * 2) (m : Int) 0 (memS (b :: r)) (lb' ++ (⟨#[42]⟩ : ByteArray), 3) (.agg #[.string (lb' ++ (⟨#[42]⟩ : ByteArray)), .int .i64 3]) [.string (lb' ++ (⟨#[42]⟩ : ByteArray)), .int .i64 3] [.string bs, .int .i64 b.2] (fun k => w.heap.size ≤ k ∧ k ≠ w.heap.size) (fun _ => False) (by first | rfl | (simp; done)) rfl rfl rfl (by kernel_rfl) (by intro q hq; simp at hq; rcases hq with rfl | rfl <;> rfl) HMV.out.own p0 (by omega) rfl HCC.out (Nat.le_refl 2) (kP_mkM _ _ _ _) (fun _ hk => hk.elim) HMV.out.B ?_; intro w3 ho hb hg; have HM2 := Aside0.mk (show PaM w w3 w.heap.size (.slice (some ⟨bk, 0, none⟩) (m + 1) c4) ((leastL b 3 ++ markL 5, 3) :: r) from ⟨hb, by rw [← HSET.out, ← HTX.out]; exact ho, blk_grown HMV.out.b3 hg (fun he => (HMV.out.own.1 w.heap.size he.symm).2 rfl), HMV.out.h3⟩); clear ho hb hg)
            go_wp2
            go_roundg k1
            case rel => exact ⟨i + 1, _, by go_num, by omega, by omega, HS2, HM2⟩
            case measure => omega
          · -- mark
            clear g2
            go_wp2
            have HB0 := below_alloc (Below.refl wr.heap.size wr) (.cells #[.int .i64 6, .string ⟨#[]⟩] 45)
            have HM0 := Aside0.mk (HM.out.below HB0)
            have hbx := blk_new wr (.cells #[.int .i64 6, .string ⟨#[]⟩] 45)
            obtain ⟨nb, enb⟩ : ∃ n, wr.heap.size = n := ⟨_, rfl⟩
            rw [enb] at hbx ⊢
            generalize wr.alloc (.cells #[.int .i64 6, .string ⟨#[]⟩] 45) = W0 at HM0 hbx ⊢
            have hown := HM0.out.own
            have hC4 := (Kd.R_reads' hown).2.2
            obtain ⟨bk, o, rfl, y0, y1⟩ := at_P hC4 m (baL b.1, b.2) (by have := memS_at [] b r; rw [HML.out] at this; exact this)
            obtain ⟨rfl, cur, hcur⟩ := own_zero hown
            obtain ⟨bs, hbs⟩ : ∃ bs, baL b.1 = bs := ⟨_, rfl⟩
            simp only [hbs, Nat.zero_add] at y0
            simp only [Nat.zero_add] at y1
            have hcb : W0.cell? ⟨nb, 0, none⟩ = some (.int .i64 6) := (blk_cell hbx 0).trans rfl
            have hcs : W0.cell? ⟨w.heap.size, 6, none⟩ = some (.string ⟨#[43]⟩) := (blk_cell HM0.out.b3 6).trans rfl
            have hwb : b.1.length ≤ 5000 := Nat.le_trans (wt_mem (by simp)) HLN.out.2
            have HLB := Aside0.mk (fun V => show_piece_least.calls bs b.2 3 (baL (leastL b 3)) V (by rw [← hbs]; exact least_f b 3 (by omega)))
            have hlb := leastL_len b 3
            have HTX := Aside0.mk (show baL (leastL b 3) ++ (⟨#[43]⟩ : ByteArray) = baL (leastL b 3 ++ markL 6) from by rw [show (⟨#[43]⟩ : ByteArray) = baL [43] from rfl, baL_app]; rfl)
            obtain ⟨lb', hlb'⟩ : ∃ x, baL (leastL b 3) = x := ⟨_, rfl⟩
            have hlb2 : lb'.size ≤ 5002 := by rw [← hlb', baL_size]; omega
            rw [hlb'] at HLB HTX
            have HBS := Aside0.mk hbs
            have HCUR := Aside0.mk hcur
            have p0 : (0 : Int) ≤ (m : Int) := by omega
            have p1 : (m : Int) < (m : Int) + 1 := by omega
            have hmz : m * 2 < (m + 1) * 2 := by omega
            have kq1 : (9223372036854775807 < lb'.size + 1) = False := eq_false (by omega)
            have HS2 := Aside0.mk (showpath_step HS.out hlt HX.out.1 (push1_mark (b := b) (r := r) (by decide) (by decide) (by decide)))
            have HSET := Aside0.mk (memS_set b (leastL b 3 ++ markL 6, 3) r m HML.out)
            clear HS hown hC4 hbs hcur hbx HB0 HM enb x0 x1 hwb hlb hlb'
            have hw1 : IntKind.i64.wrap ((m : Int) + 1 - 1) = (m : Int) := by rw [i64_w]; unfold wrap64; omega
            have hw2 : IntKind.i64.wrap (m : Int) = (m : Int) := by rw [i64_w]; unfold wrap64; omega
            have hw3 : (m : Int) + 1 - 1 = (m : Int) := by omega
            go_region_held3 (fun w' => w'.cell? ⟨bk, m * 2, none⟩ = some (.string bs) ∧ w'.cell? ⟨bk, m * 2 + 1, none⟩ = some (.int .i64 b.2) ∧ w'.cell? ⟨nb, 0, none⟩ = some (.int .i64 6) ∧ w'.cell? ⟨w.heap.size, 6, none⟩ = some (.string ⟨#[43]⟩)) (go_keep) (fail)
            rename_i hHeld0
            go_wp2_with fail
            clear hw1 hw2 hw3 hHeld0
            refine (HLB.out _).mono ?_
            rintro e V ⟨rfl, hb⟩
            have hB1 : Below W0.heap.size W0 V := below_then (below_drew1 (below_alloc (Below.refl _ _) _)) (below_drew1 (below_alloc (Below.refl W0.heap.size W0) (.cells #[.string bs, .int .i64 b.2] 90))).size hb
            have HMV := Aside0.mk (HM0.out.below hB1)
            have z0 := pw_cell_below hB1 y0
            have z1 := pw_cell_below hB1 y1
            have hfz := blk_frozen (blk_below HCUR.out hB1) (m * 2)
            have hfz1 := blk_frozen (blk_below HCUR.out hB1) (m * 2 + 1)
            clear hb hB1 hcb hcs y0 y1 HM0
            have HCC := Aside0.mk (show ∀ (j : Nat) (u : Value), ([.string bs, .int .i64 b.2] : List Value)[j]? = some u → V.cell? ⟨bk, (m : Int).toNat * kP.sz + j, none⟩ = some u from fun j u hj => by
              match j, hj with
              | 0, hj => obtain rfl := Option.some.inj hj; exact z0
              | 1, hj => obtain rfl := Option.some.inj hj; exact z1)
            clear z0 z1
            go_wp2_with ((with_reducible refine gate_store (t := 90) (p := 81) (v := .tmp 80) rfl ?_); refine Kd.R_store kP (w0 := w) w.heap.size rfl rfl 90 (.tmp 81) (.tmp 80) rfl 90 (g := bk) (n := m + 1) (cap := c4) (o' := m * 2) (m : Int) 0 (memS (b :: r)) (lb' ++ (⟨#[43]⟩ : ByteArray), 3) (.agg #[.string (lb' ++ (⟨#[43]⟩ : ByteArray)), .int .i64 3]) [.string (lb' ++ (⟨#[43]⟩ : ByteArray)), .int .i64 3] [.string bs, .int .i64 b.2] (fun k => w.heap.size ≤ k ∧ k ≠ w.heap.size) (fun _ => False) (by first | rfl | (simp; done)) rfl rfl rfl (by kernel_rfl) (by intro q hq; simp at hq; rcases hq with rfl | rfl <;> rfl) HMV.out.own p0 (by omega) rfl HCC.out (Nat.le_refl 2) (kP_mkM _ _ _ _) (fun _ hk => hk.elim) HMV.out.B ?_; intro w3 ho hb hg; have HM2 := Aside0.mk (show PaM w w3 w.heap.size (.slice (some ⟨bk, 0, none⟩) (m + 1) c4) ((leastL b 3 ++ markL 6, 3) :: r) from ⟨hb, by rw [← HSET.out, ← HTX.out]; exact ho, blk_grown HMV.out.b3 hg (fun he => (HMV.out.own.1 w.heap.size he.symm).2 rfl), HMV.out.h3⟩); clear ho hb hg)
            go_wp2
            go_roundg k1
            case rel => exact ⟨i + 1, _, by go_num, by omega, by omega, HS2, HM2⟩
            case measure => omega
          · -- mark
            clear g2
            go_wp2
            have HB0 := below_alloc (Below.refl wr.heap.size wr) (.cells #[.int .i64 7, .string ⟨#[]⟩] 45)
            have HM0 := Aside0.mk (HM.out.below HB0)
            have hbx := blk_new wr (.cells #[.int .i64 7, .string ⟨#[]⟩] 45)
            obtain ⟨nb, enb⟩ : ∃ n, wr.heap.size = n := ⟨_, rfl⟩
            rw [enb] at hbx ⊢
            generalize wr.alloc (.cells #[.int .i64 7, .string ⟨#[]⟩] 45) = W0 at HM0 hbx ⊢
            have hown := HM0.out.own
            have hC4 := (Kd.R_reads' hown).2.2
            obtain ⟨bk, o, rfl, y0, y1⟩ := at_P hC4 m (baL b.1, b.2) (by have := memS_at [] b r; rw [HML.out] at this; exact this)
            obtain ⟨rfl, cur, hcur⟩ := own_zero hown
            obtain ⟨bs, hbs⟩ : ∃ bs, baL b.1 = bs := ⟨_, rfl⟩
            simp only [hbs, Nat.zero_add] at y0
            simp only [Nat.zero_add] at y1
            have hcb : W0.cell? ⟨nb, 0, none⟩ = some (.int .i64 7) := (blk_cell hbx 0).trans rfl
            have hcs : W0.cell? ⟨w.heap.size, 7, none⟩ = some (.string ⟨#[63]⟩) := (blk_cell HM0.out.b3 7).trans rfl
            have hwb : b.1.length ≤ 5000 := Nat.le_trans (wt_mem (by simp)) HLN.out.2
            have HLB := Aside0.mk (fun V => show_piece_least.calls bs b.2 3 (baL (leastL b 3)) V (by rw [← hbs]; exact least_f b 3 (by omega)))
            have hlb := leastL_len b 3
            have HTX := Aside0.mk (show baL (leastL b 3) ++ (⟨#[63]⟩ : ByteArray) = baL (leastL b 3 ++ markL 7) from by rw [show (⟨#[63]⟩ : ByteArray) = baL [63] from rfl, baL_app]; rfl)
            obtain ⟨lb', hlb'⟩ : ∃ x, baL (leastL b 3) = x := ⟨_, rfl⟩
            have hlb2 : lb'.size ≤ 5002 := by rw [← hlb', baL_size]; omega
            rw [hlb'] at HLB HTX
            have HBS := Aside0.mk hbs
            have HCUR := Aside0.mk hcur
            have p0 : (0 : Int) ≤ (m : Int) := by omega
            have p1 : (m : Int) < (m : Int) + 1 := by omega
            have hmz : m * 2 < (m + 1) * 2 := by omega
            have kq1 : (9223372036854775807 < lb'.size + 1) = False := eq_false (by omega)
            have HS2 := Aside0.mk (showpath_step HS.out hlt HX.out.1 (push1_mark (b := b) (r := r) (by decide) (by decide) (by decide)))
            have HSET := Aside0.mk (memS_set b (leastL b 3 ++ markL 7, 3) r m HML.out)
            clear HS hown hC4 hbs hcur hbx HB0 HM enb x0 x1 hwb hlb hlb'
            have hw1 : IntKind.i64.wrap ((m : Int) + 1 - 1) = (m : Int) := by rw [i64_w]; unfold wrap64; omega
            have hw2 : IntKind.i64.wrap (m : Int) = (m : Int) := by rw [i64_w]; unfold wrap64; omega
            have hw3 : (m : Int) + 1 - 1 = (m : Int) := by omega
            go_region_held3 (fun w' => w'.cell? ⟨bk, m * 2, none⟩ = some (.string bs) ∧ w'.cell? ⟨bk, m * 2 + 1, none⟩ = some (.int .i64 b.2) ∧ w'.cell? ⟨nb, 0, none⟩ = some (.int .i64 7) ∧ w'.cell? ⟨w.heap.size, 7, none⟩ = some (.string ⟨#[63]⟩)) (go_keep) (fail)
            rename_i hHeld0
            go_wp2_with fail
            clear hw1 hw2 hw3 hHeld0
            refine (HLB.out _).mono ?_
            rintro e V ⟨rfl, hb⟩
            have hB1 : Below W0.heap.size W0 V := below_then (below_drew1 (below_alloc (Below.refl _ _) _)) (below_drew1 (below_alloc (Below.refl W0.heap.size W0) (.cells #[.string bs, .int .i64 b.2] 90))).size hb
            have HMV := Aside0.mk (HM0.out.below hB1)
            have z0 := pw_cell_below hB1 y0
            have z1 := pw_cell_below hB1 y1
            have hfz := blk_frozen (blk_below HCUR.out hB1) (m * 2)
            have hfz1 := blk_frozen (blk_below HCUR.out hB1) (m * 2 + 1)
            clear hb hB1 hcb hcs y0 y1 HM0
            have HCC := Aside0.mk (show ∀ (j : Nat) (u : Value), ([.string bs, .int .i64 b.2] : List Value)[j]? = some u → V.cell? ⟨bk, (m : Int).toNat * kP.sz + j, none⟩ = some u from fun j u hj => by
              match j, hj with
              | 0, hj => obtain rfl := Option.some.inj hj; exact z0
              | 1, hj => obtain rfl := Option.some.inj hj; exact z1)
            clear z0 z1
            go_wp2_with ((with_reducible refine gate_store (t := 90) (p := 81) (v := .tmp 80) rfl ?_); refine Kd.R_store kP (w0 := w) w.heap.size rfl rfl 90 (.tmp 81) (.tmp 80) rfl 90 (g := bk) (n := m + 1) (cap := c4) (o' := m * 2) (m : Int) 0 (memS (b :: r)) (lb' ++ (⟨#[63]⟩ : ByteArray), 3) (.agg #[.string (lb' ++ (⟨#[63]⟩ : ByteArray)), .int .i64 3]) [.string (lb' ++ (⟨#[63]⟩ : ByteArray)), .int .i64 3] [.string bs, .int .i64 b.2] (fun k => w.heap.size ≤ k ∧ k ≠ w.heap.size) (fun _ => False) (by first | rfl | (simp; done)) rfl rfl rfl (by kernel_rfl) (by intro q hq; simp at hq; rcases hq with rfl | rfl <;> rfl) HMV.out.own p0 (by omega) rfl HCC.out (Nat.le_refl 2) (kP_mkM _ _ _ _) (fun _ hk => hk.elim) HMV.out.B ?_; intro w3 ho hb hg; have HM2 := Aside0.mk (show PaM w w3 w.heap.size (.slice (some ⟨bk, 0, none⟩) (m + 1) c4) ((leastL b 3 ++ markL 7, 3) :: r) from ⟨hb, by rw [← HSET.out, ← HTX.out]; exact ho, blk_grown HMV.out.b3 hg (fun he => (HMV.out.own.1 w.heap.size he.symm).2 rfl), HMV.out.h3⟩); clear ho hb hg)
            go_wp2
            go_roundg k1
            case rel => exact ⟨i + 1, _, by go_num, by omega, by omega, HS2, HM2⟩
            case measure => omega
      · obtain rfl : i = l.length := by omega
        have hz : decide ((l.length : Int) < (l.length : Int)) = false := decide_eq_false (by omega)
        have hs := HS.out
        rw [List.take_length] at hs
        have hwt := pushes_wt _ _ _ hs
        have hml := memS_length st
        obtain ⟨A4, c4, hu⟩ := Kd.R_slice HM.out.own
        rw [hml] at hu
        subst hu
        have HE := Aside0.mk (pathL_end (by omega) hs)
        have HB := Aside0.mk HM.out.B
        clear HS hml hs
        cases st with
        | nil =>
          clear HM hwt
          go_wp2
          go_ret
          exact ⟨by rw [HE.out]; rfl, HB.out⟩
        | cons b r =>
          cases r with
          | cons b2 r =>
            have g1 : (((b :: b2 :: r).length : Int) == 1) = false := beq_eq_false_iff_ne.2 (by simp; omega)
            have g2 : (((b :: b2 :: r).length : Int) != 1) = true := bne_iff_ne.2 (by simp; omega)
            obtain ⟨k2, hk2⟩ : ∃ k2, (b :: b2 :: r).length = k2 := ⟨_, rfl⟩
            rw [hk2] at g1 g2 ⊢
            clear HM hwt hk2
            go_wp2
            go_ret
            exact ⟨by rw [HE.out]; rfl, HB.out⟩
          | nil =>
            have hC4 := (Kd.R_reads' HM.out.own).2.2
            obtain ⟨bk, o, rfl, y0, y1⟩ := at_P hC4 0 (baL b.1, b.2) rfl
            have hwb : b.1.length ≤ 5000 := by simp only [wt] at hwt; omega
            obtain ⟨kd, hkd⟩ := deep_S b.1 (by omega)
            have HD := Aside0.mk (fun V (h : LaidW V) => parse_Deep.calls kd (baL b.1) ((deepS b.1 : Nat) : Int) V h hkd)
            obtain ⟨bs, hbs⟩ : ∃ bs, baL b.1 = bs := ⟨_, rfl⟩
            have HBS := Aside0.mk hbs
            simp only [hbs] at y0
            rw [hbs] at HD
            obtain ⟨dp, hdp⟩ : ∃ d, deepS b.1 = d := ⟨_, rfl⟩
            have HE2 := Aside0.mk (show pathL l = if 32 < dp then [] else b.1 from by rw [HE.out, ← hdp]; rfl)
            rw [hdp] at HD
            rw [Nat.zero_mul, Nat.add_zero] at y0
            clear hC4 hwt hkd hbs hdp HE HM y1 hwb
            go_wp2_with fail
            refine (HD.out _ (HLW.out.below HB.out)).mono ?_
            rintro e V ⟨rfl, hb⟩
            have HB1 := Aside0.mk (below_then HB.out HB.out.size hb)
            have z0 := pw_cell_below hb y0
            clear hb y0
            by_cases h32 : 32 < dp
            · have g1 : decide ((32 : Int) < (dp : Int)) = true := decide_eq_true (by omega)
              have g2 : decide (32 < dp) = true := decide_eq_true h32
              go_wp2
              go_ret
              exact ⟨by rw [HE2.out, if_pos h32]; rfl, HB1.out⟩
            · have g1 : decide ((32 : Int) < (dp : Int)) = false := decide_eq_false (by omega)
              have g2 : decide (32 < dp) = false := decide_eq_false h32
              go_wp2
              go_ret
              exact ⟨by rw [HE2.out, if_neg h32, HBS.out]; rfl, HB1.out⟩
end Go.Proofs.YthebhbomlllpeaaDoor.X
namespace Go.Proofs.YthebhbomlllpeaaDoor.X
set_option linter.unusedVariables false
set_option linter.unusedSimpArgs false
open Go.RowKit Go.Proofs.YthebhbomlllpeaaDoorW.PrintWords Go.Proofs.YthebhbomlllpeaaDoorW.PrintLast Go.Proofs.YthebhbomlllpeaaDoorW.PrintMore
attribute [local go_sem ↓] Go.wp_at_zero Go.wp_at_succ
theorem emp_t {l : List UInt8} {b : ByteArray} (h : baL l = b) (he : l = []) : (b.toList == ([] : List UInt8)) = true ∧ (b.toList == (⟨#[]⟩ : ByteArray).toList) = true ∧ (b.toList != ([] : List UInt8)) = false ∧ (b.toList != (⟨#[]⟩ : ByteArray).toList) = false := by
  subst h he
  exact ⟨by rw [baL_toList]; rfl, beq_self_eq_true _, by rw [baL_toList]; rfl, bne_self_eq_false _⟩
theorem emp_f {l : List UInt8} {b : ByteArray} (h : baL l = b) (he : l ≠ []) : (b.toList == ([] : List UInt8)) = false ∧ (b.toList == (⟨#[]⟩ : ByteArray).toList) = false ∧ (b.toList != ([] : List UInt8)) = true ∧ (b.toList != (⟨#[]⟩ : ByteArray).toList) = true := by
  subst h
  have h1 : (baL l).toList ≠ [] := by rw [baL_toList]; exact he
  exact ⟨beq_eq_false_iff_ne.2 h1, beq_eq_false_iff_ne.2 (by rw [nil_bytes]; exact h1), bne_iff_ne.2 h1, bne_iff_ne.2 (by rw [nil_bytes]; exact h1)⟩
/-- are steps a path? -/
def rpB (l : List StS) : Bool := !(pathL l).isEmpty
set_option maxHeartbeats 4000000 in
set_option maxRecDepth 100000 in
theorem rightPath_show (l : List StS) (A : Option Addr) (c : Nat) (w : World) (hLW : LaidW w) (hC : Kd.C k45 w A l.length l) (hl : ∀ x ∈ l, x.f1.size ≤ 9223372036854775807) (hl63 : l.length ≤ 140737488355328) :
    Calls Tryd.prog 41 #[.slice A l.length c] w fun e w' => e = .returned (.bool (rpB l)) ∧ Below w.heap.size w w' := by
  have HP := Aside0.mk (path_show l A c w hLW hC hl hl63)
  obtain ⟨r, hr⟩ : ∃ r, rpB l = r := ⟨_, rfl⟩
  have HR := Aside0.mk hr
  rw [hr]
  clear hC hl hLW hr
  go_enter Tryd.func41, Tryd.ntmps41
  go_wp2_with fail
  refine HP.out.mono ?_
  rintro e w1 ⟨rfl, hb⟩
  have HB1 := Aside0.mk hb
  clear hb
  obtain ⟨b, hbE⟩ : ∃ b, baL (pathL l) = b := ⟨_, rfl⟩
  rw [hbE]
  by_cases he : pathL l = []
  · obtain ⟨e1, e2, e3, e4⟩ := emp_t hbE he
    have HF := Aside0.mk (show r = false by rw [← HR.out]; unfold rpB; rw [he]; rfl)
    clear hbE he
    go_wp2
    go_ret
    exact ⟨by rw [HF.out]; rfl, HB1.out⟩
  · obtain ⟨e1, e2, e3, e4⟩ := emp_f hbE he
    have HF := Aside0.mk (show r = true by
      rw [← HR.out]; unfold rpB
      cases hh : pathL l with
      | nil => exact absurd hh he
      | cons _ _ => rfl)
    clear hbE he
    go_wp2
    go_ret
    exact ⟨by rw [HF.out]; rfl, HB1.out⟩
theorem neB {l : List UInt8} (h : l ≠ []) : (!l.isEmpty) = true := by
  cases l with
  | nil => exact absurd rfl h
  | cons _ _ => rfl
end Go.Proofs.YthebhbomlllpeaaDoor.X
namespace Go.Proofs.YthebhbomlllpeaaDoor.X
set_option linter.unusedVariables false
set_option linter.unusedSimpArgs false
open Go.RowKit Go.Proofs.YthebhbomlllpeaaDoorW.PrintWords Go.Proofs.YthebhbomlllpeaaDoorW.PrintLast Go.Proofs.YthebhbomlllpeaaDoorW.PrintMore
abbrev zRule4 : Array Value := #[.string ⟨#[]⟩, .slice none 0 0, .int .i64 0, .slice none 0 0]
set_option maxHeartbeats 4000000 in
set_option maxRecDepth 100000 in
theorem eachR_calls (w : World) (A : Option Addr) (c : Nat) (xs : List S85) (g : Nat → List UInt8) (sep : ByteArray) (hsep : sep.size ≤ 2) (hC : Kd.C k85 w A xs.length xs) (hn : xs.length ≤ 1000) (hg : ∀ i, (g i).length ≤ 100000000)
    (hby : ∀ (W : World) (i : Nat) (cs : List Value), i < xs.length → Below w.heap.size w W → k85.K W (xs.getD i z85) cs → Calls Tryd.prog 70 #[.int .i64 i, .agg cs.toArray] W fun e W' => e = .returned (.string (baL (g i))) ∧ Below W.heap.size W W') :
    Calls Tryd.prog 69 #[.slice A xs.length c, .func (.func 70) #[] #[], .string sep] w fun e w' => e = .returned (.tuple #[.string (baL (eachG g xs.length sep.data.toList).1), .bool (eachG g xs.length sep.data.toList).2]) ∧ Below w.heap.size w w' := by
  have HC := Aside0.mk hC
  have HBY := Aside0.mk hby
  have HG := Aside0.mk (And.intro hg hsep)
  have HR := Aside0.mk (Kd.R_nil Kd.string 9 w w.heap.size (fun k => w.heap.size ≤ k))
  have HB := Aside0.mk (Below.refl w.heap.size w)
  clear hC hby hg hsep
  go_enter Tryd.func69, Tryd.ntmps69
  go_wp2
  go_loopg [8, 14] (xs.length + 1) (fun kq v8 v14 w' => ∃ (i : Nat), v14 = .int .i64 i ∧ kq + i = xs.length + 1 ∧ i ≤ xs.length ∧ Aside0 (∀ j, j < i → g j ≠ []) ∧ Aside0 (Kd.R Kd.string 9 w' w.heap.size (fun k => w.heap.size ≤ k) v8 ((List.range i).map (fun j => baL (g j)))) ∧ Aside0 (Below w.heap.size w w'))
  case atStart => exact ⟨0, rfl, by omega, by omega, ⟨fun j hj => by omega⟩, HR, HB⟩
  case round =>
    clear HR HB
    obtain ⟨i, rfl, hk, hi, HE, HV, HB⟩ := hrel
    by_cases hlt : i < xs.length
    · have hz : decide ((i : Int) < (xs.length : Int)) = true := decide_eq_true (by omega)
      have hz2 : decide (i < xs.length) = true := decide_eq_true hlt
      obtain ⟨k1, rfl⟩ : ∃ k1, gk = k1 + 1 := ⟨gk - 1, by omega⟩
      obtain ⟨bk, o, cs, rfl, hcl, hK, hcell⟩ := row_at (Kd.C_below HC.out HB.out) z85 (by decide) i hlt
      have hcl : cs.length = 4 := hcl
      have hrg : wr.rangeAt bk (o + i * 4) cs := hcell
      have h1c := k85.K_one hK
      have HK := Aside0.mk (And.intro hK (And.intro hrg (And.intro hcl h1c)))
      obtain ⟨n, en⟩ : ∃ n, wr.heap.size = n := ⟨_, rfl⟩
      have hN := blk_new wr (.cells zRule4 85)
      rw [en] at hN
      have HN := Aside0.mk hN
      have HBA := Aside0.mk (below_alloc HB.out (.cells zRule4 85))
      have HNB := Aside0.mk (show w.heap.size ≤ n by rw [← en]; exact HB.out.size)
      have HRG := Aside0.mk (show (sets (wr.alloc (.cells zRule4 85)) n 0 cs).rangeAt n 0 cs from by
        have h1 := range_blk (blk_sets cs 0 _ _ hN)
        rwa [setsA_all (hcl.trans (by kernel_rfl)), List.toList_toArray] at h1)
      have hBW : Below wr.heap.size wr (sets (wr.alloc (.cells zRule4 85)) n 0 cs) := below_sets (w0 := wr) (by omega) cs 0 _ (below_alloc (Below.refl _ _) _)
      have HBW := Aside0.mk hBW
      clear hK hrg hcl h1c hcell hN hBW
      go_wp2_with (first | ((with_reducible refine gate_dst (N := 18) rfl ?_); refine wpList_load_mid rfl 85 (.tmp 17) rfl bk (o + i * 4) rfl cs _ HK.out.2.1 Tryd.underlying85 rfl (by rw [HK.out.2.2.1]; kernel_rfl) ?_) | ((with_reducible refine gate_store (t := 85) (p := 10) (v := .tmp 18) rfl ?_); refine wpList_store_mid rfl 85 (.tmp 10) (.tmp 18) rfl n 0 cs.toArray rfl rfl (there_blk HN.out (by rw [List.size_toArray, HK.out.2.2.1]; exact Nat.le_of_eq (by kernel_rfl))) (by rw [List.size_toArray, HK.out.2.2.1]; kernel_rfl) (all_oneCell_toArray HK.out.2.2.2) ?_; rw [setCells_sets, List.toList_toArray]) | ((with_reducible refine gate_dst (N := 21) rfl ?_); refine wpList_load_mid rfl 85 (.tmp 10) rfl n 0 rfl cs _ HRG.out Tryd.underlying85 rfl (by rw [HK.out.2.2.1]; kernel_rfl) ?_))
      have HCB := Aside0.mk (below_then HB.out HB.out.size HBW.out)
      refine (HBY.out _ i cs hlt HCB.out (k85.K_below HBW.out HK.out.1)).mono ?_
      rintro e w1 ⟨rfl, hb⟩
      have hb1 := below_then HBW.out HBW.out.size hb
      have HB1 := Aside0.mk (below_then HB.out HB.out.size hb1)
      have HV1 := Aside0.mk (Kd.R_below HV.out hb1)
      clear hb hb1
      obtain ⟨b, hbE⟩ : ∃ b, baL (g i) = b := ⟨_, rfl⟩
      by_cases he : g i = []
      · have e1 : (b.toList == ([] : List UInt8)) = true := by rw [← hbE, he, baL_toList]; exact beq_self_eq_true _
        have e2 : (b.toList == (⟨#[]⟩ : ByteArray).toList) = true := by rw [← hbE, he]; exact beq_self_eq_true _
        have HE := Aside0.mk (eachG_no (sep := sep.data.toList) hlt he)
        clear he
        rw [hbE]
        clear hbE
        go_wp2
        go_ret2
        rw [HE.out]
        exact ⟨rfl, HB1.out⟩
      · have e1 : (b.toList == ([] : List UInt8)) = false := by rw [beq_eq_false_iff_ne, ← hbE, baL_toList]; exact he
        have e2 : (b.toList == (⟨#[]⟩ : ByteArray).toList) = false := by rw [beq_eq_false_iff_ne, ← hbE, baL_toList]; exact fun h => he (h.trans nil_bytes)
        have HBE := Aside0.mk (And.intro hbE he)
        obtain ⟨A8, c8, rfl⟩ := Kd.R_slice HV1.out
        have HL : Aside0 (((List.range i).map fun j => baL (g j)).length ≤ 1000) := ⟨by rw [List.length_map, List.length_range]; omega⟩
        rw [hbE]
        clear hbE he
        obtain ⟨L, hL⟩ : ∃ L, ((List.range i).map fun j => baL (g j)) = L := ⟨_, rfl⟩
        rw [hL] at HV1 HL
        rw [hL]
        have HLE := Aside0.mk hL
        clear hL
        go_wp2_with ((with_reducible refine gate_builtin (b := .append) (xs := #[.tmp 25, .tmp 27]) rfl ?_); at_builtin; refine Kd.R_append Kd.string (w0 := w) w.heap.size rfl (.tmp 25) (.tmp 27) 46 9 (.string ⟨#[]⟩) 16 rfl Tryd.underlying46 info9s rfl (by decide) (by decide) (.slice A8 L.length c8) L b [.string b] (fun k => w.heap.size ≤ k) (fun _ => False) rfl (by first | rfl | (simp; rfl)) rfl (fun _ hk => hk.elim) (fun k hk => Nat.le_trans HB1.out.size hk) HV1.out HB1.out HB1.out.size (by have := HL.out; omega) ?_; intro v1 w2 ho hb hg hat; have HV2 := Aside0.mk ho; have HB2 := Aside0.mk hb; clear ho hb hg hat)
        go_roundg k1
        case rel => exact ⟨i + 1, by go_num, by omega, by omega, ⟨fun j hj => by rcases Nat.lt_succ_iff_lt_or_eq.1 hj with h | h; exact HE.out j h; exact h ▸ HBE.out.2⟩, ⟨by rw [range_snoc, HBE.out.1, HLE.out]; exact HV2.out⟩, HB2⟩
        case measure => omega
    · obtain rfl : i = xs.length := by omega
      have hz : decide ((xs.length : Int) < (xs.length : Int)) = false := decide_eq_false (by omega)
      obtain ⟨A8, c8, rfl⟩ := Kd.R_slice HV.out
      have hj := join_calls sep HV.out (by rw [range_data]; exact join_bound HG.out.1 HG.out.2 hn) (by rw [List.length_map, List.length_range]; exact hn)
      rw [range_data] at hj
      obtain ⟨L, hL⟩ : ∃ L, ((List.range xs.length).map fun j => baL (g j)) = L := ⟨_, rfl⟩
      rw [hL] at hj ⊢
      clear HV hL
      have HJ := Aside0.mk hj
      have HE2 := Aside0.mk (eachG_yes (sep := sep.data.toList) HE.out)
      clear hj
      go_wp2_with fail
      refine HJ.out.mono ?_
      rintro e w1 ⟨rfl, hb⟩
      have HB1 := Aside0.mk (below_then HB.out HB.out.size hb)
      clear hb
      go_wp2
      go_ret2
      rw [HE2.out]
      exact ⟨rfl, HB1.out⟩
end Go.Proofs.YthebhbomlllpeaaDoor.X
namespace Go.Proofs.YthebhbomlllpeaaDoor.X
set_option linter.unusedVariables false
set_option linter.unusedSimpArgs false
open Go.RowKit Go.Proofs.YthebhbomlllpeaaDoorW.PrintWords Go.Proofs.YthebhbomlllpeaaDoorW.PrintLast Go.Proofs.YthebhbomlllpeaaDoorW.PrintMore
def okTB (t : TmS) : Bool := decide (-9223372036854775808 ≤ t.f1.f1) && (decide (t.f1.f1 ≤ 9223372036854775807) && decide (t.f0.size ≤ 9223372036854775807))
theorem okTB_of {t : TmS} : okTB t = true ↔ okT t := by
  unfold okTB okT
  simp only [Bool.and_eq_true, decide_eq_true_eq]
  exact ⟨fun h => ⟨⟨h.1, h.2.1⟩, h.2.2⟩, fun h => ⟨h.1.1, h.1.2, h.2⟩⟩
def okAB (l : List TmS) : Bool := l.all okTB && decide (l.length ≤ 1000)
theorem okAB_of {p : ByteArray} {l : List TmS} : okAB l = true ↔ okA ⟨p, l⟩ := by
  unfold okAB okA
  simp only [Bool.and_eq_true, decide_eq_true_eq, List.all_eq_true]
  exact ⟨fun h => ⟨fun x hx => okTB_of.1 (h.1 x hx), h.2⟩, fun h => ⟨fun x hx => okTB_of.2 (h.1 x hx), h.2⟩⟩
def okSB (l : List StS) : Bool := (l.all fun x => decide (x.f1.size ≤ 9223372036854775807)) && decide (l.length ≤ 140737488355328)
theorem okSB_of {l : List StS} : okSB l = true ↔ ((∀ x ∈ l, x.f1.size ≤ 9223372036854775807) ∧ l.length ≤ 140737488355328) := by
  unfold okSB
  simp only [Bool.and_eq_true, decide_eq_true_eq, List.all_eq_true]
def show_Path.f (l0 : List S45) : Option ByteArray := if okSB l0 = true then some (baL (pathL l0)) else none
theorem show_Path.calls (A0 : Option Addr) (c0 : Nat) (l0 : List S45) (r : ByteArray) (w : World) (hLW : LaidW w) (hr0 : Kd.C k45 w A0 l0.length l0) (hc0 : l0.length ≤ c0) (h : show_Path.f l0 = some r) :
    Calls Tryd.prog 23 #[.slice A0 l0.length c0] w fun e w' => e = .returned (.string r) ∧ Below w.heap.size w w' := by
  unfold show_Path.f at h
  split at h
  · rename_i hk
    obtain rfl := Option.some.inj h
    exact path_show l0 A0 c0 w hLW hr0 (okSB_of.1 hk).1 (okSB_of.1 hk).2
  · cases h
def show_RightPath.f (l0 : List S45) : Option Bool := if okSB l0 = true then some (rpB l0) else none
theorem show_RightPath.calls (A0 : Option Addr) (c0 : Nat) (l0 : List S45) (r : Bool) (w : World) (hLW : LaidW w) (hr0 : Kd.C k45 w A0 l0.length l0) (hc0 : l0.length ≤ c0) (h : show_RightPath.f l0 = some r) :
    Calls Tryd.prog 41 #[.slice A0 l0.length c0] w fun e w' => e = .returned (.bool r) ∧ Below w.heap.size w w' := by
  unfold show_RightPath.f at h
  split at h
  · rename_i hk
    obtain rfl := Option.some.inj h
    exact rightPath_show l0 A0 c0 w hLW hr0 (okSB_of.1 hk).1 (okSB_of.1 hk).2
  · cases h
def show_Atom.f (a0_0 : ByteArray) (l0_1 : List S71) : Option ByteArray := if okAB l0_1 = true then some (baL (atomL ⟨a0_0, l0_1⟩)) else none
theorem show_Atom.calls (a0_0 : ByteArray) (A0_1 : Option Addr) (c0_1 : Nat) (l0_1 : List S71) (r : ByteArray) (w : World) (hLW : LaidW w) (hr0_1 : Kd.C k71 w A0_1 l0_1.length l0_1) (hc0_1 : l0_1.length ≤ c0_1) (h : show_Atom.f a0_0 l0_1 = some r) :
    Calls Tryd.prog 44 #[.agg #[.string a0_0, .slice A0_1 l0_1.length c0_1]] w fun e w' => e = .returned (.string r) ∧ Below w.heap.size w w' := by
  unfold show_Atom.f at h
  split at h
  · rename_i hk
    obtain rfl := Option.some.inj h
    exact atom_show ⟨a0_0, l0_1⟩ A0_1 c0_1 w hLW hr0_1 (okAB_of.1 hk)
  · cases h
def factL (q : AtS) : List UInt8 := if atomL q = [] then [] else atomL q ++ [46]
def questL (q : AtS) : List UInt8 := if atomL q = [] then [] else [63, 45, 32] ++ (atomL q ++ [46, 10])
theorem eachG_zero (sep : List UInt8) : eachG (fun _ => []) 0 sep = ([], true) := by
  unfold eachG eachL
  rw [List.range_zero, List.map_nil, if_neg (by simp), Lib.join_nil]
theorem eachL_zero (w : World) (A : Option Addr) (c : Nat) (hC : Kd.C k115 w A 0 ([] : List LtS)) :
    Calls Tryd.prog 72 #[.slice A 0 c, .func (.func 73) #[] #[], .string ⟨#[44, 32]⟩] w fun e w' => e = .returned (.tuple #[.string ⟨#[]⟩, .bool true]) ∧ Below w.heap.size w w' := by
  have h := eachL_calls w A c [] (fun _ => []) ⟨#[44, 32]⟩ (by decide) hC (by simp) (fun _ => by simp) (fun W i cs hi => absurd hi (by simp))
  rw [show ([] : List LtS).length = 0 from rfl, eachG_zero] at h
  exact h
theorem eachR_zero (w : World) (A : Option Addr) (c : Nat) (hC : Kd.C k85 w A 0 ([] : List RlS)) :
    Calls Tryd.prog 69 #[.slice A 0 c, .func (.func 70) #[] #[], .string ⟨#[10]⟩] w fun e w' => e = .returned (.tuple #[.string ⟨#[]⟩, .bool true]) ∧ Below w.heap.size w w' := by
  have h := eachR_calls w A c [] (fun _ => []) ⟨#[10]⟩ (by decide) hC (by simp) (fun _ => by simp) (fun W i cs hi => absurd hi (by simp))
  rw [show ([] : List RlS).length = 0 from rfl, eachG_zero] at h
  exact h
set_option maxHeartbeats 4000000 in
set_option maxRecDepth 100000 in
theorem fact_show (q : AtS) (A1 : Option Addr) (c1 : Nat) (A3 : Option Addr) (c3 : Nat) (w : World) (hLW : LaidW w) (hq : okA q) (hA1 : Kd.C k71 w A1 q.f1.length q.f1) (hA3 : Kd.C k115 w A3 0 ([] : List LtS)) :
    Calls Tryd.prog 45 #[.agg #[.string q.f0, .slice A1 q.f1.length c1, .int .i64 0, .slice A3 0 c3]] w fun e w' => e = .returned (.string (baL (factL q))) ∧ Below w.heap.size w w' := by
  obtain ⟨W, hW⟩ : ∃ W, w.alloc (.cells #[.string q.f0, .slice A1 q.f1.length c1, .int .i64 0, .slice A3 0 c3] 85) = W := ⟨_, rfl⟩
  have hBW : Below w.heap.size w W := hW ▸ below_alloc (Below.refl w.heap.size w) _
  have hN := blk_new w (.cells #[.string q.f0, .slice A1 q.f1.length c1, .int .i64 0, .slice A3 0 c3] 85)
  rw [hW] at hN
  have d0 : W.cell? ⟨w.heap.size, 0, none⟩ = some (.string q.f0) := (blk_cell hN 0).trans rfl
  have d1 : W.cell? ⟨w.heap.size, 1, none⟩ = some (.slice A1 q.f1.length c1) := (blk_cell hN 1).trans rfl
  have d2 : W.cell? ⟨w.heap.size, 2, none⟩ = some (.int .i64 0) := (blk_cell hN 2).trans rfl
  have d3 : W.cell? ⟨w.heap.size, 3, none⟩ = some (.slice A3 0 c3) := (blk_cell hN 3).trans rfl
  have HB := Aside0.mk hBW
  have HN := Aside0.mk hN
  have HHD := Aside0.mk (head_calls q A1 c1 0 (by decide) W (hLW.below hBW) (Kd.C_below hA1 hBW) hq)
  have HEA := Aside0.mk (fun (V : World) (h : Below w.heap.size w V) => eachL_zero V A3 c3 (Kd.C_below hA3 h))
  have hhl := head_len q 0 hq
  obtain ⟨hd, hhd⟩ : ∃ p, headL q 0 = p := ⟨_, rfl⟩
  have HE := Aside0.mk (show factL q = if hd = [] then [] else hd ++ [46] by rw [← hhd]; rfl)
  obtain ⟨res, hres⟩ : ∃ r, factL q = r := ⟨_, rfl⟩
  rw [hres] at HE
  rw [hres]
  rw [show headL q ((0 : Nat) : Int) = hd from hhd] at HHD
  rw [hhd] at hhl
  obtain ⟨hb, hbE⟩ : ∃ b, baL hd = b := ⟨_, rfl⟩
  have hbS : hb.size ≤ 200000 := by rw [← hbE, baL_size]; exact hhl
  rw [hbE] at HHD
  clear hA1 hA3 hq hLW hBW hN hres hhd hhl
  go_enter Tryd.func45, Tryd.ntmps45
  go_wp2_with fail
  refine HHD.out.mono ?_
  rintro e w1 ⟨rfl, hb1⟩
  have HB1 := Aside0.mk (below_then HB.out HB.out.size hb1)
  have HN1 := Aside0.mk (blk_below HN.out hb1)
  clear hb1 d0 d1 d2 d3 hW
  have d3 : w1.cell? ⟨w.heap.size, 3, none⟩ = some (.slice A3 0 c3) := (blk_cell HN1.out 3).trans rfl
  go_wp2_with fail
  refine (HEA.out _ HB1.out).mono ?_
  rintro e w2 ⟨rfl, hb2⟩
  have HB2 := Aside0.mk (below_then HB1.out HB1.out.size hb2)
  have HN2 := Aside0.mk (blk_below HN1.out hb2)
  clear hb2 d3
  have d3 : w2.cell? ⟨w.heap.size, 3, none⟩ = some (.slice A3 0 c3) := (blk_cell HN2.out 3).trans rfl
  by_cases hd0 : hd = []
  · obtain ⟨g1, g2, g3, g4⟩ := emp_t hbE hd0
    have HE2 := Aside0.mk (HE.out.trans (if_pos hd0))
    clear hbE hd0
    go_wp2
    go_ret
    exact ⟨by rw [HE2.out]; rfl, HB2.out⟩
  obtain ⟨g1, g2, g3, g4⟩ := emp_f hbE hd0
  have HHB := Aside0.mk hbE
  have HE2 := Aside0.mk (HE.out.trans (if_neg hd0))
  clear hbE hd0
  have kq1 : (9223372036854775807 < hb.size + 1) = False := eq_false (by omega)
  go_wp2
  go_ret
  exact ⟨by rw [HE2.out, ← HHB.out]; exact ret_str (ba_eq (by simp)), HB2.out⟩
set_option maxHeartbeats 4000000 in
set_option maxRecDepth 100000 in
theorem quest_show (q : AtS) (A0 : Option Addr) (c0 : Nat) (A2 : Option Addr) (c2 : Nat) (w : World) (hLW : LaidW w) (hq : okA q) (hs : (atomL q).length ≤ 19000) (hA0 : Kd.C k85 w A0 0 ([] : List RlS)) (hA2 : Kd.C k71 w A2 q.f1.length q.f1) :
    Calls Tryd.prog 43 #[.agg #[.slice A0 0 c0, .string q.f0, .slice A2 q.f1.length c2]] w fun e w' => e = .returned (.string (baL (questL q))) ∧ Below w.heap.size w w' := by
  obtain ⟨W, hW⟩ : ∃ W, w.alloc (.cells #[.slice A0 0 c0, .string q.f0, .slice A2 q.f1.length c2] 77) = W := ⟨_, rfl⟩
  have hBW : Below w.heap.size w W := hW ▸ below_alloc (Below.refl w.heap.size w) _
  have hN := blk_new w (.cells #[.slice A0 0 c0, .string q.f0, .slice A2 q.f1.length c2] 77)
  rw [hW] at hN
  have d0 : W.cell? ⟨w.heap.size, 0, none⟩ = some (.slice A0 0 c0) := (blk_cell hN 0).trans rfl
  have HB := Aside0.mk hBW
  have HN := Aside0.mk hN
  have HEA := Aside0.mk (eachR_zero W A0 c0 (Kd.C_below hA0 hBW))
  have HAT := Aside0.mk (fun (V : World) (h : Below w.heap.size w V) => atom_show q A2 c2 V (hLW.below h) (Kd.C_below hA2 h) hq)
  obtain ⟨qt, hqt⟩ : ∃ x, atomL q = x := ⟨_, rfl⟩
  have HE := Aside0.mk (show questL q = if qt = [] then [] else [63, 45, 32] ++ (qt ++ [46, 10]) by rw [← hqt]; rfl)
  obtain ⟨res, hres⟩ : ∃ r, questL q = r := ⟨_, rfl⟩
  rw [hres] at HE
  rw [hres]
  rw [hqt] at hs
  simp only [hqt] at HAT
  obtain ⟨qb, qbE⟩ : ∃ b, baL qt = b := ⟨_, rfl⟩
  have qbS : qb.size ≤ 19000 := by rw [← qbE, baL_size]; exact hs
  simp only [qbE] at HAT
  clear hA0 hA2 hq hLW hBW hN hres hqt hs
  go_enter Tryd.func43, Tryd.ntmps43
  go_wp2_with fail
  refine HEA.out.mono ?_
  rintro e w1 ⟨rfl, hb1⟩
  have HB1 := Aside0.mk (below_then HB.out HB.out.size hb1)
  have HN1 := Aside0.mk (blk_below HN.out hb1)
  clear hb1 d0 hW HEA
  have d0 : w1.cell? ⟨w.heap.size, 0, none⟩ = some (.slice A0 0 c0) := (blk_cell HN1.out 0).trans rfl
  have d1 : w1.cell? ⟨w.heap.size, 1, none⟩ = some (.string q.f0) := (blk_cell HN1.out 1).trans rfl
  have d2 : w1.cell? ⟨w.heap.size, 2, none⟩ = some (.slice A2 q.f1.length c2) := (blk_cell HN1.out 2).trans rfl
  go_wp2_with fail
  refine (HAT.out _ HB1.out).mono ?_
  rintro e w2 ⟨rfl, hb2⟩
  have HB2 := Aside0.mk (below_then HB1.out HB1.out.size hb2)
  have HN2 := Aside0.mk (blk_below HN1.out hb2)
  clear hb2 d0 d1 d2
  have d0 : w2.cell? ⟨w.heap.size, 0, none⟩ = some (.slice A0 0 c0) := (blk_cell HN2.out 0).trans rfl
  have hz : (⟨#[]⟩ : ByteArray).size = 0 := rfl
  have kq2 : (9223372036854775807 < 3 + qb.size) = False := eq_false (by omega)
  have kq3 : (9223372036854775807 < 3 + qb.size + 2) = False := eq_false (by omega)
  have g9 : decide (20000 < 3 + qb.size + 2) = false := decide_eq_false (by omega)
  have g10 : decide ((20000 : Int) < 3 + (qb.size : Int) + 2) = false := decide_eq_false (by omega)
  by_cases hq0 : qt = []
  · obtain ⟨g1, g2, g3, g4⟩ := emp_t qbE hq0
    have HE2 := Aside0.mk (HE.out.trans (if_pos hq0))
    clear hq0 qbE
    go_wp2
    go_ret
    exact ⟨by rw [HE2.out]; rfl, HB2.out⟩
  obtain ⟨g1, g2, g3, g4⟩ := emp_f qbE hq0
  have HQB := Aside0.mk qbE
  have HE2 := Aside0.mk (HE.out.trans (if_neg hq0))
  clear hq0 qbE
  go_wp2
  go_ret
  exact ⟨by rw [HE2.out, ← HQB.out]; exact ret_str (ba_eq (by simp)), HB2.out⟩
set_option maxRecDepth 100000 in
theorem questR_show (q : AtS) (A0 : Option Addr) (c0 : Nat) (A2 : Option Addr) (c2 : Nat) (w : World) (hLW : LaidW w) (hq : okA q) (hs : (atomL q).length ≤ 19000) (hA0 : Kd.C k85 w A0 0 ([] : List RlS)) (hA2 : Kd.C k71 w A2 q.f1.length q.f1) :
    Calls Tryd.prog 42 #[.agg #[.slice A0 0 c0, .string q.f0, .slice A2 q.f1.length c2]] w fun e w' => e = .returned (.bool (!(questL q).isEmpty)) ∧ Below w.heap.size w w' := by
  have hB := below_alloc (Below.refl w.heap.size w) (.cells #[.slice A0 0 c0, .string q.f0, .slice A2 q.f1.length c2] 77)
  have HP := Aside0.mk (quest_show q A0 c0 A2 c2 _ (hLW.below hB) hq hs (Kd.C_below hA0 hB) (Kd.C_below hA2 hB))
  have HB := Aside0.mk hB
  obtain ⟨r, hr⟩ : ∃ r, (!(questL q).isEmpty) = r := ⟨_, rfl⟩
  have HR := Aside0.mk hr
  rw [hr]
  clear hA0 hA2 hq hs hLW hB hr
  go_enter Tryd.func42, Tryd.ntmps42
  go_wp2_with fail
  refine HP.out.mono ?_
  rintro e w1 ⟨rfl, hb⟩
  have HB1 := Aside0.mk (below_then HB.out HB.out.size hb)
  clear hb
  obtain ⟨b, hbE⟩ : ∃ b, baL (questL q) = b := ⟨_, rfl⟩
  rw [hbE]
  by_cases he : questL q = []
  · obtain ⟨e1, e2, e3, e4⟩ := emp_t hbE he
    have HF := Aside0.mk (show r = false by rw [← HR.out, he]; rfl)
    clear hbE he
    go_wp2
    go_ret
    exact ⟨by rw [HF.out]; rfl, HB1.out⟩
  · obtain ⟨e1, e2, e3, e4⟩ := emp_f hbE he
    have HF := Aside0.mk (show r = true by rw [← HR.out, neB he])
    clear hbE he
    go_wp2
    go_ret
    exact ⟨by rw [HF.out]; rfl, HB1.out⟩
def show_Rule.f (a0_0 : ByteArray) (l0_1 : List S71) (a0_2 : Int) (l0_3 : List S115) : Option ByteArray := if okAB l0_1 = true ∧ a0_2 = 0 ∧ l0_3.length = 0 then some (baL (factL ⟨a0_0, l0_1⟩)) else none
theorem show_Rule.calls (a0_0 : ByteArray) (A0_1 : Option Addr) (c0_1 : Nat) (l0_1 : List S71) (a0_2 : Int) (A0_3 : Option Addr) (c0_3 : Nat) (l0_3 : List S115) (r : ByteArray) (w : World) (hLW : LaidW w) (hr0_1 : Kd.C k71 w A0_1 l0_1.length l0_1) (hc0_1 : l0_1.length ≤ c0_1) (hr0_3 : Kd.C k115 w A0_3 l0_3.length l0_3) (hc0_3 : l0_3.length ≤ c0_3) (h : show_Rule.f a0_0 l0_1 a0_2 l0_3 = some r) :
    Calls Tryd.prog 45 #[.agg #[.string a0_0, .slice A0_1 l0_1.length c0_1, .int .i64 a0_2, .slice A0_3 l0_3.length c0_3]] w fun e w' => e = .returned (.string r) ∧ Below w.heap.size w w' := by
  unfold show_Rule.f at h
  split at h
  · rename_i hk
    obtain ⟨hk, rfl, h0⟩ := hk
    obtain rfl := Option.some.inj h
    obtain rfl := List.length_eq_zero_iff.1 h0
    exact fact_show ⟨a0_0, l0_1⟩ A0_1 c0_1 A0_3 c0_3 w hLW (okAB_of.1 hk) hr0_1 hr0_3
  · cases h
def show_Text.f (l0_0 : List S85) (a0_1 : ByteArray) (l0_2 : List S71) : Option ByteArray := if okAB l0_2 = true ∧ l0_0.length = 0 ∧ (atomL ⟨a0_1, l0_2⟩).length ≤ 19000 then some (baL (questL ⟨a0_1, l0_2⟩)) else none
theorem show_Text.calls (A0_0 : Option Addr) (c0_0 : Nat) (l0_0 : List S85) (a0_1 : ByteArray) (A0_2 : Option Addr) (c0_2 : Nat) (l0_2 : List S71) (r : ByteArray) (w : World) (hLW : LaidW w) (hr0_0 : Kd.C k85 w A0_0 l0_0.length l0_0) (hc0_0 : l0_0.length ≤ c0_0) (hr0_2 : Kd.C k71 w A0_2 l0_2.length l0_2) (hc0_2 : l0_2.length ≤ c0_2) (h : show_Text.f l0_0 a0_1 l0_2 = some r) :
    Calls Tryd.prog 43 #[.agg #[.slice A0_0 l0_0.length c0_0, .string a0_1, .slice A0_2 l0_2.length c0_2]] w fun e w' => e = .returned (.string r) ∧ Below w.heap.size w w' := by
  unfold show_Text.f at h
  split at h
  · rename_i hk
    obtain ⟨hk, h0, hs⟩ := hk
    obtain rfl := Option.some.inj h
    obtain rfl := List.length_eq_zero_iff.1 h0
    exact quest_show ⟨a0_1, l0_2⟩ A0_0 c0_0 A0_2 c0_2 w hLW (okAB_of.1 hk) hs hr0_0 hr0_2
  · cases h
def show_Right.f (l0_0 : List S85) (a0_1 : ByteArray) (l0_2 : List S71) : Option Bool := if okAB l0_2 = true ∧ l0_0.length = 0 ∧ (atomL ⟨a0_1, l0_2⟩).length ≤ 19000 then some (!(questL ⟨a0_1, l0_2⟩).isEmpty) else none
theorem show_Right.calls (A0_0 : Option Addr) (c0_0 : Nat) (l0_0 : List S85) (a0_1 : ByteArray) (A0_2 : Option Addr) (c0_2 : Nat) (l0_2 : List S71) (r : Bool) (w : World) (hLW : LaidW w) (hr0_0 : Kd.C k85 w A0_0 l0_0.length l0_0) (hc0_0 : l0_0.length ≤ c0_0) (hr0_2 : Kd.C k71 w A0_2 l0_2.length l0_2) (hc0_2 : l0_2.length ≤ c0_2) (h : show_Right.f l0_0 a0_1 l0_2 = some r) :
    Calls Tryd.prog 42 #[.agg #[.slice A0_0 l0_0.length c0_0, .string a0_1, .slice A0_2 l0_2.length c0_2]] w fun e w' => e = .returned (.bool r) ∧ Below w.heap.size w w' := by
  unfold show_Right.f at h
  split at h
  · rename_i hk
    obtain ⟨hk, h0, hs⟩ := hk
    obtain rfl := Option.some.inj h
    obtain rfl := List.length_eq_zero_iff.1 h0
    exact questR_show ⟨a0_1, l0_2⟩ A0_0 c0_0 A0_2 c0_2 w hLW (okAB_of.1 hk) hs hr0_0 hr0_2
  · cases h
end Go.Proofs.YthebhbomlllpeaaDoor.X
namespace Go.Proofs.YthebhbomlllpeaaDoor.X
set_option linter.unusedVariables false
set_option linter.unusedSimpArgs false
open Go.RowKit Go.Proofs.YthebhbomlllpeaaDoorW.PrintWords Go.Proofs.YthebhbomlllpeaaDoorW.PrintLast Go.Proofs.YthebhbomlllpeaaDoorW.PrintMore
def aw8L : List S45 := [⟨1, ⟨#[97]⟩⟩, ⟨1, ⟨#[98]⟩⟩, ⟨1, ⟨#[99]⟩⟩, ⟨4, ⟨#[]⟩⟩, ⟨3, ⟨#[]⟩⟩]
def aw8T : List S71 := [⟨⟨#[88]⟩, ⟨0, 0, ⟨#[]⟩⟩⟩]
theorem aw8_1 : show_Path.f aw8L = some ⟨#[97, 47, 40, 98, 124, 99, 41]⟩ := by kernel_rfl
theorem aw8_3 : show_RightPath.f aw8L = some true := by kernel_rfl
theorem aw8_5 : show_Right.f [] ⟨#[113]⟩ aw8T = some true := by kernel_rfl
theorem aw8_7 : show_Text.f [] ⟨#[113]⟩ aw8T = some ⟨#[63, 45, 32, 113, 40, 88, 41, 46, 10]⟩ := by kernel_rfl
theorem aw8_9 : show_Atom.f ⟨#[113]⟩ aw8T = some ⟨#[113, 40, 88, 41]⟩ := by kernel_rfl
theorem aw8_11 : show_Rule.f ⟨#[113]⟩ aw8T 0 [] = some ⟨#[113, 40, 88, 41, 46]⟩ := by kernel_rfl
theorem lit_eq8 {a : ByteArray} {l : List UInt8} (h : a.data.toList = l) : (a.toList == l) = true := by rw [beq_iff_eq, ByteArray.toList_eq]; exact h
set_option maxHeartbeats 8000000 in
set_option maxRecDepth 100000 in
theorem awakeS_calls (w : World) (hLW : LaidW w) :
    Calls Tryd.prog 22 #[] w fun e w' => e = .returned (.bool true) ∧ Below w.heap.size w w' := by
  have HLW := Aside0.mk hLW
  clear hLW
  have HB := Aside0.mk (Below.refl w.heap.size w)
  obtain ⟨y127, hy127⟩ : ∃ y_ : List S45, y_ = aw8L := ⟨_, rfl⟩
  obtain ⟨y130, hy130⟩ : ∃ y_ : List S71, y_ = aw8T := ⟨_, rfl⟩
  have Ny127 := Aside0.mk (show y127 = ([(⟨1, (⟨#[97]⟩ : ByteArray)⟩ : S45), (⟨1, (⟨#[98]⟩ : ByteArray)⟩ : S45), (⟨1, (⟨#[99]⟩ : ByteArray)⟩ : S45), (⟨4, (⟨#[]⟩ : ByteArray)⟩ : S45), (⟨3, (⟨#[]⟩ : ByteArray)⟩ : S45)] : List S45) from hy127)
  have Ny130 := Aside0.mk (show y130 = ([(⟨(⟨#[88]⟩ : ByteArray), (⟨0, 0, (⟨#[]⟩ : ByteArray)⟩ : S36)⟩ : S71)] : List S71) from hy130)
  obtain ⟨t134, h1, c2b0⟩ : ∃ t, show_Path.f y127 = some t ∧ (t.toList == ([97, 47, 40, 98, 124, 99, 41] : List UInt8)) = true := ⟨_, hy127 ▸ aw8_1, lit_eq8 rfl⟩
  obtain ⟨t137, h7, c8b0⟩ : ∃ t, show_Text.f [] ⟨#[113]⟩ y130 = some t ∧ (t.toList == ([63, 45, 32, 113, 40, 88, 41, 46, 10] : List UInt8)) = true := ⟨_, hy130 ▸ aw8_7, lit_eq8 rfl⟩
  obtain ⟨t138, h9, c10b0⟩ : ∃ t, show_Atom.f ⟨#[113]⟩ y130 = some t ∧ (t.toList == ([113, 40, 88, 41] : List UInt8)) = true := ⟨_, hy130 ▸ aw8_9, lit_eq8 rfl⟩
  obtain ⟨t139, h11, c12b0⟩ : ∃ t, show_Rule.f ⟨#[113]⟩ y130 0 [] = some t ∧ (t.toList == ([113, 40, 88, 41, 46] : List UInt8)) = true := ⟨_, hy130 ▸ aw8_11, lit_eq8 rfl⟩
  have A1 := Aside0.mk h1
  have A3 := Aside0.mk (show show_RightPath.f y127 = some true from hy127 ▸ aw8_3)
  have A5 := Aside0.mk (show show_Right.f [] ⟨#[113]⟩ y130 = some true from hy130 ▸ aw8_5)
  have A7 := Aside0.mk h7
  have A9 := Aside0.mk h9
  have A11 := Aside0.mk h11
  clear h1 h7 h9 h11 hy127 hy130
  go_enter Tryd.func22, Tryd.ntmps22
  go_wp2_with (first | ((with_reducible refine gate_dst (N := 8) rfl ?_); refine Kd.R_lit k45 _ 45 ?hg (N := 8) ?hd (xs := ([(⟨1, (⟨#[97]⟩ : ByteArray)⟩ : S45), (⟨1, (⟨#[98]⟩ : ByteArray)⟩ : S45), (⟨1, (⟨#[99]⟩ : ByteArray)⟩ : S45), (⟨4, (⟨#[]⟩ : ByteArray)⟩ : S45), (⟨3, (⟨#[]⟩ : ByteArray)⟩ : S45)] : List (S45))) (inner := [.int .i64 1, .string (⟨#[97]⟩ : ByteArray), .int .i64 1, .string (⟨#[98]⟩ : ByteArray), .int .i64 1, .string (⟨#[99]⟩ : ByteArray), .int .i64 4, .string (⟨#[]⟩ : ByteArray), .int .i64 3, .string (⟨#[]⟩ : ByteArray)]) (ok := fun _ => True) (okp := fun _ => True) ?hr ?hp (fun _ hk => hk) trivial (Below.refl _ _) (Nat.le_refl _) (by simp) ?_; (case hd => rfl); (case hg => rfl); (case hr => first | (go_simp; done) | (go_simp; rfl)); (case hp => exact (Reps.c2 (show Kd.M k45 _ _ _ (⟨1, (⟨#[97]⟩ : ByteArray)⟩ : S45) [.int .i64 1, .string (⟨#[97]⟩ : ByteArray)] from (k45_mkM _ _ _ (⟨1, (⟨#[97]⟩ : ByteArray)⟩ : S45) )) (Reps.c2 (show Kd.M k45 _ _ _ (⟨1, (⟨#[98]⟩ : ByteArray)⟩ : S45) [.int .i64 1, .string (⟨#[98]⟩ : ByteArray)] from (k45_mkM _ _ _ (⟨1, (⟨#[98]⟩ : ByteArray)⟩ : S45) )) (Reps.c2 (show Kd.M k45 _ _ _ (⟨1, (⟨#[99]⟩ : ByteArray)⟩ : S45) [.int .i64 1, .string (⟨#[99]⟩ : ByteArray)] from (k45_mkM _ _ _ (⟨1, (⟨#[99]⟩ : ByteArray)⟩ : S45) )) (Reps.c2 (show Kd.M k45 _ _ _ (⟨4, (⟨#[]⟩ : ByteArray)⟩ : S45) [.int .i64 4, .string (⟨#[]⟩ : ByteArray)] from (k45_mkM _ _ _ (⟨4, (⟨#[]⟩ : ByteArray)⟩ : S45) )) (Reps.c2 (show Kd.M k45 _ _ _ (⟨3, (⟨#[]⟩ : ByteArray)⟩ : S45) [.int .i64 3, .string (⟨#[]⟩ : ByteArray)] from (k45_mkM _ _ _ (⟨3, (⟨#[]⟩ : ByteArray)⟩ : S45) )) (Reps.none _ _))))))); intro v128 w12 ho13 hb hg_ hnew_; clear hg_ hnew_; (first | rw [← Ny127.out] at ho13 | (simp only [Int.reduceToNat] at ho13; rw [← Ny127.out] at ho13)); have n0_ := Aside0.mk (Kd.R_lower ho13 (below_size (by repeat (first | (with_reducible first | exact HB.out | apply below_alloc | apply pw_below_drewN | apply below_drew1) | exact HB.out)))); have n1_ := Aside0.mk (below_step (by repeat (first | (with_reducible first | exact HB.out | apply below_alloc | apply pw_below_drewN | apply below_drew1) | exact HB.out)) hb); clear HB; have HO129 := n0_; have HB := n1_; clear n0_ n1_; clear hb ho13) | ((with_reducible refine gate_dst (N := 10) rfl ?_); refine Kd.R_lit k71 _ 71 ?hg (N := 10) ?hd (xs := ([(⟨(⟨#[88]⟩ : ByteArray), (⟨0, 0, (⟨#[]⟩ : ByteArray)⟩ : S36)⟩ : S71)] : List (S71))) (inner := [.string (⟨#[88]⟩ : ByteArray), .int .i64 0, .int .i64 0, .string (⟨#[]⟩ : ByteArray)]) (ok := fun _ => True) (okp := fun _ => True) ?hr ?hp (fun _ hk => hk) trivial (Below.refl _ _) (Nat.le_refl _) (by simp) ?_; (case hd => rfl); (case hg => rfl); (case hr => first | (go_simp; done) | (go_simp; rfl)); (case hp => exact (Reps.c4 (show Kd.M k71 _ _ _ (⟨(⟨#[88]⟩ : ByteArray), (⟨0, 0, (⟨#[]⟩ : ByteArray)⟩ : S36)⟩ : S71) [.string (⟨#[88]⟩ : ByteArray), .int .i64 0, .int .i64 0, .string (⟨#[]⟩ : ByteArray)] from (k71_mkM _ _ _ (⟨(⟨#[88]⟩ : ByteArray), (⟨0, 0, (⟨#[]⟩ : ByteArray)⟩ : S36)⟩ : S71) )) (Reps.none _ _))); intro v131 w14 ho15 hb hg_ hnew_; clear hg_ hnew_; (first | rw [← Ny130.out] at ho15 | (simp only [Int.reduceToNat] at ho15; rw [← Ny130.out] at ho15)); have n0_ := Aside0.mk (Kd.R_below (by (with_reducible repeat (first | apply Kd.R_alloc | apply Kd.R_drewN | apply Kd.R_drew)); exact HO129.out) hb); have n1_ := Aside0.mk (Kd.R_lower ho15 (below_size (by repeat (first | (with_reducible first | exact HB.out | apply below_alloc | apply pw_below_drewN | apply below_drew1) | exact HB.out)))); have n2_ := Aside0.mk (below_step (by repeat (first | (with_reducible first | exact HB.out | apply below_alloc | apply pw_below_drewN | apply below_drew1) | exact HB.out)) hb); clear HO129; clear HB; have HO129 := n0_; have HO132 := n1_; have HB := n2_; clear n0_ n1_ n2_; clear hb ho15; obtain ⟨Ao16, co16, eo16⟩ := Kd.R_slice HO132.out; subst eo16) | ((with_reducible refine gate_dst (N := 2) rfl ?_); refine box_event ?hg (N := 2) ?hd (cs := #[.slice none 0 0, .string (⟨#[]⟩ : ByteArray), .slice none 0 0]) (t := 77) ?hr ?_; (case hd => rfl); (case hg => rfl); (case hr => first | (go_simp; done) | (go_simp; rfl)); intro gb133 hg w17 hbox hb; have n0_ := Aside0.mk (Kd.R_below (by (with_reducible repeat (first | apply Kd.R_alloc | apply Kd.R_drewN | apply Kd.R_drew)); exact HO129.out) hb); have n1_ := Aside0.mk (Kd.R_below (by (with_reducible repeat (first | apply Kd.R_alloc | apply Kd.R_drewN | apply Kd.R_drew)); exact HO132.out) hb); have n2_ := Aside0.mk (below_step (by repeat (first | (with_reducible first | exact HB.out | apply below_alloc | apply pw_below_drewN | apply below_drew1) | exact HB.out)) hb); have n3_ := Aside0.mk (hbox); have n4_ := Aside0.mk ((by rw [hg]; exact (below_size (by repeat (first | (with_reducible first | exact HB.out | apply below_alloc | apply pw_below_drewN | apply below_drew1) | exact HB.out))) : w.heap.size ≤ gb133)); have n5_ := Aside0.mk ((by rw [hg]; exact (below_size (by repeat (first | (with_reducible first | exact HB.out | apply below_alloc | apply pw_below_drewN | apply below_drew1) | exact HB.out))) : w.heap.size ≤ gb133)); clear HO129; clear HO132; clear HB; have HO129 := n0_; have HO132 := n1_; have HB := n2_; have BK133 := n3_; have GW133 := n4_; have GE133 := n5_; clear n0_ n1_ n2_ n3_ n4_ n5_; clear hb hbox hg; have hcz18_0 : w17.cell? ⟨gb133, 0, none⟩ = some (.slice none 0 0) := (blk_cell BK133.out 0).trans rfl; have hcz18_1 : w17.cell? ⟨gb133, 1, none⟩ = some (.string (⟨#[]⟩ : ByteArray)) := (blk_cell BK133.out 1).trans rfl; have hcz18_2 : w17.cell? ⟨gb133, 2, none⟩ = some (.slice none 0 0) := (blk_cell BK133.out 2).trans rfl; have hfz18_0 := blk_frozen BK133.out 0; have hfz18_1 := blk_frozen BK133.out 1; have hfz18_2 := blk_frozen BK133.out 2; obtain ⟨Ao19, co19, eo19⟩ := Kd.R_slice HO129.out; subst eo19) | ((with_reducible refine gate_callee (f := 23) rfl ?_); refine goesL_ (some 14) rfl rfl Tryd.func23 (by kernel_rfl) rfl #[.slice Ao19 y127.length co19] rfl (by (try simp only [List.map_toArray, List.map_cons, List.map_nil]); first | done | rfl | (simp only [List.length_drop, List.length_take]; rfl)) ?_; (with_reducible refine (show_Path.calls _ _ y127 t134 _ ?side3 ?side1 ?side2 A1.out).mono ?_); (case side1 => refine (Kd.R_reads' (e := 45) (base := w.heap.size) (ok := fun k_ => True) (n := y127.length) (c := co19) ?_).2.2; exact (by (with_reducible repeat (first | apply Kd.R_alloc | apply Kd.R_drewN | apply Kd.R_drew)); exact (Kd.R_mono (Kd.R_far (p := ⟨gb133, 2, none⟩) (Kd.R_far (p := ⟨gb133, 1, none⟩) (Kd.R_far (p := ⟨gb133, 0, none⟩) (Kd.R_types HO129.out BK133.out (by decide)) (fun _ hk => hk.2) (.slice none 0 0)) (fun _ hk => hk.2) (.string (⟨#[113]⟩ : ByteArray))) (fun _ hk => hk.2) (.slice Ao16 y130.length co16)) (fun _ h_ => h_.1)))); (case side2 => exact (Kd.R_reads' HO129.out).2.1); (case side3 => (first | (refine LaidW.below HLW.out ?_; (repeat (first | (with_reducible first | exact HB.out | apply below_alloc | apply pw_below_drewN | apply below_drew1 | refine below_set ?_ GE133.out) | exact HB.out)); done) | (repeat (first | exact HLW.out | apply LaidW.drewN | apply LaidW.drew | apply LaidW.alloc)))); rintro e w20 ⟨rfl, hb⟩; refine ⟨_, rfl, ?_⟩; have n0_ := Aside0.mk (Kd.R_below (by (with_reducible repeat (first | apply Kd.R_alloc | apply Kd.R_drewN | apply Kd.R_drew)); exact (Kd.R_mono (Kd.R_far (p := ⟨gb133, 2, none⟩) (Kd.R_far (p := ⟨gb133, 1, none⟩) (Kd.R_far (p := ⟨gb133, 0, none⟩) (Kd.R_types HO129.out BK133.out (by decide)) (fun _ hk => hk.2) (.slice none 0 0)) (fun _ hk => hk.2) (.string (⟨#[113]⟩ : ByteArray))) (fun _ hk => hk.2) (.slice Ao16 y130.length co16)) (fun _ h_ => h_.1))) hb); have n1_ := Aside0.mk (Kd.R_below (by (with_reducible repeat (first | apply Kd.R_alloc | apply Kd.R_drewN | apply Kd.R_drew)); exact (Kd.R_mono (Kd.R_far (p := ⟨gb133, 2, none⟩) (Kd.R_far (p := ⟨gb133, 1, none⟩) (Kd.R_far (p := ⟨gb133, 0, none⟩) (Kd.R_types HO132.out BK133.out (by decide)) (fun _ hk => hk.2) (.slice none 0 0)) (fun _ hk => hk.2) (.string (⟨#[113]⟩ : ByteArray))) (fun _ hk => hk.2) (.slice Ao16 y130.length co16)) (fun _ h_ => h_.1))) hb); have n2_ := Aside0.mk (blk_below (g := gb133) (o := .cells #[.slice none 0 0, .string (⟨#[113]⟩ : ByteArray), .slice Ao16 y130.length co16] 77 (0, 0)) (by (with_reducible repeat (first | refine blk_drewN ?_ _ | refine blk_drew ?_ | refine blk_alloc ?_ _)); refine blk_put (cs := #[.slice none 0 0, .string (⟨#[113]⟩ : ByteArray), .slice none 0 0]) ?_ 2 _ rfl; (with_reducible repeat (first | refine blk_drewN ?_ _ | refine blk_drew ?_ | refine blk_alloc ?_ _)); refine blk_put (cs := #[.slice none 0 0, .string (⟨#[]⟩ : ByteArray), .slice none 0 0]) ?_ 1 _ rfl; (with_reducible repeat (first | refine blk_drewN ?_ _ | refine blk_drew ?_ | refine blk_alloc ?_ _)); refine blk_put (cs := #[.slice none 0 0, .string (⟨#[]⟩ : ByteArray), .slice none 0 0]) ?_ 0 _ rfl; (with_reducible repeat (first | refine blk_drewN ?_ _ | refine blk_drew ?_ | refine blk_alloc ?_ _)); exact BK133.out) hb); have n3_ := Aside0.mk (below_step (by repeat (first | (with_reducible first | exact HB.out | apply below_alloc | apply pw_below_drewN | apply below_drew1 | refine below_set ?_ GE133.out) | exact HB.out)) hb); clear HO129; clear HO132; clear BK133; clear HB; have HO129 := n0_; have HO132 := n1_; have BK133 := n2_; have HB := n3_; clear n0_ n1_ n2_ n3_; (try clear hb); (try clear hb2); (try clear hk); (try clear hi)) | (go_at_call 41; (with_reducible refine (show_RightPath.calls _ _ y127 true _ ?side3 ?side1 ?side2 A3.out).mono ?_); (case side1 => repeat (first | exact (Kd.R_reads' HO129.out).2.2 | (with_reducible refine Kd.C_alloc ?_ _) | (with_reducible refine Kd.C_drewN ?_ _) | (with_reducible refine Kd.C_drew ?_))); (case side2 => exact (Kd.R_reads' HO129.out).2.1); (case side3 => (first | (refine LaidW.below HLW.out ?_; (repeat (first | (with_reducible first | exact HB.out | apply below_alloc | apply pw_below_drewN | apply below_drew1 | refine below_set ?_ GE133.out) | exact HB.out)); done) | (repeat (first | exact HLW.out | apply LaidW.drewN | apply LaidW.drew | apply LaidW.alloc)))); rintro e w21 ⟨rfl, hb⟩; have n0_ := Aside0.mk (Kd.R_below (by (with_reducible repeat (first | apply Kd.R_alloc | apply Kd.R_drewN | apply Kd.R_drew)); exact HO129.out) hb); have n1_ := Aside0.mk (Kd.R_below (by (with_reducible repeat (first | apply Kd.R_alloc | apply Kd.R_drewN | apply Kd.R_drew)); exact HO132.out) hb); have n2_ := Aside0.mk (blk_below (g := gb133) (o := .cells #[.slice none 0 0, .string (⟨#[113]⟩ : ByteArray), .slice Ao16 y130.length co16] 77 (0, 0)) (by (with_reducible repeat (first | refine blk_drewN ?_ _ | refine blk_drew ?_ | refine blk_alloc ?_ _)); exact BK133.out) hb); have n3_ := Aside0.mk (below_step (by repeat (first | (with_reducible first | exact HB.out | apply below_alloc | apply pw_below_drewN | apply below_drew1 | refine below_set ?_ GE133.out) | exact HB.out)) hb); clear HO129; clear HO132; clear BK133; clear HB; have HO129 := n0_; have HO132 := n1_; have BK133 := n2_; have HB := n3_; clear n0_ n1_ n2_ n3_; (try clear hb); (try clear hb2); (try clear hk); (try clear hi); have hcz22_0 : w21.cell? ⟨gb133, 0, none⟩ = some (.slice none 0 0) := (blk_cell BK133.out 0).trans rfl; have hcz22_1 : w21.cell? ⟨gb133, 1, none⟩ = some (.string (⟨#[113]⟩ : ByteArray)) := (blk_cell BK133.out 1).trans rfl; have hcz22_2 : w21.cell? ⟨gb133, 2, none⟩ = some (.slice Ao16 y130.length co16) := (blk_cell BK133.out 2).trans rfl; have hfz22_0 := blk_frozen BK133.out 0; have hfz22_1 := blk_frozen BK133.out 1; have hfz22_2 := blk_frozen BK133.out 2) | (go_at_call 42; (refine (show_Right.calls _ _ ([] : List (S85)) (⟨#[113]⟩ : ByteArray) _ _ y130 true _ ?side5 ?side1 ?side2 ?side3 ?side4 A5.out).mono ?_); (case side1 => exact Kd.C_nil _ _); (case side2 => exact Nat.le_refl _); (case side3 => repeat (first | exact (Kd.R_reads' HO132.out).2.2 | (with_reducible refine Kd.C_alloc ?_ _) | (with_reducible refine Kd.C_drewN ?_ _) | (with_reducible refine Kd.C_drew ?_))); (case side4 => exact (Kd.R_reads' HO132.out).2.1); (case side5 => (first | (refine LaidW.below HLW.out ?_; (repeat (first | (with_reducible first | exact HB.out | apply below_alloc | apply pw_below_drewN | apply below_drew1 | refine below_set ?_ GE133.out) | exact HB.out)); done) | (repeat (first | exact HLW.out | apply LaidW.drewN | apply LaidW.drew | apply LaidW.alloc)))); rintro e w23 ⟨rfl, hb⟩; have n0_ := Aside0.mk (Kd.R_below (by (with_reducible repeat (first | apply Kd.R_alloc | apply Kd.R_drewN | apply Kd.R_drew)); exact HO129.out) hb); have n1_ := Aside0.mk (Kd.R_below (by (with_reducible repeat (first | apply Kd.R_alloc | apply Kd.R_drewN | apply Kd.R_drew)); exact HO132.out) hb); have n2_ := Aside0.mk (blk_below (g := gb133) (o := .cells #[.slice none 0 0, .string (⟨#[113]⟩ : ByteArray), .slice Ao16 y130.length co16] 77 (0, 0)) (by (with_reducible repeat (first | refine blk_drewN ?_ _ | refine blk_drew ?_ | refine blk_alloc ?_ _)); exact BK133.out) hb); have n3_ := Aside0.mk (below_step (by repeat (first | (with_reducible first | exact HB.out | apply below_alloc | apply pw_below_drewN | apply below_drew1 | refine below_set ?_ GE133.out) | exact HB.out)) hb); clear HO129; clear HO132; clear BK133; clear HB; have HO129 := n0_; have HO132 := n1_; have BK133 := n2_; have HB := n3_; clear n0_ n1_ n2_ n3_; (try clear hb); (try clear hb2); (try clear hk); (try clear hi); have hcz24_0 : w23.cell? ⟨gb133, 0, none⟩ = some (.slice none 0 0) := (blk_cell BK133.out 0).trans rfl; have hcz24_1 : w23.cell? ⟨gb133, 1, none⟩ = some (.string (⟨#[113]⟩ : ByteArray)) := (blk_cell BK133.out 1).trans rfl; have hcz24_2 : w23.cell? ⟨gb133, 2, none⟩ = some (.slice Ao16 y130.length co16) := (blk_cell BK133.out 2).trans rfl; have hfz24_0 := blk_frozen BK133.out 0; have hfz24_1 := blk_frozen BK133.out 1; have hfz24_2 := blk_frozen BK133.out 2) | (go_at_call 43; (refine (show_Text.calls _ _ ([] : List (S85)) (⟨#[113]⟩ : ByteArray) _ _ y130 t137 _ ?side5 ?side1 ?side2 ?side3 ?side4 A7.out).mono ?_); (case side1 => exact Kd.C_nil _ _); (case side2 => exact Nat.le_refl _); (case side3 => repeat (first | exact (Kd.R_reads' HO132.out).2.2 | (with_reducible refine Kd.C_alloc ?_ _) | (with_reducible refine Kd.C_drewN ?_ _) | (with_reducible refine Kd.C_drew ?_))); (case side4 => exact (Kd.R_reads' HO132.out).2.1); (case side5 => (first | (refine LaidW.below HLW.out ?_; (repeat (first | (with_reducible first | exact HB.out | apply below_alloc | apply pw_below_drewN | apply below_drew1 | refine below_set ?_ GE133.out) | exact HB.out)); done) | (repeat (first | exact HLW.out | apply LaidW.drewN | apply LaidW.drew | apply LaidW.alloc)))); rintro e w25 ⟨rfl, hb⟩; have n0_ := Aside0.mk (Kd.R_below (by (with_reducible repeat (first | apply Kd.R_alloc | apply Kd.R_drewN | apply Kd.R_drew)); exact HO129.out) hb); have n1_ := Aside0.mk (Kd.R_below (by (with_reducible repeat (first | apply Kd.R_alloc | apply Kd.R_drewN | apply Kd.R_drew)); exact HO132.out) hb); have n2_ := Aside0.mk (blk_below (g := gb133) (o := .cells #[.slice none 0 0, .string (⟨#[113]⟩ : ByteArray), .slice Ao16 y130.length co16] 77 (0, 0)) (by (with_reducible repeat (first | refine blk_drewN ?_ _ | refine blk_drew ?_ | refine blk_alloc ?_ _)); exact BK133.out) hb); have n3_ := Aside0.mk (below_step (by repeat (first | (with_reducible first | exact HB.out | apply below_alloc | apply pw_below_drewN | apply below_drew1 | refine below_set ?_ GE133.out) | exact HB.out)) hb); clear HO129; clear HO132; clear BK133; clear HB; have HO129 := n0_; have HO132 := n1_; have BK133 := n2_; have HB := n3_; clear n0_ n1_ n2_ n3_; (try clear hb); (try clear hb2); (try clear hk); (try clear hi); have hcz26_0 : w25.cell? ⟨gb133, 0, none⟩ = some (.slice none 0 0) := (blk_cell BK133.out 0).trans rfl; have hcz26_1 : w25.cell? ⟨gb133, 1, none⟩ = some (.string (⟨#[113]⟩ : ByteArray)) := (blk_cell BK133.out 1).trans rfl; have hcz26_2 : w25.cell? ⟨gb133, 2, none⟩ = some (.slice Ao16 y130.length co16) := (blk_cell BK133.out 2).trans rfl; have hfz26_0 := blk_frozen BK133.out 0; have hfz26_1 := blk_frozen BK133.out 1; have hfz26_2 := blk_frozen BK133.out 2) | (go_at_call 44; (with_reducible refine (show_Atom.calls (⟨#[113]⟩ : ByteArray) _ _ y130 t138 _ ?side3 ?side1 ?side2 A9.out).mono ?_); (case side1 => repeat (first | exact (Kd.R_reads' HO132.out).2.2 | (with_reducible refine Kd.C_alloc ?_ _) | (with_reducible refine Kd.C_drewN ?_ _) | (with_reducible refine Kd.C_drew ?_))); (case side2 => exact (Kd.R_reads' HO132.out).2.1); (case side3 => (first | (refine LaidW.below HLW.out ?_; (repeat (first | (with_reducible first | exact HB.out | apply below_alloc | apply pw_below_drewN | apply below_drew1 | refine below_set ?_ GE133.out) | exact HB.out)); done) | (repeat (first | exact HLW.out | apply LaidW.drewN | apply LaidW.drew | apply LaidW.alloc)))); rintro e w27 ⟨rfl, hb⟩; have n0_ := Aside0.mk (Kd.R_below (by (with_reducible repeat (first | apply Kd.R_alloc | apply Kd.R_drewN | apply Kd.R_drew)); exact HO129.out) hb); have n1_ := Aside0.mk (Kd.R_below (by (with_reducible repeat (first | apply Kd.R_alloc | apply Kd.R_drewN | apply Kd.R_drew)); exact HO132.out) hb); have n2_ := Aside0.mk (blk_below (g := gb133) (o := .cells #[.slice none 0 0, .string (⟨#[113]⟩ : ByteArray), .slice Ao16 y130.length co16] 77 (0, 0)) (by (with_reducible repeat (first | refine blk_drewN ?_ _ | refine blk_drew ?_ | refine blk_alloc ?_ _)); exact BK133.out) hb); have n3_ := Aside0.mk (below_step (by repeat (first | (with_reducible first | exact HB.out | apply below_alloc | apply pw_below_drewN | apply below_drew1 | refine below_set ?_ GE133.out) | exact HB.out)) hb); clear HO129; clear HO132; clear BK133; clear HB; have HO129 := n0_; have HO132 := n1_; have BK133 := n2_; have HB := n3_; clear n0_ n1_ n2_ n3_; (try clear hb); (try clear hb2); (try clear hk); (try clear hi); have hcz28_0 : w27.cell? ⟨gb133, 0, none⟩ = some (.slice none 0 0) := (blk_cell BK133.out 0).trans rfl; have hcz28_1 : w27.cell? ⟨gb133, 1, none⟩ = some (.string (⟨#[113]⟩ : ByteArray)) := (blk_cell BK133.out 1).trans rfl; have hcz28_2 : w27.cell? ⟨gb133, 2, none⟩ = some (.slice Ao16 y130.length co16) := (blk_cell BK133.out 2).trans rfl; have hfz28_0 := blk_frozen BK133.out 0; have hfz28_1 := blk_frozen BK133.out 1; have hfz28_2 := blk_frozen BK133.out 2) | (go_at_call 45; (refine (show_Rule.calls (⟨#[113]⟩ : ByteArray) _ _ y130 0 _ _ ([] : List (S115)) t139 _ ?side5 ?side1 ?side2 ?side3 ?side4 A11.out).mono ?_); (case side1 => repeat (first | exact (Kd.R_reads' HO132.out).2.2 | (with_reducible refine Kd.C_alloc ?_ _) | (with_reducible refine Kd.C_drewN ?_ _) | (with_reducible refine Kd.C_drew ?_))); (case side2 => exact (Kd.R_reads' HO132.out).2.1); (case side3 => exact Kd.C_nil _ _); (case side4 => exact Nat.le_refl _); (case side5 => (first | (refine LaidW.below HLW.out ?_; (repeat (first | (with_reducible first | exact HB.out | apply below_alloc | apply pw_below_drewN | apply below_drew1 | refine below_set ?_ GE133.out) | exact HB.out)); done) | (repeat (first | exact HLW.out | apply LaidW.drewN | apply LaidW.drew | apply LaidW.alloc)))); rintro e w29 ⟨rfl, hb⟩; have n0_ := Aside0.mk (Kd.R_below (by (with_reducible repeat (first | apply Kd.R_alloc | apply Kd.R_drewN | apply Kd.R_drew)); exact HO129.out) hb); have n1_ := Aside0.mk (Kd.R_below (by (with_reducible repeat (first | apply Kd.R_alloc | apply Kd.R_drewN | apply Kd.R_drew)); exact HO132.out) hb); have n2_ := Aside0.mk (blk_below (g := gb133) (o := .cells #[.slice none 0 0, .string (⟨#[113]⟩ : ByteArray), .slice Ao16 y130.length co16] 77 (0, 0)) (by (with_reducible repeat (first | refine blk_drewN ?_ _ | refine blk_drew ?_ | refine blk_alloc ?_ _)); exact BK133.out) hb); have n3_ := Aside0.mk (below_step (by repeat (first | (with_reducible first | exact HB.out | apply below_alloc | apply pw_below_drewN | apply below_drew1 | refine below_set ?_ GE133.out) | exact HB.out)) hb); clear HO129; clear HO132; clear BK133; clear HB; have HO129 := n0_; have HO132 := n1_; have BK133 := n2_; have HB := n3_; clear n0_ n1_ n2_ n3_; (try clear hb); (try clear hb2); (try clear hk); (try clear hi)))
  go_ret
  exact ⟨by first | rfl | (simp [errW_none, errW_some] <;> rfl) | (simp [*, errW_none, errW_some] <;> rfl), by repeat (first | (with_reducible first | exact HB.out | apply below_alloc | apply pw_below_drewN | apply below_drew1 | refine below_set ?_ GE133.out) | exact HB.out)⟩
def antecedentlaw09_awake.f : Option Bool := some true
theorem antecedentlaw09_awake.calls (r : Bool) (w : World) (hLW : LaidW w) (h : antecedentlaw09_awake.f = some r) :
    Calls Tryd.prog 22 #[] w fun e w' => e = .returned (.bool r) ∧ Below w.heap.size w w' := by
  obtain rfl := Option.some.inj h
  exact awakeS_calls w hLW
end Go.Proofs.YthebhbomlllpeaaDoor.X
