/-
  ShowSteps: what the proof needs, put together by a program of this session (shake.py), part 5.
-/
import Derived.Test.YthebhbomlllpeaaGreatDoorCards
import Derived.Test.YthebhbomlllpeaaGreatDoorTie
import Derived.Test.YthebhbomlllpeaaGreatDoorProg
import Derived.Below
import Derived.Deep.Draws
import Derived.Deep.AppendLies
import Derived.Maps.AppendAt
import Derived.OwnWalk
import Derived.Laws.BytesArg
import Derived.Laws.MakeOwn
import Derived.Laws.OwnMore
import Derived.Deep.OwnRows
import Derived.Tactics
import Derived.Lib.ConvBytes
import Derived.Laws.Slices
import Derived.WalkKit
import Derived.KernelRfl
import Derived.RowKit3
import Derived.Deep.LoopGhost
import Derived.Deep.QuietTactic
import Derived.BigQuiet
import Derived.WideLaws
import Derived.Deep.DeepCutAuto
import Derived.Deep.CutBlock
import Derived.Deep.RegionHeld3
import Derived.Laws.Rows
import Derived.Lib.AppendStr
import Derived.ArgAppend
import Derived.Laws.IdiomCopy
import Derived.OrdersHeld
import Derived.Laws.BitsLemmas
import Derived.RowKit
import Derived.Lib.SmallJoins
import Derived.Lib.ItoaMem
import Derived.Laws.StructEq
import Derived.Test.YthebhbomlllpeaaGreatDoorRows
import Derived.Deep.Slices
import Derived.Deep.Fields
import Derived.ChangeSame
import Derived.ProofKit
import Derived.OpenShut
import Derived.Deep.DeepHandedRow
import Derived.Lib.LaidTab
import Derived.LaidMore
import Derived.Stop.LaidErr
import Derived.MakeChecks
import Init
import Derived.Laws.NewBlocks
import Derived.Shelf.Strings.Builder1
import Derived.Shelf.Strings.Builder2
import Derived.Shelf.Strings.OnBuilder
import Derived.Shelf.Small.Strs
import Derived.Shelf.Small.Wraps
import Derived.Shelf.Strings.BuilderF
import Derived.Shelf.Strings.BuilderK
import Derived.Shelf.Strings.Builder2Cap
import Derived.Shelf.Strconv.Itoa0
import Derived.Shelf.Strconv.Itoa1
import Derived.Shelf.LaysM
import Derived.Shelf.Strconv.Itoa2
import Derived.Shelf.Strconv.Itoa3
import Derived.Shelf.Strconv.Itoa4
import Derived.Shelf.Strconv.ParseIntEmpty
import Derived.Shelf.Strconv.Clone
import Derived.Shelf.Strconv.SyntaxError
import Derived.Shelf.LaysC
import Derived.Shelf.Strconv.ToError
import Derived.Shelf.Strconv.Lower
import Derived.Shelf.Strconv.ParseUint10
import Derived.Shelf.Strconv.ParseUint10Empty
import Derived.Shelf.Strconv.ParseUint10Any
import Derived.Shelf.Strconv.ParseInt10
import Derived.Shelf.Strconv.RangeError
import Derived.Shelf.Strconv.ToErrorRange
import Derived.Shelf.Strconv.ParseUintEmpty
import Derived.Shelf.Strconv.ParseUint10b64
import Derived.Shelf.Strconv.ParseUint10b32
import Derived.Shelf.Strconv.ParseUint10b16
import Derived.Shelf.Strconv.ParseUint10b8
import Derived.Shelf.Strconv.ParseUint10At
import Derived.Shelf.Strconv.ParseInt10At64
import Derived.Shelf.Strconv.ParseInt10At32
import Derived.Shelf.Strconv.ParseInt10At16
import Derived.Shelf.Strconv.ParseInt10At8
import Derived.Shelf.Strconv.ParseInt10All
import Derived.Shelf.Strconv.ParseIntPublic10
import Derived.Shelf.Strconv.ErrVarParseInt
import Derived.Ground.MpProg
import Derived.Shelf.Pu.ParseUintPublic10
import Derived.Shelf.Pu.ErrVarParseUint
import Derived.Shelf.Strings.Search1
import Derived.Shelf.Strings.Prefix
import Derived.Shelf.Bits.Mul64
import Derived.Shelf.Strings.Repeat
import Derived.Shelf.Strings.BuilderCap
import Derived.Lib.AtoiAllMem
import Derived.Lib.ParseIntB
import Derived.Lib.Hide
import Derived.Laws.Strings3
import Derived.Laws.Closers25
import Derived.Laws.Closers25b
import Derived.BigCall
import Derived.BigGuard
import Derived.Laws.RangeAny
import Derived.Laws.RangeString
import Derived.Lib.ParseIntBTie
import Derived.WalkLawsBesides
import Derived.StillTailTactics
import Derived.LoopN
import Derived.WalkMore
import Derived.Deep.MidRow
import Derived.Recover
import Derived.Deep.DrawnRows
import Derived.Test.YthebhbomlllpeaaGreatDoorZShowSteps4
namespace Go.Proofs.YthebhbomlllpeaaGreatDoor.X
set_option linter.unusedVariables false
set_option linter.unusedSimpArgs false
/-- a text's tokens. -/
abbrev tkO (s : List UInt8) : Option (List TK) := toksO nmL vlL s
def DeepE (d : Nat) (u : List (List UInt8)) : Prop := ∀ o m, o ≤ m → deepF (o, m) u = (o, max m (o + d))
theorem DeepE.nil : DeepE 0 [] := fun o m h => by
  show (o, m) = _
  rw [Nat.add_zero, Nat.max_eq_left h]
theorem DeepE.app {d e : Nat} {a b : List (List UInt8)} (ha : DeepE d a) (hb : DeepE e b) : DeepE (max d e) (a ++ b) := fun o m h => by
  rw [deepF_app, ha o m h, hb o _ (by omega)]
  congr 1
  omega
theorem DeepE.one {s : List UInt8} (h1 : s ≠ [40]) (h2 : s ≠ [41]) : DeepE 0 [s] := fun o m h => by
  simp only [deepF, List.foldl_cons, List.foldl_nil, deep1, if_neg h1, if_neg h2]
  rw [Nat.add_zero]
theorem DeepE.round {d : Nat} {a : List (List UInt8)} (ha : DeepE d a) : DeepE (d + 1) ([40] :: a ++ [[41]]) := fun o m h => by
  have e2 : deepF (o, m) ([40] :: a ++ [[41]]) = deepF (deepF (o + 1, max m (o + 1)) a) [[41]] := by
    rw [List.cons_append, ← deepF_app]
    rfl
  rw [e2, ha (o + 1) _ (by omega)]
  simp only [deepF, List.foldl_cons, List.foldl_nil, deep1]
  rw [if_neg (by decide)]
  simp only [if_true, Nat.add_sub_cancel]
  congr 1
  omega
theorem txts_app (a b : List TK) : txts (a ++ b) = txts a ++ txts b := List.map_append
def P3 (D : Nat) (ts : List TK) (l : List StS) : Prop := ∀ r, partP D (ts ++ r) = .ok (l ++ (marksP r).1, (marksP r).2)
def P2 (D : Nat) (ts : List TK) (l : List StS) : Prop := ∀ r, marksP r = ([], r) → rowP [47] 3 (partP D) (ts ++ r) = rowL [47] 3 (partP D) r.length l r
def P1 (D : Nat) (ts : List TK) (l : List StS) : Prop := ∀ r, marksP r = ([], r) → mk0 r [47] = false → pathP D (ts ++ r) = rowL [124] 4 (rowP [47] 3 (partP D)) r.length l r
theorem rowL_stop {s : List UInt8} {k : Int} {one : Prs (List StS)} (n : Nat) (acc : List StS) {l : List TK} (h : mk0 l s = false) : rowL s k one n acc l = .ok (acc, l) := by
  cases n with
  | zero => rfl
  | succ n => simp only [rowL, h, Bool.false_eq_true, if_false]
theorem rowL_go {s : List UInt8} {k : Int} {one : Prs (List StS)} (h1 : Loc 0 one) {acc x : List StS} {t : TK} {l r : List TK} (ht : isT t 4 s = true) (ho : one l = .ok (x, r)) : rowL s k one (t :: l).length acc (t :: l) = rowL s k one r.length (acc ++ x ++ [stepS k]) r := by
  have hm : mk0 (t :: l) s = true := ht
  rw [List.length_cons]
  simp only [rowL, hm, if_true, List.drop_one, List.tail_cons]
  rw [bnd_of ho]
  obtain ⟨u, e, _, _⟩ := h1 _ _ _ ho
  have : r.length ≤ l.length := by rw [e, List.length_append]; omega
  exact rowL_fuel h1 _ _ _ _ this (Nat.le_refl _)
theorem P3.two {D : Nat} {ts : List TK} {l : List StS} (h : P3 D ts l) : P2 D ts l := fun r hr => by
  unfold rowP
  rw [bnd_of (h r), hr, List.append_nil]
theorem P2.one {D : Nat} {ts : List TK} {l : List StS} (h : P2 D ts l) : P1 D ts l := fun r hr hm => by
  have h1 := h r hr
  rw [rowL_stop _ _ hm] at h1
  show rowP [124] 4 (rowP [47] 3 (partP D)) (ts ++ r) = _
  rw [rowP, bnd_of h1]
theorem mk_is (m : UInt8) : isT (mkT m) 4 [m] = true := by
  unfold isT
  simp
theorem mk_not {m n : UInt8} (h : m ≠ n) : isT (mkT m) 4 [n] = false := by
  unfold isT
  simp [h]
theorem marks_stop {m : UInt8} (h1 : m ≠ 42) (h2 : m ≠ 43) (h3 : m ≠ 63) (r : List TK) : marksP (mkT m :: r) = ([], mkT m :: r) := isT_marks ⟨mk_not h1, mk_not h2, mk_not h3⟩ r
theorem part_succ (D : Nat) : partP (D + 1) = partW (some (pathP D)) := rfl
theorem P1.round {D : Nat} {ts : List TK} {l : List StS} (h : P1 D ts l) : P3 (D + 1) (mkT 40 :: (ts ++ [mkT 41])) l := fun r => by
  have h1 := h (mkT 41 :: r) (marks_stop (by decide) (by decide) (by decide) r) (mk_not (by decide))
  rw [rowL_stop _ _ (show mk0 (mkT 41 :: r) [124] = false from mk_not (by decide))] at h1
  have e : mkT 40 :: (ts ++ [mkT 41]) ++ r = mkT 40 :: (ts ++ mkT 41 :: r) := by simp
  have hb : baseP (some (pathP D)) (mkT 40 :: (ts ++ mkT 41 :: r)) = .ok (l, r) := by
    unfold baseP
    rw [if_pos (show mk0 (mkT 40 :: _) [40] = true from mk_is 40)]
    simp only [List.drop_one, List.tail_cons]
    rw [bnd_of h1]
    have hw : wantP [41] (mkT 41 :: r) = .ok ((), r) := by
      unfold wantP
      rw [if_pos (show mk0 (mkT 41 :: _) [41] = true from mk_is 41)]
      rfl
    rw [bnd_of hw]
  rw [e, part_succ, partW, bnd_of hb]
theorem P3.mark {D : Nat} {ts : List TK} {l : List StS} (h : P3 D ts l) (m : UInt8) (k : Int) (hm : (m = 42 ∧ k = 5) ∨ (m = 43 ∧ k = 6) ∨ (m = 63 ∧ k = 7)) : P3 D (ts ++ [mkT m]) (l ++ [stepS k]) := fun r => by
  have e : ts ++ [mkT m] ++ r = ts ++ mkT m :: r := by simp
  have hk : marksP (mkT m :: r) = (stepS k :: (marksP r).1, (marksP r).2) := by
    simp only [marksP]
    rcases hm with ⟨rfl, rfl⟩ | ⟨rfl, rfl⟩ | ⟨rfl, rfl⟩
    · rw [if_pos (mk_is 42)]
    · rw [if_neg (by rw [mk_not (by decide)]; decide), if_pos (mk_is 43)]
    · rw [if_neg (by rw [mk_not (by decide)]; decide), if_neg (by rw [mk_not (by decide)]; decide), if_pos (mk_is 63)]
  rw [e, h (mkT m :: r), hk]
  simp
theorem part_any (D : Nat) : ∃ o, partP D = partW o := by
  cases D with
  | zero => exact ⟨_, rfl⟩
  | succ D => exact ⟨_, rfl⟩
theorem word_not (s : ByteArray) (x : List UInt8) : isT ((1, s) : TK) 4 x = false := by unfold isT; simp
theorem P3.along {D : Nat} {s : ByteArray} (hs : predB (1, s) = true) : P3 D [(1, s)] [⟨1, s⟩] := fun r => by
  obtain ⟨o, ho⟩ := part_any D
  have hb : baseP o ((1, s) :: r) = .ok ([⟨1, s⟩], r) := by
    unfold baseP
    rw [if_neg (by rw [show mk0 ((1, s) :: r) [40] = false from word_not s _]; decide), if_neg (by rw [show mk0 ((1, s) :: r) [94] = false from word_not s _]; decide)]
    simp only [predicateP, hs, if_true]
    rfl
  rw [ho, List.singleton_append, partW, bnd_of hb]
theorem P3.back {D : Nat} {s : ByteArray} (hs : predB (1, s) = true) : P3 D [mkT 94, (1, s)] [⟨2, s⟩] := fun r => by
  obtain ⟨o, ho⟩ := part_any D
  have hb : baseP o (mkT 94 :: (1, s) :: r) = .ok ([⟨2, s⟩], r) := by
    unfold baseP
    rw [if_neg (by rw [show mk0 (mkT 94 :: (1, s) :: r) [40] = false from mk_not (by decide)]; decide), if_pos (show mk0 (mkT 94 :: _) [94] = true from mk_is 94)]
    simp only [List.drop_one, List.tail_cons, predicateP, hs, if_true]
    rfl
  show partP D (mkT 94 :: (1, s) :: r) = _
  rw [ho, partW, bnd_of hb]
theorem P2.thenP {D : Nat} {ta tb : List TK} {la lb : List StS} (ha : P2 D ta la) (hb : P3 D tb lb) : P2 D (ta ++ mkT 47 :: tb) (la ++ lb ++ [stepS 3]) := fun r hr => by
  have e : ta ++ mkT 47 :: tb ++ r = ta ++ mkT 47 :: (tb ++ r) := by simp
  have hb1 := hb r
  rw [hr, List.append_nil] at hb1
  rw [e, ha _ (marks_stop (by decide) (by decide) (by decide) _), rowL_go ((loc_part D).le (Nat.zero_le _)) (mk_is 47) hb1]
theorem P1.orP {D : Nat} {ta tb : List TK} {la lb : List StS} (ha : P1 D ta la) (hb : P2 D tb lb) : P1 D (ta ++ mkT 124 :: tb) (la ++ lb ++ [stepS 4]) := fun r hr hm => by
  have e : ta ++ mkT 124 :: tb ++ r = ta ++ mkT 124 :: (tb ++ r) := by simp
  have hb1 := hb r hr
  rw [rowL_stop _ _ hm] at hb1
  rw [e, ha _ (marks_stop (by decide) (by decide) (by decide) _) (mk_not (by decide)), rowL_go (loc_row ((loc_part D).le (Nat.zero_le _))) (mk_is 124) hb1]
/-- a piece's text, as it binds, is parsed as its steps where so many ( may still be opened. -/
def Lv (b : Int) (D : Nat) (ts : List TK) (l : List StS) : Prop := (b = 3 → P3 D ts l) ∧ (2 ≤ b → P2 D ts l) ∧ P1 D ts l
theorem Lv.of3 {D : Nat} {ts : List TK} {l : List StS} (h : P3 D ts l) : Lv 3 D ts l := ⟨fun _ => h, fun _ => h.two, h.two.one⟩
theorem Lv.of2 {D : Nat} {ts : List TK} {l : List StS} (h : P2 D ts l) : Lv 2 D ts l := ⟨fun e => absurd e (by decide), fun _ => h, h.one⟩
theorem Lv.of1 {D : Nat} {ts : List TK} {l : List StS} (h : P1 D ts l) : Lv 1 D ts l := ⟨fun e => absurd e (by decide), fun e => absurd e (by decide), h⟩
structure PInv (p : Pc) (l : List StS) (d : Nat) : Prop where
  mk ::
  ne : p.1 ≠ []
  lo : 1 ≤ p.2
  hi : p.2 ≤ 3
  tk : ∃ ts, tkO p.1 = some ts ∧ DeepE d (txts ts) ∧ ∀ D, d ≤ D → Lv p.2 D ts l
def upD (p : Pc) (k : Int) (d : Nat) : Nat := if p.2 < k then d + 1 else d
theorem PInv.least {p : Pc} {l : List StS} {d : Nat} (h : PInv p l d) (k : Int) (hk : k ≤ 3) : PInv (leastL p k, if p.2 < k then 3 else p.2) l (upD p k d) := by
  obtain ⟨hne, hlo, hhi, ts, ht, hd, hl⟩ := h
  unfold leastL upD
  by_cases hc : p.2 < k
  · rw [if_pos hc, if_pos hc, if_pos hc]
    refine ⟨by simp, by show (1 : Int) ≤ 3; omega, by show (3 : Int) ≤ 3; omega, mkT 40 :: (ts ++ [mkT 41]), ?_, ?_, ?_⟩
    · exact toks_mark (by decide) (toks_app (mark_sep (by decide)) ht (toks_mark (by decide) (toks_nil _ _)))
    · have : txts (mkT 40 :: (ts ++ [mkT 41])) = [40] :: txts ts ++ [[41]] := by simp [txts]
      rw [this]
      exact hd.round
    · intro D hD
      obtain ⟨D, rfl⟩ : ∃ E, D = E + 1 := ⟨D - 1, by omega⟩
      exact Lv.of3 (hl D (by omega)).2.2.round
  · rw [if_neg hc, if_neg hc, if_neg hc]
    exact ⟨hne, hlo, hhi, ts, ht, hd, hl⟩
theorem PInv.thenP {a b : List UInt8} {ba : Int} {la lb : List StS} {da db : Nat} (ha : PInv (a, ba) la da) (hb : PInv (b, 3) lb db) (h2 : 2 ≤ ba) : PInv (a ++ ([47] ++ b), 2) (la ++ lb ++ [stepS 3]) (max da db) := by
  obtain ⟨ane, alo, ahi, ts, ht, hd, hl⟩ := ha
  obtain ⟨bne, blo, bhi, us, hu, he, hm⟩ := hb
  refine ⟨by simp, by show (1 : Int) ≤ 2; omega, by show (2 : Int) ≤ 3; omega, ts ++ mkT 47 :: us, ?_, ?_, ?_⟩
  · exact toks_app (mark_sep (by decide)) ht (toks_mark (by decide) hu)
  · have : txts (ts ++ mkT 47 :: us) = txts ts ++ ([[47]] ++ txts us) := by simp [txts]
    rw [this]
    have := hd.app ((DeepE.one (s := [47]) (by decide) (by decide)).app he)
    rwa [Nat.zero_max] at this
  · intro D hD
    exact Lv.of2 (P2.thenP ((hl D (by omega)).2.1 h2) ((hm D (by omega)).1 rfl))
theorem PInv.orP {a b : List UInt8} {ba bb : Int} {la lb : List StS} {da db : Nat} (ha : PInv (a, ba) la da) (hb : PInv (b, bb) lb db) (h2 : 2 ≤ bb) : PInv (a ++ ([124] ++ b), 1) (la ++ lb ++ [stepS 4]) (max da db) := by
  obtain ⟨ane, alo, ahi, ts, ht, hd, hl⟩ := ha
  obtain ⟨bne, blo, bhi, us, hu, he, hm⟩ := hb
  refine ⟨by simp, by show (1 : Int) ≤ 1; omega, by show (1 : Int) ≤ 3; omega, ts ++ mkT 124 :: us, ?_, ?_, ?_⟩
  · exact toks_app (mark_sep (by decide)) ht (toks_mark (by decide) hu)
  · have : txts (ts ++ mkT 124 :: us) = txts ts ++ ([[124]] ++ txts us) := by simp [txts]
    rw [this]
    have := hd.app ((DeepE.one (s := [124]) (by decide) (by decide)).app he)
    rwa [Nat.zero_max] at this
  · intro D hD
    exact Lv.of1 (P1.orP (hl D (by omega)).2.2 ((hm D (by omega)).2.1 h2))
theorem PInv.markP {a : List UInt8} {la : List StS} {da : Nat} (ha : PInv (a, 3) la da) (k : Int) (h5 : 5 ≤ k) (h7 : k ≤ 7) : PInv (a ++ markL k, 3) (la ++ [stepS k]) da := by
  obtain ⟨ane, alo, ahi, ts, ht, hd, hl⟩ := ha
  have hk : (k = 5 ∧ markL k = [42]) ∨ (k = 6 ∧ markL k = [43]) ∨ (k = 7 ∧ markL k = [63]) := by
    rcases (by omega : k = 5 ∨ k = 6 ∨ k = 7) with rfl | rfl | rfl
    · exact .inl ⟨rfl, by decide⟩
    · exact .inr (.inl ⟨rfl, by decide⟩)
    · exact .inr (.inr ⟨rfl, by decide⟩)
  obtain ⟨m, hm, hmk, hs, h1, h4, h41⟩ : ∃ m, markL k = [m] ∧ ((m = 42 ∧ k = 5) ∨ (m = 43 ∧ k = 6) ∨ (m = 63 ∧ k = 7)) ∧ sepB m = true ∧ tkO [m] = some [mkT m] ∧ m ≠ 40 ∧ m ≠ 41 := by
    rcases hk with ⟨e, h⟩ | ⟨e, h⟩ | ⟨e, h⟩
    · exact ⟨42, h, .inl ⟨rfl, e⟩, by decide, toks_mark (by decide) (toks_nil _ _), by decide, by decide⟩
    · exact ⟨43, h, .inr (.inl ⟨rfl, e⟩), by decide, toks_mark (by decide) (toks_nil _ _), by decide, by decide⟩
    · exact ⟨63, h, .inr (.inr ⟨rfl, e⟩), by decide, toks_maybe _ _, by decide, by decide⟩
  rw [hm]
  refine ⟨by simp, by show (1 : Int) ≤ 3; omega, by show (3 : Int) ≤ 3; omega, ts ++ [mkT m], toks_app hs ht h1, ?_, ?_⟩
  · have : txts (ts ++ [mkT m]) = txts ts ++ [[m]] := by simp [txts]
    rw [this]
    have := hd.app (DeepE.one (s := [m]) (by simpa using h4) (by simpa using h41))
    rwa [Nat.max_zero] at this
  · intro D hD
    exact Lv.of3 (((hl D hD).1 rfl).mark m k hmk)
/-- a name is one token. -/
theorem name_next {s : List UInt8} (h : nmL s = true) : nextN nmL vlL s = some (1, s.length) := by
  obtain ⟨c, l, hl, h1, h2⟩ := name_head h
  have hl : s = c :: l := hl
  have hlow : ∀ c ∈ s, lowB c = true := (name_low h).1
  have hr := runN_full lowB s hlow
  have hc : smallN c = true := decide_eq_true ⟨h1, h2⟩
  subst hl
  simp only [nextN, hc, if_true, hr, List.take_length, h]
theorem pred_of {s : ByteArray} (h : predN s = true) : predB (1, s) = true ∧ nmL s.data.toList = true := by
  unfold predN at h
  unfold predB
  simp only [Bool.and_eq_true] at h ⊢
  exact ⟨⟨rfl, h.2⟩, h.1⟩
theorem name_toks {s : ByteArray} (h : nmL s.data.toList = true) : tkO s.data.toList = some [(1, s)] := toks_one (name_next h)
theorem name_mark {s : List UInt8} (h : nmL s = true) : s ≠ [] ∧ s ≠ [40] ∧ s ≠ [41] := by
  obtain ⟨c, l, hl, h1, h2⟩ := name_head h
  have hl : s = c :: l := hl
  subst hl
  refine ⟨by simp, fun e => ?_, fun e => ?_⟩
  all_goals
    injection e with e1 e2
    rw [e1] at h1
    exact absurd h1 (by decide)
theorem PInv.along {s : ByteArray} (h : predN s = true) : PInv (s.data.toList, 3) [⟨1, s⟩] 0 := by
  obtain ⟨hp, hn⟩ := pred_of h
  obtain ⟨n0, n1, n2⟩ := name_mark hn
  exact ⟨n0, by show (1 : Int) ≤ 3; omega, by show (3 : Int) ≤ 3; omega, [(1, s)], name_toks hn, DeepE.one n1 n2, fun D _ => Lv.of3 (P3.along hp)⟩
theorem PInv.back {s : ByteArray} (h : predN s = true) : PInv ([94] ++ s.data.toList, 3) [⟨2, s⟩] 0 := by
  obtain ⟨hp, hn⟩ := pred_of h
  obtain ⟨n0, n1, n2⟩ := name_mark hn
  refine ⟨by simp, by show (1 : Int) ≤ 3; omega, by show (3 : Int) ≤ 3; omega, [mkT 94, (1, s)], toks_mark (by decide) (name_toks hn), ?_, fun D _ => Lv.of3 (P3.back hp)⟩
  have := (DeepE.one (s := [94]) (by decide) (by decide)).app (DeepE.one n1 n2)
  exact this
/-- the stack's pieces are those of all steps so far. -/
def StI : List Pc → List StS → Prop
  | [], done => done = []
  | p :: st, done => ∃ pre l d, done = pre ++ l ∧ StI st pre ∧ PInv p l d
theorem step_bare {x : StS} (h : x.f1.data.toList = []) : x = stepS x.f0 := by
  obtain ⟨k, ⟨⟨l⟩⟩⟩ := x
  have h : l = [] := h
  subst h
  rfl
theorem push1_inv {st st' : List Pc} {done : List StS} {x : StS} (h : StI st done) (hp : push1 st x = some st') : StI st' (done ++ [x]) := by
  unfold push1 at hp
  split at hp
  · cases hp
  rename_i hk
  split at hp
  · rename_i h2
    split at hp
    · cases hp
    rename_i hne
    injection hp with hp
    subst hp
    refine ⟨done, [x], 0, rfl, h, ?_⟩
    unfold labelL at hne ⊢
    split at hne
    · rename_i hpr
      rw [if_pos hpr]
      rcases (by omega : x.f0 = 1 ∨ x.f0 = 2) with e | e
      · rw [if_neg (by omega), if_pos e]
        have := PInv.along hpr
        rwa [show x = ⟨1, x.f1⟩ from by cases x; simp only at e; subst e; rfl]
      · rw [if_pos e]
        have := PInv.back hpr
        rwa [show x = ⟨2, x.f1⟩ from by cases x; simp only at e; subst e; rfl]
    · exact absurd rfl hne
  · rename_i h2
    split at hp
    · cases hp
    rename_i hb
    have hx : x = stepS x.f0 := step_bare (by simpa using hb)
    cases st with
    | nil => cases hp
    | cons b r =>
      obtain ⟨pre, lb, db, rfl, hs, hb⟩ := h
      simp only at hp
      split at hp
      · rename_i h4
        cases r with
        | nil => cases hp
        | cons a r =>
          obtain ⟨pre, la, da, rfl, hs, ha⟩ := hs
          simp only at hp
          have h3 := hb.least 3 (by omega)
          have h32 := hb.least 2 (by omega)
          have h22 := ha.least 2 (by omega)
          split at hp
          · rename_i e3
            injection hp with hp
            subst hp
            have e : (if b.2 < 3 then (3 : Int) else b.2) = 3 := by have := hb.hi; split <;> omega
            rw [e] at h3
            refine ⟨pre, la ++ lb ++ [stepS 3], _, ?_, hs, PInv.thenP h22 h3 (by split <;> omega)⟩
            rw [hx, e3]; simp
          · rename_i e3
            injection hp with hp
            subst hp
            have e4 : x.f0 = 4 := by omega
            refine ⟨pre, la ++ lb ++ [stepS 4], _, ?_, hs, PInv.orP (ba := a.2) ha h32 (by split <;> omega)⟩
            rw [hx, e4]; simp
      · rename_i h4
        injection hp with hp
        subst hp
        have h3 := hb.least 3 (by omega)
        have e : (if b.2 < 3 then (3 : Int) else b.2) = 3 := by have := hb.hi; split <;> omega
        rw [e] at h3
        refine ⟨pre, lb ++ [stepS x.f0], _, ?_, hs, h3.markP x.f0 (by omega) (by omega)⟩
        rw [← hx]; simp
theorem pushes_inv : ∀ (l : List StS) (st st' : List Pc) (done : List StS), StI st done → pushes st l = some st' → StI st' (done ++ l)
  | [], st, st', done, h, hp => by
    injection hp with hp
    subst hp
    rwa [List.append_nil]
  | x :: l, st, st', done, h, hp => by
    simp only [pushes] at hp
    cases h1 : push1 st x with
    | none => rw [h1] at hp; cases hp
    | some s =>
      rw [h1, Option.bind_some] at hp
      have := pushes_inv l s st' (done ++ [x]) (push1_inv h h1) hp
      rwa [List.append_assoc] at this
theorem pushes_one {l : List StS} {p : Pc} (h : pushes [] l = some [p]) : ∃ d, PInv p l d := by
  obtain ⟨pre, m, d, e, hs, hp⟩ := pushes_inv l [] [p] [] rfl h
  have hs : pre = [] := hs
  subst hs
  have e : l = m := e
  subst e
  exact ⟨d, hp⟩
theorem lex_toks {s : ByteArray} (hs : s.size ≤ 20000) : tkO s.data.toList = if (lexRes s).2.2 = 0 then some ((lexRes s).1.map tkOf) else none := by
  have hL : lexRes s = tokRes s := by unfold lexRes; rw [if_neg (by omega)]
  rw [hL, tokRes, tkO, toksO_of]
  cases tokN nmL vlL 0 s.data.toList with
  | error i => rfl
  | ok l =>
    simp only
    rw [if_pos trivial, List.map_map]
    congr 1
    refine List.map_congr_left fun x _ => ?_
    show cutT s.data.toList x = tkOf (tokS s x)
    have ht : (tokS s x).f1.data.toList = (s.data.toList.drop x.2.1).take x.2.2 := tokS_txt8 s x
    unfold cutT
    rw [← ht]
    rfl
theorem deepS_of {s : List UInt8} (hs : s.length ≤ 20000) {ts : List TK} (h : tkO s = some ts) : deepS s = (deepF (0, 0) (txts ts)).2 := by
  have := lex_toks (s := ⟨s.toArray⟩) (by simpa [ByteArray.size] using hs)
  rw [show (⟨s.toArray⟩ : ByteArray).data.toList = s from rfl, h] at this
  split at this
  · injection this with this
    unfold deepS
    rw [← this]
  · cases this
theorem PInv.deep {p : Pc} {l : List StS} {d : Nat} (h : PInv p l d) (hs : p.1.length ≤ 20000) : deepS p.1 = d := by
  obtain ⟨_, _, _, ts, ht, hd, _⟩ := h
  rw [deepS_of hs ht, hd 0 0 (Nat.le_refl _)]
  show max 0 (0 + d) = d
  omega
theorem pathL_some {l : List StS} (h : pathL l ≠ []) : ∃ p, pushes [] l = some [p] ∧ l.length ≤ 100 ∧ deepS p.1 ≤ 32 ∧ pathL l = p.1 := by
  unfold pathL at h
  split at h
  · exact absurd rfl h
  rename_i h100
  split at h
  · rename_i p hp
    split at h
    · exact absurd rfl h
    rename_i h32
    refine ⟨p, hp, by omega, by omega, ?_⟩
    unfold pathL
    rw [if_neg h100, hp]
    exact if_neg h32
  · exact absurd rfl h
/-- what is shown of steps is parsed as these. -/
theorem path_back {l : List StS} (hne : pathL l ≠ []) (hs : (pathL l).length ≤ 20000) : ∃ ts, tkO (pathL l) = some ts ∧ l.length ≤ 100 ∧ ∀ r, marksP r = ([], r) → mk0 r [47] = false → mk0 r [124] = false → pathP 32 (ts ++ r) = .ok (l, r) := by
  obtain ⟨p, hp, h100, h32, e⟩ := pathL_some hne
  rw [e] at hs ⊢
  obtain ⟨d, hI⟩ := pushes_one hp
  have hd := hI.deep hs
  obtain ⟨_, _, _, ts, ht, _, hl⟩ := hI
  refine ⟨ts, ht, h100, fun r h1 h2 h3 => ?_⟩
  rw [(hl 32 (by omega)).2.2 r h1 h2, rowL_stop _ _ h3]
theorem steps_back {l : List StS} (hne : pathL l ≠ []) (hs : (pathL l).length ≤ 20000) : parse_Path.f (baL (pathL l)) = some (l, 0, 0) := by
  obtain ⟨ts, ht, hl, hp⟩ := path_back hne hs
  have hsz : (baL (pathL l)).size ≤ 20000 := by simpa [ByteArray.size] using hs
  have h0 := lex_toks hsz
  rw [show (baL (pathL l)).data.toList = pathL l from rfl, ht] at h0
  split at h0
  · rename_i hz
    injection h0 with h0
    have hp := hp [] rfl rfl rfl
    rw [List.append_nil] at hp
    have hA : allP wholeP ts = .ok l := by
      unfold allP
      have : wholeP ts = .ok (l, []) := by
        unfold wholeP
        rw [bnd_of hp, if_neg (by omega)]
      rw [this]
    unfold parse_Path.f
    rw [if_pos (by omega)]
    unfold parseRes
    rw [if_pos hz, ← h0, hA]
    rfl
  · cases h0
end Go.Proofs.YthebhbomlllpeaaGreatDoor.X
namespace Go.Proofs.YthebhbomlllpeaaGreatDoor.X
open Go.RowKit Go.Proofs.YthebhbomlllpeaaGreatDoorW.PrintWords Go.Proofs.YthebhbomlllpeaaGreatDoorW.PrintLast Go.Proofs.YthebhbomlllpeaaGreatDoorW.PrintMore
attribute [local go_sem] max2_int min2_int max_two min_two max_three min_three max_four min_four
set_option linter.unusedVariables false
set_option linter.unusedSimpArgs false
theorem eqA58 (d : Nat) (w : World) (x0 y0 : Int) (x1 y1 : Int) (x2 y2 : ByteArray) :
    (Op.equalIn (d + 2) 58 (.agg #[.int .i64 x0, .int .i64 x1, .string x2]) (.agg #[.int .i64 y0, .int .i64 y1, .string y2])).run Tryz.prog w = .ok (x0 == y0 && (x1 == y1 && (x2.toList == y2.toList))) w := by
  refine eqA_of Tryz.underlying58 (by kernel_rfl) ?_
  refine eqf_cons (by rfl) (by go_simp; rfl) (by go_simp; rfl) (by go_simp) ?_
  refine eqf_cons (by rfl) (by go_simp; rfl) (by go_simp; rfl) (by go_simp) ?_
  exact eqf_last (by rfl) (by go_simp; rfl) (by go_simp; rfl) (by go_simp)
end Go.Proofs.YthebhbomlllpeaaGreatDoor.X
namespace Go.Proofs.YthebhbomlllpeaaGreatDoor.X
open Go.RowKit Go.Proofs.YthebhbomlllpeaaGreatDoorW.PrintWords Go.Proofs.YthebhbomlllpeaaGreatDoorW.PrintLast Go.Proofs.YthebhbomlllpeaaGreatDoorW.PrintMore
attribute [local go_sem] max2_int min2_int max_two min_two max_three min_three max_four min_four
set_option linter.unusedVariables false
set_option linter.unusedSimpArgs false
def show_predicate.f (k : Nat) (a0 : ByteArray) : Option (Bool) := (value_Name.f k a0).bind fun t119 => (if t119 = true then ((lex_Key.f a0).bind fun t120 => (some (!t120))) else (some false))
set_option maxHeartbeats 8000000 in
set_option maxRecDepth 100000 in
theorem show_predicate.calls (k : Nat) (a0 : ByteArray) (r : Bool) (w : World) (h : show_predicate.f k a0 = some r) :
    Calls Tryz.prog 72 #[.string a0] w fun e w' => e = .returned (.bool r) ∧ Drawn0 w w' := by
  have H : ((value_Name.f k a0).bind fun t119 => (if t119 = true then ((lex_Key.f a0).bind fun t120 => (some (!t120))) else (some false))) = some r := h
  clear h
  replace H := Option.bind_eq_some_iff.mp H
  obtain ⟨t119, A20, H⟩ := H
  replace H : (if t119 = true then ((lex_Key.f a0).bind fun t120 => (some (!t120))) else (some false)) = some r := H
  have A2 := Aside0.mk A20
  clear A20
  by_cases c3 : t119 = true
  · subst c3
    have H1 : ((lex_Key.f a0).bind fun t120 => (some (!t120))) = some r := by rw [if_pos rfl] at H; exact H
    clear H
    have H := H1
    clear H1
    replace H := Option.bind_eq_some_iff.mp H
    obtain ⟨t120, A40, H⟩ := H
    replace H : (some (!t120)) = some r := H
    have A4 := Aside0.mk A40
    clear A40
    obtain rfl := Option.some.inj H
    go_enter Tryz.func72, Tryz.ntmps72
    go_wp2_with (first | ((with_reducible refine gate_callee (f := 108) rfl ?_); refine goesL_ (some 4) rfl rfl Tryz.func108 (by kernel_rfl) rfl #[.string a0] rfl (by (try simp only [List.map_toArray, List.map_cons, List.map_nil]); first | done | rfl | (simp only [List.length_drop, List.length_take]; rfl)) ?_; (with_reducible refine (value_Name.calls k a0 true _ A2.out).mono ?_); rintro e w' ⟨rfl, ⟨nd, rfl⟩⟩; refine ⟨_, rfl, ?_⟩) | (go_at_call 85; (with_reducible refine (lex_Key.calls a0 t120 _ A4.out).mono ?_); rintro e w' ⟨rfl, ⟨nd, rfl⟩⟩))
    go_ret
    exact ⟨by first | rfl | (simp; done) | (simp [*]; done), by repeat (first | exact Drawn0.refl _ | apply Drawn0.step)⟩
  · replace c3 := Bool.eq_false_iff.mpr c3
    subst c3
    have H1 : (some false) = some r := by rw [if_neg (show ¬ (false = true) by decide)] at H; exact H
    clear H
    have H := H1
    clear H1
    obtain rfl := Option.some.inj H
    go_enter Tryz.func72, Tryz.ntmps72
    go_wp2_with (first | ((with_reducible refine gate_callee (f := 108) rfl ?_); refine goesL_ (some 4) rfl rfl Tryz.func108 (by kernel_rfl) rfl #[.string a0] rfl (by (try simp only [List.map_toArray, List.map_cons, List.map_nil]); first | done | rfl | (simp only [List.length_drop, List.length_take]; rfl)) ?_; (with_reducible refine (value_Name.calls k a0 false _ A2.out).mono ?_); rintro e w' ⟨rfl, ⟨nd, rfl⟩⟩; refine ⟨_, rfl, ?_⟩))
    go_ret
    exact ⟨by first | rfl | (simp; done) | (simp [*]; done), by repeat (first | exact Drawn0.refl _ | apply Drawn0.step)⟩
def show_label.f (k : Nat) (a0_0 : Int) (a0_1 : ByteArray) : Option (ByteArray) := (show_predicate.f k a0_1).bind fun t122 => (if t122 = true then (if a0_0 = 2 then (if 1 + a0_1.size ≤ 9223372036854775807 then (some ((⟨#[94]⟩ : ByteArray) ++ a0_1)) else (none)) else (if a0_0 = 1 then (some a0_1) else (some (⟨#[]⟩ : ByteArray)))) else (some (⟨#[]⟩ : ByteArray)))
set_option maxHeartbeats 8000000 in
set_option maxRecDepth 100000 in
theorem show_label.calls (k : Nat) (a0_0 : Int) (a0_1 : ByteArray) (r : ByteArray) (w : World) (h : show_label.f k a0_0 a0_1 = some r) :
    Calls Tryz.prog 50 #[.agg #[.int .i64 a0_0, .string a0_1]] w fun e w' => e = .returned (.string r) ∧ Below w.heap.size w w' := by
  have hu69 := Tryz.underlying69
  have HB := Aside0.mk (Below.refl w.heap.size w)
  have H : ((show_predicate.f k a0_1).bind fun t122 => (if t122 = true then (if a0_0 = 2 then (if 1 + a0_1.size ≤ 9223372036854775807 then (some ((⟨#[94]⟩ : ByteArray) ++ a0_1)) else (none)) else (if a0_0 = 1 then (some a0_1) else (some (⟨#[]⟩ : ByteArray)))) else (some (⟨#[]⟩ : ByteArray)))) = some r := h
  clear h
  replace H := Option.bind_eq_some_iff.mp H
  obtain ⟨t122, A20, H⟩ := H
  replace H : (if t122 = true then (if a0_0 = 2 then (if 1 + a0_1.size ≤ 9223372036854775807 then (some ((⟨#[94]⟩ : ByteArray) ++ a0_1)) else (none)) else (if a0_0 = 1 then (some a0_1) else (some (⟨#[]⟩ : ByteArray)))) else (some (⟨#[]⟩ : ByteArray))) = some r := H
  have A2 := Aside0.mk A20
  clear A20
  by_cases c3 : t122 = true
  · subst c3
    have H1 : (if a0_0 = 2 then (if 1 + a0_1.size ≤ 9223372036854775807 then (some ((⟨#[94]⟩ : ByteArray) ++ a0_1)) else (none)) else (if a0_0 = 1 then (some a0_1) else (some (⟨#[]⟩ : ByteArray)))) = some r := by rw [if_pos rfl] at H; exact H
    clear H
    have H := H1
    clear H1
    by_cases c4 : a0_0 = 2
    · rw [if_pos c4] at H
      have c4b0 : (a0_0 == 2) = true := beq_iff_eq.mpr c4
      have c4b1 : (a0_0 != 2) = false := bne_eq_false_iff_eq.mpr c4
      clear c4
      by_cases c5 : 1 + a0_1.size ≤ 9223372036854775807
      · rw [if_pos c5] at H
        have c5b0 := eq_true c5
        have c5b1 : decide (1 + a0_1.size ≤ 9223372036854775807) = true := decide_eq_true c5
        try have c5b2 : (9223372036854775807 < 1 + a0_1.size) = False := eq_false (Nat.not_lt.2 c5)
        obtain rfl := Option.some.inj H
        go_enter Tryz.func50, Tryz.ntmps50
        go_wp2_with (first | ((with_reducible refine gate_dst (N := 1) rfl ?_); refine box_event ?hg (N := 1) ?hd (cs := #[.int .i64 a0_0, .string a0_1]) (t := 69) ?hr ?_; (case hd => rfl); (case hg => rfl); (case hr => first | (go_simp; done) | (go_simp; rfl)); intro gb121 hg w6 hbox hb; have n0_ := Aside0.mk (below_step (by repeat (first | (with_reducible first | exact HB.out | apply below_alloc | apply pw_below_drewN | apply below_drew1) | exact HB.out)) hb); have n1_ := Aside0.mk (hbox); have n2_ := Aside0.mk ((by rw [hg]; exact (below_size (by repeat (first | (with_reducible first | exact HB.out | apply below_alloc | apply pw_below_drewN | apply below_drew1) | exact HB.out))) : w.heap.size ≤ gb121)); have n3_ := Aside0.mk ((by rw [hg]; exact (below_size (by repeat (first | (with_reducible first | exact HB.out | apply below_alloc | apply pw_below_drewN | apply below_drew1) | exact HB.out))) : w.heap.size ≤ gb121)); clear HB; have HB := n0_; have BK121 := n1_; have GW121 := n2_; have GE121 := n3_; clear n0_ n1_ n2_ n3_; clear hb hbox hg; have hcz7_0 : w6.cell? ⟨gb121, 0, none⟩ = some (.int .i64 a0_0) := (blk_cell BK121.out 0).trans rfl; have hcz7_1 : w6.cell? ⟨gb121, 1, none⟩ = some (.string a0_1) := (blk_cell BK121.out 1).trans rfl; have hfz7_0 := blk_frozen BK121.out 0; have hfz7_1 := blk_frozen BK121.out 1) | ((with_reducible refine gate_callee (f := 72) rfl ?_); refine goesL_ (some 6) rfl rfl Tryz.func72 (by kernel_rfl) rfl #[.string a0_1] rfl (by (try simp only [List.map_toArray, List.map_cons, List.map_nil]); first | done | rfl | (simp only [List.length_drop, List.length_take]; rfl)) ?_; (with_reducible refine (show_predicate.calls k a0_1 true _ A2.out).mono ?_); rintro e w' ⟨rfl, ⟨nd, rfl⟩⟩; refine ⟨_, rfl, ?_⟩))
        go_ret
        exact ⟨by first | rfl | (simp [errW_none, errW_some] <;> rfl) | (simp [*, errW_none, errW_some] <;> rfl), by repeat (first | (with_reducible first | exact HB.out | apply below_alloc | apply pw_below_drewN | apply below_drew1 | refine below_set ?_ GE121.out) | exact HB.out)⟩
      · rw [if_neg c5] at H
        exact absurd H (by simp)
    · rw [if_neg c4] at H
      have c4b0 : (a0_0 == 2) = false := beq_eq_false_iff_ne.mpr c4
      have c4b1 : (a0_0 != 2) = true := bne_iff_ne.mpr c4
      by_cases c8 : a0_0 = 1
      · rw [if_pos c8] at H
        have c8b0 : (a0_0 == 1) = true := beq_iff_eq.mpr c8
        have c8b1 : (a0_0 != 1) = false := bne_eq_false_iff_eq.mpr c8
        clear c8
        obtain rfl := Option.some.inj H
        go_enter Tryz.func50, Tryz.ntmps50
        go_wp2_with (first | ((with_reducible refine gate_dst (N := 1) rfl ?_); refine box_event ?hg (N := 1) ?hd (cs := #[.int .i64 a0_0, .string a0_1]) (t := 69) ?hr ?_; (case hd => rfl); (case hg => rfl); (case hr => first | (go_simp; done) | (go_simp; rfl)); intro gb121 hg w9 hbox hb; have n0_ := Aside0.mk (below_step (by repeat (first | (with_reducible first | exact HB.out | apply below_alloc | apply pw_below_drewN | apply below_drew1) | exact HB.out)) hb); have n1_ := Aside0.mk (hbox); have n2_ := Aside0.mk ((by rw [hg]; exact (below_size (by repeat (first | (with_reducible first | exact HB.out | apply below_alloc | apply pw_below_drewN | apply below_drew1) | exact HB.out))) : w.heap.size ≤ gb121)); have n3_ := Aside0.mk ((by rw [hg]; exact (below_size (by repeat (first | (with_reducible first | exact HB.out | apply below_alloc | apply pw_below_drewN | apply below_drew1) | exact HB.out))) : w.heap.size ≤ gb121)); clear HB; have HB := n0_; have BK121 := n1_; have GW121 := n2_; have GE121 := n3_; clear n0_ n1_ n2_ n3_; clear hb hbox hg; have hcz10_0 : w9.cell? ⟨gb121, 0, none⟩ = some (.int .i64 a0_0) := (blk_cell BK121.out 0).trans rfl; have hcz10_1 : w9.cell? ⟨gb121, 1, none⟩ = some (.string a0_1) := (blk_cell BK121.out 1).trans rfl; have hfz10_0 := blk_frozen BK121.out 0; have hfz10_1 := blk_frozen BK121.out 1) | ((with_reducible refine gate_callee (f := 72) rfl ?_); refine goesL_ (some 6) rfl rfl Tryz.func72 (by kernel_rfl) rfl #[.string a0_1] rfl (by (try simp only [List.map_toArray, List.map_cons, List.map_nil]); first | done | rfl | (simp only [List.length_drop, List.length_take]; rfl)) ?_; (with_reducible refine (show_predicate.calls k a0_1 true _ A2.out).mono ?_); rintro e w' ⟨rfl, ⟨nd, rfl⟩⟩; refine ⟨_, rfl, ?_⟩))
        go_ret
        exact ⟨by first | rfl | (simp [errW_none, errW_some] <;> rfl) | (simp [*, errW_none, errW_some] <;> rfl), by repeat (first | (with_reducible first | exact HB.out | apply below_alloc | apply pw_below_drewN | apply below_drew1 | refine below_set ?_ GE121.out) | exact HB.out)⟩
      · rw [if_neg c8] at H
        have c8b0 : (a0_0 == 1) = false := beq_eq_false_iff_ne.mpr c8
        have c8b1 : (a0_0 != 1) = true := bne_iff_ne.mpr c8
        obtain rfl := Option.some.inj H
        go_enter Tryz.func50, Tryz.ntmps50
        go_wp2_with (first | ((with_reducible refine gate_dst (N := 1) rfl ?_); refine box_event ?hg (N := 1) ?hd (cs := #[.int .i64 a0_0, .string a0_1]) (t := 69) ?hr ?_; (case hd => rfl); (case hg => rfl); (case hr => first | (go_simp; done) | (go_simp; rfl)); intro gb121 hg w11 hbox hb; have n0_ := Aside0.mk (below_step (by repeat (first | (with_reducible first | exact HB.out | apply below_alloc | apply pw_below_drewN | apply below_drew1) | exact HB.out)) hb); have n1_ := Aside0.mk (hbox); have n2_ := Aside0.mk ((by rw [hg]; exact (below_size (by repeat (first | (with_reducible first | exact HB.out | apply below_alloc | apply pw_below_drewN | apply below_drew1) | exact HB.out))) : w.heap.size ≤ gb121)); have n3_ := Aside0.mk ((by rw [hg]; exact (below_size (by repeat (first | (with_reducible first | exact HB.out | apply below_alloc | apply pw_below_drewN | apply below_drew1) | exact HB.out))) : w.heap.size ≤ gb121)); clear HB; have HB := n0_; have BK121 := n1_; have GW121 := n2_; have GE121 := n3_; clear n0_ n1_ n2_ n3_; clear hb hbox hg; have hcz12_0 : w11.cell? ⟨gb121, 0, none⟩ = some (.int .i64 a0_0) := (blk_cell BK121.out 0).trans rfl; have hcz12_1 : w11.cell? ⟨gb121, 1, none⟩ = some (.string a0_1) := (blk_cell BK121.out 1).trans rfl; have hfz12_0 := blk_frozen BK121.out 0; have hfz12_1 := blk_frozen BK121.out 1) | ((with_reducible refine gate_callee (f := 72) rfl ?_); refine goesL_ (some 6) rfl rfl Tryz.func72 (by kernel_rfl) rfl #[.string a0_1] rfl (by (try simp only [List.map_toArray, List.map_cons, List.map_nil]); first | done | rfl | (simp only [List.length_drop, List.length_take]; rfl)) ?_; (with_reducible refine (show_predicate.calls k a0_1 true _ A2.out).mono ?_); rintro e w' ⟨rfl, ⟨nd, rfl⟩⟩; refine ⟨_, rfl, ?_⟩))
        go_ret
        exact ⟨by first | rfl | (simp [errW_none, errW_some] <;> rfl) | (simp [*, errW_none, errW_some] <;> rfl), by repeat (first | (with_reducible first | exact HB.out | apply below_alloc | apply pw_below_drewN | apply below_drew1 | refine below_set ?_ GE121.out) | exact HB.out)⟩
  · replace c3 := Bool.eq_false_iff.mpr c3
    subst c3
    have H1 : (some (⟨#[]⟩ : ByteArray)) = some r := by rw [if_neg (show ¬ (false = true) by decide)] at H; exact H
    clear H
    have H := H1
    clear H1
    obtain rfl := Option.some.inj H
    go_enter Tryz.func50, Tryz.ntmps50
    go_wp2_with (first | ((with_reducible refine gate_dst (N := 1) rfl ?_); refine box_event ?hg (N := 1) ?hd (cs := #[.int .i64 a0_0, .string a0_1]) (t := 69) ?hr ?_; (case hd => rfl); (case hg => rfl); (case hr => first | (go_simp; done) | (go_simp; rfl)); intro gb121 hg w13 hbox hb; have n0_ := Aside0.mk (below_step (by repeat (first | (with_reducible first | exact HB.out | apply below_alloc | apply pw_below_drewN | apply below_drew1) | exact HB.out)) hb); have n1_ := Aside0.mk (hbox); have n2_ := Aside0.mk ((by rw [hg]; exact (below_size (by repeat (first | (with_reducible first | exact HB.out | apply below_alloc | apply pw_below_drewN | apply below_drew1) | exact HB.out))) : w.heap.size ≤ gb121)); have n3_ := Aside0.mk ((by rw [hg]; exact (below_size (by repeat (first | (with_reducible first | exact HB.out | apply below_alloc | apply pw_below_drewN | apply below_drew1) | exact HB.out))) : w.heap.size ≤ gb121)); clear HB; have HB := n0_; have BK121 := n1_; have GW121 := n2_; have GE121 := n3_; clear n0_ n1_ n2_ n3_; clear hb hbox hg; have hcz14_0 : w13.cell? ⟨gb121, 0, none⟩ = some (.int .i64 a0_0) := (blk_cell BK121.out 0).trans rfl; have hcz14_1 : w13.cell? ⟨gb121, 1, none⟩ = some (.string a0_1) := (blk_cell BK121.out 1).trans rfl; have hfz14_0 := blk_frozen BK121.out 0; have hfz14_1 := blk_frozen BK121.out 1) | ((with_reducible refine gate_callee (f := 72) rfl ?_); refine goesL_ (some 6) rfl rfl Tryz.func72 (by kernel_rfl) rfl #[.string a0_1] rfl (by (try simp only [List.map_toArray, List.map_cons, List.map_nil]); first | done | rfl | (simp only [List.length_drop, List.length_take]; rfl)) ?_; (with_reducible refine (show_predicate.calls k a0_1 false _ A2.out).mono ?_); rintro e w' ⟨rfl, ⟨nd, rfl⟩⟩; refine ⟨_, rfl, ?_⟩))
    go_ret
    exact ⟨by first | rfl | (simp [errW_none, errW_some] <;> rfl) | (simp [*, errW_none, errW_some] <;> rfl), by repeat (first | (with_reducible first | exact HB.out | apply below_alloc | apply pw_below_drewN | apply below_drew1 | refine below_set ?_ GE121.out) | exact HB.out)⟩
def show_piece_least.f (a0_0 : ByteArray) (a0_1 : Int) (a1 : Int) : Option (ByteArray) := if a0_1 < a1 then (if 1 + a0_0.size ≤ 9223372036854775807 then (if 1 + a0_0.size + 1 ≤ 9223372036854775807 then (some (((⟨#[40]⟩ : ByteArray) ++ a0_0) ++ (⟨#[41]⟩ : ByteArray))) else (none)) else (none)) else (some a0_0)
set_option maxHeartbeats 8000000 in
set_option maxRecDepth 100000 in
theorem show_piece_least.calls (a0_0 : ByteArray) (a0_1 : Int) (a1 : Int) (r : ByteArray) (w : World) (h : show_piece_least.f a0_0 a0_1 a1 = some r) :
    Calls Tryz.prog 51 #[.agg #[.string a0_0, .int .i64 a0_1], .int .i64 a1] w fun e w' => e = .returned (.string r) ∧ Below w.heap.size w w' := by
  have hu85 := Tryz.underlying85
  have HB := Aside0.mk (Below.refl w.heap.size w)
  have H : (if a0_1 < a1 then (if 1 + a0_0.size ≤ 9223372036854775807 then (if 1 + a0_0.size + 1 ≤ 9223372036854775807 then (some (((⟨#[40]⟩ : ByteArray) ++ a0_0) ++ (⟨#[41]⟩ : ByteArray))) else (none)) else (none)) else (some a0_0)) = some r := h
  clear h
  by_cases c3 : a0_1 < a1
  · rw [if_pos c3] at H
    have c3b0 : decide (a0_1 < a1) = true := decide_eq_true c3
    clear c3
    by_cases c4 : 1 + a0_0.size ≤ 9223372036854775807
    · rw [if_pos c4] at H
      have c4b0 := eq_true c4
      have c4b1 : decide (1 + a0_0.size ≤ 9223372036854775807) = true := decide_eq_true c4
      try have c4b2 : (9223372036854775807 < 1 + a0_0.size) = False := eq_false (Nat.not_lt.2 c4)
      by_cases c5 : 1 + a0_0.size + 1 ≤ 9223372036854775807
      · rw [if_pos c5] at H
        have c5b0 := eq_true c5
        have c5b1 : decide (1 + a0_0.size + 1 ≤ 9223372036854775807) = true := decide_eq_true c5
        try have c5b2 : (9223372036854775807 < 1 + a0_0.size + 1) = False := eq_false (Nat.not_lt.2 c5)
        obtain rfl := Option.some.inj H
        go_enter Tryz.func51, Tryz.ntmps51
        go_wp2_with (first | ((with_reducible refine gate_dst (N := 2) rfl ?_); refine box_event ?hg (N := 2) ?hd (cs := #[.string a0_0, .int .i64 a0_1]) (t := 85) ?hr ?_; (case hd => rfl); (case hg => rfl); (case hr => first | (go_simp; done) | (go_simp; rfl)); intro gb123 hg w6 hbox hb; have n0_ := Aside0.mk (below_step (by repeat (first | (with_reducible first | exact HB.out | apply below_alloc | apply pw_below_drewN | apply below_drew1) | exact HB.out)) hb); have n1_ := Aside0.mk (hbox); have n2_ := Aside0.mk ((by rw [hg]; exact (below_size (by repeat (first | (with_reducible first | exact HB.out | apply below_alloc | apply pw_below_drewN | apply below_drew1) | exact HB.out))) : w.heap.size ≤ gb123)); have n3_ := Aside0.mk ((by rw [hg]; exact (below_size (by repeat (first | (with_reducible first | exact HB.out | apply below_alloc | apply pw_below_drewN | apply below_drew1) | exact HB.out))) : w.heap.size ≤ gb123)); clear HB; have HB := n0_; have BK123 := n1_; have GW123 := n2_; have GE123 := n3_; clear n0_ n1_ n2_ n3_; clear hb hbox hg; have hcz7_0 : w6.cell? ⟨gb123, 0, none⟩ = some (.string a0_0) := (blk_cell BK123.out 0).trans rfl; have hcz7_1 : w6.cell? ⟨gb123, 1, none⟩ = some (.int .i64 a0_1) := (blk_cell BK123.out 1).trans rfl; have hfz7_0 := blk_frozen BK123.out 0; have hfz7_1 := blk_frozen BK123.out 1))
        go_ret
        exact ⟨by first | rfl | (simp [errW_none, errW_some] <;> rfl) | (simp [*, errW_none, errW_some] <;> rfl), by repeat (first | (with_reducible first | exact HB.out | apply below_alloc | apply pw_below_drewN | apply below_drew1 | refine below_set ?_ GE123.out) | exact HB.out)⟩
      · rw [if_neg c5] at H
        exact absurd H (by simp)
    · rw [if_neg c4] at H
      exact absurd H (by simp)
  · rw [if_neg c3] at H
    have c3b0 : decide (a0_1 < a1) = false := decide_eq_false c3
    clear c3
    obtain rfl := Option.some.inj H
    go_enter Tryz.func51, Tryz.ntmps51
    go_wp2_with (first | ((with_reducible refine gate_dst (N := 2) rfl ?_); refine box_event ?hg (N := 2) ?hd (cs := #[.string a0_0, .int .i64 a0_1]) (t := 85) ?hr ?_; (case hd => rfl); (case hg => rfl); (case hr => first | (go_simp; done) | (go_simp; rfl)); intro gb123 hg w8 hbox hb; have n0_ := Aside0.mk (below_step (by repeat (first | (with_reducible first | exact HB.out | apply below_alloc | apply pw_below_drewN | apply below_drew1) | exact HB.out)) hb); have n1_ := Aside0.mk (hbox); have n2_ := Aside0.mk ((by rw [hg]; exact (below_size (by repeat (first | (with_reducible first | exact HB.out | apply below_alloc | apply pw_below_drewN | apply below_drew1) | exact HB.out))) : w.heap.size ≤ gb123)); have n3_ := Aside0.mk ((by rw [hg]; exact (below_size (by repeat (first | (with_reducible first | exact HB.out | apply below_alloc | apply pw_below_drewN | apply below_drew1) | exact HB.out))) : w.heap.size ≤ gb123)); clear HB; have HB := n0_; have BK123 := n1_; have GW123 := n2_; have GE123 := n3_; clear n0_ n1_ n2_ n3_; clear hb hbox hg; have hcz9_0 : w8.cell? ⟨gb123, 0, none⟩ = some (.string a0_0) := (blk_cell BK123.out 0).trans rfl; have hcz9_1 : w8.cell? ⟨gb123, 1, none⟩ = some (.int .i64 a0_1) := (blk_cell BK123.out 1).trans rfl; have hfz9_0 := blk_frozen BK123.out 0; have hfz9_1 := blk_frozen BK123.out 1))
    go_ret
    exact ⟨by first | rfl | (simp [errW_none, errW_some] <;> rfl) | (simp [*, errW_none, errW_some] <;> rfl), by repeat (first | (with_reducible first | exact HB.out | apply below_alloc | apply pw_below_drewN | apply below_drew1 | refine below_set ?_ GE123.out) | exact HB.out)⟩
end Go.Proofs.YthebhbomlllpeaaGreatDoor.X
namespace Go.Proofs.YthebhbomlllpeaaGreatDoor.X
open Go.RowKit Go.Proofs.YthebhbomlllpeaaGreatDoorW.PrintWords Go.Proofs.YthebhbomlllpeaaGreatDoorW.PrintLast Go.Proofs.YthebhbomlllpeaaGreatDoorW.PrintMore
attribute [local go_sem] max2_int min2_int max_two min_two max_three min_three max_four min_four
set_option linter.unusedVariables false
set_option linter.unusedSimpArgs false
def antecedentref07_Key.l0 : Nat → ByteArray → List ByteArray → Int → Int → Option (Bool)
  | 0, _, _, _, _ => none
  | k + 1, x0, x3, x7, x8 => if x8 < x7 then (if 0 ≤ x8 then (if x8 < (x3.length : Int) then (if (rdOf ByteArray.empty x3 x8).toList = x0.toList then (some true) else (antecedentref07_Key.l0 k x0 x3 x7 (wrap64 (x8 + 1)))) else (none)) else (none)) else (some false)
def antecedentref07_sign.f (a0 : Int) : Option (Bool) := if a0 ≥ 97 then (if a0 ≤ 122 then (some true) else (if a0 ≥ 65 then (if a0 ≤ 90 then (some true) else (if a0 ≥ 48 then (if a0 ≤ 57 then (some true) else (some (a0 == 95))) else (some (a0 == 95)))) else (if a0 ≥ 48 then (if a0 ≤ 57 then (some true) else (some (a0 == 95))) else (some (a0 == 95))))) else (if a0 ≥ 65 then (if a0 ≤ 90 then (some true) else (if a0 ≥ 48 then (if a0 ≤ 57 then (some true) else (some (a0 == 95))) else (some (a0 == 95)))) else (if a0 ≥ 48 then (if a0 ≤ 57 then (some true) else (some (a0 == 95))) else (some (a0 == 95))))
mutual
def antecedentref07_Variable.j0 : Nat → ByteArray → Bool → Option (Bool)
  | 0, _, _ => none
  | k + 1, x0, x21 => if x21 = true then (some false) else (antecedentref07_Variable.l0 k x0 0)
def antecedentref07_Variable.l0 : Nat → ByteArray → Int → Option (Bool)
  | 0, _, _ => none
  | k + 1, x0, x3 => if x3 < (x0.size : Int) then (if 0 ≤ x3 then ((antecedentref07_sign.f (bt x0 x3)).bind fun t152 => (if t152 = true then (antecedentref07_Variable.l0 k x0 (wrap64 (x3 + 1))) else (some false))) else (none)) else (some true)
end
def antecedentref07_Variable.f (k : Nat) (a0 : ByteArray) : Option (Bool) := if (a0.size : Int) < 1 then (antecedentref07_Variable.j0 k a0 true) else (if (a0.size : Int) > 40 then (antecedentref07_Variable.j0 k a0 true) else (if 0 < (a0.size : Int) then (if (bt a0 0) < 65 then (antecedentref07_Variable.j0 k a0 true) else (antecedentref07_Variable.j0 k a0 (decide ((bt a0 0) > 90)))) else (none)))
def antecedentref01_Right.f (a0 : Int) : Option (Bool) := if a0 = 9221120237041090561 then (some true) else (if a0 ≤ 9218868437227405312 then (some (decide (a0 ≥ (-9218868437227405313)))) else (some false))
mutual
def antecedentref02_Digits.l0 : Nat → Int → Int → ByteArray → Option (ByteArray)
  | 0, _, _, _ => none
  | k + 1, x0, x1, x5 => if x0 > 0 then (antecedentref02_Digits.j1 k x0 x1 x5 true) else (antecedentref02_Digits.j1 k x0 x1 x5 (x5.toList == ([] : List UInt8)))
def antecedentref02_Digits.j1 : Nat → Int → Int → ByteArray → Bool → Option (ByteArray)
  | 0, _, _, _, _ => none
  | k + 1, x0, x1, x5, x13 => if x13 = true then (if x1 = 0 then (none) else (if ((Int.tmod x0 x1) % 256) > 9 then ((some (([(((97 + ((Int.tmod x0 x1) % 256)) % 256) - 10) % 256] : List Int) : List Int)).bind fun y163 => (if (strOfNums y163).size + x5.size ≤ 9223372036854775807 then (antecedentref02_Digits.l0 k (IntKind.u64.wrap (Int.tdiv x0 x1)) x1 ((strOfNums y163) ++ x5)) else (none))) else ((some (([(48 + ((Int.tmod x0 x1) % 256)) % 256] : List Int) : List Int)).bind fun y166 => (if (strOfNums y166).size + x5.size ≤ 9223372036854775807 then (antecedentref02_Digits.l0 k (IntKind.u64.wrap (Int.tdiv x0 x1)) x1 ((strOfNums y166) ++ x5)) else (none))))) else (some x5)
end
def antecedentref02_Digits.f (k : Nat) (a0 : Int) (a1 : Int) : Option (ByteArray) := antecedentref02_Digits.l0 k a0 a1 (⟨#[]⟩ : ByteArray)
end Go.Proofs.YthebhbomlllpeaaGreatDoor.X
namespace Go.Proofs.YthebhbomlllpeaaGreatDoor.X
open Go.RowKit Go.Proofs.YthebhbomlllpeaaGreatDoorW.PrintWords Go.Proofs.YthebhbomlllpeaaGreatDoorW.PrintLast Go.Proofs.YthebhbomlllpeaaGreatDoorW.PrintMore
attribute [local go_sem] max2_int min2_int max_two min_two max_three min_three max_four min_four
set_option linter.unusedVariables false
set_option linter.unusedSimpArgs false
attribute [local go_sem high] eqA58
def antecedentref02_Right.f (a0_0 : Int) (a0_1 : Int) (a0_2 : ByteArray) : Option (Bool) := if a0_0 = 1 then (some (a0_2.toList == ([] : List UInt8))) else (if a0_0 = 2 then (if a0_2.toList = ([] : List UInt8) then ((antecedentref01_Right.f a0_1).bind fun t154 => (some t154)) else (some false)) else (if a0_0 = 3 then (if a0_1 = 0 then ((antecedentref02_Name.f a0_2).bind fun t155 => (some t155)) else (some false)) else (some false)))
def antecedentref09_Term.f (k : Nat) (a0_0 : ByteArray) (a0_1 : Int) (a0_2 : Int) (a0_3 : ByteArray) : Option (Bool) := if a0_0.toList = ([] : List UInt8) then ((antecedentref02_Right.f a0_1 a0_2 a0_3).bind fun t157 => (some t157)) else ((antecedentref07_Variable.f k a0_0).bind fun t158 => (if t158 = true then (some (a0_1 == 0 && (a0_2 == 0 && (a0_3.toList == ([] : List UInt8))))) else (some false)))
mutual
def antecedentref09_RightAtom.j0 : Nat → Bool → ByteArray → List (S60) → Option (Bool)
  | 0, _, _, _ => none
  | k + 1, x13, x160000, x160001 => if x13 = true then (some false) else (antecedentref09_RightAtom.l0 k (x160001.length : Int) 0 x160000 x160001)
def antecedentref09_RightAtom.l0 : Nat → Int → Int → ByteArray → List (S60) → Option (Bool)
  | 0, _, _, _, _ => none
  | k + 1, x16, x17, x160000, x160001 => if x17 < x16 then (if 0 ≤ x17 then (if x17 < (x160001.length : Int) then ((antecedentref09_Term.f k ((rd_T60 x160001 x17).f0) ((rd_T60 x160001 x17).f1.f0) ((rd_T60 x160001 x17).f1.f1) ((rd_T60 x160001 x17).f1.f2)).bind fun t162 => (if t162 = true then (antecedentref09_RightAtom.l0 k x16 (wrap64 (x17 + 1)) x160000 x160001) else (some false))) else (none)) else (none)) else (some true)
end
def antecedentref02_Text.l0 : Nat → ByteArray → Option (ByteArray)
  | 0, _ => none
  | k + 1, x3 => if (x3.size : Int) < 16 then (if 1 + x3.size ≤ 9223372036854775807 then (antecedentref02_Text.l0 k ((⟨#[48]⟩ : ByteArray) ++ x3)) else (none)) else (if 1 + x3.size ≤ 9223372036854775807 then (some ((⟨#[35]⟩ : ByteArray) ++ x3)) else (none))
def antecedentref02_Text.f (k : Nat) (a0_0 : Int) (a0_1 : Int) (a0_2 : ByteArray) : Option (ByteArray) := (antecedentref02_Right.f a0_0 a0_1 a0_2).bind fun t170 => (if t170 = true then (if a0_0 = 1 then (if a0_1 < 0 then ((antecedentref02_Digits.f k (IntKind.u64.wrap (-(IntKind.u64.wrap (a0_1)))) 10).bind fun t171 => (if 1 + t171.size ≤ 9223372036854775807 then (some ((⟨#[45]⟩ : ByteArray) ++ t171)) else (none))) else ((antecedentref02_Digits.f k (IntKind.u64.wrap (a0_1)) 10).bind fun t172 => (some t172))) else (if a0_0 = 2 then ((antecedentref02_Digits.f k (IntKind.u64.wrap (a0_1)) 16).bind fun t173 => (antecedentref02_Text.l0 k t173)) else (some a0_2))) else (some (⟨#[]⟩ : ByteArray)))
end Go.Proofs.YthebhbomlllpeaaGreatDoor.X
namespace Go.Proofs.YthebhbomlllpeaaGreatDoor.X
set_option linter.unusedVariables false
set_option linter.unusedSimpArgs false
open Go.RowKit Go.Proofs.YthebhbomlllpeaaGreatDoorW.PrintWords Go.Proofs.YthebhbomlllpeaaGreatDoorW.PrintLast Go.Proofs.YthebhbomlllpeaaGreatDoorW.PrintMore
theorem textL_length (a b : Int) (s : ByteArray) (hb : -9223372036854775808 ≤ b ∧ b ≤ 9223372036854775807) : (textL a b s).length ≤ 40 := by
  unfold textL
  by_cases hr : rightB a b s = true
  · rw [if_pos hr]
    by_cases h1 : a = 1
    · rw [if_pos h1]
      unfold Lib.itoa
      split
      · have := nDigits_20 b.natAbs (by omega)
        simp [Lib.decDigits_length]; omega
      · have := nDigits_20 b.toNat (by omega)
        simp [Lib.decDigits_length]; omega
    · rw [if_neg h1]
      by_cases h2 : a = 2
      · rw [if_pos h2]
        have hw := wrap_u64 b
        have := hexL_length (IntKind.u64.wrap b).toNat 16 (by omega) (by omega)
        unfold hex16
        simp; omega
      · rw [if_neg h2]
        unfold rightB at hr
        rw [if_neg h1, if_neg h2] at hr
        by_cases h3 : a = 3
        · rw [if_pos h3] at hr
          simp only [Bool.and_eq_true, nameB, decide_eq_true_eq] at hr
          show s.size ≤ 40
          exact hr.2.1.2
        · rw [if_neg h3] at hr
          cases hr
  · rw [if_neg hr]; simp
end Go.Proofs.YthebhbomlllpeaaGreatDoor.X
namespace Go.Proofs.YthebhbomlllpeaaGreatDoor.X
set_option linter.unusedVariables false
set_option linter.unusedSimpArgs false
open Go.RowKit Go.Proofs.YthebhbomlllpeaaGreatDoorW.PrintWords Go.Proofs.YthebhbomlllpeaaGreatDoorW.PrintLast Go.Proofs.YthebhbomlllpeaaGreatDoorW.PrintMore
attribute [local go_sem high] eqA58
/-- a term that a machine can hold. -/
def okT (t : TmS) : Prop := (-9223372036854775808 ≤ t.f1.f1 ∧ t.f1.f1 ≤ 9223372036854775807) ∧ t.f0.size ≤ 9223372036854775807
theorem toList_iff (s : ByteArray) : s.toList = s.data.toList := ByteArray.toList_eq s
theorem bytes_nil {s : ByteArray} (h : s.data.toList = []) : s = ⟨#[]⟩ := by
  cases s with
  | mk d => have := congrArg List.toArray h; simp at this; rw [this]
theorem term_cells {w1 w0 : World} {n : Nat} {cs : Array Value} {t : TypeId} (hn : w0.heap.size = n) (h : Below (w0.alloc (.cells cs t)).heap.size (w0.alloc (.cells cs t)) w1) : w1.heap[n]? = some (.cells cs t (0, 0)) := by
  have := blk_new w0 (.cells cs t)
  rw [hn] at this
  exact blk_below this h
set_option maxRecDepth 100000 in
theorem variable_any (v : ByteArray) (hv : v.size ≤ 9223372036854775807) (w : World) :
    Calls Tryz.prog 107 #[.string v] w fun e w' => e = .returned (.bool (varL v.data.toList)) ∧ Drawn0 w w' := by
  by_cases h40 : v.size ≤ 40
  · exact lex_Variable.calls v _ w (by unfold lex_Variable.f; exact if_pos (by omega))
  · have hl : varL v.data.toList = false := by
      obtain ⟨r, hr⟩ := list_head (s := v) (by omega)
      have hlen : v.data.toList.length = v.size := data_length v
      rw [hr] at hlen ⊢
      unfold varL
      simp only
      rw [decide_eq_false (by omega)]
      rfl
    have hemp : v.toList.isEmpty = false := by
      obtain ⟨r, hr⟩ := list_head (s := v) (by omega)
      rw [toList_data, hr]; rfl
    have e1 : decide ((v.size : Int) ≤ 40) = false := decide_eq_false (by omega)
    rw [hl]
    clear hl h40 hv
    go_enter Tryz.func107, Tryz.ntmps107
    go_wp2
    go_ret
    exact ⟨rfl, Drawn0.refl _⟩
set_option maxHeartbeats 4000000 in
set_option maxRecDepth 100000 in
theorem term_show (t : TmS) (w : World) (hLW : LaidW w) (h : okT t) :
    Calls Tryz.prog 70 #[.agg #[.string t.f0, .int .i64 t.f1.f0, .int .i64 t.f1.f1, .string t.f1.f2]] w fun e w' => e = .returned (.string (baL (termL t))) ∧ Below w.heap.size w w' := by
  obtain ⟨v, ⟨k, m, s⟩⟩ := t
  have hB := below_alloc (Below.refl w.heap.size w) (.cells #[.string v, .int .i64 k, .int .i64 m, .string s] 60)
  have hN := blk_new w (.cells #[.string v, .int .i64 k, .int .i64 m, .string s] 60)
  obtain ⟨n, en⟩ : ∃ n, w.heap.size = n := ⟨_, rfl⟩
  rw [en] at hN
  by_cases h0 : v.data.toList = []
  · have e1 : (v.toList == ([] : List UInt8)) = true := by rw [beq_iff_eq, toList_iff]; exact h0
    have e2 : (v.toList == (⟨#[]⟩ : ByteArray).toList) = true := by rw [nil_bytes]; exact e1
    have HT := Aside0.mk (fun W (hW : LaidW W) => value_Text.calls k m s (baL (textL k m s)) W hW (by unfold value_Text.f; exact if_pos h.1))
    have HE := Aside0.mk (show termL ⟨v, ⟨k, m, s⟩⟩ = textL k m s from if_pos h0)
    have HB := Aside0.mk hB
    have HLW := Aside0.mk hLW
    clear hB hN h0 h hLW
    go_enter Tryz.func70, Tryz.ntmps70
    go_wp2_with fail
    refine (HT.out _ (HLW.out.below HB.out)).mono ?_
    rintro e w1 ⟨rfl, hb⟩
    have HB1 := Aside0.mk (below_then HB.out HB.out.size hb)
    clear hb
    go_wp2
    go_ret
    exact ⟨by rw [HE.out]; rfl, HB1.out⟩
  · have e1 : (v.toList == ([] : List UInt8)) = false := by rw [beq_eq_false_iff_ne, toList_iff]; exact h0
    have e2 : (v.toList == (⟨#[]⟩ : ByteArray).toList) = false := by rw [nil_bytes]; exact e1
    have HV := Aside0.mk (fun W => variable_any v h.2 W)
    have HE := Aside0.mk (show termL ⟨v, ⟨k, m, s⟩⟩ = if varL v.data.toList = true then (if noneVB ⟨k, m, s⟩ = true then v.data.toList else []) else [] from if_neg h0)
    have HB := Aside0.mk hB
    have HN := Aside0.mk hN
    have HLW := Aside0.mk hLW
    clear hB hN h0 h hLW
    obtain ⟨b, hb⟩ : ∃ b, varL v.data.toList = b := ⟨_, rfl⟩
    rw [hb] at HV HE
    clear hb
    cases b with
    | false =>
      go_enter Tryz.func70, Tryz.ntmps70
      go_wp2_with fail
      refine (HV.out _).mono ?_
      rintro e w1 ⟨rfl, hb⟩
      obtain ⟨nd, rfl⟩ := hb
      go_wp2
      go_ret
      exact ⟨by rw [HE.out]; rfl, pw_below_drewN HB.out nd⟩
    | true =>
      obtain ⟨b2, hb2⟩ : ∃ b2, noneVB ⟨k, m, s⟩ = b2 := ⟨_, rfl⟩
      rw [hb2] at HE
      have hb3 : (k == 0 && (m == 0 && (s.toList == ([] : List UInt8)))) = b2 := hb2
      clear hb2
      cases b2 with
      | true =>
        rw [Bool.and_eq_true, Bool.and_eq_true, beq_iff_eq, beq_iff_eq, beq_iff_eq] at hb3
        obtain ⟨rfl, rfl, hs⟩ := hb3
        rw [toList_iff] at hs
        obtain rfl := bytes_nil hs
        clear hs
        go_enter Tryz.func70, Tryz.ntmps70
        go_wp2_with fail
        refine (HV.out _).mono ?_
        rintro e w1 ⟨rfl, hb⟩
        obtain ⟨nd, rfl⟩ := hb
        have hN2 := blk_drewN HN.out nd
        go_wp2
        go_ret
        exact ⟨by rw [HE.out]; rfl, pw_below_drewN HB.out nd⟩
      | false =>
        have hb4 : (k == 0 && (m == 0 && (s.toList == (⟨#[]⟩ : ByteArray).toList))) = false := by rw [nil_bytes]; exact hb3
        have hb5 : (k == 0 && (m == 0 && s.toList.isEmpty)) = false := by rw [show s.toList.isEmpty = (s.toList == ([] : List UInt8)) by cases s.toList <;> rfl]; exact hb3
        clear hb3
        go_enter Tryz.func70, Tryz.ntmps70
        go_wp2_with fail
        refine (HV.out _).mono ?_
        rintro e w1 ⟨rfl, hb⟩
        obtain ⟨nd, rfl⟩ := hb
        go_wp2
        go_ret
        exact ⟨by rw [HE.out]; rfl, pw_below_drewN HB.out nd⟩
theorem varL_len {l : List UInt8} (h : varL l = true) : l.length ≤ 40 := by
  cases l with
  | nil => simp
  | cons c r =>
    unfold varL at h
    rw [Bool.and_eq_true] at h
    exact of_decide_eq_true h.1
theorem termL_len (t : TmS) (h : okT t) : (termL t).length ≤ 40 := by
  unfold termL
  split
  · exact textL_length _ _ _ h.1
  · split
    · rename_i hv
      split
      · exact varL_len hv
      · simp
    · simp
theorem predN_len {s : ByteArray} (h : predN s = true) : s.size ≤ 40 := by
  unfold predN nmL at h
  rw [Bool.and_eq_true] at h
  have := h.1
  unfold nameB at this
  rw [Bool.and_eq_true] at this
  have := of_decide_eq_true this.1
  exact this.2
theorem predicate_f (s : ByteArray) : show_predicate.f 42 s = some (predN s) := by
  unfold show_predicate.f predN
  rw [value_Name_eq s 42 (Nat.le_refl _), lex_Key_eq2]
  simp only [Option.bind_some]
  have e : nmL s.data.toList = nameB s := rfl
  rw [e]
  cases nameB s <;> rfl
theorem argL_len (f : Int) (b : Bool) (t : TmS) (h : okT t) : (argL f b t).length ≤ 100 := by
  have h1 := termL_len t h
  have h2 : (foldW f).length ≤ 5 := by
    unfold foldW
    repeat' split
    all_goals simp
  unfold argL
  split
  · omega
  · split
    · simp
    · simp only [List.length_append, List.length_cons, List.length_nil]
      omega
theorem rd_ok {xs : List S60} (h : ∀ x ∈ xs, okT x) (i : Int) : okT (rd_T60 xs i) := by
  unfold rd_T60
  rw [List.getD_eq_getElem?_getD]
  cases hg : xs[i.toNat]? with
  | none => exact ⟨⟨by decide, by decide⟩, by decide⟩
  | some y => exact h y (List.mem_of_getElem? hg)
/-- the arguments' texts, by their numbers. -/
def argG (f : Int) (xs : List TmS) (i : Nat) : List UInt8 := argL f (decide ((i : Int) = (xs.length : Int) - 1)) (rd_T60 xs (i : Int))
theorem argsL_get (f : Int) : ∀ (xs : List TmS) (i : Nat), i < xs.length → (argsL f xs)[i]? = some (argG f xs i)
  | [], i, h => by simp at h
  | [t], i, h => by
    have : i = 0 := by simp at h; omega
    subst this
    rfl
  | t :: u :: r, 0, h => by
    show some _ = some _
    congr 1
    unfold argG
    rw [decide_eq_false (by simp; omega)]
    rfl
  | t :: u :: r, i + 1, h => by
    have ih := argsL_get f (u :: r) i (by simpa using h)
    show (argsL f (u :: r))[i]? = _
    rw [ih]
    congr 1
    unfold argG
    have e1 : rd_T60 (t :: u :: r) ((i + 1 : Nat) : Int) = rd_T60 (u :: r) (i : Int) := by
      unfold rd_T60
      rw [show ((i + 1 : Nat) : Int).toNat = i + 1 by omega, show (i : Int).toNat = i by omega]
      rfl
    rw [e1]
    congr 1
    simp only [List.length_cons]
    congr 1
    simp
theorem argsL_length (f : Int) : ∀ xs : List TmS, (argsL f xs).length = xs.length
  | [] => rfl
  | [t] => rfl
  | t :: u :: r => by
    show (argsL f (u :: r)).length + 1 = _
    rw [argsL_length f (u :: r)]
    rfl
theorem argsL_range (f : Int) (xs : List TmS) : (List.range xs.length).map (argG f xs) = argsL f xs := by
  apply List.ext_getElem?
  intro i
  by_cases h : i < xs.length
  · rw [argsL_get f xs i h, List.getElem?_map, List.getElem?_range h]
    rfl
  · rw [List.getElem?_eq_none (by simp; omega), List.getElem?_eq_none (by rw [argsL_length]; omega)]
theorem each_args (f : Int) (xs : List TmS) (sep : List UInt8) : eachG (argG f xs) xs.length sep = eachL (argsL f xs) sep := by unfold eachG; rw [argsL_range]
theorem ret_str {a b : ByteArray} (h : a = b) : Ending.returned (.string a) = .returned (.string b) := by rw [h]
theorem fold_words : ∀ (f : Nat), f ≤ 5 → ∀ w : World, (Instr.index 115 (.agg #[.string ⟨#[]⟩, .string ⟨#[99, 111, 117, 110, 116]⟩, .string ⟨#[115, 117, 109]⟩, .string ⟨#[109, 105, 110]⟩, .string ⟨#[109, 97, 120]⟩, .string ⟨#[109, 101, 97, 110]⟩]) (.int .i64 f)).run Tryz.prog w = .ok (.string (baL (foldW f))) w
  | 0, _ => fun _ => by kernel_rfl
  | 1, _ => fun _ => by kernel_rfl
  | 2, _ => fun _ => by kernel_rfl
  | 3, _ => fun _ => by kernel_rfl
  | 4, _ => fun _ => by kernel_rfl
  | 5, _ => fun _ => by kernel_rfl
  | n + 6, h => by omega
set_option maxHeartbeats 4000000 in
set_option maxRecDepth 100000 in
theorem head1_calls (t : TmS) (f : Nat) (hf : f ≤ 5) (i last : Int) (b3 b5 : Nat) (w : World) (hLW : LaidW w) (ht : okT t) (h3 : w.heap[b3]? = some (.cells #[.int .i64 f] 3 (0, 0))) (h5 : w.heap[b5]? = some (.cells #[.int .i64 last] 3 (0, 0))) :
    Calls Tryz.prog 69 #[.int .i64 i, .agg #[.string t.f0, .int .i64 t.f1.f0, .int .i64 t.f1.f1, .string t.f1.f2], .pointer (some ⟨b3, 0, none⟩), .pointer (some ⟨b5, 0, none⟩)] w fun e w' => e = .returned (.string (baL (argL f (decide (i = last)) t))) ∧ Below w.heap.size w w' := by
  have hl := termL_len t ht
  have HT := Aside0.mk (fun W (hW : LaidW W) => term_show t W hW ht)
  obtain ⟨s, hs⟩ : ∃ s, termL t = s := ⟨_, rfl⟩
  rw [hs] at HT hl
  have HE := Aside0.mk (show argL f (decide (i = last)) t = if (f : Int) = 0 ∨ decide (i = last) = false then s else if t.f0.data.toList = [] ∨ s = [] then [] else foldW f ++ ([40] ++ (s ++ [41])) by unfold argL; rw [hs])
  obtain ⟨d, hd⟩ : ∃ d, decide (i = last) = d := ⟨_, rfl⟩
  rw [hd] at HE ⊢
  have HD := Aside0.mk hd
  clear hd
  obtain ⟨v, ⟨k, m, z⟩⟩ := t
  have hB := below_alloc (Below.refl w.heap.size w) (.cells #[.string v, .int .i64 k, .int .i64 m, .string z] 60)
  obtain ⟨n, en⟩ : ∃ n, w.heap.size = n := ⟨_, rfl⟩
  have hN := fun w1 (h : Below (w.alloc (.cells #[.string v, .int .i64 k, .int .i64 m, .string z] 60)).heap.size (w.alloc (.cells #[.string v, .int .i64 k, .int .i64 m, .string z] 60)) w1) => term_cells en h
  have HN := Aside0.mk hN
  have HB := Aside0.mk hB
  have HLW := Aside0.mk (hLW.below hB)
  have H3 := Aside0.mk (blk_below h3 hB)
  have H5 := Aside0.mk (blk_below h5 hB)
  have hfs : (foldW f).length ≤ 5 := by
    unfold foldW
    repeat' split
    all_goals simp
  have HW := Aside0.mk (fold_words f hf)
  clear hN hB hLW h3 h5 ht hs
  go_enter Tryz.func69, Tryz.ntmps69
  go_wp2_with fail
  refine (HT.out _ HLW.out).mono ?_
  rintro e w1 ⟨rfl, hb⟩
  have HB1 := Aside0.mk (below_then HB.out HB.out.size hb)
  have g3 := blk_below H3.out hb
  have g5 := blk_below H5.out hb
  have hN1 := HN.out w1 hb
  have hc3 : w1.cell? ⟨b3, 0, none⟩ = some (.int .i64 f) := (blk_cell g3 0).trans rfl
  have hc5 : w1.cell? ⟨b5, 0, none⟩ = some (.int .i64 last) := (blk_cell g5 0).trans rfl
  have hv : w1.cell? ⟨n, 0, none⟩ = some (.string v) := (blk_cell hN1 0).trans rfl
  clear hb g3 g5 hN1
  by_cases hf0 : f = 0
  · subst hf0
    have HE2 := Aside0.mk (HE.out.trans (if_pos (Or.inl rfl)))
    clear HE
    go_wp2
    go_ret
    exact ⟨by rw [HE2.out]; rfl, HB1.out⟩
  · have e1 : ((f : Int) == 0) = false := beq_eq_false_iff_ne.2 (by omega)
    have e2 : (f == 0) = false := beq_eq_false_iff_ne.2 hf0
    by_cases hil : i = last
    · obtain rfl : true = d := by rw [← HD.out, decide_eq_true hil]
      have e0 : (i == last) = true := beq_iff_eq.2 hil
      have e01 : (i != last) = false := bne_eq_false_iff_eq.2 hil
      clear hil
      have HE1 := Aside0.mk (HE.out.trans (if_neg (by rintro (h | h); exact hf0 (by omega); cases h)))
      clear HE
      by_cases hv0 : v.data.toList = []
      · have e3 : (v.toList == ([] : List UInt8)) = true := by rw [beq_iff_eq, toList_iff]; exact hv0
        have e4 : (v.toList == (⟨#[]⟩ : ByteArray).toList) = true := by rw [nil_bytes]; exact e3
        have HE2 := Aside0.mk (HE1.out.trans (if_pos (Or.inl hv0)))
        clear HE1 hv0
        go_wp2
        go_ret
        exact ⟨by rw [HE2.out]; rfl, HB1.out⟩
      · have e3 : (v.toList == ([] : List UInt8)) = false := by rw [beq_eq_false_iff_ne, toList_iff]; exact hv0
        have e4 : (v.toList == (⟨#[]⟩ : ByteArray).toList) = false := by rw [nil_bytes]; exact e3
        obtain ⟨b, hbE⟩ : ∃ b, baL s = b := ⟨_, rfl⟩
        rw [hbE]
        by_cases hs0 : s = []
        · have e5 : (b.toList == ([] : List UInt8)) = true := by rw [← hbE, hs0, baL_toList]; exact beq_self_eq_true _
          have e6 : (b.toList == (⟨#[]⟩ : ByteArray).toList) = true := by rw [← hbE, hs0]; exact beq_self_eq_true _
          have HE2 := Aside0.mk (HE1.out.trans (if_pos (Or.inr hs0)))
          clear HE1 hv0 hs0 hbE
          go_wp2
          go_ret
          exact ⟨by rw [HE2.out]; rfl, HB1.out⟩
        · have e5 : (b.toList == ([] : List UInt8)) = false := by rw [beq_eq_false_iff_ne, ← hbE, baL_toList]; exact hs0
          have e6 : (b.toList == (⟨#[]⟩ : ByteArray).toList) = false := by rw [beq_eq_false_iff_ne, ← hbE, baL_toList]; exact fun h => hs0 (h.trans nil_bytes)
          have HE2 := Aside0.mk (HE1.out.trans (if_neg (by rintro (h | h); exact hv0 h; exact hs0 h)))
          have HBE := Aside0.mk hbE
          have hbs : b.size ≤ 40 := by rw [← hbE]; simpa [ByteArray.size] using hl
          obtain ⟨q, hq⟩ : ∃ q, baL (foldW f) = q := ⟨_, rfl⟩
          have hqs : q.size ≤ 5 := by rw [← hq]; simpa [ByteArray.size] using hfs
          have hw := HW.out
          rw [hq] at hw
          have HQ := Aside0.mk hq
          clear HE1 hv0 hs0 hbE hq HW hl hfs
          go_wp2
          go_ret
          exact ⟨by rw [HE2.out, ← HBE.out, ← HQ.out]; exact ret_str (ba_eq (by simp)), HB1.out⟩
    · have e3 : (i == last) = false := beq_eq_false_iff_ne.2 hil
      have e4 : (i != last) = true := bne_iff_ne.2 hil
      obtain rfl : false = d := by rw [← HD.out, decide_eq_false hil]
      have HE1 := Aside0.mk (HE.out.trans (if_pos (Or.inr rfl)))
      clear HE
      go_wp2
      go_ret
      exact ⟨by rw [HE1.out]; rfl, HB1.out⟩
end Go.Proofs.YthebhbomlllpeaaGreatDoor.X
namespace Go.Proofs.YthebhbomlllpeaaGreatDoor.X
set_option linter.unusedVariables false
set_option linter.unusedSimpArgs false
open Go.RowKit Go.Proofs.YthebhbomlllpeaaGreatDoorW.PrintWords Go.Proofs.YthebhbomlllpeaaGreatDoorW.PrintLast Go.Proofs.YthebhbomlllpeaaGreatDoorW.PrintMore
/-- an atom that a machine can hold. -/
def okA (a : AtS) : Prop := (∀ x ∈ a.f1, okT x) ∧ a.f1.length ≤ 1000
theorem blocks3v (w : World) (o0 o1 o2 : Obj) : (((w.alloc o0).alloc o1).alloc o2).heap[w.heap.size]? = some o0 ∧ (((w.alloc o0).alloc o1).alloc o2).heap[w.heap.size + 1]? = some o1 ∧ (((w.alloc o0).alloc o1).alloc o2).heap[w.heap.size + 2]? = some o2 := by
  have z1 : (w.alloc o0).heap.size = w.heap.size + 1 := by simp
  have z2 : ((w.alloc o0).alloc o1).heap.size = w.heap.size + 2 := by simp
  refine ⟨blk_alloc (blk_alloc (blk_new w o0) _) _, ?_, ?_⟩
  · have := blk_new (w.alloc o0) o1
    rw [z1] at this
    exact blk_alloc this _
  · have := blk_new ((w.alloc o0).alloc o1) o2
    rwa [z2] at this
theorem args_len (f : Int) (xs : List TmS) (h : ∀ x ∈ xs, okT x) : ∀ x ∈ argsL f xs, x.length ≤ 100 := fun x hx => by
  rw [← argsL_range] at hx
  obtain ⟨i, _, rfl⟩ := List.mem_map.1 hx
  exact argL_len _ _ _ (rd_ok h _)
theorem each_len {ws : List (List UInt8)} {sep : List UInt8} {m : Nat} (h : ∀ x ∈ ws, x.length ≤ m) : (eachL ws sep).1.length ≤ ws.length * (m + sep.length) := by
  unfold eachL
  split
  · simp
  · exact join_len ws sep m h
theorem head_len (a : AtS) (f : Int) (h : okA a) : (headL a f).length ≤ 200000 := by
  have h1 : (eachL (argsL f a.f1) [44, 32]).1.length ≤ 1000 * 102 := Nat.le_trans (each_len (args_len f a.f1 h.1)) (by rw [argsL_length]; exact Nat.mul_le_mul h.2 (by simp))
  unfold headL
  split
  · simp
  · rename_i hc
    have hp : a.f0.size ≤ 40 := predN_len (by
      cases hb : predN a.f0 with
      | true => rfl
      | false => exact absurd (Or.inr (Or.inl hb)) hc)
    split
    · rw [data_length]; omega
    · simp only [List.length_append, List.length_cons, List.length_nil, data_length]
      omega
set_option maxHeartbeats 4000000 in
set_option maxRecDepth 100000 in
theorem head_calls (a : AtS) (A : Option Addr) (c : Nat) (f : Nat) (hf : f ≤ 5) (w : World) (hLW : LaidW w) (hC : Kd.C k60 w A a.f1.length a.f1) (ha : okA a) :
    Calls Tryz.prog 42 #[.agg #[.string a.f0, .slice A a.f1.length c], .int .i64 f] w fun e w' => e = .returned (.string (baL (headL a f))) ∧ Below w.heap.size w w' := by
  obtain ⟨p, xs⟩ := a
  have hlen : xs.length ≤ 1000 := ha.2
  obtain ⟨n, en⟩ : ∃ n, w.heap.size = n := ⟨_, rfl⟩
  obtain ⟨last, hlast⟩ : ∃ l : Int, (xs.length : Int) - 1 = l := ⟨_, rfl⟩
  have hz1 : (w.alloc (.cells #[.string p, .slice A xs.length c] 25)).heap.size = n + 1 := by simp [en]
  have hz2 : ((w.alloc (.cells #[.string p, .slice A xs.length c] 25)).alloc (.cells #[.int .i64 f] 3)).heap.size = n + 2 := by simp [en]
  have hb := blocks3v w (.cells #[.string p, .slice A xs.length c] 25) (.cells #[.int .i64 f] 3) (.cells #[.int .i64 last] 3)
  rw [en] at hb
  obtain ⟨W, hW⟩ : ∃ W, ((w.alloc (.cells #[.string p, .slice A xs.length c] 25)).alloc (.cells #[.int .i64 f] 3)).alloc (.cells #[.int .i64 last] 3) = W := ⟨_, rfl⟩
  have hBW : Below w.heap.size w W := hW ▸ below_alloc (below_alloc (below_alloc (Below.refl _ _) _) _) _
  rw [hW] at hb
  have HP := Aside0.mk (eachT_calls W A c xs (.pointer (some ⟨n + 1, 0, none⟩)) (.pointer (some ⟨n + 2, 0, none⟩)) (argG f xs) ⟨#[44, 32]⟩ (by decide) (Kd.C_below hC hBW) hlen (fun i => Nat.le_trans (argL_len _ _ _ (rd_ok ha.1 _)) (by decide)) (fun V i hi hV => by
    have := head1_calls (rd_T60 xs i) f hf (i : Int) ((xs.length : Int) - 1) (n + 1) (n + 2) V (hLW.below (below_then hBW hBW.size hV)) (rd_ok ha.1 _) (blk_below hb.2.1 hV) (by rw [hlast]; exact blk_below hb.2.2 hV)
    exact this))
  have hs1 : (eachL (argsL f xs) [44, 32]).1.length ≤ 1000 * 102 := Nat.le_trans (each_len (args_len f xs ha.1)) (by rw [argsL_length]; exact Nat.mul_le_mul hlen (by simp))
  rw [each_args, show (⟨#[44, 32]⟩ : ByteArray).data.toList = [44, 32] from rfl] at HP
  have HE := Aside0.mk (show headL ⟨p, xs⟩ f = if (eachL (argsL f xs) [44, 32]).2 = false ∨ predN p = false ∨ 8 < xs.length ∨ (0 < (f : Int) ∧ xs = []) then [] else if xs = [] then p.data.toList else p.data.toList ++ ([40] ++ ((eachL (argsL f xs) [44, 32]).1 ++ [41])) from rfl)
  obtain ⟨⟨s, ok⟩, hso⟩ : ∃ x, eachL (argsL f xs) [44, 32] = x := ⟨_, rfl⟩
  rw [hso] at HP HE hs1
  have HPR := Aside0.mk (fun V => show_predicate.calls 42 p (predN p) V (predicate_f p))
  have HPL := Aside0.mk (fun (h : predN p = true) => predN_len h)
  obtain ⟨pr, hpr⟩ : ∃ b, predN p = b := ⟨_, rfl⟩
  rw [hpr] at HPR HE HPL
  have HB := Aside0.mk (And.intro hb hBW)
  have HW := Aside0.mk hW
  have HLS := Aside0.mk hlast
  have hmf : ∀ (fn : Fn) (first cap : Array Value) (w : World), (Instr.makeFunc fn first cap).run Tryz.prog w = .ok (.func fn first cap) w := fun _ _ _ _ => rfl
  have hll : -1 ≤ last ∧ last ≤ 1000 := by omega
  clear hC ha hso hpr hb hBW hW hLW
  go_enter Tryz.func42, Tryz.ntmps42
  go_wp2_with fail
  rw [HW.out]
  refine HP.out.mono ?_
  rintro e w1 ⟨rfl, hb⟩
  have HB1 := Aside0.mk (below_then HB.out.2 HB.out.2.size hb)
  have g0 := blk_below HB.out.1.1 hb
  have g1 := blk_below HB.out.1.2.1 hb
  have g2 := blk_below HB.out.1.2.2 hb
  have hc0 : w1.cell? ⟨n, 0, none⟩ = some (.string p) := (blk_cell g0 0).trans rfl
  have hc1 : w1.cell? ⟨n, 1, none⟩ = some (.slice A xs.length c) := (blk_cell g0 1).trans rfl
  have hc3 : w1.cell? ⟨n + 1, 0, none⟩ = some (.int .i64 f) := (blk_cell g1 0).trans rfl
  have hc5 : w1.cell? ⟨n + 2, 0, none⟩ = some (.int .i64 last) := (blk_cell g2 0).trans rfl
  clear hb g0 g1 g2 HB HW HP
  cases ok with
  | false =>
    have HE2 := Aside0.mk (HE.out.trans (if_pos (Or.inl rfl)))
    clear HE
    go_wp2
    go_ret
    exact ⟨by rw [HE2.out]; rfl, HB1.out⟩
  | true =>
    cases pr with
    | false =>
      have HE2 := Aside0.mk (HE.out.trans (if_pos (Or.inr (Or.inl rfl))))
      clear HE
      go_wp2_with fail
      refine (HPR.out _).mono ?_
      rintro e w2 ⟨rfl, nd, rfl⟩
      go_wp2
      go_ret
      exact ⟨by rw [HE2.out]; rfl, pw_below_drewN HB1.out nd⟩
    | true =>
      have hpl := HPL.out rfl
      clear HPL
      have HE1 := Aside0.mk HE.out
      clear HE
      go_wp2_with fail
      refine (HPR.out _).mono ?_
      rintro e w2 ⟨rfl, nd, rfl⟩
      have HB2 := Aside0.mk (pw_below_drewN HB1.out nd)
      replace hc0 : (w1.drewN nd).cell? ⟨n, 0, none⟩ = some (.string p) := hc0
      replace hc1 : (w1.drewN nd).cell? ⟨n, 1, none⟩ = some (.slice A xs.length c) := hc1
      replace hc3 : (w1.drewN nd).cell? ⟨n + 1, 0, none⟩ = some (.int .i64 f) := hc3
      replace hc5 : (w1.drewN nd).cell? ⟨n + 2, 0, none⟩ = some (.int .i64 last) := hc5
      generalize w1.drewN nd = w2 at HB2 hc0 hc1 hc3 hc5 ⊢
      by_cases h8 : 8 < xs.length
      · have e1 : decide ((8 : Int) < (xs.length : Int)) = true := decide_eq_true (by omega)
        have e2 : decide (8 < xs.length) = true := decide_eq_true h8
        have HE2 := Aside0.mk (HE1.out.trans (if_pos (Or.inr (Or.inr (Or.inl h8)))))
        clear HE1
        go_wp2
        go_ret
        exact ⟨by rw [HE2.out]; rfl, HB2.out⟩
      · have e1 : decide ((8 : Int) < (xs.length : Int)) = false := decide_eq_false (by omega)
        have e2 : decide (8 < xs.length) = false := decide_eq_false h8
        by_cases hx : xs = []
        · have hl0 : last = -1 := by rw [← HLS.out, hx]; rfl
          have e3 : decide (last < 0) = true := decide_eq_true (by omega)
          by_cases h0 : 0 < f
          · have e4 : decide ((0 : Int) < (f : Int)) = true := decide_eq_true (by omega)
            have e5 : decide (0 < f) = true := decide_eq_true h0
            have HE2 := Aside0.mk (HE1.out.trans (if_pos (Or.inr (Or.inr (Or.inr ⟨by omega, hx⟩)))))
            clear HE1 hl0 hx
            go_wp2
            go_ret
            exact ⟨by rw [HE2.out]; rfl, HB2.out⟩
          · have e4 : decide ((0 : Int) < (f : Int)) = false := decide_eq_false (by omega)
            have e5 : decide (0 < f) = false := decide_eq_false h0
            have HE2 := Aside0.mk ((HE1.out.trans (if_neg (by rintro (h | h | h | h); cases h; cases h; exact h8 h; exact h0 (by omega)))).trans (if_pos hx))
            clear HE1 hl0 hx
            go_wp2
            go_ret
            exact ⟨by rw [HE2.out]; exact ret_str (ba_eq rfl), HB2.out⟩
        · have hl0 : 0 ≤ last := by
            have : xs.length ≠ 0 := fun h => hx (List.length_eq_zero_iff.1 h)
            have := HLS.out
            omega
          have e3 : decide (last < 0) = false := decide_eq_false (by omega)
          have HE2 := Aside0.mk ((HE1.out.trans (if_neg (by rintro (h | h | h | h); cases h; cases h; exact h8 h; exact hx h.2))).trans (if_neg hx))
          have hss : (baL s).size ≤ 102000 := by simpa [ByteArray.size] using hs1
          obtain ⟨b, hbE⟩ : ∃ b, baL s = b := ⟨_, rfl⟩
          rw [hbE] at hss ⊢
          have HBE := Aside0.mk hbE
          clear HE1 hx hbE hs1
          by_cases h0 : 0 < f
          · have e4 : decide ((0 : Int) < (f : Int)) = true := decide_eq_true (by omega)
            have e5 : decide (0 < f) = true := decide_eq_true h0
            go_wp2
            go_ret
            exact ⟨by rw [HE2.out, ← HBE.out]; exact ret_str (ba_eq (by simp)), HB2.out⟩
          · have e4 : decide ((0 : Int) < (f : Int)) = false := decide_eq_false (by omega)
            have e5 : decide (0 < f) = false := decide_eq_false h0
            go_wp2
            go_ret
            exact ⟨by rw [HE2.out, ← HBE.out]; exact ret_str (ba_eq (by simp)), HB2.out⟩
set_option maxHeartbeats 4000000 in
set_option maxRecDepth 100000 in
theorem atom_show (a : AtS) (A : Option Addr) (c : Nat) (w : World) (hLW : LaidW w) (hC : Kd.C k60 w A a.f1.length a.f1) (ha : okA a) :
    Calls Tryz.prog 23 #[.agg #[.string a.f0, .slice A a.f1.length c]] w fun e w' => e = .returned (.string (baL (atomL a))) ∧ Below w.heap.size w w' := by
  have hB := below_alloc (Below.refl w.heap.size w) (.cells #[.string a.f0, .slice A a.f1.length c] 25)
  have HP := Aside0.mk (head_calls a A c 0 (by decide) _ (hLW.below hB) (Kd.C_below hC hB) ha)
  have HB := Aside0.mk hB
  clear hC ha hB hLW
  unfold atomL
  go_enter Tryz.func23, Tryz.ntmps23
  go_wp2_with fail
  refine HP.out.mono ?_
  rintro e w1 ⟨rfl, hb⟩
  have HB1 := Aside0.mk (below_then HB.out HB.out.size hb)
  clear hb
  go_wp2
  go_ret
  exact ⟨rfl, HB1.out⟩
end Go.Proofs.YthebhbomlllpeaaGreatDoor.X
namespace Go.Proofs.YthebhbomlllpeaaGreatDoor.X
set_option linter.unusedVariables false
set_option linter.unusedSimpArgs false
open Go.RowKit Go.Proofs.YthebhbomlllpeaaGreatDoorW.PrintWords Go.Proofs.YthebhbomlllpeaaGreatDoorW.PrintLast Go.Proofs.YthebhbomlllpeaaGreatDoorW.PrintMore
/-- a row that is read: where it lies, and an element's cells. -/
theorem row_at {α : Type} {d : Kd α} {W : World} {A : Option Addr} {xs : List α} (h : Kd.C d W A xs.length xs) (z : α) (hs : 0 < d.sz) (i : Nat) (hi : i < xs.length) :
    ∃ bk o cs, A = some ⟨bk, o, none⟩ ∧ cs.length = d.sz ∧ d.K W (xs.getD i z) cs ∧ W.rangeAt bk (o + i * d.sz) cs := by
  obtain ⟨⟨bk, o, sub⟩, cs, rfl, hl, hK, hc⟩ := Kd.C_get h z (i : Int) (by omega) (by omega)
  rw [Int.toNat_natCast] at hK hc
  obtain ⟨ad, he, hh⟩ := h.2.2 (by omega)
  injection he with he
  subst he
  obtain ⟨c0, hl0, _, hc0⟩ := hh 0 xs[0] (List.getElem?_eq_getElem (by omega))
  have h0 := hc0 0 c0[0] (List.getElem?_eq_getElem (by omega))
  rw [Nat.zero_mul] at h0
  have hsub : sub = none := by
    cases sub with
    | none => rfl
    | some s =>
      exfalso
      unfold Addr.add at h0
      revert h0
      unfold World.cell?
      simp
      split <;> simp
  subst hsub
  refine ⟨bk, o, cs, rfl, hl, hK, fun j v hj => ?_⟩
  have := hc j v hj
  rw [Addr.add_mid] at this
  rw [← Nat.add_assoc] at this
  exact this
theorem setsA_full : ∀ (vs : List Value) (cs : Array Value) (i : Nat), i + vs.length = cs.size → (setsA cs i vs).toList = cs.toList.take i ++ vs
  | [], cs, i, h => by
    simp only [setsA, List.append_nil]
    rw [List.take_of_length_le (by rw [List.length_nil] at h; simp; omega)]
  | v :: vs, cs, i, h => by
    simp only [setsA]
    rw [setsA_full vs _ (i + 1) (by simp at h ⊢; omega)]
    have hi : i < cs.size := by simp at h; omega
    have hi2 : i < cs.toList.length := by simpa using hi
    rw [Array.toList_setIfInBounds, List.take_set, List.take_succ_eq_append_getElem hi2]
    have hl : (cs.toList.take i).length = i := by rw [List.length_take]; omega
    rw [List.set_append_right _ _ (by omega), hl]
    simp
theorem setsA_all {vs : List Value} {cs : Array Value} (h : vs.length = cs.size) : setsA cs 0 vs = vs.toArray := by
  have := setsA_full vs cs 0 (by omega)
  rw [List.take_zero, List.nil_append] at this
  apply Array.toList_inj.1
  rw [this]
set_option maxHeartbeats 4000000 in
set_option maxRecDepth 100000 in
theorem eachL_calls (w : World) (A : Option Addr) (c : Nat) (xs : List S62) (g : Nat → List UInt8) (sep : ByteArray) (hsep : sep.size ≤ 2) (hC : Kd.C k62 w A xs.length xs) (hn : xs.length ≤ 1000) (hg : ∀ i, (g i).length ≤ 100000000)
    (hby : ∀ (W : World) (i : Nat) (cs : List Value), i < xs.length → Below w.heap.size w W → k62.K W (xs.getD i z62) cs → Calls Tryz.prog 44 #[.int .i64 i, .agg cs.toArray] W fun e W' => e = .returned (.string (baL (g i))) ∧ Below W.heap.size W W') :
    Calls Tryz.prog 43 #[.slice A xs.length c, .func (.func 44) #[] #[], .string sep] w fun e w' => e = .returned (.tuple #[.string (baL (eachG g xs.length sep.data.toList).1), .bool (eachG g xs.length sep.data.toList).2]) ∧ Below w.heap.size w w' := by
  have HC := Aside0.mk hC
  have HBY := Aside0.mk hby
  have HG := Aside0.mk (And.intro hg hsep)
  have HR := Aside0.mk (Kd.R_nil Kd.string 9 w w.heap.size (fun k => w.heap.size ≤ k))
  have HB := Aside0.mk (Below.refl w.heap.size w)
  clear hC hby hg hsep
  go_enter Tryz.func43, Tryz.ntmps43
  go_wp2
  go_loopg [8, 14] (xs.length + 1) (fun kq v8 v14 w' => ∃ (i : Nat), v14 = .int .i64 i ∧ kq + i = xs.length + 1 ∧ i ≤ xs.length ∧ Aside0 (∀ j, j < i → g j ≠ []) ∧ Aside0 (Kd.R Kd.string 9 w' w.heap.size (fun k => w.heap.size ≤ k) v8 ((List.range i).map (fun j => baL (g j)))) ∧ Aside0 (Below w.heap.size w w'))
  case atStart => exact ⟨0, rfl, by omega, by omega, ⟨fun j hj => by omega⟩, HR, HB⟩
  case round =>
    clear HR HB
    obtain ⟨i, rfl, hk, hi, HE, HV, HB⟩ := hrel
    by_cases hlt : i < xs.length
    · have hz : decide ((i : Int) < (xs.length : Int)) = true := decide_eq_true (by omega)
      have hz2 : decide (i < xs.length) = true := decide_eq_true hlt
      obtain ⟨k1, rfl⟩ : ∃ k1, gk = k1 + 1 := ⟨gk - 1, by omega⟩
      obtain ⟨bk, o, cs, rfl, hcl, hK, hcell⟩ := row_at (Kd.C_below HC.out HB.out) z62 (by decide) i hlt
      have hcl : cs.length = 17 := hcl
      have hrg : wr.rangeAt bk (o + i * 17) cs := hcell
      have h1c := k62.K_one hK
      have HK := Aside0.mk (And.intro hK (And.intro hrg (And.intro hcl h1c)))
      obtain ⟨n, en⟩ : ∃ n, wr.heap.size = n := ⟨_, rfl⟩
      have hN := blk_new wr (.cells zLit 62)
      rw [en] at hN
      have HN := Aside0.mk hN
      have HBA := Aside0.mk (below_alloc HB.out (.cells zLit 62))
      have HNB := Aside0.mk (show w.heap.size ≤ n by rw [← en]; exact HB.out.size)
      have HRG := Aside0.mk (show (sets (wr.alloc (.cells zLit 62)) n 0 cs).rangeAt n 0 cs from by
        have h1 := range_blk (blk_sets cs 0 _ _ hN)
        rwa [setsA_all (hcl.trans (by kernel_rfl)), List.toList_toArray] at h1)
      have hBW : Below wr.heap.size wr (sets (wr.alloc (.cells zLit 62)) n 0 cs) := below_sets (w0 := wr) (by omega) cs 0 _ (below_alloc (Below.refl _ _) _)
      have HBW := Aside0.mk hBW
      clear hK hrg hcl h1c hcell hN hBW
      go_wp2_with (first | ((with_reducible refine gate_dst (N := 18) rfl ?_); refine wpList_load_mid rfl 62 (.tmp 17) rfl bk (o + i * 17) rfl cs _ HK.out.2.1 Tryz.underlying62 rfl (by rw [HK.out.2.2.1]; kernel_rfl) ?_) | ((with_reducible refine gate_store (t := 62) (p := 10) (v := .tmp 18) rfl ?_); refine wpList_store_mid rfl 62 (.tmp 10) (.tmp 18) rfl n 0 cs.toArray rfl rfl (there_blk HN.out (by rw [List.size_toArray, HK.out.2.2.1]; exact Nat.le_of_eq (by kernel_rfl))) (by rw [List.size_toArray, HK.out.2.2.1]; kernel_rfl) (all_oneCell_toArray HK.out.2.2.2) ?_; rw [setCells_sets, List.toList_toArray]) | ((with_reducible refine gate_dst (N := 21) rfl ?_); refine wpList_load_mid rfl 62 (.tmp 10) rfl n 0 rfl cs _ HRG.out Tryz.underlying62 rfl (by rw [HK.out.2.2.1]; kernel_rfl) ?_))
      have HCB := Aside0.mk (below_then HB.out HB.out.size HBW.out)
      refine (HBY.out _ i cs hlt HCB.out (k62.K_below HBW.out HK.out.1)).mono ?_
      rintro e w1 ⟨rfl, hb⟩
      have hb1 := below_then HBW.out HBW.out.size hb
      have HB1 := Aside0.mk (below_then HB.out HB.out.size hb1)
      have HV1 := Aside0.mk (Kd.R_below HV.out hb1)
      clear hb hb1
      obtain ⟨b, hbE⟩ : ∃ b, baL (g i) = b := ⟨_, rfl⟩
      by_cases he : g i = []
      · have e1 : (b.toList == ([] : List UInt8)) = true := by rw [← hbE, he, baL_toList]; exact beq_self_eq_true _
        have e2 : (b.toList == (⟨#[]⟩ : ByteArray).toList) = true := by rw [← hbE, he]; exact beq_self_eq_true _
        have HE := Aside0.mk (eachG_no (sep := sep.data.toList) hlt he)
        clear he
        rw [hbE]
        clear hbE
        go_wp2
        go_ret2
        rw [HE.out]
        exact ⟨rfl, HB1.out⟩
      · have e1 : (b.toList == ([] : List UInt8)) = false := by rw [beq_eq_false_iff_ne, ← hbE, baL_toList]; exact he
        have e2 : (b.toList == (⟨#[]⟩ : ByteArray).toList) = false := by rw [beq_eq_false_iff_ne, ← hbE, baL_toList]; exact fun h => he (h.trans nil_bytes)
        have HBE := Aside0.mk (And.intro hbE he)
        obtain ⟨A8, c8, rfl⟩ := Kd.R_slice HV1.out
        have HL : Aside0 (((List.range i).map fun j => baL (g j)).length ≤ 1000) := ⟨by rw [List.length_map, List.length_range]; omega⟩
        rw [hbE]
        clear hbE he
        obtain ⟨L, hL⟩ : ∃ L, ((List.range i).map fun j => baL (g j)) = L := ⟨_, rfl⟩
        rw [hL] at HV1 HL
        rw [hL]
        have HLE := Aside0.mk hL
        clear hL
        go_wp2_with ((with_reducible refine gate_builtin (b := .append) (xs := #[.tmp 25, .tmp 27]) rfl ?_); at_builtin; refine Kd.R_append Kd.string (w0 := w) w.heap.size rfl (.tmp 25) (.tmp 27) 54 9 (.string ⟨#[]⟩) 16 rfl Tryz.underlying54 info9s rfl (by decide) (by decide) (.slice A8 L.length c8) L b [.string b] (fun k => w.heap.size ≤ k) (fun _ => False) rfl (by first | rfl | (simp; rfl)) rfl (fun _ hk => hk.elim) (fun k hk => Nat.le_trans HB1.out.size hk) HV1.out HB1.out HB1.out.size (by have := HL.out; omega) ?_; intro v1 w2 ho hb hg hat; have HV2 := Aside0.mk ho; have HB2 := Aside0.mk hb; clear ho hb hg hat)
        go_roundg k1
        case rel => exact ⟨i + 1, by go_num, by omega, by omega, ⟨fun j hj => by rcases Nat.lt_succ_iff_lt_or_eq.1 hj with h | h; exact HE.out j h; exact h ▸ HBE.out.2⟩, ⟨by rw [range_snoc, HBE.out.1, HLE.out]; exact HV2.out⟩, HB2⟩
        case measure => omega
    · obtain rfl : i = xs.length := by omega
      have hz : decide ((xs.length : Int) < (xs.length : Int)) = false := decide_eq_false (by omega)
      obtain ⟨A8, c8, rfl⟩ := Kd.R_slice HV.out
      have hj := join_calls sep HV.out (by rw [range_data]; exact join_bound HG.out.1 HG.out.2 hn) (by rw [List.length_map, List.length_range]; exact hn)
      rw [range_data] at hj
      obtain ⟨L, hL⟩ : ∃ L, ((List.range xs.length).map fun j => baL (g j)) = L := ⟨_, rfl⟩
      rw [hL] at hj ⊢
      clear HV hL
      have HJ := Aside0.mk hj
      have HE2 := Aside0.mk (eachG_yes (sep := sep.data.toList) HE.out)
      clear hj
      go_wp2_with fail
      refine HJ.out.mono ?_
      rintro e w1 ⟨rfl, hb⟩
      have HB1 := Aside0.mk (below_then HB.out HB.out.size hb)
      clear hb
      go_wp2
      go_ret2
      rw [HE2.out]
      exact ⟨rfl, HB1.out⟩
end Go.Proofs.YthebhbomlllpeaaGreatDoor.X
namespace Go.Proofs.YthebhbomlllpeaaGreatDoor.X
set_option linter.unusedVariables false
set_option linter.unusedSimpArgs false
open Go.RowKit Go.Proofs.YthebhbomlllpeaaGreatDoorW.PrintWords Go.Proofs.YthebhbomlllpeaaGreatDoorW.PrintLast Go.Proofs.YthebhbomlllpeaaGreatDoorW.PrintMore
/-- a piece, in memory. -/
abbrev kP : Kd (ByteArray × Int) := Kd.pair Kd.string (Kd.int .i64)
theorem kP_open {w : World} {x : ByteArray × Int} {cs : List Value} (h : kP.K w x cs) : cs = [.string x.1, .int .i64 x.2] := by
  obtain ⟨_, _, rfl, rfl, rfl⟩ := h
  rfl
theorem kP_mkM (w : World) (base : Nat) (ok : Nat → Prop) (x : ByteArray × Int) : kP.M w base ok x [.string x.1, .int .i64 x.2] := ⟨[.string x.1], [.int .i64 x.2], rfl, rfl, rfl⟩
theorem infoP : (Tryz.prog.info? 85).map (fun i => (i.zero, i.size, i.bytes)) = some (some (.agg #[(.string ⟨#[]⟩), (.int .i64 0)]), 2, 24) := by kernel_rfl
/-- the stack's pieces, as they lie: the top last. -/
def memS (st : List Pc) : List (ByteArray × Int) := (st.map fun p => (baL p.1, p.2)).reverse
theorem memS_cons (p : Pc) (st : List Pc) : memS (p :: st) = memS st ++ [(baL p.1, p.2)] := by simp [memS]
theorem memS_length (st : List Pc) : (memS st).length = st.length := by simp [memS]
theorem memS_at (a : List Pc) (p : Pc) (st : List Pc) : (memS (a ++ p :: st))[st.length]? = some (baL p.1, p.2) := by
  simp only [memS, List.map_append, List.map_cons, List.reverse_append, List.reverse_cons, List.append_assoc]
  rw [List.getElem?_append_right (by simp)]
  simp
/-- a piece that lies in a row. -/
theorem at_P {W : World} {A : Option Addr} {xs : List (ByteArray × Int)} (h : Kd.C kP W A xs.length xs) (i : Nat) (x : ByteArray × Int) (hi : xs[i]? = some x) :
    ∃ bk o, A = some ⟨bk, o, none⟩ ∧ W.cell? ⟨bk, o + i * 2, none⟩ = some (.string x.1) ∧ W.cell? ⟨bk, o + i * 2 + 1, none⟩ = some (.int .i64 x.2) := by
  have hlt : i < xs.length := (List.getElem?_eq_some_iff.1 hi).1
  obtain ⟨bk, o, cs, rfl, hl, hK, hr⟩ := row_at h (⟨#[]⟩, 0) (by decide) i hlt
  have he : xs.getD i (⟨#[]⟩, 0) = x := by rw [List.getD_eq_getElem?_getD, hi]; rfl
  rw [he] at hK
  obtain rfl := kP_open hK
  exact ⟨bk, o, rfl, hr 0 _ rfl, hr 1 _ rfl⟩
/-- how much is on the stack. -/
def wt : List Pc → Nat
  | [] => 0
  | p :: st => p.1.length + wt st
theorem labelL_len (x : StS) : (labelL x).length ≤ 41 := by
  unfold labelL
  split
  · rename_i h
    have := predN_len h
    split
    · simp [data_length]; omega
    · split
      · rw [data_length]; omega
      · simp
  · simp
theorem leastL_len (p : Pc) (b : Int) : (leastL p b).length ≤ p.1.length + 2 := by
  unfold leastL
  split <;> simp <;> omega
theorem markL_len (k : Int) : (markL k).length = 1 := by
  unfold markL
  repeat' split
  all_goals rfl
theorem push1_wt {st st' : List Pc} {x : StS} (h : push1 st x = some st') : wt st' ≤ wt st + 50 ∧ st'.length ≤ st.length + 1 := by
  unfold push1 at h
  split at h
  · cases h
  · split at h
    · split at h
      · cases h
      · injection h with h
        subst h
        have := labelL_len x
        simp only [wt, List.length_cons]
        omega
    · split at h
      · cases h
      · cases st with
        | nil => cases h
        | cons b r =>
          simp only at h
          split at h
          · cases r with
            | nil => cases h
            | cons a r =>
              simp only at h
              split at h
              · injection h with h
                subst h
                have h1 := leastL_len a 2
                have h2 := leastL_len b 3
                have h3 := markL_len 3
                simp only [wt, List.length_cons, List.length_append]
                omega
              · injection h with h
                subst h
                have h2 := leastL_len b 2
                have h3 := markL_len 4
                simp only [wt, List.length_cons, List.length_append]
                omega
          · injection h with h
            subst h
            have h2 := leastL_len b 3
            have h3 := markL_len x.f0
            simp only [wt, List.length_cons, List.length_append]
            omega
theorem pushes_app : ∀ (a b : List StS) (st : List Pc), pushes st (a ++ b) = (pushes st a).bind fun st => pushes st b
  | [], b, st => rfl
  | x :: a, b, st => by
    simp only [List.cons_append, pushes]
    cases push1 st x with
    | none => rfl
    | some st' => exact pushes_app a b st'
theorem pushes_wt : ∀ (l : List StS) (st st' : List Pc), pushes st l = some st' → wt st' ≤ wt st + 50 * l.length
  | [], st, st', h => by
    injection h with h
    subst h
    simp
  | x :: l, st, st', h => by
    simp only [pushes] at h
    cases hp : push1 st x with
    | none => rw [hp] at h; cases h
    | some s1 =>
      rw [hp] at h
      have h1 := (push1_wt hp).1
      have h2 := pushes_wt l s1 st' h
      simp only [List.length_cons]
      omega
theorem pushes_len : ∀ (l : List StS) (st st' : List Pc), pushes st l = some st' → st'.length ≤ st.length + l.length
  | [], st, st', h => by
    injection h with h
    subst h
    simp
  | x :: l, st, st', h => by
    simp only [pushes] at h
    cases hp : push1 st x with
    | none => rw [hp] at h; cases h
    | some s1 =>
      rw [hp] at h
      have h1 := (push1_wt hp).2
      have h2 := pushes_len l s1 st' h
      simp only [List.length_cons]
      omega
theorem wt_mem {st : List Pc} {p : Pc} (h : p ∈ st) : p.1.length ≤ wt st := by
  induction st with
  | nil => cases h
  | cons q st ih =>
    simp only [wt]
    rcases List.mem_cons.1 h with rfl | h
    · omega
    · have := ih h; omega
theorem pathL_len (l : List StS) : (pathL l).length ≤ 5000 := by
  unfold pathL
  split
  · simp
  · rename_i h
    split
    · rename_i p hp
      have := pushes_wt l [] [p] hp
      simp only [wt] at this
      split
      · simp
      · omega
    · simp
theorem label_f (x : StS) (h : x.f1.size ≤ 9223372036854775807) : show_label.f 42 x.f0 x.f1 = some (baL (labelL x)) := by
  unfold show_label.f
  rw [predicate_f]
  simp only [Option.bind_some]
  unfold labelL
  cases hp : predN x.f1 with
  | false => rfl
  | true =>
    simp only [if_true]
    by_cases h2 : x.f0 = 2
    · rw [if_pos h2, if_pos h2, if_pos (by have := predN_len hp; omega)]
      congr 1
    · rw [if_neg h2, if_neg h2]
      by_cases h1 : x.f0 = 1
      · rw [if_pos h1, if_pos h1]
      · rw [if_neg h1, if_neg h1]
theorem least_f (p : Pc) (b : Int) (h : p.1.length ≤ 100000) : show_piece_least.f (baL p.1) p.2 b = some (baL (leastL p b)) := by
  unfold show_piece_least.f leastL
  have hs : (baL p.1).size = p.1.length := by simp [ByteArray.size]
  by_cases h1 : p.2 < b
  · rw [if_pos h1, if_pos h1, if_pos (by omega), if_pos (by omega)]
    congr 1
  · rw [if_neg h1, if_neg h1]
end Go.Proofs.YthebhbomlllpeaaGreatDoor.X
namespace Go.Proofs.YthebhbomlllpeaaGreatDoor.X
set_option linter.unusedVariables false
set_option linter.unusedSimpArgs false
open Go.RowKit Go.Proofs.YthebhbomlllpeaaGreatDoorW.PrintWords Go.Proofs.YthebhbomlllpeaaGreatDoorW.PrintLast Go.Proofs.YthebhbomlllpeaaGreatDoorW.PrintMore
attribute [local go_sem ↓] Go.wp_at_zero Go.wp_at_succ
def show22.T : Bool × List (List Nat × List Nat) := (true, [([], []), ([], []), ([1], [1]), ([0, 2], [0, 2]), ([], []), ([], []), ([5], [5]), ([4, 6], [4, 6]), ([7], [7]), ([8], [8]), ([], []), ([9, 10], [9, 10]), ([], []), ([12, 9], [12]), ([11, 13], [11, 13]), ([14], [14]), ([15], [15]), ([3, 16, 13], [3, 16]), ([17, 17, 0, 1, 2, 3, 4, 5, 6, 7, 8, 9, 10, 11, 12, 13, 14, 15, 16, 17], [0, 4, 17])])
def show22.B : List Nat := [0, 0, 2, 7, 0, 0, 32, 112, 240, 496, 0, 2032, 0, 5104, 16368, 32752, 65520, 131071, 262143]
theorem show22.tab : rtab .any (opsOf Tryz.f25 22) = show22.T := by kernel_rfl
theorem show22.bits : waitsOk show22.T.2 show22.B = true := by kernel_rfl
def show24.T : Bool × List (List Nat × List Nat) := (true, [([], []), ([], []), ([1], [1]), ([0, 2], [0, 2]), ([], []), ([], []), ([5], [5]), ([4, 6], [4, 6]), ([7], [7]), ([8], [8]), ([], []), ([9, 10], [9, 10]), ([], []), ([12], [12]), ([11, 13], [11, 13]), ([14], [14]), ([15], [15]), ([3, 16, 13], [3, 16]), ([17, 17, 0, 1, 2, 3, 4, 5, 6, 7, 8, 9, 10, 11, 12, 13, 14, 15, 16, 17], [0, 4, 17])])
def show24.B : List Nat := [0, 0, 2, 7, 0, 0, 32, 112, 240, 496, 0, 2032, 0, 4096, 16368, 32752, 65520, 131071, 262143]
theorem show24.tab : rtab .any (opsOf Tryz.f25 24) = show24.T := by kernel_rfl
theorem show24.bits : waitsOk show24.T.2 show24.B = true := by kernel_rfl
/-- the signs, as they lie. -/
abbrev signsV : Array Value := #[.string ⟨#[]⟩, .string ⟨#[]⟩, .string ⟨#[]⟩, .string ⟨#[47]⟩, .string ⟨#[124]⟩, .string ⟨#[42]⟩, .string ⟨#[43]⟩, .string ⟨#[63]⟩]
/-- a path under way. -/
structure PaM (w W : World) (n3 : Nat) (u : Value) (st : List Pc) : Prop where
  B : Below w.heap.size w W
  own : Kd.R kP 85 W w.heap.size (fun k => w.heap.size ≤ k ∧ k ≠ n3) u (memS st)
  b3 : W.heap[n3]? = some (.cells signsV 81 (0, 0))
  h3 : w.heap.size ≤ n3
theorem PaM.below {w W W1 : World} {n3 : Nat} {u : Value} {st : List Pc} (h : PaM w W n3 u st) (hb : Below W.heap.size W W1) : PaM w W1 n3 u st :=
  ⟨below_then h.B h.B.size hb, Kd.R_below h.own hb, blk_below h.b3 hb, h.h3⟩
theorem PaM.more {w W w2 : World} {n3 : Nat} {u u' : Value} {st : List Pc} {p : Pc} (h : PaM w W n3 u st) (ho : Kd.R kP 85 w2 w.heap.size (fun k => w.heap.size ≤ k ∧ k ≠ n3) u' (memS st ++ [(baL p.1, p.2)])) (hb : Below w.heap.size w w2) (hg : W.grownBy w2 u.ownBlock) : PaM w w2 n3 u' (p :: st) :=
  ⟨hb, by rw [memS_cons]; exact ho, blk_grown h.b3 hg (fun he => (h.own.1 n3 he.symm).2 rfl), h.h3⟩
theorem PaM.after {w W w2 : World} {n3 bk o n c : Nat} {u' : Value} {st r : List Pc} {p : Pc} (h : PaM w W n3 (.slice (some ⟨bk, o, none⟩) n c) st) (ho : Kd.R kP 85 w2 w.heap.size (fun k => w.heap.size ≤ k ∧ k ≠ n3) u' (memS r ++ [(baL p.1, p.2)])) (hb : Below w.heap.size w w2) (hg : W.grownBy w2 (some bk)) : PaM w w2 n3 u' (p :: r) :=
  ⟨hb, by rw [memS_cons]; exact ho, blk_grown h.b3 hg (fun he => (h.own.1 n3 he.symm).2 rfl), h.h3⟩
theorem memS_take2 (b a : Pc) (r : List Pc) (q : Nat) (hq : r.length = q) : (memS (b :: a :: r)).take q = memS r := by
  rw [memS_cons, memS_cons, List.append_assoc, List.take_append_of_le_length (by rw [memS_length]; omega), List.take_of_length_le (by rw [memS_length]; omega)]
theorem memS_set (p x : Pc) (st : List Pc) (m : Nat) (hm : st.length = m) : (memS (p :: st)).set m (baL x.1, x.2) = memS (x :: st) := by
  rw [memS_cons, memS_cons, List.set_append_right _ _ (by rw [memS_length]; omega), memS_length, hm, Nat.sub_self]
  rfl
theorem baL_app (a b : List UInt8) : baL a ++ baL b = baL (a ++ b) := ba_eq (by simp)
theorem baL_size (a : List UInt8) : (baL a).size = a.length := by simp [ByteArray.size]
theorem deep_S (s : List UInt8) (h : s.length ≤ 20000) : ∃ k, parse_Deep.f k (baL s) = some ((deepS s : Nat) : Int) := by
  refine ⟨_, deep_f (baL s) (by rw [baL_size]; exact h) ?_⟩
  by_cases h0 : (lexRes (baL s)).2.2 = 0
  · have := (lex_ok (by rw [baL_size]; exact h) h0).2
    rw [baL_size] at this
    omega
  · unfold lexRes at h0 ⊢
    rw [if_neg (by rw [baL_size]; omega)] at h0 ⊢
    unfold tokRes at h0 ⊢
    cases ht : tokN nmL vlL 0 (baL s).data.toList with
    | error i => simp
    | ok l => rw [ht] at h0; exact absurd rfl h0
theorem own_zero {α : Type} {d : Kd α} {e : TypeId} {W : World} {base bk o n c : Nat} {ok : Nat → Prop} {xs : List α} (h : d.R e W base ok (.slice (some ⟨bk, o, none⟩) n c) xs) : o = 0 ∧ ∃ cur, W.heap[bk]? = some (.cells cur e (0, 0)) := by
  obtain ⟨_, inner, hown, _⟩ := h
  rcases hown.2 with ⟨hv, _⟩ | ⟨g, cap, cur, hv, _, hh, _⟩
  · cases hv
  · injection hv with h1 h2 h3
    injection h1 with h1
    injection h1 with h1 h4
    subst h1 h4
    exact ⟨rfl, cur, hh⟩
/-- what is told of a whole stack. -/
def endL : List Pc → List UInt8
  | [p] => if 32 < deepS p.1 then [] else p.1
  | _ => []
theorem pathL_end {l : List StS} {st : List Pc} (h : ¬ 100 < l.length) (hs : pushes [] l = some st) : pathL l = endL st := by
  unfold pathL
  rw [if_neg h, hs]
  match st with
  | [] => rfl
  | [p] => rfl
  | _ :: _ :: _ => rfl
theorem take_snocS (l : List StS) (i : Nat) (hi : i < l.length) (x : StS) (hx : l[i] = x) : l.take (i + 1) = l.take i ++ [x] := by rw [List.take_succ_eq_append_getElem hi, hx]
theorem path_none {l : List StS} {i : Nat} {st : List Pc} {x : StS} (hl : l.length ≤ 100) (hs : pushes [] (l.take i) = some st) (hi : i < l.length) (hx : l[i] = x) (h : push1 st x = none) : pathL l = [] := by
  have : pushes [] l = none := by
    have e : l = l.take i ++ (x :: l.drop (i + 1)) := by
      have := List.take_append_drop i l
      rw [List.drop_eq_getElem_cons hi, hx] at this
      exact this.symm
    rw [e, pushes_app, hs]
    simp only [Option.bind_some, pushes, h]
    rfl
  unfold pathL
  rw [if_neg (by omega), this]
theorem showpath_step {l : List StS} {i : Nat} {st st' : List Pc} {x : StS} (hs : pushes [] (l.take i) = some st) (hi : i < l.length) (hx : l[i] = x) (h : push1 st x = some st') : pushes [] (l.take (i + 1)) = some st' := by
  rw [take_snocS l i hi x hx, pushes_app, hs]
  simp only [Option.bind_some, pushes, h]
theorem push1_nil {kd : Int} (h0 : ¬ (kd < 1 ∨ 7 < kd)) (h2 : ¬ kd ≤ 2) : push1 [] ⟨kd, ⟨#[]⟩⟩ = none := by
  unfold push1
  rw [if_neg h0, if_neg h2, if_neg (fun h => h rfl)]
theorem push1_one {kd : Int} {b : Pc} (h0 : ¬ (kd < 1 ∨ 7 < kd)) (h2 : ¬ kd ≤ 2) (h4 : kd ≤ 4) : push1 [b] ⟨kd, ⟨#[]⟩⟩ = none := by
  unfold push1
  rw [if_neg h0, if_neg h2, if_neg (fun h => h rfl)]
  simp only [if_pos h4]
theorem push1_then {b a : Pc} {r : List Pc} : push1 (b :: a :: r) ⟨3, ⟨#[]⟩⟩ = some ((leastL a 2 ++ (markL 3 ++ leastL b 3), 2) :: r) := by
  unfold push1
  rw [if_neg (by rintro (h | h); exact absurd h (by decide); exact absurd h (by decide)), if_neg (show ¬ ((3 : Int) ≤ 2) by decide), if_neg (fun h => h rfl)]
  rfl
theorem push1_or {b a : Pc} {r : List Pc} : push1 (b :: a :: r) ⟨4, ⟨#[]⟩⟩ = some ((a.1 ++ (markL 4 ++ leastL b 2), 1) :: r) := by
  unfold push1
  rw [if_neg (by rintro (h | h); exact absurd h (by decide); exact absurd h (by decide)), if_neg (show ¬ ((4 : Int) ≤ 2) by decide), if_neg (fun h => h rfl)]
  rfl
theorem push1_mark {kd : Int} {b : Pc} {r : List Pc} (h0 : ¬ (kd < 1 ∨ 7 < kd)) (h2 : ¬ kd ≤ 2) (h4 : ¬ kd ≤ 4) : push1 (b :: r) ⟨kd, ⟨#[]⟩⟩ = some ((leastL b 3 ++ markL kd, 3) :: r) := by
  unfold push1
  rw [if_neg h0, if_neg h2, if_neg (fun h => h rfl)]
  simp only [if_neg h4]
set_option maxHeartbeats 8000000 in
set_option maxRecDepth 100000 in
theorem path_show (l : List StS) (A : Option Addr) (c : Nat) (w : World) (hLW : LaidW w) (hC : Kd.C k69 w A l.length l) (hl : ∀ x ∈ l, x.f1.size ≤ 9223372036854775807) (hl63 : l.length ≤ 140737488355328) :
    Calls Tryz.prog 25 #[.slice A l.length c] w fun e w' => e = .returned (.string (baL (pathL l))) ∧ Below w.heap.size w w' := by
  by_cases h100 : 100 < l.length
  · have e1 : decide ((100 : Int) < (l.length : Int)) = true := decide_eq_true (by omega)
    have e2 : decide (100 < l.length) = true := decide_eq_true h100
    have HE := Aside0.mk (show pathL l = [] from if_pos h100)
    have HB := Aside0.mk (Below.refl w.heap.size w)
    clear hC hl hLW
    go_enter Tryz.func25, Tryz.ntmps25
    go_wp2
    go_ret
    exact ⟨by rw [HE.out]; rfl, HB.out⟩
  · have e1 : decide ((100 : Int) < (l.length : Int)) = false := decide_eq_false (by omega)
    have e2 : decide (100 < l.length) = false := decide_eq_false h100
    have hlen : l.length ≤ 100 := by omega
    have hB := below_alloc (Below.refl w.heap.size w) (.cells signsV 81)
    have h3 := blk_new w (.cells signsV 81)
    have HM := Aside0.mk (show PaM w (w.alloc (.cells signsV 81)) w.heap.size (.slice none 0 0) [] from ⟨hB, Kd.R_nil _ _ _ _ _, h3, Nat.le_refl _⟩)
    have HC := Aside0.mk hC
    have HL := Aside0.mk hl
    have HLW := Aside0.mk hLW
    clear hC hl hLW hB h3
    go_enter Tryz.func25, Tryz.ntmps25
    go_wp2
    go_loopg [4, 17] (l.length + 1) (fun kq v4 v17 w' => ∃ (i : Nat) (st : List Pc), v17 = .int .i64 i ∧ kq + i = l.length + 1 ∧ i ≤ l.length ∧ Aside0 (pushes [] (l.take i) = some st) ∧ Aside0 (PaM w w' w.heap.size v4 st))
    case atStart => exact ⟨0, [], rfl, by omega, by omega, ⟨rfl⟩, HM⟩
    case round =>
      clear HM
      obtain ⟨i, st, rfl, hk, hi, HS, HM⟩ := hrel
      by_cases hlt : i < l.length
      · have hz : decide ((i : Int) < (l.length : Int)) = true := decide_eq_true (by omega)
        have hz2 : decide (i < l.length) = true := decide_eq_true hlt
        obtain ⟨k1, rfl⟩ : ∃ k1, gk = k1 + 1 := ⟨gk - 1, by omega⟩
        obtain ⟨ad, rfl, x0, x1⟩ := at_T69 (Kd.C_below HC.out HM.out.B) (i : Int) (by omega) (by omega)
        have hr : rd_T69 l (i : Int) = l[i] := by
          show l.getD (Int.toNat (i : Int)) _ = _
          rw [Int.toNat_natCast, List.getD_eq_getElem?_getD, List.getElem?_eq_getElem hlt]
          rfl
        rw [hr] at x0 x1
        simp only [Int.toNat_natCast] at x0 x1
        obtain ⟨⟨kd, lb⟩, hx⟩ : ∃ x, l[i] = x := ⟨_, rfl⟩
        rw [hx] at x0 x1
        simp only at x0 x1
        have HX := Aside0.mk (And.intro hx (HL.out l[i] (List.getElem_mem hlt)))
        have HLN := Aside0.mk (show st.length ≤ 100 ∧ wt st ≤ 5000 from by
          have h1 := pushes_wt _ _ _ HS.out
          have h2 := pushes_len _ _ _ HS.out
          have h3 : (l.take i).length ≤ 100 := by rw [List.length_take]; omega
          simp only [wt, List.length_nil] at h1 h2
          omega)
        obtain ⟨A4, c4, hu⟩ := Kd.R_slice HM.out.own
        rw [memS_length] at hu
        subst hu
        clear hr hx
        by_cases hk1 : kd < 1
        · have f1 : decide (kd < 1) = true := decide_eq_true hk1
          have HE := Aside0.mk (path_none hlen HS.out hlt HX.out.1 (if_pos (Or.inl hk1)))
          have HB := Aside0.mk HM.out.B
          clear HS HM
          go_wp2
          go_ret
          exact ⟨by rw [HE.out]; rfl, by repeat (first | (with_reducible first | exact HB.out | apply below_alloc | apply pw_below_drewN | apply below_drew1) | exact HB.out)⟩
        have f1 : decide (kd < 1) = false := decide_eq_false hk1
        by_cases hk7 : 7 < kd
        · have f2 : decide (7 < kd) = true := decide_eq_true hk7
          have HE := Aside0.mk (path_none hlen HS.out hlt HX.out.1 (if_pos (Or.inr hk7)))
          have HB := Aside0.mk HM.out.B
          clear HS HM
          go_wp2
          go_ret
          exact ⟨by rw [HE.out]; rfl, by repeat (first | (with_reducible first | exact HB.out | apply below_alloc | apply pw_below_drewN | apply below_drew1) | exact HB.out)⟩
        have f2 : decide (7 < kd) = false := decide_eq_false hk7
        have HP0 := Aside0.mk (show ¬ (kd < 1 ∨ 7 < kd) from fun h => h.elim hk1 hk7)
        by_cases hk2 : kd ≤ 2
        · have f3 : decide (kd ≤ 2) = true := decide_eq_true hk2
          have HLB := Aside0.mk (fun V => show_label.calls 42 kd lb (baL (labelL ⟨kd, lb⟩)) V (label_f ⟨kd, lb⟩ (by have := HX.out.2; rw [HX.out.1] at this; exact this)))
          have HPU := Aside0.mk (show push1 st ⟨kd, lb⟩ = if labelL ⟨kd, lb⟩ = [] then none else some ((labelL ⟨kd, lb⟩, 3) :: st) from (if_neg HP0.out).trans (if_pos hk2))
          obtain ⟨s, hs⟩ : ∃ s, labelL ⟨kd, lb⟩ = s := ⟨_, rfl⟩
          rw [hs] at HLB HPU
          clear hs
          go_wp2_with fail
          refine (HLB.out _).mono ?_
          rintro e w1 ⟨rfl, hb⟩
          have HM1 := Aside0.mk (HM.out.below (below_then ((Below.refl wr.heap.size wr).alloc (Nat.le_refl _) _) (by simp) hb))
          clear hb
          obtain ⟨b, hbE⟩ : ∃ b, baL s = b := ⟨_, rfl⟩
          rw [hbE]
          by_cases hs0 : s = []
          · have e5 : (b.toList == ([] : List UInt8)) = true := by rw [← hbE, hs0, baL_toList]; exact beq_self_eq_true _
            have e6 : (b.toList == (⟨#[]⟩ : ByteArray).toList) = true := by rw [← hbE, hs0]; exact beq_self_eq_true _
            have HE := Aside0.mk (path_none hlen HS.out hlt HX.out.1 (HPU.out.trans (if_pos hs0)))
            have HB := Aside0.mk HM1.out.B
            clear HS HM HM1 hbE hs0
            go_wp2
            go_ret
            exact ⟨by rw [HE.out]; rfl, HB.out⟩
          · have e5 : (b.toList == ([] : List UInt8)) = false := by rw [beq_eq_false_iff_ne, ← hbE, baL_toList]; exact hs0
            have e6 : (b.toList == (⟨#[]⟩ : ByteArray).toList) = false := by rw [beq_eq_false_iff_ne, ← hbE, baL_toList]; exact fun h => hs0 (h.trans nil_bytes)
            have HS2 := Aside0.mk (showpath_step HS.out hlt HX.out.1 (HPU.out.trans (if_neg hs0)))
            have HBE := Aside0.mk hbE
            clear HS HM hbE hs0
            go_wp2_with ((with_reducible refine gate_builtin (b := .append) (xs := #[.tmp 40, .tmp 43]) rfl ?_); at_builtin; refine Kd.R_append kP (w0 := w) w.heap.size rfl (.tmp 40) (.tmp 43) 82 85 (.agg #[.string ⟨#[]⟩, .int .i64 0]) 24 rfl Tryz.underlying82 infoP rfl (by decide) (by decide) (.slice A4 st.length c4) (memS st) (b, 3) [.string b, .int .i64 3] (fun k => w.heap.size ≤ k ∧ k ≠ w.heap.size) (fun _ => False) rfl (by first | rfl | (simp; rfl)) (kP_mkM _ _ _ _) (fun _ hk => hk.elim) (fun k hk => ⟨Nat.le_trans HM1.out.B.size hk, by have := blk_lt HM1.out.b3; omega⟩) HM1.out.own HM1.out.B HM1.out.B.size (by rw [memS_length]; have := HLN.out; omega) ?_; intro v1 w2 ho hb hg hat; have HM2 := Aside0.mk (PaM.more (p := (s, 3)) HM1.out (by rw [HBE.out]; exact ho) hb hg); clear ho hb hg hat)
            go_roundg k1
            case rel => exact ⟨i + 1, _, by go_num, by omega, by omega, HS2, HM2⟩
            case measure => omega
        have f3 : decide (kd ≤ 2) = false := decide_eq_false hk2
        by_cases hlb : lb.data.toList ≠ []
        · have e5 : (lb.toList == ([] : List UInt8)) = false := by rw [beq_eq_false_iff_ne, toList_iff]; exact hlb
          have e6 : (lb.toList == (⟨#[]⟩ : ByteArray).toList) = false := by rw [nil_bytes]; exact e5
          have e7 : (lb.toList != ([] : List UInt8)) = true := by rw [bne, e5]; rfl
          have e8 : (lb.toList != (⟨#[]⟩ : ByteArray).toList) = true := by rw [bne, e6]; rfl
          have HE := Aside0.mk (path_none hlen HS.out hlt HX.out.1 ((if_neg HP0.out).trans ((if_neg hk2).trans (if_pos hlb))))
          have HB := Aside0.mk HM.out.B
          clear HS HM
          go_wp2
          go_ret
          exact ⟨by rw [HE.out]; rfl, by repeat (first | (with_reducible first | exact HB.out | apply below_alloc | apply pw_below_drewN | apply below_drew1) | exact HB.out)⟩
        have hlb0 : lb.data.toList = [] := Classical.not_not.1 hlb
        obtain rfl := bytes_nil hlb0
        clear hlb hlb0
        cases st with
        | nil =>
          have HE := Aside0.mk (path_none hlen HS.out hlt HX.out.1 (push1_nil HP0.out hk2))
          have HB := Aside0.mk HM.out.B
          clear HS HM
          go_wp2
          go_ret
          exact ⟨by rw [HE.out]; rfl, by repeat (first | (with_reducible first | exact HB.out | apply below_alloc | apply pw_below_drewN | apply below_drew1) | exact HB.out)⟩
        | cons b r =>
          obtain ⟨m, hm⟩ : ∃ m, r.length = m := ⟨_, rfl⟩
          have hmm : m < 100 := by have := HLN.out.1; rw [List.length_cons] at this; omega
          have HML := Aside0.mk hm
          rw [List.length_cons, hm] at HM ⊢
          clear hm
          have g1 : decide ((m : Int) + 1 < 1) = false := decide_eq_false (by omega)
          by_cases hone : kd ≤ 4 ∧ m = 0
          · obtain ⟨h4, rfl⟩ := hone
            obtain rfl : r = [] := List.length_eq_zero_iff.1 HML.out
            have HE := Aside0.mk (path_none hlen HS.out hlt HX.out.1 (push1_one HP0.out hk2 h4))
            have f4 : decide (kd ≤ 4) = true := decide_eq_true h4
            have HB := Aside0.mk HM.out.B
            clear HS HM
            go_wp2
            go_ret
            exact ⟨by rw [HE.out]; rfl, by repeat (first | (with_reducible first | exact HB.out | apply below_alloc | apply pw_below_drewN | apply below_drew1) | exact HB.out)⟩
          have g2 : kd ≤ 4 → decide ((m : Int) + 1 < 2) = false := fun h => decide_eq_false (by have : m ≠ 0 := fun e => hone ⟨h, e⟩; omega)
          have HONE := Aside0.mk hone
          clear hone
          rcases (by omega : kd = 3 ∨ kd = 4 ∨ kd = 5 ∨ kd = 6 ∨ kd = 7) with rfl | rfl | rfl | rfl | rfl
          · -- two
            cases r with
            | nil => exact absurd ⟨by decide, HML.out.symm⟩ HONE.out
            | cons a r =>
            obtain ⟨q, hq⟩ : ∃ q, r.length = q := ⟨_, rfl⟩
            have hmq : m = q + 1 := by rw [← HML.out, List.length_cons, hq]
            have HRL := Aside0.mk hq
            have HMQ := Aside0.mk hmq
            have g3 := g2 (by decide)
            clear g2 hq hmq
            go_wp2
            have hmq := HMQ.out
            have HB0 := below_alloc (Below.refl wr.heap.size wr) (.cells #[.int .i64 3, .string ⟨#[]⟩] 69)
            have HM0 := Aside0.mk (HM.out.below HB0)
            have hbx := blk_new wr (.cells #[.int .i64 3, .string ⟨#[]⟩] 69)
            obtain ⟨nb, enb⟩ : ∃ n, wr.heap.size = n := ⟨_, rfl⟩
            rw [enb] at hbx ⊢
            generalize wr.alloc (.cells #[.int .i64 3, .string ⟨#[]⟩] 69) = W0 at HM0 hbx ⊢
            have hown := HM0.out.own
            have hC4 := (Kd.R_reads' hown).2.2
            have hcap := (Kd.R_reads hown)
            obtain ⟨A', c', he, hcap, _⟩ := hcap
            injection he with he1 he2 he3
            subst he1 he3
            rw [memS_length, List.length_cons, List.length_cons, HRL.out] at hcap
            obtain ⟨bk, o, rfl, y0, y1⟩ := at_P hC4 m (baL b.1, b.2) (by have := memS_at [] b (a :: r); rw [List.length_cons, HRL.out, ← hmq] at this; exact this)
            obtain ⟨bk', o', he, x0', x1'⟩ := at_P hC4 q (baL a.1, a.2) (by have := memS_at [b] a r; rw [HRL.out] at this; exact this)
            injection he with he
            injection he with he1 he2
            subst he1 he2
            obtain ⟨bs, hbs⟩ : ∃ bs, baL b.1 = bs := ⟨_, rfl⟩
            obtain ⟨as1, has⟩ : ∃ as1, baL a.1 = as1 := ⟨_, rfl⟩
            simp only [hbs] at y0
            simp only [has] at x0'
            have hcb : W0.cell? ⟨nb, 0, none⟩ = some (.int .i64 3) := (blk_cell hbx 0).trans rfl
            have hcs : W0.cell? ⟨w.heap.size, 3, none⟩ = some (.string ⟨#[47]⟩) := (blk_cell HM0.out.b3 3).trans rfl
            have hwb : b.1.length ≤ 5000 := Nat.le_trans (wt_mem (by simp)) HLN.out.2
            have hwa : a.1.length ≤ 5000 := Nat.le_trans (wt_mem (by simp)) HLN.out.2
            have hsa : as1.size ≤ 5000 := by rw [← has, baL_size]; exact hwa
            have HLA := Aside0.mk (fun V => show_piece_least.calls as1 a.2 2 (baL (leastL a 2)) V (by rw [← has]; exact least_f a 2 (by omega)))
            have HLB := Aside0.mk (fun V => show_piece_least.calls bs b.2 3 (baL (leastL b 3)) V (by rw [← hbs]; exact least_f b 3 (by omega)))
            have hla := leastL_len a 2
            have hlb := leastL_len b 3
            have HTX := Aside0.mk (show (baL (leastL a 2) ++ (⟨#[47]⟩ : ByteArray)) ++ baL (leastL b 3) = baL (leastL a 2 ++ (markL 3 ++ leastL b 3)) from by rw [show (⟨#[47]⟩ : ByteArray) = baL [47] from rfl, baL_app, baL_app, List.append_assoc]; rfl)
            obtain ⟨la, hla'⟩ : ∃ x, baL (leastL a 2) = x := ⟨_, rfl⟩
            obtain ⟨lb', hlb'⟩ : ∃ x, baL (leastL b 3) = x := ⟨_, rfl⟩
            have hla2 : la.size ≤ 5002 := by rw [← hla', baL_size]; omega
            have hlb2 : lb'.size ≤ 5002 := by rw [← hlb', baL_size]; omega
            rw [hla'] at HLA
            rw [hlb'] at HLB
            (try rw [hla'] at HTX)
            (try rw [hlb'] at HTX)
            (try rw [has] at HTX)
            have HHB := Aside0.mk hbx
            have HHA := Aside0.mk has
            have p0 : (0 : Int) ≤ (m : Int) := by omega
            have p1 : (m : Int) < (m : Int) + 1 := by omega
            have q0 : (0 : Int) ≤ (q : Int) := by omega
            have q1 : (q : Int) < (m : Int) + 1 := by omega
            have q2 : (q : Int) ≤ (c4 : Int) := by omega
            have q3 : q ≤ c4 := by omega
            have HQM := Aside0.mk (show q + 1 < 100 by omega)
            have HW4 := Aside0.mk (show IntKind.i64.wrap ((m : Int) + 1 - 2) = (q : Int) by rw [i64_w]; unfold wrap64; omega)
            clear he2 hcap hown hC4 hbs has hbx HB0 HM enb x0 x1 hwb hwa hla hlb hla' hlb' hmq
            have hw1 : IntKind.i64.wrap ((m : Int) + 1 - 1) = (m : Int) := by rw [i64_w]; unfold wrap64; omega
            have hw2 : IntKind.i64.wrap (m : Int) = (m : Int) := by rw [i64_w]; unfold wrap64; omega
            have hw3 : (m : Int) + 1 - 1 = (m : Int) := by omega
            have kq1 : (9223372036854775807 < la.size + 1) = False := eq_false (by omega)
            have kq2 : (9223372036854775807 < la.size + 1 + lb'.size) = False := eq_false (by omega)
            have hw4 := HW4.out
            go_region_held3 (fun w' => w'.cell? ⟨bk, o + m * 2, none⟩ = some (.string bs) ∧ w'.cell? ⟨bk, o + m * 2 + 1, none⟩ = some (.int .i64 b.2) ∧ w'.cell? ⟨nb, 0, none⟩ = some (.int .i64 3) ∧ w'.cell? ⟨w.heap.size, 3, none⟩ = some (.string ⟨#[47]⟩)) (go_keep) (fail)
            go_wp2
            rename_i hHeld0
            clear hHeld0
            have hB1 : Below W0.heap.size W0 (W0.alloc (.cells #[.string bs, .int .i64 b.2] 85)).drew := below_drew1 (below_alloc (Below.refl _ _) _)
            have h9 := blk_drew (blk_new W0 (.cells #[.string bs, .int .i64 b.2] 85))
            obtain ⟨n9, en9⟩ : ∃ n, W0.heap.size = n := ⟨_, rfl⟩
            rw [en9] at h9 ⊢
            have HMV := Aside0.mk ((HM0.out.below hB1).below (below_drew1 (Below.refl _ _)))
            have z0 := pw_cell_below hB1 x0'
            have z1 := pw_cell_below hB1 x1'
            generalize (W0.alloc (.cells #[.string bs, .int .i64 b.2] 85)).drew = V0 at HMV z0 z1 h9 ⊢
            have u0 : V0.cell? ⟨n9, 0, none⟩ = some (.string bs) := (blk_cell h9 0).trans rfl
            have u1 : V0.cell? ⟨n9, 1, none⟩ = some (.int .i64 b.2) := (blk_cell h9 1).trans rfl
            have HRT := Aside0.mk (fun (V : World) (h : Kd.R kP 85 V w.heap.size (fun k => w.heap.size ≤ k ∧ k ≠ w.heap.size) (.slice (some ⟨bk, o, none⟩) (m + 1) c4) (memS (b :: a :: r))) => show Kd.R kP 85 V w.heap.size (fun k => w.heap.size ≤ k ∧ k ≠ w.heap.size) (.slice (some ⟨bk, o, none⟩) q c4) (memS r) from memS_take2 b a r q HRL.out ▸ Kd.R_take (m := q) h (by rw [memS_length, List.length_cons, List.length_cons, HRL.out]; omega))
            have HS2 := Aside0.mk (showpath_step HS.out hlt HX.out.1 (push1_then (b := b) (a := a) (r := r)))
            clear HS hB1 h9 en9 hcb hcs y0 y1 x0' x1' HM0 hw1 hw2 hw3
            refine start_ (n := 19) (S := fun w' => w'.cell? ⟨bk, o + q * 2, none⟩ = some (.string as1) ∧ w'.cell? ⟨bk, o + q * 2 + 1, none⟩ = some (.int .i64 a.2) ∧ w'.cell? ⟨n9, 0, none⟩ = some (.string bs) ∧ w'.cell? ⟨n9, 1, none⟩ = some (.int .i64 b.2)) (ds := [17]) #[false, false, false, false, false, false, false, false, false, false, false, false, false, false, false, false, false, false, false] (by kernel_rfl) rfl rfl (⟨z0, z1, u0, u1⟩) (fun hHeld => ?_); refine with_tabW show22.tab show22.bits (fun HT_ HW_ => ?_)
            generalize V0.drew = V at HMV hHeld ⊢
            refine pure_ (i := 0) (N := some 84) (v := ?_) (a' := ?_) #[true, false, false, false, false, false, false, false, false, false, false, false, false, false, false, false, false, false, false] rfl rfl (any_of HT_.out (by kernel_rfl)) (fun _ _ _ h => h) (Or.inl ⟨by rfl, ?_⟩) ?_ ?_
            rotate_left
            · intro w'
              go_simp
              with_reducible rfl
            rotate_left
            · simp only [Act.put, List.setIfInBounds_toArray, List.set_cons_zero, List.set_cons_succ, i64_w, i32_w]
              rfl
            refine pure_ (i := 1) (N := some 85) (v := ?_) (a' := ?_) #[true, true, false, false, false, false, false, false, false, false, false, false, false, false, false, false, false, false, false] rfl rfl (any_of HT_.out (by kernel_rfl)) (fun _ _ _ h => h) (Or.inl ⟨by rfl, ?_⟩) ?_ ?_
            rotate_left
            · intro w'
              go_simp
              with_reducible rfl
            rotate_left
            · simp only [Act.put, List.setIfInBounds_toArray, List.set_cons_zero, List.set_cons_succ, i64_w, i32_w]
              rfl
            refine pure_ (i := 2) (N := some 86) (v := ?_) (a' := ?_) #[true, true, true, false, false, false, false, false, false, false, false, false, false, false, false, false, false, false, false] rfl rfl (any_of HT_.out (by kernel_rfl)) (fun _ _ _ h => h) (Or.inl ⟨by rfl, ?_⟩) ?_ ?_
            rotate_left
            · intro w'
              go_simp
              with_reducible rfl
            rotate_left
            · simp only [Act.put, List.setIfInBounds_toArray, List.set_cons_zero, List.set_cons_succ, i64_w, i32_w]
              rfl
            refine pure_ (i := 3) (N := some 87) (v := ?_) (a' := ?_) #[true, true, true, true, false, false, false, false, false, false, false, false, false, false, false, false, false, false, false] rfl rfl (any_of HT_.out (by kernel_rfl)) (fun _ _ _ h => h) (Or.inl ⟨by rfl, ?_⟩) ?_ ?_
            rotate_left
            · intro w'
              go_simp
              with_reducible rfl
            rotate_left
            · simp only [Act.put, List.setIfInBounds_toArray, List.set_cons_zero, List.set_cons_succ, i64_w, i32_w]
              rfl
            refine pure_ (i := 4) (N := some 88) (v := ?_) (a' := ?_) #[true, true, true, true, true, false, false, false, false, false, false, false, false, false, false, false, false, false, false] rfl rfl (any_of HT_.out (by kernel_rfl)) (fun _ _ _ h => h) (Or.inl ⟨by rfl, ?_⟩) ?_ ?_
            rotate_left
            · intro w'
              go_simp
              with_reducible rfl
            rotate_left
            · simp only [Act.put, List.setIfInBounds_toArray, List.set_cons_zero, List.set_cons_succ, i64_w, i32_w]
              rfl
            refine pure_ (i := 5) (N := some 89) (v := ?_) (a' := ?_) #[true, true, true, true, true, true, false, false, false, false, false, false, false, false, false, false, false, false, false] rfl rfl (any_of HT_.out (by kernel_rfl)) (fun _ _ _ h => h) (Or.inl ⟨by rfl, ?_⟩) ?_ ?_
            rotate_left
            · intro w'
              go_simp
              with_reducible rfl
            rotate_left
            · simp only [Act.put, List.setIfInBounds_toArray, List.set_cons_zero, List.set_cons_succ, i64_w, i32_w]
              rfl
            refine pure_ (i := 6) (N := some 90) (v := ?_) (a' := ?_) #[true, true, true, true, true, true, true, false, false, false, false, false, false, false, false, false, false, false, false] rfl rfl (any_of HT_.out (by kernel_rfl)) (fun _ _ _ h => h) (Or.inl ⟨by rfl, ?_⟩) ?_ ?_
            rotate_left
            · intro w'
              go_simp
              with_reducible rfl
            rotate_left
            · simp only [Act.put, List.setIfInBounds_toArray, List.set_cons_zero, List.set_cons_succ, i64_w, i32_w]
              rfl
            refine pure_ (i := 7) (N := some 91) (v := ?_) (a' := ?_) #[true, true, true, true, true, true, true, true, false, false, false, false, false, false, false, false, false, false, false] rfl rfl (any_of HT_.out (by kernel_rfl)) (fun _ _ _ h => h) (Or.inl ⟨by rfl, ?_⟩) ?_ ?_
            rotate_left
            · intro w'
              go_simp
              with_reducible rfl
            rotate_left
            · simp only [Act.put, List.setIfInBounds_toArray, List.set_cons_zero, List.set_cons_succ, i64_w, i32_w]
              rfl
            refine take_ (i := 8) (N := some 92) (v := ?_) (a' := ?_) #[true, true, true, true, true, true, true, true, true, false, false, false, false, false, false, false, false, false, false] rfl rfl (take_ofW HT_.out HW_.out (by kernel_rfl)) (fun _ _ _ h => h) (Or.inl ⟨by rfl, ?_⟩) hHeld ?_ ?_
            rotate_left
            · rintro w' ⟨s1, s2, s3, s4⟩
              go_simp
              with_reducible rfl
            rotate_left
            · simp only [Act.put, List.setIfInBounds_toArray, List.set_cons_zero, List.set_cons_succ, i64_w, i32_w]
              rfl
            refine pure_ (i := 10) (N := some 94) (v := ?_) (a' := ?_) #[true, true, true, true, true, true, true, true, true, false, true, false, false, false, false, false, false, false, false] rfl rfl (any_of HT_.out (by kernel_rfl)) (fun _ _ _ h => h) (Or.inl ⟨by rfl, ?_⟩) ?_ ?_
            rotate_left
            · intro w'
              go_simp
              with_reducible rfl
            rotate_left
            · simp only [Act.put, List.setIfInBounds_toArray, List.set_cons_zero, List.set_cons_succ, i64_w, i32_w]
              rfl
            refine take_ (i := 12) (N := some 96) (v := ?_) (a' := ?_) #[true, true, true, true, true, true, true, true, true, false, true, false, true, false, false, false, false, false, false] rfl rfl (take_ofW HT_.out HW_.out (by kernel_rfl)) (fun _ _ _ h => h) (Or.inl ⟨by rfl, ?_⟩) hHeld ?_ ?_
            rotate_left
            · rintro w' ⟨s1, s2, s3, s4⟩
              go_simp
              with_reducible rfl
            rotate_left
            · simp only [Act.put, List.setIfInBounds_toArray, List.set_cons_zero, List.set_cons_succ, i64_w, i32_w]
              rfl
            refine one_ (i := 9) (N := some 93) #[true, true, true, true, true, true, true, true, true, true, true, false, true, false, false, false, false, false, false] rfl rfl (one_of HT_.out (by kernel_rfl)) (by decide) (fun K hK => ?_)
            refine goes_ Tryz.func51 (by kernel_rfl) rfl #[.agg #[.string as1, .int .i64 a.2], .int .i64 2] (by rfl) rfl rfl (by (try simp only [List.map_toArray, List.map_cons, List.map_nil]); first | done | rfl) ?_
            refine (HLA.out _).mono ?_
            rintro e V2 ⟨rfl, hb⟩
            refine ⟨_, rfl, ?_⟩
            replace HMV := Aside0.mk (HMV.out.below hb)
            refine hK.out _ _ (⟨pw_cell_below hb hHeld.1, pw_cell_below hb hHeld.2.1, pw_cell_below hb hHeld.2.2.1, pw_cell_below hb hHeld.2.2.2⟩) (fun hHeld => ?_)
            clear hK K
            refine norm_ (a' := ?_) ?_ ?_
            rotate_left
            · show Act.put _ (some 93) _ = _
              simp only [Act.put, List.setIfInBounds_toArray, List.set_cons_zero, List.set_cons_succ, i64_w, i32_w]
              rfl
            refine pure_ (i := 11) (N := some 95) (v := ?_) (a' := ?_) #[true, true, true, true, true, true, true, true, true, true, true, true, true, false, false, false, false, false, false] rfl rfl (any_of HT_.out (by kernel_rfl)) (fun _ _ _ h => h) (Or.inl ⟨by rfl, ?_⟩) ?_ ?_
            rotate_left
            · intro w'
              go_simp
              with_reducible rfl
            rotate_left
            · simp only [Act.put, List.setIfInBounds_toArray, List.set_cons_zero, List.set_cons_succ, i64_w, i32_w]
              rfl
            refine one_ (i := 13) (N := some 97) #[true, true, true, true, true, true, true, true, true, true, true, true, true, true, false, false, false, false, false] rfl rfl (one_of HT_.out (by kernel_rfl)) (by decide) (fun K hK => ?_)
            refine goes_ Tryz.func51 (by kernel_rfl) rfl #[.agg #[.string bs, .int .i64 b.2], .int .i64 3] (by rfl) rfl rfl (by (try simp only [List.map_toArray, List.map_cons, List.map_nil]); first | done | rfl) ?_
            refine (HLB.out _).mono ?_
            rintro e V3 ⟨rfl, hb3⟩
            refine ⟨_, rfl, ?_⟩
            have hb := hb3
            replace HMV := Aside0.mk (HMV.out.below hb)
            refine hK.out _ _ (⟨pw_cell_below hb hHeld.1, pw_cell_below hb hHeld.2.1, pw_cell_below hb hHeld.2.2.1, pw_cell_below hb hHeld.2.2.2⟩) (fun hHeld => ?_)
            clear hK K
            refine norm_ (a' := ?_) ?_ ?_
            rotate_left
            · show Act.put _ (some 97) _ = _
              simp only [Act.put, List.setIfInBounds_toArray, List.set_cons_zero, List.set_cons_succ, i64_w, i32_w]
              rfl
            refine pure_ (i := 14) (N := some 98) (v := ?_) (a' := ?_) #[true, true, true, true, true, true, true, true, true, true, true, true, true, true, true, false, false, false, false] rfl rfl (any_of HT_.out (by kernel_rfl)) (fun _ _ _ h => h) (Or.inl ⟨by rfl, ?_⟩) ?_ ?_
            rotate_left
            · intro w'
              go_simp
              with_reducible rfl
            rotate_left
            · simp only [Act.put, List.setIfInBounds_toArray, List.set_cons_zero, List.set_cons_succ, i64_w, i32_w]
              rfl
            refine pure_ (i := 15) (N := some 99) (v := ?_) (a' := ?_) #[true, true, true, true, true, true, true, true, true, true, true, true, true, true, true, true, false, false, false] rfl rfl (any_of HT_.out (by kernel_rfl)) (fun _ _ _ h => h) (Or.inl ⟨by rfl, ?_⟩) ?_ ?_
            rotate_left
            · intro w'
              go_simp
              with_reducible rfl
            rotate_left
            · simp only [Act.put, List.setIfInBounds_toArray, List.set_cons_zero, List.set_cons_succ, i64_w, i32_w]
              rfl
            refine one_ (i := 16) (N := some 100) #[true, true, true, true, true, true, true, true, true, true, true, true, true, true, true, true, true, false, false] rfl rfl (one_of HT_.out (by kernel_rfl)) (by decide) (fun K hK => ?_)
            refine value_ (w1 := ?_) (v := ?_) (by rfl) rfl ?_ ?_
            rotate_left 2
            · go_simp
              constructor
              · rfl
              · rfl
            refine hK.out _ _ (⟨(pw_cell_below (below_alloc (Below.refl _ _) _) hHeld.1), (pw_cell_below (below_alloc (Below.refl _ _) _) hHeld.2.1), (pw_cell_below (below_alloc (Below.refl _ _) _) hHeld.2.2.1), (pw_cell_below (below_alloc (Below.refl _ _) _) hHeld.2.2.2)⟩) (fun hHeld => ?_)
            clear hK K
            refine norm_ (a' := ?_) ?_ ?_
            rotate_left
            · show Act.put _ (some 100) _ = _
              simp only [Act.put, List.setIfInBounds_toArray, List.set_cons_zero, List.set_cons_succ, i64_w, i32_w]
              rfl
            refine last_ (i := 17) (N := some 101) #[true, true, true, true, true, true, true, true, true, true, true, true, true, true, true, true, true, true, false] rfl rfl (one_of HT_.out (by kernel_rfl)) (by decide) (fun K hK => ?_)
            refine Kd.R_append_step kP w.heap.size (by rfl) (.tmp 87) (.tmp 100) 82 85 (.agg #[.string ⟨#[]⟩, .int .i64 0]) 24 rfl Tryz.underlying82 infoP rfl (by decide) (by omega) (.slice (some ⟨bk, o, none⟩) q c4) (memS r) ((la ++ (⟨#[47]⟩ : ByteArray)) ++ lb', 2) [.string ((la ++ (⟨#[47]⟩ : ByteArray)) ++ lb'), .int .i64 2] (fun k => w.heap.size ≤ k ∧ k ≠ w.heap.size) (fun _ => False) rfl rfl (kP_mkM _ _ _ _) (fun _ hk => hk.elim) (fun k hk => ⟨Nat.le_trans HMV.out.B.size hk, by have := blk_lt HMV.out.b3; omega⟩) (HRT.out _ HMV.out.own) HMV.out.B HMV.out.B.size (by rw [memS_length, HRL.out]; have := HQM.out; omega) ?_
            intro u' w3 ho hb hg hat
            have HM2 := Aside0.mk (PaM.after (p := (leastL a 2 ++ (markL 3 ++ leastL b 3), 2)) HMV.out (by rw [← HTX.out]; exact ho) hb hg)
            clear ho hb hg hat hHeld
            refine hK.out _ _ ?_
            clear hK K
            refine norm_ (a' := ?_) ?_ ?_
            rotate_left
            · show Act.put _ (some 101) _ = _
              simp only [Act.put, List.setIfInBounds_toArray, List.set_cons_zero, List.set_cons_succ, i64_w, i32_w]
              rfl
            refine pure_ (i := 18) (N := some 4) (v := ?_) (a' := ?_) #[true, true, true, true, true, true, true, true, true, true, true, true, true, true, true, true, true, true, true] rfl rfl (any_of HT_.out (by kernel_rfl)) (fun _ _ _ h => h) (Or.inl ⟨by rfl, ?_⟩) ?_ ?_
            rotate_left
            · intro w'
              go_simp
              with_reducible rfl
            rotate_left
            · simp only [Act.put, List.setIfInBounds_toArray, List.set_cons_zero, List.set_cons_succ, i64_w, i32_w]
              rfl
            refine done_ (done_of HT_.out (by kernel_rfl)) ?_
            clear hw4
            go_wp2
            go_roundg k1
            case rel => exact ⟨i + 1, _, by go_num, by omega, by omega, HS2, HM2⟩
            case measure => omega
          · -- two
            cases r with
            | nil => exact absurd ⟨by decide, HML.out.symm⟩ HONE.out
            | cons a r =>
            obtain ⟨q, hq⟩ : ∃ q, r.length = q := ⟨_, rfl⟩
            have hmq : m = q + 1 := by rw [← HML.out, List.length_cons, hq]
            have HRL := Aside0.mk hq
            have HMQ := Aside0.mk hmq
            have g3 := g2 (by decide)
            clear g2 hq hmq
            go_wp2
            have hmq := HMQ.out
            have HB0 := below_alloc (Below.refl wr.heap.size wr) (.cells #[.int .i64 4, .string ⟨#[]⟩] 69)
            have HM0 := Aside0.mk (HM.out.below HB0)
            have hbx := blk_new wr (.cells #[.int .i64 4, .string ⟨#[]⟩] 69)
            obtain ⟨nb, enb⟩ : ∃ n, wr.heap.size = n := ⟨_, rfl⟩
            rw [enb] at hbx ⊢
            generalize wr.alloc (.cells #[.int .i64 4, .string ⟨#[]⟩] 69) = W0 at HM0 hbx ⊢
            have hown := HM0.out.own
            have hC4 := (Kd.R_reads' hown).2.2
            have hcap := (Kd.R_reads hown)
            obtain ⟨A', c', he, hcap, _⟩ := hcap
            injection he with he1 he2 he3
            subst he1 he3
            rw [memS_length, List.length_cons, List.length_cons, HRL.out] at hcap
            obtain ⟨bk, o, rfl, y0, y1⟩ := at_P hC4 m (baL b.1, b.2) (by have := memS_at [] b (a :: r); rw [List.length_cons, HRL.out, ← hmq] at this; exact this)
            obtain ⟨bk', o', he, x0', x1'⟩ := at_P hC4 q (baL a.1, a.2) (by have := memS_at [b] a r; rw [HRL.out] at this; exact this)
            injection he with he
            injection he with he1 he2
            subst he1 he2
            obtain ⟨bs, hbs⟩ : ∃ bs, baL b.1 = bs := ⟨_, rfl⟩
            obtain ⟨as1, has⟩ : ∃ as1, baL a.1 = as1 := ⟨_, rfl⟩
            simp only [hbs] at y0
            simp only [has] at x0'
            have hcb : W0.cell? ⟨nb, 0, none⟩ = some (.int .i64 4) := (blk_cell hbx 0).trans rfl
            have hcs : W0.cell? ⟨w.heap.size, 4, none⟩ = some (.string ⟨#[124]⟩) := (blk_cell HM0.out.b3 4).trans rfl
            have hwb : b.1.length ≤ 5000 := Nat.le_trans (wt_mem (by simp)) HLN.out.2
            have hwa : a.1.length ≤ 5000 := Nat.le_trans (wt_mem (by simp)) HLN.out.2
            have hsa : as1.size ≤ 5000 := by rw [← has, baL_size]; exact hwa
            have HLA := Aside0.mk (fun V => show_piece_least.calls as1 a.2 2 (baL (leastL a 2)) V (by rw [← has]; exact least_f a 2 (by omega)))
            have HLB := Aside0.mk (fun V => show_piece_least.calls bs b.2 2 (baL (leastL b 2)) V (by rw [← hbs]; exact least_f b 2 (by omega)))
            have hla := leastL_len a 2
            have hlb := leastL_len b 2
            have HTX := Aside0.mk (show (baL a.1 ++ (⟨#[124]⟩ : ByteArray)) ++ baL (leastL b 2) = baL (a.1 ++ (markL 4 ++ leastL b 2)) from by rw [show (⟨#[124]⟩ : ByteArray) = baL [124] from rfl, baL_app, baL_app, List.append_assoc]; rfl)
            obtain ⟨la, hla'⟩ : ∃ x, baL (leastL a 2) = x := ⟨_, rfl⟩
            obtain ⟨lb', hlb'⟩ : ∃ x, baL (leastL b 2) = x := ⟨_, rfl⟩
            have hla2 : la.size ≤ 5002 := by rw [← hla', baL_size]; omega
            have hlb2 : lb'.size ≤ 5002 := by rw [← hlb', baL_size]; omega
            rw [hla'] at HLA
            rw [hlb'] at HLB
            (try rw [hla'] at HTX)
            (try rw [hlb'] at HTX)
            (try rw [has] at HTX)
            have HHB := Aside0.mk hbx
            have HHA := Aside0.mk has
            have p0 : (0 : Int) ≤ (m : Int) := by omega
            have p1 : (m : Int) < (m : Int) + 1 := by omega
            have q0 : (0 : Int) ≤ (q : Int) := by omega
            have q1 : (q : Int) < (m : Int) + 1 := by omega
            have q2 : (q : Int) ≤ (c4 : Int) := by omega
            have q3 : q ≤ c4 := by omega
            have HQM := Aside0.mk (show q + 1 < 100 by omega)
            have HW4 := Aside0.mk (show IntKind.i64.wrap ((m : Int) + 1 - 2) = (q : Int) by rw [i64_w]; unfold wrap64; omega)
            clear he2 hcap hown hC4 hbs has hbx HB0 HM enb x0 x1 hwb hwa hla hlb hla' hlb' hmq
            have hw1 : IntKind.i64.wrap ((m : Int) + 1 - 1) = (m : Int) := by rw [i64_w]; unfold wrap64; omega
            have hw2 : IntKind.i64.wrap (m : Int) = (m : Int) := by rw [i64_w]; unfold wrap64; omega
            have hw3 : (m : Int) + 1 - 1 = (m : Int) := by omega
            have kq1 : (9223372036854775807 < as1.size + 1) = False := eq_false (by omega)
            have kq2 : (9223372036854775807 < as1.size + 1 + lb'.size) = False := eq_false (by omega)
            have hw4 := HW4.out
            go_region_held3 (fun w' => w'.cell? ⟨bk, o + m * 2, none⟩ = some (.string bs) ∧ w'.cell? ⟨bk, o + m * 2 + 1, none⟩ = some (.int .i64 b.2) ∧ w'.cell? ⟨nb, 0, none⟩ = some (.int .i64 4) ∧ w'.cell? ⟨w.heap.size, 4, none⟩ = some (.string ⟨#[124]⟩)) (go_keep) (fail)
            go_wp2
            rename_i hHeld0
            clear hHeld0
            have hB1 : Below W0.heap.size W0 (W0.alloc (.cells #[.string bs, .int .i64 b.2] 85)).drew := below_drew1 (below_alloc (Below.refl _ _) _)
            have h9 := blk_drew (blk_new W0 (.cells #[.string bs, .int .i64 b.2] 85))
            obtain ⟨n9, en9⟩ : ∃ n, W0.heap.size = n := ⟨_, rfl⟩
            rw [en9] at h9 ⊢
            have HMV := Aside0.mk ((HM0.out.below hB1).below (below_drew1 (Below.refl _ _)))
            have z0 := pw_cell_below hB1 x0'
            have z1 := pw_cell_below hB1 x1'
            generalize (W0.alloc (.cells #[.string bs, .int .i64 b.2] 85)).drew = V0 at HMV z0 z1 h9 ⊢
            have u0 : V0.cell? ⟨n9, 0, none⟩ = some (.string bs) := (blk_cell h9 0).trans rfl
            have u1 : V0.cell? ⟨n9, 1, none⟩ = some (.int .i64 b.2) := (blk_cell h9 1).trans rfl
            have HRT := Aside0.mk (fun (V : World) (h : Kd.R kP 85 V w.heap.size (fun k => w.heap.size ≤ k ∧ k ≠ w.heap.size) (.slice (some ⟨bk, o, none⟩) (m + 1) c4) (memS (b :: a :: r))) => show Kd.R kP 85 V w.heap.size (fun k => w.heap.size ≤ k ∧ k ≠ w.heap.size) (.slice (some ⟨bk, o, none⟩) q c4) (memS r) from memS_take2 b a r q HRL.out ▸ Kd.R_take (m := q) h (by rw [memS_length, List.length_cons, List.length_cons, HRL.out]; omega))
            have HS2 := Aside0.mk (showpath_step HS.out hlt HX.out.1 (push1_or (b := b) (a := a) (r := r)))
            clear HS hB1 h9 en9 hcb hcs y0 y1 x0' x1' HM0 hw1 hw2 hw3
            refine start_ (n := 19) (S := fun w' => w'.cell? ⟨bk, o + q * 2, none⟩ = some (.string as1) ∧ w'.cell? ⟨bk, o + q * 2 + 1, none⟩ = some (.int .i64 a.2) ∧ w'.cell? ⟨n9, 0, none⟩ = some (.string bs) ∧ w'.cell? ⟨n9, 1, none⟩ = some (.int .i64 b.2)) (ds := [17]) #[false, false, false, false, false, false, false, false, false, false, false, false, false, false, false, false, false, false, false] (by kernel_rfl) rfl rfl (⟨z0, z1, u0, u1⟩) (fun hHeld => ?_); refine with_tabW show24.tab show24.bits (fun HT_ HW_ => ?_)
            generalize V0.drew = V at HMV hHeld ⊢
            refine pure_ (i := 0) (N := some 104) (v := ?_) (a' := ?_) #[true, false, false, false, false, false, false, false, false, false, false, false, false, false, false, false, false, false, false] rfl rfl (any_of HT_.out (by kernel_rfl)) (fun _ _ _ h => h) (Or.inl ⟨by rfl, ?_⟩) ?_ ?_
            rotate_left
            · intro w'
              go_simp
              with_reducible rfl
            rotate_left
            · simp only [Act.put, List.setIfInBounds_toArray, List.set_cons_zero, List.set_cons_succ, i64_w, i32_w]
              rfl
            refine pure_ (i := 1) (N := some 105) (v := ?_) (a' := ?_) #[true, true, false, false, false, false, false, false, false, false, false, false, false, false, false, false, false, false, false] rfl rfl (any_of HT_.out (by kernel_rfl)) (fun _ _ _ h => h) (Or.inl ⟨by rfl, ?_⟩) ?_ ?_
            rotate_left
            · intro w'
              go_simp
              with_reducible rfl
            rotate_left
            · simp only [Act.put, List.setIfInBounds_toArray, List.set_cons_zero, List.set_cons_succ, i64_w, i32_w]
              rfl
            refine pure_ (i := 2) (N := some 106) (v := ?_) (a' := ?_) #[true, true, true, false, false, false, false, false, false, false, false, false, false, false, false, false, false, false, false] rfl rfl (any_of HT_.out (by kernel_rfl)) (fun _ _ _ h => h) (Or.inl ⟨by rfl, ?_⟩) ?_ ?_
            rotate_left
            · intro w'
              go_simp
              with_reducible rfl
            rotate_left
            · simp only [Act.put, List.setIfInBounds_toArray, List.set_cons_zero, List.set_cons_succ, i64_w, i32_w]
              rfl
            refine pure_ (i := 3) (N := some 107) (v := ?_) (a' := ?_) #[true, true, true, true, false, false, false, false, false, false, false, false, false, false, false, false, false, false, false] rfl rfl (any_of HT_.out (by kernel_rfl)) (fun _ _ _ h => h) (Or.inl ⟨by rfl, ?_⟩) ?_ ?_
            rotate_left
            · intro w'
              go_simp
              with_reducible rfl
            rotate_left
            · simp only [Act.put, List.setIfInBounds_toArray, List.set_cons_zero, List.set_cons_succ, i64_w, i32_w]
              rfl
            refine pure_ (i := 4) (N := some 108) (v := ?_) (a' := ?_) #[true, true, true, true, true, false, false, false, false, false, false, false, false, false, false, false, false, false, false] rfl rfl (any_of HT_.out (by kernel_rfl)) (fun _ _ _ h => h) (Or.inl ⟨by rfl, ?_⟩) ?_ ?_
            rotate_left
            · intro w'
              go_simp
              with_reducible rfl
            rotate_left
            · simp only [Act.put, List.setIfInBounds_toArray, List.set_cons_zero, List.set_cons_succ, i64_w, i32_w]
              rfl
            refine pure_ (i := 5) (N := some 109) (v := ?_) (a' := ?_) #[true, true, true, true, true, true, false, false, false, false, false, false, false, false, false, false, false, false, false] rfl rfl (any_of HT_.out (by kernel_rfl)) (fun _ _ _ h => h) (Or.inl ⟨by rfl, ?_⟩) ?_ ?_
            rotate_left
            · intro w'
              go_simp
              with_reducible rfl
            rotate_left
            · simp only [Act.put, List.setIfInBounds_toArray, List.set_cons_zero, List.set_cons_succ, i64_w, i32_w]
              rfl
            refine pure_ (i := 6) (N := some 110) (v := ?_) (a' := ?_) #[true, true, true, true, true, true, true, false, false, false, false, false, false, false, false, false, false, false, false] rfl rfl (any_of HT_.out (by kernel_rfl)) (fun _ _ _ h => h) (Or.inl ⟨by rfl, ?_⟩) ?_ ?_
            rotate_left
            · intro w'
              go_simp
              with_reducible rfl
            rotate_left
            · simp only [Act.put, List.setIfInBounds_toArray, List.set_cons_zero, List.set_cons_succ, i64_w, i32_w]
              rfl
            refine pure_ (i := 7) (N := some 111) (v := ?_) (a' := ?_) #[true, true, true, true, true, true, true, true, false, false, false, false, false, false, false, false, false, false, false] rfl rfl (any_of HT_.out (by kernel_rfl)) (fun _ _ _ h => h) (Or.inl ⟨by rfl, ?_⟩) ?_ ?_
            rotate_left
            · intro w'
              go_simp
              with_reducible rfl
            rotate_left
            · simp only [Act.put, List.setIfInBounds_toArray, List.set_cons_zero, List.set_cons_succ, i64_w, i32_w]
              rfl
            refine pure_ (i := 8) (N := some 112) (v := ?_) (a' := ?_) #[true, true, true, true, true, true, true, true, true, false, false, false, false, false, false, false, false, false, false] rfl rfl (any_of HT_.out (by kernel_rfl)) (fun _ _ _ h => h) (Or.inl ⟨by rfl, ?_⟩) ?_ ?_
            rotate_left
            · intro w'
              go_simp
              with_reducible rfl
            rotate_left
            · simp only [Act.put, List.setIfInBounds_toArray, List.set_cons_zero, List.set_cons_succ, i64_w, i32_w]
              rfl
            refine take_ (i := 9) (N := some 113) (v := ?_) (a' := ?_) #[true, true, true, true, true, true, true, true, true, true, false, false, false, false, false, false, false, false, false] rfl rfl (take_ofW HT_.out HW_.out (by kernel_rfl)) (fun _ _ _ h => h) (Or.inl ⟨by rfl, ?_⟩) hHeld ?_ ?_
            rotate_left
            · rintro w' ⟨s1, s2, s3, s4⟩
              go_simp
              with_reducible rfl
            rotate_left
            · simp only [Act.put, List.setIfInBounds_toArray, List.set_cons_zero, List.set_cons_succ, i64_w, i32_w]
              rfl
            refine pure_ (i := 10) (N := some 114) (v := ?_) (a' := ?_) #[true, true, true, true, true, true, true, true, true, true, true, false, false, false, false, false, false, false, false] rfl rfl (any_of HT_.out (by kernel_rfl)) (fun _ _ _ h => h) (Or.inl ⟨by rfl, ?_⟩) ?_ ?_
            rotate_left
            · intro w'
              go_simp
              with_reducible rfl
            rotate_left
            · simp only [Act.put, List.setIfInBounds_toArray, List.set_cons_zero, List.set_cons_succ, i64_w, i32_w]
              rfl
            refine pure_ (i := 11) (N := some 115) (v := ?_) (a' := ?_) #[true, true, true, true, true, true, true, true, true, true, true, true, false, false, false, false, false, false, false] rfl rfl (any_of HT_.out (by kernel_rfl)) (fun _ _ _ h => h) (Or.inl ⟨by rfl, ?_⟩) ?_ ?_
            rotate_left
            · intro w'
              go_simp
              with_reducible rfl
            rotate_left
            · simp only [Act.put, List.setIfInBounds_toArray, List.set_cons_zero, List.set_cons_succ, i64_w, i32_w]
              rfl
            refine take_ (i := 12) (N := some 116) (v := ?_) (a' := ?_) #[true, true, true, true, true, true, true, true, true, true, true, true, true, false, false, false, false, false, false] rfl rfl (take_ofW HT_.out HW_.out (by kernel_rfl)) (fun _ _ _ h => h) (Or.inl ⟨by rfl, ?_⟩) hHeld ?_ ?_
            rotate_left
            · rintro w' ⟨s1, s2, s3, s4⟩
              go_simp
              with_reducible rfl
            rotate_left
            · simp only [Act.put, List.setIfInBounds_toArray, List.set_cons_zero, List.set_cons_succ, i64_w, i32_w]
              rfl
            refine one_ (i := 13) (N := some 117) #[true, true, true, true, true, true, true, true, true, true, true, true, true, true, false, false, false, false, false] rfl rfl (one_of HT_.out (by kernel_rfl)) (by decide) (fun K hK => ?_)
            refine goes_ Tryz.func51 (by kernel_rfl) rfl #[.agg #[.string bs, .int .i64 b.2], .int .i64 2] (by rfl) rfl rfl (by (try simp only [List.map_toArray, List.map_cons, List.map_nil]); first | done | rfl) ?_
            refine (HLB.out _).mono ?_
            rintro e V2 ⟨rfl, hb⟩
            refine ⟨_, rfl, ?_⟩
            replace HMV := Aside0.mk (HMV.out.below hb)
            refine hK.out _ _ (⟨pw_cell_below hb hHeld.1, pw_cell_below hb hHeld.2.1, pw_cell_below hb hHeld.2.2.1, pw_cell_below hb hHeld.2.2.2⟩) (fun hHeld => ?_)
            clear hK K
            refine norm_ (a' := ?_) ?_ ?_
            rotate_left
            · show Act.put _ (some 117) _ = _
              simp only [Act.put, List.setIfInBounds_toArray, List.set_cons_zero, List.set_cons_succ, i64_w, i32_w]
              rfl
            refine pure_ (i := 14) (N := some 118) (v := ?_) (a' := ?_) #[true, true, true, true, true, true, true, true, true, true, true, true, true, true, true, false, false, false, false] rfl rfl (any_of HT_.out (by kernel_rfl)) (fun _ _ _ h => h) (Or.inl ⟨by rfl, ?_⟩) ?_ ?_
            rotate_left
            · intro w'
              go_simp
              with_reducible rfl
            rotate_left
            · simp only [Act.put, List.setIfInBounds_toArray, List.set_cons_zero, List.set_cons_succ, i64_w, i32_w]
              rfl
            refine pure_ (i := 15) (N := some 119) (v := ?_) (a' := ?_) #[true, true, true, true, true, true, true, true, true, true, true, true, true, true, true, true, false, false, false] rfl rfl (any_of HT_.out (by kernel_rfl)) (fun _ _ _ h => h) (Or.inl ⟨by rfl, ?_⟩) ?_ ?_
            rotate_left
            · intro w'
              go_simp
              with_reducible rfl
            rotate_left
            · simp only [Act.put, List.setIfInBounds_toArray, List.set_cons_zero, List.set_cons_succ, i64_w, i32_w]
              rfl
            refine one_ (i := 16) (N := some 120) #[true, true, true, true, true, true, true, true, true, true, true, true, true, true, true, true, true, false, false] rfl rfl (one_of HT_.out (by kernel_rfl)) (by decide) (fun K hK => ?_)
            refine value_ (w1 := ?_) (v := ?_) (by rfl) rfl ?_ ?_
            rotate_left 2
            · go_simp
              constructor
              · rfl
              · rfl
            refine hK.out _ _ (⟨(pw_cell_below (below_alloc (Below.refl _ _) _) hHeld.1), (pw_cell_below (below_alloc (Below.refl _ _) _) hHeld.2.1), (pw_cell_below (below_alloc (Below.refl _ _) _) hHeld.2.2.1), (pw_cell_below (below_alloc (Below.refl _ _) _) hHeld.2.2.2)⟩) (fun hHeld => ?_)
            clear hK K
            refine norm_ (a' := ?_) ?_ ?_
            rotate_left
            · show Act.put _ (some 120) _ = _
              simp only [Act.put, List.setIfInBounds_toArray, List.set_cons_zero, List.set_cons_succ, i64_w, i32_w]
              rfl
            refine last_ (i := 17) (N := some 121) #[true, true, true, true, true, true, true, true, true, true, true, true, true, true, true, true, true, true, false] rfl rfl (one_of HT_.out (by kernel_rfl)) (by decide) (fun K hK => ?_)
            refine Kd.R_append_step kP w.heap.size (by rfl) (.tmp 107) (.tmp 120) 82 85 (.agg #[.string ⟨#[]⟩, .int .i64 0]) 24 rfl Tryz.underlying82 infoP rfl (by decide) (by omega) (.slice (some ⟨bk, o, none⟩) q c4) (memS r) ((as1 ++ (⟨#[124]⟩ : ByteArray)) ++ lb', 1) [.string ((as1 ++ (⟨#[124]⟩ : ByteArray)) ++ lb'), .int .i64 1] (fun k => w.heap.size ≤ k ∧ k ≠ w.heap.size) (fun _ => False) rfl rfl (kP_mkM _ _ _ _) (fun _ hk => hk.elim) (fun k hk => ⟨Nat.le_trans HMV.out.B.size hk, by have := blk_lt HMV.out.b3; omega⟩) (HRT.out _ HMV.out.own) HMV.out.B HMV.out.B.size (by rw [memS_length, HRL.out]; have := HQM.out; omega) ?_
            intro u' w3 ho hb hg hat
            have HM2 := Aside0.mk (PaM.after (p := (a.1 ++ (markL 4 ++ leastL b 2), 1)) HMV.out (by rw [← HTX.out]; exact ho) hb hg)
            clear ho hb hg hat hHeld
            refine hK.out _ _ ?_
            clear hK K
            refine norm_ (a' := ?_) ?_ ?_
            rotate_left
            · show Act.put _ (some 121) _ = _
              simp only [Act.put, List.setIfInBounds_toArray, List.set_cons_zero, List.set_cons_succ, i64_w, i32_w]
              rfl
            refine pure_ (i := 18) (N := some 4) (v := ?_) (a' := ?_) #[true, true, true, true, true, true, true, true, true, true, true, true, true, true, true, true, true, true, true] rfl rfl (any_of HT_.out (by kernel_rfl)) (fun _ _ _ h => h) (Or.inl ⟨by rfl, ?_⟩) ?_ ?_
            rotate_left
            · intro w'
              go_simp
              with_reducible rfl
            rotate_left
            · simp only [Act.put, List.setIfInBounds_toArray, List.set_cons_zero, List.set_cons_succ, i64_w, i32_w]
              rfl
            refine done_ (done_of HT_.out (by kernel_rfl)) ?_
            clear hw4
            go_wp2
            go_roundg k1
            case rel => exact ⟨i + 1, _, by go_num, by omega, by omega, HS2, HM2⟩
            case measure => omega
          · -- mark
            clear g2
            go_wp2
            have HB0 := below_alloc (Below.refl wr.heap.size wr) (.cells #[.int .i64 5, .string ⟨#[]⟩] 69)
            have HM0 := Aside0.mk (HM.out.below HB0)
            have hbx := blk_new wr (.cells #[.int .i64 5, .string ⟨#[]⟩] 69)
            obtain ⟨nb, enb⟩ : ∃ n, wr.heap.size = n := ⟨_, rfl⟩
            rw [enb] at hbx ⊢
            generalize wr.alloc (.cells #[.int .i64 5, .string ⟨#[]⟩] 69) = W0 at HM0 hbx ⊢
            have hown := HM0.out.own
            have hC4 := (Kd.R_reads' hown).2.2
            obtain ⟨bk, o, rfl, y0, y1⟩ := at_P hC4 m (baL b.1, b.2) (by have := memS_at [] b r; rw [HML.out] at this; exact this)
            obtain ⟨rfl, cur, hcur⟩ := own_zero hown
            obtain ⟨bs, hbs⟩ : ∃ bs, baL b.1 = bs := ⟨_, rfl⟩
            simp only [hbs, Nat.zero_add] at y0
            simp only [Nat.zero_add] at y1
            have hcb : W0.cell? ⟨nb, 0, none⟩ = some (.int .i64 5) := (blk_cell hbx 0).trans rfl
            have hcs : W0.cell? ⟨w.heap.size, 5, none⟩ = some (.string ⟨#[42]⟩) := (blk_cell HM0.out.b3 5).trans rfl
            have hwb : b.1.length ≤ 5000 := Nat.le_trans (wt_mem (by simp)) HLN.out.2
            have HLB := Aside0.mk (fun V => show_piece_least.calls bs b.2 3 (baL (leastL b 3)) V (by rw [← hbs]; exact least_f b 3 (by omega)))
            have hlb := leastL_len b 3
            have HTX := Aside0.mk (show baL (leastL b 3) ++ (⟨#[42]⟩ : ByteArray) = baL (leastL b 3 ++ markL 5) from by rw [show (⟨#[42]⟩ : ByteArray) = baL [42] from rfl, baL_app]; rfl)
            obtain ⟨lb', hlb'⟩ : ∃ x, baL (leastL b 3) = x := ⟨_, rfl⟩
            have hlb2 : lb'.size ≤ 5002 := by rw [← hlb', baL_size]; omega
            rw [hlb'] at HLB HTX
            have HBS := Aside0.mk hbs
            have HCUR := Aside0.mk hcur
            have p0 : (0 : Int) ≤ (m : Int) := by omega
            have p1 : (m : Int) < (m : Int) + 1 := by omega
            have hmz : m * 2 < (m + 1) * 2 := by omega
            have kq1 : (9223372036854775807 < lb'.size + 1) = False := eq_false (by omega)
            have HS2 := Aside0.mk (showpath_step HS.out hlt HX.out.1 (push1_mark (b := b) (r := r) (by decide) (by decide) (by decide)))
            have HSET := Aside0.mk (memS_set b (leastL b 3 ++ markL 5, 3) r m HML.out)
            clear HS hown hC4 hbs hcur hbx HB0 HM enb x0 x1 hwb hlb hlb'
            have hw1 : IntKind.i64.wrap ((m : Int) + 1 - 1) = (m : Int) := by rw [i64_w]; unfold wrap64; omega
            have hw2 : IntKind.i64.wrap (m : Int) = (m : Int) := by rw [i64_w]; unfold wrap64; omega
            have hw3 : (m : Int) + 1 - 1 = (m : Int) := by omega
            go_region_held3 (fun w' => w'.cell? ⟨bk, m * 2, none⟩ = some (.string bs) ∧ w'.cell? ⟨bk, m * 2 + 1, none⟩ = some (.int .i64 b.2) ∧ w'.cell? ⟨nb, 0, none⟩ = some (.int .i64 5) ∧ w'.cell? ⟨w.heap.size, 5, none⟩ = some (.string ⟨#[42]⟩)) (go_keep) (fail)
            rename_i hHeld0
            go_wp2_with fail
            clear hw1 hw2 hw3 hHeld0
            refine (HLB.out _).mono ?_
            rintro e V ⟨rfl, hb⟩
            have hB1 : Below W0.heap.size W0 V := below_then (below_drew1 (below_alloc (Below.refl _ _) _)) (below_drew1 (below_alloc (Below.refl W0.heap.size W0) (.cells #[.string bs, .int .i64 b.2] 85))).size hb
            have HMV := Aside0.mk (HM0.out.below hB1)
            have z0 := pw_cell_below hB1 y0
            have z1 := pw_cell_below hB1 y1
            have hfz := blk_frozen (blk_below HCUR.out hB1) (m * 2)
            have hfz1 := blk_frozen (blk_below HCUR.out hB1) (m * 2 + 1)
            clear hb hB1 hcb hcs y0 y1 HM0
            have HCC := Aside0.mk (show ∀ (j : Nat) (u : Value), ([.string bs, .int .i64 b.2] : List Value)[j]? = some u → V.cell? ⟨bk, (m : Int).toNat * kP.sz + j, none⟩ = some u from fun j u hj => by
              match j, hj with
              | 0, hj => obtain rfl := Option.some.inj hj; exact z0
              | 1, hj => obtain rfl := Option.some.inj hj; exact z1)
            clear z0 z1
            go_wp2_with ((with_reducible refine gate_store (t := 85) (p := 81) (v := .tmp 80) rfl ?_); refine Kd.R_store kP (w0 := w) w.heap.size rfl rfl 85 (.tmp 81) (.tmp 80) rfl 85 (g := bk) (n := m + 1) (cap := c4) (o' := m * 2) (m : Int) 0 (memS (b :: r)) (lb' ++ (⟨#[42]⟩ : ByteArray), 3) (.agg #[.string (lb' ++ (⟨#[42]⟩ : ByteArray)), .int .i64 3]) [.string (lb' ++ (⟨#[42]⟩ : ByteArray)), .int .i64 3] [.string bs, .int .i64 b.2] (fun k => w.heap.size ≤ k ∧ k ≠ w.heap.size) (fun _ => False) (by first | rfl | (simp; done)) rfl rfl rfl (by kernel_rfl) (by intro q hq; simp at hq; rcases hq with rfl | rfl <;> rfl) HMV.out.own p0 (by omega) rfl HCC.out (Nat.le_refl 2) (kP_mkM _ _ _ _) (fun _ hk => hk.elim) HMV.out.B ?_; intro w3 ho hb hg; have HM2 := Aside0.mk (show PaM w w3 w.heap.size (.slice (some ⟨bk, 0, none⟩) (m + 1) c4) ((leastL b 3 ++ markL 5, 3) :: r) from ⟨hb, by rw [← HSET.out, ← HTX.out]; exact ho, blk_grown HMV.out.b3 hg (fun he => (HMV.out.own.1 w.heap.size he.symm).2 rfl), HMV.out.h3⟩); clear ho hb hg)
            go_wp2
            go_roundg k1
            case rel => exact ⟨i + 1, _, by go_num, by omega, by omega, HS2, HM2⟩
            case measure => omega
          · -- mark
            clear g2
            go_wp2
            have HB0 := below_alloc (Below.refl wr.heap.size wr) (.cells #[.int .i64 6, .string ⟨#[]⟩] 69)
            have HM0 := Aside0.mk (HM.out.below HB0)
            have hbx := blk_new wr (.cells #[.int .i64 6, .string ⟨#[]⟩] 69)
            obtain ⟨nb, enb⟩ : ∃ n, wr.heap.size = n := ⟨_, rfl⟩
            rw [enb] at hbx ⊢
            generalize wr.alloc (.cells #[.int .i64 6, .string ⟨#[]⟩] 69) = W0 at HM0 hbx ⊢
            have hown := HM0.out.own
            have hC4 := (Kd.R_reads' hown).2.2
            obtain ⟨bk, o, rfl, y0, y1⟩ := at_P hC4 m (baL b.1, b.2) (by have := memS_at [] b r; rw [HML.out] at this; exact this)
            obtain ⟨rfl, cur, hcur⟩ := own_zero hown
            obtain ⟨bs, hbs⟩ : ∃ bs, baL b.1 = bs := ⟨_, rfl⟩
            simp only [hbs, Nat.zero_add] at y0
            simp only [Nat.zero_add] at y1
            have hcb : W0.cell? ⟨nb, 0, none⟩ = some (.int .i64 6) := (blk_cell hbx 0).trans rfl
            have hcs : W0.cell? ⟨w.heap.size, 6, none⟩ = some (.string ⟨#[43]⟩) := (blk_cell HM0.out.b3 6).trans rfl
            have hwb : b.1.length ≤ 5000 := Nat.le_trans (wt_mem (by simp)) HLN.out.2
            have HLB := Aside0.mk (fun V => show_piece_least.calls bs b.2 3 (baL (leastL b 3)) V (by rw [← hbs]; exact least_f b 3 (by omega)))
            have hlb := leastL_len b 3
            have HTX := Aside0.mk (show baL (leastL b 3) ++ (⟨#[43]⟩ : ByteArray) = baL (leastL b 3 ++ markL 6) from by rw [show (⟨#[43]⟩ : ByteArray) = baL [43] from rfl, baL_app]; rfl)
            obtain ⟨lb', hlb'⟩ : ∃ x, baL (leastL b 3) = x := ⟨_, rfl⟩
            have hlb2 : lb'.size ≤ 5002 := by rw [← hlb', baL_size]; omega
            rw [hlb'] at HLB HTX
            have HBS := Aside0.mk hbs
            have HCUR := Aside0.mk hcur
            have p0 : (0 : Int) ≤ (m : Int) := by omega
            have p1 : (m : Int) < (m : Int) + 1 := by omega
            have hmz : m * 2 < (m + 1) * 2 := by omega
            have kq1 : (9223372036854775807 < lb'.size + 1) = False := eq_false (by omega)
            have HS2 := Aside0.mk (showpath_step HS.out hlt HX.out.1 (push1_mark (b := b) (r := r) (by decide) (by decide) (by decide)))
            have HSET := Aside0.mk (memS_set b (leastL b 3 ++ markL 6, 3) r m HML.out)
            clear HS hown hC4 hbs hcur hbx HB0 HM enb x0 x1 hwb hlb hlb'
            have hw1 : IntKind.i64.wrap ((m : Int) + 1 - 1) = (m : Int) := by rw [i64_w]; unfold wrap64; omega
            have hw2 : IntKind.i64.wrap (m : Int) = (m : Int) := by rw [i64_w]; unfold wrap64; omega
            have hw3 : (m : Int) + 1 - 1 = (m : Int) := by omega
            go_region_held3 (fun w' => w'.cell? ⟨bk, m * 2, none⟩ = some (.string bs) ∧ w'.cell? ⟨bk, m * 2 + 1, none⟩ = some (.int .i64 b.2) ∧ w'.cell? ⟨nb, 0, none⟩ = some (.int .i64 6) ∧ w'.cell? ⟨w.heap.size, 6, none⟩ = some (.string ⟨#[43]⟩)) (go_keep) (fail)
            rename_i hHeld0
            go_wp2_with fail
            clear hw1 hw2 hw3 hHeld0
            refine (HLB.out _).mono ?_
            rintro e V ⟨rfl, hb⟩
            have hB1 : Below W0.heap.size W0 V := below_then (below_drew1 (below_alloc (Below.refl _ _) _)) (below_drew1 (below_alloc (Below.refl W0.heap.size W0) (.cells #[.string bs, .int .i64 b.2] 85))).size hb
            have HMV := Aside0.mk (HM0.out.below hB1)
            have z0 := pw_cell_below hB1 y0
            have z1 := pw_cell_below hB1 y1
            have hfz := blk_frozen (blk_below HCUR.out hB1) (m * 2)
            have hfz1 := blk_frozen (blk_below HCUR.out hB1) (m * 2 + 1)
            clear hb hB1 hcb hcs y0 y1 HM0
            have HCC := Aside0.mk (show ∀ (j : Nat) (u : Value), ([.string bs, .int .i64 b.2] : List Value)[j]? = some u → V.cell? ⟨bk, (m : Int).toNat * kP.sz + j, none⟩ = some u from fun j u hj => by
              match j, hj with
              | 0, hj => obtain rfl := Option.some.inj hj; exact z0
              | 1, hj => obtain rfl := Option.some.inj hj; exact z1)
            clear z0 z1
            go_wp2_with ((with_reducible refine gate_store (t := 85) (p := 81) (v := .tmp 80) rfl ?_); refine Kd.R_store kP (w0 := w) w.heap.size rfl rfl 85 (.tmp 81) (.tmp 80) rfl 85 (g := bk) (n := m + 1) (cap := c4) (o' := m * 2) (m : Int) 0 (memS (b :: r)) (lb' ++ (⟨#[43]⟩ : ByteArray), 3) (.agg #[.string (lb' ++ (⟨#[43]⟩ : ByteArray)), .int .i64 3]) [.string (lb' ++ (⟨#[43]⟩ : ByteArray)), .int .i64 3] [.string bs, .int .i64 b.2] (fun k => w.heap.size ≤ k ∧ k ≠ w.heap.size) (fun _ => False) (by first | rfl | (simp; done)) rfl rfl rfl (by kernel_rfl) (by intro q hq; simp at hq; rcases hq with rfl | rfl <;> rfl) HMV.out.own p0 (by omega) rfl HCC.out (Nat.le_refl 2) (kP_mkM _ _ _ _) (fun _ hk => hk.elim) HMV.out.B ?_; intro w3 ho hb hg; have HM2 := Aside0.mk (show PaM w w3 w.heap.size (.slice (some ⟨bk, 0, none⟩) (m + 1) c4) ((leastL b 3 ++ markL 6, 3) :: r) from ⟨hb, by rw [← HSET.out, ← HTX.out]; exact ho, blk_grown HMV.out.b3 hg (fun he => (HMV.out.own.1 w.heap.size he.symm).2 rfl), HMV.out.h3⟩); clear ho hb hg)
            go_wp2
            go_roundg k1
            case rel => exact ⟨i + 1, _, by go_num, by omega, by omega, HS2, HM2⟩
            case measure => omega
          · -- mark
            clear g2
            go_wp2
            have HB0 := below_alloc (Below.refl wr.heap.size wr) (.cells #[.int .i64 7, .string ⟨#[]⟩] 69)
            have HM0 := Aside0.mk (HM.out.below HB0)
            have hbx := blk_new wr (.cells #[.int .i64 7, .string ⟨#[]⟩] 69)
            obtain ⟨nb, enb⟩ : ∃ n, wr.heap.size = n := ⟨_, rfl⟩
            rw [enb] at hbx ⊢
            generalize wr.alloc (.cells #[.int .i64 7, .string ⟨#[]⟩] 69) = W0 at HM0 hbx ⊢
            have hown := HM0.out.own
            have hC4 := (Kd.R_reads' hown).2.2
            obtain ⟨bk, o, rfl, y0, y1⟩ := at_P hC4 m (baL b.1, b.2) (by have := memS_at [] b r; rw [HML.out] at this; exact this)
            obtain ⟨rfl, cur, hcur⟩ := own_zero hown
            obtain ⟨bs, hbs⟩ : ∃ bs, baL b.1 = bs := ⟨_, rfl⟩
            simp only [hbs, Nat.zero_add] at y0
            simp only [Nat.zero_add] at y1
            have hcb : W0.cell? ⟨nb, 0, none⟩ = some (.int .i64 7) := (blk_cell hbx 0).trans rfl
            have hcs : W0.cell? ⟨w.heap.size, 7, none⟩ = some (.string ⟨#[63]⟩) := (blk_cell HM0.out.b3 7).trans rfl
            have hwb : b.1.length ≤ 5000 := Nat.le_trans (wt_mem (by simp)) HLN.out.2
            have HLB := Aside0.mk (fun V => show_piece_least.calls bs b.2 3 (baL (leastL b 3)) V (by rw [← hbs]; exact least_f b 3 (by omega)))
            have hlb := leastL_len b 3
            have HTX := Aside0.mk (show baL (leastL b 3) ++ (⟨#[63]⟩ : ByteArray) = baL (leastL b 3 ++ markL 7) from by rw [show (⟨#[63]⟩ : ByteArray) = baL [63] from rfl, baL_app]; rfl)
            obtain ⟨lb', hlb'⟩ : ∃ x, baL (leastL b 3) = x := ⟨_, rfl⟩
            have hlb2 : lb'.size ≤ 5002 := by rw [← hlb', baL_size]; omega
            rw [hlb'] at HLB HTX
            have HBS := Aside0.mk hbs
            have HCUR := Aside0.mk hcur
            have p0 : (0 : Int) ≤ (m : Int) := by omega
            have p1 : (m : Int) < (m : Int) + 1 := by omega
            have hmz : m * 2 < (m + 1) * 2 := by omega
            have kq1 : (9223372036854775807 < lb'.size + 1) = False := eq_false (by omega)
            have HS2 := Aside0.mk (showpath_step HS.out hlt HX.out.1 (push1_mark (b := b) (r := r) (by decide) (by decide) (by decide)))
            have HSET := Aside0.mk (memS_set b (leastL b 3 ++ markL 7, 3) r m HML.out)
            clear HS hown hC4 hbs hcur hbx HB0 HM enb x0 x1 hwb hlb hlb'
            have hw1 : IntKind.i64.wrap ((m : Int) + 1 - 1) = (m : Int) := by rw [i64_w]; unfold wrap64; omega
            have hw2 : IntKind.i64.wrap (m : Int) = (m : Int) := by rw [i64_w]; unfold wrap64; omega
            have hw3 : (m : Int) + 1 - 1 = (m : Int) := by omega
            go_region_held3 (fun w' => w'.cell? ⟨bk, m * 2, none⟩ = some (.string bs) ∧ w'.cell? ⟨bk, m * 2 + 1, none⟩ = some (.int .i64 b.2) ∧ w'.cell? ⟨nb, 0, none⟩ = some (.int .i64 7) ∧ w'.cell? ⟨w.heap.size, 7, none⟩ = some (.string ⟨#[63]⟩)) (go_keep) (fail)
            rename_i hHeld0
            go_wp2_with fail
            clear hw1 hw2 hw3 hHeld0
            refine (HLB.out _).mono ?_
            rintro e V ⟨rfl, hb⟩
            have hB1 : Below W0.heap.size W0 V := below_then (below_drew1 (below_alloc (Below.refl _ _) _)) (below_drew1 (below_alloc (Below.refl W0.heap.size W0) (.cells #[.string bs, .int .i64 b.2] 85))).size hb
            have HMV := Aside0.mk (HM0.out.below hB1)
            have z0 := pw_cell_below hB1 y0
            have z1 := pw_cell_below hB1 y1
            have hfz := blk_frozen (blk_below HCUR.out hB1) (m * 2)
            have hfz1 := blk_frozen (blk_below HCUR.out hB1) (m * 2 + 1)
            clear hb hB1 hcb hcs y0 y1 HM0
            have HCC := Aside0.mk (show ∀ (j : Nat) (u : Value), ([.string bs, .int .i64 b.2] : List Value)[j]? = some u → V.cell? ⟨bk, (m : Int).toNat * kP.sz + j, none⟩ = some u from fun j u hj => by
              match j, hj with
              | 0, hj => obtain rfl := Option.some.inj hj; exact z0
              | 1, hj => obtain rfl := Option.some.inj hj; exact z1)
            clear z0 z1
            go_wp2_with ((with_reducible refine gate_store (t := 85) (p := 81) (v := .tmp 80) rfl ?_); refine Kd.R_store kP (w0 := w) w.heap.size rfl rfl 85 (.tmp 81) (.tmp 80) rfl 85 (g := bk) (n := m + 1) (cap := c4) (o' := m * 2) (m : Int) 0 (memS (b :: r)) (lb' ++ (⟨#[63]⟩ : ByteArray), 3) (.agg #[.string (lb' ++ (⟨#[63]⟩ : ByteArray)), .int .i64 3]) [.string (lb' ++ (⟨#[63]⟩ : ByteArray)), .int .i64 3] [.string bs, .int .i64 b.2] (fun k => w.heap.size ≤ k ∧ k ≠ w.heap.size) (fun _ => False) (by first | rfl | (simp; done)) rfl rfl rfl (by kernel_rfl) (by intro q hq; simp at hq; rcases hq with rfl | rfl <;> rfl) HMV.out.own p0 (by omega) rfl HCC.out (Nat.le_refl 2) (kP_mkM _ _ _ _) (fun _ hk => hk.elim) HMV.out.B ?_; intro w3 ho hb hg; have HM2 := Aside0.mk (show PaM w w3 w.heap.size (.slice (some ⟨bk, 0, none⟩) (m + 1) c4) ((leastL b 3 ++ markL 7, 3) :: r) from ⟨hb, by rw [← HSET.out, ← HTX.out]; exact ho, blk_grown HMV.out.b3 hg (fun he => (HMV.out.own.1 w.heap.size he.symm).2 rfl), HMV.out.h3⟩); clear ho hb hg)
            go_wp2
            go_roundg k1
            case rel => exact ⟨i + 1, _, by go_num, by omega, by omega, HS2, HM2⟩
            case measure => omega
      · obtain rfl : i = l.length := by omega
        have hz : decide ((l.length : Int) < (l.length : Int)) = false := decide_eq_false (by omega)
        have hs := HS.out
        rw [List.take_length] at hs
        have hwt := pushes_wt _ _ _ hs
        have hml := memS_length st
        obtain ⟨A4, c4, hu⟩ := Kd.R_slice HM.out.own
        rw [hml] at hu
        subst hu
        have HE := Aside0.mk (pathL_end (by omega) hs)
        have HB := Aside0.mk HM.out.B
        clear HS hml hs
        cases st with
        | nil =>
          clear HM hwt
          go_wp2
          go_ret
          exact ⟨by rw [HE.out]; rfl, HB.out⟩
        | cons b r =>
          cases r with
          | cons b2 r =>
            have g1 : (((b :: b2 :: r).length : Int) == 1) = false := beq_eq_false_iff_ne.2 (by simp; omega)
            have g2 : (((b :: b2 :: r).length : Int) != 1) = true := bne_iff_ne.2 (by simp; omega)
            obtain ⟨k2, hk2⟩ : ∃ k2, (b :: b2 :: r).length = k2 := ⟨_, rfl⟩
            rw [hk2] at g1 g2 ⊢
            clear HM hwt hk2
            go_wp2
            go_ret
            exact ⟨by rw [HE.out]; rfl, HB.out⟩
          | nil =>
            have hC4 := (Kd.R_reads' HM.out.own).2.2
            obtain ⟨bk, o, rfl, y0, y1⟩ := at_P hC4 0 (baL b.1, b.2) rfl
            have hwb : b.1.length ≤ 5000 := by simp only [wt] at hwt; omega
            obtain ⟨kd, hkd⟩ := deep_S b.1 (by omega)
            have HD := Aside0.mk (fun V (h : LaidW V) => parse_Deep.calls kd (baL b.1) ((deepS b.1 : Nat) : Int) V h hkd)
            obtain ⟨bs, hbs⟩ : ∃ bs, baL b.1 = bs := ⟨_, rfl⟩
            have HBS := Aside0.mk hbs
            simp only [hbs] at y0
            rw [hbs] at HD
            obtain ⟨dp, hdp⟩ : ∃ d, deepS b.1 = d := ⟨_, rfl⟩
            have HE2 := Aside0.mk (show pathL l = if 32 < dp then [] else b.1 from by rw [HE.out, ← hdp]; rfl)
            rw [hdp] at HD
            rw [Nat.zero_mul, Nat.add_zero] at y0
            clear hC4 hwt hkd hbs hdp HE HM y1 hwb
            go_wp2_with fail
            refine (HD.out _ (HLW.out.below HB.out)).mono ?_
            rintro e V ⟨rfl, hb⟩
            have HB1 := Aside0.mk (below_then HB.out HB.out.size hb)
            have z0 := pw_cell_below hb y0
            clear hb y0
            by_cases h32 : 32 < dp
            · have g1 : decide ((32 : Int) < (dp : Int)) = true := decide_eq_true (by omega)
              have g2 : decide (32 < dp) = true := decide_eq_true h32
              go_wp2
              go_ret
              exact ⟨by rw [HE2.out, if_pos h32]; rfl, HB1.out⟩
            · have g1 : decide ((32 : Int) < (dp : Int)) = false := decide_eq_false (by omega)
              have g2 : decide (32 < dp) = false := decide_eq_false h32
              go_wp2
              go_ret
              exact ⟨by rw [HE2.out, if_neg h32, HBS.out]; rfl, HB1.out⟩
end Go.Proofs.YthebhbomlllpeaaGreatDoor.X
namespace Go.Proofs.YthebhbomlllpeaaGreatDoor.X
set_option linter.unusedVariables false
set_option linter.unusedSimpArgs false
open Go.RowKit Go.Proofs.YthebhbomlllpeaaGreatDoorW.PrintWords Go.Proofs.YthebhbomlllpeaaGreatDoorW.PrintLast Go.Proofs.YthebhbomlllpeaaGreatDoorW.PrintMore
def numDig (c : Int) : Int := if 97 ≤ c then c - 97 + 10 else (c - 48) % 256
def numStep (b n c : Int) : Int := IntKind.u64.wrap (IntKind.u64.wrap (n * b) + numDig c)
def numFrom (s : ByteArray) (b : Int) : Nat → Nat → Int → Int
  | 0, _, n => n
  | d + 1, pos, n => if pos < s.size then numFrom s b d (pos + (Utf8.decode s pos).2) (numStep b n (bt s (pos : Int))) else n
def antecedentref02_number.f (a0 : ByteArray) (a1 : Int) : Option Int := some (numFrom a0 a1 a0.size 0 0)
end Go.Proofs.YthebhbomlllpeaaGreatDoor.X
namespace Go.Proofs.YthebhbomlllpeaaGreatDoor.X
open Go.RowKit Go.Proofs.YthebhbomlllpeaaGreatDoorW.PrintWords Go.Proofs.YthebhbomlllpeaaGreatDoorW.PrintLast Go.Proofs.YthebhbomlllpeaaGreatDoorW.PrintMore
attribute [local go_sem] max2_int min2_int max_two min_two max_three min_three max_four min_four
set_option linter.unusedVariables false
set_option linter.unusedSimpArgs false
def antecedentref02_Read.j0 : Nat → ByteArray → Bool → Int → Int → ByteArray → Option (Int × Int × ByteArray × Int)
  | 0, _, _, _, _, _ => none
  | k + 1, x0, x34, x192000, x192001, x192002 => if x34 = true then ((antecedentref02_number.f x0 10).bind fun t196 => ((antecedentref02_Text.f k 1 (wrap64 (t196)) (⟨#[]⟩ : ByteArray)).bind fun t197 => (if t197.toList = x0.toList then (some (1, wrap64 (t196), (⟨#[]⟩ : ByteArray), 0)) else (some (0, 0, (⟨#[]⟩ : ByteArray), 2))))) else ((antecedentref02_Text.f k x192000 x192001 x192002).bind fun t198 => (if t198.toList = x0.toList then (some (x192000, x192001, x192002, 0)) else (some (0, 0, (⟨#[]⟩ : ByteArray), 2))))
def antecedentref02_Read.f (k : Nat) (a0 : ByteArray) : Option (Int × Int × ByteArray × Int) := if a0.toList = ([] : List UInt8) then (some (0, 0, (⟨#[]⟩ : ByteArray), 2)) else (if 0 < (a0.size : Int) then (if (bt a0 0) = 35 then (if 1 ≤ (a0.size : Int) then ((antecedentref02_number.f (a0.extract 1 a0.size) 16).bind fun t192 => ((antecedentref02_Text.f k 2 (wrap64 (t192)) (⟨#[]⟩ : ByteArray)).bind fun t193 => (if t193.toList = a0.toList then (some (2, wrap64 (t192), (⟨#[]⟩ : ByteArray), 0)) else (some (0, 0, (⟨#[]⟩ : ByteArray), 2))))) else (none)) else (if (bt a0 0) = 45 then (if 1 ≤ (a0.size : Int) then ((antecedentref02_number.f (a0.extract 1 a0.size) 10).bind fun t194 => ((antecedentref02_Text.f k 1 (wrap64 (IntKind.u64.wrap (-t194))) (⟨#[]⟩ : ByteArray)).bind fun t195 => (if t195.toList = a0.toList then (some (1, wrap64 (IntKind.u64.wrap (-t194)), (⟨#[]⟩ : ByteArray), 0)) else (some (0, 0, (⟨#[]⟩ : ByteArray), 2))))) else (none)) else (if (bt a0 0) ≥ 48 then (antecedentref02_Read.j0 k a0 (decide ((bt a0 0) ≤ 57)) 3 0 a0) else (antecedentref02_Read.j0 k a0 false 3 0 a0)))) else (none))
end Go.Proofs.YthebhbomlllpeaaGreatDoor.X
namespace Go.Proofs.YthebhbomlllpeaaGreatDoor.X
open Go.RowKit Go.Proofs.YthebhbomlllpeaaGreatDoorW.PrintWords Go.Proofs.YthebhbomlllpeaaGreatDoorW.PrintLast Go.Proofs.YthebhbomlllpeaaGreatDoorW.PrintMore
attribute [local go_sem] max2_int min2_int max_two min_two max_three min_three max_four min_four
set_option linter.unusedVariables false
set_option linter.unusedSimpArgs false
def antecedentref07_run.l0 : Nat → ByteArray → Int → Bool → Int → Option (Int)
  | 0, _, _, _, _ => none
  | k + 1, x0, x1, x2, x7 => if (wrap64 (x1 + x7)) < (x0.size : Int) then (if 0 ≤ (wrap64 (x1 + x7)) then ((antecedentref07_sign.f (bt x0 (wrap64 (x1 + x7)))).bind fun t189 => (if t189 = true then (if x2 = true then (if (bt x0 (wrap64 (x1 + x7))) ≥ 65 then (if ((bt x0 (wrap64 (x1 + x7))) ≤ 90) then (some x7) else (antecedentref07_run.l0 k x0 x1 x2 (wrap64 (x7 + 1)))) else (antecedentref07_run.l0 k x0 x1 x2 (wrap64 (x7 + 1)))) else (antecedentref07_run.l0 k x0 x1 x2 (wrap64 (x7 + 1)))) else (some x7))) else (none)) else (some x7)
def antecedentref07_run.f (k : Nat) (a0 : ByteArray) (a1 : Int) (a2 : Bool) : Option (Int) := antecedentref07_run.l0 k a0 a1 a2 0
mutual
def antecedentref07_mark.j0 : Nat → ByteArray → Int → ByteArray → Option (Int)
  | 0, _, _, _ => none
  | k + 1, x0, x1, x5 => if x5.toList = ([60, 61] : List UInt8) then (antecedentref07_mark.j1 k x0 x1 true) else (if x5.toList = ([33, 61] : List UInt8) then (antecedentref07_mark.j1 k x0 x1 true) else (if x5.toList = ([58, 45] : List UInt8) then (antecedentref07_mark.j1 k x0 x1 true) else (antecedentref07_mark.j1 k x0 x1 (x5.toList == ([63, 45] : List UInt8)))))
def antecedentref07_mark.j1 : Nat → ByteArray → Int → Bool → Option (Int)
  | 0, _, _, _ => none
  | k + 1, x0, x1, x30 => if x30 = true then (some 2) else (if 0 ≤ x1 then (if x1 < (x0.size : Int) then (if (bt x0 x1) = 40 then (some 1) else (if (bt x0 x1) = 41 then (some 1) else (if (bt x0 x1) = 44 then (some 1) else (if (bt x0 x1) = 46 then (some 1) else (if (bt x0 x1) = 60 then (some 1) else (if (bt x0 x1) = 61 then (some 1) else (if (bt x0 x1) = 47 then (some 1) else (if (bt x0 x1) = 124 then (some 1) else (if (bt x0 x1) = 42 then (some 1) else (if (bt x0 x1) = 43 then (some 1) else (if (bt x0 x1) = 63 then (some 1) else (if (bt x0 x1) = 94 then (some 1) else (some 0))))))))))))) else (none)) else (none))
end
def antecedentref07_mark.f (k : Nat) (a0 : ByteArray) (a1 : Int) : Option (Int) := if (wrap64 (a1 + 2)) ≤ (a0.size : Int) then (if 0 ≤ a1 then (if a1 ≤ (wrap64 (a1 + 2)) then (antecedentref07_mark.j0 k a0 a1 (a0.extract (a1 : Int).toNat ((wrap64 (a1 + 2)) : Int).toNat)) else (none)) else (none)) else (antecedentref07_mark.j0 k a0 a1 (⟨#[]⟩ : ByteArray))
/-- A state of type 95 at block g of W; what its slices lead to came in by w0. -/
def IsS95 (w0 W : World) (g : Nat) (f0 : List (S53)) (f1 : Int) (f2 : Int) (f3 : Int) (f4 : Int) : Prop := ∃ A0 c0, W.heap[g]? = some (.cells #[.slice A0 f0.length c0, .int .i64 f1, .int .i64 f2, .int .i64 f3, .int .i64 f4] 95 (0, 0)) ∧ w0.heap.size ≤ g ∧ Kd.C k53 w0 A0 f0.length f0
theorem IsS95.grown {w0 W : World} {g : Nat} {f0 : List (S53)} {f1 : Int} {f2 : Int} {f3 : Int} {f4 : Int} {W1 : World} {row : Option Nat} (h : IsS95 w0 W g f0 f1 f2 f3 f4) (hw : W.grownBy W1 row) (hne : some g ≠ row) : IsS95 w0 W1 g f0 f1 f2 f3 f4 := by
  obtain ⟨A0, c0, hb, hg, hr0⟩ := h
  exact ⟨A0, c0, blk_grown hb hw hne, hg, hr0⟩
theorem IsS95.kept {w0 W : World} {g : Nat} {f0 : List (S53)} {f1 : Int} {f2 : Int} {f3 : Int} {f4 : Int} {W1 : World} {S : Nat → Prop} (h : IsS95 w0 W g f0 f1 f2 f3 f4) (hk : Kept W W1 S) (hne : ¬ S g) : IsS95 w0 W1 g f0 f1 f2 f3 f4 := by
  obtain ⟨A0, c0, hb, hg, hr0⟩ := h
  exact ⟨A0, c0, blk_kept hb hk hne, hg, hr0⟩
theorem IsS95.below {w0 W : World} {g : Nat} {f0 : List (S53)} {f1 : Int} {f2 : Int} {f3 : Int} {f4 : Int} {W1 : World} (h : IsS95 w0 W g f0 f1 f2 f3 f4) (hw : Below W.heap.size W W1) : IsS95 w0 W1 g f0 f1 f2 f3 f4 := h.grown (grown_of_below hw none) (by simp)
theorem IsS95.alloc {w0 W : World} {g : Nat} {f0 : List (S53)} {f1 : Int} {f2 : Int} {f3 : Int} {f4 : Int} (h : IsS95 w0 W g f0 f1 f2 f3 f4) (o : Obj) : IsS95 w0 (W.alloc o) g f0 f1 f2 f3 f4 := h.below (below_alloc (Below.refl _ _) o)
theorem IsS95.drewN {w0 W : World} {g : Nat} {f0 : List (S53)} {f1 : Int} {f2 : Int} {f3 : Int} {f4 : Int} (h : IsS95 w0 W g f0 f1 f2 f3 f4) (m : Nat) : IsS95 w0 (W.drewN m) g f0 f1 f2 f3 f4 := h
theorem IsS95.drew {w0 W : World} {g : Nat} {f0 : List (S53)} {f1 : Int} {f2 : Int} {f3 : Int} {f4 : Int} (h : IsS95 w0 W g f0 f1 f2 f3 f4) : IsS95 w0 W.drew g f0 f1 f2 f3 f4 := h
theorem IsS95.at_ {w0 W : World} {g : Nat} {f0 : List (S53)} {f1 : Int} {f2 : Int} {f3 : Int} {f4 : Int} {w' : World} {m : Nat} (hq : W.drewN m = w') (h : IsS95 w0 W g f0 f1 f2 f3 f4) : IsS95 w0 w' g f0 f1 f2 f3 f4 := by subst hq; exact IsS95.drewN h m
theorem IsS95.apart {w0 W : World} {g : Nat} {f0 : List (S53)} {f1 : Int} {f2 : Int} {f3 : Int} {f4 : Int} {α : Type} {d : Kd α} {e : Nat} {base : Nat} {ok : Nat → Prop} {v : Value} {xs : List α} (h : IsS95 w0 W g f0 f1 f2 f3 f4) (ho : d.R e W base ok v xs) (ht : ∀ q, q ∈ e :: d.E → q ≠ 95) : d.R e W base (fun k => ok k ∧ k ≠ g) v xs := by
  obtain ⟨A0, c0, hb, hg, hr0⟩ := h
  exact Kd.R_types ho hb ht
theorem IsS95.own_ne {w0 W : World} {g : Nat} {f0 : List (S53)} {f1 : Int} {f2 : Int} {f3 : Int} {f4 : Int} {α : Type} {d : Kd α} {e : Nat} {base : Nat} {ok : Nat → Prop} {v : Value} {xs : List α} (h : IsS95 w0 W g f0 f1 f2 f3 f4) (ho : d.R e W base ok v xs) (ht : e ≠ 95) : some g ≠ v.ownBlock := by
  obtain ⟨A0, c0, hb, hg, hr0⟩ := h
  exact Kd.R_ne ho hb ht
theorem IsS95.lt {w0 W : World} {g : Nat} {f0 : List (S53)} {f1 : Int} {f2 : Int} {f3 : Int} {f4 : Int} (h : IsS95 w0 W g f0 f1 f2 f3 f4) : g < W.heap.size := by
  obtain ⟨A0, c0, hb, hg, hr0⟩ := h
  exact blk_lt hb
theorem IsS95.ge {w0 W : World} {g : Nat} {f0 : List (S53)} {f1 : Int} {f2 : Int} {f3 : Int} {f4 : Int} (h : IsS95 w0 W g f0 f1 f2 f3 f4) : w0.heap.size ≤ g := by
  obtain ⟨A0, c0, hb, hg, hr0⟩ := h
  exact hg
theorem IsS95.far {w0 W : World} {g : Nat} {f0 : List (S53)} {f1 : Int} {f2 : Int} {f3 : Int} {f4 : Int} {p : Addr} (h : IsS95 w0 W g f0 f1 f2 f3 f4) (hne : g ≠ p.block) (u : Value) : IsS95 w0 (W.setCell p u) g f0 f1 f2 f3 f4 := by
  obtain ⟨A0, c0, hb, hg, hr0⟩ := h
  exact ⟨A0, c0, blk_far hb hne u, hg, hr0⟩
end Go.Proofs.YthebhbomlllpeaaGreatDoor.X
namespace Go.Proofs.YthebhbomlllpeaaGreatDoor.X
open Go.RowKit Go.Proofs.YthebhbomlllpeaaGreatDoorW.PrintWords Go.Proofs.YthebhbomlllpeaaGreatDoorW.PrintLast Go.Proofs.YthebhbomlllpeaaGreatDoorW.PrintMore
attribute [local go_sem] max2_int min2_int max_two min_two max_three min_three max_four min_four
set_option linter.unusedVariables false
set_option linter.unusedSimpArgs false
mutual
def antecedentref07_next.j0 : Nat → ByteArray → Int → Int → Bool → Option (Int × ByteArray × Int × Bool)
  | 0, _, _, _, _ => none
  | k + 1, x0, x1, x6, x21 => if x21 = true then ((antecedentref07_run.f k x0 x1 true).bind fun t200 => (if 0 ≤ x1 then (if x1 ≤ (wrap64 (x1 + t200)) then (if (wrap64 (x1 + t200)) ≤ (x0.size : Int) then ((antecedentref02_Name.f (x0.extract (x1 : Int).toNat ((wrap64 (x1 + t200)) : Int).toNat)).bind fun t201 => (some (1, x0.extract (x1 : Int).toNat ((wrap64 (x1 + t200)) : Int).toNat, x1, t201))) else (none)) else (none)) else (none))) else (if x6 ≥ 65 then (antecedentref07_next.j1 k x0 x1 x6 (decide (x6 ≤ 90))) else (antecedentref07_next.j1 k x0 x1 x6 false))
def antecedentref07_next.j1 : Nat → ByteArray → Int → Int → Bool → Option (Int × ByteArray × Int × Bool)
  | 0, _, _, _, _ => none
  | k + 1, x0, x1, x6, x40 => if x40 = true then ((antecedentref07_run.f k x0 x1 false).bind fun t202 => (if 0 ≤ x1 then (if x1 ≤ (wrap64 (x1 + t202)) then (if (wrap64 (x1 + t202)) ≤ (x0.size : Int) then ((antecedentref07_Variable.f k (x0.extract (x1 : Int).toNat ((wrap64 (x1 + t202)) : Int).toNat)).bind fun t203 => (some (2, x0.extract (x1 : Int).toNat ((wrap64 (x1 + t202)) : Int).toNat, x1, t203))) else (none)) else (none)) else (none))) else (if x6 = 35 then (antecedentref07_next.j2 k x0 x1 true) else (if x6 ≥ 48 then (if x6 ≤ 57 then (antecedentref07_next.j2 k x0 x1 true) else (if x6 = 45 then (if (wrap64 (x1 + 1)) < (x0.size : Int) then (if 0 ≤ (wrap64 (x1 + 1)) then (if (bt x0 (wrap64 (x1 + 1))) ≥ 48 then (antecedentref07_next.j2 k x0 x1 (decide ((bt x0 (wrap64 (x1 + 1))) ≤ 57))) else (antecedentref07_next.j2 k x0 x1 false)) else (none)) else (antecedentref07_next.j2 k x0 x1 false)) else (antecedentref07_next.j2 k x0 x1 false))) else (if x6 = 45 then (if (wrap64 (x1 + 1)) < (x0.size : Int) then (if 0 ≤ (wrap64 (x1 + 1)) then (if (bt x0 (wrap64 (x1 + 1))) ≥ 48 then (antecedentref07_next.j2 k x0 x1 (decide ((bt x0 (wrap64 (x1 + 1))) ≤ 57))) else (antecedentref07_next.j2 k x0 x1 false)) else (none)) else (antecedentref07_next.j2 k x0 x1 false)) else (antecedentref07_next.j2 k x0 x1 false))))
def antecedentref07_next.j2 : Nat → ByteArray → Int → Bool → Option (Int × ByteArray × Int × Bool)
  | 0, _, _, _ => none
  | k + 1, x0, x1, x88 => if x88 = true then ((antecedentref07_run.f k x0 (wrap64 (x1 + 1)) false).bind fun t204 => (if 0 ≤ x1 then (if x1 ≤ (wrap64 ((wrap64 (x1 + 1)) + t204)) then (if (wrap64 ((wrap64 (x1 + 1)) + t204)) ≤ (x0.size : Int) then ((antecedentref02_Read.f k (x0.extract (x1 : Int).toNat ((wrap64 ((wrap64 (x1 + 1)) + t204)) : Int).toNat)).bind fun bt205 => (some (3, x0.extract (x1 : Int).toNat ((wrap64 ((wrap64 (x1 + 1)) + t204)) : Int).toNat, x1, (bt205.2.2.2 == 0)))) else (none)) else (none)) else (none))) else ((antecedentref07_mark.f k x0 x1).bind fun t210 => (if 0 ≤ x1 then (if x1 ≤ (wrap64 (x1 + t210)) then (if (wrap64 (x1 + t210)) ≤ (x0.size : Int) then (some (4, x0.extract (x1 : Int).toNat ((wrap64 (x1 + t210)) : Int).toNat, x1, decide (t210 > 0))) else (none)) else (none)) else (none)))
end
def antecedentref07_next.f (k : Nat) (a0 : ByteArray) (a1 : Int) : Option (Int × ByteArray × Int × Bool) := if 0 ≤ a1 then (if a1 < (a0.size : Int) then (if (bt a0 a1) ≥ 97 then (antecedentref07_next.j0 k a0 a1 (bt a0 a1) (decide ((bt a0 a1) ≤ 122))) else (antecedentref07_next.j0 k a0 a1 (bt a0 a1) false)) else (none)) else (none)
end Go.Proofs.YthebhbomlllpeaaGreatDoor.X
namespace Go.Proofs.YthebhbomlllpeaaGreatDoor.X
open Go.RowKit Go.Proofs.YthebhbomlllpeaaGreatDoorW.PrintWords Go.Proofs.YthebhbomlllpeaaGreatDoorW.PrintLast Go.Proofs.YthebhbomlllpeaaGreatDoorW.PrintMore
private theorem max2_mx_p415 (k k' : IntKind) (x y : Int) : Builtin.max2 (.int k x) (.int k' y) = pure (.int k (mx x y)) := by rw [max2_int]; rfl
private theorem min2_mn_p415 (k k' : IntKind) (x y : Int) : Builtin.min2 (.int k x) (.int k' y) = pure (.int k (mn x y)) := by rw [min2_int]; rfl
attribute [local go_sem] max2_mx_p415 min2_mn_p415 max_two min_two max_three min_three max_four min_four
set_option linter.unusedVariables false
set_option linter.unusedSimpArgs false
mutual
def antecedentref07_Tokens.l0 : Nat → ByteArray → List (S53) → Int → Option ((List (S53)) × Int × Int)
  | 0, _, _, _ => none
  | k + 1, x0, x5, x6 => if x6 < (x0.size : Int) then (if 0 ≤ x6 then (if (bt x0 x6) = 32 then (antecedentref07_Tokens.j1 k x0 x5 x6 true) else (if (bt x0 x6) = 9 then (antecedentref07_Tokens.j1 k x0 x5 x6 true) else (antecedentref07_Tokens.j1 k x0 x5 x6 ((bt x0 x6) == 10)))) else (none)) else (some (x5, 0, 0))
def antecedentref07_Tokens.j1 : Nat → ByteArray → List (S53) → Int → Bool → Option ((List (S53)) × Int × Int)
  | 0, _, _, _, _ => none
  | k + 1, x0, x5, x6, x31 => if x31 = true then (antecedentref07_Tokens.l0 k x0 x5 (wrap64 (x6 + 1))) else ((antecedentref07_next.f k x0 x6).bind fun bt211 => (if bt211.2.2.2 = true then (if x5.length < 4398046511104 then (antecedentref07_Tokens.l0 k x0 (x5 ++ [(⟨bt211.1, bt211.2.1, bt211.2.2.1⟩ : S53)]) (wrap64 (x6 + (bt211.2.1.size : Int)))) else (none)) else (some (([] : List (S53)), x6, 2))))
end
def antecedentref08_Deep.l0 : Nat → List (S53) → Int → Int → Int → Int → Option (Int)
  | 0, _, _, _, _, _ => none
  | k + 1, x3, x6, x7, x16, x17 => if x17 < x16 then (if 0 ≤ x17 then (if x17 < (x3.length : Int) then (if ((rd_T53 x3 x17).f1).toList = ([40] : List UInt8) then (if ((rd_T53 x3 x17).f1).toList = ([41] : List UInt8) then (antecedentref08_Deep.l0 k x3 (mx 0 (wrap64 ((wrap64 (x6 + 1)) - 1))) (mx x7 (mx 0 (wrap64 ((wrap64 (x6 + 1)) - 1)))) x16 (wrap64 (x17 + 1))) else (antecedentref08_Deep.l0 k x3 (wrap64 (x6 + 1)) (mx x7 (wrap64 (x6 + 1))) x16 (wrap64 (x17 + 1)))) else (if ((rd_T53 x3 x17).f1).toList = ([41] : List UInt8) then (antecedentref08_Deep.l0 k x3 (mx 0 (wrap64 (x6 - 1))) (mx x7 (mx 0 (wrap64 (x6 - 1)))) x16 (wrap64 (x17 + 1))) else (antecedentref08_Deep.l0 k x3 x6 (mx x7 x6) x16 (wrap64 (x17 + 1))))) else (none)) else (none)) else (some x7)
end Go.Proofs.YthebhbomlllpeaaGreatDoor.X
namespace Go.Proofs.YthebhbomlllpeaaGreatDoor.X
set_option linter.unusedVariables false
set_option linter.unusedSimpArgs false
open Go.RowKit Go.Proofs.YthebhbomlllpeaaGreatDoorW.PrintWords Go.Proofs.YthebhbomlllpeaaGreatDoorW.PrintLast Go.Proofs.YthebhbomlllpeaaGreatDoorW.PrintMore
/-- a step that may stand: its label, its kind. -/
def stepB (x : StS) : Bool := decide (1 ≤ x.f0 ∧ x.f0 ≤ 7) && (if x.f0 ≤ 2 then predN x.f1 else x.f1.data.toList == ([] : List UInt8))
theorem predN_ne {s : ByteArray} (h : predN s = true) : s.data.toList ≠ [] := fun e => by
  unfold predN nmL at h
  rw [e] at h
  revert h
  decide
theorem labelL_ne {x : StS} (h1 : 1 ≤ x.f0) (h2 : x.f0 ≤ 2) : labelL x = [] ↔ predN x.f1 = false := by
  unfold labelL
  cases hp : predN x.f1 with
  | false => simp
  | true =>
    have := predN_ne hp
    simp only [if_true]
    by_cases h : x.f0 = 2
    · rw [if_pos h]; simp
    · rw [if_neg h, if_pos (by omega)]
      simp [this]
theorem push1_no {st : List Pc} {x : StS} (h : stepB x = false) : push1 st x = none := by
  unfold push1
  by_cases h1 : x.f0 < 1 ∨ 7 < x.f0
  · rw [if_pos h1]
  · rw [if_neg h1]
    unfold stepB at h
    rw [decide_eq_true (by omega), Bool.true_and] at h
    by_cases h2 : x.f0 ≤ 2
    · rw [if_pos h2] at h ⊢
      rw [if_pos ((labelL_ne (by omega) h2).2 h)]
    · rw [if_neg h2] at h ⊢
      rw [if_pos (beq_eq_false_iff_ne.1 h)]
end Go.Proofs.YthebhbomlllpeaaGreatDoor.X
