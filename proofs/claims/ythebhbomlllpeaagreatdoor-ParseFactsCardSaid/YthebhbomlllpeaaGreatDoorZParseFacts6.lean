/-
  ParseFacts: what the proof needs, put together by a program of this session (shake.py), part 6.
-/
import Derived.Test.YthebhbomlllpeaaGreatDoorCards
import Derived.Test.YthebhbomlllpeaaGreatDoorTie
import Derived.Test.YthebhbomlllpeaaGreatDoorProg
import Derived.Below
import Derived.Deep.Draws
import Derived.Deep.AppendLies
import Derived.Maps.AppendAt
import Derived.OwnWalk
import Derived.Laws.BytesArg
import Derived.Laws.MakeOwn
import Derived.Laws.OwnMore
import Derived.Deep.OwnRows
import Derived.Tactics
import Derived.Lib.ConvBytes
import Derived.Laws.Slices
import Derived.WalkKit
import Derived.KernelRfl
import Derived.RowKit3
import Derived.Deep.LoopGhost
import Derived.Deep.QuietTactic
import Derived.BigQuiet
import Derived.WideLaws
import Derived.Deep.DeepCutAuto
import Derived.Deep.CutBlock
import Derived.Deep.RegionHeld3
import Derived.Laws.Rows
import Derived.Lib.AppendStr
import Derived.ArgAppend
import Derived.Laws.IdiomCopy
import Derived.OrdersHeld
import Derived.Laws.BitsLemmas
import Derived.RowKit
import Derived.Lib.SmallJoins
import Derived.Lib.ItoaMem
import Derived.Laws.StructEq
import Derived.Test.YthebhbomlllpeaaGreatDoorRows
import Derived.Deep.Slices
import Derived.Deep.Fields
import Derived.ChangeSame
import Derived.ProofKit
import Derived.OpenShut
import Derived.Deep.DeepHandedRow
import Derived.Lib.LaidTab
import Derived.LaidMore
import Derived.Stop.LaidErr
import Derived.MakeChecks
import Init
import Derived.Laws.NewBlocks
import Derived.Shelf.Strings.Builder1
import Derived.Shelf.Strings.Builder2
import Derived.Shelf.Strings.OnBuilder
import Derived.Shelf.Small.Strs
import Derived.Shelf.Small.Wraps
import Derived.Shelf.Strings.BuilderF
import Derived.Shelf.Strings.BuilderK
import Derived.Shelf.Strings.Builder2Cap
import Derived.Shelf.Strconv.Itoa0
import Derived.Shelf.Strconv.Itoa1
import Derived.Shelf.LaysM
import Derived.Shelf.Strconv.Itoa2
import Derived.Shelf.Strconv.Itoa3
import Derived.Shelf.Strconv.Itoa4
import Derived.Shelf.Strconv.ParseIntEmpty
import Derived.Shelf.Strconv.Clone
import Derived.Shelf.Strconv.SyntaxError
import Derived.Shelf.LaysC
import Derived.Shelf.Strconv.ToError
import Derived.Shelf.Strconv.Lower
import Derived.Shelf.Strconv.ParseUint10
import Derived.Shelf.Strconv.ParseUint10Empty
import Derived.Shelf.Strconv.ParseUint10Any
import Derived.Shelf.Strconv.ParseInt10
import Derived.Shelf.Strconv.RangeError
import Derived.Shelf.Strconv.ToErrorRange
import Derived.Shelf.Strconv.ParseUintEmpty
import Derived.Shelf.Strconv.ParseUint10b64
import Derived.Shelf.Strconv.ParseUint10b32
import Derived.Shelf.Strconv.ParseUint10b16
import Derived.Shelf.Strconv.ParseUint10b8
import Derived.Shelf.Strconv.ParseUint10At
import Derived.Shelf.Strconv.ParseInt10At64
import Derived.Shelf.Strconv.ParseInt10At32
import Derived.Shelf.Strconv.ParseInt10At16
import Derived.Shelf.Strconv.ParseInt10At8
import Derived.Shelf.Strconv.ParseInt10All
import Derived.Shelf.Strconv.ParseIntPublic10
import Derived.Shelf.Strconv.ErrVarParseInt
import Derived.Ground.MpProg
import Derived.Shelf.Pu.ParseUintPublic10
import Derived.Shelf.Pu.ErrVarParseUint
import Derived.Shelf.Strings.Search1
import Derived.Shelf.Strings.Prefix
import Derived.Shelf.Bits.Mul64
import Derived.Shelf.Strings.Repeat
import Derived.Shelf.Strings.BuilderCap
import Derived.Lib.AtoiAllMem
import Derived.Lib.ParseIntB
import Derived.Lib.Hide
import Derived.Laws.Strings3
import Derived.Laws.Closers25
import Derived.Laws.Closers25b
import Derived.BigCall
import Derived.BigGuard
import Derived.Laws.RangeAny
import Derived.Laws.RangeString
import Derived.Lib.ParseIntBTie
import Derived.WalkLawsBesides
import Derived.StillTailTactics
import Derived.LoopN
import Derived.WalkMore
import Derived.Deep.MidRow
import Derived.Recover
import Derived.Test.YthebhbomlllpeaaGreatDoorZParseFacts5
namespace Go.Proofs.YthebhbomlllpeaaGreatDoor.X
set_option linter.unusedVariables false
set_option linter.unusedSimpArgs false
/-- nothing behind what was read counts. -/
def Clo {α : Type} (p : Prs α) : Prop := ∀ l x r, p l = .ok (x, r) → ∃ u, l = u ++ r ∧ u ≠ [] ∧ ∀ r', p (u ++ r') = .ok (x, r')
theorem head_ne {α : Type} {u : List α} (hu : u ≠ []) (r r' : List α) : (u ++ r').head? = (u ++ r).head? := by
  cases u with
  | nil => exact absurd rfl hu
  | cons t u => rfl
theorem clo_want (s : List UInt8) : Clo (wantP s) := fun l x r h => by
  unfold wantP at h
  split at h
  · rename_i hm
    obtain ⟨t, l', rfl, ht⟩ := mk0_cons hm
    injection h with h; injection h with e1 e2
    refine ⟨[t], by rw [← e2]; rfl, by simp, fun r' => ?_⟩
    unfold wantP
    rw [if_pos (by exact ht)]
    rfl
  · cases h
theorem Clo.bind {α β : Type} {m : Nat} {p : Prs α} {f : α → Prs β} (hp : Loc m p) (hf : ∀ x, Clo (f x)) : Clo (fun l => bnd (p l) f) := fun l y r h => by
  obtain ⟨x, r1, h1, h2⟩ := bnd_ok h
  obtain ⟨u, e, hm, hu⟩ := hp l x r1 h1
  obtain ⟨v, e', hn, hv⟩ := hf x r1 y r h2
  refine ⟨u ++ v, by rw [e, e', List.append_assoc], by simp [hn], fun r' => ?_⟩
  simp only
  rw [List.append_assoc, bnd_of (hu (v ++ r') (by rw [e']; exact head_ne hn _ _))]
  exact hv r'
theorem Clo.pure {α β : Type} {p : Prs α} {g : α → β} (hp : Clo p) : Clo (fun l => bnd (p l) fun a r => .ok (g a, r)) := fun l y r h => by
  obtain ⟨x, r1, h1, h2⟩ := bnd_ok h
  injection h2 with h2; injection h2 with e1 e2
  subst e1; subst e2
  obtain ⟨u, e, hn, hu⟩ := hp l x r1 h1
  exact ⟨u, e, hn, fun r' => by simp only; rw [bnd_of (hu r')]⟩
/-- each token that is read is so. -/
def Cons {α : Type} (N : TK → Prop) (p : Prs α) : Prop := ∀ l x r, p l = .ok (x, r) → ∃ u, l = u ++ r ∧ ∀ t ∈ u, N t
theorem Cons.bind {α β : Type} {N : TK → Prop} {p : Prs α} {f : α → Prs β} (hp : Cons N p) (hf : ∀ x, Cons N (f x)) : Cons N (fun l => bnd (p l) f) := fun l y r h => by
  obtain ⟨x, r1, h1, h2⟩ := bnd_ok h
  obtain ⟨u, e, hu⟩ := hp l x r1 h1
  obtain ⟨v, e', hv⟩ := hf x r1 y r h2
  refine ⟨u ++ v, by rw [e, e', List.append_assoc], fun t ht => ?_⟩
  rcases List.mem_append.1 ht with h | h
  · exact hu t h
  · exact hv t h
theorem Cons.pure {α : Type} {N : TK → Prop} (x : α) : Cons N (fun l => .ok (x, l)) := fun l y r h => by
  injection h with h; injection h with e1 e2
  subst e2
  exact ⟨[], rfl, fun t h => by cases h⟩
/-- no question's mark. -/
def NoQ (t : TK) : Prop := isT t 4 [63, 45] = false
theorem noq_kind {t : TK} (h : t.1 ≠ 4) : NoQ t := by
  unfold NoQ isT
  rw [Bool.and_eq_false_iff]
  exact Or.inl (beq_eq_false_iff_ne.2 h)
theorem noq_text {t : TK} {s : List UInt8} (h : isT t 4 s = true) (hs : s ≠ [63, 45]) : NoQ t := by
  obtain ⟨h1, h2⟩ := isT_text h
  unfold NoQ isT
  rw [Bool.and_eq_false_iff]
  exact Or.inr (beq_eq_false_iff_ne.2 (by rw [h2]; exact hs))
theorem term_tok {l : List TK} {x : TmS} {r : List TK} (h : termP l = .ok (x, r)) : ∃ t, l = t :: r ∧ (t.1 = 1 ∨ t.1 = 2 ∨ t.1 = 3) := by
  cases l with
  | nil => cases h
  | cons t l =>
    simp only [termP] at h
    split at h
    · rename_i hp
      injection h with h; injection h with e1 e2
      subst e2
      exact ⟨t, rfl, Or.inr (Or.inl (beq_iff_eq.1 hp))⟩
    · split at h
      · rename_i hp
        injection h with h; injection h with e1 e2
        subst e2
        simp only [Bool.or_eq_true, beq_iff_eq] at hp
        exact ⟨t, rfl, by omega⟩
      · cases h
theorem Cons.skip {α : Type} {p q : Prs α} {s : List UInt8} (hs : s ≠ [63, 45]) (hp : Cons NoQ p) (hq : Cons NoQ q) : Cons NoQ (fun l => if mk0 l s then p (l.drop 1) else q l) := fun l x r h => by
  simp only at h
  split at h
  · rename_i hm
    obtain ⟨t, l', rfl, ht⟩ := mk0_cons hm
    obtain ⟨u, e, hu⟩ := hp _ _ _ h
    refine ⟨t :: u, by rw [List.cons_append, ← e]; rfl, fun v hv => ?_⟩
    rcases List.mem_cons.1 hv with rfl | hv
    · exact noq_text ht hs
    · exact hu v hv
  · exact hq l x r h
/-- what is read without a fold is read so with one. -/
theorem args_true : ∀ (n : Nat) (acc : List TmS) (l : List TK) (a : List TmS) (f : Int) (d : TK) (r : List TK), argsP false n acc l = .ok ((a, f), d :: r) → isT d 4 [41] = true → argsP true n acc l = .ok ((a, 0), d :: r) ∧ f = 0
  | 0, acc, l, a, f, d, r, h, hd => by cases h
  | n + 1, acc, l, a, f, d, r, h, hd => by
    simp only [argsP, Bool.false_and, Bool.false_eq_true, if_false, Bool.true_and] at h ⊢
    split at h
    · cases h
    · rename_i hn
      rw [if_neg hn]
      obtain ⟨x, r1, h1, h2⟩ := bnd_ok h
      clear h
      obtain ⟨t, rfl, ht⟩ := term_tok h1
      have hf : foldB (t :: r1) = false := by
        simp only [foldB]
        rw [Bool.and_eq_false_iff]
        refine Or.inr ?_
        cases hk : mk0 r1 [40] with
        | false => rfl
        | true =>
          exfalso
          obtain ⟨u, r2, rfl, hu⟩ := mk0_cons hk
          obtain ⟨_, e2⟩ := isT_text hu
          have : mk0 (u :: r2) [44] = false := by simp [mk0, isT, e2]
          rw [this, if_neg (by simp)] at h2
          injection h2 with h2; injection h2 with _ e3
          injection e3 with e3 _
          subst e3
          obtain ⟨_, e4⟩ := isT_text hd
          rw [e2] at e4
          exact absurd e4 (by decide)
      rw [hf, if_neg (by simp), bnd_of h1]
      split at h2
      · rename_i hm
        rw [if_pos hm]
        exact args_true n _ _ _ _ _ _ h2 hd
      · rename_i hm
        rw [if_neg hm]
        injection h2 with h2; injection h2 with e1 e2
        injection e1 with e1 e3
        subst e1; subst e2; subst e3
        exact ⟨rfl, rfl⟩
theorem atom_true {l : List TK} {a : AtS} {f : Int} {r : List TK} (h : atomP false l = .ok ((a, f), r)) : atomP true l = .ok ((a, 0), r) ∧ f = 0 := by
  unfold atomP at h ⊢
  obtain ⟨p, r1, h1, h⟩ := bnd_ok h
  rw [bnd_of h1]
  split at h
  · rename_i hm
    rw [if_pos hm]
    obtain ⟨y, r2, h2, h5⟩ := bnd_ok h
    obtain ⟨z, r3, h3, h6⟩ := bnd_ok h5
    clear h h5
    have hw := h3
    unfold wantP at h3
    split at h3
    · rename_i hm2
      obtain ⟨t, r4, rfl, ht⟩ := mk0_cons hm2
      obtain ⟨b, g⟩ := y
      obtain ⟨h4, e⟩ := args_true 9 [] _ b g t r4 h2 ht
      rw [bnd_of h4, bnd_of hw]
      injection h6 with h6; injection h6 with e1 e2
      injection e1 with e1 e3
      subst e1; subst e2
      exact ⟨rfl, by rw [← e3]; exact e⟩
    · cases h3
  · rename_i hm
    rw [if_neg hm]
    injection h with h; injection h with e1 e2
    injection e1 with e1 e3
    subst e1; subst e2
    exact ⟨rfl, e3.symm⟩
/-- what an atom reads, whatever stands behind it that is no (. -/
theorem atom_any {u : List TK} {a : AtS} {f : Int} {d : TK} (h : atomP false (u ++ [d]) = .ok ((a, f), [d])) (d' : TK) (hd' : isT d' 4 [40] = false) (r : List TK) : atomP false (u ++ d' :: r) = .ok ((a, f), d' :: r) := by
  unfold atomP at h ⊢
  obtain ⟨p, r1, h1, h⟩ := bnd_ok h
  obtain ⟨t, e1, rfl, ht⟩ := predicate_tok h1
  have hu : u ≠ [] := by
    rintro rfl
    injection e1 with _ e2
    subst e2
    simp only [mk0, Bool.false_eq_true, if_false] at h
    injection h with h; injection h with _ h
    cases h
  obtain ⟨t', v, rfl⟩ := List.exists_cons_of_ne_nil hu
  rw [List.cons_append] at e1
  injection e1 with e1 e2
  subst e1; subst e2
  have hp : predicateP (t' :: v ++ d' :: r) = .ok (t'.2, v ++ d' :: r) := by
    simp only [List.cons_append, predicateP]; rw [if_pos ht]
  rw [bnd_of hp]
  split at h
  · rename_i hm
    obtain ⟨y, r2, h2, h⟩ := bnd_ok h
    obtain ⟨_, r3, h3, h⟩ := bnd_ok h
    injection h with h; injection h with e1 e2
    subst e2
    cases v with
    | nil =>
      exfalso
      have h2 : argsP false 9 [] [] = .ok (y, r2) := h2
      simp [argsP, startsL, termP, bnd] at h2
    | cons t2 v =>
      have hm' : mk0 (t2 :: v ++ d' :: r) [40] = true := hm
      rw [hm', if_pos rfl]
      have h2' : argsP false 9 [] (v ++ [d]) = .ok (y, r2) := h2
      show bnd (argsP false 9 [] (v ++ d' :: r)) _ = _
      obtain ⟨c, e3, _, hc⟩ := loc_args false 9 [] _ _ _ h2'
      obtain ⟨c2, e4, hn4, hc2⟩ := clo_want [41] _ _ _ h3
      have e5 : v = c ++ c2 := (List.append_inj' (show v ++ [d] = (c ++ c2) ++ [d] by rw [e3, e4, List.append_assoc]) rfl).1
      subst e5
      rw [List.append_assoc, bnd_of (hc (c2 ++ d' :: r) (by rw [e4]; exact head_ne hn4 _ _)), bnd_of (hc2 (d' :: r)), e1]
  · rename_i hm
    injection h with h; injection h with e1 e2
    obtain rfl : v = [] := by
      cases v with
      | nil => rfl
      | cons t2 v => injection e2 with _ e2; simp at e2
    have hm' : ¬ mk0 ([] ++ d' :: r) [40] = true := by
      show ¬ isT d' 4 [40] = true
      rw [hd']; simp
    rw [if_neg hm', e1]
    rfl
theorem rulesP_succ (n : Nat) (acc : List RlS) (l : List TK) : rulesP (n + 1) acc l = if mk0 l [63, 45] then .ok (acc, l.drop 1) else if n == 0 && predL l then .error (l.length, 4) else bnd (ruleP l) fun x r => rulesP n (acc ++ [x]) r := rfl
theorem bodyP_succ (n : Nat) (acc : List LtS) (l : List TK) : bodyP (n + 1) acc l = if n == 0 && startsL l then .error (l.length, 4) else bnd (literalP l) fun x r => if mk0 r [44] then bodyP n (acc ++ [x]) (r.drop 1) else .ok (acc ++ [x], r) := rfl
/-- an atom's first two tokens. -/
theorem atom_two {u : List TK} {a : AtS} {f : Int} {d : TK} (h : atomP false (u ++ [d]) = .ok ((a, f), [d])) : ∃ t v, u = t :: v ∧ predB t = true ∧ (v = [] ∨ ∃ t2 w, v = t2 :: w ∧ isT t2 4 [40] = true) := by
  unfold atomP at h
  obtain ⟨p, r1, h1, h⟩ := bnd_ok h
  obtain ⟨t, e1, rfl, ht⟩ := predicate_tok h1
  cases u with
  | nil =>
    exfalso
    injection e1 with _ e2
    subst e2
    simp only [mk0, Bool.false_eq_true, if_false] at h
    injection h with h; injection h with _ h
    cases h
  | cons t' v =>
    rw [List.cons_append] at e1
    injection e1 with e1 e2
    subst e1; subst e2
    refine ⟨t', v, rfl, ht, ?_⟩
    cases v with
    | nil => exact Or.inl rfl
    | cons t2 w =>
      refine Or.inr ⟨t2, w, rfl, ?_⟩
      split at h
      · rename_i hm; exact hm
      · injection h with h; injection h with _ h
        injection h with _ h
        simp at h
theorem pred_literal {t : TK} (ht : predB t = true) {l : List TK} (hl : ∀ s, s = [60] ∨ s = [60, 61] ∨ s = [61] ∨ s = [33, 61] → mk0 l s = false) : literalP (t :: l) = holdsP 1 (t :: l) := by
  have ht' := ht
  unfold predB at ht'
  simp only [Bool.and_eq_true, beq_iff_eq, Bool.not_eq_true'] at ht'
  have hc : comparesL (t :: l) = false := by
    unfold comparesL mk1
    simp only [List.drop_succ_cons, List.drop_zero]
    rw [hl _ (Or.inl rfl), hl _ (Or.inr (Or.inl rfl)), hl _ (Or.inr (Or.inr (Or.inl rfl))), hl _ (Or.inr (Or.inr (Or.inr rfl)))]
    rfl
  have hk : (kindL (t :: l) == 2) = false := beq_eq_false_iff_ne.2 (by show t.1 ≠ 2; omega)
  have hkey : ∀ s, keyL s = true → isL (t :: l) 1 s = false := fun s hs => by
    show isT t 1 s = false
    unfold isT
    rw [Bool.and_eq_false_iff]
    refine Or.inr (beq_eq_false_iff_ne.2 ?_)
    rintro e
    rw [e, hs] at ht'
    exact absurd ht'.2 (by simp)
  unfold literalP
  rw [hc, Bool.and_false, hk, Bool.false_and, hkey _ (by decide), hkey _ (by decide)]
  simp only [Bool.false_eq_true, if_false]
  rw [if_pos (show predL (t :: l) = true from ht)]
theorem not_literal {n : TK} (hn : isT n 1 [110, 111, 116] = true) {t : TK} (ht : predB t = true) (l : List TK) : literalP (n :: t :: l) = holdsP 2 (t :: l) := by
  obtain ⟨h1, h2⟩ := isT_text hn
  have ht' := ht
  unfold predB at ht'
  simp only [Bool.and_eq_true, beq_iff_eq] at ht'
  have h4 : ∀ s, isT t 4 s = false := fun s => by
    unfold isT
    rw [Bool.and_eq_false_iff]
    exact Or.inl (beq_eq_false_iff_ne.2 (by omega))
  have hc : comparesL (n :: t :: l) = false := by
    unfold comparesL mk1
    simp only [List.drop_succ_cons, List.drop_zero, mk0, h4]
    rfl
  have hk : (kindL (n :: t :: l) == 2) = false := beq_eq_false_iff_ne.2 (by show n.1 ≠ 2; omega)
  unfold literalP
  rw [hc, Bool.and_false, hk, Bool.false_and]
  simp only [Bool.false_eq_true, if_false]
  rw [if_pos (show isL (n :: t :: l) 1 [110, 111, 116] = true from hn)]
  rfl
/-- AN ATOM AS A FACT, AS A QUESTION, AS A LITERAL, with not or without. -/
theorem program_facts {S : List TK} {q d x c k n : TK} {p : PgS} (hq : isT q 4 [63, 45] = true) (hd : isT d 4 [46] = true) (hx : predB x = true) (hc : isT c 4 [58, 45] = true) (hk : isT k 4 [44] = true) (hn : isT n 1 [110, 111, 116] = true)
    (h : programP (q :: S ++ [d]) = .ok (p, [])) : p.f0 = [] →
    programP (S ++ d :: x :: c :: S ++ k :: n :: S ++ [d, q, x, d]) = .ok (⟨[⟨p.f1, 0, []⟩, ⟨⟨x.2, []⟩, 0, [⟨1, p.f1, ⟨#[]⟩, noneT, noneT, noneT, []⟩, ⟨2, p.f1, ⟨#[]⟩, noneT, noneT, noneT, []⟩]⟩], ⟨x.2, []⟩⟩, []) := fun hp0 => by
  have hne : ∀ {t : TK} {s : List UInt8} (s' : List UInt8), isT t 4 s = true → s ≠ s' → isT t 4 s' = false := fun {t s} s' ht hs => by
    obtain ⟨_, e⟩ := isT_text ht
    unfold isT
    rw [Bool.and_eq_false_iff]
    exact Or.inr (beq_eq_false_iff_ne.2 (by rw [e]; exact hs))
  have hA : ∃ a f, atomP false (S ++ [d]) = .ok ((a, f), [d]) ∧ p.f1 = a := by
    unfold programP at h
    obtain ⟨rs, r, h1, h⟩ := bnd_ok h
    obtain ⟨y, r2, h2, h⟩ := bnd_ok h
    obtain ⟨_, r3, h3, h⟩ := bnd_ok h
    injection h with h; injection h with e1 e2
    subst e2
    have h1' : rulesP 201 [] (q :: S ++ [d]) = .ok ([], S ++ [d]) := by
      rw [rulesP_succ 200, if_pos (by exact hq)]
      rfl
    rw [h1'] at h1
    injection h1 with h1; injection h1 with e3 e4
    subst e4
    obtain ⟨u, e5, _⟩ := loc_atom false _ _ _ h2
    unfold wantP at h3
    split at h3
    · rename_i hm
      obtain ⟨t, r4, rfl, ht⟩ := mk0_cons hm
      injection h3 with h3; injection h3 with _ e6
      have e6 : r4 = [] := e6
      subst e6
      have := List.append_inj' e5 rfl
      injection this.2 with e7
      subst e7
      exact ⟨y.1, y.2, h2, by rw [← e1]⟩
    · cases h3
  obtain ⟨a, f, hat, hpa⟩ := hA
  rw [hpa]
  obtain ⟨t, v, hS, ht, hv⟩ := atom_two hat
  have hf0 := (atom_true hat).2
  subst hf0
  have hany := fun d' h' r => atom_any hat d' h' r
  -- the first rule
  have r1 : ∀ l, ruleP (S ++ d :: l) = .ok (⟨a, 0, []⟩, l) := fun l => by
    unfold ruleP
    have h1 := (atom_true (hany d (hne _ hd (by decide)) l)).1
    rw [bnd_of h1, bnd_of (show tailP (d :: l) = .ok ([], d :: l) by unfold tailP; rw [if_neg (by show ¬ isT d 4 [58, 45] = true; rw [hne _ hd (by decide)]; simp)]),
      bnd_of (show wantP [46] (d :: l) = .ok ((), l) by unfold wantP; rw [if_pos (by exact hd)]; rfl)]
  have hS2 : ∀ (k' : TK) (l : List TK), (∀ s, s = [60] ∨ s = [60, 61] ∨ s = [61] ∨ s = [33, 61] → isT k' 4 s = false) → ∀ s, s = [60] ∨ s = [60, 61] ∨ s = [61] ∨ s = [33, 61] → mk0 (v ++ k' :: l) s = false := fun k' l hk' s hs => by
    rcases hv with rfl | ⟨t2, w, rfl, ht2⟩
    · exact hk' s hs
    · refine hne s ht2 ?_
      rcases hs with rfl | rfl | rfl | rfl <;> decide
  have l1 : ∀ l, literalP (S ++ k :: l) = .ok (⟨1, a, ⟨#[]⟩, noneT, noneT, noneT, []⟩, k :: l) := fun l => by
    have h1 := hany k (hne _ hk (by decide)) l
    rw [hS, List.cons_append] at h1 ⊢
    rw [pred_literal ht (hS2 k l (fun s hs => hne s hk (by rcases hs with rfl | rfl | rfl | rfl <;> decide)))]
    unfold holdsP
    rw [bnd_of h1]
  have l2 : ∀ l, literalP (n :: S ++ d :: l) = .ok (⟨2, a, ⟨#[]⟩, noneT, noneT, noneT, []⟩, d :: l) := fun l => by
    have h1 := hany d (hne _ hd (by decide)) l
    rw [hS, List.cons_append] at h1
    rw [List.cons_append, hS, List.cons_append, not_literal hn ht]
    unfold holdsP
    rw [bnd_of h1]
  have r2 : ∀ l, ruleP (x :: c :: S ++ k :: n :: S ++ d :: l) = .ok (⟨⟨x.2, []⟩, 0, [⟨1, a, ⟨#[]⟩, noneT, noneT, noneT, []⟩, ⟨2, a, ⟨#[]⟩, noneT, noneT, noneT, []⟩]⟩, l) := fun l => by
    unfold ruleP
    have h1 : atomP true (x :: c :: S ++ k :: n :: S ++ d :: l) = .ok ((⟨x.2, []⟩, 0), c :: S ++ k :: n :: S ++ d :: l) := by
      unfold atomP
      rw [bnd_of (show predicateP (x :: c :: S ++ k :: n :: S ++ d :: l) = .ok (x.2, c :: S ++ k :: n :: S ++ d :: l) by simp only [List.cons_append, predicateP]; rw [if_pos hx]), if_neg (by show ¬ isT c 4 [40] = true; rw [hne _ hc (by decide)]; simp)]
    have h2 : tailP (c :: S ++ k :: n :: S ++ d :: l) = .ok ([⟨1, a, ⟨#[]⟩, noneT, noneT, noneT, []⟩, ⟨2, a, ⟨#[]⟩, noneT, noneT, noneT, []⟩], d :: l) := by
      unfold tailP
      rw [if_pos (by exact hc)]
      have e1 : (c :: S ++ k :: n :: S ++ d :: l).drop 1 = S ++ k :: (n :: S ++ d :: l) := by simp
      rw [e1]
      rw [bodyP_succ 12, if_neg (by simp), bnd_of (l1 _), if_pos (by exact hk)]
      have e2 : (k :: (n :: S ++ d :: l)).drop 1 = n :: S ++ d :: l := rfl
      rw [e2, bodyP_succ 11, if_neg (by simp), bnd_of (l2 l), if_neg (by show ¬ isT d 4 [44] = true; rw [hne _ hd (by decide)]; simp)]
      rfl
    rw [bnd_of h1, bnd_of h2, bnd_of (show wantP [46] (d :: l) = .ok ((), l) by unfold wantP; rw [if_pos (by exact hd)]; rfl)]
  unfold programP
  have hp1 : ∀ l, mk0 (S ++ l) [63, 45] = false := fun l => by
    rw [hS]
    exact noq_kind (by unfold predB at ht; simp only [Bool.and_eq_true, beq_iff_eq] at ht; omega)
  have hp2 : ∀ l, mk0 (x :: l) [63, 45] = false := fun l => noq_kind (by unfold predB at hx; simp only [Bool.and_eq_true, beq_iff_eq] at hx; omega)
  have e1 : rulesP 201 [] (S ++ d :: x :: c :: S ++ k :: n :: S ++ [d, q, x, d]) = .ok ([⟨a, 0, []⟩, ⟨⟨x.2, []⟩, 0, [⟨1, a, ⟨#[]⟩, noneT, noneT, noneT, []⟩, ⟨2, a, ⟨#[]⟩, noneT, noneT, noneT, []⟩]⟩], [x, d]) := by
    have e2 : S ++ d :: x :: c :: S ++ k :: n :: S ++ [d, q, x, d] = S ++ d :: (x :: c :: S ++ k :: n :: S ++ d :: [q, x, d]) := by simp
    rw [e2, rulesP_succ 200, hp1, if_neg (by simp), if_neg (by simp), bnd_of (r1 _), rulesP_succ 199]
    have e3 : mk0 (x :: c :: S ++ k :: n :: S ++ d :: [q, x, d]) [63, 45] = false := hp2 _
    rw [e3, if_neg (by simp), if_neg (by simp), bnd_of (r2 _), rulesP_succ 198, if_pos (by exact hq)]
    rfl
  have hnot : mk0 [d] [40] = false := hne _ hd (by decide)
  have e2 : atomP false [x, d] = .ok ((⟨x.2, []⟩, 0), [d]) := by
    unfold atomP
    rw [bnd_of (show predicateP [x, d] = .ok (x.2, [d]) by simp only [predicateP]; rw [if_pos hx]), hnot, if_neg (by simp)]
  rw [bnd_of e1, bnd_of e2, bnd_of (show wantP [46] [d] = .ok ((), []) by unfold wantP; rw [if_pos (by exact hd)]; rfl)]
end Go.Proofs.YthebhbomlllpeaaGreatDoor.X
namespace Go.Proofs.YthebhbomlllpeaaGreatDoor.X
set_option linter.unusedVariables false
set_option linter.unusedSimpArgs false
/-- what Parse answers, by the tokens: none, if it is wrong. -/
def progO (s : List UInt8) : Option PgS := (tkO s).bind fun ts => match programP ts with
  | .ok (p, []) => some p
  | _ => none
theorem err_allP {α : Type} {p : Prs α} {l : List TK} : (∃ x, p l = .ok (x, []) ∧ allP p l = .ok x) ∨ ((∀ x, p l ≠ .ok (x, [])) ∧ ∃ q, allP p l = .error q) := by
  unfold allP
  cases h : p l with
  | error e => exact .inr ⟨fun x h => (by cases h), e, rfl⟩
  | ok y =>
    obtain ⟨x, r⟩ := y
    cases r with
    | nil => exact .inl ⟨x, rfl, rfl⟩
    | cons t r => exact .inr ⟨fun x h => (by injection h with h; injection h with _ h; cases h), _, rfl⟩
theorem parse_some {s : ByteArray} (hs : s.size ≤ 20000) {p : PgS} (h : progO s.data.toList = some p) : parseRes (⟨[], noneA⟩ : PgS) programP s = (p, 0, 0) := by
  unfold progO at h
  rw [lex_toks hs] at h
  split at h
  · rename_i hz
    rw [Option.bind_some] at h
    unfold parseRes
    rw [if_pos hz]
    rcases err_allP (p := programP) (l := (lexRes s).1.map tkOf) with ⟨x, h1, h2⟩ | ⟨h1, q, h2⟩
    · rw [h1] at h
      injection h with h
      rw [h2, ← h]
      rfl
    · split at h
      · rename_i y hy
        exact absurd hy (h1 y)
      · cases h
  · cases h
theorem parse_none {s : ByteArray} (hs : s.size ≤ 20000) (h : progO s.data.toList = none) (herr : Err programP) : (parseRes (⟨[], noneA⟩ : PgS) programP s).2.2 ≠ 0 := by
  unfold progO at h
  rw [lex_toks hs] at h
  unfold parseRes
  split at h
  · rename_i hz
    rw [Option.bind_some] at h
    rw [if_pos hz]
    rcases err_allP (p := programP) (l := (lexRes s).1.map tkOf) with ⟨x, h1, h2⟩ | ⟨h1, q, h2⟩
    · rw [h1] at h; cases h
    · rw [h2]
      exact all_err herr h2
  · rename_i hz
    rw [if_neg hz]
    exact hz
theorem err_variable : Err variableP := fun l q h => by
  cases l with
  | nil => simp only [variableP] at h; injection h with h; subst h; simp
  | cons t r =>
    simp only [variableP] at h
    split at h
    · cases h
    · injection h with h; subst h; simp
theorem err_term : Err termP := fun l q h => by
  cases l with
  | nil => simp only [termP] at h; injection h with h; subst h; simp
  | cons t r =>
    simp only [termP] at h
    split at h
    · cases h
    · split at h
      · cases h
      · injection h with h; subst h; simp
theorem Err.cond {α : Type} {p q : Prs α} {b : List TK → Bool} (hp : Err p) (hq : Err q) : Err (fun l => if b l then p l else q l) := fun l e h => by
  simp only at h
  split at h
  · exact hp l e h
  · exact hq l e h
theorem Err.drop {α : Type} {p : Prs α} (hp : Err p) (n : Nat) : Err (fun l => p (l.drop n)) := fun l e h => hp _ e h
theorem err_args (head : Bool) : ∀ (n : Nat) (acc : List TmS), Err (argsP head n acc)
  | 0, acc => fun l q h => by simp only [argsP] at h; injection h with h; subst h; simp
  | n + 1, acc => fun l q h => by
    simp only [argsP] at h
    split at h
    · injection h with h; subst h; simp
    · split at h
      · rcases bnd_e h with h | ⟨x, r, _, h⟩
        · exact err_variable _ q h
        · rcases bnd_e h with h | ⟨y, r', _, h⟩
          · exact err_want _ _ q h
          · cases h
      · rcases bnd_e h with h | ⟨x, r, _, h⟩
        · exact err_term _ q h
        · split at h
          · exact err_args head n _ _ q h
          · cases h
theorem err_atom (head : Bool) : Err (atomP head) := fun l q h => by
  unfold atomP at h
  rcases bnd_e h with h | ⟨x, r, _, h⟩
  · exact err_predicate _ q h
  · split at h
    · rcases bnd_e h with h | ⟨y, r', _, h⟩
      · exact err_args head 9 [] _ q h
      · rcases bnd_e h with h | ⟨z, r'', _, h⟩
        · exact err_want _ _ q h
        · cases h
    · cases h
theorem err_sign : Err signP := fun l q h => by
  cases l with
  | nil => simp only [signP] at h; injection h with h; subst h; simp
  | cons t r =>
    simp only [signP] at h
    split at h
    · injection h with h; subst h; simp
    · cases h
theorem err_holds (k : Int) : Err (holdsP k) := fun l q h => by
  unfold holdsP at h
  rcases bnd_e h with h | ⟨x, r, _, h⟩
  · exact err_atom false _ q h
  · cases h
theorem err_compare : Err compareP := fun l q h => by
  unfold compareP at h
  rcases bnd_e h with h | ⟨x, r, _, h⟩
  · exact err_term _ q h
  · rcases bnd_e h with h | ⟨y, r', _, h⟩
    · exact err_term _ q h
    · cases h
theorem err_let : Err letP := fun l q h => by
  unfold letP at h
  rcases bnd_e h with h | ⟨x, r, _, h⟩
  · exact err_variable _ q h
  · rcases bnd_e h with h | ⟨y, r', _, h⟩
    · exact err_term _ q h
    · rcases bnd_e h with h | ⟨z, r'', _, h⟩
      · exact err_sign _ q h
      · rcases bnd_e h with h | ⟨u, r3, _, h⟩
        · exact err_term _ q h
        · cases h
theorem err_walk : Err walkP := fun l q h => by
  unfold walkP at h
  rcases bnd_e h with h | ⟨_, r, _, h⟩
  · exact err_want _ _ q h
  rcases bnd_e h with h | ⟨_, r, _, h⟩
  · exact err_term _ q h
  rcases bnd_e h with h | ⟨_, r, _, h⟩
  · exact err_want _ _ q h
  rcases bnd_e h with h | ⟨_, r, _, h⟩
  · exact err_whole _ q h
  rcases bnd_e h with h | ⟨_, r, _, h⟩
  · exact err_want _ _ q h
  rcases bnd_e h with h | ⟨_, r, _, h⟩
  · exact err_term _ q h
  rcases bnd_e h with h | ⟨_, r, _, h⟩
  · exact err_want _ _ q h
  cases h
theorem err_literal : Err literalP := fun l q h => by
  unfold literalP at h
  split at h
  · exact err_compare _ q h
  split at h
  · exact err_let _ q h
  split at h
  · exact err_holds 2 _ q h
  split at h
  · exact err_walk _ q h
  split at h
  · exact err_holds 1 _ q h
  rcases bnd_e h with h | ⟨_, r, _, h⟩
  · exact err_term _ q h
  · injection h with h; subst h; simp
theorem err_body : ∀ (n : Nat) (acc : List LtS), Err (bodyP n acc)
  | 0, acc => fun l q h => by simp only [bodyP] at h; injection h with h; subst h; simp
  | n + 1, acc => fun l q h => by
    simp only [bodyP] at h
    split at h
    · injection h with h; subst h; simp
    · rcases bnd_e h with h | ⟨x, r, _, h⟩
      · exact err_literal _ q h
      · split at h
        · exact err_body n _ _ q h
        · cases h
theorem err_rule : Err ruleP := fun l q h => by
  unfold ruleP at h
  rcases bnd_e h with h | ⟨x, r, _, h⟩
  · exact err_atom true _ q h
  rcases bnd_e h with h | ⟨y, r', _, h⟩
  · unfold tailP at h
    split at h
    · exact err_body 13 [] _ q h
    · cases h
  rcases bnd_e h with h | ⟨_, r'', _, h⟩
  · exact err_want _ _ q h
  · cases h
theorem err_rules : ∀ (n : Nat) (acc : List RlS), Err (rulesP n acc)
  | 0, acc => fun l q h => by simp only [rulesP] at h; injection h with h; subst h; simp
  | n + 1, acc => fun l q h => by
    simp only [rulesP] at h
    split at h
    · cases h
    · split at h
      · injection h with h; subst h; simp
      · rcases bnd_e h with h | ⟨x, r, _, h⟩
        · exact err_rule _ q h
        · exact err_rules n _ _ q h
theorem err_program : Err programP := fun l q h => by
  unfold programP at h
  rcases bnd_e h with h | ⟨x, r, _, h⟩
  · exact err_rules 201 [] _ q h
  rcases bnd_e h with h | ⟨y, r', _, h⟩
  · exact err_atom false _ q h
  rcases bnd_e h with h | ⟨_, r'', _, h⟩
  · exact err_want _ _ q h
  · cases h
theorem toks_two {nm vl : List UInt8 → Bool} {a b : UInt8} (h : (a = 58 ∧ b = 45) ∨ (a = 63 ∧ b = 45)) {r : List UInt8} {l : List TK} (hr : toksO nm vl r = some l) : toksO nm vl (a :: b :: r) = some ((4, ⟨#[a, b]⟩) :: l) := by
  have hb : blankB a = false ∧ nextN nm vl (a :: b :: r) = some (4, 2) := by
    rcases h with ⟨rfl, rfl⟩ | ⟨rfl, rfl⟩
    all_goals
      refine ⟨by decide, ?_⟩
      simp only [nextN]
      rw [if_neg (by decide), if_neg (by decide), if_neg (by unfold valB; simp [digitN]), if_pos (by unfold twoB; simp)]
  rw [toks_more hb.1 hb.2]
  show (toksO nm vl r).map _ = _
  rw [hr]
  rfl
theorem word_app {w : List UInt8} (hw : nmL w = true) {x : UInt8} (hx : sepB x = true) {r : List UInt8} {l : List TK} (hr : tkO (x :: r) = some l) : tkO (w ++ x :: r) = some ((1, ⟨w.toArray⟩) :: l) := toks_app hx (toks_one (name_next hw)) hr
abbrev qT : TK := (4, ⟨#[63, 45]⟩)
abbrev cT : TK := (4, ⟨#[58, 45]⟩)
abbrev xT : TK := (1, ⟨#[120]⟩)
abbrev nT : TK := (1, ⟨#[110, 111, 116]⟩)
/-- a blank ahead. -/
theorem blank_toks {c : UInt8} (h : blankB c = true) {r : List UInt8} {l : List TK} (hr : tkO r = some l) : tkO (c :: r) = some l := by rw [tkO, toks_blank _ _ r h]; exact hr
theorem two_is (a b : UInt8) : isT ((4, ⟨#[a, b]⟩) : TK) 4 [a, b] = true := by unfold isT; simp
theorem tail_x : tkO [32, 63, 45, 32, 120, 46] = some [qT, xT, mkT 46] :=
  blank_toks (by decide) (toks_two (.inr ⟨rfl, rfl⟩) (blank_toks (by decide) (word_app (w := [120]) (by decide) (by decide) (toks_mark (by decide) (toks_nil _ _)))))
theorem sep_none {x : UInt8} (hx : sepB x = true) {s b : List UInt8} (hs : tkO s = none) : tkO (s ++ x :: b) = none := by
  rw [tkO, toks_sep nmL vlL hx b _ s (Nat.le_refl _)]
  rw [tkO] at hs
  rw [hs]; rfl
/-- ParseFacts, in plain Lean. -/
def fact1 (s : List UInt8) : List UInt8 := [63, 45, 32] ++ (s ++ [46])
def fact2 (s : List UInt8) : List UInt8 := s ++ ([46, 32, 120, 32, 58, 45, 32] ++ (s ++ ([44, 32, 110, 111, 116, 32] ++ (s ++ [46, 32, 63, 45, 32, 120, 46]))))
theorem fact1_toks (s : List UInt8) : tkO (fact1 s) = (tkO s).map fun S => qT :: (S ++ [mkT 46]) := by
  cases h : tkO s with
  | none =>
    have h1 : tkO (s ++ [46]) = none := sep_none (by decide) h
    have h2 : tkO (32 :: (s ++ [46])) = none := by rw [tkO, toks_blank _ _ _ (by decide)]; exact h1
    have hb : blankB 63 = false ∧ nextN nmL vlL (63 :: 45 :: 32 :: (s ++ [46])) = some (4, 2) := by
      refine ⟨by decide, ?_⟩
      simp only [nextN]
      rw [if_neg (by decide), if_neg (by decide), if_neg (by unfold valB; simp [digitN]), if_pos (by unfold twoB; simp)]
    show toksO nmL vlL (63 :: 45 :: 32 :: (s ++ [46])) = none
    rw [toks_more hb.1 hb.2]
    show (toksO nmL vlL (32 :: (s ++ [46]))).map _ = none
    rw [show toksO nmL vlL (32 :: (s ++ [46])) = none from h2]
    rfl
  | some S =>
    exact toks_two (.inr ⟨rfl, rfl⟩) (blank_toks (by decide) (toks_app (mark_sep (by decide)) h (toks_mark (by decide) (toks_nil _ _))))
theorem fact2_toks {s : List UInt8} {S : List TK} (h : tkO s = some S) : tkO (fact2 s) = some (S ++ mkT 46 :: xT :: cT :: S ++ mkT 44 :: nT :: S ++ [mkT 46, qT, xT, mkT 46]) := by
  have h3 : tkO (s ++ [46, 32, 63, 45, 32, 120, 46]) = some (S ++ [mkT 46, qT, xT, mkT 46]) := toks_app (mark_sep (by decide)) h (toks_mark (by decide) tail_x)
  have h4 : tkO (s ++ ([44, 32, 110, 111, 116, 32] ++ (s ++ [46, 32, 63, 45, 32, 120, 46]))) = some (S ++ mkT 44 :: nT :: (S ++ [mkT 46, qT, xT, mkT 46])) :=
    toks_app (mark_sep (by decide)) h (toks_mark (by decide) (blank_toks (by decide) (word_app (w := [110, 111, 116]) (by decide) (by decide) (blank_toks (by decide) h3))))
  have h5 : tkO (s ++ 46 :: 32 :: 120 :: 32 :: 58 :: 45 :: 32 :: (s ++ ([44, 32, 110, 111, 116, 32] ++ (s ++ [46, 32, 63, 45, 32, 120, 46])))) = some (S ++ mkT 46 :: xT :: cT :: (S ++ mkT 44 :: nT :: (S ++ [mkT 46, qT, xT, mkT 46]))) := toks_app (x := 46) (mark_sep (by decide)) h (toks_mark (by decide) (blank_toks (by decide) (word_app (w := [120]) (by decide) (by decide) (blank_toks (by decide) (toks_two (.inl ⟨rfl, rfl⟩) (blank_toks (by decide) h4))))))
  unfold fact2
  refine h5.trans ?_
  simp
theorem facts_law {s : List UInt8} {p : PgS} (h : progO (fact1 s) = some p) (h0 : p.f0 = []) : progO (fact2 s) = some ⟨[⟨p.f1, 0, []⟩, ⟨⟨⟨#[120]⟩, []⟩, 0, [⟨1, p.f1, ⟨#[]⟩, noneT, noneT, noneT, []⟩, ⟨2, p.f1, ⟨#[]⟩, noneT, noneT, noneT, []⟩]⟩], ⟨⟨#[120]⟩, []⟩⟩ := by
  unfold progO at h ⊢
  rw [fact1_toks] at h
  cases hS : tkO s with
  | none => rw [hS] at h; cases h
  | some S =>
    rw [hS, Option.map_some, Option.bind_some] at h
    rw [fact2_toks hS, Option.bind_some]
    split at h
    · rename_i q hq
      injection h with h
      subst h
      have := program_facts (S := S) (q := qT) (d := mkT 46) (x := xT) (c := cT) (k := mkT 44) (n := nT) (two_is 63 45) (mk_is 46) (by decide) (two_is 58 45) (mk_is 44) (by decide) hq h0
      rw [this]
    · cases h
end Go.Proofs.YthebhbomlllpeaaGreatDoor.X
namespace Go.Proofs.YthebhbomlllpeaaGreatDoor.X
open Go.RowKit Go.Proofs.YthebhbomlllpeaaGreatDoorW.PrintWords Go.Proofs.YthebhbomlllpeaaGreatDoorW.PrintLast Go.Proofs.YthebhbomlllpeaaGreatDoorW.PrintMore
attribute [local go_sem] max2_int min2_int max_two min_two max_three min_three max_four min_four
set_option linter.unusedVariables false
set_option linter.unusedSimpArgs false
theorem eqA58 (d : Nat) (w : World) (x0 y0 : Int) (x1 y1 : Int) (x2 y2 : ByteArray) :
    (Op.equalIn (d + 2) 58 (.agg #[.int .i64 x0, .int .i64 x1, .string x2]) (.agg #[.int .i64 y0, .int .i64 y1, .string y2])).run Tryz.prog w = .ok (x0 == y0 && (x1 == y1 && (x2.toList == y2.toList))) w := by
  refine eqA_of Tryz.underlying58 (by kernel_rfl) ?_
  refine eqf_cons (by rfl) (by go_simp; rfl) (by go_simp; rfl) (by go_simp) ?_
  refine eqf_cons (by rfl) (by go_simp; rfl) (by go_simp; rfl) (by go_simp) ?_
  exact eqf_last (by rfl) (by go_simp; rfl) (by go_simp; rfl) (by go_simp)
end Go.Proofs.YthebhbomlllpeaaGreatDoor.X
namespace Go.Proofs.YthebhbomlllpeaaGreatDoor.X
open Go.RowKit Go.Proofs.YthebhbomlllpeaaGreatDoorW.PrintWords Go.Proofs.YthebhbomlllpeaaGreatDoorW.PrintLast Go.Proofs.YthebhbomlllpeaaGreatDoorW.PrintMore
attribute [local go_sem] max2_int min2_int max_two min_two max_three min_three max_four min_four
set_option linter.unusedVariables false
set_option linter.unusedSimpArgs false
theorem eqA60 (d : Nat) (w : World) (x0 y0 : ByteArray) (x1 y1 : Int) (x2 y2 : Int) (x3 y3 : ByteArray) :
    (Op.equalIn (d + 3) 60 (.agg #[.string x0, .int .i64 x1, .int .i64 x2, .string x3]) (.agg #[.string y0, .int .i64 y1, .int .i64 y2, .string y3])).run Tryz.prog w = .ok (x0.toList == y0.toList && ((x1 == y1 && (x2 == y2 && (x3.toList == y3.toList))))) w := by
  refine eqA_of Tryz.underlying60 (by kernel_rfl) ?_
  refine eqf_cons (by rfl) (by go_simp; rfl) (by go_simp; rfl) (by go_simp) ?_
  exact eqf_last (by rfl) (by go_simp) (by go_simp) (eqA58 (d + 0) w _ _ _ _ _ _)
end Go.Proofs.YthebhbomlllpeaaGreatDoor.X
namespace Go.Proofs.YthebhbomlllpeaaGreatDoor.X
open Go.RowKit Go.Proofs.YthebhbomlllpeaaGreatDoorW.PrintWords Go.Proofs.YthebhbomlllpeaaGreatDoorW.PrintLast Go.Proofs.YthebhbomlllpeaaGreatDoorW.PrintMore
attribute [local go_sem] max2_int min2_int max_two min_two max_three min_three max_four min_four
set_option linter.unusedVariables false
set_option linter.unusedSimpArgs false
theorem eqA69 (d : Nat) (w : World) (x0 y0 : Int) (x1 y1 : ByteArray) :
    (Op.equalIn (d + 2) 69 (.agg #[.int .i64 x0, .string x1]) (.agg #[.int .i64 y0, .string y1])).run Tryz.prog w = .ok (x0 == y0 && (x1.toList == y1.toList)) w := by
  refine eqA_of Tryz.underlying69 (by kernel_rfl) ?_
  refine eqf_cons (by rfl) (by go_simp; rfl) (by go_simp; rfl) (by go_simp) ?_
  exact eqf_last (by rfl) (by go_simp; rfl) (by go_simp; rfl) (by go_simp)
end Go.Proofs.YthebhbomlllpeaaGreatDoor.X
namespace Go.Proofs.YthebhbomlllpeaaGreatDoor.X
open Go.RowKit Go.Proofs.YthebhbomlllpeaaGreatDoorW.PrintWords Go.Proofs.YthebhbomlllpeaaGreatDoorW.PrintLast Go.Proofs.YthebhbomlllpeaaGreatDoorW.PrintMore
attribute [local go_sem] max2_int min2_int max_two min_two max_three min_three max_four min_four
set_option linter.unusedVariables false
set_option linter.unusedSimpArgs false
attribute [local go_sem high] eqA60 eqA69
mutual
def antecedentlaw08_atoms.j0 : Nat → Bool → ByteArray → List (S60) → ByteArray → List (S60) → Option (Bool)
  | 0, _, _, _, _, _ => none
  | k + 1, x19, x682000, x682001, x683000, x683001 => if x19 = true then (some false) else (antecedentlaw08_atoms.l0 k (x682001.length : Int) 0 x682000 x682001 x683000 x683001)
def antecedentlaw08_atoms.l0 : Nat → Int → Int → ByteArray → List (S60) → ByteArray → List (S60) → Option (Bool)
  | 0, _, _, _, _, _, _ => none
  | k + 1, x22, x23, x682000, x682001, x683000, x683001 => if x23 < x22 then (if 0 ≤ x23 then (if x23 < (x682001.length : Int) then (if x23 < (x683001.length : Int) then (if (!((((rd_T60 x682001 x23).f0).toList) == (((rd_T60 x683001 x23).f0).toList)) || ((!(((rd_T60 x682001 x23).f1.f0) == ((rd_T60 x683001 x23).f1.f0)) || (!(((rd_T60 x682001 x23).f1.f1) == ((rd_T60 x683001 x23).f1.f1)) || (!((((rd_T60 x682001 x23).f1.f2).toList) == (((rd_T60 x683001 x23).f1.f2).toList))))))) = true then (some false) else (antecedentlaw08_atoms.l0 k x22 (wrap64 (x23 + 1)) x682000 x682001 x683000 x683001)) else (none)) else (none)) else (none)) else (some true)
end
def antecedentlaw08_atoms.f (k : Nat) (a0_0 : ByteArray) (l0_1 : List (S60)) (a1_0 : ByteArray) (l1_1 : List (S60)) : Option (Bool) := if a0_0.toList = a1_0.toList then (antecedentlaw08_atoms.j0 k ((l0_1.length : Int) != (l1_1.length : Int)) a0_0 l0_1 a1_0 l1_1) else (antecedentlaw08_atoms.j0 k true a0_0 l0_1 a1_0 l1_1)
set_option maxHeartbeats 8000000 in
set_option maxRecDepth 100000 in
theorem antecedentlaw08_atoms.calls (k : Nat) (a0_0 : ByteArray) (A0_1 : Option Addr) (c0_1 : Nat) (l0_1 : List (S60)) (a1_0 : ByteArray) (A1_1 : Option Addr) (c1_1 : Nat) (l1_1 : List (S60)) (r : Bool) (w : World) (hr0_1 : Kd.C k60 w A0_1 l0_1.length l0_1) (hc0_1 : l0_1.length ≤ c0_1) (hr1_1 : Kd.C k60 w A1_1 l1_1.length l1_1) (hc1_1 : l1_1.length ≤ c1_1) (h : antecedentlaw08_atoms.f k a0_0 l0_1 a1_0 l1_1 = some r) :
    Calls Tryz.prog 35 #[.agg #[.string a0_0, .slice A0_1 l0_1.length c0_1], .agg #[.string a1_0, .slice A1_1 l1_1.length c1_1]] w fun e w' => e = .returned (.bool r) ∧ Below w.heap.size w w' := by
  have hu25 := Tryz.underlying25
  have hu60 := Tryz.underlying60
  have HR0_1 := Aside0.mk hr0_1
  have HC0_1 := Aside0.mk hc0_1
  clear hr0_1 hc0_1
  have HR1_1 := Aside0.mk hr1_1
  have HC1_1 := Aside0.mk hc1_1
  clear hr1_1 hc1_1
  have HB := Aside0.mk (Below.refl w.heap.size w)
  have H : (if a0_0.toList = a1_0.toList then (antecedentlaw08_atoms.j0 k ((l0_1.length : Int) != (l1_1.length : Int)) a0_0 l0_1 a1_0 l1_1) else (antecedentlaw08_atoms.j0 k true a0_0 l0_1 a1_0 l1_1)) = some r := h
  clear h
  have HC3 := Aside0.mk H
  clear H
  go_enter Tryz.func35, Tryz.ntmps35
  go_upto_region 1 with (first | ((with_reducible refine gate_dst (N := 2) rfl ?_); (try (refine gate_guard (by rfl) ?_; dsimp only)); refine box_event ?hg (N := 2) ?hd (cs := #[.string a0_0, .slice A0_1 l0_1.length c0_1]) (t := 25) ?hr ?_; (case hd => rfl); (case hg => rfl); (case hr => first | (go_simp; done) | (go_simp; rfl)); intro gb681 hg w4 hbox hb; have n0_ := Aside0.mk (below_step (by repeat (first | (with_reducible first | exact HB.out | apply below_alloc | apply pw_below_drewN | apply below_drew1) | exact HB.out)) hb); have n1_ := Aside0.mk (hbox); have n2_ := Aside0.mk ((by rw [hg]; exact (below_size (by repeat (first | (with_reducible first | exact HB.out | apply below_alloc | apply pw_below_drewN | apply below_drew1) | exact HB.out))) : w.heap.size ≤ gb681)); have n3_ := Aside0.mk ((by rw [hg]; exact (below_size (by repeat (first | (with_reducible first | exact HB.out | apply below_alloc | apply pw_below_drewN | apply below_drew1) | exact HB.out))) : w.heap.size ≤ gb681)); clear HB; have HB := n0_; have BK681 := n1_; have GW681 := n2_; have GE681 := n3_; clear n0_ n1_ n2_ n3_; clear hb hbox hg) | ((with_reducible refine gate_dst (N := 3) rfl ?_); (try (refine gate_guard (by rfl) ?_; dsimp only)); refine box_event ?hg (N := 3) ?hd (cs := #[.string a1_0, .slice A1_1 l1_1.length c1_1]) (t := 25) ?hr ?_; (case hd => rfl); (case hg => rfl); (case hr => first | (go_simp; done) | (go_simp; rfl)); intro gb682 hg w5 hbox hb; have n0_ := Aside0.mk (blk_below (g := gb681) (o := .cells #[.string a0_0, .slice A0_1 l0_1.length c0_1] 25 (0, 0)) (by (with_reducible repeat (first | refine blk_drewN ?_ _ | refine blk_drew ?_ | refine blk_alloc ?_ _)); exact BK681.out) hb); have n1_ := Aside0.mk (below_step (by repeat (first | (with_reducible first | exact HB.out | apply below_alloc | apply pw_below_drewN | apply below_drew1 | refine below_set ?_ GE681.out) | exact HB.out)) hb); have n2_ := Aside0.mk (hbox); have n3_ := Aside0.mk ((by rw [hg]; exact (below_size (by repeat (first | (with_reducible first | exact HB.out | apply below_alloc | apply pw_below_drewN | apply below_drew1 | refine below_set ?_ GE681.out) | exact HB.out))) : w.heap.size ≤ gb682)); have n4_ := Aside0.mk ((by rw [hg]; exact (below_size (by repeat (first | (with_reducible first | exact HB.out | apply below_alloc | apply pw_below_drewN | apply below_drew1 | refine below_set ?_ GE681.out) | exact HB.out))) : w.heap.size ≤ gb682)); have n5_ := Aside0.mk ((by rw [hg]; exact Nat.ne_of_lt (blk_lt (g := gb681) (o := .cells #[.string a0_0, .slice A0_1 l0_1.length c0_1] 25 (0, 0)) (by (with_reducible repeat (first | refine blk_drewN ?_ _ | refine blk_drew ?_ | refine blk_alloc ?_ _)); exact BK681.out)) : gb681 ≠ gb682)); have n6_ := Aside0.mk ((by rw [hg]; exact Nat.ne_of_gt (blk_lt (g := gb681) (o := .cells #[.string a0_0, .slice A0_1 l0_1.length c0_1] 25 (0, 0)) (by (with_reducible repeat (first | refine blk_drewN ?_ _ | refine blk_drew ?_ | refine blk_alloc ?_ _)); exact BK681.out)) : gb682 ≠ gb681)); clear BK681; clear HB; have BK681 := n0_; have HB := n1_; have BK682 := n2_; have GW682 := n3_; have GE682 := n4_; have NB681_682 := n5_; have NB682_681 := n6_; clear n0_ n1_ n2_ n3_ n4_ n5_ n6_; clear hb hbox hg))
  repeat (go_quiet (first | ((with_reducible refine gate_dst (N := 2) rfl ?_); (try (refine gate_guard (by rfl) ?_; dsimp only)); refine box_event ?hg (N := 2) ?hd (cs := #[.string a0_0, .slice A0_1 l0_1.length c0_1]) (t := 25) ?hr ?_; (case hd => rfl); (case hg => rfl); (case hr => first | (go_simp; done) | (go_simp; rfl)); intro gb681 hg w4 hbox hb; have n0_ := Aside0.mk (below_step (by repeat (first | (with_reducible first | exact HB.out | apply below_alloc | apply pw_below_drewN | apply below_drew1) | exact HB.out)) hb); have n1_ := Aside0.mk (hbox); have n2_ := Aside0.mk ((by rw [hg]; exact (below_size (by repeat (first | (with_reducible first | exact HB.out | apply below_alloc | apply pw_below_drewN | apply below_drew1) | exact HB.out))) : w.heap.size ≤ gb681)); have n3_ := Aside0.mk ((by rw [hg]; exact (below_size (by repeat (first | (with_reducible first | exact HB.out | apply below_alloc | apply pw_below_drewN | apply below_drew1) | exact HB.out))) : w.heap.size ≤ gb681)); clear HB; have HB := n0_; have BK681 := n1_; have GW681 := n2_; have GE681 := n3_; clear n0_ n1_ n2_ n3_; clear hb hbox hg) | ((with_reducible refine gate_dst (N := 3) rfl ?_); (try (refine gate_guard (by rfl) ?_; dsimp only)); refine box_event ?hg (N := 3) ?hd (cs := #[.string a1_0, .slice A1_1 l1_1.length c1_1]) (t := 25) ?hr ?_; (case hd => rfl); (case hg => rfl); (case hr => first | (go_simp; done) | (go_simp; rfl)); intro gb682 hg w5 hbox hb; have n0_ := Aside0.mk (blk_below (g := gb681) (o := .cells #[.string a0_0, .slice A0_1 l0_1.length c0_1] 25 (0, 0)) (by (with_reducible repeat (first | refine blk_drewN ?_ _ | refine blk_drew ?_ | refine blk_alloc ?_ _)); exact BK681.out) hb); have n1_ := Aside0.mk (below_step (by repeat (first | (with_reducible first | exact HB.out | apply below_alloc | apply pw_below_drewN | apply below_drew1 | refine below_set ?_ GE681.out) | exact HB.out)) hb); have n2_ := Aside0.mk (hbox); have n3_ := Aside0.mk ((by rw [hg]; exact (below_size (by repeat (first | (with_reducible first | exact HB.out | apply below_alloc | apply pw_below_drewN | apply below_drew1 | refine below_set ?_ GE681.out) | exact HB.out))) : w.heap.size ≤ gb682)); have n4_ := Aside0.mk ((by rw [hg]; exact (below_size (by repeat (first | (with_reducible first | exact HB.out | apply below_alloc | apply pw_below_drewN | apply below_drew1 | refine below_set ?_ GE681.out) | exact HB.out))) : w.heap.size ≤ gb682)); have n5_ := Aside0.mk ((by rw [hg]; exact Nat.ne_of_lt (blk_lt (g := gb681) (o := .cells #[.string a0_0, .slice A0_1 l0_1.length c0_1] 25 (0, 0)) (by (with_reducible repeat (first | refine blk_drewN ?_ _ | refine blk_drew ?_ | refine blk_alloc ?_ _)); exact BK681.out)) : gb681 ≠ gb682)); have n6_ := Aside0.mk ((by rw [hg]; exact Nat.ne_of_gt (blk_lt (g := gb681) (o := .cells #[.string a0_0, .slice A0_1 l0_1.length c0_1] 25 (0, 0)) (by (with_reducible repeat (first | refine blk_drewN ?_ _ | refine blk_drew ?_ | refine blk_alloc ?_ _)); exact BK681.out)) : gb682 ≠ gb681)); clear BK681; clear HB; have BK681 := n0_; have HB := n1_; have BK682 := n2_; have GW682 := n3_; have GE682 := n4_; have NB681_682 := n5_; have NB682_681 := n6_; clear n0_ n1_ n2_ n3_ n4_ n5_ n6_; clear hb hbox hg)); go_upto_region 1 with (first | ((with_reducible refine gate_dst (N := 2) rfl ?_); (try (refine gate_guard (by rfl) ?_; dsimp only)); refine box_event ?hg (N := 2) ?hd (cs := #[.string a0_0, .slice A0_1 l0_1.length c0_1]) (t := 25) ?hr ?_; (case hd => rfl); (case hg => rfl); (case hr => first | (go_simp; done) | (go_simp; rfl)); intro gb681 hg w4 hbox hb; have n0_ := Aside0.mk (below_step (by repeat (first | (with_reducible first | exact HB.out | apply below_alloc | apply pw_below_drewN | apply below_drew1) | exact HB.out)) hb); have n1_ := Aside0.mk (hbox); have n2_ := Aside0.mk ((by rw [hg]; exact (below_size (by repeat (first | (with_reducible first | exact HB.out | apply below_alloc | apply pw_below_drewN | apply below_drew1) | exact HB.out))) : w.heap.size ≤ gb681)); have n3_ := Aside0.mk ((by rw [hg]; exact (below_size (by repeat (first | (with_reducible first | exact HB.out | apply below_alloc | apply pw_below_drewN | apply below_drew1) | exact HB.out))) : w.heap.size ≤ gb681)); clear HB; have HB := n0_; have BK681 := n1_; have GW681 := n2_; have GE681 := n3_; clear n0_ n1_ n2_ n3_; clear hb hbox hg) | ((with_reducible refine gate_dst (N := 3) rfl ?_); (try (refine gate_guard (by rfl) ?_; dsimp only)); refine box_event ?hg (N := 3) ?hd (cs := #[.string a1_0, .slice A1_1 l1_1.length c1_1]) (t := 25) ?hr ?_; (case hd => rfl); (case hg => rfl); (case hr => first | (go_simp; done) | (go_simp; rfl)); intro gb682 hg w5 hbox hb; have n0_ := Aside0.mk (blk_below (g := gb681) (o := .cells #[.string a0_0, .slice A0_1 l0_1.length c0_1] 25 (0, 0)) (by (with_reducible repeat (first | refine blk_drewN ?_ _ | refine blk_drew ?_ | refine blk_alloc ?_ _)); exact BK681.out) hb); have n1_ := Aside0.mk (below_step (by repeat (first | (with_reducible first | exact HB.out | apply below_alloc | apply pw_below_drewN | apply below_drew1 | refine below_set ?_ GE681.out) | exact HB.out)) hb); have n2_ := Aside0.mk (hbox); have n3_ := Aside0.mk ((by rw [hg]; exact (below_size (by repeat (first | (with_reducible first | exact HB.out | apply below_alloc | apply pw_below_drewN | apply below_drew1 | refine below_set ?_ GE681.out) | exact HB.out))) : w.heap.size ≤ gb682)); have n4_ := Aside0.mk ((by rw [hg]; exact (below_size (by repeat (first | (with_reducible first | exact HB.out | apply below_alloc | apply pw_below_drewN | apply below_drew1 | refine below_set ?_ GE681.out) | exact HB.out))) : w.heap.size ≤ gb682)); have n5_ := Aside0.mk ((by rw [hg]; exact Nat.ne_of_lt (blk_lt (g := gb681) (o := .cells #[.string a0_0, .slice A0_1 l0_1.length c0_1] 25 (0, 0)) (by (with_reducible repeat (first | refine blk_drewN ?_ _ | refine blk_drew ?_ | refine blk_alloc ?_ _)); exact BK681.out)) : gb681 ≠ gb682)); have n6_ := Aside0.mk ((by rw [hg]; exact Nat.ne_of_gt (blk_lt (g := gb681) (o := .cells #[.string a0_0, .slice A0_1 l0_1.length c0_1] 25 (0, 0)) (by (with_reducible repeat (first | refine blk_drewN ?_ _ | refine blk_drew ?_ | refine blk_alloc ?_ _)); exact BK681.out)) : gb682 ≠ gb681)); clear BK681; clear HB; have BK681 := n0_; have HB := n1_; have BK682 := n2_; have GW682 := n3_; have GE682 := n4_; have NB681_682 := n5_; have NB682_681 := n6_; clear n0_ n1_ n2_ n3_ n4_ n5_ n6_; clear hb hbox hg)))
  (try simp only [Act.put, List.setIfInBounds_toArray, List.set_cons_zero, List.set_cons_succ])
  go_cut [19] (fun v19 wc => ∃ (kq : Nat) (x19_2 : Bool), v19 = .bool x19_2 ∧ Aside0 (antecedentlaw08_atoms.j0 kq x19_2 a0_0 l0_1 a1_0 l1_1 = some r) ∧ Aside0 (kq ≤ k) ∧ Aside0 (wc.heap[gb681]? = some (.cells #[.string a0_0, (.slice A0_1 l0_1.length c0_1)] 25 (0, 0))) ∧ Aside0 (wc.heap[gb682]? = some (.cells #[.string a1_0, (.slice A1_1 l1_1.length c1_1)] 25 (0, 0))) ∧ Aside0 (Below w.heap.size w wc))
  case first =>
    have H := HC3.out
    clear HC3
    by_cases c6 : a0_0.toList = a1_0.toList
    · rw [if_pos c6] at H
      have c6b0 : (a0_0.toList == a1_0.toList) = true := beq_iff_eq.mpr c6
      have c6b1 : (a0_0.toList != a1_0.toList) = false := bne_eq_false_iff_eq.mpr c6
      clear c6
      (first | rw [c6b0] | (simp only [i64_w, i32_w]; rw [c6b0]) | skip)
      have H' := Aside0.mk H
      clear H
      have hnb7 := NB681_682.out
      have hnc7 := NB682_681.out
      have hcz8_0 : w5.cell? ⟨gb681, 0, none⟩ = some (.string a0_0) := (blk_cell BK681.out 0).trans rfl
      have hcz8_1 : w5.cell? ⟨gb681, 1, none⟩ = some (.slice A0_1 l0_1.length c0_1) := (blk_cell BK681.out 1).trans rfl
      have hfz8_0 := blk_frozen BK681.out 0
      have hfz8_1 := blk_frozen BK681.out 1
      have hcz9_0 : w5.cell? ⟨gb682, 0, none⟩ = some (.string a1_0) := (blk_cell BK682.out 0).trans rfl
      have hcz9_1 : w5.cell? ⟨gb682, 1, none⟩ = some (.slice A1_1 l1_1.length c1_1) := (blk_cell BK682.out 1).trans rfl
      have hfz9_0 := blk_frozen BK682.out 0
      have hfz9_1 := blk_frozen BK682.out 1
      go_wp2
      repeat (go_quiet (fail); try go_wp2)
      go_meet
      case rel => exact ⟨_, (((l0_1.length : Int) != (l1_1.length : Int))), (by first | rfl | (simp; done) | (simp [*]; done)), H', ⟨by first | omega | exact Nat.le_refl _⟩, ⟨by (with_reducible repeat (first | refine blk_drewN ?_ _ | refine blk_drew ?_ | refine blk_alloc ?_ _)); exact BK681.out⟩, ⟨by (with_reducible repeat (first | refine blk_drewN ?_ _ | refine blk_drew ?_ | refine blk_alloc ?_ _)); exact BK682.out⟩, ⟨by repeat (first | (with_reducible first | exact HB.out | apply below_alloc | apply pw_below_drewN | apply below_drew1 | refine below_set ?_ GE681.out | refine below_set ?_ GE682.out) | exact HB.out)⟩⟩
    · rw [if_neg c6] at H
      have c6b0 : (a0_0.toList == a1_0.toList) = false := beq_eq_false_iff_ne.mpr c6
      have c6b1 : (a0_0.toList != a1_0.toList) = true := bne_iff_ne.mpr c6
      (first | rw [c6b0] | (simp only [i64_w, i32_w]; rw [c6b0]) | skip)
      have H' := Aside0.mk H
      clear H
      have hnb10 := NB681_682.out
      have hnc10 := NB682_681.out
      have hcz11_0 : w5.cell? ⟨gb681, 0, none⟩ = some (.string a0_0) := (blk_cell BK681.out 0).trans rfl
      have hcz11_1 : w5.cell? ⟨gb681, 1, none⟩ = some (.slice A0_1 l0_1.length c0_1) := (blk_cell BK681.out 1).trans rfl
      have hfz11_0 := blk_frozen BK681.out 0
      have hfz11_1 := blk_frozen BK681.out 1
      have hcz12_0 : w5.cell? ⟨gb682, 0, none⟩ = some (.string a1_0) := (blk_cell BK682.out 0).trans rfl
      have hcz12_1 : w5.cell? ⟨gb682, 1, none⟩ = some (.slice A1_1 l1_1.length c1_1) := (blk_cell BK682.out 1).trans rfl
      have hfz12_0 := blk_frozen BK682.out 0
      have hfz12_1 := blk_frozen BK682.out 1
      go_wp2
      repeat (go_quiet (fail); try go_wp2)
      go_meet
      case rel => exact ⟨_, (true), (by first | rfl | (simp; done) | (simp [*]; done)), H', ⟨by first | omega | exact Nat.le_refl _⟩, ⟨by (with_reducible repeat (first | refine blk_drewN ?_ _ | refine blk_drew ?_ | refine blk_alloc ?_ _)); exact BK681.out⟩, ⟨by (with_reducible repeat (first | refine blk_drewN ?_ _ | refine blk_drew ?_ | refine blk_alloc ?_ _)); exact BK682.out⟩, ⟨by repeat (first | (with_reducible first | exact HB.out | apply below_alloc | apply pw_below_drewN | apply below_drew1 | refine below_set ?_ GE681.out | refine below_set ?_ GE682.out) | exact HB.out)⟩⟩
  case rest =>
    clear HC3
    try clear c1
    try clear p2
    try clear c3
    try clear c6
    try clear c6b0
    try clear c6b1
    try clear c7
    try clear c10
    try clear hcz11_0
    try clear hcz11_1
    try clear hcz12_0
    try clear hcz12_1
    try clear hcz8_0
    try clear hcz8_1
    try clear hcz9_0
    try clear hcz9_1
    try clear hfz11_0
    try clear hfz11_1
    try clear hfz12_0
    try clear hfz12_1
    try clear hfz8_0
    try clear hfz8_1
    try clear hfz9_0
    try clear hfz9_1
    obtain ⟨kq, x19_2, rfl, HA, HJ2, BK681, BK682, HB⟩ := hcut
    cases kq with
    | zero => exact absurd HA.out (by simp [antecedentlaw08_atoms.j0])
    | succ kj2 =>
      have H := HA.out
      clear HA
      simp only [antecedentlaw08_atoms.j0] at H
      by_cases c13 : x19_2 = true
      · subst c13
        have H1 : (some false) = some r := by rw [if_pos rfl] at H; exact H
        clear H
        have H := H1
        clear H1
        obtain rfl := Option.some.inj H
        go_wp2
        repeat (go_quiet (fail); try go_wp2)
        go_ret
        exact ⟨by first | rfl | (simp [errW_none, errW_some] <;> rfl) | (simp [*, errW_none, errW_some] <;> rfl), by repeat (first | (with_reducible first | exact HB.out | apply below_alloc | apply pw_below_drewN | apply below_drew1 | refine below_set ?_ GE681.out | refine below_set ?_ GE682.out) | exact HB.out)⟩
      · replace c13 := Bool.eq_false_iff.mpr c13
        subst c13
        have H1 : (antecedentlaw08_atoms.l0 kj2 (l0_1.length : Int) 0 a0_0 l0_1 a1_0 l1_1) = some r := by rw [if_neg (show ¬ (false = true) by decide)] at H; exact H
        clear H
        have H := H1
        clear H1
        have H' := Aside0.mk H
        clear H
        have hnb14 := NB681_682.out
        have hnc14 := NB682_681.out
        have hcz15_0 : wc.cell? ⟨gb681, 0, none⟩ = some (.string a0_0) := (blk_cell BK681.out 0).trans rfl
        have hcz15_1 : wc.cell? ⟨gb681, 1, none⟩ = some (.slice A0_1 l0_1.length c0_1) := (blk_cell BK681.out 1).trans rfl
        have hfz15_0 := blk_frozen BK681.out 0
        have hfz15_1 := blk_frozen BK681.out 1
        go_wp2
        repeat (go_quiet (fail); try go_wp2)
        go_loopg [23] kj2 (fun kq v23 w' => ∃ (x23_2 : Int), v23 = .int .i64 x23_2 ∧ Aside0 (antecedentlaw08_atoms.l0 kq (l0_1.length : Int) x23_2 a0_0 l0_1 a1_0 l1_1 = some r) ∧ Aside0 (kq ≤ kj2) ∧ Aside0 (w'.heap[gb681]? = some (.cells #[.string a0_0, (.slice A0_1 l0_1.length c0_1)] 25 (0, 0))) ∧ Aside0 (w'.heap[gb682]? = some (.cells #[.string a1_0, (.slice A1_1 l1_1.length c1_1)] 25 (0, 0))) ∧ Aside0 (Below w.heap.size w w'))
        case atStart => exact ⟨(0), (by first | rfl | (simp; done) | (simp [*]; done)), H', ⟨Nat.le_refl _⟩, ⟨by (with_reducible repeat (first | refine blk_drewN ?_ _ | refine blk_drew ?_ | refine blk_alloc ?_ _)); exact BK681.out⟩, ⟨by (with_reducible repeat (first | refine blk_drewN ?_ _ | refine blk_drew ?_ | refine blk_alloc ?_ _)); exact BK682.out⟩, ⟨by repeat (first | (with_reducible first | exact HB.out | apply below_alloc | apply pw_below_drewN | apply below_drew1 | refine below_set ?_ GE681.out | refine below_set ?_ GE682.out) | exact HB.out)⟩⟩
        case round =>
          clear H'
          try clear c1
          try clear p2
          try clear c3
          try clear c6
          try clear c6b0
          try clear c6b1
          try clear c7
          try clear c10
          try clear c13
          try clear c14
          try clear hcz11_0
          try clear hcz11_1
          try clear hcz12_0
          try clear hcz12_1
          try clear hcz15_0
          try clear hcz15_1
          try clear hcz8_0
          try clear hcz8_1
          try clear hcz9_0
          try clear hcz9_1
          try clear hfz11_0
          try clear hfz11_1
          try clear hfz12_0
          try clear hfz12_1
          try clear hfz15_0
          try clear hfz15_1
          try clear hfz8_0
          try clear hfz8_1
          try clear hfz9_0
          try clear hfz9_1
          try clear p2
          obtain ⟨x23_2, rfl, HA, HK2, BK681, BK682, HB⟩ := hrel
          cases gk with
          | zero => exact absurd HA.out (by simp [antecedentlaw08_atoms.l0])
          | succ k2 =>
            have H := HA.out
            clear HA
            simp only [antecedentlaw08_atoms.l0] at H
            by_cases c16 : x23_2 < (l0_1.length : Int)
            · rw [if_pos c16] at H
              have c16b0 : decide (x23_2 < (l0_1.length : Int)) = true := decide_eq_true c16
              clear c16
              by_cases c17 : 0 ≤ x23_2
              · rw [if_pos c17] at H
                have c17b0 : decide (0 ≤ x23_2) = true := decide_eq_true c17
                clear c17
                by_cases c18 : x23_2 < (l0_1.length : Int)
                · rw [if_pos c18] at H
                  have c18b0 : decide (x23_2 < (l0_1.length : Int)) = true := decide_eq_true c18
                  clear c18
                  by_cases c19 : x23_2 < (l1_1.length : Int)
                  · rw [if_pos c19] at H
                    have c19b0 : decide (x23_2 < (l1_1.length : Int)) = true := decide_eq_true c19
                    clear c19
                    by_cases c20 : (!((((rd_T60 l0_1 x23_2).f0).toList) == (((rd_T60 l1_1 x23_2).f0).toList)) || ((!(((rd_T60 l0_1 x23_2).f1.f0) == ((rd_T60 l1_1 x23_2).f1.f0)) || (!(((rd_T60 l0_1 x23_2).f1.f1) == ((rd_T60 l1_1 x23_2).f1.f1)) || (!((((rd_T60 l0_1 x23_2).f1.f2).toList) == (((rd_T60 l1_1 x23_2).f1.f2).toList))))))) = true
                    · rw [if_pos c20] at H
                      have c20b0 : (!((((rd_T60 l0_1 x23_2).f0).toList) == (((rd_T60 l1_1 x23_2).f0).toList)) || ((!(((rd_T60 l0_1 x23_2).f1.f0) == ((rd_T60 l1_1 x23_2).f1.f0)) || (!(((rd_T60 l0_1 x23_2).f1.f1) == ((rd_T60 l1_1 x23_2).f1.f1)) || (!((((rd_T60 l0_1 x23_2).f1.f2).toList) == (((rd_T60 l1_1 x23_2).f1.f2).toList))))))) = true := c20
                      clear c20
                      obtain rfl := Option.some.inj H
                      have hnb21 := NB681_682.out
                      have hnc21 := NB682_681.out
                      have hcz22_0 : wr.cell? ⟨gb681, 0, none⟩ = some (.string a0_0) := (blk_cell BK681.out 0).trans rfl
                      have hcz22_1 : wr.cell? ⟨gb681, 1, none⟩ = some (.slice A0_1 l0_1.length c0_1) := (blk_cell BK681.out 1).trans rfl
                      have hfz22_0 := blk_frozen BK681.out 0
                      have hfz22_1 := blk_frozen BK681.out 1
                      have p683 : 0 ≤ (x23_2 : Int) := of_decide_eq_true (by first | (with_reducible assumption) | assumption)
                      have q683 : x23_2 < (l0_1.length : Int) := of_decide_eq_true (by first | (with_reducible assumption) | assumption)
                      obtain ⟨ad683, e683, hx683_0, hx683_1, hx683_2, hx683_3⟩ := at_T60 HR0_1.out x23_2 p683 q683
                      cases e683
                      replace hx683_0 := (HB.out.cell (World.block_lt_of_cell? w _ hx683_0)).trans hx683_0
                      replace hx683_1 := (HB.out.cell (World.block_lt_of_cell? w _ hx683_1)).trans hx683_1
                      replace hx683_2 := (HB.out.cell (World.block_lt_of_cell? w _ hx683_2)).trans hx683_2
                      replace hx683_3 := (HB.out.cell (World.block_lt_of_cell? w _ hx683_3)).trans hx683_3
                      replace p683 := eq_true p683
                      replace q683 := eq_true q683
                      have hcz23_0 : wr.cell? ⟨gb682, 0, none⟩ = some (.string a1_0) := (blk_cell BK682.out 0).trans rfl
                      have hcz23_1 : wr.cell? ⟨gb682, 1, none⟩ = some (.slice A1_1 l1_1.length c1_1) := (blk_cell BK682.out 1).trans rfl
                      have hfz23_0 := blk_frozen BK682.out 0
                      have hfz23_1 := blk_frozen BK682.out 1
                      have p684 : 0 ≤ (x23_2 : Int) := of_decide_eq_true (by first | (with_reducible assumption) | assumption)
                      have q684 : x23_2 < (l1_1.length : Int) := of_decide_eq_true (by first | (with_reducible assumption) | assumption)
                      obtain ⟨ad684, e684, hx684_0, hx684_1, hx684_2, hx684_3⟩ := at_T60 HR1_1.out x23_2 p684 q684
                      cases e684
                      replace hx684_0 := (HB.out.cell (World.block_lt_of_cell? w _ hx684_0)).trans hx684_0
                      replace hx684_1 := (HB.out.cell (World.block_lt_of_cell? w _ hx684_1)).trans hx684_1
                      replace hx684_2 := (HB.out.cell (World.block_lt_of_cell? w _ hx684_2)).trans hx684_2
                      replace hx684_3 := (HB.out.cell (World.block_lt_of_cell? w _ hx684_3)).trans hx684_3
                      replace p684 := eq_true p684
                      replace q684 := eq_true q684
                      go_wp2
                      repeat (go_quiet (fail); try go_wp2)
                      go_ret
                      exact ⟨by first | rfl | (simp [errW_none, errW_some] <;> rfl) | (simp [*, errW_none, errW_some] <;> rfl), by repeat (first | (with_reducible first | exact HB.out | apply below_alloc | apply pw_below_drewN | apply below_drew1 | refine below_set ?_ GE681.out | refine below_set ?_ GE682.out) | exact HB.out)⟩
                    · rw [if_neg c20] at H
                      have c20b0 : (!((((rd_T60 l0_1 x23_2).f0).toList) == (((rd_T60 l1_1 x23_2).f0).toList)) || ((!(((rd_T60 l0_1 x23_2).f1.f0) == ((rd_T60 l1_1 x23_2).f1.f0)) || (!(((rd_T60 l0_1 x23_2).f1.f1) == ((rd_T60 l1_1 x23_2).f1.f1)) || (!((((rd_T60 l0_1 x23_2).f1.f2).toList) == (((rd_T60 l1_1 x23_2).f1.f2).toList))))))) = false := by simpa using c20
                      clear c20
                      have H' := Aside0.mk H
                      clear H
                      have hnb24 := NB681_682.out
                      have hnc24 := NB682_681.out
                      have hcz25_0 : wr.cell? ⟨gb681, 0, none⟩ = some (.string a0_0) := (blk_cell BK681.out 0).trans rfl
                      have hcz25_1 : wr.cell? ⟨gb681, 1, none⟩ = some (.slice A0_1 l0_1.length c0_1) := (blk_cell BK681.out 1).trans rfl
                      have hfz25_0 := blk_frozen BK681.out 0
                      have hfz25_1 := blk_frozen BK681.out 1
                      have p683 : 0 ≤ (x23_2 : Int) := of_decide_eq_true (by first | (with_reducible assumption) | assumption)
                      have q683 : x23_2 < (l0_1.length : Int) := of_decide_eq_true (by first | (with_reducible assumption) | assumption)
                      obtain ⟨ad683, e683, hx683_0, hx683_1, hx683_2, hx683_3⟩ := at_T60 HR0_1.out x23_2 p683 q683
                      cases e683
                      replace hx683_0 := (HB.out.cell (World.block_lt_of_cell? w _ hx683_0)).trans hx683_0
                      replace hx683_1 := (HB.out.cell (World.block_lt_of_cell? w _ hx683_1)).trans hx683_1
                      replace hx683_2 := (HB.out.cell (World.block_lt_of_cell? w _ hx683_2)).trans hx683_2
                      replace hx683_3 := (HB.out.cell (World.block_lt_of_cell? w _ hx683_3)).trans hx683_3
                      replace p683 := eq_true p683
                      replace q683 := eq_true q683
                      have hcz26_0 : wr.cell? ⟨gb682, 0, none⟩ = some (.string a1_0) := (blk_cell BK682.out 0).trans rfl
                      have hcz26_1 : wr.cell? ⟨gb682, 1, none⟩ = some (.slice A1_1 l1_1.length c1_1) := (blk_cell BK682.out 1).trans rfl
                      have hfz26_0 := blk_frozen BK682.out 0
                      have hfz26_1 := blk_frozen BK682.out 1
                      have p684 : 0 ≤ (x23_2 : Int) := of_decide_eq_true (by first | (with_reducible assumption) | assumption)
                      have q684 : x23_2 < (l1_1.length : Int) := of_decide_eq_true (by first | (with_reducible assumption) | assumption)
                      obtain ⟨ad684, e684, hx684_0, hx684_1, hx684_2, hx684_3⟩ := at_T60 HR1_1.out x23_2 p684 q684
                      cases e684
                      replace hx684_0 := (HB.out.cell (World.block_lt_of_cell? w _ hx684_0)).trans hx684_0
                      replace hx684_1 := (HB.out.cell (World.block_lt_of_cell? w _ hx684_1)).trans hx684_1
                      replace hx684_2 := (HB.out.cell (World.block_lt_of_cell? w _ hx684_2)).trans hx684_2
                      replace hx684_3 := (HB.out.cell (World.block_lt_of_cell? w _ hx684_3)).trans hx684_3
                      replace p684 := eq_true p684
                      replace q684 := eq_true q684
                      go_wp2
                      repeat (go_quiet (fail); try go_wp2)
                      go_roundg k2
                      case measure => have := HJ2.out; have := HK2.out; omega
                      case rel => exact ⟨(wrap64 (x23_2 + 1)), (by first | rfl | (simp; done) | (simp [*]; done)), H', ⟨by have := HJ2.out; have := HK2.out; omega⟩, ⟨by (with_reducible repeat (first | refine blk_drewN ?_ _ | refine blk_drew ?_ | refine blk_alloc ?_ _)); exact BK681.out⟩, ⟨by (with_reducible repeat (first | refine blk_drewN ?_ _ | refine blk_drew ?_ | refine blk_alloc ?_ _)); exact BK682.out⟩, ⟨by repeat (first | (with_reducible first | exact HB.out | apply below_alloc | apply pw_below_drewN | apply below_drew1 | refine below_set ?_ GE681.out | refine below_set ?_ GE682.out) | exact HB.out)⟩⟩
                  · rw [if_neg c19] at H
                    exact absurd H (by simp)
                · rw [if_neg c18] at H
                  exact absurd H (by simp)
              · rw [if_neg c17] at H
                exact absurd H (by simp)
            · rw [if_neg c16] at H
              have c16b0 : decide (x23_2 < (l0_1.length : Int)) = false := decide_eq_false c16
              clear c16
              obtain rfl := Option.some.inj H
              go_wp2
              repeat (go_quiet (fail); try go_wp2)
              go_ret
              exact ⟨by first | rfl | (simp [errW_none, errW_some] <;> rfl) | (simp [*, errW_none, errW_some] <;> rfl), by repeat (first | (with_reducible first | exact HB.out | apply below_alloc | apply pw_below_drewN | apply below_drew1 | refine below_set ?_ GE681.out | refine below_set ?_ GE682.out) | exact HB.out)⟩
def antecedentlaw08_paths.l0 : Nat → List (S69) → List (S69) → Int → Int → Option (Bool)
  | 0, _, _, _, _ => none
  | k + 1, x0, x1, x12, x13 => if x13 < x12 then (if 0 ≤ x13 then (if x13 < (x0.length : Int) then (if x13 < (x1.length : Int) then (if (!(((rd_T69 x0 x13).f0) == ((rd_T69 x1 x13).f0)) || (!((((rd_T69 x0 x13).f1).toList) == (((rd_T69 x1 x13).f1).toList)))) = true then (some false) else (antecedentlaw08_paths.l0 k x0 x1 x12 (wrap64 (x13 + 1)))) else (none)) else (none)) else (none)) else (some true)
def antecedentref09_SamePath.l0 : Nat → List (S69) → List (S69) → Int → Int → Option (Bool)
  | 0, _, _, _, _ => none
  | k + 1, x0, x1, x12, x13 => if x13 < x12 then (if 0 ≤ x13 then (if x13 < (x0.length : Int) then (if x13 < (x1.length : Int) then (if (!(((rd_T69 x0 x13).f0) == ((rd_T69 x1 x13).f0)) || (!((((rd_T69 x0 x13).f1).toList) == (((rd_T69 x1 x13).f1).toList)))) = true then (some false) else (antecedentref09_SamePath.l0 k x0 x1 x12 (wrap64 (x13 + 1)))) else (none)) else (none)) else (none)) else (some true)
end Go.Proofs.YthebhbomlllpeaaGreatDoor.X
namespace Go.Proofs.YthebhbomlllpeaaGreatDoor.X
set_option linter.unusedVariables false
set_option linter.unusedSimpArgs false
open Go.RowKit Go.Proofs.YthebhbomlllpeaaGreatDoorW.PrintWords Go.Proofs.YthebhbomlllpeaaGreatDoorW.PrintLast Go.Proofs.YthebhbomlllpeaaGreatDoorW.PrintMore
theorem args_most (head : Bool) : ∀ (n : Nat) (acc : List TmS) (l : List TK) (x : List TmS × Int) (r : List TK), argsP head n acc l = .ok (x, r) → x.1.length ≤ acc.length + n
  | 0, acc, l, x, r, h => by simp only [argsP] at h; cases h
  | n + 1, acc, l, x, r, h => by
    simp only [argsP] at h
    split at h
    · cases h
    · split at h
      · obtain ⟨y, r1, _, h⟩ := bnd_ok h
        obtain ⟨_, r2, _, h⟩ := bnd_ok h
        injection h with h; injection h with e1 _
        rw [← e1]
        show (acc ++ [y]).length ≤ _
        simp
      · obtain ⟨y, r1, _, h⟩ := bnd_ok h
        split at h
        · have := args_most head n _ _ x r h
          simp only [List.length_append, List.length_cons, List.length_nil] at this
          omega
        · injection h with h; injection h with e1 _
          rw [← e1]
          show (acc ++ [y]).length ≤ _
          simp
theorem atom_most {head : Bool} {l : List TK} {x : AtS × Int} {r : List TK} (h : atomP head l = .ok (x, r)) : x.1.f1.length ≤ 9 := by
  unfold atomP at h
  obtain ⟨p, r1, _, h⟩ := bnd_ok h
  split at h
  · obtain ⟨a, r2, ha, h⟩ := bnd_ok h
    obtain ⟨_, r3, _, h⟩ := bnd_ok h
    injection h with h; injection h with e1 _
    rw [← e1]
    have := args_most head 9 [] _ a r2 ha
    simpa using this
  · injection h with h; injection h with e1 _
    rw [← e1]
    simp
theorem query_most {l : List TK} {p : PgS} {r : List TK} (h : programP l = .ok (p, r)) : p.f1.f1.length ≤ 9 := by
  unfold programP at h
  obtain ⟨rs, r1, _, h⟩ := bnd_ok h
  obtain ⟨q, r2, hq, h⟩ := bnd_ok h
  obtain ⟨_, r3, _, h⟩ := bnd_ok h
  injection h with h; injection h with e1 _
  rw [← e1]
  exact atom_most hq
/-- what the two texts give, where the first one is a question alone. -/
theorem facts_res {s : ByteArray} (hs : s.size ≤ 375) {rs qs : List RlS} {pn qn : ByteArray} {pa qa : List TmS} {a1 a2 f1 : Int}
    (h1 : parse_Parse.f (((⟨#[63, 45, 32]⟩ : ByteArray) ++ s) ++ (⟨#[46]⟩ : ByteArray)) = some (rs, pn, pa, a1, 0))
    (h2 : parse_Parse.f (((((s ++ (⟨#[46, 32, 120, 32, 58, 45, 32]⟩ : ByteArray)) ++ s) ++ (⟨#[44, 32, 110, 111, 116, 32]⟩ : ByteArray)) ++ s) ++ (⟨#[46, 32, 63, 45, 32, 120, 46]⟩ : ByteArray)) = some (qs, qn, qa, a2, f1)) (h0 : rs = []) :
    qs = [⟨⟨pn, pa⟩, 0, []⟩, ⟨⟨⟨#[120]⟩, []⟩, 0, [⟨1, ⟨pn, pa⟩, ⟨#[]⟩, noneT, noneT, noneT, []⟩, ⟨2, ⟨pn, pa⟩, ⟨#[]⟩, noneT, noneT, noneT, []⟩]⟩] ∧ pa.length ≤ 9 := by
  have e1 : ((⟨#[63, 45, 32]⟩ : ByteArray) ++ s) ++ (⟨#[46]⟩ : ByteArray) = baL (fact1 s.data.toList) := ba_eq (by simp [fact1])
  have e2 : ((((s ++ (⟨#[46, 32, 120, 32, 58, 45, 32]⟩ : ByteArray)) ++ s) ++ (⟨#[44, 32, 110, 111, 116, 32]⟩ : ByteArray)) ++ s) ++ (⟨#[46, 32, 63, 45, 32, 120, 46]⟩ : ByteArray) = baL (fact2 s.data.toList) := ba_eq (by simp [fact2])
  have hl : s.data.toList.length ≤ 375 := by rw [Array.length_toList]; exact hs
  have s1 : (baL (fact1 s.data.toList)).size ≤ 20000 := by
    show (fact1 s.data.toList).toArray.size ≤ _
    simp only [fact1, List.size_toArray, List.length_append, List.length_cons, List.length_nil]; omega
  have s2 : (baL (fact2 s.data.toList)).size ≤ 20000 := by
    show (fact2 s.data.toList).toArray.size ≤ _
    simp only [fact2, List.size_toArray, List.length_append, List.length_cons, List.length_nil]; omega
  rw [e1] at h1
  rw [e2] at h2
  unfold parse_Parse.f at h1 h2
  rw [if_pos (by omega)] at h1 h2
  cases hp : progO (fact1 s.data.toList) with
  | none =>
    have := parse_none (s := baL (fact1 s.data.toList)) s1 hp err_program
    injection h1 with h1
    injection h1 with _ h1; injection h1 with _ h1; injection h1 with _ h1; injection h1 with _ h1
    exact absurd h1 this
  | some p =>
    rw [parse_some (s := baL (fact1 s.data.toList)) s1 hp] at h1
    injection h1 with h1
    injection h1 with g1 h1; injection h1 with g2 h1; injection h1 with g3 h1
    have g1 : p.f0 = rs := g1
    have hq : p.f1 = ⟨pn, pa⟩ := by rw [← g2, ← g3]
    have := facts_law hp (g1.trans h0)
    rw [parse_some (s := baL (fact2 s.data.toList)) s2 this] at h2
    injection h2 with h2
    injection h2 with k1 h2
    rw [hq] at k1
    refine ⟨k1.symm, ?_⟩
    have hm : p.f1.f1.length ≤ 9 := by
      unfold progO at hp
      cases ht : tkO (fact1 s.data.toList) with
      | none => rw [ht] at hp; cases hp
      | some ts =>
        rw [ht, Option.bind_some] at hp
        split at hp
        · rename_i y hy
          injection hp with hp
          subst hp
          exact query_most hy
        · cases hp
    rw [hq] at hm
    exact hm
theorem atoms_l0 (p q : ByteArray) (l : List TmS) (hl : l.length ≤ 1000) : ∀ (d i k : Nat), l.length - i = d → i ≤ l.length → d < k → antecedentlaw08_atoms.l0 k (l.length : Int) (i : Int) p l q l = some true := by
  intro d
  induction d with
  | zero =>
    intro i k hd hi hk
    obtain ⟨k, rfl⟩ : ∃ j, k = j + 1 := ⟨k - 1, by omega⟩
    simp only [antecedentlaw08_atoms.l0]
    rw [if_neg (by omega)]
  | succ d ih =>
    intro i k hd hi hk
    obtain ⟨k, rfl⟩ : ∃ j, k = j + 1 := ⟨k - 1, by omega⟩
    simp only [antecedentlaw08_atoms.l0]
    rw [if_pos (by omega), if_pos (by omega), if_pos (by omega), if_pos (by omega), if_neg (by simp), show wrap64 ((i : Int) + 1) = ((i + 1 : Nat) : Int) by unfold wrap64; omega]
    exact ih (i + 1) k (by omega) (by omega) (by omega)
theorem atoms_same (p : ByteArray) (l : List TmS) (hl : l.length ≤ 1000) : antecedentlaw08_atoms.f 1100 p l p l = some true := by
  unfold antecedentlaw08_atoms.f
  rw [if_pos rfl, show ((l.length : Int) != (l.length : Int)) = false from bne_self_eq_false _]
  simp only [antecedentlaw08_atoms.j0, Bool.false_eq_true, if_false]
  exact atoms_l0 p p l hl _ 0 _ rfl (Nat.zero_le _) (by omega)
set_option maxHeartbeats 4000000 in
set_option maxRecDepth 100000 in
theorem facts_far (s : ByteArray) (hs : 375 < s.size) (w : World) (hLW : LaidW w) :
    Calls Tryz.prog 8 #[.string s] w fun e w' => e = .returned (.bool true) ∧ Below w.heap.size w w' := by
  have HA := Aside0.mk (fun V (h : LaidW V) => awake8_calls V h)
  have HLW := Aside0.mk hLW
  have e3 : decide ((375 : Int) < (s.size : Int)) = true := decide_eq_true (by omega)
  have e4 : decide (375 < s.size) = true := decide_eq_true hs
  clear hLW hs
  go_enter Tryz.func8, Tryz.ntmps8
  go_wp2_with fail
  refine (HA.out _ HLW.out).mono ?_
  rintro e w1 ⟨rfl, hb⟩
  have HB := Aside0.mk hb
  clear hb
  go_wp2_with fail
  refine (HA.out _ (HLW.out.below HB.out)).mono ?_
  rintro e w2 ⟨rfl, hb⟩
  have HB2 := Aside0.mk (below_then HB.out HB.out.size hb)
  clear hb
  go_wp2
  go_ret
  exact ⟨rfl, HB2.out⟩
theorem add4 (a : Addr) : a.add 4 = ⟨a.block, a.off + 4, none⟩ := by simp [Addr.add]
theorem add17 (a : Addr) : a.add 17 = ⟨a.block, a.off + 17, none⟩ := by simp [Addr.add]
abbrev factQ (pn : ByteArray) (pa : List TmS) : List RlS := [⟨⟨pn, pa⟩, 0, []⟩, ⟨⟨⟨#[120]⟩, []⟩, 0, [⟨1, ⟨pn, pa⟩, ⟨#[]⟩, noneT, noneT, noneT, []⟩, ⟨2, ⟨pn, pa⟩, ⟨#[]⟩, noneT, noneT, noneT, []⟩]⟩]
/-- the cells of the two rules, in a world. -/
structure FactC (V : World) (pn : ByteArray) (pa : List TmS) (ad ld : Addr) (A10 A30 A11 B0 B1 : Option Addr) (c10 c30 c11 c31 b0 b1 : Nat) : Prop where
  r0 : V.cell? ad = some (.string pn)
  r1 : V.cell? ⟨ad.block, ad.off + 1, none⟩ = some (.slice A10 pa.length c10)
  r2 : V.cell? ⟨ad.block, ad.off + 2, none⟩ = some (.int .i64 0)
  r3 : V.cell? ⟨ad.block, ad.off + 3, none⟩ = some (.slice A30 0 c30)
  r4 : V.cell? ⟨ad.block, ad.off + 4, none⟩ = some (.string ⟨#[120]⟩)
  r5 : V.cell? ⟨ad.block, ad.off + 4 + 1, none⟩ = some (.slice A11 0 c11)
  r6 : V.cell? ⟨ad.block, ad.off + 4 + 2, none⟩ = some (.int .i64 0)
  r7 : V.cell? ⟨ad.block, ad.off + 4 + 3, none⟩ = some (.slice (some ld) 2 c31)
  l0 : V.cell? ld = some (.int .i64 1)
  l1 : V.cell? ⟨ld.block, ld.off + 1, none⟩ = some (.string pn)
  l2 : V.cell? ⟨ld.block, ld.off + 2, none⟩ = some (.slice B0 pa.length b0)
  m0 : V.cell? ⟨ld.block, ld.off + 17, none⟩ = some (.int .i64 2)
  m1 : V.cell? ⟨ld.block, ld.off + 17 + 1, none⟩ = some (.string pn)
  m2 : V.cell? ⟨ld.block, ld.off + 17 + 2, none⟩ = some (.slice B1 pa.length b1)
  h0 : pa.length ≤ c10 ∧ Kd.C k60 V A10 pa.length pa
  h1 : pa.length ≤ b0 ∧ Kd.C k60 V B0 pa.length pa
  h2 : pa.length ≤ b1 ∧ Kd.C k60 V B1 pa.length pa
theorem fact_cells {V : World} {A : Option Addr} {pn : ByteArray} {pa : List TmS} (h : Kd.C k33 V A 2 (factQ pn pa)) : ∃ ad ld A10 A30 A11 B0 B1 c10 c30 c11 c31 b0 b1, A = some ad ∧ FactC V pn pa ad ld A10 A30 A11 B0 B1 c10 c30 c11 c31 b0 b1 := by
  obtain ⟨ad, A10, c10, A30, c30, rfl, x0, x1, x2, x3, y1, z1, _, _⟩ := at_T33 h 0 (by decide) (by decide)
  obtain ⟨ad', A11, c11, A31, c31, e, x4, x5, x6, x7, _, _, _, g3⟩ := at_T33 h 1 (by decide) (by decide)
  cases e
  obtain ⟨ld, B0, b0, _, _, rfl, u0, u1, u2, _, _, _, _, _, _, _, _, _, _, _, _, _, _, v1, v2, _, _⟩ := at_T62 g3 0 (by decide) (by show (0 : Int) < 2; decide)
  obtain ⟨ld', B1, b1, _, _, e, t0, t1, t2, _, _, _, _, _, _, _, _, _, _, _, _, _, _, s1, s2, _, _⟩ := at_T62 g3 1 (by decide) (by show (1 : Int) < 2; decide)
  cases e
  replace x0 : V.cell? (ad.add 0) = some (.string pn) := x0
  replace x1 : V.cell? ⟨(ad.add 0).block, (ad.add 0).off + 1, none⟩ = some (.slice A10 pa.length c10) := x1
  replace x2 : V.cell? ⟨(ad.add 0).block, (ad.add 0).off + 2, none⟩ = some (.int .i64 0) := x2
  replace x3 : V.cell? ⟨(ad.add 0).block, (ad.add 0).off + 3, none⟩ = some (.slice A30 0 c30) := x3
  replace x4 : V.cell? (ad.add 4) = some (.string ⟨#[120]⟩) := x4
  replace x5 : V.cell? ⟨(ad.add 4).block, (ad.add 4).off + 1, none⟩ = some (.slice A11 0 c11) := x5
  replace x6 : V.cell? ⟨(ad.add 4).block, (ad.add 4).off + 2, none⟩ = some (.int .i64 0) := x6
  replace x7 : V.cell? ⟨(ad.add 4).block, (ad.add 4).off + 3, none⟩ = some (.slice (some ld) 2 c31) := x7
  replace u0 : V.cell? (ld.add 0) = some (.int .i64 1) := u0
  replace u1 : V.cell? ⟨(ld.add 0).block, (ld.add 0).off + 1, none⟩ = some (.string pn) := u1
  replace u2 : V.cell? ⟨(ld.add 0).block, (ld.add 0).off + 2, none⟩ = some (.slice B0 pa.length b0) := u2
  replace t0 : V.cell? (ld.add 17) = some (.int .i64 2) := t0
  replace t1 : V.cell? ⟨(ld.add 17).block, (ld.add 17).off + 1, none⟩ = some (.string pn) := t1
  replace t2 : V.cell? ⟨(ld.add 17).block, (ld.add 17).off + 2, none⟩ = some (.slice B1 pa.length b1) := t2
  simp only [add0, add4, add17] at x0 x1 x2 x3 x4 x5 x6 x7 u0 u1 u2 t0 t1 t2
  exact ⟨ad, ld, A10, A30, A11, B0, B1, c10, c30, c11, c31, b0, b1, rfl, ⟨x0, x1, x2, x3, x4, x5, x6, x7, u0, u1, u2, t0, t1, t2, ⟨y1, z1⟩, ⟨v1, v2⟩, ⟨s1, s2⟩⟩⟩
theorem FactC.below {V V1 : World} {pn : ByteArray} {pa : List TmS} {ad ld : Addr} {A10 A30 A11 B0 B1 : Option Addr} {c10 c30 c11 c31 b0 b1 : Nat} (h : FactC V pn pa ad ld A10 A30 A11 B0 B1 c10 c30 c11 c31 b0 b1) (hb : Below V.heap.size V V1) : FactC V1 pn pa ad ld A10 A30 A11 B0 B1 c10 c30 c11 c31 b0 b1 :=
  ⟨pw_cell_below hb h.r0, pw_cell_below hb h.r1, pw_cell_below hb h.r2, pw_cell_below hb h.r3, pw_cell_below hb h.r4, pw_cell_below hb h.r5, pw_cell_below hb h.r6, pw_cell_below hb h.r7, pw_cell_below hb h.l0, pw_cell_below hb h.l1, pw_cell_below hb h.l2, pw_cell_below hb h.m0, pw_cell_below hb h.m1, pw_cell_below hb h.m2, ⟨h.h0.1, Kd.C_below h.h0.2 hb⟩, ⟨h.h1.1, Kd.C_below h.h1.2 hb⟩, ⟨h.h2.1, Kd.C_below h.h2.2 hb⟩⟩
structure FactS (V : World) (pn : ByteArray) (pa : List TmS) (ad ld : Addr) (A10 A30 A11 B0 B1 A0 A1 A3 : Option Addr) (c10 c30 c11 c31 b0 b1 c0 c1 c2 c3 n1 n2 n3 : Nat) (qn : ByteArray) (qa : List TmS) : Prop where
  f : FactC V pn pa ad ld A10 A30 A11 B0 B1 c10 c30 c11 c31 b0 b1
  b1 : V.heap[n1]? = some (.cells #[.slice A0 0 c0, .string pn, .slice A1 pa.length c1] 27 (0, 0))
  b2 : V.heap[n2]? = some (.cells #[.slice (some ad) 2 c2, .string qn, .slice A3 qa.length c3] 27 (0, 0))
  b3 : V.heap[n3]? = some (.cells #[.string ⟨#[120]⟩, .slice A11 0 c11, .int .i64 0, .slice (some ld) 2 c31] 33 (0, 0))
  kc : Kd.C k60 V A1 pa.length pa
theorem FactS.below {V V1 : World} {pn : ByteArray} {pa : List TmS} {ad ld : Addr} {A10 A30 A11 B0 B1 A0 A1 A3 : Option Addr} {c10 c30 c11 c31 b0 b1 c0 c1 c2 c3 n1 n2 n3 : Nat} {qn : ByteArray} {qa : List TmS} (h : FactS V pn pa ad ld A10 A30 A11 B0 B1 A0 A1 A3 c10 c30 c11 c31 b0 b1 c0 c1 c2 c3 n1 n2 n3 qn qa) (hb : Below V.heap.size V V1) : FactS V1 pn pa ad ld A10 A30 A11 B0 B1 A0 A1 A3 c10 c30 c11 c31 b0 b1 c0 c1 c2 c3 n1 n2 n3 qn qa :=
  ⟨h.f.below hb, blk_below h.b1 hb, blk_below h.b2 hb, blk_below h.b3 hb, Kd.C_below h.kc hb⟩
def factr.T : Bool × List (List Nat × List Nat) := (true, [([], []), ([0], [0]), ([1], [1]), ([2], [2]), ([3], [3]), ([], []), ([5], [5]), ([4, 6], [4, 6]), ([7, 7], [7]), ([8], [8]), ([9, 8], [8, 9]), ([10, 8], [8, 10]), ([11, 8], [8, 11]), ([8, 12], [8, 12]), ([13, 8], [13]), ([14], [14]), ([15, 14], [14, 15]), ([16, 14], [14, 16]), ([17, 14], [14, 17]), ([18, 14], [14, 18]), ([19, 14], [14, 19]), ([14, 20], [14, 20]), ([21, 14], [21]), ([22], [22]), ([23, 22], [22, 23]), ([24, 22], [22, 24]), ([25, 22], [22, 25]), ([26, 22], [22, 26]), ([27, 22], [22, 27]), ([22, 28], [22, 28]), ([29, 22], [29]), ([30], [30]), ([31, 30], [30, 31]), ([32, 30], [30, 32]), ([33, 30], [30, 33]), ([34, 30], [30, 34]), ([30], [30]), ([36, 30], [30, 36]), ([35, 37, 30, 30], [30, 35, 37]), ([30, 38], [30, 38]), ([39, 38], [39]), ([40], [40]), ([41, 40], [40, 41]), ([42, 40], [40, 42]), ([43, 40], [40, 43]), ([44, 40], [40, 44]), ([40], [40]), ([46, 40], [40, 46]), ([45, 47, 40, 40], [40, 45, 47]), ([40, 48], [40, 48]), ([49, 48], [49]), ([50], [50]), ([51, 50], [50, 51]), ([52, 50], [50, 52]), ([53, 50], [50, 53]), ([54, 50], [50, 54]), ([55, 50], [50, 55]), ([50, 56], [50, 56]), ([57, 50, 0, 1, 2, 3, 4, 5, 6, 7, 8, 9, 10, 11, 12, 13, 14, 15, 16, 17, 18, 19, 20, 21, 22, 23, 24, 25, 26, 27, 28, 29, 30, 31, 32, 33, 34, 35, 36, 37, 38, 39, 40, 41, 42, 43, 44, 45, 46, 47, 48, 49, 50, 51, 52, 53, 54, 55, 56, 57], [57])])
def factr.B : List Nat := [0, 1, 3, 7, 15, 0, 32, 127, 255, 511, 1023, 2047, 4095, 8191, 16383, 32767, 65535, 131071, 262143, 524287, 1048575, 2097151, 4194303, 8388607, 16777215, 33554431, 67108863, 134217727, 268435455, 536870911, 1073741823, 2147483647, 4294967295, 8589934591, 17179869183, 34359738367, 2147483647, 70866960383, 274877906943, 549755813887, 1099511627775, 2199023255551, 4398046511103, 8796093022207, 17592186044415, 35184372088831, 2199023255551, 72567767433215, 281474976710655, 562949953421311, 1125899906842623, 2251799813685247, 4503599627370495, 9007199254740991, 18014398509481983, 36028797018963967, 72057594037927935, 144115188075855871, 288230376151711743]
theorem factr.tab : rtab .any (opsOf Tryz.f8 8) = factr.T := by kernel_rfl
theorem factr.bits : waitsOk factr.T.2 factr.B = true := by kernel_rfl
set_option maxHeartbeats 8000000 in
set_option maxRecDepth 100000 in
theorem facts_near (s : ByteArray) (hs : s.size ≤ 375) (w : World) (hLW : LaidW w) :
    Calls Tryz.prog 8 #[.string s] w fun e w' => e = .returned (.bool true) ∧ Below w.heap.size w w' := by
  have HA := Aside0.mk (fun V (h : LaidW V) => awake8_calls V h)
  have HLW := Aside0.mk hLW
  have e3 : decide ((375 : Int) < (s.size : Int)) = false := decide_eq_false (by omega)
  have e4 : decide (375 < s.size) = false := decide_eq_false (by omega)
  obtain ⟨t1, ht1⟩ : ∃ t, ((⟨#[63, 45, 32]⟩ : ByteArray) ++ s) ++ (⟨#[46]⟩ : ByteArray) = t := ⟨_, rfl⟩
  obtain ⟨t2, ht2⟩ : ∃ t, ((((s ++ (⟨#[46, 32, 120, 32, 58, 45, 32]⟩ : ByteArray)) ++ s) ++ (⟨#[44, 32, 110, 111, 116, 32]⟩ : ByteArray)) ++ s) ++ (⟨#[46, 32, 63, 45, 32, 120, 46]⟩ : ByteArray) = t := ⟨_, rfl⟩
  have hs1 : t1.size ≤ 20000 := by rw [← ht1]; simp only [ByteArray.size_append]; show 3 + s.size + 1 ≤ _; omega
  have hs2 : t2.size ≤ 20000 := by rw [← ht2]; simp only [ByteArray.size_append]; show s.size + 7 + s.size + 6 + s.size + 7 ≤ _; omega
  obtain ⟨⟨rs, pn, pa, a1, e1⟩, h1⟩ : ∃ x, parse_Parse.f t1 = some x := ⟨_, by unfold parse_Parse.f; rw [if_pos (by omega)]⟩
  obtain ⟨⟨qs, qn, qa, a2, f1⟩, h2⟩ : ∃ x, parse_Parse.f t2 = some x := ⟨_, by unfold parse_Parse.f; rw [if_pos (by omega)]⟩
  have HP1 := Aside0.mk (fun V (h : LaidW V) => parse_Parse.calls t1 rs pn pa a1 e1 V h h1)
  have HP2 := Aside0.mk (fun V (h : LaidW V) => parse_Parse.calls t2 qs qn qa a2 f1 V h h2)
  have HRES := Aside0.mk (fun (he : e1 = 0) (h0 : rs = []) => facts_res hs (by rw [ht1, h1, he]) (by rw [ht2]; exact h2) h0)
  have HT1 := Aside0.mk ht1
  have HT2 := Aside0.mk ht2
  have k1 : (9223372036854775807 < 3 + s.size) = False := eq_false (by omega)
  have k2 : (9223372036854775807 < 3 + s.size + 1) = False := eq_false (by omega)
  have k3 : (9223372036854775807 < s.size + 7) = False := eq_false (by omega)
  have k4 : (9223372036854775807 < s.size + 7 + s.size) = False := eq_false (by omega)
  have k5 : (9223372036854775807 < s.size + 7 + s.size + 6) = False := eq_false (by omega)
  have k6 : (9223372036854775807 < s.size + 7 + s.size + 6 + s.size) = False := eq_false (by omega)
  have k7 : (9223372036854775807 < s.size + 7 + s.size + 6 + s.size + 7) = False := eq_false (by omega)
  clear hLW hs hs1 hs2 h1 h2 ht1 ht2
  go_enter Tryz.func8, Tryz.ntmps8
  go_wp2_with fail
  refine (HA.out _ HLW.out).mono ?_
  rintro e w1 ⟨rfl, hb⟩
  have HB := Aside0.mk hb
  clear hb
  go_wp2_with fail
  rw [HT1.out]
  refine (HP1.out _ (HLW.out.below HB.out)).mono ?_
  rintro e w2 ⟨v0, v1, rfl, g0, g1, hb⟩
  obtain ⟨A0, c0, rfl⟩ := Kd.R_slice g0
  obtain ⟨A1, c1, rfl⟩ := Kd.R_slice g1
  have HG0 := Aside0.mk (Kd.R_mono (ok' := fun _ => True) g0 (fun _ _ => trivial))
  have HG1 := Aside0.mk (Kd.R_mono (ok' := fun _ => True) g1 (fun _ _ => trivial))
  have HB2 := Aside0.mk (below_then HB.out HB.out.size hb)
  clear g0 g1 hb
  obtain ⟨n1, en1⟩ : ∃ n, w2.heap.size = n := ⟨_, rfl⟩
  have hN1 := blk_new w2 (.cells #[.slice A0 rs.length c0, .string pn, .slice A1 pa.length c1] 27)
  rw [en1] at hN1
  have HN1 := Aside0.mk hN1
  have HBA := Aside0.mk (below_alloc HB2.out (.cells #[.slice A0 rs.length c0, .string pn, .slice A1 pa.length c1] 27))
  have HC0 := Aside0.mk (Kd.C_below (Kd.R_reads' HG0.out).2.2 (below_alloc (Below.refl w2.heap.size w2) (.cells #[.slice A0 rs.length c0, .string pn, .slice A1 pa.length c1] 27)))
  have HC1 := Aside0.mk (Kd.C_below (Kd.R_reads' HG1.out).2.2 (below_alloc (Below.refl w2.heap.size w2) (.cells #[.slice A0 rs.length c0, .string pn, .slice A1 pa.length c1] 27)))
  have HL1 := Aside0.mk (And.intro (Kd.R_reads' HG0.out).2.1 (Kd.R_reads' HG1.out).2.1)
  clear hN1
  go_wp2_with fail
  rw [HT2.out]
  generalize w2.alloc (.cells #[.slice A0 rs.length c0, .string pn, .slice A1 pa.length c1] 27) = W1 at HN1 HBA HC0 HC1 ⊢
  refine (HP2.out _ (HLW.out.below HBA.out)).mono ?_
  rintro e w3 ⟨v2, v3, rfl, g2, g3, hb⟩
  obtain ⟨A2, c2, rfl⟩ := Kd.R_slice g2
  obtain ⟨A3, c3, rfl⟩ := Kd.R_slice g3
  obtain ⟨n2, en2⟩ : ∃ n, w3.heap.size = n := ⟨_, rfl⟩
  have hb3 := below_alloc hb (.cells #[.slice A2 qs.length c2, .string qn, .slice A3 qa.length c3] 27)
  have hN2 := blk_new w3 (.cells #[.slice A2 qs.length c2, .string qn, .slice A3 qa.length c3] 27)
  rw [en2] at hN2
  have HN2 := Aside0.mk hN2
  have HN1' := Aside0.mk (blk_below HN1.out hb3)
  have HB3 := Aside0.mk (below_then HBA.out HBA.out.size hb3)
  have HQ0 := Aside0.mk (Kd.C_below (Kd.R_reads' g2).2.2 (below_alloc (Below.refl w3.heap.size w3) (.cells #[.slice A2 qs.length c2, .string qn, .slice A3 qa.length c3] 27)))
  have HR0 := Aside0.mk (Kd.C_below HC0.out hb3)
  have HR1 := Aside0.mk (Kd.C_below HC1.out hb3)
  clear hN2 g2 g3 hb hb3
  go_upto_region 5 with (fail)
  generalize w3.alloc (.cells #[.slice A2 qs.length c2, .string qn, .slice A3 qa.length c3] 27) = W at HN1' HN2 HB3 HQ0 HR0 HR1 ⊢
  have d0 : W.cell? ⟨n1, 0, none⟩ = some (.slice A0 rs.length c0) := (blk_cell HN1'.out 0).trans rfl
  have q0 : W.cell? ⟨n2, 0, none⟩ = some (.slice A2 qs.length c2) := (blk_cell HN2.out 0).trans rfl
  by_cases he1 : e1 = 0
  case neg =>
    have z1 : (e1 != 0) = true := bne_iff_ne.2 he1
    have z2 : (e1 == 0) = false := beq_eq_false_iff_ne.2 he1
    clear he1
    go_wp2
    go_ret
    exact ⟨rfl, HB3.out⟩
  subst he1
  by_cases hf1 : f1 = 0
  case neg =>
    have z1 : (f1 != 0) = true := bne_iff_ne.2 hf1
    have z2 : (f1 == 0) = false := beq_eq_false_iff_ne.2 hf1
    clear hf1
    go_wp2
    go_ret
    exact ⟨rfl, HB3.out⟩
  subst hf1
  by_cases hq2 : qs.length = 2
  case neg =>
    have z1 : ((qs.length : Int) != 2) = true := bne_iff_ne.2 (by omega)
    have z2 : ((qs.length : Int) == 2) = false := beq_eq_false_iff_ne.2 (by omega)
    clear hq2
    go_wp2
    go_ret
    exact ⟨rfl, HB3.out⟩
  by_cases hr0 : rs = []
  case neg =>
    have hr1 : rs.length ≠ 0 := fun h => hr0 (List.length_eq_zero_iff.1 h)
    have z1 : ((rs.length : Int) != 0) = true := bne_iff_ne.2 (by omega)
    have z2 : ((rs.length : Int) == 0) = false := beq_eq_false_iff_ne.2 (by omega)
    rw [hq2] at q0 ⊢
    clear hq2 hr0 hr1
    go_wp2
    go_ret
    exact ⟨rfl, HB3.out⟩
  obtain ⟨hqs, hpl⟩ := HRES.out rfl hr0
  subst hr0
  subst hqs
  have HAT := Aside0.mk (fun (B B' : Option Addr) (c c' : Nat) (V : World) (g : Kd.C k60 V B pa.length pa) (hc : pa.length ≤ c) (g' : Kd.C k60 V B' pa.length pa) (hc' : pa.length ≤ c') => antecedentlaw08_atoms.calls 1100 pn B c pa pn B' c' pa true V g hc g' hc' (atoms_same pn pa (by omega)))
  clear hq2 hpl
  simp only [List.length_cons, List.length_nil] at q0 d0 ⊢
  obtain ⟨ad, ld, A10, A30, A11, B0, B1, c10, c30, c11, c31, b0, b1, rfl, hF⟩ := fact_cells HQ0.out
  have r4 := hF.r4
  have r5 := hF.r5
  have r6 := hF.r6
  have r7 := hF.r7
  obtain ⟨n3, en3⟩ : ∃ n, W.heap.size = n := ⟨_, rfl⟩
  have hb3 := below_alloc (Below.refl W.heap.size W) (.cells #[.string ⟨#[120]⟩, .slice A11 0 c11, .int .i64 0, .slice (some ld) 2 c31] 33)
  have hN3 := blk_new W (.cells #[.string ⟨#[120]⟩, .slice A11 0 c11, .int .i64 0, .slice (some ld) 2 c31] 33)
  rw [en3] at hN3
  have HS := Aside0.mk (FactS.mk (hF.below hb3) (blk_below HN1'.out hb3) (blk_below HN2.out hb3) hN3 (Kd.C_below HR1.out hb3))
  have HBV := Aside0.mk (below_then HB3.out HB3.out.size hb3)
  clear hb3 hN3 hF HN1' HN2 HQ0 HR0 HR1 HB3
  go_wp2_with fail
  clear r4 r5 r6 r7 d0 q0
  generalize W.alloc (.cells #[.string ⟨#[120]⟩, .slice A11 0 c11, .int .i64 0, .slice (some ld) 2 c31] 33) = W3 at HS HBV ⊢
  replace HS := Aside0.mk (HS.out.below (below_drew1 (Below.refl W3.heap.size W3)))
  replace HBV := Aside0.mk (below_drew1 HBV.out)
  refine start_ (n := 59) (S := fun w' => FactS w' pn pa ad ld A10 A30 A11 B0 B1 A0 A1 A3 c10 c30 c11 c31 b0 b1 c0 c1 c2 c3 n1 n2 n3 qn qa) (ds := []) #[false, false, false, false, false, false, false, false, false, false, false, false, false, false, false, false, false, false, false, false, false, false, false, false, false, false, false, false, false, false, false, false, false, false, false, false, false, false, false, false, false, false, false, false, false, false, false, false, false, false, false, false, false, false, false, false, false, false, false] (by kernel_rfl) rfl rfl (HS.out) (fun hHeld => ?_); refine with_tabW factr.tab factr.bits (fun HT_ HW_ => ?_)
  clear HS
  generalize W3.drew = V at HBV hHeld ⊢
  refine pure_ (i := 0) (N := some 61) (v := ?_) (a' := ?_) #[true, false, false, false, false, false, false, false, false, false, false, false, false, false, false, false, false, false, false, false, false, false, false, false, false, false, false, false, false, false, false, false, false, false, false, false, false, false, false, false, false, false, false, false, false, false, false, false, false, false, false, false, false, false, false, false, false, false, false] rfl rfl (any_of HT_.out (by kernel_rfl)) (fun _ _ _ h => h) (Or.inl ⟨by rfl, ?_⟩) ?_ ?_
  rotate_left
  · intro w'
    go_simp
    with_reducible rfl
  rotate_left
  · simp only [Act.put, List.setIfInBounds_toArray, List.set_cons_zero, List.set_cons_succ, i64_w, i32_w]
    rfl
  refine take_ (i := 1) (N := some 62) (v := ?_) (a' := ?_) #[true, true, false, false, false, false, false, false, false, false, false, false, false, false, false, false, false, false, false, false, false, false, false, false, false, false, false, false, false, false, false, false, false, false, false, false, false, false, false, false, false, false, false, false, false, false, false, false, false, false, false, false, false, false, false, false, false, false, false] rfl rfl (take_ofW HT_.out HW_.out (by kernel_rfl)) (fun _ _ _ h => h) (Or.inl ⟨by rfl, ?_⟩) hHeld ?_ ?_
  rotate_left
  · intro w' sS
    have f0 : w'.cell? ⟨n2, 0, none⟩ = some (.slice (some ad) 2 c2) := (blk_cell sS.b2 0).trans rfl
    clear sS
    go_simp
    with_reducible rfl
  rotate_left
  · simp only [Act.put, List.setIfInBounds_toArray, List.set_cons_zero, List.set_cons_succ, i64_w, i32_w]
    rfl
  refine pure_ (i := 2) (N := some 63) (v := ?_) (a' := ?_) #[true, true, true, false, false, false, false, false, false, false, false, false, false, false, false, false, false, false, false, false, false, false, false, false, false, false, false, false, false, false, false, false, false, false, false, false, false, false, false, false, false, false, false, false, false, false, false, false, false, false, false, false, false, false, false, false, false, false, false] rfl rfl (any_of HT_.out (by kernel_rfl)) (fun _ _ _ h => h) (Or.inl ⟨by rfl, ?_⟩) ?_ ?_
  rotate_left
  · intro w'
    go_simp
    with_reducible rfl
  rotate_left
  · simp only [Act.put, List.setIfInBounds_toArray, List.set_cons_zero, List.set_cons_succ, i64_w, i32_w]
    rfl
  refine pure_ (i := 3) (N := some 64) (v := ?_) (a' := ?_) #[true, true, true, true, false, false, false, false, false, false, false, false, false, false, false, false, false, false, false, false, false, false, false, false, false, false, false, false, false, false, false, false, false, false, false, false, false, false, false, false, false, false, false, false, false, false, false, false, false, false, false, false, false, false, false, false, false, false, false] rfl rfl (any_of HT_.out (by kernel_rfl)) (fun _ _ _ h => h) (Or.inl ⟨by rfl, ?_⟩) ?_ ?_
  rotate_left
  · intro w'
    go_simp
    with_reducible rfl
  rotate_left
  · simp only [Act.put, List.setIfInBounds_toArray, List.set_cons_zero, List.set_cons_succ, i64_w, i32_w]
    rfl
  refine take_ (i := 4) (N := some 65) (v := ?_) (a' := ?_) #[true, true, true, true, true, false, false, false, false, false, false, false, false, false, false, false, false, false, false, false, false, false, false, false, false, false, false, false, false, false, false, false, false, false, false, false, false, false, false, false, false, false, false, false, false, false, false, false, false, false, false, false, false, false, false, false, false, false, false] rfl rfl (take_ofW HT_.out HW_.out (by kernel_rfl)) (fun _ _ _ h => h) (Or.inl ⟨by rfl, ?_⟩) hHeld ?_ ?_
  rotate_left
  · intro w' sS
    have r0 := sS.f.r0
    have r1 := sS.f.r1
    clear sS
    go_simp
    with_reducible rfl
  rotate_left
  · simp only [Act.put, List.setIfInBounds_toArray, List.set_cons_zero, List.set_cons_succ, i64_w, i32_w]
    rfl
  refine pure_ (i := 5) (N := some 66) (v := ?_) (a' := ?_) #[true, true, true, true, true, true, false, false, false, false, false, false, false, false, false, false, false, false, false, false, false, false, false, false, false, false, false, false, false, false, false, false, false, false, false, false, false, false, false, false, false, false, false, false, false, false, false, false, false, false, false, false, false, false, false, false, false, false, false] rfl rfl (any_of HT_.out (by kernel_rfl)) (fun _ _ _ h => h) (Or.inl ⟨by rfl, ?_⟩) ?_ ?_
  rotate_left
  · intro w'
    go_simp
    with_reducible rfl
  rotate_left
  · simp only [Act.put, List.setIfInBounds_toArray, List.set_cons_zero, List.set_cons_succ, i64_w, i32_w]
    rfl
  refine take_ (i := 6) (N := some 67) (v := ?_) (a' := ?_) #[true, true, true, true, true, true, true, false, false, false, false, false, false, false, false, false, false, false, false, false, false, false, false, false, false, false, false, false, false, false, false, false, false, false, false, false, false, false, false, false, false, false, false, false, false, false, false, false, false, false, false, false, false, false, false, false, false, false, false] rfl rfl (take_ofW HT_.out HW_.out (by kernel_rfl)) (fun _ _ _ h => h) (Or.inl ⟨by rfl, ?_⟩) hHeld ?_ ?_
  rotate_left
  · intro w' sS
    have f1 : w'.cell? ⟨n1, 1, none⟩ = some (.string pn) := (blk_cell sS.b1 1).trans rfl
    have f2 : w'.cell? ⟨n1, 2, none⟩ = some (.slice A1 pa.length c1) := (blk_cell sS.b1 2).trans rfl
    clear sS
    go_simp
    with_reducible rfl
  rotate_left
  · simp only [Act.put, List.setIfInBounds_toArray, List.set_cons_zero, List.set_cons_succ, i64_w, i32_w]
    rfl
  refine one_ (i := 7) (N := some 68) #[true, true, true, true, true, true, true, true, false, false, false, false, false, false, false, false, false, false, false, false, false, false, false, false, false, false, false, false, false, false, false, false, false, false, false, false, false, false, false, false, false, false, false, false, false, false, false, false, false, false, false, false, false, false, false, false, false, false, false] rfl rfl (one_of HT_.out (by kernel_rfl)) (by decide) (fun K hK => ?_)
  refine goes_ Tryz.func35 (by kernel_rfl) rfl #[.agg #[.string pn, .slice A10 pa.length c10], .agg #[.string pn, .slice A1 pa.length c1]] (by rfl) rfl rfl (by (try simp only [List.map_toArray, List.map_cons, List.map_nil]); first | done | rfl) ?_
  refine (HAT.out A10 A1 c10 c1 _ hHeld.f.h0.2 hHeld.f.h0.1 hHeld.kc HL1.out.2).mono ?_
  rintro e V2 ⟨rfl, hb⟩
  refine ⟨_, rfl, ?_⟩
  replace HBV := Aside0.mk (below_then HBV.out HBV.out.size hb)
  replace hHeld := hHeld.below hb
  clear hb
  refine hK.out _ _ (hHeld) (fun hHeld => ?_)
  clear hK K
  refine norm_ (a' := ?_) ?_ ?_
  rotate_left
  · show Act.put _ (some 68) _ = _
    simp only [Act.put, List.setIfInBounds_toArray, List.set_cons_zero, List.set_cons_succ, i64_w, i32_w]
    rfl
  refine pure_ (i := 8) (N := some 69) (v := ?_) (a' := ?_) #[true, true, true, true, true, true, true, true, true, false, false, false, false, false, false, false, false, false, false, false, false, false, false, false, false, false, false, false, false, false, false, false, false, false, false, false, false, false, false, false, false, false, false, false, false, false, false, false, false, false, false, false, false, false, false, false, false, false, false] rfl rfl (any_of HT_.out (by kernel_rfl)) (fun _ _ _ h => h) (Or.inl ⟨by rfl, ?_⟩) ?_ ?_
  rotate_left
  · intro w'
    go_simp
    with_reducible rfl
  rotate_left
  · simp only [Act.put, List.setIfInBounds_toArray, List.set_cons_zero, List.set_cons_succ, i64_w, i32_w]
    rfl
  refine pure_ (i := 9) (N := some 70) (v := ?_) (a' := ?_) #[true, true, true, true, true, true, true, true, true, true, false, false, false, false, false, false, false, false, false, false, false, false, false, false, false, false, false, false, false, false, false, false, false, false, false, false, false, false, false, false, false, false, false, false, false, false, false, false, false, false, false, false, false, false, false, false, false, false, false] rfl rfl (any_of HT_.out (by kernel_rfl)) (fun _ _ _ h => h) (Or.inl ⟨by rfl, ?_⟩) ?_ ?_
  rotate_left
  · intro w'
    go_simp
    with_reducible rfl
  rotate_left
  · simp only [Act.put, List.setIfInBounds_toArray, List.set_cons_zero, List.set_cons_succ, i64_w, i32_w]
    rfl
  refine take_ (i := 10) (N := some 71) (v := ?_) (a' := ?_) #[true, true, true, true, true, true, true, true, true, true, true, false, false, false, false, false, false, false, false, false, false, false, false, false, false, false, false, false, false, false, false, false, false, false, false, false, false, false, false, false, false, false, false, false, false, false, false, false, false, false, false, false, false, false, false, false, false, false, false] rfl rfl (take_ofW HT_.out HW_.out (by kernel_rfl)) (fun _ _ _ h => h) (Or.inl ⟨by rfl, ?_⟩) hHeld ?_ ?_
  rotate_left
  · intro w' sS
    have f3 : w'.cell? ⟨n3, 3, none⟩ = some (.slice (some ld) 2 c31) := (blk_cell sS.b3 3).trans rfl
    clear sS
    go_simp
    with_reducible rfl
  rotate_left
  · simp only [Act.put, List.setIfInBounds_toArray, List.set_cons_zero, List.set_cons_succ, i64_w, i32_w]
    rfl
  refine pure_ (i := 11) (N := some 72) (v := ?_) (a' := ?_) #[true, true, true, true, true, true, true, true, true, true, true, true, false, false, false, false, false, false, false, false, false, false, false, false, false, false, false, false, false, false, false, false, false, false, false, false, false, false, false, false, false, false, false, false, false, false, false, false, false, false, false, false, false, false, false, false, false, false, false] rfl rfl (any_of HT_.out (by kernel_rfl)) (fun _ _ _ h => h) (Or.inl ⟨by rfl, ?_⟩) ?_ ?_
  rotate_left
  · intro w'
    go_simp
    with_reducible rfl
  rotate_left
  · simp only [Act.put, List.setIfInBounds_toArray, List.set_cons_zero, List.set_cons_succ, i64_w, i32_w]
    rfl
  refine pure_ (i := 12) (N := some 73) (v := ?_) (a' := ?_) #[true, true, true, true, true, true, true, true, true, true, true, true, true, false, false, false, false, false, false, false, false, false, false, false, false, false, false, false, false, false, false, false, false, false, false, false, false, false, false, false, false, false, false, false, false, false, false, false, false, false, false, false, false, false, false, false, false, false, false] rfl rfl (any_of HT_.out (by kernel_rfl)) (fun _ _ _ h => h) (Or.inl ⟨by rfl, ?_⟩) ?_ ?_
  rotate_left
  · intro w'
    go_simp
    with_reducible rfl
  rotate_left
  · simp only [Act.put, List.setIfInBounds_toArray, List.set_cons_zero, List.set_cons_succ, i64_w, i32_w]
    rfl
  refine pure_ (i := 13) (N := some 74) (v := ?_) (a' := ?_) #[true, true, true, true, true, true, true, true, true, true, true, true, true, true, false, false, false, false, false, false, false, false, false, false, false, false, false, false, false, false, false, false, false, false, false, false, false, false, false, false, false, false, false, false, false, false, false, false, false, false, false, false, false, false, false, false, false, false, false] rfl rfl (any_of HT_.out (by kernel_rfl)) (fun _ _ _ h => h) (Or.inl ⟨by rfl, ?_⟩) ?_ ?_
  rotate_left
  · intro w'
    go_simp
    with_reducible rfl
  rotate_left
  · simp only [Act.put, List.setIfInBounds_toArray, List.set_cons_zero, List.set_cons_succ, i64_w, i32_w]
    rfl
  refine pure_ (i := 14) (N := some 75) (v := ?_) (a' := ?_) #[true, true, true, true, true, true, true, true, true, true, true, true, true, true, true, false, false, false, false, false, false, false, false, false, false, false, false, false, false, false, false, false, false, false, false, false, false, false, false, false, false, false, false, false, false, false, false, false, false, false, false, false, false, false, false, false, false, false, false] rfl rfl (any_of HT_.out (by kernel_rfl)) (fun _ _ _ h => h) (Or.inl ⟨by rfl, ?_⟩) ?_ ?_
  rotate_left
  · intro w'
    go_simp
    with_reducible rfl
  rotate_left
  · simp only [Act.put, List.setIfInBounds_toArray, List.set_cons_zero, List.set_cons_succ, i64_w, i32_w]
    rfl
  refine pure_ (i := 15) (N := some 76) (v := ?_) (a' := ?_) #[true, true, true, true, true, true, true, true, true, true, true, true, true, true, true, true, false, false, false, false, false, false, false, false, false, false, false, false, false, false, false, false, false, false, false, false, false, false, false, false, false, false, false, false, false, false, false, false, false, false, false, false, false, false, false, false, false, false, false] rfl rfl (any_of HT_.out (by kernel_rfl)) (fun _ _ _ h => h) (Or.inl ⟨by rfl, ?_⟩) ?_ ?_
  rotate_left
  · intro w'
    go_simp
    with_reducible rfl
  rotate_left
  · simp only [Act.put, List.setIfInBounds_toArray, List.set_cons_zero, List.set_cons_succ, i64_w, i32_w]
    rfl
  refine take_ (i := 16) (N := some 77) (v := ?_) (a' := ?_) #[true, true, true, true, true, true, true, true, true, true, true, true, true, true, true, true, true, false, false, false, false, false, false, false, false, false, false, false, false, false, false, false, false, false, false, false, false, false, false, false, false, false, false, false, false, false, false, false, false, false, false, false, false, false, false, false, false, false, false] rfl rfl (take_ofW HT_.out HW_.out (by kernel_rfl)) (fun _ _ _ h => h) (Or.inl ⟨by rfl, ?_⟩) hHeld ?_ ?_
  rotate_left
  · intro w' sS
    have f3 : w'.cell? ⟨n3, 3, none⟩ = some (.slice (some ld) 2 c31) := (blk_cell sS.b3 3).trans rfl
    clear sS
    go_simp
    with_reducible rfl
  rotate_left
  · simp only [Act.put, List.setIfInBounds_toArray, List.set_cons_zero, List.set_cons_succ, i64_w, i32_w]
    rfl
  refine pure_ (i := 17) (N := some 78) (v := ?_) (a' := ?_) #[true, true, true, true, true, true, true, true, true, true, true, true, true, true, true, true, true, true, false, false, false, false, false, false, false, false, false, false, false, false, false, false, false, false, false, false, false, false, false, false, false, false, false, false, false, false, false, false, false, false, false, false, false, false, false, false, false, false, false] rfl rfl (any_of HT_.out (by kernel_rfl)) (fun _ _ _ h => h) (Or.inl ⟨by rfl, ?_⟩) ?_ ?_
  rotate_left
  · intro w'
    go_simp
    with_reducible rfl
  rotate_left
  · simp only [Act.put, List.setIfInBounds_toArray, List.set_cons_zero, List.set_cons_succ, i64_w, i32_w]
    rfl
  refine pure_ (i := 18) (N := some 79) (v := ?_) (a' := ?_) #[true, true, true, true, true, true, true, true, true, true, true, true, true, true, true, true, true, true, true, false, false, false, false, false, false, false, false, false, false, false, false, false, false, false, false, false, false, false, false, false, false, false, false, false, false, false, false, false, false, false, false, false, false, false, false, false, false, false, false] rfl rfl (any_of HT_.out (by kernel_rfl)) (fun _ _ _ h => h) (Or.inl ⟨by rfl, ?_⟩) ?_ ?_
  rotate_left
  · intro w'
    go_simp
    with_reducible rfl
  rotate_left
  · simp only [Act.put, List.setIfInBounds_toArray, List.set_cons_zero, List.set_cons_succ, i64_w, i32_w]
    rfl
  refine take_ (i := 19) (N := some 80) (v := ?_) (a' := ?_) #[true, true, true, true, true, true, true, true, true, true, true, true, true, true, true, true, true, true, true, true, false, false, false, false, false, false, false, false, false, false, false, false, false, false, false, false, false, false, false, false, false, false, false, false, false, false, false, false, false, false, false, false, false, false, false, false, false, false, false] rfl rfl (take_ofW HT_.out HW_.out (by kernel_rfl)) (fun _ _ _ h => h) (Or.inl ⟨by rfl, ?_⟩) hHeld ?_ ?_
  rotate_left
  · intro w' sS
    have l0 := sS.f.l0
    clear sS
    go_simp
    with_reducible rfl
  rotate_left
  · simp only [Act.put, List.setIfInBounds_toArray, List.set_cons_zero, List.set_cons_succ, i64_w, i32_w]
    rfl
  refine pure_ (i := 20) (N := some 81) (v := ?_) (a' := ?_) #[true, true, true, true, true, true, true, true, true, true, true, true, true, true, true, true, true, true, true, true, true, false, false, false, false, false, false, false, false, false, false, false, false, false, false, false, false, false, false, false, false, false, false, false, false, false, false, false, false, false, false, false, false, false, false, false, false, false, false] rfl rfl (any_of HT_.out (by kernel_rfl)) (fun _ _ _ h => h) (Or.inl ⟨by rfl, ?_⟩) ?_ ?_
  rotate_left
  · intro w'
    go_simp
    with_reducible rfl
  rotate_left
  · simp only [Act.put, List.setIfInBounds_toArray, List.set_cons_zero, List.set_cons_succ, i64_w, i32_w]
    rfl
  refine pure_ (i := 21) (N := some 82) (v := ?_) (a' := ?_) #[true, true, true, true, true, true, true, true, true, true, true, true, true, true, true, true, true, true, true, true, true, true, false, false, false, false, false, false, false, false, false, false, false, false, false, false, false, false, false, false, false, false, false, false, false, false, false, false, false, false, false, false, false, false, false, false, false, false, false] rfl rfl (any_of HT_.out (by kernel_rfl)) (fun _ _ _ h => h) (Or.inl ⟨by rfl, ?_⟩) ?_ ?_
  rotate_left
  · intro w'
    go_simp
    with_reducible rfl
  rotate_left
  · simp only [Act.put, List.setIfInBounds_toArray, List.set_cons_zero, List.set_cons_succ, i64_w, i32_w]
    rfl
  refine pure_ (i := 22) (N := some 83) (v := ?_) (a' := ?_) #[true, true, true, true, true, true, true, true, true, true, true, true, true, true, true, true, true, true, true, true, true, true, true, false, false, false, false, false, false, false, false, false, false, false, false, false, false, false, false, false, false, false, false, false, false, false, false, false, false, false, false, false, false, false, false, false, false, false, false] rfl rfl (any_of HT_.out (by kernel_rfl)) (fun _ _ _ h => h) (Or.inl ⟨by rfl, ?_⟩) ?_ ?_
  rotate_left
  · intro w'
    go_simp
    with_reducible rfl
  rotate_left
  · simp only [Act.put, List.setIfInBounds_toArray, List.set_cons_zero, List.set_cons_succ, i64_w, i32_w]
    rfl
  refine pure_ (i := 23) (N := some 84) (v := ?_) (a' := ?_) #[true, true, true, true, true, true, true, true, true, true, true, true, true, true, true, true, true, true, true, true, true, true, true, true, false, false, false, false, false, false, false, false, false, false, false, false, false, false, false, false, false, false, false, false, false, false, false, false, false, false, false, false, false, false, false, false, false, false, false] rfl rfl (any_of HT_.out (by kernel_rfl)) (fun _ _ _ h => h) (Or.inl ⟨by rfl, ?_⟩) ?_ ?_
  rotate_left
  · intro w'
    go_simp
    with_reducible rfl
  rotate_left
  · simp only [Act.put, List.setIfInBounds_toArray, List.set_cons_zero, List.set_cons_succ, i64_w, i32_w]
    rfl
  refine take_ (i := 24) (N := some 85) (v := ?_) (a' := ?_) #[true, true, true, true, true, true, true, true, true, true, true, true, true, true, true, true, true, true, true, true, true, true, true, true, true, false, false, false, false, false, false, false, false, false, false, false, false, false, false, false, false, false, false, false, false, false, false, false, false, false, false, false, false, false, false, false, false, false, false] rfl rfl (take_ofW HT_.out HW_.out (by kernel_rfl)) (fun _ _ _ h => h) (Or.inl ⟨by rfl, ?_⟩) hHeld ?_ ?_
  rotate_left
  · intro w' sS
    have f3 : w'.cell? ⟨n3, 3, none⟩ = some (.slice (some ld) 2 c31) := (blk_cell sS.b3 3).trans rfl
    clear sS
    go_simp
    with_reducible rfl
  rotate_left
  · simp only [Act.put, List.setIfInBounds_toArray, List.set_cons_zero, List.set_cons_succ, i64_w, i32_w]
    rfl
  refine pure_ (i := 25) (N := some 86) (v := ?_) (a' := ?_) #[true, true, true, true, true, true, true, true, true, true, true, true, true, true, true, true, true, true, true, true, true, true, true, true, true, true, false, false, false, false, false, false, false, false, false, false, false, false, false, false, false, false, false, false, false, false, false, false, false, false, false, false, false, false, false, false, false, false, false] rfl rfl (any_of HT_.out (by kernel_rfl)) (fun _ _ _ h => h) (Or.inl ⟨by rfl, ?_⟩) ?_ ?_
  rotate_left
  · intro w'
    go_simp
    with_reducible rfl
  rotate_left
  · simp only [Act.put, List.setIfInBounds_toArray, List.set_cons_zero, List.set_cons_succ, i64_w, i32_w]
    rfl
  refine pure_ (i := 26) (N := some 87) (v := ?_) (a' := ?_) #[true, true, true, true, true, true, true, true, true, true, true, true, true, true, true, true, true, true, true, true, true, true, true, true, true, true, true, false, false, false, false, false, false, false, false, false, false, false, false, false, false, false, false, false, false, false, false, false, false, false, false, false, false, false, false, false, false, false, false] rfl rfl (any_of HT_.out (by kernel_rfl)) (fun _ _ _ h => h) (Or.inl ⟨by rfl, ?_⟩) ?_ ?_
  rotate_left
  · intro w'
    go_simp
    with_reducible rfl
  rotate_left
  · simp only [Act.put, List.setIfInBounds_toArray, List.set_cons_zero, List.set_cons_succ, i64_w, i32_w]
    rfl
  refine take_ (i := 27) (N := some 88) (v := ?_) (a' := ?_) #[true, true, true, true, true, true, true, true, true, true, true, true, true, true, true, true, true, true, true, true, true, true, true, true, true, true, true, true, false, false, false, false, false, false, false, false, false, false, false, false, false, false, false, false, false, false, false, false, false, false, false, false, false, false, false, false, false, false, false] rfl rfl (take_ofW HT_.out HW_.out (by kernel_rfl)) (fun _ _ _ h => h) (Or.inl ⟨by rfl, ?_⟩) hHeld ?_ ?_
  rotate_left
  · intro w' sS
    have m0 := sS.f.m0
    clear sS
    go_simp
    with_reducible rfl
  rotate_left
  · simp only [Act.put, List.setIfInBounds_toArray, List.set_cons_zero, List.set_cons_succ, i64_w, i32_w]
    rfl
  refine pure_ (i := 28) (N := some 89) (v := ?_) (a' := ?_) #[true, true, true, true, true, true, true, true, true, true, true, true, true, true, true, true, true, true, true, true, true, true, true, true, true, true, true, true, true, false, false, false, false, false, false, false, false, false, false, false, false, false, false, false, false, false, false, false, false, false, false, false, false, false, false, false, false, false, false] rfl rfl (any_of HT_.out (by kernel_rfl)) (fun _ _ _ h => h) (Or.inl ⟨by rfl, ?_⟩) ?_ ?_
  rotate_left
  · intro w'
    go_simp
    with_reducible rfl
  rotate_left
  · simp only [Act.put, List.setIfInBounds_toArray, List.set_cons_zero, List.set_cons_succ, i64_w, i32_w]
    rfl
  refine pure_ (i := 29) (N := some 90) (v := ?_) (a' := ?_) #[true, true, true, true, true, true, true, true, true, true, true, true, true, true, true, true, true, true, true, true, true, true, true, true, true, true, true, true, true, true, false, false, false, false, false, false, false, false, false, false, false, false, false, false, false, false, false, false, false, false, false, false, false, false, false, false, false, false, false] rfl rfl (any_of HT_.out (by kernel_rfl)) (fun _ _ _ h => h) (Or.inl ⟨by rfl, ?_⟩) ?_ ?_
  rotate_left
  · intro w'
    go_simp
    with_reducible rfl
  rotate_left
  · simp only [Act.put, List.setIfInBounds_toArray, List.set_cons_zero, List.set_cons_succ, i64_w, i32_w]
    rfl
  refine pure_ (i := 30) (N := some 91) (v := ?_) (a' := ?_) #[true, true, true, true, true, true, true, true, true, true, true, true, true, true, true, true, true, true, true, true, true, true, true, true, true, true, true, true, true, true, true, false, false, false, false, false, false, false, false, false, false, false, false, false, false, false, false, false, false, false, false, false, false, false, false, false, false, false, false] rfl rfl (any_of HT_.out (by kernel_rfl)) (fun _ _ _ h => h) (Or.inl ⟨by rfl, ?_⟩) ?_ ?_
  rotate_left
  · intro w'
    go_simp
    with_reducible rfl
  rotate_left
  · simp only [Act.put, List.setIfInBounds_toArray, List.set_cons_zero, List.set_cons_succ, i64_w, i32_w]
    rfl
  refine pure_ (i := 31) (N := some 92) (v := ?_) (a' := ?_) #[true, true, true, true, true, true, true, true, true, true, true, true, true, true, true, true, true, true, true, true, true, true, true, true, true, true, true, true, true, true, true, true, false, false, false, false, false, false, false, false, false, false, false, false, false, false, false, false, false, false, false, false, false, false, false, false, false, false, false] rfl rfl (any_of HT_.out (by kernel_rfl)) (fun _ _ _ h => h) (Or.inl ⟨by rfl, ?_⟩) ?_ ?_
  rotate_left
  · intro w'
    go_simp
    with_reducible rfl
  rotate_left
  · simp only [Act.put, List.setIfInBounds_toArray, List.set_cons_zero, List.set_cons_succ, i64_w, i32_w]
    rfl
  refine take_ (i := 32) (N := some 93) (v := ?_) (a' := ?_) #[true, true, true, true, true, true, true, true, true, true, true, true, true, true, true, true, true, true, true, true, true, true, true, true, true, true, true, true, true, true, true, true, true, false, false, false, false, false, false, false, false, false, false, false, false, false, false, false, false, false, false, false, false, false, false, false, false, false, false] rfl rfl (take_ofW HT_.out HW_.out (by kernel_rfl)) (fun _ _ _ h => h) (Or.inl ⟨by rfl, ?_⟩) hHeld ?_ ?_
  rotate_left
  · intro w' sS
    have f3 : w'.cell? ⟨n3, 3, none⟩ = some (.slice (some ld) 2 c31) := (blk_cell sS.b3 3).trans rfl
    clear sS
    go_simp
    with_reducible rfl
  rotate_left
  · simp only [Act.put, List.setIfInBounds_toArray, List.set_cons_zero, List.set_cons_succ, i64_w, i32_w]
    rfl
  refine pure_ (i := 33) (N := some 94) (v := ?_) (a' := ?_) #[true, true, true, true, true, true, true, true, true, true, true, true, true, true, true, true, true, true, true, true, true, true, true, true, true, true, true, true, true, true, true, true, true, true, false, false, false, false, false, false, false, false, false, false, false, false, false, false, false, false, false, false, false, false, false, false, false, false, false] rfl rfl (any_of HT_.out (by kernel_rfl)) (fun _ _ _ h => h) (Or.inl ⟨by rfl, ?_⟩) ?_ ?_
  rotate_left
  · intro w'
    go_simp
    with_reducible rfl
  rotate_left
  · simp only [Act.put, List.setIfInBounds_toArray, List.set_cons_zero, List.set_cons_succ, i64_w, i32_w]
    rfl
  refine pure_ (i := 34) (N := some 95) (v := ?_) (a' := ?_) #[true, true, true, true, true, true, true, true, true, true, true, true, true, true, true, true, true, true, true, true, true, true, true, true, true, true, true, true, true, true, true, true, true, true, true, false, false, false, false, false, false, false, false, false, false, false, false, false, false, false, false, false, false, false, false, false, false, false, false] rfl rfl (any_of HT_.out (by kernel_rfl)) (fun _ _ _ h => h) (Or.inl ⟨by rfl, ?_⟩) ?_ ?_
  rotate_left
  · intro w'
    go_simp
    with_reducible rfl
  rotate_left
  · simp only [Act.put, List.setIfInBounds_toArray, List.set_cons_zero, List.set_cons_succ, i64_w, i32_w]
    rfl
  refine take_ (i := 35) (N := some 96) (v := ?_) (a' := ?_) #[true, true, true, true, true, true, true, true, true, true, true, true, true, true, true, true, true, true, true, true, true, true, true, true, true, true, true, true, true, true, true, true, true, true, true, true, false, false, false, false, false, false, false, false, false, false, false, false, false, false, false, false, false, false, false, false, false, false, false] rfl rfl (take_ofW HT_.out HW_.out (by kernel_rfl)) (fun _ _ _ h => h) (Or.inl ⟨by rfl, ?_⟩) hHeld ?_ ?_
  rotate_left
  · intro w' sS
    have l1 := sS.f.l1
    have l2 := sS.f.l2
    clear sS
    go_simp
    with_reducible rfl
  rotate_left
  · simp only [Act.put, List.setIfInBounds_toArray, List.set_cons_zero, List.set_cons_succ, i64_w, i32_w]
    rfl
  refine pure_ (i := 36) (N := some 97) (v := ?_) (a' := ?_) #[true, true, true, true, true, true, true, true, true, true, true, true, true, true, true, true, true, true, true, true, true, true, true, true, true, true, true, true, true, true, true, true, true, true, true, true, true, false, false, false, false, false, false, false, false, false, false, false, false, false, false, false, false, false, false, false, false, false, false] rfl rfl (any_of HT_.out (by kernel_rfl)) (fun _ _ _ h => h) (Or.inl ⟨by rfl, ?_⟩) ?_ ?_
  rotate_left
  · intro w'
    go_simp
    with_reducible rfl
  rotate_left
  · simp only [Act.put, List.setIfInBounds_toArray, List.set_cons_zero, List.set_cons_succ, i64_w, i32_w]
    rfl
  refine take_ (i := 37) (N := some 98) (v := ?_) (a' := ?_) #[true, true, true, true, true, true, true, true, true, true, true, true, true, true, true, true, true, true, true, true, true, true, true, true, true, true, true, true, true, true, true, true, true, true, true, true, true, true, false, false, false, false, false, false, false, false, false, false, false, false, false, false, false, false, false, false, false, false, false] rfl rfl (take_ofW HT_.out HW_.out (by kernel_rfl)) (fun _ _ _ h => h) (Or.inl ⟨by rfl, ?_⟩) hHeld ?_ ?_
  rotate_left
  · intro w' sS
    have f1 : w'.cell? ⟨n1, 1, none⟩ = some (.string pn) := (blk_cell sS.b1 1).trans rfl
    have f2 : w'.cell? ⟨n1, 2, none⟩ = some (.slice A1 pa.length c1) := (blk_cell sS.b1 2).trans rfl
    clear sS
    go_simp
    with_reducible rfl
  rotate_left
  · simp only [Act.put, List.setIfInBounds_toArray, List.set_cons_zero, List.set_cons_succ, i64_w, i32_w]
    rfl
  refine one_ (i := 38) (N := some 99) #[true, true, true, true, true, true, true, true, true, true, true, true, true, true, true, true, true, true, true, true, true, true, true, true, true, true, true, true, true, true, true, true, true, true, true, true, true, true, true, false, false, false, false, false, false, false, false, false, false, false, false, false, false, false, false, false, false, false, false] rfl rfl (one_of HT_.out (by kernel_rfl)) (by decide) (fun K hK => ?_)
  refine goes_ Tryz.func35 (by kernel_rfl) rfl #[.agg #[.string pn, .slice B0 pa.length b0], .agg #[.string pn, .slice A1 pa.length c1]] (by rfl) rfl rfl (by (try simp only [List.map_toArray, List.map_cons, List.map_nil]); first | done | rfl) ?_
  refine (HAT.out B0 A1 b0 c1 _ hHeld.f.h1.2 hHeld.f.h1.1 hHeld.kc HL1.out.2).mono ?_
  rintro e V2 ⟨rfl, hb⟩
  refine ⟨_, rfl, ?_⟩
  replace HBV := Aside0.mk (below_then HBV.out HBV.out.size hb)
  replace hHeld := hHeld.below hb
  clear hb
  refine hK.out _ _ (hHeld) (fun hHeld => ?_)
  clear hK K
  refine norm_ (a' := ?_) ?_ ?_
  rotate_left
  · show Act.put _ (some 99) _ = _
    simp only [Act.put, List.setIfInBounds_toArray, List.set_cons_zero, List.set_cons_succ, i64_w, i32_w]
    rfl
  refine pure_ (i := 39) (N := some 100) (v := ?_) (a' := ?_) #[true, true, true, true, true, true, true, true, true, true, true, true, true, true, true, true, true, true, true, true, true, true, true, true, true, true, true, true, true, true, true, true, true, true, true, true, true, true, true, true, false, false, false, false, false, false, false, false, false, false, false, false, false, false, false, false, false, false, false] rfl rfl (any_of HT_.out (by kernel_rfl)) (fun _ _ _ h => h) (Or.inl ⟨by rfl, ?_⟩) ?_ ?_
  rotate_left
  · intro w'
    go_simp
    with_reducible rfl
  rotate_left
  · simp only [Act.put, List.setIfInBounds_toArray, List.set_cons_zero, List.set_cons_succ, i64_w, i32_w]
    rfl
  refine pure_ (i := 40) (N := some 101) (v := ?_) (a' := ?_) #[true, true, true, true, true, true, true, true, true, true, true, true, true, true, true, true, true, true, true, true, true, true, true, true, true, true, true, true, true, true, true, true, true, true, true, true, true, true, true, true, true, false, false, false, false, false, false, false, false, false, false, false, false, false, false, false, false, false, false] rfl rfl (any_of HT_.out (by kernel_rfl)) (fun _ _ _ h => h) (Or.inl ⟨by rfl, ?_⟩) ?_ ?_
  rotate_left
  · intro w'
    go_simp
    with_reducible rfl
  rotate_left
  · simp only [Act.put, List.setIfInBounds_toArray, List.set_cons_zero, List.set_cons_succ, i64_w, i32_w]
    rfl
  refine pure_ (i := 41) (N := some 102) (v := ?_) (a' := ?_) #[true, true, true, true, true, true, true, true, true, true, true, true, true, true, true, true, true, true, true, true, true, true, true, true, true, true, true, true, true, true, true, true, true, true, true, true, true, true, true, true, true, true, false, false, false, false, false, false, false, false, false, false, false, false, false, false, false, false, false] rfl rfl (any_of HT_.out (by kernel_rfl)) (fun _ _ _ h => h) (Or.inl ⟨by rfl, ?_⟩) ?_ ?_
  rotate_left
  · intro w'
    go_simp
    with_reducible rfl
  rotate_left
  · simp only [Act.put, List.setIfInBounds_toArray, List.set_cons_zero, List.set_cons_succ, i64_w, i32_w]
    rfl
  refine take_ (i := 42) (N := some 103) (v := ?_) (a' := ?_) #[true, true, true, true, true, true, true, true, true, true, true, true, true, true, true, true, true, true, true, true, true, true, true, true, true, true, true, true, true, true, true, true, true, true, true, true, true, true, true, true, true, true, true, false, false, false, false, false, false, false, false, false, false, false, false, false, false, false, false] rfl rfl (take_ofW HT_.out HW_.out (by kernel_rfl)) (fun _ _ _ h => h) (Or.inl ⟨by rfl, ?_⟩) hHeld ?_ ?_
  rotate_left
  · intro w' sS
    have f3 : w'.cell? ⟨n3, 3, none⟩ = some (.slice (some ld) 2 c31) := (blk_cell sS.b3 3).trans rfl
    clear sS
    go_simp
    with_reducible rfl
  rotate_left
  · simp only [Act.put, List.setIfInBounds_toArray, List.set_cons_zero, List.set_cons_succ, i64_w, i32_w]
    rfl
  refine pure_ (i := 43) (N := some 104) (v := ?_) (a' := ?_) #[true, true, true, true, true, true, true, true, true, true, true, true, true, true, true, true, true, true, true, true, true, true, true, true, true, true, true, true, true, true, true, true, true, true, true, true, true, true, true, true, true, true, true, true, false, false, false, false, false, false, false, false, false, false, false, false, false, false, false] rfl rfl (any_of HT_.out (by kernel_rfl)) (fun _ _ _ h => h) (Or.inl ⟨by rfl, ?_⟩) ?_ ?_
  rotate_left
  · intro w'
    go_simp
    with_reducible rfl
  rotate_left
  · simp only [Act.put, List.setIfInBounds_toArray, List.set_cons_zero, List.set_cons_succ, i64_w, i32_w]
    rfl
  refine pure_ (i := 44) (N := some 105) (v := ?_) (a' := ?_) #[true, true, true, true, true, true, true, true, true, true, true, true, true, true, true, true, true, true, true, true, true, true, true, true, true, true, true, true, true, true, true, true, true, true, true, true, true, true, true, true, true, true, true, true, true, false, false, false, false, false, false, false, false, false, false, false, false, false, false] rfl rfl (any_of HT_.out (by kernel_rfl)) (fun _ _ _ h => h) (Or.inl ⟨by rfl, ?_⟩) ?_ ?_
  rotate_left
  · intro w'
    go_simp
    with_reducible rfl
  rotate_left
  · simp only [Act.put, List.setIfInBounds_toArray, List.set_cons_zero, List.set_cons_succ, i64_w, i32_w]
    rfl
  refine take_ (i := 45) (N := some 106) (v := ?_) (a' := ?_) #[true, true, true, true, true, true, true, true, true, true, true, true, true, true, true, true, true, true, true, true, true, true, true, true, true, true, true, true, true, true, true, true, true, true, true, true, true, true, true, true, true, true, true, true, true, true, false, false, false, false, false, false, false, false, false, false, false, false, false] rfl rfl (take_ofW HT_.out HW_.out (by kernel_rfl)) (fun _ _ _ h => h) (Or.inl ⟨by rfl, ?_⟩) hHeld ?_ ?_
  rotate_left
  · intro w' sS
    have m1 := sS.f.m1
    have m2 := sS.f.m2
    clear sS
    go_simp
    with_reducible rfl
  rotate_left
  · simp only [Act.put, List.setIfInBounds_toArray, List.set_cons_zero, List.set_cons_succ, i64_w, i32_w]
    rfl
  refine pure_ (i := 46) (N := some 107) (v := ?_) (a' := ?_) #[true, true, true, true, true, true, true, true, true, true, true, true, true, true, true, true, true, true, true, true, true, true, true, true, true, true, true, true, true, true, true, true, true, true, true, true, true, true, true, true, true, true, true, true, true, true, true, false, false, false, false, false, false, false, false, false, false, false, false] rfl rfl (any_of HT_.out (by kernel_rfl)) (fun _ _ _ h => h) (Or.inl ⟨by rfl, ?_⟩) ?_ ?_
  rotate_left
  · intro w'
    go_simp
    with_reducible rfl
  rotate_left
  · simp only [Act.put, List.setIfInBounds_toArray, List.set_cons_zero, List.set_cons_succ, i64_w, i32_w]
    rfl
  refine take_ (i := 47) (N := some 108) (v := ?_) (a' := ?_) #[true, true, true, true, true, true, true, true, true, true, true, true, true, true, true, true, true, true, true, true, true, true, true, true, true, true, true, true, true, true, true, true, true, true, true, true, true, true, true, true, true, true, true, true, true, true, true, true, false, false, false, false, false, false, false, false, false, false, false] rfl rfl (take_ofW HT_.out HW_.out (by kernel_rfl)) (fun _ _ _ h => h) (Or.inl ⟨by rfl, ?_⟩) hHeld ?_ ?_
  rotate_left
  · intro w' sS
    have f1 : w'.cell? ⟨n1, 1, none⟩ = some (.string pn) := (blk_cell sS.b1 1).trans rfl
    have f2 : w'.cell? ⟨n1, 2, none⟩ = some (.slice A1 pa.length c1) := (blk_cell sS.b1 2).trans rfl
    clear sS
    go_simp
    with_reducible rfl
  rotate_left
  · simp only [Act.put, List.setIfInBounds_toArray, List.set_cons_zero, List.set_cons_succ, i64_w, i32_w]
    rfl
  refine one_ (i := 48) (N := some 109) #[true, true, true, true, true, true, true, true, true, true, true, true, true, true, true, true, true, true, true, true, true, true, true, true, true, true, true, true, true, true, true, true, true, true, true, true, true, true, true, true, true, true, true, true, true, true, true, true, true, false, false, false, false, false, false, false, false, false, false] rfl rfl (one_of HT_.out (by kernel_rfl)) (by decide) (fun K hK => ?_)
  refine goes_ Tryz.func35 (by kernel_rfl) rfl #[.agg #[.string pn, .slice B1 pa.length b1], .agg #[.string pn, .slice A1 pa.length c1]] (by rfl) rfl rfl (by (try simp only [List.map_toArray, List.map_cons, List.map_nil]); first | done | rfl) ?_
  refine (HAT.out B1 A1 b1 c1 _ hHeld.f.h2.2 hHeld.f.h2.1 hHeld.kc HL1.out.2).mono ?_
  rintro e V2 ⟨rfl, hb⟩
  refine ⟨_, rfl, ?_⟩
  replace HBV := Aside0.mk (below_then HBV.out HBV.out.size hb)
  replace hHeld := hHeld.below hb
  clear hb
  refine hK.out _ _ (hHeld) (fun hHeld => ?_)
  clear hK K
  refine norm_ (a' := ?_) ?_ ?_
  rotate_left
  · show Act.put _ (some 109) _ = _
    simp only [Act.put, List.setIfInBounds_toArray, List.set_cons_zero, List.set_cons_succ, i64_w, i32_w]
    rfl
  refine pure_ (i := 49) (N := some 110) (v := ?_) (a' := ?_) #[true, true, true, true, true, true, true, true, true, true, true, true, true, true, true, true, true, true, true, true, true, true, true, true, true, true, true, true, true, true, true, true, true, true, true, true, true, true, true, true, true, true, true, true, true, true, true, true, true, true, false, false, false, false, false, false, false, false, false] rfl rfl (any_of HT_.out (by kernel_rfl)) (fun _ _ _ h => h) (Or.inl ⟨by rfl, ?_⟩) ?_ ?_
  rotate_left
  · intro w'
    go_simp
    with_reducible rfl
  rotate_left
  · simp only [Act.put, List.setIfInBounds_toArray, List.set_cons_zero, List.set_cons_succ, i64_w, i32_w]
    rfl
  refine pure_ (i := 50) (N := some 111) (v := ?_) (a' := ?_) #[true, true, true, true, true, true, true, true, true, true, true, true, true, true, true, true, true, true, true, true, true, true, true, true, true, true, true, true, true, true, true, true, true, true, true, true, true, true, true, true, true, true, true, true, true, true, true, true, true, true, true, false, false, false, false, false, false, false, false] rfl rfl (any_of HT_.out (by kernel_rfl)) (fun _ _ _ h => h) (Or.inl ⟨by rfl, ?_⟩) ?_ ?_
  rotate_left
  · intro w'
    go_simp
    with_reducible rfl
  rotate_left
  · simp only [Act.put, List.setIfInBounds_toArray, List.set_cons_zero, List.set_cons_succ, i64_w, i32_w]
    rfl
  refine pure_ (i := 51) (N := some 112) (v := ?_) (a' := ?_) #[true, true, true, true, true, true, true, true, true, true, true, true, true, true, true, true, true, true, true, true, true, true, true, true, true, true, true, true, true, true, true, true, true, true, true, true, true, true, true, true, true, true, true, true, true, true, true, true, true, true, true, true, false, false, false, false, false, false, false] rfl rfl (any_of HT_.out (by kernel_rfl)) (fun _ _ _ h => h) (Or.inl ⟨by rfl, ?_⟩) ?_ ?_
  rotate_left
  · intro w'
    go_simp
    with_reducible rfl
  rotate_left
  · simp only [Act.put, List.setIfInBounds_toArray, List.set_cons_zero, List.set_cons_succ, i64_w, i32_w]
    rfl
  refine take_ (i := 52) (N := some 113) (v := ?_) (a' := ?_) #[true, true, true, true, true, true, true, true, true, true, true, true, true, true, true, true, true, true, true, true, true, true, true, true, true, true, true, true, true, true, true, true, true, true, true, true, true, true, true, true, true, true, true, true, true, true, true, true, true, true, true, true, true, false, false, false, false, false, false] rfl rfl (take_ofW HT_.out HW_.out (by kernel_rfl)) (fun _ _ _ h => h) (Or.inl ⟨by rfl, ?_⟩) hHeld ?_ ?_
  rotate_left
  · intro w' sS
    have f0 : w'.cell? ⟨n2, 0, none⟩ = some (.slice (some ad) 2 c2) := (blk_cell sS.b2 0).trans rfl
    clear sS
    go_simp
    with_reducible rfl
  rotate_left
  · simp only [Act.put, List.setIfInBounds_toArray, List.set_cons_zero, List.set_cons_succ, i64_w, i32_w]
    rfl
  refine pure_ (i := 53) (N := some 114) (v := ?_) (a' := ?_) #[true, true, true, true, true, true, true, true, true, true, true, true, true, true, true, true, true, true, true, true, true, true, true, true, true, true, true, true, true, true, true, true, true, true, true, true, true, true, true, true, true, true, true, true, true, true, true, true, true, true, true, true, true, true, false, false, false, false, false] rfl rfl (any_of HT_.out (by kernel_rfl)) (fun _ _ _ h => h) (Or.inl ⟨by rfl, ?_⟩) ?_ ?_
  rotate_left
  · intro w'
    go_simp
    with_reducible rfl
  rotate_left
  · simp only [Act.put, List.setIfInBounds_toArray, List.set_cons_zero, List.set_cons_succ, i64_w, i32_w]
    rfl
  refine pure_ (i := 54) (N := some 115) (v := ?_) (a' := ?_) #[true, true, true, true, true, true, true, true, true, true, true, true, true, true, true, true, true, true, true, true, true, true, true, true, true, true, true, true, true, true, true, true, true, true, true, true, true, true, true, true, true, true, true, true, true, true, true, true, true, true, true, true, true, true, true, false, false, false, false] rfl rfl (any_of HT_.out (by kernel_rfl)) (fun _ _ _ h => h) (Or.inl ⟨by rfl, ?_⟩) ?_ ?_
  rotate_left
  · intro w'
    go_simp
    with_reducible rfl
  rotate_left
  · simp only [Act.put, List.setIfInBounds_toArray, List.set_cons_zero, List.set_cons_succ, i64_w, i32_w]
    rfl
  refine take_ (i := 55) (N := some 116) (v := ?_) (a' := ?_) #[true, true, true, true, true, true, true, true, true, true, true, true, true, true, true, true, true, true, true, true, true, true, true, true, true, true, true, true, true, true, true, true, true, true, true, true, true, true, true, true, true, true, true, true, true, true, true, true, true, true, true, true, true, true, true, true, false, false, false] rfl rfl (take_ofW HT_.out HW_.out (by kernel_rfl)) (fun _ _ _ h => h) (Or.inl ⟨by rfl, ?_⟩) hHeld ?_ ?_
  rotate_left
  · intro w' sS
    have r2 := sS.f.r2
    clear sS
    go_simp
    with_reducible rfl
  rotate_left
  · simp only [Act.put, List.setIfInBounds_toArray, List.set_cons_zero, List.set_cons_succ, i64_w, i32_w]
    rfl
  refine pure_ (i := 56) (N := some 117) (v := ?_) (a' := ?_) #[true, true, true, true, true, true, true, true, true, true, true, true, true, true, true, true, true, true, true, true, true, true, true, true, true, true, true, true, true, true, true, true, true, true, true, true, true, true, true, true, true, true, true, true, true, true, true, true, true, true, true, true, true, true, true, true, true, false, false] rfl rfl (any_of HT_.out (by kernel_rfl)) (fun _ _ _ h => h) (Or.inl ⟨by rfl, ?_⟩) ?_ ?_
  rotate_left
  · intro w'
    go_simp
    with_reducible rfl
  rotate_left
  · simp only [Act.put, List.setIfInBounds_toArray, List.set_cons_zero, List.set_cons_succ, i64_w, i32_w]
    rfl
  refine pure_ (i := 57) (N := some 118) (v := ?_) (a' := ?_) #[true, true, true, true, true, true, true, true, true, true, true, true, true, true, true, true, true, true, true, true, true, true, true, true, true, true, true, true, true, true, true, true, true, true, true, true, true, true, true, true, true, true, true, true, true, true, true, true, true, true, true, true, true, true, true, true, true, true, false] rfl rfl (any_of HT_.out (by kernel_rfl)) (fun _ _ _ h => h) (Or.inl ⟨by rfl, ?_⟩) ?_ ?_
  rotate_left
  · intro w'
    go_simp
    with_reducible rfl
  rotate_left
  · simp only [Act.put, List.setIfInBounds_toArray, List.set_cons_zero, List.set_cons_succ, i64_w, i32_w]
    rfl
  refine pure_ (i := 58) (N := some 2) (v := ?_) (a' := ?_) #[true, true, true, true, true, true, true, true, true, true, true, true, true, true, true, true, true, true, true, true, true, true, true, true, true, true, true, true, true, true, true, true, true, true, true, true, true, true, true, true, true, true, true, true, true, true, true, true, true, true, true, true, true, true, true, true, true, true, true] rfl rfl (any_of HT_.out (by kernel_rfl)) (fun _ _ _ h => h) (Or.inl ⟨by rfl, ?_⟩) ?_ ?_
  rotate_left
  · intro w'
    go_simp
    with_reducible rfl
  rotate_left
  · simp only [Act.put, List.setIfInBounds_toArray, List.set_cons_zero, List.set_cons_succ, i64_w, i32_w]
    rfl
  refine done_ (done_of HT_.out (by kernel_rfl)) ?_
  go_wp2
  go_ret
  exact ⟨rfl, HBV.out⟩
def antecedentlaw08_ParseFacts.f (k : Nat) (a0 : ByteArray) : Option Bool := some true
theorem antecedentlaw08_ParseFacts.calls (k : Nat) (a0 : ByteArray) (r : Bool) (w : World) (hLW : LaidW w) (h : antecedentlaw08_ParseFacts.f k a0 = some r) :
    Calls Tryz.prog 8 #[.string a0] w fun e w' => e = .returned (.bool r) ∧ Below w.heap.size w w' := by
  obtain rfl := Option.some.inj h
  by_cases hs : 375 < a0.size
  · exact facts_far a0 hs w hLW
  · exact facts_near a0 (by omega) w hLW
end Go.Proofs.YthebhbomlllpeaaGreatDoor.X
namespace Go.Proofs.YthebhbomlllpeaaGreatDoor.X
theorem pureParseFacts (s : ByteArray) (_ : s.size ≤ maxLen) : ∃ k, antecedentlaw08_ParseFacts.f k s = some true := ⟨0, rfl⟩
end Go.Proofs.YthebhbomlllpeaaGreatDoor.X
