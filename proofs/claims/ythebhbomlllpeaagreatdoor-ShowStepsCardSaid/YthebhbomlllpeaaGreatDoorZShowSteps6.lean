/-
  ShowSteps: what the proof needs, put together by a program of this session (shake.py), part 6.
-/
import Derived.Test.YthebhbomlllpeaaGreatDoorCards
import Derived.Test.YthebhbomlllpeaaGreatDoorTie
import Derived.Test.YthebhbomlllpeaaGreatDoorProg
import Derived.Below
import Derived.Deep.Draws
import Derived.Deep.AppendLies
import Derived.Maps.AppendAt
import Derived.OwnWalk
import Derived.Laws.BytesArg
import Derived.Laws.MakeOwn
import Derived.Laws.OwnMore
import Derived.Deep.OwnRows
import Derived.Tactics
import Derived.Lib.ConvBytes
import Derived.Laws.Slices
import Derived.WalkKit
import Derived.KernelRfl
import Derived.RowKit3
import Derived.Deep.LoopGhost
import Derived.Deep.QuietTactic
import Derived.BigQuiet
import Derived.WideLaws
import Derived.Deep.DeepCutAuto
import Derived.Deep.CutBlock
import Derived.Deep.RegionHeld3
import Derived.Laws.Rows
import Derived.Lib.AppendStr
import Derived.ArgAppend
import Derived.Laws.IdiomCopy
import Derived.OrdersHeld
import Derived.Laws.BitsLemmas
import Derived.RowKit
import Derived.Lib.SmallJoins
import Derived.Lib.ItoaMem
import Derived.Laws.StructEq
import Derived.Test.YthebhbomlllpeaaGreatDoorRows
import Derived.Deep.Slices
import Derived.Deep.Fields
import Derived.ChangeSame
import Derived.ProofKit
import Derived.OpenShut
import Derived.Deep.DeepHandedRow
import Derived.Lib.LaidTab
import Derived.LaidMore
import Derived.Stop.LaidErr
import Derived.MakeChecks
import Init
import Derived.Laws.NewBlocks
import Derived.Shelf.Strings.Builder1
import Derived.Shelf.Strings.Builder2
import Derived.Shelf.Strings.OnBuilder
import Derived.Shelf.Small.Strs
import Derived.Shelf.Small.Wraps
import Derived.Shelf.Strings.BuilderF
import Derived.Shelf.Strings.BuilderK
import Derived.Shelf.Strings.Builder2Cap
import Derived.Shelf.Strconv.Itoa0
import Derived.Shelf.Strconv.Itoa1
import Derived.Shelf.LaysM
import Derived.Shelf.Strconv.Itoa2
import Derived.Shelf.Strconv.Itoa3
import Derived.Shelf.Strconv.Itoa4
import Derived.Shelf.Strconv.ParseIntEmpty
import Derived.Shelf.Strconv.Clone
import Derived.Shelf.Strconv.SyntaxError
import Derived.Shelf.LaysC
import Derived.Shelf.Strconv.ToError
import Derived.Shelf.Strconv.Lower
import Derived.Shelf.Strconv.ParseUint10
import Derived.Shelf.Strconv.ParseUint10Empty
import Derived.Shelf.Strconv.ParseUint10Any
import Derived.Shelf.Strconv.ParseInt10
import Derived.Shelf.Strconv.RangeError
import Derived.Shelf.Strconv.ToErrorRange
import Derived.Shelf.Strconv.ParseUintEmpty
import Derived.Shelf.Strconv.ParseUint10b64
import Derived.Shelf.Strconv.ParseUint10b32
import Derived.Shelf.Strconv.ParseUint10b16
import Derived.Shelf.Strconv.ParseUint10b8
import Derived.Shelf.Strconv.ParseUint10At
import Derived.Shelf.Strconv.ParseInt10At64
import Derived.Shelf.Strconv.ParseInt10At32
import Derived.Shelf.Strconv.ParseInt10At16
import Derived.Shelf.Strconv.ParseInt10At8
import Derived.Shelf.Strconv.ParseInt10All
import Derived.Shelf.Strconv.ParseIntPublic10
import Derived.Shelf.Strconv.ErrVarParseInt
import Derived.Ground.MpProg
import Derived.Shelf.Pu.ParseUintPublic10
import Derived.Shelf.Pu.ErrVarParseUint
import Derived.Shelf.Strings.Search1
import Derived.Shelf.Strings.Prefix
import Derived.Shelf.Bits.Mul64
import Derived.Shelf.Strings.Repeat
import Derived.Shelf.Strings.BuilderCap
import Derived.Lib.AtoiAllMem
import Derived.Lib.ParseIntB
import Derived.Lib.Hide
import Derived.Laws.Strings3
import Derived.Laws.Closers25
import Derived.Laws.Closers25b
import Derived.BigCall
import Derived.BigGuard
import Derived.Laws.RangeAny
import Derived.Laws.RangeString
import Derived.Lib.ParseIntBTie
import Derived.WalkLawsBesides
import Derived.StillTailTactics
import Derived.LoopN
import Derived.WalkMore
import Derived.Deep.MidRow
import Derived.Recover
import Derived.Deep.DrawnRows
import Derived.Test.YthebhbomlllpeaaGreatDoorZShowSteps5
namespace Go.Proofs.YthebhbomlllpeaaGreatDoor.X
set_option linter.unusedVariables false
set_option linter.unusedSimpArgs false
/-- a token that is read: a word is a name. -/
def TokP (t : TK) : Prop := t.1 = 1 → nmL t.2.data.toList = true
/-- steps are shown, with no more ( than so many where they must bind so closely. -/
def Shown (k : Int) (e : Nat) (x : List StS) : Prop := ∃ p d, (∀ st, pushes st x = some (p :: st)) ∧ PInv p x d ∧ upD p k d ≤ e
def Reads (k : Int) (one : Prs (List StS)) : Prop := ∀ l x r, (∀ t ∈ l, TokP t) → one l = .ok (x, r) → ∃ u e, l = u ++ r ∧ DeepE e (txts u) ∧ Shown k e x
theorem Shown.le {k : Int} {e f : Nat} {x : List StS} (h : Shown k e x) (hf : e ≤ f) : Shown k f x := by
  obtain ⟨p, d, h1, h2, h3⟩ := h
  exact ⟨p, d, h1, h2, by omega⟩
theorem upD_le {p : Pc} {k j : Int} (h : j ≤ k) (d : Nat) : upD p j d ≤ upD p k d := by
  unfold upD
  split <;> split <;> omega
theorem Shown.lower {k j : Int} {e : Nat} {x : List StS} (h : Shown k e x) (hj : j ≤ k) : Shown j e x := by
  obtain ⟨p, d, h1, h2, h3⟩ := h
  have := upD_le (p := p) hj d
  exact ⟨p, d, h1, h2, by omega⟩
theorem push_two {a b : Pc} {k : Int} {x y : List StS} (hx : ∀ st, pushes st x = some (a :: st)) (hy : ∀ st, pushes st y = some (b :: st)) (hk : k = 3 ∨ k = 4) (st : List Pc) :
    pushes st (x ++ y ++ [stepS k]) = some ((if k = 3 then (leastL a 2 ++ (markL 3 ++ leastL b 3), 2) else (a.1 ++ (markL 4 ++ leastL b 2), 1)) :: st) := by
  rw [pushes_app, pushes_app, hx, Option.bind_some, hy, Option.bind_some]
  rcases hk with rfl | rfl <;> rfl
theorem push_mark {a : Pc} {k : Int} {x : List StS} (hx : ∀ st, pushes st x = some (a :: st)) (h5 : 5 ≤ k) (h7 : k ≤ 7) (st : List Pc) : pushes st (x ++ [stepS k]) = some ((leastL a 3 ++ markL k, 3) :: st) := by
  rw [pushes_app, hx, Option.bind_some]
  rcases (by omega : k = 5 ∨ k = 6 ∨ k = 7) with rfl | rfl | rfl <;> rfl
theorem Shown.thenS {e f : Nat} {x y : List StS} (hx : Shown 2 e x) (hy : Shown 3 f y) : Shown 2 (max e f) (x ++ y ++ [stepS 3]) := by
  obtain ⟨p, d, h1, h2, h3⟩ := hx
  obtain ⟨q, c, g1, g2, g3⟩ := hy
  have a1 := h2.least 2 (by omega)
  have a2 := g2.least 3 (by omega)
  have e3 : (if q.2 < 3 then (3 : Int) else q.2) = 3 := by have := g2.hi; split <;> omega
  rw [e3] at a2
  have := PInv.thenP a1 a2 (by split <;> omega)
  refine ⟨_, _, push_two h1 g1 (.inl rfl), this, ?_⟩
  show upD (_, (2 : Int)) 2 _ ≤ _
  unfold upD at h3 g3 ⊢
  rw [if_neg (by show ¬ (2 : Int) < 2; omega)]
  omega
theorem Shown.orS {e f : Nat} {x y : List StS} (hx : Shown 1 e x) (hy : Shown 2 f y) : Shown 1 (max e f) (x ++ y ++ [stepS 4]) := by
  obtain ⟨p, d, h1, h2, h3⟩ := hx
  obtain ⟨q, c, g1, g2, g3⟩ := hy
  have a2 := g2.least 2 (by omega)
  have := PInv.orP (ba := p.2) h2 a2 (by split <;> omega)
  refine ⟨_, _, push_two h1 g1 (.inr rfl), this, ?_⟩
  show upD (_, (1 : Int)) 1 _ ≤ _
  have hlo := h2.lo
  unfold upD at h3 g3 ⊢
  rw [if_neg (by omega)] at h3
  rw [if_neg (by show ¬ (1 : Int) < 1; omega)]
  omega
theorem Shown.markS {e : Nat} {x : List StS} (hx : Shown 3 e x) {k : Int} (h5 : 5 ≤ k) (h7 : k ≤ 7) : Shown 3 e (x ++ [stepS k]) := by
  obtain ⟨p, d, h1, h2, h3⟩ := hx
  have a2 := h2.least 3 (by omega)
  have e3 : (if p.2 < 3 then (3 : Int) else p.2) = 3 := by have := h2.hi; split <;> omega
  rw [e3] at a2
  refine ⟨_, _, push_mark h1 h5 h7, a2.markP k h5 h7, ?_⟩
  show upD (_, (3 : Int)) 3 _ ≤ _
  unfold upD at h3 ⊢
  rw [if_neg (by show ¬ (3 : Int) < 3; omega)]
  omega
theorem marks_reads : ∀ (l : List TK) (x : List StS) (e : Nat), Shown 3 e x → ∃ u, l = u ++ (marksP l).2 ∧ DeepE 0 (txts u) ∧ Shown 3 e (x ++ (marksP l).1)
  | [], x, e, h => ⟨[], rfl, DeepE.nil, by simpa [marksP] using h⟩
  | t :: r, x, e, h => by
    have go : ∀ (k : Int) (s : List UInt8), 5 ≤ k → k ≤ 7 → isT t 4 s = true → s ≠ [40] → s ≠ [41] → ∃ u, t :: r = u ++ (marksP r).2 ∧ DeepE 0 (txts u) ∧ Shown 3 e (x ++ (stepS k :: (marksP r).1)) := fun k s h5 h7 hs h40 h41 => by
      obtain ⟨u, e1, hu, hx⟩ := marks_reads r (x ++ [stepS k]) e (h.markS h5 h7)
      refine ⟨t :: u, by rw [List.cons_append, ← e1], ?_, by rwa [List.append_assoc] at hx⟩
      have : txts (t :: u) = [s] ++ txts u := by simp [txts, (isT_text hs).2]
      rw [this]
      exact (DeepE.one h40 h41).app hu
    simp only [marksP]
    split
    · rename_i hs; exact go 5 _ (by omega) (by omega) hs (by decide) (by decide)
    · split
      · rename_i hs; exact go 6 _ (by omega) (by omega) hs (by decide) (by decide)
      · split
        · rename_i hs; exact go 7 _ (by omega) (by omega) hs (by decide) (by decide)
        · exact ⟨[], rfl, DeepE.nil, by simpa using h⟩
theorem reads_rowL {k : Int} {one : Prs (List StS)} {m : UInt8} {j n3 : Int} (h1 : Reads j one) (hm : m ≠ 40 ∧ m ≠ 41) (hS : ∀ e f x y, Shown k e x → Shown j f y → Shown k (max e f) (x ++ y ++ [stepS n3])) :
    ∀ (n : Nat) (acc : List StS) (e0 : Nat) (l : List TK) (x : List StS) (r : List TK), Shown k e0 acc → (∀ t ∈ l, TokP t) → rowL [m] n3 one n acc l = .ok (x, r) → ∃ u e, l = u ++ r ∧ DeepE e (txts u) ∧ Shown k (max e0 e) x
  | 0, acc, e0, l, x, r, ha, hl, h => by
    simp only [rowL] at h
    injection h with h; injection h with e1 e2
    subst e1; subst e2
    exact ⟨[], 0, rfl, DeepE.nil, ha.le (by omega)⟩
  | n + 1, acc, e0, l, x, r, ha, hl, h => by
    simp only [rowL] at h
    split at h
    · rename_i hk
      obtain ⟨t, e, ht⟩ := mk0_app hk
      obtain ⟨y, r1, ho, h⟩ := bnd_ok h
      obtain ⟨u, f, e1, hu, hy⟩ := h1 _ _ _ (fun t ht => hl t (List.mem_of_mem_drop ht)) ho
      obtain ⟨v, g, e2, hv, hx⟩ := reads_rowL h1 hm hS n _ (max e0 f) r1 x r (hS _ _ _ _ ha hy) (fun t ht => hl t (by rw [e, e1]; simp [ht])) h
      refine ⟨t :: (u ++ v), max f g, by rw [e, e1, e2]; simp, ?_, hx.le (by omega)⟩
      have : txts (t :: (u ++ v)) = [[m]] ++ (txts u ++ txts v) := by simp [txts, ht]
      rw [this]
      have := (DeepE.one (s := [m]) (by simpa using hm.1) (by simpa using hm.2)).app (hu.app hv)
      rwa [Nat.zero_max] at this
    · injection h with h; injection h with e1 e2
      subst e1; subst e2
      exact ⟨[], 0, rfl, DeepE.nil, ha.le (by omega)⟩
theorem reads_row {k : Int} {one : Prs (List StS)} {m : UInt8} {j n3 : Int} (h1 : Reads j one) (hj : k ≤ j) (hm : m ≠ 40 ∧ m ≠ 41) (hS : ∀ e f x y, Shown k e x → Shown j f y → Shown k (max e f) (x ++ y ++ [stepS n3])) : Reads k (rowP [m] n3 one) := fun l x r hl h => by
  unfold rowP at h
  obtain ⟨y, r1, ho, h⟩ := bnd_ok h
  obtain ⟨u, f, e1, hu, hy⟩ := h1 _ _ _ hl ho
  obtain ⟨v, g, e2, hv, hx⟩ := reads_rowL h1 hm hS _ _ f r1 x r (hy.lower hj) (fun t ht => hl t (by rw [e1]; simp [ht])) h
  exact ⟨u ++ v, max f g, by rw [e1, e2, List.append_assoc], by rw [txts_app]; exact hu.app hv, hx⟩
theorem shown_label {t : TK} (ht : TokP t) (hp : predB t = true) (k : Int) (hk : k = 1 ∨ k = 2) : Shown 3 0 [⟨k, t.2⟩] := by
  unfold predB at hp
  simp only [Bool.and_eq_true, beq_iff_eq] at hp
  have hn := ht hp.1
  have hN : predN t.2 = true := by
    unfold predN
    simp only [Bool.and_eq_true]
    exact ⟨hn, hp.2⟩
  have hne := (name_mark hn).1
  rcases hk with rfl | rfl
  · have hl : labelL ⟨1, t.2⟩ = t.2.data.toList := by
      unfold labelL
      simp only [hN, if_true]
      rw [if_neg (by decide)]
    refine ⟨_, 0, fun st => ?_, PInv.along hN, Nat.le_refl _⟩
    have : push1 st ⟨1, t.2⟩ = some ((t.2.data.toList, 3) :: st) := by
      unfold push1
      rw [if_neg (show ¬ ((1 : Int) < 1 ∨ 7 < (1 : Int)) by decide), if_pos (show (1 : Int) ≤ 2 by decide), hl, if_neg hne]
    simp only [pushes, this, Option.bind_some]
  · have hl : labelL ⟨2, t.2⟩ = [94] ++ t.2.data.toList := by
      unfold labelL
      simp only [hN, if_true]
    refine ⟨_, 0, fun st => ?_, PInv.back hN, Nat.le_refl _⟩
    have : push1 st ⟨2, t.2⟩ = some (([94] ++ t.2.data.toList, 3) :: st) := by
      unfold push1
      rw [if_neg (show ¬ ((2 : Int) < 1 ∨ 7 < (2 : Int)) by decide), if_pos (show (2 : Int) ≤ 2 by decide), hl, if_neg (by simp)]
    simp only [pushes, this, Option.bind_some]
theorem tok_deep {t : TK} (ht : TokP t) (hp : predB t = true) : DeepE 0 (txts [t]) := by
  unfold predB at hp
  simp only [Bool.and_eq_true, beq_iff_eq] at hp
  have := name_mark (ht hp.1)
  exact DeepE.one this.2.1 this.2.2
theorem reads_partW {inner : Option (Prs (List StS))} (hi : ∀ p, inner = some p → Reads 1 p) : Reads 3 (partW inner) := fun l x r hl h => by
  unfold partW at h
  obtain ⟨y, r1, hb, h⟩ := bnd_ok h
  injection h with h; injection h with e1 e2
  have base : ∃ u e, l = u ++ r1 ∧ DeepE e (txts u) ∧ Shown 3 e y := by
    unfold baseP at hb
    split at hb
    · rename_i hk
      obtain ⟨t, e, ht⟩ := mk0_app hk
      cases inner with
      | none => cases hb
      | some q =>
        obtain ⟨z, r2, ho, hb⟩ := bnd_ok hb
        obtain ⟨_, r3, hw, hb⟩ := bnd_ok hb
        injection hb with hb; injection hb with e3 e4
        subst e3; subst e4
        obtain ⟨u, f, e5, hu, hz⟩ := hi q rfl _ _ _ (fun t ht => hl t (List.mem_of_mem_drop ht)) ho
        unfold wantP at hw
        split at hw
        · rename_i hk2
          obtain ⟨t2, e6, ht2⟩ := mk0_app hk2
          injection hw with hw; injection hw with _ e7
          refine ⟨t :: u ++ [t2], f + 1, by rw [e, e5, e6, ← e7]; simp, ?_, ?_⟩
          · have : txts (t :: u ++ [t2]) = [40] :: txts u ++ [[41]] := by simp [txts, ht, ht2]
            rw [this]
            exact hu.round
          · obtain ⟨p, d, g1, g2, g3⟩ := hz
            refine ⟨p, d, g1, g2, ?_⟩
            have hlo := g2.lo
            unfold upD at g3 ⊢
            rw [if_neg (by omega)] at g3
            split <;> omega
        · cases hw
    · split at hb
      · rename_i hk
        obtain ⟨t, e, ht⟩ := mk0_app hk
        obtain ⟨p, r2, hp, hb⟩ := bnd_ok hb
        injection hb with hb; injection hb with e3 e4
        subst e3; subst e4
        obtain ⟨t2, e5, rfl, ht2⟩ := predicate_tok hp
        have hm : TokP t2 := hl t2 (by rw [e, e5]; simp)
        refine ⟨[t, t2], 0, by rw [e, e5]; rfl, ?_, shown_label hm ht2 2 (.inr rfl)⟩
        have : txts [t, t2] = [[94]] ++ txts [t2] := by simp [txts, ht]
        rw [this]
        exact (DeepE.one (s := [94]) (by decide) (by decide)).app (tok_deep hm ht2)
      · obtain ⟨p, r2, hp, hb⟩ := bnd_ok hb
        injection hb with hb; injection hb with e3 e4
        subst e3; subst e4
        obtain ⟨t2, e5, rfl, ht2⟩ := predicate_tok hp
        have hm : TokP t2 := hl t2 (by rw [e5]; simp)
        exact ⟨[t2], 0, by rw [e5]; rfl, tok_deep hm ht2, shown_label hm ht2 1 (.inl rfl)⟩
  obtain ⟨u, e, e3, hu, hy⟩ := base
  obtain ⟨v, e4, hv, hx⟩ := marks_reads r1 y e hy
  subst e1; subst e2
  refine ⟨u ++ v, e, by rw [e3, List.append_assoc, ← e4], ?_, hx⟩
  rw [txts_app]
  have := hu.app hv
  rwa [Nat.max_zero] at this
theorem reads_pathW {part : Prs (List StS)} (h : Reads 3 part) : Reads 1 (pathW part) :=
  reads_row (m := 124) (reads_row (m := 47) h (by omega) ⟨by decide, by decide⟩ (fun e f x y hx hy => hx.thenS hy)) (by omega) ⟨by decide, by decide⟩ (fun e f x y hx hy => hx.orS hy)
theorem reads_part : ∀ d, Reads 3 (partP d)
  | 0 => reads_partW (fun p h => by cases h)
  | d + 1 => reads_partW (fun p h => by injection h with h; subst h; exact reads_pathW (reads_part d))
theorem reads_path (d : Nat) : Reads 1 (pathP d) := reads_pathW (reads_part d)
theorem label_len {x : StS} (h : stepB x = true) : x.f1.size ≤ 40 := by
  unfold stepB at h
  simp only [Bool.and_eq_true] at h
  have h2 := h.2
  split at h2
  · exact (name_low (pred_of h2).2).2
  · rw [beq_iff_eq] at h2
    show x.f1.data.size ≤ 40
    rw [← Array.length_toList, h2]
    simp
theorem pushes_all : ∀ (l : List StS) (st st' : List Pc), pushes st l = some st' → ∀ x ∈ l, x.f1.size ≤ 40
  | [], _, _, _, x, hx => by cases hx
  | y :: l, st, st', h, x, hx => by
    simp only [pushes] at h
    cases h1 : push1 st y with
    | none => rw [h1] at h; cases h
    | some s =>
      rw [h1, Option.bind_some] at h
      rcases List.mem_cons.1 hx with rfl | hx
      · refine label_len ?_
        cases hb : stepB x with
        | true => rfl
        | false => rw [push1_no hb] at h1; cases h1
      · exact pushes_all l s st' h x hx
theorem one_len {l : List StS} {p : Pc} (h : pushes [] l = some [p]) : p.1.length ≤ 50 * l.length := by
  have := pushes_wt _ [] [p] h
  simp only [wt] at this
  omega
/-- of tokens that are read as a path: what is shown of it. -/
theorem shown_path {l r : List TK} {x : List StS} (hl : ∀ t ∈ l, TokP t) (h : wholeP l = .ok (x, r)) : pathL x ≠ [] ∧ (∀ y ∈ x, y.f1.size ≤ 40) ∧ x.length ≤ 100 ∧ ∃ u e, l = u ++ r ∧ DeepE e (txts u) ∧ deepS (pathL x) ≤ e := by
  obtain ⟨hp, h100⟩ := whole_of h
  obtain ⟨u, e, e1, hu, p, d, g1, g2, g3⟩ := reads_path 32 _ _ _ hl hp
  obtain ⟨v, ev, hv⟩ := deep_path 32 _ _ _ (fun t ht h1 => (name_mark (hl t ht h1)).2) hp
  have huv : u = v := List.append_cancel_right (e1.symm.trans ev)
  subst huv
  have he : e ≤ 32 := by
    obtain ⟨m, e2, _, h3⟩ := hv 0 0 (Nat.le_refl _)
    rw [hu 0 0 (Nat.le_refl _)] at e2
    injection e2 with _ e2
    omega
  have hlo := g2.lo
  unfold upD at g3
  rw [if_neg (by omega)] at g3
  have hd := g2.deep (by have := one_len (g1 []); omega)
  have hP : pathL x = p.1 := by
    unfold pathL
    rw [if_neg (by omega), g1 []]
    simp only
    rw [if_neg (by omega)]
  rw [hP, hd]
  exact ⟨g2.ne, pushes_all _ _ _ (g1 []), h100, u, e, e1, hu, g3⟩
theorem tokP_ok {s : ByteArray} (hs : s.size ≤ 20000) (h : (lexRes s).2.2 = 0) : ∀ t ∈ (lexRes s).1.map tkOf, TokP t := by
  unfold lexRes at h ⊢
  rw [if_neg (by omega)] at h ⊢
  unfold tokRes at h ⊢
  cases ht : tokN nmL vlL 0 s.data.toList with
  | error i => rw [ht] at h; cases h
  | ok l =>
    simp only
    intro t hm
    rw [List.map_map, List.mem_map] at hm
    obtain ⟨x, hx, rfl⟩ := hm
    have hc := tok_cov nmL vlL s.data.toList _ 0 l (Nat.le_refl _) (by simpa using ht)
    obtain ⟨hn, hle, h1⟩ := cov_each8 l 0 hc x hx
    intro h0
    have hk : x.1 = 1 := by
      have : ((x.1 : Nat) : Int) = 1 := h0
      omega
    rw [hk] at hn
    show nmL (tokS s x).f1.data.toList = true
    rw [tokS_txt8 s x]
    cases hd : s.data.toList.drop x.2.1 with
    | nil => rw [hd] at hn; cases hn
    | cons c r =>
      rw [hd] at hn
      exact (next_word hn).2.2
/-- what is read is a path; its text has no more ( than it. -/
theorem steps_read {s : ByteArray} (hs : s.size ≤ 20000) {m : List StS} {a : Int} (h : parse_Path.f s = some (m, a, 0)) : pathL m ≠ [] ∧ (∀ y ∈ m, y.f1.size ≤ 40) ∧ m.length ≤ 100 ∧ deepS (pathL m) ≤ deepS s.data.toList := by
  unfold parse_Path.f at h
  rw [if_pos (by omega)] at h
  replace h := Option.some.inj h
  unfold parseRes at h
  by_cases h0 : (lexRes s).2.2 = 0
  · rw [if_pos h0] at h
    cases hA : allP wholeP ((lexRes s).1.map tkOf) with
    | error q =>
      rw [hA] at h
      injection h with h1 h; injection h with h2 h3
      exact absurd h3 (all_err err_whole hA)
    | ok x =>
      rw [hA] at h
      injection h with h1 h
      have h1 : x = m := h1
      subst h1
      obtain ⟨g1, g2, g3, u, e, e1, hu, g4⟩ := shown_path (tokP_ok hs h0) (all_ok8 hA)
      refine ⟨g1, g2, g3, ?_⟩
      rw [List.append_nil] at e1
      have : deepS s.data.toList = e := by
        unfold deepS
        rw [show (⟨s.data.toList.toArray⟩ : ByteArray) = s from rfl, e1, hu 0 0 (Nat.le_refl _)]
        show max 0 (0 + e) = e
        omega
      rw [this]
      exact g4
  · rw [if_neg h0] at h
    injection h with h1 h; injection h with h2 h3
    exact absurd h3 h0
end Go.Proofs.YthebhbomlllpeaaGreatDoor.X
namespace Go.Proofs.YthebhbomlllpeaaGreatDoor.X
set_option linter.unusedVariables false
set_option linter.unusedSimpArgs false
open Go.RowKit Go.Proofs.YthebhbomlllpeaaGreatDoorW.PrintWords Go.Proofs.YthebhbomlllpeaaGreatDoorW.PrintLast Go.Proofs.YthebhbomlllpeaaGreatDoorW.PrintMore
abbrev zRule4 : Array Value := #[.string ⟨#[]⟩, .slice none 0 0, .int .i64 0, .slice none 0 0]
set_option maxHeartbeats 4000000 in
set_option maxRecDepth 100000 in
theorem eachR_calls (w : World) (A : Option Addr) (c : Nat) (xs : List S33) (g : Nat → List UInt8) (sep : ByteArray) (hsep : sep.size ≤ 2) (hC : Kd.C k33 w A xs.length xs) (hn : xs.length ≤ 1000) (hg : ∀ i, (g i).length ≤ 100000000)
    (hby : ∀ (W : World) (i : Nat) (cs : List Value), i < xs.length → Below w.heap.size w W → k33.K W (xs.getD i z33) cs → Calls Tryz.prog 49 #[.int .i64 i, .agg cs.toArray] W fun e W' => e = .returned (.string (baL (g i))) ∧ Below W.heap.size W W') :
    Calls Tryz.prog 48 #[.slice A xs.length c, .func (.func 49) #[] #[], .string sep] w fun e w' => e = .returned (.tuple #[.string (baL (eachG g xs.length sep.data.toList).1), .bool (eachG g xs.length sep.data.toList).2]) ∧ Below w.heap.size w w' := by
  have HC := Aside0.mk hC
  have HBY := Aside0.mk hby
  have HG := Aside0.mk (And.intro hg hsep)
  have HR := Aside0.mk (Kd.R_nil Kd.string 9 w w.heap.size (fun k => w.heap.size ≤ k))
  have HB := Aside0.mk (Below.refl w.heap.size w)
  clear hC hby hg hsep
  go_enter Tryz.func48, Tryz.ntmps48
  go_wp2
  go_loopg [8, 14] (xs.length + 1) (fun kq v8 v14 w' => ∃ (i : Nat), v14 = .int .i64 i ∧ kq + i = xs.length + 1 ∧ i ≤ xs.length ∧ Aside0 (∀ j, j < i → g j ≠ []) ∧ Aside0 (Kd.R Kd.string 9 w' w.heap.size (fun k => w.heap.size ≤ k) v8 ((List.range i).map (fun j => baL (g j)))) ∧ Aside0 (Below w.heap.size w w'))
  case atStart => exact ⟨0, rfl, by omega, by omega, ⟨fun j hj => by omega⟩, HR, HB⟩
  case round =>
    clear HR HB
    obtain ⟨i, rfl, hk, hi, HE, HV, HB⟩ := hrel
    by_cases hlt : i < xs.length
    · have hz : decide ((i : Int) < (xs.length : Int)) = true := decide_eq_true (by omega)
      have hz2 : decide (i < xs.length) = true := decide_eq_true hlt
      obtain ⟨k1, rfl⟩ : ∃ k1, gk = k1 + 1 := ⟨gk - 1, by omega⟩
      obtain ⟨bk, o, cs, rfl, hcl, hK, hcell⟩ := row_at (Kd.C_below HC.out HB.out) z33 (by decide) i hlt
      have hcl : cs.length = 4 := hcl
      have hrg : wr.rangeAt bk (o + i * 4) cs := hcell
      have h1c := k33.K_one hK
      have HK := Aside0.mk (And.intro hK (And.intro hrg (And.intro hcl h1c)))
      obtain ⟨n, en⟩ : ∃ n, wr.heap.size = n := ⟨_, rfl⟩
      have hN := blk_new wr (.cells zRule4 33)
      rw [en] at hN
      have HN := Aside0.mk hN
      have HBA := Aside0.mk (below_alloc HB.out (.cells zRule4 33))
      have HNB := Aside0.mk (show w.heap.size ≤ n by rw [← en]; exact HB.out.size)
      have HRG := Aside0.mk (show (sets (wr.alloc (.cells zRule4 33)) n 0 cs).rangeAt n 0 cs from by
        have h1 := range_blk (blk_sets cs 0 _ _ hN)
        rwa [setsA_all (hcl.trans (by kernel_rfl)), List.toList_toArray] at h1)
      have hBW : Below wr.heap.size wr (sets (wr.alloc (.cells zRule4 33)) n 0 cs) := below_sets (w0 := wr) (by omega) cs 0 _ (below_alloc (Below.refl _ _) _)
      have HBW := Aside0.mk hBW
      clear hK hrg hcl h1c hcell hN hBW
      go_wp2_with (first | ((with_reducible refine gate_dst (N := 18) rfl ?_); refine wpList_load_mid rfl 33 (.tmp 17) rfl bk (o + i * 4) rfl cs _ HK.out.2.1 Tryz.underlying33 rfl (by rw [HK.out.2.2.1]; kernel_rfl) ?_) | ((with_reducible refine gate_store (t := 33) (p := 10) (v := .tmp 18) rfl ?_); refine wpList_store_mid rfl 33 (.tmp 10) (.tmp 18) rfl n 0 cs.toArray rfl rfl (there_blk HN.out (by rw [List.size_toArray, HK.out.2.2.1]; exact Nat.le_of_eq (by kernel_rfl))) (by rw [List.size_toArray, HK.out.2.2.1]; kernel_rfl) (all_oneCell_toArray HK.out.2.2.2) ?_; rw [setCells_sets, List.toList_toArray]) | ((with_reducible refine gate_dst (N := 21) rfl ?_); refine wpList_load_mid rfl 33 (.tmp 10) rfl n 0 rfl cs _ HRG.out Tryz.underlying33 rfl (by rw [HK.out.2.2.1]; kernel_rfl) ?_))
      have HCB := Aside0.mk (below_then HB.out HB.out.size HBW.out)
      refine (HBY.out _ i cs hlt HCB.out (k33.K_below HBW.out HK.out.1)).mono ?_
      rintro e w1 ⟨rfl, hb⟩
      have hb1 := below_then HBW.out HBW.out.size hb
      have HB1 := Aside0.mk (below_then HB.out HB.out.size hb1)
      have HV1 := Aside0.mk (Kd.R_below HV.out hb1)
      clear hb hb1
      obtain ⟨b, hbE⟩ : ∃ b, baL (g i) = b := ⟨_, rfl⟩
      by_cases he : g i = []
      · have e1 : (b.toList == ([] : List UInt8)) = true := by rw [← hbE, he, baL_toList]; exact beq_self_eq_true _
        have e2 : (b.toList == (⟨#[]⟩ : ByteArray).toList) = true := by rw [← hbE, he]; exact beq_self_eq_true _
        have HE := Aside0.mk (eachG_no (sep := sep.data.toList) hlt he)
        clear he
        rw [hbE]
        clear hbE
        go_wp2
        go_ret2
        rw [HE.out]
        exact ⟨rfl, HB1.out⟩
      · have e1 : (b.toList == ([] : List UInt8)) = false := by rw [beq_eq_false_iff_ne, ← hbE, baL_toList]; exact he
        have e2 : (b.toList == (⟨#[]⟩ : ByteArray).toList) = false := by rw [beq_eq_false_iff_ne, ← hbE, baL_toList]; exact fun h => he (h.trans nil_bytes)
        have HBE := Aside0.mk (And.intro hbE he)
        obtain ⟨A8, c8, rfl⟩ := Kd.R_slice HV1.out
        have HL : Aside0 (((List.range i).map fun j => baL (g j)).length ≤ 1000) := ⟨by rw [List.length_map, List.length_range]; omega⟩
        rw [hbE]
        clear hbE he
        obtain ⟨L, hL⟩ : ∃ L, ((List.range i).map fun j => baL (g j)) = L := ⟨_, rfl⟩
        rw [hL] at HV1 HL
        rw [hL]
        have HLE := Aside0.mk hL
        clear hL
        go_wp2_with ((with_reducible refine gate_builtin (b := .append) (xs := #[.tmp 25, .tmp 27]) rfl ?_); at_builtin; refine Kd.R_append Kd.string (w0 := w) w.heap.size rfl (.tmp 25) (.tmp 27) 54 9 (.string ⟨#[]⟩) 16 rfl Tryz.underlying54 info9s rfl (by decide) (by decide) (.slice A8 L.length c8) L b [.string b] (fun k => w.heap.size ≤ k) (fun _ => False) rfl (by first | rfl | (simp; rfl)) rfl (fun _ hk => hk.elim) (fun k hk => Nat.le_trans HB1.out.size hk) HV1.out HB1.out HB1.out.size (by have := HL.out; omega) ?_; intro v1 w2 ho hb hg hat; have HV2 := Aside0.mk ho; have HB2 := Aside0.mk hb; clear ho hb hg hat)
        go_roundg k1
        case rel => exact ⟨i + 1, by go_num, by omega, by omega, ⟨fun j hj => by rcases Nat.lt_succ_iff_lt_or_eq.1 hj with h | h; exact HE.out j h; exact h ▸ HBE.out.2⟩, ⟨by rw [range_snoc, HBE.out.1, HLE.out]; exact HV2.out⟩, HB2⟩
        case measure => omega
    · obtain rfl : i = xs.length := by omega
      have hz : decide ((xs.length : Int) < (xs.length : Int)) = false := decide_eq_false (by omega)
      obtain ⟨A8, c8, rfl⟩ := Kd.R_slice HV.out
      have hj := join_calls sep HV.out (by rw [range_data]; exact join_bound HG.out.1 HG.out.2 hn) (by rw [List.length_map, List.length_range]; exact hn)
      rw [range_data] at hj
      obtain ⟨L, hL⟩ : ∃ L, ((List.range xs.length).map fun j => baL (g j)) = L := ⟨_, rfl⟩
      rw [hL] at hj ⊢
      clear HV hL
      have HJ := Aside0.mk hj
      have HE2 := Aside0.mk (eachG_yes (sep := sep.data.toList) HE.out)
      clear hj
      go_wp2_with fail
      refine HJ.out.mono ?_
      rintro e w1 ⟨rfl, hb⟩
      have HB1 := Aside0.mk (below_then HB.out HB.out.size hb)
      clear hb
      go_wp2
      go_ret2
      rw [HE2.out]
      exact ⟨rfl, HB1.out⟩
end Go.Proofs.YthebhbomlllpeaaGreatDoor.X
namespace Go.Proofs.YthebhbomlllpeaaGreatDoor.X
open Go.RowKit Go.Proofs.YthebhbomlllpeaaGreatDoorW.PrintWords Go.Proofs.YthebhbomlllpeaaGreatDoorW.PrintLast Go.Proofs.YthebhbomlllpeaaGreatDoorW.PrintMore
attribute [local go_sem] max2_int min2_int max_two min_two max_three min_three max_four min_four
set_option linter.unusedVariables false
set_option linter.unusedSimpArgs false
theorem eqA60 (d : Nat) (w : World) (x0 y0 : ByteArray) (x1 y1 : Int) (x2 y2 : Int) (x3 y3 : ByteArray) :
    (Op.equalIn (d + 3) 60 (.agg #[.string x0, .int .i64 x1, .int .i64 x2, .string x3]) (.agg #[.string y0, .int .i64 y1, .int .i64 y2, .string y3])).run Tryz.prog w = .ok (x0.toList == y0.toList && ((x1 == y1 && (x2 == y2 && (x3.toList == y3.toList))))) w := by
  refine eqA_of Tryz.underlying60 (by kernel_rfl) ?_
  refine eqf_cons (by rfl) (by go_simp; rfl) (by go_simp; rfl) (by go_simp) ?_
  exact eqf_last (by rfl) (by go_simp) (by go_simp) (eqA58 (d + 0) w _ _ _ _ _ _)
end Go.Proofs.YthebhbomlllpeaaGreatDoor.X
namespace Go.Proofs.YthebhbomlllpeaaGreatDoor.X
set_option linter.unusedVariables false
set_option linter.unusedSimpArgs false
open Go.RowKit Go.Proofs.YthebhbomlllpeaaGreatDoorW.PrintWords Go.Proofs.YthebhbomlllpeaaGreatDoorW.PrintLast Go.Proofs.YthebhbomlllpeaaGreatDoorW.PrintMore
attribute [local go_sem ↓] Go.wp_at_zero Go.wp_at_succ
theorem emp_t {l : List UInt8} {b : ByteArray} (h : baL l = b) (he : l = []) : (b.toList == ([] : List UInt8)) = true ∧ (b.toList == (⟨#[]⟩ : ByteArray).toList) = true ∧ (b.toList != ([] : List UInt8)) = false ∧ (b.toList != (⟨#[]⟩ : ByteArray).toList) = false := by
  subst h he
  exact ⟨by rw [baL_toList]; rfl, beq_self_eq_true _, by rw [baL_toList]; rfl, bne_self_eq_false _⟩
theorem emp_f {l : List UInt8} {b : ByteArray} (h : baL l = b) (he : l ≠ []) : (b.toList == ([] : List UInt8)) = false ∧ (b.toList == (⟨#[]⟩ : ByteArray).toList) = false ∧ (b.toList != ([] : List UInt8)) = true ∧ (b.toList != (⟨#[]⟩ : ByteArray).toList) = true := by
  subst h
  have h1 : (baL l).toList ≠ [] := by rw [baL_toList]; exact he
  exact ⟨beq_eq_false_iff_ne.2 h1, beq_eq_false_iff_ne.2 (by rw [nil_bytes]; exact h1), bne_iff_ne.2 h1, bne_iff_ne.2 (by rw [nil_bytes]; exact h1)⟩
/-- are steps a path? -/
def rpB (l : List StS) : Bool := !(pathL l).isEmpty
set_option maxHeartbeats 4000000 in
set_option maxRecDepth 100000 in
theorem rightPath_show (l : List StS) (A : Option Addr) (c : Nat) (w : World) (hLW : LaidW w) (hC : Kd.C k69 w A l.length l) (hl : ∀ x ∈ l, x.f1.size ≤ 9223372036854775807) (hl63 : l.length ≤ 140737488355328) :
    Calls Tryz.prog 27 #[.slice A l.length c] w fun e w' => e = .returned (.bool (rpB l)) ∧ Below w.heap.size w w' := by
  have HP := Aside0.mk (path_show l A c w hLW hC hl hl63)
  obtain ⟨r, hr⟩ : ∃ r, rpB l = r := ⟨_, rfl⟩
  have HR := Aside0.mk hr
  rw [hr]
  clear hC hl hLW hr
  go_enter Tryz.func27, Tryz.ntmps27
  go_wp2_with fail
  refine HP.out.mono ?_
  rintro e w1 ⟨rfl, hb⟩
  have HB1 := Aside0.mk hb
  clear hb
  obtain ⟨b, hbE⟩ : ∃ b, baL (pathL l) = b := ⟨_, rfl⟩
  rw [hbE]
  by_cases he : pathL l = []
  · obtain ⟨e1, e2, e3, e4⟩ := emp_t hbE he
    have HF := Aside0.mk (show r = false by rw [← HR.out]; unfold rpB; rw [he]; rfl)
    clear hbE he
    go_wp2
    go_ret
    exact ⟨by rw [HF.out]; rfl, HB1.out⟩
  · obtain ⟨e1, e2, e3, e4⟩ := emp_f hbE he
    have HF := Aside0.mk (show r = true by
      rw [← HR.out]; unfold rpB
      cases hh : pathL l with
      | nil => exact absurd hh he
      | cons _ _ => rfl)
    clear hbE he
    go_wp2
    go_ret
    exact ⟨by rw [HF.out]; rfl, HB1.out⟩
theorem neB {l : List UInt8} (h : l ≠ []) : (!l.isEmpty) = true := by
  cases l with
  | nil => exact absurd rfl h
  | cons _ _ => rfl
end Go.Proofs.YthebhbomlllpeaaGreatDoor.X
namespace Go.Proofs.YthebhbomlllpeaaGreatDoor.X
set_option linter.unusedVariables false
set_option linter.unusedSimpArgs false
open Go.RowKit Go.Proofs.YthebhbomlllpeaaGreatDoorW.PrintWords Go.Proofs.YthebhbomlllpeaaGreatDoorW.PrintLast Go.Proofs.YthebhbomlllpeaaGreatDoorW.PrintMore
attribute [local go_sem ↓] Go.wp_at_zero Go.wp_at_succ
def lit7.T : Bool × List (List Nat × List Nat) := (true, [([], []), ([0], [0]), ([1], [1]), ([2], [2]), ([], []), ([4], [4]), ([3, 5], [3, 5]), ([6], [6]), ([], []), ([8], [8]), ([9, 2], [9]), ([7, 10], [7, 10]), ([11, 10, 0, 1, 2, 3, 4, 5, 6, 7, 8, 9, 10, 11], [11])])
def lit7.B : List Nat := [0, 1, 3, 7, 0, 16, 63, 127, 0, 256, 775, 2047, 4095]
theorem lit7.tab : rtab .any (opsOf Tryz.f44 7) = lit7.T := by kernel_rfl
theorem lit7.bits : waitsOk lit7.T.2 lit7.B = true := by kernel_rfl
end Go.Proofs.YthebhbomlllpeaaGreatDoor.X
namespace Go.Proofs.YthebhbomlllpeaaGreatDoor.X
set_option linter.unusedVariables false
set_option linter.unusedSimpArgs false
open Go.RowKit Go.Proofs.YthebhbomlllpeaaGreatDoorW.PrintWords Go.Proofs.YthebhbomlllpeaaGreatDoorW.PrintLast Go.Proofs.YthebhbomlllpeaaGreatDoorW.PrintMore
attribute [local go_sem ↓] Go.wp_at_zero Go.wp_at_succ
def lit9.T : Bool × List (List Nat × List Nat) := (true, [([], []), ([0], [0]), ([1], [1]), ([2], [2]), ([], []), ([4], [4]), ([5, 2], [5]), ([3, 6], [3, 6]), ([], []), ([8], [8]), ([9, 6], [9]), ([7, 10], [7, 10]), ([], []), ([12], [12]), ([13, 10], [13]), ([11, 14], [11, 14]), ([15, 14, 0, 1, 2, 3, 4, 5, 6, 7, 8, 9, 10, 11, 12, 13, 14, 15], [15])])
def lit9.B : List Nat := [0, 1, 3, 7, 0, 16, 55, 127, 0, 256, 887, 2047, 0, 4096, 14199, 32767, 65535]
theorem lit9.tab : rtab .any (opsOf Tryz.f44 9) = lit9.T := by kernel_rfl
theorem lit9.bits : waitsOk lit9.T.2 lit9.B = true := by kernel_rfl
end Go.Proofs.YthebhbomlllpeaaGreatDoor.X
namespace Go.Proofs.YthebhbomlllpeaaGreatDoor.X
set_option linter.unusedVariables false
set_option linter.unusedSimpArgs false
open Go.RowKit Go.Proofs.YthebhbomlllpeaaGreatDoorW.PrintWords Go.Proofs.YthebhbomlllpeaaGreatDoorW.PrintLast Go.Proofs.YthebhbomlllpeaaGreatDoorW.PrintMore
attribute [local go_sem ↓] Go.wp_at_zero Go.wp_at_succ
def lit11.T : Bool × List (List Nat × List Nat) := (true, [([], []), ([0], [0]), ([1], [1]), ([2], [2]), ([3], [3]), ([], []), ([5], [5]), ([6, 2], [6]), ([4, 7], [4, 7]), ([8], [8]), ([], []), ([10], [10]), ([11, 7], [11]), ([9, 12], [9, 12]), ([13], [13]), ([14, 12, 0, 1, 2, 3, 4, 5, 6, 7, 8, 9, 10, 11, 12, 13, 14], [14])])
def lit11.B : List Nat := [0, 1, 3, 7, 15, 0, 32, 103, 255, 511, 0, 1024, 3303, 8191, 16383, 32767]
theorem lit11.tab : rtab .any (opsOf Tryz.f44 11) = lit11.T := by kernel_rfl
theorem lit11.bits : waitsOk lit11.T.2 lit11.B = true := by kernel_rfl
end Go.Proofs.YthebhbomlllpeaaGreatDoor.X
namespace Go.Proofs.YthebhbomlllpeaaGreatDoor.X
set_option linter.unusedVariables false
set_option linter.unusedSimpArgs false
open Go.RowKit Go.Proofs.YthebhbomlllpeaaGreatDoorW.PrintWords Go.Proofs.YthebhbomlllpeaaGreatDoorW.PrintLast Go.Proofs.YthebhbomlllpeaaGreatDoorW.PrintMore
def okTB (t : TmS) : Bool := decide (-9223372036854775808 ≤ t.f1.f1) && (decide (t.f1.f1 ≤ 9223372036854775807) && decide (t.f0.size ≤ 9223372036854775807))
theorem okTB_of {t : TmS} : okTB t = true ↔ okT t := by
  unfold okTB okT
  simp only [Bool.and_eq_true, decide_eq_true_eq]
  exact ⟨fun h => ⟨⟨h.1, h.2.1⟩, h.2.2⟩, fun h => ⟨h.1.1, h.1.2, h.2⟩⟩
def okAB (l : List TmS) : Bool := l.all okTB && decide (l.length ≤ 1000)
theorem okAB_of {p : ByteArray} {l : List TmS} : okAB l = true ↔ okA ⟨p, l⟩ := by
  unfold okAB okA
  simp only [Bool.and_eq_true, decide_eq_true_eq, List.all_eq_true]
  exact ⟨fun h => ⟨fun x hx => okTB_of.1 (h.1 x hx), h.2⟩, fun h => ⟨fun x hx => okTB_of.2 (h.1 x hx), h.2⟩⟩
def okSB (l : List StS) : Bool := (l.all fun x => decide (x.f1.size ≤ 9223372036854775807)) && decide (l.length ≤ 140737488355328)
theorem okSB_of {l : List StS} : okSB l = true ↔ ((∀ x ∈ l, x.f1.size ≤ 9223372036854775807) ∧ l.length ≤ 140737488355328) := by
  unfold okSB
  simp only [Bool.and_eq_true, decide_eq_true_eq, List.all_eq_true]
def show_Path.f (l0 : List S69) : Option ByteArray := if okSB l0 = true then some (baL (pathL l0)) else none
theorem show_Path.calls (A0 : Option Addr) (c0 : Nat) (l0 : List S69) (r : ByteArray) (w : World) (hLW : LaidW w) (hr0 : Kd.C k69 w A0 l0.length l0) (hc0 : l0.length ≤ c0) (h : show_Path.f l0 = some r) :
    Calls Tryz.prog 25 #[.slice A0 l0.length c0] w fun e w' => e = .returned (.string r) ∧ Below w.heap.size w w' := by
  unfold show_Path.f at h
  split at h
  · rename_i hk
    obtain rfl := Option.some.inj h
    exact path_show l0 A0 c0 w hLW hr0 (okSB_of.1 hk).1 (okSB_of.1 hk).2
  · cases h
def show_RightPath.f (l0 : List S69) : Option Bool := if okSB l0 = true then some (rpB l0) else none
theorem show_RightPath.calls (A0 : Option Addr) (c0 : Nat) (l0 : List S69) (r : Bool) (w : World) (hLW : LaidW w) (hr0 : Kd.C k69 w A0 l0.length l0) (hc0 : l0.length ≤ c0) (h : show_RightPath.f l0 = some r) :
    Calls Tryz.prog 27 #[.slice A0 l0.length c0] w fun e w' => e = .returned (.bool r) ∧ Below w.heap.size w w' := by
  unfold show_RightPath.f at h
  split at h
  · rename_i hk
    obtain rfl := Option.some.inj h
    exact rightPath_show l0 A0 c0 w hLW hr0 (okSB_of.1 hk).1 (okSB_of.1 hk).2
  · cases h
def show_Atom.f (a0_0 : ByteArray) (l0_1 : List S60) : Option ByteArray := if okAB l0_1 = true then some (baL (atomL ⟨a0_0, l0_1⟩)) else none
theorem show_Atom.calls (a0_0 : ByteArray) (A0_1 : Option Addr) (c0_1 : Nat) (l0_1 : List S60) (r : ByteArray) (w : World) (hLW : LaidW w) (hr0_1 : Kd.C k60 w A0_1 l0_1.length l0_1) (hc0_1 : l0_1.length ≤ c0_1) (h : show_Atom.f a0_0 l0_1 = some r) :
    Calls Tryz.prog 23 #[.agg #[.string a0_0, .slice A0_1 l0_1.length c0_1]] w fun e w' => e = .returned (.string r) ∧ Below w.heap.size w w' := by
  unfold show_Atom.f at h
  split at h
  · rename_i hk
    obtain rfl := Option.some.inj h
    exact atom_show ⟨a0_0, l0_1⟩ A0_1 c0_1 w hLW hr0_1 (okAB_of.1 hk)
  · cases h
end Go.Proofs.YthebhbomlllpeaaGreatDoor.X
namespace Go.Proofs.YthebhbomlllpeaaGreatDoor.X
set_option linter.unusedVariables false
set_option linter.unusedSimpArgs false
open Go.RowKit Go.Proofs.YthebhbomlllpeaaGreatDoorW.PrintWords Go.Proofs.YthebhbomlllpeaaGreatDoorW.PrintLast Go.Proofs.YthebhbomlllpeaaGreatDoorW.PrintMore
def factL (q : AtS) : List UInt8 := if atomL q = [] then [] else atomL q ++ [46]
def questL (q : AtS) : List UInt8 := if atomL q = [] then [] else [63, 45, 32] ++ (atomL q ++ [46, 10])
theorem eachG_zero (sep : List UInt8) : eachG (fun _ => []) 0 sep = ([], true) := by
  unfold eachG eachL
  rw [List.range_zero, List.map_nil, if_neg (by simp), Lib.join_nil]
theorem eachL_zero (w : World) (A : Option Addr) (c : Nat) (hC : Kd.C k62 w A 0 ([] : List LtS)) :
    Calls Tryz.prog 43 #[.slice A 0 c, .func (.func 44) #[] #[], .string ⟨#[44, 32]⟩] w fun e w' => e = .returned (.tuple #[.string ⟨#[]⟩, .bool true]) ∧ Below w.heap.size w w' := by
  have h := eachL_calls w A c [] (fun _ => []) ⟨#[44, 32]⟩ (by decide) hC (by simp) (fun _ => by simp) (fun W i cs hi => absurd hi (by simp))
  rw [show ([] : List LtS).length = 0 from rfl, eachG_zero] at h
  exact h
theorem eachR_zero (w : World) (A : Option Addr) (c : Nat) (hC : Kd.C k33 w A 0 ([] : List RlS)) :
    Calls Tryz.prog 48 #[.slice A 0 c, .func (.func 49) #[] #[], .string ⟨#[10]⟩] w fun e w' => e = .returned (.tuple #[.string ⟨#[]⟩, .bool true]) ∧ Below w.heap.size w w' := by
  have h := eachR_calls w A c [] (fun _ => []) ⟨#[10]⟩ (by decide) hC (by simp) (fun _ => by simp) (fun W i cs hi => absurd hi (by simp))
  rw [show ([] : List RlS).length = 0 from rfl, eachG_zero] at h
  exact h
set_option maxHeartbeats 4000000 in
set_option maxRecDepth 100000 in
theorem fact_show (q : AtS) (A1 : Option Addr) (c1 : Nat) (A3 : Option Addr) (c3 : Nat) (w : World) (hLW : LaidW w) (hq : okA q) (hA1 : Kd.C k60 w A1 q.f1.length q.f1) (hA3 : Kd.C k62 w A3 0 ([] : List LtS)) :
    Calls Tryz.prog 18 #[.agg #[.string q.f0, .slice A1 q.f1.length c1, .int .i64 0, .slice A3 0 c3]] w fun e w' => e = .returned (.string (baL (factL q))) ∧ Below w.heap.size w w' := by
  obtain ⟨W, hW⟩ : ∃ W, w.alloc (.cells #[.string q.f0, .slice A1 q.f1.length c1, .int .i64 0, .slice A3 0 c3] 33) = W := ⟨_, rfl⟩
  have hBW : Below w.heap.size w W := hW ▸ below_alloc (Below.refl w.heap.size w) _
  have hN := blk_new w (.cells #[.string q.f0, .slice A1 q.f1.length c1, .int .i64 0, .slice A3 0 c3] 33)
  rw [hW] at hN
  have d0 : W.cell? ⟨w.heap.size, 0, none⟩ = some (.string q.f0) := (blk_cell hN 0).trans rfl
  have d1 : W.cell? ⟨w.heap.size, 1, none⟩ = some (.slice A1 q.f1.length c1) := (blk_cell hN 1).trans rfl
  have d2 : W.cell? ⟨w.heap.size, 2, none⟩ = some (.int .i64 0) := (blk_cell hN 2).trans rfl
  have d3 : W.cell? ⟨w.heap.size, 3, none⟩ = some (.slice A3 0 c3) := (blk_cell hN 3).trans rfl
  have HB := Aside0.mk hBW
  have HN := Aside0.mk hN
  have HHD := Aside0.mk (head_calls q A1 c1 0 (by decide) W (hLW.below hBW) (Kd.C_below hA1 hBW) hq)
  have HEA := Aside0.mk (fun (V : World) (h : Below w.heap.size w V) => eachL_zero V A3 c3 (Kd.C_below hA3 h))
  have hhl := head_len q 0 hq
  obtain ⟨hd, hhd⟩ : ∃ p, headL q 0 = p := ⟨_, rfl⟩
  have HE := Aside0.mk (show factL q = if hd = [] then [] else hd ++ [46] by rw [← hhd]; rfl)
  obtain ⟨res, hres⟩ : ∃ r, factL q = r := ⟨_, rfl⟩
  rw [hres] at HE
  rw [hres]
  rw [show headL q ((0 : Nat) : Int) = hd from hhd] at HHD
  rw [hhd] at hhl
  obtain ⟨hb, hbE⟩ : ∃ b, baL hd = b := ⟨_, rfl⟩
  have hbS : hb.size ≤ 200000 := by rw [← hbE, baL_size]; exact hhl
  rw [hbE] at HHD
  clear hA1 hA3 hq hLW hBW hN hres hhd hhl
  go_enter Tryz.func18, Tryz.ntmps18
  go_wp2_with fail
  refine HHD.out.mono ?_
  rintro e w1 ⟨rfl, hb1⟩
  have HB1 := Aside0.mk (below_then HB.out HB.out.size hb1)
  have HN1 := Aside0.mk (blk_below HN.out hb1)
  clear hb1 d0 d1 d2 d3 hW
  have d3 : w1.cell? ⟨w.heap.size, 3, none⟩ = some (.slice A3 0 c3) := (blk_cell HN1.out 3).trans rfl
  go_wp2_with fail
  refine (HEA.out _ HB1.out).mono ?_
  rintro e w2 ⟨rfl, hb2⟩
  have HB2 := Aside0.mk (below_then HB1.out HB1.out.size hb2)
  have HN2 := Aside0.mk (blk_below HN1.out hb2)
  clear hb2 d3
  have d3 : w2.cell? ⟨w.heap.size, 3, none⟩ = some (.slice A3 0 c3) := (blk_cell HN2.out 3).trans rfl
  by_cases hd0 : hd = []
  · obtain ⟨g1, g2, g3, g4⟩ := emp_t hbE hd0
    have HE2 := Aside0.mk (HE.out.trans (if_pos hd0))
    clear hbE hd0
    go_wp2
    go_ret
    exact ⟨by rw [HE2.out]; rfl, HB2.out⟩
  obtain ⟨g1, g2, g3, g4⟩ := emp_f hbE hd0
  have HHB := Aside0.mk hbE
  have HE2 := Aside0.mk (HE.out.trans (if_neg hd0))
  clear hbE hd0
  have kq1 : (9223372036854775807 < hb.size + 1) = False := eq_false (by omega)
  go_wp2
  go_ret
  exact ⟨by rw [HE2.out, ← HHB.out]; exact ret_str (ba_eq (by simp)), HB2.out⟩
set_option maxHeartbeats 4000000 in
set_option maxRecDepth 100000 in
theorem quest_show (q : AtS) (A0 : Option Addr) (c0 : Nat) (A2 : Option Addr) (c2 : Nat) (w : World) (hLW : LaidW w) (hq : okA q) (hs : (atomL q).length ≤ 19000) (hA0 : Kd.C k33 w A0 0 ([] : List RlS)) (hA2 : Kd.C k60 w A2 q.f1.length q.f1) :
    Calls Tryz.prog 20 #[.agg #[.slice A0 0 c0, .string q.f0, .slice A2 q.f1.length c2]] w fun e w' => e = .returned (.string (baL (questL q))) ∧ Below w.heap.size w w' := by
  obtain ⟨W, hW⟩ : ∃ W, w.alloc (.cells #[.slice A0 0 c0, .string q.f0, .slice A2 q.f1.length c2] 27) = W := ⟨_, rfl⟩
  have hBW : Below w.heap.size w W := hW ▸ below_alloc (Below.refl w.heap.size w) _
  have hN := blk_new w (.cells #[.slice A0 0 c0, .string q.f0, .slice A2 q.f1.length c2] 27)
  rw [hW] at hN
  have d0 : W.cell? ⟨w.heap.size, 0, none⟩ = some (.slice A0 0 c0) := (blk_cell hN 0).trans rfl
  have HB := Aside0.mk hBW
  have HN := Aside0.mk hN
  have HEA := Aside0.mk (eachR_zero W A0 c0 (Kd.C_below hA0 hBW))
  have HAT := Aside0.mk (fun (V : World) (h : Below w.heap.size w V) => atom_show q A2 c2 V (hLW.below h) (Kd.C_below hA2 h) hq)
  obtain ⟨qt, hqt⟩ : ∃ x, atomL q = x := ⟨_, rfl⟩
  have HE := Aside0.mk (show questL q = if qt = [] then [] else [63, 45, 32] ++ (qt ++ [46, 10]) by rw [← hqt]; rfl)
  obtain ⟨res, hres⟩ : ∃ r, questL q = r := ⟨_, rfl⟩
  rw [hres] at HE
  rw [hres]
  rw [hqt] at hs
  simp only [hqt] at HAT
  obtain ⟨qb, qbE⟩ : ∃ b, baL qt = b := ⟨_, rfl⟩
  have qbS : qb.size ≤ 19000 := by rw [← qbE, baL_size]; exact hs
  simp only [qbE] at HAT
  clear hA0 hA2 hq hLW hBW hN hres hqt hs
  go_enter Tryz.func20, Tryz.ntmps20
  go_wp2_with fail
  refine HEA.out.mono ?_
  rintro e w1 ⟨rfl, hb1⟩
  have HB1 := Aside0.mk (below_then HB.out HB.out.size hb1)
  have HN1 := Aside0.mk (blk_below HN.out hb1)
  clear hb1 d0 hW HEA
  have d0 : w1.cell? ⟨w.heap.size, 0, none⟩ = some (.slice A0 0 c0) := (blk_cell HN1.out 0).trans rfl
  have d1 : w1.cell? ⟨w.heap.size, 1, none⟩ = some (.string q.f0) := (blk_cell HN1.out 1).trans rfl
  have d2 : w1.cell? ⟨w.heap.size, 2, none⟩ = some (.slice A2 q.f1.length c2) := (blk_cell HN1.out 2).trans rfl
  go_wp2_with fail
  refine (HAT.out _ HB1.out).mono ?_
  rintro e w2 ⟨rfl, hb2⟩
  have HB2 := Aside0.mk (below_then HB1.out HB1.out.size hb2)
  have HN2 := Aside0.mk (blk_below HN1.out hb2)
  clear hb2 d0 d1 d2
  have d0 : w2.cell? ⟨w.heap.size, 0, none⟩ = some (.slice A0 0 c0) := (blk_cell HN2.out 0).trans rfl
  have hz : (⟨#[]⟩ : ByteArray).size = 0 := rfl
  have kq2 : (9223372036854775807 < 3 + qb.size) = False := eq_false (by omega)
  have kq3 : (9223372036854775807 < 3 + qb.size + 2) = False := eq_false (by omega)
  have g9 : decide (20000 < 3 + qb.size + 2) = false := decide_eq_false (by omega)
  have g10 : decide ((20000 : Int) < 3 + (qb.size : Int) + 2) = false := decide_eq_false (by omega)
  by_cases hq0 : qt = []
  · obtain ⟨g1, g2, g3, g4⟩ := emp_t qbE hq0
    have HE2 := Aside0.mk (HE.out.trans (if_pos hq0))
    clear hq0 qbE
    go_wp2
    go_ret
    exact ⟨by rw [HE2.out]; rfl, HB2.out⟩
  obtain ⟨g1, g2, g3, g4⟩ := emp_f qbE hq0
  have HQB := Aside0.mk qbE
  have HE2 := Aside0.mk (HE.out.trans (if_neg hq0))
  clear hq0 qbE
  go_wp2
  go_ret
  exact ⟨by rw [HE2.out, ← HQB.out]; exact ret_str (ba_eq (by simp)), HB2.out⟩
set_option maxRecDepth 100000 in
theorem questR_show (q : AtS) (A0 : Option Addr) (c0 : Nat) (A2 : Option Addr) (c2 : Nat) (w : World) (hLW : LaidW w) (hq : okA q) (hs : (atomL q).length ≤ 19000) (hA0 : Kd.C k33 w A0 0 ([] : List RlS)) (hA2 : Kd.C k60 w A2 q.f1.length q.f1) :
    Calls Tryz.prog 22 #[.agg #[.slice A0 0 c0, .string q.f0, .slice A2 q.f1.length c2]] w fun e w' => e = .returned (.bool (!(questL q).isEmpty)) ∧ Below w.heap.size w w' := by
  have hB := below_alloc (Below.refl w.heap.size w) (.cells #[.slice A0 0 c0, .string q.f0, .slice A2 q.f1.length c2] 27)
  have HP := Aside0.mk (quest_show q A0 c0 A2 c2 _ (hLW.below hB) hq hs (Kd.C_below hA0 hB) (Kd.C_below hA2 hB))
  have HB := Aside0.mk hB
  obtain ⟨r, hr⟩ : ∃ r, (!(questL q).isEmpty) = r := ⟨_, rfl⟩
  have HR := Aside0.mk hr
  rw [hr]
  clear hA0 hA2 hq hs hLW hB hr
  go_enter Tryz.func22, Tryz.ntmps22
  go_wp2_with fail
  refine HP.out.mono ?_
  rintro e w1 ⟨rfl, hb⟩
  have HB1 := Aside0.mk (below_then HB.out HB.out.size hb)
  clear hb
  obtain ⟨b, hbE⟩ : ∃ b, baL (questL q) = b := ⟨_, rfl⟩
  rw [hbE]
  by_cases he : questL q = []
  · obtain ⟨e1, e2, e3, e4⟩ := emp_t hbE he
    have HF := Aside0.mk (show r = false by rw [← HR.out, he]; rfl)
    clear hbE he
    go_wp2
    go_ret
    exact ⟨by rw [HF.out]; rfl, HB1.out⟩
  · obtain ⟨e1, e2, e3, e4⟩ := emp_f hbE he
    have HF := Aside0.mk (show r = true by rw [← HR.out, neB he])
    clear hbE he
    go_wp2
    go_ret
    exact ⟨by rw [HF.out]; rfl, HB1.out⟩
def show_Rule0.f (a0_0 : ByteArray) (l0_1 : List S60) (a0_2 : Int) (l0_3 : List S62) : Option ByteArray := if okAB l0_1 = true ∧ a0_2 = 0 ∧ l0_3.length = 0 then some (baL (factL ⟨a0_0, l0_1⟩)) else none
theorem show_Rule0.calls (a0_0 : ByteArray) (A0_1 : Option Addr) (c0_1 : Nat) (l0_1 : List S60) (a0_2 : Int) (A0_3 : Option Addr) (c0_3 : Nat) (l0_3 : List S62) (r : ByteArray) (w : World) (hLW : LaidW w) (hr0_1 : Kd.C k60 w A0_1 l0_1.length l0_1) (hc0_1 : l0_1.length ≤ c0_1) (hr0_3 : Kd.C k62 w A0_3 l0_3.length l0_3) (hc0_3 : l0_3.length ≤ c0_3) (h : show_Rule0.f a0_0 l0_1 a0_2 l0_3 = some r) :
    Calls Tryz.prog 18 #[.agg #[.string a0_0, .slice A0_1 l0_1.length c0_1, .int .i64 a0_2, .slice A0_3 l0_3.length c0_3]] w fun e w' => e = .returned (.string r) ∧ Below w.heap.size w w' := by
  unfold show_Rule0.f at h
  split at h
  · rename_i hk
    obtain ⟨hk, rfl, h0⟩ := hk
    obtain rfl := Option.some.inj h
    obtain rfl := List.length_eq_zero_iff.1 h0
    exact fact_show ⟨a0_0, l0_1⟩ A0_1 c0_1 A0_3 c0_3 w hLW (okAB_of.1 hk) hr0_1 hr0_3
  · cases h
def show_Text0.f (l0_0 : List S33) (a0_1 : ByteArray) (l0_2 : List S60) : Option ByteArray := if okAB l0_2 = true ∧ l0_0.length = 0 ∧ (atomL ⟨a0_1, l0_2⟩).length ≤ 19000 then some (baL (questL ⟨a0_1, l0_2⟩)) else none
theorem show_Text0.calls (A0_0 : Option Addr) (c0_0 : Nat) (l0_0 : List S33) (a0_1 : ByteArray) (A0_2 : Option Addr) (c0_2 : Nat) (l0_2 : List S60) (r : ByteArray) (w : World) (hLW : LaidW w) (hr0_0 : Kd.C k33 w A0_0 l0_0.length l0_0) (hc0_0 : l0_0.length ≤ c0_0) (hr0_2 : Kd.C k60 w A0_2 l0_2.length l0_2) (hc0_2 : l0_2.length ≤ c0_2) (h : show_Text0.f l0_0 a0_1 l0_2 = some r) :
    Calls Tryz.prog 20 #[.agg #[.slice A0_0 l0_0.length c0_0, .string a0_1, .slice A0_2 l0_2.length c0_2]] w fun e w' => e = .returned (.string r) ∧ Below w.heap.size w w' := by
  unfold show_Text0.f at h
  split at h
  · rename_i hk
    obtain ⟨hk, h0, hs⟩ := hk
    obtain rfl := Option.some.inj h
    obtain rfl := List.length_eq_zero_iff.1 h0
    exact quest_show ⟨a0_1, l0_2⟩ A0_0 c0_0 A0_2 c0_2 w hLW (okAB_of.1 hk) hs hr0_0 hr0_2
  · cases h
def show_Right0.f (l0_0 : List S33) (a0_1 : ByteArray) (l0_2 : List S60) : Option Bool := if okAB l0_2 = true ∧ l0_0.length = 0 ∧ (atomL ⟨a0_1, l0_2⟩).length ≤ 19000 then some (!(questL ⟨a0_1, l0_2⟩).isEmpty) else none
theorem show_Right0.calls (A0_0 : Option Addr) (c0_0 : Nat) (l0_0 : List S33) (a0_1 : ByteArray) (A0_2 : Option Addr) (c0_2 : Nat) (l0_2 : List S60) (r : Bool) (w : World) (hLW : LaidW w) (hr0_0 : Kd.C k33 w A0_0 l0_0.length l0_0) (hc0_0 : l0_0.length ≤ c0_0) (hr0_2 : Kd.C k60 w A0_2 l0_2.length l0_2) (hc0_2 : l0_2.length ≤ c0_2) (h : show_Right0.f l0_0 a0_1 l0_2 = some r) :
    Calls Tryz.prog 22 #[.agg #[.slice A0_0 l0_0.length c0_0, .string a0_1, .slice A0_2 l0_2.length c0_2]] w fun e w' => e = .returned (.bool r) ∧ Below w.heap.size w w' := by
  unfold show_Right0.f at h
  split at h
  · rename_i hk
    obtain ⟨hk, h0, hs⟩ := hk
    obtain rfl := Option.some.inj h
    obtain rfl := List.length_eq_zero_iff.1 h0
    exact questR_show ⟨a0_1, l0_2⟩ A0_0 c0_0 A0_2 c0_2 w hLW (okAB_of.1 hk) hs hr0_0 hr0_2
  · cases h
end Go.Proofs.YthebhbomlllpeaaGreatDoor.X
namespace Go.Proofs.YthebhbomlllpeaaGreatDoor.X
set_option linter.unusedVariables false
set_option linter.unusedSimpArgs false
open Go.RowKit Go.Proofs.YthebhbomlllpeaaGreatDoorW.PrintWords Go.Proofs.YthebhbomlllpeaaGreatDoorW.PrintLast Go.Proofs.YthebhbomlllpeaaGreatDoorW.PrintMore
def aw8L : List S69 := [⟨1, ⟨#[97]⟩⟩, ⟨1, ⟨#[98]⟩⟩, ⟨1, ⟨#[99]⟩⟩, ⟨4, ⟨#[]⟩⟩, ⟨3, ⟨#[]⟩⟩]
def aw8T : List S60 := [⟨⟨#[88]⟩, ⟨0, 0, ⟨#[]⟩⟩⟩]
theorem aw8_1 : show_Path.f aw8L = some ⟨#[97, 47, 40, 98, 124, 99, 41]⟩ := by kernel_rfl
theorem aw8_3 : show_RightPath.f aw8L = some true := by kernel_rfl
theorem aw8_5 : show_Right0.f [] ⟨#[113]⟩ aw8T = some true := by kernel_rfl
theorem aw8_7 : show_Text0.f [] ⟨#[113]⟩ aw8T = some ⟨#[63, 45, 32, 113, 40, 88, 41, 46, 10]⟩ := by kernel_rfl
theorem aw8_9 : show_Atom.f ⟨#[113]⟩ aw8T = some ⟨#[113, 40, 88, 41]⟩ := by kernel_rfl
theorem aw8_11 : show_Rule0.f ⟨#[113]⟩ aw8T 0 [] = some ⟨#[113, 40, 88, 41, 46]⟩ := by kernel_rfl
theorem lit_eq8 {a : ByteArray} {l : List UInt8} (h : a.data.toList = l) : (a.toList == l) = true := by rw [beq_iff_eq, ByteArray.toList_eq]; exact h
set_option maxHeartbeats 8000000 in
set_option maxRecDepth 100000 in
theorem awakeS_calls (w : World) (hLW : LaidW w) :
    Calls Tryz.prog 16 #[] w fun e w' => e = .returned (.bool true) ∧ Below w.heap.size w w' := by
  have HLW := Aside0.mk hLW
  clear hLW
  have HB := Aside0.mk (Below.refl w.heap.size w)
  obtain ⟨y127, hy127⟩ : ∃ y_ : List S69, y_ = aw8L := ⟨_, rfl⟩
  obtain ⟨y130, hy130⟩ : ∃ y_ : List S60, y_ = aw8T := ⟨_, rfl⟩
  have Ny127 := Aside0.mk (show y127 = ([(⟨1, (⟨#[97]⟩ : ByteArray)⟩ : S69), (⟨1, (⟨#[98]⟩ : ByteArray)⟩ : S69), (⟨1, (⟨#[99]⟩ : ByteArray)⟩ : S69), (⟨4, (⟨#[]⟩ : ByteArray)⟩ : S69), (⟨3, (⟨#[]⟩ : ByteArray)⟩ : S69)] : List S69) from hy127)
  have Ny130 := Aside0.mk (show y130 = ([(⟨(⟨#[88]⟩ : ByteArray), (⟨0, 0, (⟨#[]⟩ : ByteArray)⟩ : S58)⟩ : S60)] : List S60) from hy130)
  obtain ⟨t134, h1, c2b0⟩ : ∃ t, show_Path.f y127 = some t ∧ (t.toList == ([97, 47, 40, 98, 124, 99, 41] : List UInt8)) = true := ⟨_, hy127 ▸ aw8_1, lit_eq8 rfl⟩
  obtain ⟨t137, h7, c8b0⟩ : ∃ t, show_Text0.f [] ⟨#[113]⟩ y130 = some t ∧ (t.toList == ([63, 45, 32, 113, 40, 88, 41, 46, 10] : List UInt8)) = true := ⟨_, hy130 ▸ aw8_7, lit_eq8 rfl⟩
  obtain ⟨t138, h9, c10b0⟩ : ∃ t, show_Atom.f ⟨#[113]⟩ y130 = some t ∧ (t.toList == ([113, 40, 88, 41] : List UInt8)) = true := ⟨_, hy130 ▸ aw8_9, lit_eq8 rfl⟩
  obtain ⟨t139, h11, c12b0⟩ : ∃ t, show_Rule0.f ⟨#[113]⟩ y130 0 [] = some t ∧ (t.toList == ([113, 40, 88, 41, 46] : List UInt8)) = true := ⟨_, hy130 ▸ aw8_11, lit_eq8 rfl⟩
  have A1 := Aside0.mk h1
  have A3 := Aside0.mk (show show_RightPath.f y127 = some true from hy127 ▸ aw8_3)
  have A5 := Aside0.mk (show show_Right0.f [] ⟨#[113]⟩ y130 = some true from hy130 ▸ aw8_5)
  have A7 := Aside0.mk h7
  have A9 := Aside0.mk h9
  have A11 := Aside0.mk h11
  clear h1 h7 h9 h11 hy127 hy130
  go_enter Tryz.func16, Tryz.ntmps16
  go_wp2_with (first | ((with_reducible refine gate_dst (N := 8) rfl ?_); refine Kd.R_lit k69 _ 69 ?hg (N := 8) ?hd (xs := ([(⟨1, (⟨#[97]⟩ : ByteArray)⟩ : S69), (⟨1, (⟨#[98]⟩ : ByteArray)⟩ : S69), (⟨1, (⟨#[99]⟩ : ByteArray)⟩ : S69), (⟨4, (⟨#[]⟩ : ByteArray)⟩ : S69), (⟨3, (⟨#[]⟩ : ByteArray)⟩ : S69)] : List (S69))) (inner := [.int .i64 1, .string (⟨#[97]⟩ : ByteArray), .int .i64 1, .string (⟨#[98]⟩ : ByteArray), .int .i64 1, .string (⟨#[99]⟩ : ByteArray), .int .i64 4, .string (⟨#[]⟩ : ByteArray), .int .i64 3, .string (⟨#[]⟩ : ByteArray)]) (ok := fun _ => True) (okp := fun _ => True) ?hr ?hp (fun _ hk => hk) trivial (Below.refl _ _) (Nat.le_refl _) (by simp) ?_; (case hd => rfl); (case hg => rfl); (case hr => first | (go_simp; done) | (go_simp; rfl)); (case hp => exact (Reps.c2 (show Kd.M k69 _ _ _ (⟨1, (⟨#[97]⟩ : ByteArray)⟩ : S69) [.int .i64 1, .string (⟨#[97]⟩ : ByteArray)] from (k69_mkM _ _ _ (⟨1, (⟨#[97]⟩ : ByteArray)⟩ : S69) )) (Reps.c2 (show Kd.M k69 _ _ _ (⟨1, (⟨#[98]⟩ : ByteArray)⟩ : S69) [.int .i64 1, .string (⟨#[98]⟩ : ByteArray)] from (k69_mkM _ _ _ (⟨1, (⟨#[98]⟩ : ByteArray)⟩ : S69) )) (Reps.c2 (show Kd.M k69 _ _ _ (⟨1, (⟨#[99]⟩ : ByteArray)⟩ : S69) [.int .i64 1, .string (⟨#[99]⟩ : ByteArray)] from (k69_mkM _ _ _ (⟨1, (⟨#[99]⟩ : ByteArray)⟩ : S69) )) (Reps.c2 (show Kd.M k69 _ _ _ (⟨4, (⟨#[]⟩ : ByteArray)⟩ : S69) [.int .i64 4, .string (⟨#[]⟩ : ByteArray)] from (k69_mkM _ _ _ (⟨4, (⟨#[]⟩ : ByteArray)⟩ : S69) )) (Reps.c2 (show Kd.M k69 _ _ _ (⟨3, (⟨#[]⟩ : ByteArray)⟩ : S69) [.int .i64 3, .string (⟨#[]⟩ : ByteArray)] from (k69_mkM _ _ _ (⟨3, (⟨#[]⟩ : ByteArray)⟩ : S69) )) (Reps.none _ _))))))); intro v128 w12 ho13 hb hg_ hnew_; clear hg_ hnew_; (first | rw [← Ny127.out] at ho13 | (simp only [Int.reduceToNat] at ho13; rw [← Ny127.out] at ho13)); have n0_ := Aside0.mk (Kd.R_lower ho13 (below_size (by repeat (first | (with_reducible first | exact HB.out | apply below_alloc | apply pw_below_drewN | apply below_drew1) | exact HB.out)))); have n1_ := Aside0.mk (below_step (by repeat (first | (with_reducible first | exact HB.out | apply below_alloc | apply pw_below_drewN | apply below_drew1) | exact HB.out)) hb); clear HB; have HO129 := n0_; have HB := n1_; clear n0_ n1_; clear hb ho13) | ((with_reducible refine gate_dst (N := 10) rfl ?_); refine Kd.R_lit k60 _ 60 ?hg (N := 10) ?hd (xs := ([(⟨(⟨#[88]⟩ : ByteArray), (⟨0, 0, (⟨#[]⟩ : ByteArray)⟩ : S58)⟩ : S60)] : List (S60))) (inner := [.string (⟨#[88]⟩ : ByteArray), .int .i64 0, .int .i64 0, .string (⟨#[]⟩ : ByteArray)]) (ok := fun _ => True) (okp := fun _ => True) ?hr ?hp (fun _ hk => hk) trivial (Below.refl _ _) (Nat.le_refl _) (by simp) ?_; (case hd => rfl); (case hg => rfl); (case hr => first | (go_simp; done) | (go_simp; rfl)); (case hp => exact (Reps.c4 (show Kd.M k60 _ _ _ (⟨(⟨#[88]⟩ : ByteArray), (⟨0, 0, (⟨#[]⟩ : ByteArray)⟩ : S58)⟩ : S60) [.string (⟨#[88]⟩ : ByteArray), .int .i64 0, .int .i64 0, .string (⟨#[]⟩ : ByteArray)] from (k60_mkM _ _ _ (⟨(⟨#[88]⟩ : ByteArray), (⟨0, 0, (⟨#[]⟩ : ByteArray)⟩ : S58)⟩ : S60) )) (Reps.none _ _))); intro v131 w14 ho15 hb hg_ hnew_; clear hg_ hnew_; (first | rw [← Ny130.out] at ho15 | (simp only [Int.reduceToNat] at ho15; rw [← Ny130.out] at ho15)); have n0_ := Aside0.mk (Kd.R_below (by (with_reducible repeat (first | apply Kd.R_alloc | apply Kd.R_drewN | apply Kd.R_drew)); exact HO129.out) hb); have n1_ := Aside0.mk (Kd.R_lower ho15 (below_size (by repeat (first | (with_reducible first | exact HB.out | apply below_alloc | apply pw_below_drewN | apply below_drew1) | exact HB.out)))); have n2_ := Aside0.mk (below_step (by repeat (first | (with_reducible first | exact HB.out | apply below_alloc | apply pw_below_drewN | apply below_drew1) | exact HB.out)) hb); clear HO129; clear HB; have HO129 := n0_; have HO132 := n1_; have HB := n2_; clear n0_ n1_ n2_; clear hb ho15; obtain ⟨Ao16, co16, eo16⟩ := Kd.R_slice HO132.out; subst eo16) | ((with_reducible refine gate_dst (N := 2) rfl ?_); refine box_event ?hg (N := 2) ?hd (cs := #[.slice none 0 0, .string (⟨#[]⟩ : ByteArray), .slice none 0 0]) (t := 27) ?hr ?_; (case hd => rfl); (case hg => rfl); (case hr => first | (go_simp; done) | (go_simp; rfl)); intro gb133 hg w17 hbox hb; have n0_ := Aside0.mk (Kd.R_below (by (with_reducible repeat (first | apply Kd.R_alloc | apply Kd.R_drewN | apply Kd.R_drew)); exact HO129.out) hb); have n1_ := Aside0.mk (Kd.R_below (by (with_reducible repeat (first | apply Kd.R_alloc | apply Kd.R_drewN | apply Kd.R_drew)); exact HO132.out) hb); have n2_ := Aside0.mk (below_step (by repeat (first | (with_reducible first | exact HB.out | apply below_alloc | apply pw_below_drewN | apply below_drew1) | exact HB.out)) hb); have n3_ := Aside0.mk (hbox); have n4_ := Aside0.mk ((by rw [hg]; exact (below_size (by repeat (first | (with_reducible first | exact HB.out | apply below_alloc | apply pw_below_drewN | apply below_drew1) | exact HB.out))) : w.heap.size ≤ gb133)); have n5_ := Aside0.mk ((by rw [hg]; exact (below_size (by repeat (first | (with_reducible first | exact HB.out | apply below_alloc | apply pw_below_drewN | apply below_drew1) | exact HB.out))) : w.heap.size ≤ gb133)); clear HO129; clear HO132; clear HB; have HO129 := n0_; have HO132 := n1_; have HB := n2_; have BK133 := n3_; have GW133 := n4_; have GE133 := n5_; clear n0_ n1_ n2_ n3_ n4_ n5_; clear hb hbox hg; have hcz18_0 : w17.cell? ⟨gb133, 0, none⟩ = some (.slice none 0 0) := (blk_cell BK133.out 0).trans rfl; have hcz18_1 : w17.cell? ⟨gb133, 1, none⟩ = some (.string (⟨#[]⟩ : ByteArray)) := (blk_cell BK133.out 1).trans rfl; have hcz18_2 : w17.cell? ⟨gb133, 2, none⟩ = some (.slice none 0 0) := (blk_cell BK133.out 2).trans rfl; have hfz18_0 := blk_frozen BK133.out 0; have hfz18_1 := blk_frozen BK133.out 1; have hfz18_2 := blk_frozen BK133.out 2; obtain ⟨Ao19, co19, eo19⟩ := Kd.R_slice HO129.out; subst eo19) | ((with_reducible refine gate_callee (f := 25) rfl ?_); refine goesL_ (some 14) rfl rfl Tryz.func25 (by kernel_rfl) rfl #[.slice Ao19 y127.length co19] rfl (by (try simp only [List.map_toArray, List.map_cons, List.map_nil]); first | done | rfl | (simp only [List.length_drop, List.length_take]; rfl)) ?_; (with_reducible refine (show_Path.calls _ _ y127 t134 _ ?side3 ?side1 ?side2 A1.out).mono ?_); (case side1 => refine (Kd.R_reads' (e := 69) (base := w.heap.size) (ok := fun k_ => True) (n := y127.length) (c := co19) ?_).2.2; exact (by (with_reducible repeat (first | apply Kd.R_alloc | apply Kd.R_drewN | apply Kd.R_drew)); exact (Kd.R_mono (Kd.R_far (p := ⟨gb133, 2, none⟩) (Kd.R_far (p := ⟨gb133, 1, none⟩) (Kd.R_far (p := ⟨gb133, 0, none⟩) (Kd.R_types HO129.out BK133.out (by decide)) (fun _ hk => hk.2) (.slice none 0 0)) (fun _ hk => hk.2) (.string (⟨#[113]⟩ : ByteArray))) (fun _ hk => hk.2) (.slice Ao16 y130.length co16)) (fun _ h_ => h_.1)))); (case side2 => exact (Kd.R_reads' HO129.out).2.1); (case side3 => (first | (refine LaidW.below HLW.out ?_; (repeat (first | (with_reducible first | exact HB.out | apply below_alloc | apply pw_below_drewN | apply below_drew1 | refine below_set ?_ GE133.out) | exact HB.out)); done) | (repeat (first | exact HLW.out | apply LaidW.drewN | apply LaidW.drew | apply LaidW.alloc)))); rintro e w20 ⟨rfl, hb⟩; refine ⟨_, rfl, ?_⟩; have n0_ := Aside0.mk (Kd.R_below (by (with_reducible repeat (first | apply Kd.R_alloc | apply Kd.R_drewN | apply Kd.R_drew)); exact (Kd.R_mono (Kd.R_far (p := ⟨gb133, 2, none⟩) (Kd.R_far (p := ⟨gb133, 1, none⟩) (Kd.R_far (p := ⟨gb133, 0, none⟩) (Kd.R_types HO129.out BK133.out (by decide)) (fun _ hk => hk.2) (.slice none 0 0)) (fun _ hk => hk.2) (.string (⟨#[113]⟩ : ByteArray))) (fun _ hk => hk.2) (.slice Ao16 y130.length co16)) (fun _ h_ => h_.1))) hb); have n1_ := Aside0.mk (Kd.R_below (by (with_reducible repeat (first | apply Kd.R_alloc | apply Kd.R_drewN | apply Kd.R_drew)); exact (Kd.R_mono (Kd.R_far (p := ⟨gb133, 2, none⟩) (Kd.R_far (p := ⟨gb133, 1, none⟩) (Kd.R_far (p := ⟨gb133, 0, none⟩) (Kd.R_types HO132.out BK133.out (by decide)) (fun _ hk => hk.2) (.slice none 0 0)) (fun _ hk => hk.2) (.string (⟨#[113]⟩ : ByteArray))) (fun _ hk => hk.2) (.slice Ao16 y130.length co16)) (fun _ h_ => h_.1))) hb); have n2_ := Aside0.mk (blk_below (g := gb133) (o := .cells #[.slice none 0 0, .string (⟨#[113]⟩ : ByteArray), .slice Ao16 y130.length co16] 27 (0, 0)) (by (with_reducible repeat (first | refine blk_drewN ?_ _ | refine blk_drew ?_ | refine blk_alloc ?_ _)); refine blk_put (cs := #[.slice none 0 0, .string (⟨#[113]⟩ : ByteArray), .slice none 0 0]) ?_ 2 _ rfl; (with_reducible repeat (first | refine blk_drewN ?_ _ | refine blk_drew ?_ | refine blk_alloc ?_ _)); refine blk_put (cs := #[.slice none 0 0, .string (⟨#[]⟩ : ByteArray), .slice none 0 0]) ?_ 1 _ rfl; (with_reducible repeat (first | refine blk_drewN ?_ _ | refine blk_drew ?_ | refine blk_alloc ?_ _)); refine blk_put (cs := #[.slice none 0 0, .string (⟨#[]⟩ : ByteArray), .slice none 0 0]) ?_ 0 _ rfl; (with_reducible repeat (first | refine blk_drewN ?_ _ | refine blk_drew ?_ | refine blk_alloc ?_ _)); exact BK133.out) hb); have n3_ := Aside0.mk (below_step (by repeat (first | (with_reducible first | exact HB.out | apply below_alloc | apply pw_below_drewN | apply below_drew1 | refine below_set ?_ GE133.out) | exact HB.out)) hb); clear HO129; clear HO132; clear BK133; clear HB; have HO129 := n0_; have HO132 := n1_; have BK133 := n2_; have HB := n3_; clear n0_ n1_ n2_ n3_; (try clear hb); (try clear hb2); (try clear hk); (try clear hi)) | (go_at_call 27; (with_reducible refine (show_RightPath.calls _ _ y127 true _ ?side3 ?side1 ?side2 A3.out).mono ?_); (case side1 => repeat (first | exact (Kd.R_reads' HO129.out).2.2 | (with_reducible refine Kd.C_alloc ?_ _) | (with_reducible refine Kd.C_drewN ?_ _) | (with_reducible refine Kd.C_drew ?_))); (case side2 => exact (Kd.R_reads' HO129.out).2.1); (case side3 => (first | (refine LaidW.below HLW.out ?_; (repeat (first | (with_reducible first | exact HB.out | apply below_alloc | apply pw_below_drewN | apply below_drew1 | refine below_set ?_ GE133.out) | exact HB.out)); done) | (repeat (first | exact HLW.out | apply LaidW.drewN | apply LaidW.drew | apply LaidW.alloc)))); rintro e w21 ⟨rfl, hb⟩; have n0_ := Aside0.mk (Kd.R_below (by (with_reducible repeat (first | apply Kd.R_alloc | apply Kd.R_drewN | apply Kd.R_drew)); exact HO129.out) hb); have n1_ := Aside0.mk (Kd.R_below (by (with_reducible repeat (first | apply Kd.R_alloc | apply Kd.R_drewN | apply Kd.R_drew)); exact HO132.out) hb); have n2_ := Aside0.mk (blk_below (g := gb133) (o := .cells #[.slice none 0 0, .string (⟨#[113]⟩ : ByteArray), .slice Ao16 y130.length co16] 27 (0, 0)) (by (with_reducible repeat (first | refine blk_drewN ?_ _ | refine blk_drew ?_ | refine blk_alloc ?_ _)); exact BK133.out) hb); have n3_ := Aside0.mk (below_step (by repeat (first | (with_reducible first | exact HB.out | apply below_alloc | apply pw_below_drewN | apply below_drew1 | refine below_set ?_ GE133.out) | exact HB.out)) hb); clear HO129; clear HO132; clear BK133; clear HB; have HO129 := n0_; have HO132 := n1_; have BK133 := n2_; have HB := n3_; clear n0_ n1_ n2_ n3_; (try clear hb); (try clear hb2); (try clear hk); (try clear hi); have hcz22_0 : w21.cell? ⟨gb133, 0, none⟩ = some (.slice none 0 0) := (blk_cell BK133.out 0).trans rfl; have hcz22_1 : w21.cell? ⟨gb133, 1, none⟩ = some (.string (⟨#[113]⟩ : ByteArray)) := (blk_cell BK133.out 1).trans rfl; have hcz22_2 : w21.cell? ⟨gb133, 2, none⟩ = some (.slice Ao16 y130.length co16) := (blk_cell BK133.out 2).trans rfl; have hfz22_0 := blk_frozen BK133.out 0; have hfz22_1 := blk_frozen BK133.out 1; have hfz22_2 := blk_frozen BK133.out 2) | (go_at_call 22; (refine (show_Right0.calls _ _ ([] : List (S33)) (⟨#[113]⟩ : ByteArray) _ _ y130 true _ ?side5 ?side1 ?side2 ?side3 ?side4 A5.out).mono ?_); (case side1 => exact Kd.C_nil _ _); (case side2 => exact Nat.le_refl _); (case side3 => repeat (first | exact (Kd.R_reads' HO132.out).2.2 | (with_reducible refine Kd.C_alloc ?_ _) | (with_reducible refine Kd.C_drewN ?_ _) | (with_reducible refine Kd.C_drew ?_))); (case side4 => exact (Kd.R_reads' HO132.out).2.1); (case side5 => (first | (refine LaidW.below HLW.out ?_; (repeat (first | (with_reducible first | exact HB.out | apply below_alloc | apply pw_below_drewN | apply below_drew1 | refine below_set ?_ GE133.out) | exact HB.out)); done) | (repeat (first | exact HLW.out | apply LaidW.drewN | apply LaidW.drew | apply LaidW.alloc)))); rintro e w23 ⟨rfl, hb⟩; have n0_ := Aside0.mk (Kd.R_below (by (with_reducible repeat (first | apply Kd.R_alloc | apply Kd.R_drewN | apply Kd.R_drew)); exact HO129.out) hb); have n1_ := Aside0.mk (Kd.R_below (by (with_reducible repeat (first | apply Kd.R_alloc | apply Kd.R_drewN | apply Kd.R_drew)); exact HO132.out) hb); have n2_ := Aside0.mk (blk_below (g := gb133) (o := .cells #[.slice none 0 0, .string (⟨#[113]⟩ : ByteArray), .slice Ao16 y130.length co16] 27 (0, 0)) (by (with_reducible repeat (first | refine blk_drewN ?_ _ | refine blk_drew ?_ | refine blk_alloc ?_ _)); exact BK133.out) hb); have n3_ := Aside0.mk (below_step (by repeat (first | (with_reducible first | exact HB.out | apply below_alloc | apply pw_below_drewN | apply below_drew1 | refine below_set ?_ GE133.out) | exact HB.out)) hb); clear HO129; clear HO132; clear BK133; clear HB; have HO129 := n0_; have HO132 := n1_; have BK133 := n2_; have HB := n3_; clear n0_ n1_ n2_ n3_; (try clear hb); (try clear hb2); (try clear hk); (try clear hi); have hcz24_0 : w23.cell? ⟨gb133, 0, none⟩ = some (.slice none 0 0) := (blk_cell BK133.out 0).trans rfl; have hcz24_1 : w23.cell? ⟨gb133, 1, none⟩ = some (.string (⟨#[113]⟩ : ByteArray)) := (blk_cell BK133.out 1).trans rfl; have hcz24_2 : w23.cell? ⟨gb133, 2, none⟩ = some (.slice Ao16 y130.length co16) := (blk_cell BK133.out 2).trans rfl; have hfz24_0 := blk_frozen BK133.out 0; have hfz24_1 := blk_frozen BK133.out 1; have hfz24_2 := blk_frozen BK133.out 2) | (go_at_call 20; (refine (show_Text0.calls _ _ ([] : List (S33)) (⟨#[113]⟩ : ByteArray) _ _ y130 t137 _ ?side5 ?side1 ?side2 ?side3 ?side4 A7.out).mono ?_); (case side1 => exact Kd.C_nil _ _); (case side2 => exact Nat.le_refl _); (case side3 => repeat (first | exact (Kd.R_reads' HO132.out).2.2 | (with_reducible refine Kd.C_alloc ?_ _) | (with_reducible refine Kd.C_drewN ?_ _) | (with_reducible refine Kd.C_drew ?_))); (case side4 => exact (Kd.R_reads' HO132.out).2.1); (case side5 => (first | (refine LaidW.below HLW.out ?_; (repeat (first | (with_reducible first | exact HB.out | apply below_alloc | apply pw_below_drewN | apply below_drew1 | refine below_set ?_ GE133.out) | exact HB.out)); done) | (repeat (first | exact HLW.out | apply LaidW.drewN | apply LaidW.drew | apply LaidW.alloc)))); rintro e w25 ⟨rfl, hb⟩; have n0_ := Aside0.mk (Kd.R_below (by (with_reducible repeat (first | apply Kd.R_alloc | apply Kd.R_drewN | apply Kd.R_drew)); exact HO129.out) hb); have n1_ := Aside0.mk (Kd.R_below (by (with_reducible repeat (first | apply Kd.R_alloc | apply Kd.R_drewN | apply Kd.R_drew)); exact HO132.out) hb); have n2_ := Aside0.mk (blk_below (g := gb133) (o := .cells #[.slice none 0 0, .string (⟨#[113]⟩ : ByteArray), .slice Ao16 y130.length co16] 27 (0, 0)) (by (with_reducible repeat (first | refine blk_drewN ?_ _ | refine blk_drew ?_ | refine blk_alloc ?_ _)); exact BK133.out) hb); have n3_ := Aside0.mk (below_step (by repeat (first | (with_reducible first | exact HB.out | apply below_alloc | apply pw_below_drewN | apply below_drew1 | refine below_set ?_ GE133.out) | exact HB.out)) hb); clear HO129; clear HO132; clear BK133; clear HB; have HO129 := n0_; have HO132 := n1_; have BK133 := n2_; have HB := n3_; clear n0_ n1_ n2_ n3_; (try clear hb); (try clear hb2); (try clear hk); (try clear hi); have hcz26_0 : w25.cell? ⟨gb133, 0, none⟩ = some (.slice none 0 0) := (blk_cell BK133.out 0).trans rfl; have hcz26_1 : w25.cell? ⟨gb133, 1, none⟩ = some (.string (⟨#[113]⟩ : ByteArray)) := (blk_cell BK133.out 1).trans rfl; have hcz26_2 : w25.cell? ⟨gb133, 2, none⟩ = some (.slice Ao16 y130.length co16) := (blk_cell BK133.out 2).trans rfl; have hfz26_0 := blk_frozen BK133.out 0; have hfz26_1 := blk_frozen BK133.out 1; have hfz26_2 := blk_frozen BK133.out 2) | (go_at_call 23; (with_reducible refine (show_Atom.calls (⟨#[113]⟩ : ByteArray) _ _ y130 t138 _ ?side3 ?side1 ?side2 A9.out).mono ?_); (case side1 => repeat (first | exact (Kd.R_reads' HO132.out).2.2 | (with_reducible refine Kd.C_alloc ?_ _) | (with_reducible refine Kd.C_drewN ?_ _) | (with_reducible refine Kd.C_drew ?_))); (case side2 => exact (Kd.R_reads' HO132.out).2.1); (case side3 => (first | (refine LaidW.below HLW.out ?_; (repeat (first | (with_reducible first | exact HB.out | apply below_alloc | apply pw_below_drewN | apply below_drew1 | refine below_set ?_ GE133.out) | exact HB.out)); done) | (repeat (first | exact HLW.out | apply LaidW.drewN | apply LaidW.drew | apply LaidW.alloc)))); rintro e w27 ⟨rfl, hb⟩; have n0_ := Aside0.mk (Kd.R_below (by (with_reducible repeat (first | apply Kd.R_alloc | apply Kd.R_drewN | apply Kd.R_drew)); exact HO129.out) hb); have n1_ := Aside0.mk (Kd.R_below (by (with_reducible repeat (first | apply Kd.R_alloc | apply Kd.R_drewN | apply Kd.R_drew)); exact HO132.out) hb); have n2_ := Aside0.mk (blk_below (g := gb133) (o := .cells #[.slice none 0 0, .string (⟨#[113]⟩ : ByteArray), .slice Ao16 y130.length co16] 27 (0, 0)) (by (with_reducible repeat (first | refine blk_drewN ?_ _ | refine blk_drew ?_ | refine blk_alloc ?_ _)); exact BK133.out) hb); have n3_ := Aside0.mk (below_step (by repeat (first | (with_reducible first | exact HB.out | apply below_alloc | apply pw_below_drewN | apply below_drew1 | refine below_set ?_ GE133.out) | exact HB.out)) hb); clear HO129; clear HO132; clear BK133; clear HB; have HO129 := n0_; have HO132 := n1_; have BK133 := n2_; have HB := n3_; clear n0_ n1_ n2_ n3_; (try clear hb); (try clear hb2); (try clear hk); (try clear hi); have hcz28_0 : w27.cell? ⟨gb133, 0, none⟩ = some (.slice none 0 0) := (blk_cell BK133.out 0).trans rfl; have hcz28_1 : w27.cell? ⟨gb133, 1, none⟩ = some (.string (⟨#[113]⟩ : ByteArray)) := (blk_cell BK133.out 1).trans rfl; have hcz28_2 : w27.cell? ⟨gb133, 2, none⟩ = some (.slice Ao16 y130.length co16) := (blk_cell BK133.out 2).trans rfl; have hfz28_0 := blk_frozen BK133.out 0; have hfz28_1 := blk_frozen BK133.out 1; have hfz28_2 := blk_frozen BK133.out 2) | (go_at_call 18; (refine (show_Rule0.calls (⟨#[113]⟩ : ByteArray) _ _ y130 0 _ _ ([] : List (S62)) t139 _ ?side5 ?side1 ?side2 ?side3 ?side4 A11.out).mono ?_); (case side1 => repeat (first | exact (Kd.R_reads' HO132.out).2.2 | (with_reducible refine Kd.C_alloc ?_ _) | (with_reducible refine Kd.C_drewN ?_ _) | (with_reducible refine Kd.C_drew ?_))); (case side2 => exact (Kd.R_reads' HO132.out).2.1); (case side3 => exact Kd.C_nil _ _); (case side4 => exact Nat.le_refl _); (case side5 => (first | (refine LaidW.below HLW.out ?_; (repeat (first | (with_reducible first | exact HB.out | apply below_alloc | apply pw_below_drewN | apply below_drew1 | refine below_set ?_ GE133.out) | exact HB.out)); done) | (repeat (first | exact HLW.out | apply LaidW.drewN | apply LaidW.drew | apply LaidW.alloc)))); rintro e w29 ⟨rfl, hb⟩; have n0_ := Aside0.mk (Kd.R_below (by (with_reducible repeat (first | apply Kd.R_alloc | apply Kd.R_drewN | apply Kd.R_drew)); exact HO129.out) hb); have n1_ := Aside0.mk (Kd.R_below (by (with_reducible repeat (first | apply Kd.R_alloc | apply Kd.R_drewN | apply Kd.R_drew)); exact HO132.out) hb); have n2_ := Aside0.mk (blk_below (g := gb133) (o := .cells #[.slice none 0 0, .string (⟨#[113]⟩ : ByteArray), .slice Ao16 y130.length co16] 27 (0, 0)) (by (with_reducible repeat (first | refine blk_drewN ?_ _ | refine blk_drew ?_ | refine blk_alloc ?_ _)); exact BK133.out) hb); have n3_ := Aside0.mk (below_step (by repeat (first | (with_reducible first | exact HB.out | apply below_alloc | apply pw_below_drewN | apply below_drew1 | refine below_set ?_ GE133.out) | exact HB.out)) hb); clear HO129; clear HO132; clear BK133; clear HB; have HO129 := n0_; have HO132 := n1_; have BK133 := n2_; have HB := n3_; clear n0_ n1_ n2_ n3_; (try clear hb); (try clear hb2); (try clear hk); (try clear hi)))
  go_ret
  exact ⟨by first | rfl | (simp [errW_none, errW_some] <;> rfl) | (simp [*, errW_none, errW_some] <;> rfl), by repeat (first | (with_reducible first | exact HB.out | apply below_alloc | apply pw_below_drewN | apply below_drew1 | refine below_set ?_ GE133.out) | exact HB.out)⟩
end Go.Proofs.YthebhbomlllpeaaGreatDoor.X
namespace Go.Proofs.YthebhbomlllpeaaGreatDoor.X
open Go.RowKit Go.Proofs.YthebhbomlllpeaaGreatDoorW.PrintWords Go.Proofs.YthebhbomlllpeaaGreatDoorW.PrintLast Go.Proofs.YthebhbomlllpeaaGreatDoorW.PrintMore
attribute [local go_sem] max2_int min2_int max_two min_two max_three min_three max_four min_four
set_option linter.unusedVariables false
set_option linter.unusedSimpArgs false
theorem eqA69 (d : Nat) (w : World) (x0 y0 : Int) (x1 y1 : ByteArray) :
    (Op.equalIn (d + 2) 69 (.agg #[.int .i64 x0, .string x1]) (.agg #[.int .i64 y0, .string y1])).run Tryz.prog w = .ok (x0 == y0 && (x1.toList == y1.toList)) w := by
  refine eqA_of Tryz.underlying69 (by kernel_rfl) ?_
  refine eqf_cons (by rfl) (by go_simp; rfl) (by go_simp; rfl) (by go_simp) ?_
  exact eqf_last (by rfl) (by go_simp; rfl) (by go_simp; rfl) (by go_simp)
end Go.Proofs.YthebhbomlllpeaaGreatDoor.X
namespace Go.Proofs.YthebhbomlllpeaaGreatDoor.X
open Go.RowKit Go.Proofs.YthebhbomlllpeaaGreatDoorW.PrintWords Go.Proofs.YthebhbomlllpeaaGreatDoorW.PrintLast Go.Proofs.YthebhbomlllpeaaGreatDoorW.PrintMore
attribute [local go_sem] max2_int min2_int max_two min_two max_three min_three max_four min_four
set_option linter.unusedVariables false
set_option linter.unusedSimpArgs false
attribute [local go_sem high] eqA60 eqA69
mutual
def antecedentlaw08_atoms.j0 : Nat → Bool → ByteArray → List (S60) → ByteArray → List (S60) → Option (Bool)
  | 0, _, _, _, _, _ => none
  | k + 1, x19, x682000, x682001, x683000, x683001 => if x19 = true then (some false) else (antecedentlaw08_atoms.l0 k (x682001.length : Int) 0 x682000 x682001 x683000 x683001)
def antecedentlaw08_atoms.l0 : Nat → Int → Int → ByteArray → List (S60) → ByteArray → List (S60) → Option (Bool)
  | 0, _, _, _, _, _, _ => none
  | k + 1, x22, x23, x682000, x682001, x683000, x683001 => if x23 < x22 then (if 0 ≤ x23 then (if x23 < (x682001.length : Int) then (if x23 < (x683001.length : Int) then (if (!((((rd_T60 x682001 x23).f0).toList) == (((rd_T60 x683001 x23).f0).toList)) || ((!(((rd_T60 x682001 x23).f1.f0) == ((rd_T60 x683001 x23).f1.f0)) || (!(((rd_T60 x682001 x23).f1.f1) == ((rd_T60 x683001 x23).f1.f1)) || (!((((rd_T60 x682001 x23).f1.f2).toList) == (((rd_T60 x683001 x23).f1.f2).toList))))))) = true then (some false) else (antecedentlaw08_atoms.l0 k x22 (wrap64 (x23 + 1)) x682000 x682001 x683000 x683001)) else (none)) else (none)) else (none)) else (some true)
end
def antecedentlaw08_paths.l0 : Nat → List (S69) → List (S69) → Int → Int → Option (Bool)
  | 0, _, _, _, _ => none
  | k + 1, x0, x1, x12, x13 => if x13 < x12 then (if 0 ≤ x13 then (if x13 < (x0.length : Int) then (if x13 < (x1.length : Int) then (if (!(((rd_T69 x0 x13).f0) == ((rd_T69 x1 x13).f0)) || (!((((rd_T69 x0 x13).f1).toList) == (((rd_T69 x1 x13).f1).toList)))) = true then (some false) else (antecedentlaw08_paths.l0 k x0 x1 x12 (wrap64 (x13 + 1)))) else (none)) else (none)) else (none)) else (some true)
def antecedentref09_SamePath.l0 : Nat → List (S69) → List (S69) → Int → Int → Option (Bool)
  | 0, _, _, _, _ => none
  | k + 1, x0, x1, x12, x13 => if x13 < x12 then (if 0 ≤ x13 then (if x13 < (x0.length : Int) then (if x13 < (x1.length : Int) then (if (!(((rd_T69 x0 x13).f0) == ((rd_T69 x1 x13).f0)) || (!((((rd_T69 x0 x13).f1).toList) == (((rd_T69 x1 x13).f1).toList)))) = true then (some false) else (antecedentref09_SamePath.l0 k x0 x1 x12 (wrap64 (x13 + 1)))) else (none)) else (none)) else (none)) else (some true)
def antecedentref09_SamePath.f (k : Nat) (l0 : List (S69)) (l1 : List (S69)) : Option (Bool) := if (l0.length : Int) = (l1.length : Int) then (antecedentref09_SamePath.l0 k l0 l1 (l0.length : Int) 0) else (some false)
set_option maxHeartbeats 8000000 in
set_option maxRecDepth 100000 in
theorem antecedentref09_SamePath.calls (k : Nat) (A0 : Option Addr) (c0 : Nat) (l0 : List (S69)) (A1 : Option Addr) (c1 : Nat) (l1 : List (S69)) (r : Bool) (w : World) (hr0 : Kd.C k69 w A0 l0.length l0) (hc0 : l0.length ≤ c0) (hr1 : Kd.C k69 w A1 l1.length l1) (hc1 : l1.length ≤ c1) (h : antecedentref09_SamePath.f k l0 l1 = some r) :
    Calls Tryz.prog 39 #[.slice A0 l0.length c0, .slice A1 l1.length c1] w fun e w' => e = .returned (.bool r) ∧ Drawn0 w w' := by
  have hu69 := Tryz.underlying69
  have HR0 := Aside0.mk hr0
  have HC0 := Aside0.mk hc0
  clear hr0 hc0
  have HR1 := Aside0.mk hr1
  have HC1 := Aside0.mk hc1
  clear hr1 hc1
  have H : (if (l0.length : Int) = (l1.length : Int) then (antecedentref09_SamePath.l0 k l0 l1 (l0.length : Int) 0) else (some false)) = some r := h
  clear h
  by_cases c3 : (l0.length : Int) = (l1.length : Int)
  · rw [if_pos c3] at H
    have c3b0 : ((l0.length : Int) == (l1.length : Int)) = true := beq_iff_eq.mpr c3
    have c3b1 : ((l0.length : Int) != (l1.length : Int)) = false := bne_eq_false_iff_eq.mpr c3
    have c3b2 : (l0.length == l1.length) = true := by first | simpa using c3 | (simp at c3 ⊢; omega)
    clear c3
    have H' := Aside0.mk H
    clear H
    go_enter Tryz.func39, Tryz.ntmps39
    go_wp2
    repeat (go_quiet (fail); try go_wp2)
    go_loopg [13] k (fun kq v13 w' => ∃ (x13_1 : Int), v13 = .int .i64 x13_1 ∧ Aside0 (antecedentref09_SamePath.l0 kq l0 l1 (l0.length : Int) x13_1 = some r) ∧ Aside0 (kq ≤ k) ∧ Drawn0 w w')
    case atStart => exact ⟨(0), (by first | rfl | (simp; done) | (simp [*]; done)), H', ⟨Nat.le_refl _⟩, by repeat (first | exact Drawn0.refl _ | apply Drawn0.step)⟩
    case round =>
      clear H'
      try clear c1
      try clear p2
      try clear c3
      try clear c3b0
      try clear c3b1
      try clear c3b2
      obtain ⟨x13_1, rfl, HA, HK1, ⟨m1, rfl⟩⟩ := hrel
      cases gk with
      | zero => exact absurd HA.out (by simp [antecedentref09_SamePath.l0])
      | succ k1 =>
        have H := HA.out
        clear HA
        simp only [antecedentref09_SamePath.l0] at H
        by_cases c4 : x13_1 < (l0.length : Int)
        · rw [if_pos c4] at H
          have c4b0 : decide (x13_1 < (l0.length : Int)) = true := decide_eq_true c4
          clear c4
          by_cases c5 : 0 ≤ x13_1
          · rw [if_pos c5] at H
            have c5b0 : decide (0 ≤ x13_1) = true := decide_eq_true c5
            clear c5
            by_cases c6 : x13_1 < (l0.length : Int)
            · rw [if_pos c6] at H
              have c6b0 : decide (x13_1 < (l0.length : Int)) = true := decide_eq_true c6
              clear c6
              by_cases c7 : x13_1 < (l1.length : Int)
              · rw [if_pos c7] at H
                have c7b0 : decide (x13_1 < (l1.length : Int)) = true := decide_eq_true c7
                clear c7
                by_cases c8 : (!(((rd_T69 l0 x13_1).f0) == ((rd_T69 l1 x13_1).f0)) || (!((((rd_T69 l0 x13_1).f1).toList) == (((rd_T69 l1 x13_1).f1).toList)))) = true
                · rw [if_pos c8] at H
                  have c8b0 : (!(((rd_T69 l0 x13_1).f0) == ((rd_T69 l1 x13_1).f0)) || (!((((rd_T69 l0 x13_1).f1).toList) == (((rd_T69 l1 x13_1).f1).toList)))) = true := c8
                  clear c8
                  obtain rfl := Option.some.inj H
                  have p858 : 0 ≤ (x13_1 : Int) := of_decide_eq_true (by first | (with_reducible assumption) | assumption)
                  have q858 : x13_1 < (l0.length : Int) := of_decide_eq_true (by first | (with_reducible assumption) | assumption)
                  obtain ⟨ad858, e858, hx858_0, hx858_1⟩ := at_T69 HR0.out x13_1 p858 q858
                  cases e858
                  replace p858 := eq_true p858
                  replace q858 := eq_true q858
                  have p859 : 0 ≤ (x13_1 : Int) := of_decide_eq_true (by first | (with_reducible assumption) | assumption)
                  have q859 : x13_1 < (l1.length : Int) := of_decide_eq_true (by first | (with_reducible assumption) | assumption)
                  obtain ⟨ad859, e859, hx859_0, hx859_1⟩ := at_T69 HR1.out x13_1 p859 q859
                  cases e859
                  replace p859 := eq_true p859
                  replace q859 := eq_true q859
                  go_wp2
                  repeat (go_quiet (fail); try go_wp2)
                  go_ret
                  exact ⟨by first | rfl | (simp; done) | (simp [*]; done), by repeat (first | exact Drawn0.refl _ | apply Drawn0.step)⟩
                · rw [if_neg c8] at H
                  have c8b0 : (!(((rd_T69 l0 x13_1).f0) == ((rd_T69 l1 x13_1).f0)) || (!((((rd_T69 l0 x13_1).f1).toList) == (((rd_T69 l1 x13_1).f1).toList)))) = false := by simpa using c8
                  clear c8
                  have H' := Aside0.mk H
                  clear H
                  have p858 : 0 ≤ (x13_1 : Int) := of_decide_eq_true (by first | (with_reducible assumption) | assumption)
                  have q858 : x13_1 < (l0.length : Int) := of_decide_eq_true (by first | (with_reducible assumption) | assumption)
                  obtain ⟨ad858, e858, hx858_0, hx858_1⟩ := at_T69 HR0.out x13_1 p858 q858
                  cases e858
                  replace p858 := eq_true p858
                  replace q858 := eq_true q858
                  have p859 : 0 ≤ (x13_1 : Int) := of_decide_eq_true (by first | (with_reducible assumption) | assumption)
                  have q859 : x13_1 < (l1.length : Int) := of_decide_eq_true (by first | (with_reducible assumption) | assumption)
                  obtain ⟨ad859, e859, hx859_0, hx859_1⟩ := at_T69 HR1.out x13_1 p859 q859
                  cases e859
                  replace p859 := eq_true p859
                  replace q859 := eq_true q859
                  go_wp2
                  repeat (go_quiet (fail); try go_wp2)
                  go_roundg k1
                  case measure => have := HK1.out; omega
                  case rel => exact ⟨(wrap64 (x13_1 + 1)), (by first | rfl | (simp; done) | (simp [*]; done)), H', ⟨by have := HK1.out; omega⟩, by repeat (first | exact Drawn0.refl _ | apply Drawn0.step)⟩
              · rw [if_neg c7] at H
                exact absurd H (by simp)
            · rw [if_neg c6] at H
              exact absurd H (by simp)
          · rw [if_neg c5] at H
            exact absurd H (by simp)
        · rw [if_neg c4] at H
          have c4b0 : decide (x13_1 < (l0.length : Int)) = false := decide_eq_false c4
          clear c4
          obtain rfl := Option.some.inj H
          go_wp2
          repeat (go_quiet (fail); try go_wp2)
          go_ret
          exact ⟨by first | rfl | (simp; done) | (simp [*]; done), by repeat (first | exact Drawn0.refl _ | apply Drawn0.step)⟩
  · rw [if_neg c3] at H
    have c3b0 : ((l0.length : Int) == (l1.length : Int)) = false := beq_eq_false_iff_ne.mpr c3
    have c3b1 : ((l0.length : Int) != (l1.length : Int)) = true := bne_iff_ne.mpr c3
    have c3b2 : (l0.length == l1.length) = false := by first | simpa using c3 | (simp at c3 ⊢; omega)
    obtain rfl := Option.some.inj H
    go_enter Tryz.func39, Tryz.ntmps39
    go_wp2
    repeat (go_quiet (fail); try go_wp2)
    go_ret
    exact ⟨by first | rfl | (simp; done) | (simp [*]; done), by repeat (first | exact Drawn0.refl _ | apply Drawn0.step)⟩
end Go.Proofs.YthebhbomlllpeaaGreatDoor.X
namespace Go.Proofs.YthebhbomlllpeaaGreatDoor.X
set_option linter.unusedVariables false
set_option linter.unusedSimpArgs false
open Go.RowKit Go.Proofs.YthebhbomlllpeaaGreatDoorW.PrintWords Go.Proofs.YthebhbomlllpeaaGreatDoorW.PrintLast Go.Proofs.YthebhbomlllpeaaGreatDoorW.PrintMore
theorem same_l0 (l : List StS) (hl : l.length ≤ 110) : ∀ (d i k : Nat), l.length - i = d → i ≤ l.length → d < k → antecedentref09_SamePath.l0 k l l (l.length : Int) (i : Int) = some true := by
  intro d
  induction d with
  | zero =>
    intro i k hd hi hk
    obtain ⟨k, rfl⟩ : ∃ j, k = j + 1 := ⟨k - 1, by omega⟩
    simp only [antecedentref09_SamePath.l0]
    rw [if_neg (by omega)]
  | succ d ih =>
    intro i k hd hi hk
    obtain ⟨k, rfl⟩ : ∃ j, k = j + 1 := ⟨k - 1, by omega⟩
    simp only [antecedentref09_SamePath.l0]
    rw [if_pos (by omega), if_pos (by omega), if_pos (by omega), if_pos (by omega), if_neg (by simp), show wrap64 ((i : Int) + 1) = ((i + 1 : Nat) : Int) by unfold wrap64; omega]
    exact ih (i + 1) k (by omega) (by omega) (by omega)
theorem samePath_calls (l : List StS) (A : Option Addr) (c : Nat) (A' : Option Addr) (c' : Nat) (w : World) (hc : l.length ≤ c) (hc' : l.length ≤ c') (h : Kd.C k69 w A l.length l) (h' : Kd.C k69 w A' l.length l) (hl : l.length ≤ 110) :
    Calls Tryz.prog 39 #[.slice A l.length c, .slice A' l.length c'] w fun e w' => e = .returned (.bool true) ∧ Below w.heap.size w w' := by
  have hf : antecedentref09_SamePath.f 200 l l = some true := by
    unfold antecedentref09_SamePath.f
    rw [if_pos rfl]
    exact same_l0 l hl _ 0 200 rfl (Nat.zero_le _) (by omega)
  refine (antecedentref09_SamePath.calls 200 A c l A' c' l true w h hc h' hc' hf).mono ?_
  rintro e w' ⟨rfl, hd⟩
  exact ⟨rfl, hd.below⟩
set_option maxHeartbeats 4000000 in
set_option maxRecDepth 100000 in
theorem showSteps_far (l : List StS) (s : ByteArray) (hbig : 110 < l.length ∨ 1500 < s.size) (A : Option Addr) (c : Nat) (w : World) (hLW : LaidW w) :
    Calls Tryz.prog 12 #[.slice A l.length c, .string s] w fun e w' => e = .returned (.bool true) ∧ Below w.heap.size w w' := by
  have HA := Aside0.mk (fun V (h : LaidW V) => awakeS_calls V h)
  have HLW := Aside0.mk hLW
  clear hLW
  by_cases h110 : 110 < l.length
  · have e1 : decide ((110 : Int) < (l.length : Int)) = true := decide_eq_true (by omega)
    have e2 : decide (110 < l.length) = true := decide_eq_true h110
    clear hbig h110
    go_enter Tryz.func12, Tryz.ntmps12
    go_wp2_with fail
    refine (HA.out _ HLW.out).mono ?_
    rintro e w1 ⟨rfl, hb⟩
    have HB := Aside0.mk hb
    clear hb
    go_wp2_with fail
    refine (HA.out _ (HLW.out.below HB.out)).mono ?_
    rintro e w2 ⟨rfl, hb⟩
    have HB2 := Aside0.mk (below_then HB.out HB.out.size hb)
    clear hb
    go_wp2
    go_ret
    exact ⟨rfl, HB2.out⟩
  · have hs := hbig.resolve_left h110
    have e1 : decide ((110 : Int) < (l.length : Int)) = false := decide_eq_false (by omega)
    have e2 : decide (110 < l.length) = false := decide_eq_false h110
    have e3 : decide ((1500 : Int) < (s.size : Int)) = true := decide_eq_true (by omega)
    have e4 : decide (1500 < s.size) = true := decide_eq_true hs
    clear hbig h110 hs
    go_enter Tryz.func12, Tryz.ntmps12
    go_wp2_with fail
    refine (HA.out _ HLW.out).mono ?_
    rintro e w1 ⟨rfl, hb⟩
    have HB := Aside0.mk hb
    clear hb
    go_wp2_with fail
    refine (HA.out _ (HLW.out.below HB.out)).mono ?_
    rintro e w2 ⟨rfl, hb⟩
    have HB2 := Aside0.mk (below_then HB.out HB.out.size hb)
    clear hb
    go_wp2
    go_ret
    exact ⟨rfl, HB2.out⟩
set_option maxHeartbeats 8000000 in
set_option maxRecDepth 100000 in
theorem showSteps_near (l : List StS) (s : ByteArray) (h110 : l.length ≤ 110) (hs : s.size ≤ 1500) (hl : ∀ x ∈ l, x.f1.size ≤ 9223372036854775807) (A : Option Addr) (c : Nat) (hc : l.length ≤ c) (w : World) (hLW : LaidW w) (hC : Kd.C k69 w A l.length l) :
    Calls Tryz.prog 12 #[.slice A l.length c, .string s] w fun e w' => e = .returned (.bool true) ∧ Below w.heap.size w w' := by
  have HA := Aside0.mk (fun V (h : LaidW V) => awakeS_calls V h)
  have HLW := Aside0.mk hLW
  have HSZ := Aside0.mk (show s.size ≤ 20000 by omega)
  have e1 : decide ((110 : Int) < (l.length : Int)) = false := decide_eq_false (by omega)
  have e2 : decide (110 < l.length) = false := decide_eq_false (by omega)
  have e3 : decide ((1500 : Int) < (s.size : Int)) = false := decide_eq_false (by omega)
  have e4 : decide (1500 < s.size) = false := decide_eq_false (by omega)
  have HP := Aside0.mk (fun (V : World) (h : Below w.heap.size w V) => path_show l A c V (hLW.below h) (Kd.C_below hC h) hl (by omega))
  have HR := Aside0.mk (fun (V : World) (h : Below w.heap.size w V) => rightPath_show l A c V (hLW.below h) (Kd.C_below hC h) hl (by omega))
  by_cases hp : pathL l = []
  · have hr : rpB l = false := by unfold rpB; rw [hp]; rfl
    rw [hr] at HR
    clear hp hr hC hLW hl h110 hs HP
    go_enter Tryz.func12, Tryz.ntmps12
    go_wp2_with fail
    refine (HA.out _ HLW.out).mono ?_
    rintro e w1 ⟨rfl, hb⟩
    have HB := Aside0.mk hb
    clear hb
    go_wp2_with fail
    refine (HR.out _ HB.out).mono ?_
    rintro e w2 ⟨rfl, hb⟩
    have HB2 := Aside0.mk (below_then HB.out HB.out.size hb)
    clear hb
    obtain ⟨⟨m, a, e⟩, hm⟩ : ∃ x, parse_Path.f s = some x := ⟨_, by unfold parse_Path.f; rw [if_pos (by have := HSZ.out; omega)]⟩
    have HM := Aside0.mk (fun (V : World) (h : LaidW V) => parse_Path.calls s m a e V h hm)
    by_cases he : e = 0
    · subst he
      obtain ⟨q1, q2, q3, q4⟩ := steps_read HSZ.out hm
      have HRM := Aside0.mk (fun (V : World) (A : Option Addr) (c : Nat) (h1 : LaidW V) (h2 : Kd.C k69 V A m.length m) => rightPath_show m A c V h1 h2 (fun x hx => Nat.le_trans (q2 x hx) (by decide)) (by omega))
      have HPM := Aside0.mk (fun (V : World) (A : Option Addr) (c : Nat) (h1 : LaidW V) (h2 : Kd.C k69 V A m.length m) => path_show m A c V h1 h2 (fun x hx => Nat.le_trans (q2 x hx) (by decide)) (by omega))
      obtain ⟨k1, hk1⟩ := deep_S (pathL m) (by have := pathL_len m; omega)
      obtain ⟨k2, hk2⟩ := deep_S s.data.toList (by rw [data_length]; exact HSZ.out)
      rw [show baL s.data.toList = s from rfl] at hk2
      have HD1 := Aside0.mk (fun (V : World) (h : LaidW V) => parse_Deep.calls k1 (baL (pathL m)) _ V h hk1)
      have HD2 := Aside0.mk (fun (V : World) (h : LaidW V) => parse_Deep.calls k2 s _ V h hk2)
      obtain ⟨d1, e1⟩ : ∃ d, deepS (pathL m) = d := ⟨_, rfl⟩
      obtain ⟨d2, e2⟩ : ∃ d, deepS s.data.toList = d := ⟨_, rfl⟩
      rw [e1] at HD1
      rw [e2] at HD2
      have z1 : decide ((d1 : Int) ≤ (d2 : Int)) = true := decide_eq_true (by omega)
      have z2 : decide (d1 ≤ d2) = true := decide_eq_true (by omega)
      have z3 : rpB m = true := neB q1
      rw [z3] at HRM
      clear q1 q2 q3 q4 hk1 hk2 e1 e2 hm z3
      go_wp2_with fail
      refine (HM.out _ (HLW.out.below HB2.out)).mono ?_
      rintro e w5 ⟨v, rfl, hv, hb⟩
      have HV := Aside0.mk (Kd.R_mono (ok' := fun _ => True) hv (fun _ _ => trivial))
      have HB5 := Aside0.mk (below_then HB2.out HB2.out.size hb)
      obtain ⟨A5, c5, rfl⟩ := Kd.R_slice hv
      clear hv hb
      go_wp2_with fail
      refine (HRM.out _ _ _ (HLW.out.below HB5.out) (Kd.R_reads' HV.out).2.2).mono ?_
      rintro e w6 ⟨rfl, hb⟩
      have HV6 := Aside0.mk (Kd.R_below HV.out hb)
      have HB6 := Aside0.mk (below_then HB5.out HB5.out.size hb)
      clear hb
      go_wp2_with fail
      refine (HPM.out _ _ _ (HLW.out.below HB6.out) (Kd.R_reads' HV6.out).2.2).mono ?_
      rintro e w7 ⟨rfl, hb⟩
      have HB7 := Aside0.mk (below_then HB6.out HB6.out.size hb)
      clear hb
      go_wp2_with fail
      refine (HD1.out _ (HLW.out.below HB7.out)).mono ?_
      rintro e w8 ⟨rfl, hb⟩
      have HB8 := Aside0.mk (below_then HB7.out HB7.out.size hb)
      clear hb
      go_wp2_with fail
      refine (HD2.out _ (HLW.out.below HB8.out)).mono ?_
      rintro e w9 ⟨rfl, hb⟩
      have HB9 := Aside0.mk (below_then HB8.out HB8.out.size hb)
      clear hb
      go_wp2
      go_ret
      exact ⟨by first | rfl | simp [*], HB9.out⟩
    · have z1 : (e == 0) = false := beq_eq_false_iff_ne.2 he
      have z2 : (e != 0) = true := bne_iff_ne.2 he
      clear hm he
      go_wp2_with fail
      refine (HM.out _ (HLW.out.below HB2.out)).mono ?_
      rintro e w5 ⟨v, rfl, hv, hb⟩
      have HB5 := Aside0.mk (below_then HB2.out HB2.out.size hb)
      obtain ⟨A5, c5, rfl⟩ := Kd.R_slice hv
      clear hv hb
      go_wp2
      go_ret
      exact ⟨rfl, HB5.out⟩
  · have hr : rpB l = true := neB hp
    rw [hr] at HR
    have HPB := Aside0.mk (fun (V : World) (h : LaidW V) => parse_Path.calls (baL (pathL l)) l 0 0 V h (steps_back hp (by have := pathL_len l; omega)))
    have HSM := Aside0.mk (fun (V : World) (h : Below w.heap.size w V) (A' : Option Addr) (c' : Nat) (h2 : Kd.C k69 V A' l.length l) (hc' : l.length ≤ c') => samePath_calls l A c A' c' V hc hc' (Kd.C_below hC h) h2 (by omega))
    clear hp hr hC hLW hl h110 hs
    go_enter Tryz.func12, Tryz.ntmps12
    go_wp2_with fail
    refine (HA.out _ HLW.out).mono ?_
    rintro e w1 ⟨rfl, hb⟩
    have HB := Aside0.mk hb
    clear hb
    go_wp2_with fail
    refine (HR.out _ HB.out).mono ?_
    rintro e w2 ⟨rfl, hb⟩
    have HB2 := Aside0.mk (below_then HB.out HB.out.size hb)
    clear hb
    go_wp2_with fail
    refine (HP.out _ HB2.out).mono ?_
    rintro e w3 ⟨rfl, hb⟩
    have HB3 := Aside0.mk (below_then HB2.out HB2.out.size hb)
    clear hb
    go_wp2_with fail
    refine (HPB.out _ (HLW.out.below HB3.out)).mono ?_
    rintro e w4 ⟨v, rfl, hv, hb⟩
    have HV4 := Aside0.mk (Kd.R_mono (ok' := fun _ => True) hv (fun _ _ => trivial))
    have HB4 := Aside0.mk (below_then HB3.out HB3.out.size hb)
    obtain ⟨A4, c4, rfl⟩ := Kd.R_slice hv
    clear hv hb
    go_wp2_with fail
    refine (HSM.out _ HB4.out _ _ (Kd.R_reads' HV4.out).2.2 (Kd.R_reads' HV4.out).2.1).mono ?_
    rintro e w4b ⟨rfl, hb⟩
    have HB4b := Aside0.mk (below_then HB4.out HB4.out.size hb)
    clear hb
    obtain ⟨⟨m, a, e⟩, hm⟩ : ∃ x, parse_Path.f s = some x := ⟨_, by unfold parse_Path.f; rw [if_pos (by have := HSZ.out; omega)]⟩
    have HM := Aside0.mk (fun (V : World) (h : LaidW V) => parse_Path.calls s m a e V h hm)
    by_cases he : e = 0
    · subst he
      obtain ⟨q1, q2, q3, q4⟩ := steps_read HSZ.out hm
      have HRM := Aside0.mk (fun (V : World) (A : Option Addr) (c : Nat) (h1 : LaidW V) (h2 : Kd.C k69 V A m.length m) => rightPath_show m A c V h1 h2 (fun x hx => Nat.le_trans (q2 x hx) (by decide)) (by omega))
      have HPM := Aside0.mk (fun (V : World) (A : Option Addr) (c : Nat) (h1 : LaidW V) (h2 : Kd.C k69 V A m.length m) => path_show m A c V h1 h2 (fun x hx => Nat.le_trans (q2 x hx) (by decide)) (by omega))
      obtain ⟨k1, hk1⟩ := deep_S (pathL m) (by have := pathL_len m; omega)
      obtain ⟨k2, hk2⟩ := deep_S s.data.toList (by rw [data_length]; exact HSZ.out)
      rw [show baL s.data.toList = s from rfl] at hk2
      have HD1 := Aside0.mk (fun (V : World) (h : LaidW V) => parse_Deep.calls k1 (baL (pathL m)) _ V h hk1)
      have HD2 := Aside0.mk (fun (V : World) (h : LaidW V) => parse_Deep.calls k2 s _ V h hk2)
      obtain ⟨d1, e1⟩ : ∃ d, deepS (pathL m) = d := ⟨_, rfl⟩
      obtain ⟨d2, e2⟩ : ∃ d, deepS s.data.toList = d := ⟨_, rfl⟩
      rw [e1] at HD1
      rw [e2] at HD2
      have z1 : decide ((d1 : Int) ≤ (d2 : Int)) = true := decide_eq_true (by omega)
      have z2 : decide (d1 ≤ d2) = true := decide_eq_true (by omega)
      have z3 : rpB m = true := neB q1
      rw [z3] at HRM
      clear q1 q2 q3 q4 hk1 hk2 e1 e2 hm z3
      go_wp2_with fail
      refine (HM.out _ (HLW.out.below HB4b.out)).mono ?_
      rintro e w5 ⟨v, rfl, hv, hb⟩
      have HV := Aside0.mk (Kd.R_mono (ok' := fun _ => True) hv (fun _ _ => trivial))
      have HB5 := Aside0.mk (below_then HB4b.out HB4b.out.size hb)
      obtain ⟨A5, c5, rfl⟩ := Kd.R_slice hv
      clear hv hb
      go_wp2_with fail
      refine (HRM.out _ _ _ (HLW.out.below HB5.out) (Kd.R_reads' HV.out).2.2).mono ?_
      rintro e w6 ⟨rfl, hb⟩
      have HV6 := Aside0.mk (Kd.R_below HV.out hb)
      have HB6 := Aside0.mk (below_then HB5.out HB5.out.size hb)
      clear hb
      go_wp2_with fail
      refine (HPM.out _ _ _ (HLW.out.below HB6.out) (Kd.R_reads' HV6.out).2.2).mono ?_
      rintro e w7 ⟨rfl, hb⟩
      have HB7 := Aside0.mk (below_then HB6.out HB6.out.size hb)
      clear hb
      go_wp2_with fail
      refine (HD1.out _ (HLW.out.below HB7.out)).mono ?_
      rintro e w8 ⟨rfl, hb⟩
      have HB8 := Aside0.mk (below_then HB7.out HB7.out.size hb)
      clear hb
      go_wp2_with fail
      refine (HD2.out _ (HLW.out.below HB8.out)).mono ?_
      rintro e w9 ⟨rfl, hb⟩
      have HB9 := Aside0.mk (below_then HB8.out HB8.out.size hb)
      clear hb
      go_wp2
      go_ret
      exact ⟨by first | rfl | simp [*], HB9.out⟩
    · have z1 : (e == 0) = false := beq_eq_false_iff_ne.2 he
      have z2 : (e != 0) = true := bne_iff_ne.2 he
      clear hm he
      go_wp2_with fail
      refine (HM.out _ (HLW.out.below HB4b.out)).mono ?_
      rintro e w5 ⟨v, rfl, hv, hb⟩
      have HB5 := Aside0.mk (below_then HB4b.out HB4b.out.size hb)
      obtain ⟨A5, c5, rfl⟩ := Kd.R_slice hv
      clear hv hb
      go_wp2
      go_ret
      exact ⟨rfl, HB5.out⟩
def antecedentlaw09_ShowSteps.f (k : Nat) (l : List StS) (s : ByteArray) : Option Bool := if l.all okStep then some true else none
theorem antecedentlaw09_ShowSteps.calls (k : Nat) (A0 : Option Addr) (c0 : Nat) (l0 : List StS) (a1 : ByteArray) (r : Bool) (w : World) (hLW : LaidW w) (hr0 : Kd.C k69 w A0 l0.length l0) (hc0 : l0.length ≤ c0)
    (h : antecedentlaw09_ShowSteps.f k l0 a1 = some r) :
    Calls Tryz.prog 12 #[.slice A0 l0.length c0, .string a1] w fun e w' => e = .returned (.bool r) ∧ Below w.heap.size w w' := by
  unfold antecedentlaw09_ShowSteps.f at h
  split at h
  · rename_i hall
    injection h with h
    subst h
    by_cases hb : 110 < l0.length ∨ 1500 < a1.size
    · exact showSteps_far l0 a1 hb A0 c0 w hLW
    · refine showSteps_near l0 a1 (by omega) (by omega) (fun x hx => ?_) A0 c0 hc0 w hLW hr0
      have := List.all_eq_true.1 hall x hx
      unfold okStep at this
      rw [Bool.and_eq_true] at this
      exact of_decide_eq_true this.2
  · cases h
end Go.Proofs.YthebhbomlllpeaaGreatDoor.X
namespace Go.Proofs.YthebhbomlllpeaaGreatDoor.X
set_option linter.unusedVariables false
theorem pureShowSteps (l : List S69) (h : ∀ x ∈ l, okStep x = true) (s : ByteArray) (hs : s.size ≤ maxLen) : ∃ k, antecedentlaw09_ShowSteps.f k l s = some true :=
  ⟨0, by unfold antecedentlaw09_ShowSteps.f; rw [if_pos (List.all_eq_true.2 h)]⟩
end Go.Proofs.YthebhbomlllpeaaGreatDoor.X
