/-
  ParsePostfix: what the proof needs, put together by a program of this session (shake.py), part 5.
-/
import Derived.Test.YthebhbomlllpeaaGreatDoorCards
import Derived.Test.YthebhbomlllpeaaGreatDoorTie
import Derived.Test.YthebhbomlllpeaaGreatDoorProg
import Derived.Below
import Derived.Deep.Draws
import Derived.Deep.AppendLies
import Derived.Maps.AppendAt
import Derived.OwnWalk
import Derived.Laws.BytesArg
import Derived.Laws.MakeOwn
import Derived.Laws.OwnMore
import Derived.Deep.OwnRows
import Derived.Tactics
import Derived.Lib.ConvBytes
import Derived.Laws.Slices
import Derived.WalkKit
import Derived.KernelRfl
import Derived.RowKit3
import Derived.Deep.LoopGhost
import Derived.Deep.QuietTactic
import Derived.BigQuiet
import Derived.WideLaws
import Derived.Deep.DeepCutAuto
import Derived.Deep.CutBlock
import Derived.Deep.RegionHeld3
import Derived.Laws.Rows
import Derived.Lib.AppendStr
import Derived.ArgAppend
import Derived.Laws.IdiomCopy
import Derived.OrdersHeld
import Derived.Laws.BitsLemmas
import Derived.RowKit
import Derived.Lib.SmallJoins
import Derived.Lib.ItoaMem
import Derived.Test.YthebhbomlllpeaaGreatDoorWWords
import Derived.Test.YthebhbomlllpeaaGreatDoorWLast
import Derived.Test.YthebhbomlllpeaaGreatDoorWTab
import Derived.Test.YthebhbomlllpeaaGreatDoorWFour
import Derived.Test.YthebhbomlllpeaaGreatDoorWQPut
import Derived.Test.YthebhbomlllpeaaGreatDoorWApart
import Derived.Test.YthebhbomlllpeaaGreatDoorWArr
import Derived.Test.YthebhbomlllpeaaGreatDoorWZeros
import Derived.Test.YthebhbomlllpeaaGreatDoorWFoot
import Derived.Test.YthebhbomlllpeaaGreatDoorWKept
import Derived.Test.YthebhbomlllpeaaGreatDoorWShare
import Derived.Test.YthebhbomlllpeaaGreatDoorWN
import Derived.Test.YthebhbomlllpeaaGreatDoorWFootNe
import Derived.Test.YthebhbomlllpeaaGreatDoorWAt
import Derived.Test.YthebhbomlllpeaaGreatDoorWEqStruct
import Derived.Test.YthebhbomlllpeaaGreatDoorWRepsOne
import Derived.Test.YthebhbomlllpeaaGreatDoorWInv
import Derived.Test.YthebhbomlllpeaaGreatDoorWInvWords
import Derived.Test.YthebhbomlllpeaaGreatDoorWGuard
import Derived.Test.YthebhbomlllpeaaGreatDoorWNEv
import Derived.Test.YthebhbomlllpeaaGreatDoorWMore
import Derived.Test.YthebhbomlllpeaaGreatDoorRows
import Derived.Deep.Slices
import Derived.Deep.Fields
import Derived.ChangeSame
import Derived.ProofKit
import Derived.OpenShut
import Derived.Deep.DeepHandedRow
import Derived.Lib.LaidTab
import Derived.LaidMore
import Derived.Stop.LaidErr
import Derived.MakeChecks
import Derived.WalkLawsBesides
import Derived.StillTailTactics
import Derived.Laws.NewBlocks
import Derived.Shelf.Strings.Builder1
import Derived.Shelf.Strings.Builder2
import Derived.Shelf.Strings.OnBuilder
import Derived.Shelf.Small.Strs
import Derived.Shelf.Small.Wraps
import Derived.Shelf.Strings.BuilderF
import Derived.Shelf.Strings.BuilderK
import Derived.Shelf.Strings.Builder2Cap
import Derived.Shelf.Strconv.Itoa0
import Derived.Shelf.Strconv.Itoa1
import Derived.Shelf.LaysM
import Derived.Shelf.Strconv.Itoa2
import Derived.Shelf.Strconv.Itoa3
import Derived.Shelf.Strconv.Itoa4
import Derived.Shelf.Strconv.ParseIntEmpty
import Derived.Shelf.Strconv.Clone
import Derived.Shelf.Strconv.SyntaxError
import Derived.Shelf.LaysC
import Derived.Shelf.Strconv.ToError
import Derived.Shelf.Strconv.Lower
import Derived.Shelf.Strconv.ParseUint10
import Derived.Shelf.Strconv.ParseUint10Empty
import Derived.Shelf.Strconv.ParseUint10Any
import Derived.Shelf.Strconv.ParseInt10
import Derived.Shelf.Strconv.RangeError
import Derived.Shelf.Strconv.ToErrorRange
import Derived.Shelf.Strconv.ParseUintEmpty
import Derived.Shelf.Strconv.ParseUint10b64
import Derived.Shelf.Strconv.ParseUint10b32
import Derived.Shelf.Strconv.ParseUint10b16
import Derived.Shelf.Strconv.ParseUint10b8
import Derived.Shelf.Strconv.ParseUint10At
import Derived.Shelf.Strconv.ParseInt10At64
import Derived.Shelf.Strconv.ParseInt10At32
import Derived.Shelf.Strconv.ParseInt10At16
import Derived.Shelf.Strconv.ParseInt10At8
import Derived.Shelf.Strconv.ParseInt10All
import Derived.Shelf.Strconv.ParseIntPublic10
import Derived.Shelf.Strconv.ErrVarParseInt
import Derived.Ground.MpProg
import Derived.Shelf.Pu.ParseUintPublic10
import Derived.Shelf.Pu.ErrVarParseUint
import Derived.Shelf.Strings.Search1
import Derived.Shelf.Strings.Prefix
import Derived.Shelf.Bits.Mul64
import Derived.Shelf.Strings.Repeat
import Derived.Shelf.Strings.BuilderCap
import Derived.Lib.AtoiAllMem
import Derived.Lib.ParseIntB
import Derived.Lib.Hide
import Derived.Laws.Strings3
import Derived.Laws.Closers25
import Derived.Laws.Closers25b
import Derived.BigCall
import Derived.BigGuard
import Derived.Laws.RangeAny
import Derived.Laws.RangeString
import Derived.Lib.ParseIntBTie
import Init
import Derived.LoopN
import Derived.WalkMore
import Derived.Deep.MidRow
import Derived.Recover
import Derived.Test.YthebhbomlllpeaaGreatDoorZParsePostfix4
namespace Go.Proofs.YthebhbomlllpeaaGreatDoor.X
set_option linter.unusedVariables false
set_option linter.unusedSimpArgs false
open Go.RowKit Go.Proofs.YthebhbomlllpeaaGreatDoorW.PrintWords Go.Proofs.YthebhbomlllpeaaGreatDoorW.PrintLast Go.Proofs.YthebhbomlllpeaaGreatDoorW.PrintMore
abbrev awT : ByteArray := ⟨#[112, 40, 88, 44, 32, 99, 111, 117, 110, 116, 40, 89, 41, 41, 32, 58, 45, 32, 119, 97, 108, 107, 40, 88, 44, 32, 97, 47, 94, 98, 42, 44, 32, 89, 41, 46, 32, 63, 45, 32, 112, 40, 88, 44, 32, 51, 41, 46]⟩
def awRule : RlS := ⟨⟨⟨#[112]⟩, [⟨⟨#[88]⟩, noneV⟩, ⟨⟨#[89]⟩, noneV⟩]⟩, 1, [⟨5, noneA, ⟨#[]⟩, ⟨⟨#[88]⟩, noneV⟩, ⟨⟨#[89]⟩, noneV⟩, noneT, [⟨1, ⟨#[97]⟩⟩, ⟨2, ⟨#[98]⟩⟩, ⟨5, ⟨#[]⟩⟩, ⟨3, ⟨#[]⟩⟩]⟩]⟩
theorem aw_parse : parse_Parse.f awT = some ([awRule], ⟨#[112]⟩, [⟨⟨#[88]⟩, noneV⟩, ⟨⟨#[]⟩, ⟨1, 3, ⟨#[]⟩⟩⟩], 0, 0) := by kernel_rfl
theorem aw_deep : parse_Deep.f 20 ⟨#[40, 40, 97, 41, 41]⟩ = some 2 := by kernel_rfl
theorem add0 (a : Addr) : a.add 0 = a := by simp [Addr.add]
theorem add2 (a : Addr) : a.add 2 = ⟨a.block, a.off + 2, none⟩ := by simp [Addr.add]
theorem add6 (a : Addr) : a.add 6 = ⟨a.block, a.off + 6, none⟩ := by simp [Addr.add]
set_option maxHeartbeats 4000000 in
set_option maxRecDepth 100000 in
theorem awake8_calls (w : World) (hLW : LaidW w) :
    Calls Tryz.prog 28 #[] w fun e w' => e = .returned (.bool true) ∧ Below w.heap.size w w' := by
  have HP := Aside0.mk (parse_Parse.calls awT [awRule] ⟨#[112]⟩ [⟨⟨#[88]⟩, noneV⟩, ⟨⟨#[]⟩, ⟨1, 3, ⟨#[]⟩⟩⟩] 0 0 w hLW aw_parse)
  have HLW := Aside0.mk hLW
  clear hLW
  go_enter Tryz.func28, Tryz.ntmps28
  go_wp2_with fail
  refine HP.out.mono ?_
  rintro e w1 ⟨v0, v1, rfl, h0, h1, hb⟩
  obtain ⟨A, c, rfl⟩ := Kd.R_slice h0
  obtain ⟨A2, c2, rfl⟩ := Kd.R_slice h1
  obtain ⟨n, en⟩ : ∃ n, w1.heap.size = n := ⟨_, rfl⟩
  have hW := blk_new w1 (.cells #[.slice A 1 c, .string ⟨#[112]⟩, .slice A2 2 c2] 27)
  rw [en] at hW
  have hC := Kd.C_below (Kd.R_reads' h0).2.2 (below_alloc (Below.refl w1.heap.size w1) (.cells #[.slice A 1 c, .string ⟨#[112]⟩, .slice A2 2 c2] 27))
  have HB := Aside0.mk (below_alloc hb (.cells #[.slice A 1 c, .string ⟨#[112]⟩, .slice A2 2 c2] 27))
  have HCW := Aside0.mk (And.intro hW hC)
  clear h0 h1 hb hW hC HP
  go_upto_region 2 with (fail)
  generalize w1.alloc (.cells #[.slice A 1 c, .string ⟨#[112]⟩, .slice A2 2 c2] 27) = W at HB HCW ⊢
  have d0 : W.cell? ⟨n, 0, none⟩ = some (.slice A 1 c) := (blk_cell HCW.out.1 0).trans rfl
  have d1 : W.cell? ⟨n, 1, none⟩ = some (.string ⟨#[112]⟩) := (blk_cell HCW.out.1 1).trans rfl
  obtain ⟨ad, A1, c1, A3, c3, rfl, _, _, x2, x3, _, _, _, g3⟩ := at_T33 HCW.out.2 0 (by decide) (by decide)
  obtain ⟨ad3, B2, b2, B16, b16, rfl, _, _, _, _, _, _, _, _, _, _, _, _, _, _, _, _, y16, _, _, _, g16⟩ := at_T62 g3 0 (by decide) (by decide)
  obtain ⟨ad16, rfl, z10, z11⟩ := at_T69 g16 1 (by decide) (by decide)
  obtain ⟨ad16', e16, z30, z31⟩ := at_T69 g16 3 (by decide) (by decide)
  cases e16
  replace x2 : W.cell? ⟨(ad.add 0).block, (ad.add 0).off + 2, none⟩ = some (.int .i64 1) := x2
  simp only [add0] at x2
  replace x3 : W.cell? ⟨(ad.add 0).block, (ad.add 0).off + 3, none⟩ = some (.slice (some ad3) 1 c3) := x3
  simp only [add0] at x3
  replace y16 : W.cell? ⟨(ad3.add 0).block, (ad3.add 0).off + 16, none⟩ = some (.slice (some ad16) 4 b16) := y16
  simp only [add0] at y16
  replace z10 : W.cell? (ad16.add 2) = some (.int .i64 2) := z10
  rw [add2] at z10
  replace z11 : W.cell? ⟨(ad16.add 2).block, (ad16.add 2).off + 1, none⟩ = some (.string ⟨#[98]⟩) := z11
  rw [add2] at z11
  replace z30 : W.cell? (ad16.add 6) = some (.int .i64 3) := z30
  rw [add6] at z30
  clear g3 g16 z31
  have HD := Aside0.mk (fun V (h : LaidW V) => parse_Deep.calls 20 ⟨#[40, 40, 97, 41, 41]⟩ 2 V h aw_deep)
  go_wp2_with fail
  refine (HD.out W (HLW.out.below HB.out)).mono ?_
  rintro e w2 ⟨rfl, hb2⟩
  have HB2 := Aside0.mk (below_then HB.out HB.out.size hb2)
  clear hb2
  go_wp2
  go_ret
  exact ⟨rfl, HB2.out⟩
end Go.Proofs.YthebhbomlllpeaaGreatDoor.X
namespace Go.Proofs.YthebhbomlllpeaaGreatDoor.X
set_option linter.unusedVariables false
set_option linter.unusedSimpArgs false
/-- how many paths stand behind a step. -/
def nextS (n : Int) (x : StS) : Int := if x.f0 = 1 ∨ x.f0 = 2 then n + 1 else if x.f0 = 3 ∨ x.f0 = 4 then n - 1 else n
/-- steps as they must stand, where n paths stand already: how many stand then. -/
def okSteps : Int → List StS → Option Int
  | n, [] => some n
  | n, x :: l => if nextS n x < 1 ∨ ¬ (x.f1.size = 0 ↔ 2 < x.f0) then none else okSteps (nextS n x) l
theorem okSteps_app : ∀ (a b : List StS) (n m : Int), okSteps n a = some m → okSteps n (a ++ b) = okSteps m b
  | [], b, n, m, h => by
    simp only [okSteps] at h
    injection h with h
    rw [h]; rfl
  | x :: a, b, n, m, h => by
    simp only [okSteps] at h
    simp only [List.cons_append, okSteps]
    split at h
    · cases h
    · rename_i hc
      rw [if_neg hc]
      exact okSteps_app a b _ m h
/-- one path. -/
def OneP (x : List StS) : Prop := ∀ n : Int, 0 ≤ n → okSteps n x = some (n + 1)
/-- marks behind a path. -/
def Marks (x : List StS) : Prop := ∀ n : Int, 1 ≤ n → okSteps n x = some n
theorem okSteps_one {x : StS} {n m : Int} (hm : nextS n x = m) (h1 : 1 ≤ m) (h2 : x.f1.size = 0 ↔ 2 < x.f0) : okSteps n [x] = some m := by
  simp only [okSteps]
  rw [hm, if_neg (by rintro (h | h); omega; exact h h2)]
theorem stepS_one {k n : Int} (hk : 5 ≤ k) (hn : 1 ≤ n) : okSteps n [stepS k] = some n := by
  refine okSteps_one ?_ hn ⟨fun _ => by show 2 < k; omega, fun _ => rfl⟩
  unfold nextS
  rw [if_neg (by show ¬ (k = 1 ∨ k = 2); omega), if_neg (by show ¬ (k = 3 ∨ k = 4); omega)]
theorem stepS_two {k n : Int} (hk : k = 3 ∨ k = 4) (hn : 1 ≤ n) : okSteps (n + 1) [stepS k] = some n := by
  refine okSteps_one ?_ hn ⟨fun _ => by show 2 < k; omega, fun _ => rfl⟩
  unfold nextS
  rw [if_neg (by show ¬ (k = 1 ∨ k = 2); omega), if_pos (by show (k = 3 ∨ k = 4); omega)]
  omega
theorem one_label {k : Int} (hk : k = 1 ∨ k = 2) {p : ByteArray} (hp : 0 < p.size) : OneP [⟨k, p⟩] := fun n hn => by
  refine okSteps_one ?_ (by omega) ⟨fun h => by simp only at h; omega, fun h => by simp only at h; omega⟩
  unfold nextS
  rw [if_pos hk]
theorem one_marks {x m : List StS} (hx : OneP x) (hm : Marks m) : OneP (x ++ m) := fun n hn => by
  rw [okSteps_app _ _ _ _ (hx n hn), hm (n + 1) (by omega)]
theorem one_two {x y : List StS} {k : Int} (hx : OneP x) (hy : OneP y) (hk : k = 3 ∨ k = 4) : OneP (x ++ y ++ [stepS k]) := fun n hn => by
  rw [okSteps_app _ _ _ (n + 1 + 1) (by rw [okSteps_app _ _ _ _ (hx n hn), hy (n + 1) (by omega)]), stepS_two hk (by omega)]
theorem marks_ok : ∀ l, Marks (marksP l).1
  | [] => fun n _ => rfl
  | t :: r => by
    have ih := marks_ok r
    have go : ∀ k : Int, 5 ≤ k → Marks (stepS k :: (marksP r).1) := fun k hk n hn => by
      have := okSteps_app [stepS k] (marksP r).1 n n (stepS_one hk hn)
      rw [List.singleton_append] at this
      rw [this, ih n hn]
    simp only [marksP]
    split
    · exact go 5 (by omega)
    · split
      · exact go 6 (by omega)
      · split
        · exact go 7 (by omega)
        · exact fun n _ => rfl
/-- what a parser gives, where each token is so. -/
def Gives {α : Type} (Q : TK → Prop) (P : α → Prop) (p : Prs α) : Prop := ∀ l x r, (∀ t ∈ l, Q t) → p l = .ok (x, r) → P x ∧ ∀ t ∈ r, Q t
theorem Gives.rest {α : Type} {Q : TK → Prop} {m : Nat} {p : Prs α} (h : Loc m p) {l : List TK} {x : α} {r : List TK} (hl : ∀ t ∈ l, Q t) (hp : p l = .ok (x, r)) : ∀ t ∈ r, Q t := by
  obtain ⟨u, e, _, _⟩ := h l x r hp
  subst e
  exact fun t ht => hl t (List.mem_append_right _ ht)
theorem Gives.mk {α : Type} {Q : TK → Prop} {P : α → Prop} {m : Nat} {p : Prs α} (h : Loc m p) (hp : ∀ l x r, (∀ t ∈ l, Q t) → p l = .ok (x, r) → P x) : Gives Q P p := fun l x r hl he => ⟨hp l x r hl he, Gives.rest h hl he⟩
theorem drop_all {Q : TK → Prop} {l : List TK} (h : ∀ t ∈ l, Q t) (n : Nat) : ∀ t ∈ l.drop n, Q t := fun t ht => h t (List.mem_of_mem_drop ht)
/-- predicates that are read are tokens. -/
theorem predicate_tok {l : List TK} {p : ByteArray} {r : List TK} (h : predicateP l = .ok (p, r)) : ∃ t, l = t :: r ∧ t.2 = p ∧ predB t = true := by
  cases l with
  | nil => cases h
  | cons t l =>
    simp only [predicateP] at h
    split at h
    · rename_i hp
      injection h with h; injection h with e1 e2
      subst e1; subst e2
      exact ⟨t, rfl, rfl, hp⟩
    · cases h
theorem gives_rowL {Q : TK → Prop} {P : List StS → Prop} {s : List UInt8} {k : Int} {one : Prs (List StS)} (h1 : Gives Q P one) (hP : ∀ x y, P x → P y → P (x ++ y ++ [stepS k])) : ∀ (n : Nat) (acc l x r), P acc → (∀ t ∈ l, Q t) → rowL s k one n acc l = .ok (x, r) → P x ∧ ∀ t ∈ r, Q t
  | 0, acc, l, x, r, ha, hl, h => by
    simp only [rowL] at h
    injection h with h; injection h with e1 e2
    subst e1; subst e2
    exact ⟨ha, hl⟩
  | n + 1, acc, l, x, r, ha, hl, h => by
    simp only [rowL] at h
    split at h
    · obtain ⟨y, r1, ho, h⟩ := bnd_ok h
      obtain ⟨hy, hr1⟩ := h1 _ _ _ (drop_all hl 1) ho
      exact gives_rowL h1 hP n _ r1 x r (hP acc y ha hy) hr1 h
    · injection h with h; injection h with e1 e2
      subst e1; subst e2
      exact ⟨ha, hl⟩
theorem gives_row {Q : TK → Prop} {P : List StS → Prop} {s : List UInt8} {k : Int} {one : Prs (List StS)} (h1 : Gives Q P one) (hP : ∀ x y, P x → P y → P (x ++ y ++ [stepS k])) : Gives Q P (rowP s k one) := fun l x r hl h => by
  unfold rowP at h
  obtain ⟨y, r1, ho, h⟩ := bnd_ok h
  obtain ⟨hy, hr1⟩ := h1 _ _ _ hl ho
  exact gives_rowL h1 hP _ _ _ _ _ hy hr1 h
theorem gives_partW {Q : TK → Prop} {P : List StS → Prop} {inner : Option (Prs (List StS))} (hloc : ∀ p, inner = some p → Loc 0 p) (hi : ∀ p, inner = some p → Gives Q P p) (hlab : ∀ t k, Q t → predB t = true → k = 1 ∨ k = 2 → P [⟨k, t.2⟩]) (hm : ∀ x l, P x → P (x ++ (marksP l).1)) : Gives Q P (partW inner) := by
  refine Gives.mk (loc_partW inner hloc) fun l x r hl h => ?_
  unfold partW at h
  obtain ⟨y, r1, hb, h⟩ := bnd_ok h
  injection h with h; injection h with e1 e2
  subst e1
  refine hm _ _ ?_
  unfold baseP at hb
  split at hb
  · cases inner with
    | none => cases hb
    | some q =>
      obtain ⟨z, r2, hq, hb⟩ := bnd_ok hb
      obtain ⟨_, r3, hw, hb⟩ := bnd_ok hb
      injection hb with hb; injection hb with e3 e4
      subst e3
      exact (hi q rfl _ _ _ (drop_all hl 1) hq).1
  · split at hb
    · obtain ⟨p, r2, hp, hb⟩ := bnd_ok hb
      injection hb with hb; injection hb with e3 e4
      subst e3
      obtain ⟨t, e, rfl, ht⟩ := predicate_tok hp
      exact hlab t 2 (drop_all hl 1 t (by rw [e]; exact List.mem_cons_self ..)) ht (Or.inr rfl)
    · obtain ⟨p, r2, hp, hb⟩ := bnd_ok hb
      injection hb with hb; injection hb with e3 e4
      subst e3
      obtain ⟨t, e, rfl, ht⟩ := predicate_tok hp
      exact hlab t 1 (hl t (by rw [e]; exact List.mem_cons_self ..)) ht (Or.inl rfl)
theorem gives_path {Q : TK → Prop} {P : List StS → Prop} (hlab : ∀ t k, Q t → predB t = true → k = 1 ∨ k = 2 → P [⟨k, t.2⟩]) (hm : ∀ x l, P x → P (x ++ (marksP l).1)) (hP : ∀ k x y, k = 3 ∨ k = 4 → P x → P y → P (x ++ y ++ [stepS k])) : ∀ d, Gives Q P (pathP d) := by
  have hw : ∀ part, Gives Q P part → Gives Q P (pathW part) := fun part h => gives_row (gives_row h (fun x y => hP 3 x y (Or.inl rfl))) (fun x y => hP 4 x y (Or.inr rfl))
  have hpart : ∀ d, Gives Q P (partP d) := by
    intro d
    induction d with
    | zero => exact gives_partW (fun p h => by cases h) (fun p h => by cases h) hlab hm
    | succ d ih => exact gives_partW (fun p h => by injection h with h; subst h; exact (loc_pathW (loc_part d)).le (Nat.zero_le _)) (fun p h => by injection h with h; subst h; exact hw _ ih) hlab hm
  exact fun d => hw _ (hpart d)
/-- a path that is read is one. -/
theorem path_one (d : Nat) : Gives (fun t => 0 < t.2.size) OneP (pathP d) :=
  gives_path (fun t k ht _ hk => one_label hk ht) (fun x l h => one_marks h (marks_ok l)) (fun k x y hk hx hy => one_two hx hy hk) d
theorem whole_of {l : List TK} {x : List StS} {r : List TK} (h : wholeP l = .ok (x, r)) : pathP 32 l = .ok (x, r) ∧ x.length ≤ 100 := by
  unfold wholeP at h
  obtain ⟨y, r1, ho, h⟩ := bnd_ok h
  split at h
  · cases h
  · rename_i hl
    injection h with h; injection h with e1 e2
    subst e1; subst e2
    exact ⟨ho, by omega⟩
def deep1 (om : Nat × Nat) (s : List UInt8) : Nat × Nat :=
  let o := if s = [40] then om.1 + 1 else if s = [41] then om.1 - 1 else om.1
  (o, max om.2 o)
def deepF (om : Nat × Nat) (l : List (List UInt8)) : Nat × Nat := l.foldl deep1 om
/-- so many ( are open at most, and then as many as at first. -/
def Deep (d : Nat) (u : List (List UInt8)) : Prop := ∀ o m, o ≤ m → ∃ m', deepF (o, m) u = (o, m') ∧ m ≤ m' ∧ m' ≤ max m (o + d)
theorem deepF_app (om : Nat × Nat) (a b : List (List UInt8)) : deepF om (a ++ b) = deepF (deepF om a) b := List.foldl_append
theorem Deep.nil (d : Nat) : Deep d [] := fun o m h => ⟨m, rfl, Nat.le_refl _, by omega⟩
theorem Deep.app {d : Nat} {a b : List (List UInt8)} (ha : Deep d a) (hb : Deep d b) : Deep d (a ++ b) := fun o m h => by
  obtain ⟨m1, e1, h1, h2⟩ := ha o m h
  obtain ⟨m2, e2, h3, h4⟩ := hb o m1 (by omega)
  exact ⟨m2, by rw [deepF_app, e1, e2], by omega, by omega⟩
theorem Deep.le {d d' : Nat} {a : List (List UInt8)} (ha : Deep d a) (h : d ≤ d') : Deep d' a := fun o m hm => by
  obtain ⟨m1, e1, h1, h2⟩ := ha o m hm
  exact ⟨m1, e1, h1, by omega⟩
theorem Deep.one {s : List UInt8} (d : Nat) (h1 : s ≠ [40]) (h2 : s ≠ [41]) : Deep d [s] := fun o m h => ⟨m, by simp only [deepF, List.foldl_cons, List.foldl_nil, deep1, if_neg h1, if_neg h2]; rw [Nat.max_eq_left h], Nat.le_refl _, by omega⟩
theorem Deep.round {d : Nat} {a : List (List UInt8)} (ha : Deep d a) : Deep (d + 1) ([40] :: a ++ [[41]]) := fun o m h => by
  obtain ⟨m1, e1, h1, h2⟩ := ha (o + 1) (max m (o + 1)) (by omega)
  refine ⟨m1, ?_, by omega, by omega⟩
  have e2 : deepF (o, m) ([40] :: a ++ [[41]]) = deepF (deepF (o + 1, max m (o + 1)) a) [[41]] := by
    rw [List.cons_append, ← deepF_app]
    rfl
  rw [e2, e1]
  simp only [deepF, List.foldl_cons, List.foldl_nil, deep1]
  rw [if_neg (by decide)]
  simp only [if_true, Nat.add_sub_cancel]
  rw [Nat.max_eq_left (by omega)]
def txts (l : List TK) : List (List UInt8) := l.map fun t => t.2.data.toList
/-- a parser reads no more ( than so deep. -/
def DeepP {α : Type} (d : Nat) (p : Prs α) : Prop := ∀ l x r, (∀ t ∈ l, t.1 = 1 → t.2.data.toList ≠ [40] ∧ t.2.data.toList ≠ [41]) → p l = .ok (x, r) → ∃ u, l = u ++ r ∧ Deep d (txts u)
theorem isT_text {t : TK} {k : Int} {s : List UInt8} (h : isT t k s = true) : t.1 = k ∧ t.2.data.toList = s := by
  unfold isT at h
  simp only [Bool.and_eq_true, beq_iff_eq] at h
  exact h
theorem mk0_app {l : List TK} {s : List UInt8} (h : mk0 l s = true) : ∃ t, l = t :: l.drop 1 ∧ t.2.data.toList = s := by
  obtain ⟨t, r, rfl, ht⟩ := mk0_cons h
  exact ⟨t, rfl, (isT_text ht).2⟩
theorem deep_rowL {d : Nat} {s : List UInt8} {k : Int} {one : Prs (List StS)} (hs : s ≠ [40] ∧ s ≠ [41]) (h1 : DeepP d one) : ∀ (n : Nat) (acc l x r), (∀ t ∈ l, t.1 = 1 → t.2.data.toList ≠ [40] ∧ t.2.data.toList ≠ [41]) → rowL s k one n acc l = .ok (x, r) → ∃ u, l = u ++ r ∧ Deep d (txts u)
  | 0, acc, l, x, r, hl, h => by
    simp only [rowL] at h
    injection h with h; injection h with e1 e2
    subst e2
    exact ⟨[], rfl, Deep.nil d⟩
  | n + 1, acc, l, x, r, hl, h => by
    simp only [rowL] at h
    split at h
    · rename_i hk
      obtain ⟨t, e, ht⟩ := mk0_app hk
      obtain ⟨y, r1, ho, h⟩ := bnd_ok h
      obtain ⟨u, e1, hu⟩ := h1 _ _ _ (fun t ht => hl t (List.mem_of_mem_drop ht)) ho
      obtain ⟨v, e2, hv⟩ := deep_rowL hs h1 n _ r1 x r (fun t ht => hl t (by rw [e, e1]; simp [ht])) h
      refine ⟨t :: (u ++ v), by rw [e, e1, e2]; simp, ?_⟩
      have : txts (t :: (u ++ v)) = [s] ++ (txts u ++ txts v) := by simp [txts, ht]
      rw [this]
      exact (Deep.one d hs.1 hs.2).app (hu.app hv)
    · injection h with h; injection h with e1 e2
      subst e2
      exact ⟨[], rfl, Deep.nil d⟩
theorem deep_row {d : Nat} {s : List UInt8} {k : Int} {one : Prs (List StS)} (hs : s ≠ [40] ∧ s ≠ [41]) (h1 : DeepP d one) : DeepP d (rowP s k one) := fun l x r hl h => by
  unfold rowP at h
  obtain ⟨y, r1, ho, h⟩ := bnd_ok h
  obtain ⟨u, e1, hu⟩ := h1 _ _ _ hl ho
  obtain ⟨v, e2, hv⟩ := deep_rowL hs h1 _ _ r1 x r (fun t ht => hl t (by rw [e1]; simp [ht])) h
  exact ⟨u ++ v, by rw [e1, e2, List.append_assoc], by rw [show txts (u ++ v) = txts u ++ txts v from List.map_append]; exact hu.app hv⟩
theorem deep_marks (d : Nat) : ∀ l, ∃ u, l = u ++ (marksP l).2 ∧ Deep d (txts u)
  | [] => ⟨[], rfl, Deep.nil d⟩
  | t :: r => by
    obtain ⟨u, e, hu⟩ := deep_marks d r
    have go : ∀ s, isT t 4 s = true → s ≠ [40] → s ≠ [41] → ∃ v, t :: r = v ++ (marksP r).2 ∧ Deep d (txts v) := fun s hs h1 h2 => by
      refine ⟨t :: u, by rw [List.cons_append, ← e], ?_⟩
      have : txts (t :: u) = [s] ++ txts u := by simp [txts, (isT_text hs).2]
      rw [this]
      exact (Deep.one d h1 h2).app hu
    simp only [marksP]
    split
    · rename_i h; exact go _ h (by decide) (by decide)
    · split
      · rename_i h; exact go _ h (by decide) (by decide)
      · split
        · rename_i h; exact go _ h (by decide) (by decide)
        · exact ⟨[], rfl, Deep.nil d⟩
theorem deep_predicate (d : Nat) : DeepP d predicateP := fun l x r hl h => by
  obtain ⟨t, rfl, rfl, ht⟩ := predicate_tok h
  unfold predB at ht
  simp only [Bool.and_eq_true, beq_iff_eq] at ht
  have := hl t (List.mem_cons_self ..) ht.1
  exact ⟨[t], rfl, Deep.one d this.1 this.2⟩
theorem deep_partW {d : Nat} {inner : Option (Prs (List StS))} (hi : ∀ p, inner = some p → ∃ e, d = e + 1 ∧ DeepP e p) : DeepP d (partW inner) := fun l x r hl h => by
  unfold partW at h
  obtain ⟨y, r1, hb, h⟩ := bnd_ok h
  injection h with h; injection h with e1 e2
  obtain ⟨v, ev, hv⟩ := deep_marks d r1
  have base : ∃ u, l = u ++ r1 ∧ Deep d (txts u) := by
    unfold baseP at hb
    split at hb
    · rename_i hk
      obtain ⟨t, e, ht⟩ := mk0_app hk
      cases inner with
      | none => cases hb
      | some q =>
        obtain ⟨c, rfl, hq⟩ := hi q rfl
        obtain ⟨z, r2, ho, hb⟩ := bnd_ok hb
        obtain ⟨_, r3, hw, hb⟩ := bnd_ok hb
        injection hb with hb; injection hb with e3 e4
        subst e4
        obtain ⟨u, e5, hu⟩ := hq _ _ _ (fun t ht => hl t (List.mem_of_mem_drop ht)) ho
        unfold wantP at hw
        split at hw
        · rename_i hk2
          obtain ⟨t2, e6, ht2⟩ := mk0_app hk2
          injection hw with hw; injection hw with _ e7
          refine ⟨t :: u ++ [t2], by rw [e, e5, e6, ← e7]; simp, ?_⟩
          have : txts (t :: u ++ [t2]) = [40] :: txts u ++ [[41]] := by simp [txts, ht, ht2]
          rw [this]
          exact hu.round
        · cases hw
    · split at hb
      · rename_i hk
        obtain ⟨t, e, ht⟩ := mk0_app hk
        obtain ⟨p, r2, hp, hb⟩ := bnd_ok hb
        injection hb with hb; injection hb with e3 e4
        subst e4
        obtain ⟨u, e5, hu⟩ := deep_predicate d _ _ _ (fun t ht => hl t (List.mem_of_mem_drop ht)) hp
        refine ⟨t :: u, by rw [e, e5]; simp, ?_⟩
        have : txts (t :: u) = [[94]] ++ txts u := by simp [txts, ht]
        rw [this]
        exact (Deep.one d (by decide) (by decide)).app hu
      · obtain ⟨p, r2, hp, hb⟩ := bnd_ok hb
        injection hb with hb; injection hb with e3 e4
        subst e4
        exact deep_predicate d _ _ _ hl hp
  obtain ⟨u, eu, hu⟩ := base
  refine ⟨u ++ v, by rw [eu, ← e2, List.append_assoc, ← ev], by rw [show txts (u ++ v) = txts u ++ txts v from List.map_append]; exact hu.app hv⟩
theorem deep_pathW {d : Nat} {part : Prs (List StS)} (h : DeepP d part) : DeepP d (pathW part) := deep_row ⟨by decide, by decide⟩ (deep_row ⟨by decide, by decide⟩ h)
theorem deep_part : ∀ d, DeepP d (partP d)
  | 0 => deep_partW (fun p h => by cases h)
  | d + 1 => deep_partW (fun p h => by injection h with h; subst h; exact ⟨d, rfl, deep_pathW (deep_part d)⟩)
theorem deep_path (d : Nat) : DeepP d (pathP d) := deep_pathW (deep_part d)
end Go.Proofs.YthebhbomlllpeaaGreatDoor.X
namespace Go.Proofs.YthebhbomlllpeaaGreatDoor.X
set_option linter.unusedVariables false
set_option linter.unusedSimpArgs false
open Go.RowKit Go.Proofs.YthebhbomlllpeaaGreatDoorW.PrintWords Go.Proofs.YthebhbomlllpeaaGreatDoorW.PrintLast Go.Proofs.YthebhbomlllpeaaGreatDoorW.PrintMore
def Err {α : Type} (p : Prs α) : Prop := ∀ l q, p l = .error q → q.2 ≠ 0
theorem bnd_e {α β : Type} {p : Except (Nat × Int) (α × List TK)} {f : α → List TK → Except (Nat × Int) β} {q : Nat × Int} (h : bnd p f = .error q) : p = .error q ∨ ∃ x r, p = .ok (x, r) ∧ f x r = .error q := by
  cases p with
  | error e => exact Or.inl (show (Except.error e : Except (Nat × Int) (α × List TK)) = .error q by simp only [bnd] at h; injection h with h; rw [h])
  | ok y => exact Or.inr ⟨y.1, y.2, rfl, h⟩
theorem Err.bind {α β : Type} {p : Prs α} {f : α → Prs β} (hp : Err p) (hf : ∀ x, Err (f x)) : Err (fun l => bnd (p l) f) := fun l q h => by
  rcases bnd_e h with h | ⟨x, r, _, h⟩
  · exact hp l q h
  · exact hf x r q h
theorem err_predicate : Err predicateP := fun l q h => by
  cases l with
  | nil => simp only [predicateP] at h; injection h with h; subst h; simp
  | cons t r =>
    simp only [predicateP] at h
    split at h
    · cases h
    · injection h with h; subst h; simp
theorem err_want (s : List UInt8) : Err (wantP s) := fun l q h => by
  unfold wantP at h
  split at h
  · cases h
  · injection h with h; subst h; simp
theorem err_rowL {s : List UInt8} {k : Int} {one : Prs (List StS)} (h1 : Err one) : ∀ (n : Nat) (acc : List StS), Err (rowL s k one n acc)
  | 0, acc => fun l q h => by simp only [rowL] at h; cases h
  | n + 1, acc => fun l q h => by
    simp only [rowL] at h
    split at h
    · rcases bnd_e h with h | ⟨x, r, _, h⟩
      · exact h1 _ q h
      · exact err_rowL h1 n _ r q h
    · cases h
theorem err_row {s : List UInt8} {k : Int} {one : Prs (List StS)} (h1 : Err one) : Err (rowP s k one) := fun l q h => by
  unfold rowP at h
  rcases bnd_e h with h | ⟨x, r, _, h⟩
  · exact h1 _ q h
  · exact err_rowL h1 _ _ r q h
theorem err_part {inner : Option (Prs (List StS))} (hi : ∀ p, inner = some p → Err p) : Err (partW inner) := fun l q h => by
  unfold partW at h
  rcases bnd_e h with h | ⟨x, r, _, h⟩
  · unfold baseP at h
    split at h
    · cases inner with
      | none => injection h with h; subst h; simp
      | some p =>
        rcases bnd_e h with h | ⟨x, r, _, h⟩
        · exact hi p rfl _ q h
        · rcases bnd_e h with h | ⟨x, r, _, h⟩
          · exact err_want _ _ q h
          · cases h
    · split at h
      · rcases bnd_e h with h | ⟨x, r, _, h⟩
        · exact err_predicate _ q h
        · cases h
      · rcases bnd_e h with h | ⟨x, r, _, h⟩
        · exact err_predicate _ q h
        · cases h
  · cases h
theorem err_path : ∀ d, Err (partP d) ∧ Err (pathP d)
  | 0 => by
    have h : Err (partP 0) := err_part (fun p h => by cases h)
    exact ⟨h, err_row (err_row h)⟩
  | d + 1 => by
    have h : Err (partP (d + 1)) := err_part (fun p h => by injection h with h; subst h; exact (err_path d).2)
    exact ⟨h, err_row (err_row h)⟩
theorem err_whole : Err wholeP := fun l q h => by
  unfold wholeP at h
  rcases bnd_e h with h | ⟨x, r, _, h⟩
  · exact (err_path 32).2 _ q h
  · 
    split at h
    · injection h with h; subst h; simp
    · cases h
theorem cov_each8 {full : List UInt8} : ∀ (l : List (Nat × Nat × Nat)) (a : Nat), covT nmL vlL full a l → ∀ x ∈ l, nextN nmL vlL (full.drop x.2.1) = some (x.1, x.2.2) ∧ x.2.1 + x.2.2 ≤ full.length ∧ 1 ≤ x.2.2
  | [], _, _ => fun x hx => by cases hx
  | y :: l, a, ⟨h1, h2, h3, h4, h5, h6, h7, h8⟩ => fun x hx => by
    rcases List.mem_cons.1 hx with rfl | hx
    · exact ⟨h6, h3, h2⟩
    · exact cov_each8 l _ h8 x hx
theorem tokS_txt8 (s : ByteArray) (x : Nat × Nat × Nat) : (tokS s x).f1.data.toList = (s.data.toList.drop x.2.1).take x.2.2 := by
  simp only [tokS]; rw [extract_list, extract_rest]; simp
/-- a token is not empty; a word is no ( and no ). -/
def TokOk (t : TK) : Prop := 0 < t.2.size ∧ (t.1 = 1 → t.2.data.toList ≠ [40] ∧ t.2.data.toList ≠ [41])
theorem tok_ok {s : ByteArray} {l : List (Nat × Nat × Nat)} (h : tokN nmL vlL 0 s.data.toList = .ok l) : ∀ x ∈ l, TokOk (tkOf (tokS s x)) := fun x hx => by
  have hc := tok_cov nmL vlL s.data.toList _ 0 l (Nat.le_refl _) (by simpa using h)
  obtain ⟨hn, hle, h1⟩ := cov_each8 l 0 hc x hx
  have ht := tokS_txt8 s x
  refine ⟨?_, fun h0 => ?_⟩
  · show 0 < (tokS s x).f1.size
    rw [← data_length, ht, List.length_take, List.length_drop]
    omega
  · have hk : x.1 = 1 := by
      have : ((x.1 : Nat) : Int) = 1 := h0
      omega
    rw [hk] at hn
    show (tokS s x).f1.data.toList ≠ [40] ∧ (tokS s x).f1.data.toList ≠ [41]
    rw [ht]
    cases hd : s.data.toList.drop x.2.1 with
    | nil => exact ⟨by simp, by simp⟩
    | cons c r =>
      rw [hd] at hn
      obtain ⟨hs, _⟩ := next_word hn
      refine ⟨fun e => ?_, fun e => ?_⟩
      all_goals
        obtain ⟨m, hm⟩ : ∃ m, x.2.2 = m + 1 := ⟨x.2.2 - 1, by omega⟩
        rw [hm, List.take_succ_cons] at e
        injection e with e1 e2
        subst e1
        exact absurd hs (by decide)
/-- a text that has tokens: each is so; they are no more than its bytes. -/
theorem lex_ok {s : ByteArray} (hs : s.size ≤ 20000) (h : (lexRes s).2.2 = 0) : (∀ t ∈ (lexRes s).1.map tkOf, TokOk t) ∧ (lexRes s).1.length ≤ s.size := by
  unfold lexRes at h ⊢
  rw [if_neg (by omega)] at h ⊢
  unfold tokRes at h ⊢
  cases ht : tokN nmL vlL 0 s.data.toList with
  | error i => rw [ht] at h; cases h
  | ok l =>
    simp only
    refine ⟨fun t hm => ?_, ?_⟩
    · rw [List.map_map, List.mem_map] at hm
      obtain ⟨x, hx, rfl⟩ := hm
      exact tok_ok ht x hx
    · have hn := tok_count nmL vlL _ s.data.toList 0 l (Nat.le_refl _) ht
      rw [data_length] at hn
      simpa using hn
theorem mx8 (a b : Nat) : mx (a : Int) (b : Int) = ((max a b : Nat) : Int) := by unfold mx; split <;> omega
theorem deep_loop (ts : List S108) (hl : ts.length ≤ 20000) : ∀ (d i o m k : Nat), ts.length - i = d → i ≤ ts.length → d < k → o ≤ i → parse_Deep.l0 k (o : Int) (m : Int) ts (ts.length : Int) (i : Int) = some (((deepF (o, m) (txts ((ts.drop i).map tkOf))).2 : Nat) : Int) := by
  intro d
  induction d with
  | zero =>
    intro i o m k hd hi hk ho
    obtain ⟨k, rfl⟩ : ∃ j, k = j + 1 := ⟨k - 1, by omega⟩
    simp only [parse_Deep.l0]
    rw [if_neg (by omega), List.drop_eq_nil_of_le (by omega)]
    rfl
  | succ d ih =>
    intro i o m k hd hi hk ho
    obtain ⟨k, rfl⟩ : ∃ j, k = j + 1 := ⟨k - 1, by omega⟩
    have hlt : i < ts.length := by omega
    simp only [parse_Deep.l0]
    rw [if_pos (by omega), if_pos (by omega), if_pos (by omega)]
    have hr : rd_T108 ts (i : Int) = ts[i] := by
      show ts.getD (Int.toNat (i : Int)) _ = _
      rw [Int.toNat_natCast, List.getD_eq_getElem?_getD, List.getElem?_eq_getElem hlt]
      rfl
    have hw1 : wrap64 ((i : Int) + 1) = ((i + 1 : Nat) : Int) := by unfold wrap64; omega
    have hw2 : wrap64 ((o : Int) + 1) = ((o + 1 : Nat) : Int) := by unfold wrap64; omega
    have hw3 : mx 0 (wrap64 ((o : Int) - 1)) = ((o - 1 : Nat) : Int) := by
      have : wrap64 ((o : Int) - 1) = (o : Int) - 1 := by unfold wrap64; omega
      rw [this]; unfold mx; split <;> omega
    have hf : deepF (o, m) (txts ((ts.drop i).map tkOf)) = deepF (deep1 (o, m) (ts[i].f1.data.toList)) (txts ((ts.drop (i + 1)).map tkOf)) := by
      rw [List.drop_eq_getElem_cons hlt]
      rfl
    rw [hr, hw1, hw2, hw3, hf, toList_data]
    by_cases h40 : ts[i].f1.data.toList = [40]
    · rw [if_pos h40, mx8, ih (i + 1) (o + 1) (max m (o + 1)) k (by omega) (by omega) (by omega) (by omega)]
      unfold deep1
      rw [if_pos h40]
    · rw [if_neg h40]
      by_cases h41 : ts[i].f1.data.toList = [41]
      · rw [if_pos h41, mx8, ih (i + 1) (o - 1) (max m (o - 1)) k (by omega) (by omega) (by omega) (by omega)]
        unfold deep1
        rw [if_neg h40, if_pos h41]
      · rw [if_neg h41, mx8, ih (i + 1) o (max m o) k (by omega) (by omega) (by omega) (by omega)]
        unfold deep1
        rw [if_neg h40, if_neg h41]
theorem deep_f (s : ByteArray) (hs : s.size ≤ 20000) (hl : (lexRes s).1.length ≤ 20000) : parse_Deep.f ((lexRes s).1.length + 1) s = some (((deepF (0, 0) (txts ((lexRes s).1.map tkOf))).2 : Nat) : Int) := by
  unfold parse_Deep.f
  rw [lex_f s (by omega)]
  exact deep_loop (lexRes s).1 hl _ 0 0 0 _ rfl (Nat.zero_le _) (by omega) (Nat.le_refl _)
theorem all_ok8 {α : Type} {p : Prs α} {l : List TK} {x : α} (h : allP p l = .ok x) : p l = .ok (x, []) := by
  unfold allP at h
  split at h
  · cases h
  · rename_i y hy; rw [hy]; injection h with h; rw [h]
  · cases h
theorem all_err {α : Type} {p : Prs α} (hp : Err p) {l : List TK} {q : Nat × Int} (h : allP p l = .error q) : q.2 ≠ 0 := by
  unfold allP at h
  split at h
  · rename_i e he; injection h with h; rw [← h]; exact hp l e he
  · cases h
  · injection h with h; subst h; simp
theorem path_facts {s : ByteArray} (hs : s.size ≤ 20000) {l : List StS} {a e : Int} (h : parse_Path.f s = some (l, a, e)) :
    (e ≠ 0 ∧ l = []) ∨ (e = 0 ∧ okSteps 0 l = some 1 ∧ l.length ≤ 100 ∧ ∃ k d, (d : Nat) ≤ 32 ∧ parse_Deep.f k s = some (d : Int)) := by
  unfold parse_Path.f at h
  rw [if_pos (by omega)] at h
  replace h := Option.some.inj h
  unfold parseRes at h
  by_cases h0 : (lexRes s).2.2 = 0
  · rw [if_pos h0] at h
    obtain ⟨hT, hn⟩ := lex_ok hs h0
    cases hA : allP wholeP ((lexRes s).1.map tkOf) with
    | error q =>
      rw [hA] at h
      injection h with h1 h; injection h with h2 h3
      exact Or.inl ⟨by rw [← h3]; exact all_err err_whole hA, h1.symm⟩
    | ok x =>
      rw [hA] at h
      injection h with h1 h; injection h with h2 h3
      have h1 : x = l := h1
      subst h1
      obtain ⟨hp, hlen⟩ := whole_of (all_ok8 hA)
      refine Or.inr ⟨h3.symm, ?_, hlen, ?_⟩
      · have := (path_one 32 _ _ _ (fun t ht => (hT t ht).1) hp).1 0 (by omega)
        simpa using this
      · obtain ⟨u, hu, hd⟩ := deep_path 32 _ _ _ (fun t ht => (hT t ht).2) hp
        rw [List.append_nil] at hu
        obtain ⟨m, e1, _, e2⟩ := hd 0 0 (Nat.le_refl _)
        refine ⟨_, m, by omega, (deep_f s hs (by omega)).trans ?_⟩
        rw [hu, e1]
  · rw [if_neg h0] at h
    injection h with h1 h; injection h with h2 h3
    exact Or.inl ⟨by rw [← h3]; exact h0, h1.symm⟩
end Go.Proofs.YthebhbomlllpeaaGreatDoor.X
namespace Go.Proofs.YthebhbomlllpeaaGreatDoor.X
set_option linter.unusedVariables false
set_option linter.unusedSimpArgs false
open Go.RowKit Go.Proofs.YthebhbomlllpeaaGreatDoorW.PrintWords Go.Proofs.YthebhbomlllpeaaGreatDoorW.PrintLast Go.Proofs.YthebhbomlllpeaaGreatDoorW.PrintMore
theorem okSteps_cons {n m : Int} {x : StS} {l : List StS} (h : okSteps n (x :: l) = some m) : 1 ≤ nextS n x ∧ (x.f1.size = 0 ↔ 2 < x.f0) ∧ okSteps (nextS n x) l = some m := by
  simp only [okSteps] at h
  split at h
  · cases h
  · rename_i hc
    refine ⟨by omega, ?_, h⟩
    by_cases hq : (x.f1.size = 0 ↔ 2 < x.f0)
    · exact hq
    · exact absurd (Or.inr hq) hc
set_option maxHeartbeats 4000000 in
set_option maxRecDepth 100000 in
theorem postfix_far (s : ByteArray) (hs : 1500 < s.size) (w : World) (hLW : LaidW w) :
    Calls Tryz.prog 10 #[.string s] w fun e w' => e = .returned (.bool true) ∧ Below w.heap.size w w' := by
  have HA := Aside0.mk (fun V (h : LaidW V) => awake8_calls V h)
  have HLW := Aside0.mk hLW
  have hg : decide ((1500 : Int) < (s.size : Int)) = true := decide_eq_true (by omega)
  have hg2 : decide (1500 < s.size) = true := decide_eq_true hs
  clear hLW
  go_enter Tryz.func10, Tryz.ntmps10
  go_wp2_with fail
  refine (HA.out _ HLW.out).mono ?_
  rintro e w1 ⟨rfl, hb⟩
  have HB := Aside0.mk hb
  clear hb
  go_wp2_with fail
  refine (HA.out _ (HLW.out.below HB.out)).mono ?_
  rintro e w2 ⟨rfl, hb⟩
  have HB2 := Aside0.mk (below_then HB.out HB.out.size hb)
  clear hb
  go_wp2
  go_ret
  exact ⟨rfl, HB2.out⟩
theorem neq_bool (x y : Bool) (w : World) : (binOp .neq 4 (.bool x) (.bool y)).run Tryz.prog w = .ok (.bool (!(x == y))) w := by
  simp only [binOp]
  simp [run_equal_bool w 4 x y Tryz.underlying4]
theorem nil_list : (⟨#[]⟩ : ByteArray).toList = [] := by rw [toList_data]
set_option maxHeartbeats 8000000 in
set_option maxRecDepth 100000 in
theorem postfix_near (s : ByteArray) (hs : s.size ≤ 1500) (w : World) (hLW : LaidW w) :
    Calls Tryz.prog 10 #[.string s] w fun e w' => e = .returned (.bool true) ∧ Below w.heap.size w w' := by
  have HA := Aside0.mk (fun V (h : LaidW V) => awake8_calls V h)
  have HLW := Aside0.mk hLW
  have hg : decide ((1500 : Int) < (s.size : Int)) = false := decide_eq_false (by omega)
  have hg2 : decide (1500 < s.size) = false := decide_eq_false (by omega)
  obtain ⟨l, a, e, hp⟩ : ∃ l a e, parse_Path.f s = some (l, a, e) := ⟨_, _, _, if_pos (by omega)⟩
  have HF := Aside0.mk (path_facts (by omega) hp)
  have HP := Aside0.mk (fun V (h : LaidW V) => parse_Path.calls s l a e V h hp)
  clear hLW hp hs
  go_enter Tryz.func10, Tryz.ntmps10
  go_wp2_with fail
  refine (HA.out _ HLW.out).mono ?_
  rintro ex w1 ⟨rfl, hb⟩
  have HB := Aside0.mk hb
  clear hb
  go_wp2_with fail
  refine (HP.out _ (HLW.out.below HB.out)).mono ?_
  rintro ex w2 ⟨v, rfl, hv, hb⟩
  have HB2 := Aside0.mk (below_then HB.out HB.out.size hb)
  obtain ⟨A, c, rfl⟩ := Kd.R_slice hv
  have HV := Aside0.mk (Kd.R_lower (base' := w.heap.size) hv HB.out.size)
  clear hb hv HB
  rcases HF.out with ⟨he, rfl⟩ | ⟨rfl, hok, hlen, kd, dd, hd, hdf⟩
  · have he1 : (e == 0) = false := beq_eq_false_iff_ne.2 he
    have he2 : (e != 0) = true := bne_iff_ne.2 he
    clear HF
    go_wp2
    go_ret
    exact ⟨rfl, HB2.out⟩
  · have HD := Aside0.mk (fun V (h : LaidW V) => parse_Deep.calls kd s (dd : Int) V h hdf)
    have HOK := Aside0.mk (And.intro hok (And.intro hlen hd))
    clear HF hok hlen hd hdf
    go_wp2
    go_loopg [6, 29] (l.length + 1) (fun kq v6 v29 w' => ∃ (n i : Nat), v6 = .int .i64 n ∧ v29 = .int .i64 i ∧ kq + i = l.length + 1 ∧ i ≤ l.length ∧ n ≤ i ∧ Aside0 (okSteps (n : Int) (l.drop i) = some 1) ∧ Aside0 (Kd.R k69 69 w' w.heap.size (fun _ => True) (.slice A l.length c) l) ∧ Aside0 (Below w.heap.size w w'))
    case atStart => exact ⟨0, 0, rfl, rfl, by omega, by omega, by omega, ⟨by simpa using HOK.out.1⟩, HV, HB2⟩
    case round =>
      clear HB2 HV
      obtain ⟨n, i, rfl, rfl, hk, hi, hn, HQ, HV, HB⟩ := hrel
      by_cases hlt : i < l.length
      · have hz : decide ((i : Int) < (l.length : Int)) = true := decide_eq_true (by omega)
        have hz2 : decide (i < l.length) = true := decide_eq_true hlt
        obtain ⟨k1, rfl⟩ : ∃ k1, gk = k1 + 1 := ⟨gk - 1, by omega⟩
        obtain ⟨ad, rfl, z0, z1⟩ := at_T69 (Kd.R_reads' HV.out).2.2 (i : Int) (by omega) (by omega)
        have hr : rd_T69 l (i : Int) = l[i] := by
          show l.getD (Int.toNat (i : Int)) _ = _
          rw [Int.toNat_natCast, List.getD_eq_getElem?_getD, List.getElem?_eq_getElem hlt]
          rfl
        rw [hr, Int.toNat_natCast] at z0 z1
        have hq := HQ.out
        rw [List.drop_eq_getElem_cons hlt] at hq
        obtain ⟨hq1, hq2, hq3⟩ := okSteps_cons hq
        obtain ⟨⟨kd, lb⟩, hx⟩ : ∃ x, l[i] = x := ⟨_, rfl⟩
        rw [hx] at z0 z1 hq1 hq2 hq3
        simp only at z0 z1 hq1 hq2 hq3
        have hw1 : wrap64 ((i : Int) + 1) = ((i + 1 : Nat) : Int) := by have := HOK.out.2.1; unfold wrap64; omega
        have hw2 : wrap64 ((n : Int) + 1) = ((n + 1 : Nat) : Int) := by have := HOK.out.2.1; unfold wrap64; omega
        have p0 : (0 ≤ (i : Int)) = True := eq_true (by omega)
        have p1 : ((i : Int) < (l.length : Int)) = True := eq_true (by omega)
        have hn1 : decide ((n : Int) + 1 < 1) = false := decide_eq_false (by omega)
        clear hr hq hx
        -- WAYS
        by_cases hk1 : kd = 1
        · subst hk1
          have hE : nextS (n : Int) ⟨1, lb⟩ = ((n + 1 : Nat) : Int) := by unfold nextS; rw [if_pos (Or.inl rfl)]; omega
          rw [hE] at hq3
          have HQ3 := Aside0.mk hq3
          have hlb : (lb.toList == ([] : List UInt8)) = false := by
            rw [beq_eq_false_iff_ne, toList_data]
            intro h
            have : lb.size = 0 := by rw [← data_length, h]; rfl
            have := hq2.1 this
            omega
          have hlb2 : (lb.toList == (⟨#[]⟩ : ByteArray).toList) = false := by rw [nil_list]; exact hlb
          have qN := neq_bool
          clear hE hq1 hq2 hq3 HQ
          go_wp2
          go_quiet (fail)
          go_wp2
          go_roundg k1
          case rel => exact ⟨n + 1, i + 1, by go_num, by go_num, by omega, by omega, by omega, HQ3, ⟨by (with_reducible repeat (first | apply Kd.R_alloc | apply Kd.R_drewN | apply Kd.R_drew)); exact HV.out⟩, ⟨by repeat (first | (with_reducible first | exact HB.out | apply below_alloc | apply pw_below_drewN | apply below_drew1) | exact HB.out)⟩⟩
          case measure => omega
        by_cases hk2 : kd = 2
        · subst hk2
          have hE : nextS (n : Int) ⟨2, lb⟩ = ((n + 1 : Nat) : Int) := by unfold nextS; rw [if_pos (Or.inr rfl)]; omega
          rw [hE] at hq3
          have HQ3 := Aside0.mk hq3
          have hlb : (lb.toList == ([] : List UInt8)) = false := by
            rw [beq_eq_false_iff_ne, toList_data]
            intro h
            have : lb.size = 0 := by rw [← data_length, h]; rfl
            have := hq2.1 this
            omega
          have hlb2 : (lb.toList == (⟨#[]⟩ : ByteArray).toList) = false := by rw [nil_list]; exact hlb
          have qN := neq_bool
          clear hE hq1 hq2 hq3 HQ
          go_wp2
          go_quiet (fail)
          go_wp2
          go_roundg k1
          case rel => exact ⟨n + 1, i + 1, by go_num, by go_num, by omega, by omega, by omega, HQ3, ⟨by (with_reducible repeat (first | apply Kd.R_alloc | apply Kd.R_drewN | apply Kd.R_drew)); exact HV.out⟩, ⟨by repeat (first | (with_reducible first | exact HB.out | apply below_alloc | apply pw_below_drewN | apply below_drew1) | exact HB.out)⟩⟩
          case measure => omega
        by_cases hk3 : kd = 3
        · subst hk3
          have hE : nextS (n : Int) ⟨3, lb⟩ = (n : Int) - 1 := by unfold nextS; rw [if_neg (by rintro (h | h) <;> cases h), if_pos (Or.inl rfl)]
          obtain ⟨n, rfl⟩ : ∃ j, n = j + 1 := ⟨n - 1, by omega⟩
          replace hE : nextS ((n + 1 : Nat) : Int) ⟨3, lb⟩ = (n : Int) := by rw [hE]; omega
          rw [hE] at hq3
          have HQ3 := Aside0.mk hq3
          have hl0 : lb.size = 0 := hq2.2 (by omega)
          have hlb : (lb.toList == ([] : List UInt8)) = true := by
            rw [beq_iff_eq, toList_data]
            exact List.length_eq_zero_iff.1 (by rw [data_length]; exact hl0)
          have hlb2 : (lb.toList == (⟨#[]⟩ : ByteArray).toList) = true := by rw [nil_list]; exact hlb
          have hm0 : 1 ≤ n := by omega
          have hm1 : decide ((n : Int) < 1) = false := decide_eq_false (by omega)
          have hm2 : wrap64 (((n + 1 : Nat) : Int) - 1) = (n : Int) := by have := HOK.out.2.1; unfold wrap64; omega
          have hm3 : wrap64 ((n : Int) + 1 - 1) = (n : Int) := by have := HOK.out.2.1; unfold wrap64; omega
          have hm4 : decide (n < 1) = false := decide_eq_false (by omega)
          have hm5 : wrap64 (n : Int) = (n : Int) := by have := HOK.out.2.1; unfold wrap64; omega
          have qN := neq_bool
          clear hE hq1 hq2 hq3 HQ hl0
          go_wp2
          go_quiet (fail)
          go_wp2
          go_roundg k1
          case rel => exact ⟨n, i + 1, by go_num, by go_num, by omega, by omega, by omega, HQ3, ⟨by (with_reducible repeat (first | apply Kd.R_alloc | apply Kd.R_drewN | apply Kd.R_drew)); exact HV.out⟩, ⟨by repeat (first | (with_reducible first | exact HB.out | apply below_alloc | apply pw_below_drewN | apply below_drew1) | exact HB.out)⟩⟩
          case measure => omega
        by_cases hk4 : kd = 4
        · subst hk4
          have hE : nextS (n : Int) ⟨4, lb⟩ = (n : Int) - 1 := by unfold nextS; rw [if_neg (by rintro (h | h) <;> cases h), if_pos (Or.inr rfl)]
          obtain ⟨n, rfl⟩ : ∃ j, n = j + 1 := ⟨n - 1, by omega⟩
          replace hE : nextS ((n + 1 : Nat) : Int) ⟨4, lb⟩ = (n : Int) := by rw [hE]; omega
          rw [hE] at hq3
          have HQ3 := Aside0.mk hq3
          have hl0 : lb.size = 0 := hq2.2 (by omega)
          have hlb : (lb.toList == ([] : List UInt8)) = true := by
            rw [beq_iff_eq, toList_data]
            exact List.length_eq_zero_iff.1 (by rw [data_length]; exact hl0)
          have hlb2 : (lb.toList == (⟨#[]⟩ : ByteArray).toList) = true := by rw [nil_list]; exact hlb
          have hm0 : 1 ≤ n := by omega
          have hm1 : decide ((n : Int) < 1) = false := decide_eq_false (by omega)
          have hm2 : wrap64 (((n + 1 : Nat) : Int) - 1) = (n : Int) := by have := HOK.out.2.1; unfold wrap64; omega
          have hm3 : wrap64 ((n : Int) + 1 - 1) = (n : Int) := by have := HOK.out.2.1; unfold wrap64; omega
          have hm4 : decide (n < 1) = false := decide_eq_false (by omega)
          have hm5 : wrap64 (n : Int) = (n : Int) := by have := HOK.out.2.1; unfold wrap64; omega
          have qN := neq_bool
          clear hE hq1 hq2 hq3 HQ hl0
          go_wp2
          go_quiet (fail)
          go_wp2
          go_roundg k1
          case rel => exact ⟨n, i + 1, by go_num, by go_num, by omega, by omega, by omega, HQ3, ⟨by (with_reducible repeat (first | apply Kd.R_alloc | apply Kd.R_drewN | apply Kd.R_drew)); exact HV.out⟩, ⟨by repeat (first | (with_reducible first | exact HB.out | apply below_alloc | apply pw_below_drewN | apply below_drew1) | exact HB.out)⟩⟩
          case measure => omega
        by_cases HK : 2 < kd
        ·
          have hE : nextS (n : Int) ⟨kd, lb⟩ = (n : Int) := by unfold nextS; rw [if_neg (by rintro (h | h); exact hk1 h; exact hk2 h), if_neg (by rintro (h | h); exact hk3 h; exact hk4 h)]
          rw [hE] at hq1
          rw [hE] at hq3
          have HQ3 := Aside0.mk hq3
          have hl0 : lb.size = 0 := hq2.2 HK
          have hlb : (lb.toList == ([] : List UInt8)) = true := by
            rw [beq_iff_eq, toList_data]
            exact List.length_eq_zero_iff.1 (by rw [data_length]; exact hl0)
          have hlb2 : (lb.toList == (⟨#[]⟩ : ByteArray).toList) = true := by rw [nil_list]; exact hlb
          have e1 : (kd == 1) = false := beq_eq_false_iff_ne.2 hk1
          have e2 : (kd == 2) = false := beq_eq_false_iff_ne.2 hk2
          have e3 : (kd == 3) = false := beq_eq_false_iff_ne.2 hk3
          have e4 : (kd == 4) = false := beq_eq_false_iff_ne.2 hk4
          have hm1 : decide ((n : Int) < 1) = false := decide_eq_false (by omega)
          have hm4 : decide (n < 1) = false := decide_eq_false (by omega)
          have e5 : decide (2 < kd) = true := decide_eq_true HK
          have qN := neq_bool
          clear hE hq1 hq2 hq3 HQ hl0
          go_wp2
          go_quiet (fail)
          go_wp2
          go_roundg k1
          case rel => exact ⟨n, i + 1, by go_num, by go_num, by omega, by omega, by omega, HQ3, ⟨by (with_reducible repeat (first | apply Kd.R_alloc | apply Kd.R_drewN | apply Kd.R_drew)); exact HV.out⟩, ⟨by repeat (first | (with_reducible first | exact HB.out | apply below_alloc | apply pw_below_drewN | apply below_drew1) | exact HB.out)⟩⟩
          case measure => omega
        ·
          have hE : nextS (n : Int) ⟨kd, lb⟩ = (n : Int) := by unfold nextS; rw [if_neg (by rintro (h | h); exact hk1 h; exact hk2 h), if_neg (by rintro (h | h); exact hk3 h; exact hk4 h)]
          rw [hE] at hq1
          rw [hE] at hq3
          have HQ3 := Aside0.mk hq3
          have hlb : (lb.toList == ([] : List UInt8)) = false := by
            rw [beq_eq_false_iff_ne, toList_data]
            intro h
            have : lb.size = 0 := by rw [← data_length, h]; rfl
            have := hq2.1 this
            omega
          have hlb2 : (lb.toList == (⟨#[]⟩ : ByteArray).toList) = false := by rw [nil_list]; exact hlb
          have e1 : (kd == 1) = false := beq_eq_false_iff_ne.2 hk1
          have e2 : (kd == 2) = false := beq_eq_false_iff_ne.2 hk2
          have e3 : (kd == 3) = false := beq_eq_false_iff_ne.2 hk3
          have e4 : (kd == 4) = false := beq_eq_false_iff_ne.2 hk4
          have hm1 : decide ((n : Int) < 1) = false := decide_eq_false (by omega)
          have hm4 : decide (n < 1) = false := decide_eq_false (by omega)
          have e5 : decide (2 < kd) = false := decide_eq_false HK
          have qN := neq_bool
          clear hE hq1 hq2 hq3 HQ
          go_wp2
          go_quiet (fail)
          go_wp2
          go_roundg k1
          case rel => exact ⟨n, i + 1, by go_num, by go_num, by omega, by omega, by omega, HQ3, ⟨by (with_reducible repeat (first | apply Kd.R_alloc | apply Kd.R_drewN | apply Kd.R_drew)); exact HV.out⟩, ⟨by repeat (first | (with_reducible first | exact HB.out | apply below_alloc | apply pw_below_drewN | apply below_drew1) | exact HB.out)⟩⟩
          case measure => omega
        -- END
      · obtain rfl : i = l.length := by omega
        have hz : decide ((l.length : Int) < (l.length : Int)) = false := decide_eq_false (by omega)
        have hq := HQ.out
        rw [List.drop_length] at hq
        have hn1 : (n : Int) = 1 := Option.some.inj hq
        have hb1 : ((n : Int) == 1) = true := beq_iff_eq.2 hn1
        have hl1 : decide ((l.length : Int) ≤ 100) = true := decide_eq_true (by have := HOK.out.2.1; omega)
        have hl2 : decide (l.length ≤ 100) = true := decide_eq_true HOK.out.2.1
        have hd1 : decide ((dd : Int) ≤ 32) = true := decide_eq_true (by have := HOK.out.2.2; omega)
        have hd2 : decide (dd ≤ 32) = true := decide_eq_true HOK.out.2.2
        clear hq hn1
        go_wp2_with fail
        refine (HD.out _ (HLW.out.below HB.out)).mono ?_
        rintro ex w3 ⟨rfl, hb⟩
        have HB3 := Aside0.mk (below_then HB.out HB.out.size hb)
        clear hb
        go_wp2
        go_ret
        exact ⟨by simp [*], HB3.out⟩
/-- the law's answer: true, for each text. -/
def antecedentlaw08_ParsePostfix.f (k : Nat) (a0 : ByteArray) : Option Bool := some true
theorem antecedentlaw08_ParsePostfix.calls (k : Nat) (a0 : ByteArray) (r : Bool) (w : World) (hLW : LaidW w) (h : antecedentlaw08_ParsePostfix.f k a0 = some r) :
    Calls Tryz.prog 10 #[.string a0] w fun e w' => e = .returned (.bool r) ∧ Below w.heap.size w w' := by
  obtain rfl := Option.some.inj h
  by_cases hs : 1500 < a0.size
  · exact postfix_far a0 hs w hLW
  · exact postfix_near a0 (by omega) w hLW
end Go.Proofs.YthebhbomlllpeaaGreatDoor.X
namespace Go.Proofs.YthebhbomlllpeaaGreatDoor.X
theorem pureParsePostfix (s : ByteArray) (_ : s.size ≤ maxLen) : ∃ k, antecedentlaw08_ParsePostfix.f k s = some true := ⟨0, rfl⟩
end Go.Proofs.YthebhbomlllpeaaGreatDoor.X
