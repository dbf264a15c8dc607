/-
  ParsePaths: what the proof needs, put together by a program of this session (shake.py), part 8.
-/
import Derived.Test.YthebhbomlllpeaaGreatDoorZParsePaths7
set_option linter.unusedVariables false
set_option linter.unusedSimpArgs false
namespace Go.Proofs.YthebhbomlllpeaaGreatDoor.X
open Go.RowKit Go.Proofs.YthebhbomlllpeaaGreatDoorW.PrintWords Go.Proofs.YthebhbomlllpeaaGreatDoorW.PrintLast Go.Proofs.YthebhbomlllpeaaGreatDoorW.PrintMore
theorem z40 {P : Program} {fn : Func} {t1 t2 : Array Value} {R : Ending → World → Prop} (h : results fn t1 = results fn t2) : ∀ (ds : List Deferred) (u : FrameMode) (w : World), Leaves P fn t1 R ds u w → Leaves P fn t2 R ds u w
 | [], .returning, w, hl => by
  obtain ⟨v, h1, h2⟩ := hl
  exact ⟨v, by rw [← h]; exact h1, h2⟩
 | [], .panicking chain, w, hl => hl
 | [], .run, w, hl => hl
 | d :: ds, u, w, hl => by
  obtain ⟨hne, fv, cap, f, args, ht, hi, hc⟩ := hl
  refine ⟨hne, fv, cap, f, args, ht, hi, hc.mono ?_⟩
  intro e u' w' he
  cases e with
  | returned v => exact z40 h ds _ _ he
  | panicked c => exact z40 h ds _ _ he
  | outgrown => exact he
def z3m (s : ByteArray) : List S108 × Int × Int := if 20000 < s.size then ([], 0, 4) else z7i s
def zer {α : Type} (zero : α) (ts : List S108) (en : Int) : Except (Nat × Int) α → α × Int × Int
 | .ok x => (x, 0, 0)
 | .error q => (zero, (seeP ts en (ts.length - q.1)).f2, q.2)
def z34 {α : Type} (zero : α) (p : Prs α) (s : ByteArray) : α × Int × Int :=
 if (z3m s).2.2 = 0 then zer zero (z3m s).1 s.size (allP p ((z3m s).1.map tkOf)) else (zero, (z3m s).2.1, (z3m s).2.2)
theorem zhh {s : ByteArray} (h : (z3m s).2.2 = 0) : (z3m s).1.length ≤ 20000 ∧ ∀ x ∈ (z3m s).1, x.f1.size ≤ 281474976710656 := by
 unfold z3m at h ⊢
 split at h
 · cases h
 · rename_i hs
   rw [if_neg hs]
   unfold z7i
   cases ht : tokN nmL vlL 0 s.data.toList with
   | error i => exact ⟨Nat.zero_le _, fun x hx => by cases hx⟩
   | ok l =>
    have hn := z8l nmL vlL _ s.data.toList 0 l (Nat.le_refl _) ht
    rw [z0x] at hn
    refine ⟨by show (l.map (tokS s)).length ≤ 20000; rw [List.length_map]; omega, fun x hx => ?_⟩
    obtain ⟨y, hy, rfl⟩ := List.mem_map.1 hx
    simp only [tokS]
    rw [ByteArray.size_extract, ByteArray.size_extract]
    omega
theorem lex_f (s : ByteArray) (hs : s.size ≤ 140737488351232) : z3t.f s = some ((z3m s).1, (z3m s).2.1, (z3m s).2.2) := by
 unfold z3t.f z3m
 rw [if_pos hs]
 split <;> rfl
theorem z4s (n : Nat) : ∀ (vs : List Value) (i : Nat) (W : World), (sets W n i vs).heap.size = W.heap.size
 | [], _, _ => rfl
 | v :: vs, i, W => by
  show (sets (W.setCell ⟨n, i, none⟩ v) n (i + 1) vs).heap.size = _
  rw [z4s n vs]
  simp
theorem z9f (n : Nat) : ∀ (vs : List Value) (i : Nat) (V W : World), Below 0 V W → Below 0 V (sets W n i vs)
 | [], _, _, _, h => h
 | v :: vs, i, V, W, h => z9f n vs (i + 1) V _ (h.setCell (Nat.zero_le _) v)
theorem za3 {B m : Nat} {v w : World} {cs : Array Value} {t : TypeId} (h : Below B v w) (hv : v.heap[m]? = some (.cells cs t (0, 0))) (hw : w.heap[m]? = some (.cells cs t (0, 0))) (vs : List Value) : Below B (sets v m 0 vs) (sets w m 0 vs) := by
 have z1 := z9f m vs 0 v v (Below.refl 0 v)
 have z2 := z9f m vs 0 w w (Below.refl 0 w)
 refine ⟨z2.os.trans (h.os.trans z1.os.symm), z2.tape.trans (h.tape.trans z1.tape.symm), z2.output.trans (h.output.trans z1.output.symm), by rw [z4s, z4s]; exact h.size, fun k hk => ?_⟩
 by_cases hm : k = m
 · subst hm
   rw [z36 vs 0 w cs hw, z36 vs 0 v cs hv]
 · have f : ∀ (vs : List Value) (i : Nat) (W : World), (sets W m i vs).heap[k]? = W.heap[k]? := by
    intro vs
    induction vs with
    | nil => intro i W; rfl
    | cons a r ih => intro i W; exact (ih (i + 1) _).trans (Below.heap_setCell W ⟨m, i, none⟩ a k hm)
   rw [f, f]
   exact h.block k hk
theorem zbt (l : List S108) : leftL l 0 = l.map tkOf := by unfold leftL; rw [List.drop_zero]
theorem zbx {α : Type} {p : Prs α} {l : List TK} {q : Nat × Int} (h : p l = .error q) : allP p l = .error q := by unfold allP; rw [h]
theorem zeb {α : Type} {p : Prs α} {l : List TK} {x : α} {r : List TK} (h : p l = .ok (x, r)) (hr : r ≠ []) : allP p l = .error (r.length, 2) := by
 unfold allP
 rw [h]
 cases r with
 | nil => exact absurd rfl hr
 | cons t r => rfl
theorem all_ok {α : Type} {p : Prs α} {l : List TK} {x : α} (h : p l = .ok (x, [])) : allP p l = .ok x := by unfold allP; rw [h]
theorem zgt (w : World) (o0 o1 o2 o3 : Obj) : ((((w.alloc o0).alloc o1).alloc o2).alloc o3).heap[w.heap.size]? = some o0 ∧ ((((w.alloc o0).alloc o1).alloc o2).alloc o3).heap[w.heap.size + 1]? = some o1 ∧ ((((w.alloc o0).alloc o1).alloc o2).alloc o3).heap[w.heap.size + 2]? = some o2 ∧ ((((w.alloc o0).alloc o1).alloc o2).alloc o3).heap[w.heap.size + 3]? = some o3 := by
 have h := zd5 w o0 o1 o2
 have z3 : (((w.alloc o0).alloc o1).alloc o2).heap.size = w.heap.size + 3 := by simp
 have := z1q (((w.alloc o0).alloc o1).alloc o2) o3
 rw [z3] at this
 exact ⟨z0k h.1 _, z0k h.2.1 _, z0k h.2.2 _, this⟩
def readP4.T : Bool × List (List Nat × List Nat) := (true, [([], []), ([], []), ([], []), ([0, 0], [0]), ([1, 3, 0, 1, 3], [1]), ([2, 4, 0, 1, 2, 3, 4], [2])])
def readP4.B : List Nat := [0, 0, 0, 1, 11, 31]
theorem readP4.tab : rtab .any (opsOf Tryz.f53 4) = readP4.T := by kernel_rfl
theorem readP4.bits : z59 readP4.T.2 readP4.B = true := by kernel_rfl
def readS4.T : Bool × List (List Nat × List Nat) := (true, [([], []), ([], []), ([], []), ([0, 0], [0]), ([1, 3, 0, 1, 3], [1]), ([2, 4, 0, 1, 2, 3, 4], [2])])
def readS4.B : List Nat := [0, 0, 0, 1, 11, 31]
theorem readS4.tab : rtab .any (opsOf Tryz.f65 4) = readS4.T := by kernel_rfl
theorem readS4.bits : z59 readS4.T.2 readS4.B = true := by kernel_rfl
theorem z8a {W : World} {g4 g5 g6 : Nat} {tmps : Array Value} (t0 : tmps.getD 4 undef = .pointer (some ⟨g4, 0, none⟩)) (t1 : tmps.getD 5 undef = .pointer (some ⟨g5, 0, none⟩)) (t2 : tmps.getD 6 undef = .pointer (some ⟨g6, 0, none⟩))
 {y0 y1 y2 : Value} {a b : Int} (h4 : W.heap[g4]? = some (.cells #[y0, y1, y2] 27 (0, 0))) (h5 : W.heap[g5]? = some (.cells #[.int .i64 a] 3 (0, 0))) (h6 : W.heap[g6]? = some (.cells #[.int .i64 b] 40 (0, 0))) :
 (results Tryz.f53 tmps).run Tryz.prog W = .ok (.tuple #[(.agg #[y0, y1, y2]), .int .i64 a, .int .i64 b]) W := by
 simp only [Array.getD_eq_getD_getElem?] at t0 t1 t2
 have c0 : W.cell? ⟨g4, 0, none⟩ = some y0 := (z03 h4 0).trans rfl
 have c1 : W.cell? ⟨g4, 1, none⟩ = some y1 := (z03 h4 1).trans rfl
 have c2 : W.cell? ⟨g4, 2, none⟩ = some y2 := (z03 h4 2).trans rfl
 have d5 : W.cell? ⟨g5, 0, none⟩ = some (.int .i64 a) := (z03 h5 0).trans rfl
 have d6 : W.cell? ⟨g6, 0, none⟩ = some (.int .i64 b) := (z03 h6 0).trans rfl
 simp [results, Tryz.results53, go_sem, t0, t1, t2, d5, d6, c0, c1, c2]
theorem putP (a : Act) (m : Nat) (v : Value) (h4 : m ≠ 4) (h5 : m ≠ 5) (h6 : m ≠ 6) : results Tryz.f53 (a.put (some m) v).tmps = results Tryz.f53 a.tmps := by
 simp [results, Tryz.results53, Act.put, Array.getD_eq_getD_getElem?, Array.getElem?_setIfInBounds_ne, h4, h5, h6]
set_option maxHeartbeats 4000000 in
set_option maxRecDepth 100000 in
theorem zdi (s : ByteArray) (hs : s.size ≤ 140737488351232) (w : World) (hLW : LaidW w) :
 Calls Tryz.prog 53 #[.string s, .func (.func 54) #[] #[]] w fun e w' => ∃ v, e = .returned (.tuple #[v, .int .i64 (z34 (⟨[], noneA⟩ : PgS) z3x s).2.1, .int .i64 (z34 (⟨[], noneA⟩ : PgS) z3x s).2.2]) ∧ prV w' w.heap.size v (z34 (⟨[], noneA⟩ : PgS) z3x s).1 ∧ Below w.heap.size w w' := by
 have hmf : ∀ (fn : Fn) (first cap : Array Value) (w : World), (Instr.makeFunc fn first cap).run Tryz.prog w = .ok (.func fn first cap) w := fun _ _ _ _ => rfl
 have HF := z00.mk (lex_f s hs)
 have HEN := z00.mk (fun h => zhh (s := s) h)
 obtain ⟨r, hr⟩ : ∃ r, z34 (⟨[], noneA⟩ : PgS) z3x s = r := ⟨_, rfl⟩
 rw [hr]
 unfold z34 at hr
 obtain ⟨⟨l, a, b⟩, hl⟩ : ∃ x, z3m s = x := ⟨_, rfl⟩
 rw [hl] at HF HEN hr
 have HR := z00.mk hr
 clear hr hl
 obtain ⟨n4, en4⟩ : ∃ n, w.heap.size = n := ⟨_, rfl⟩
 have hb0 := zgt w (.cells #[.slice none 0 0, .string ⟨#[]⟩, .slice none 0 0] 27) (.cells #[.int .i64 0] 3) (.cells #[.int .i64 0] 40) (.cells #[.slice none 0 0, .string ⟨#[]⟩, .slice none 0 0] 27)
 rw [en4] at hb0
 obtain ⟨n5, hn5⟩ : ∃ n, n4 + 1 = n := ⟨_, rfl⟩
 obtain ⟨n6, hn6⟩ : ∃ n, n5 + 1 = n := ⟨_, rfl⟩
 obtain ⟨n7, hn7⟩ : ∃ n, n6 + 1 = n := ⟨_, rfl⟩
 obtain ⟨W0, hW0⟩ : ∃ W, (((w.alloc (.cells #[.slice none 0 0, .string ⟨#[]⟩, .slice none 0 0] 27)).alloc (.cells #[.int .i64 0] 3)).alloc (.cells #[.int .i64 0] 40)).alloc (.cells #[.slice none 0 0, .string ⟨#[]⟩, .slice none 0 0] 27) = W := ⟨_, rfl⟩
 have hB0 : Below w.heap.size w W0 := hW0 ▸ z04 (z04 (z04 (z04 (Below.refl _ _) _) _) _) _
 rw [hW0, hn5, show n4 + 2 = n6 by omega, show n4 + 3 = n7 by omega] at hb0
 have hz0 : W0.heap.size = n4 + 4 := by rw [← hW0]; simp [en4]
 have HLX := z00.mk (z3t.calls s l a b W0 (hLW.below hB0) HF.out)
 have H0 := z00.mk (And.intro hb0 (And.intro hB0 hz0))
 have HW0 := z00.mk hW0
 have HLW := z00.mk hLW
 clear hb0 hB0 hz0 hW0 hLW hs
 go_enter_defers Tryz.func53, Tryz.ntmps53
 go_wp2_with fail
 rw [HW0.out]
 refine HLX.out.mono ?_
 rintro e w1 ⟨v0, rfl, hv, hb⟩
 obtain ⟨A, c, rfl⟩ := Kd.R_slice hv
 have hz0 := H0.out.2.2
 have B4 := z0r H0.out.1.1 hb
 have B5 := z0r H0.out.1.2.1 hb
 have B6 := z0r H0.out.1.2.2.1 hb
 have B7 := z0r H0.out.1.2.2.2 hb
 have hc5 : w1.cell? ⟨n5, 0, none⟩ = some (.int .i64 0) := (z03 B5 0).trans rfl
 have hc6 : w1.cell? ⟨n6, 0, none⟩ = some (.int .i64 0) := (z03 B6 0).trans rfl
 have hf5 := z02 B5 0
 have hf6 := z02 B6 0
 have hB1 := z1e H0.out.2.1 H0.out.2.1.size hb
 obtain ⟨W2, hW2⟩ : ∃ W, (w1.setCell ⟨n5, 0, none⟩ (.int .i64 a)).setCell ⟨n6, 0, none⟩ (.int .i64 b) = W := ⟨_, rfl⟩
 have H4 : W2.heap[n4]? = some (.cells #[.slice none 0 0, .string ⟨#[]⟩, .slice none 0 0] 27 (0, 0)) := hW2 ▸ z15 (z15 B4 (by show n4 ≠ n5; omega) _) (by show n4 ≠ n6; omega) _
 have H5 : W2.heap[n5]? = some (.cells #[.int .i64 a] 3 (0, 0)) := hW2 ▸ z15 (z0v B5 0 (.int .i64 a) rfl) (by show n5 ≠ n6; omega) _
 have H6 : W2.heap[n6]? = some (.cells #[.int .i64 b] 40 (0, 0)) := hW2 ▸ z0v (z15 B6 (by show n6 ≠ n5; omega) _) 0 (.int .i64 b) rfl
 have H7 : W2.heap[n7]? = some (.cells #[.slice none 0 0, .string ⟨#[]⟩, .slice none 0 0] 27 (0, 0)) := hW2 ▸ z15 (z15 B7 (by show n7 ≠ n5; omega) _) (by show n7 ≠ n6; omega) _
 have HB : Below w.heap.size w W2 := hW2 ▸ z07 (z07 hB1 (by omega)) (by omega)
 have hC := Kd.R_far (p := ⟨n6, 0, none⟩) (Kd.R_far (p := ⟨n5, 0, none⟩) (ok := fun k => W0.heap.size ≤ k) (Kd.R_mono (Kd.R_bound hv) (fun k hk => hk.2.1)) (fun k hk => by show k ≠ n5; omega) (.int .i64 a)) (fun k hk => by show k ≠ n6; omega) (.int .i64 b)
 rw [hW2] at hC
 have HC := z00.mk hC
 have HBW := z00.mk HB
 have HBL := z00.mk (And.intro H4 (And.intro H5 (And.intro H6 H7)))
 have hc6b : W2.cell? ⟨n6, 0, none⟩ = some (.int .i64 b) := (z03 H6 0).trans rfl
 have hn := And.intro hn5 (And.intro hn6 hn7)
 have HN := z00.mk hn
 have HW2 := z00.mk hW2
 clear H0 HLX hv hb B4 B5 B6 B7 hB1 hC HB H4 H5 H6 H7 hz0 HF hW2
 by_cases hb0 : b = 0
 · subst hb0
   replace HR := z00.mk (show zer (⟨[], noneA⟩ : PgS) l s.size (allP z3x (l.map tkOf)) = r by rw [← HR.out]; show _ = if (0 : Int) = 0 then _ else _; rw [if_pos rfl])
   replace HEN := z00.mk (HEN.out rfl)
   obtain ⟨g, eg⟩ : ∃ n, w1.heap.size = n := ⟨_, rfl⟩
   have eg2 : W2.heap.size = g := by rw [← HW2.out]; simp [eg]
   have hbg := z1q W2 (.cells #[.slice A l.length c, .int .i64 0, .int .i64 s.size] 128)
   rw [eg2] at hbg
   have h7g : n7 < g := by have := z2o HBL.out.2.2.2; omega
   have HRD : Rd W2 (W2.alloc (.cells #[.slice A l.length c, .int .i64 0, .int .i64 s.size] 128)) g l 0 s.size := ⟨A, c, hbg, by omega, TokC.of_R HC.out, Nat.zero_le _, HEN.out.1⟩
   have HP := zbg W2 (W2.alloc (.cells #[.slice A l.length c, .int .i64 0, .int .i64 s.size] 128)) g l 0 s.size ⟨HLW.out.below HBW.out, HEN.out.2⟩ HRD (z04 (Below.refl W2.heap.size W2) _)
   rw [zbt] at HP
   obtain ⟨rq, hrq⟩ : ∃ rq, z3x (l.map tkOf) = rq := ⟨_, rfl⟩
   rw [hrq] at HP
   have HP := z00.mk HP
   have HRQ := z00.mk hrq
   have H7G := z00.mk (And.intro h7g eg2)
   clear hbg HRD hrq h7g eg2
   go_wp2_with fail
   rw [HW2.out]
   refine HP.out.mono ?_
   intro e w4 hp
   obtain ⟨hn5, hn6, hn7⟩ := HN.out
   have h7g := H7G.out.1
   have eg2 := H7G.out.2
   rcases hp.split with ⟨y, p', v, rfl, rfl, hv, R, B, K⟩ | ⟨q, i, p', rfl, h1, h2, rfl, R, B, K⟩
   · have B4 := z0r HBL.out.1 B
     have B5 := z0r HBL.out.2.1 B
     have B6 := z0r HBL.out.2.2.1 B
     have B7 := z0r HBL.out.2.2.2 B
     have HB4 := z1e HBW.out HBW.out.size B
     have hw3 : (W2.alloc (.cells #[.slice A l.length c, .int .i64 0, .int .i64 s.size] 128)).heap.size = g + 1 := by simp [eg2]
     obtain ⟨u1, u2, rfl, ha, hb'⟩ := hv
     obtain ⟨A1, c1, rfl⟩ := Kd.R_slice ha
     obtain ⟨A2, c2, rfl⟩ := Kd.R_slice hb'
     rw [hw3] at ha hb'
     obtain ⟨Ag, cg, hbg, hgl, hCC, hpl, hll⟩ := id R
     have a0 : w4.cell? ⟨n4, 0, none⟩ = some (.slice none 0 0) := (z03 B4 0).trans rfl
     have a1 : w4.cell? ⟨n4, 1, none⟩ = some (.string ⟨#[]⟩) := (z03 B4 1).trans rfl
     have a2 : w4.cell? ⟨n4, 2, none⟩ = some (.slice none 0 0) := (z03 B4 2).trans rfl
     have af0 := z02 B4 0
     have af1 := z02 B4 1
     have af2 := z02 B4 2
     have C4 : (((w4.setCell ⟨n4, 0, none⟩ (.slice A1 y.f0.length c1)).setCell ⟨n4, 1, none⟩ (.string y.f1.f0)).setCell ⟨n4, 2, none⟩ (.slice A2 y.f1.f1.length c2)).heap[n4]? = some (.cells #[.slice A1 y.f0.length c1, .string y.f1.f0, .slice A2 y.f1.f1.length c2] 27 (0, 0)) := z36 [.slice A1 y.f0.length c1, .string y.f1.f0, .slice A2 y.f1.f1.length c2] 0 w4 #[.slice none 0 0, .string ⟨#[]⟩, .slice none 0 0] B4
     have C5 : (((w4.setCell ⟨n4, 0, none⟩ (.slice A1 y.f0.length c1)).setCell ⟨n4, 1, none⟩ (.string y.f1.f0)).setCell ⟨n4, 2, none⟩ (.slice A2 y.f1.f1.length c2)).heap[n5]? = some (.cells #[.int .i64 a] 3 (0, 0)) := z26 (by omega) [.slice A1 y.f0.length c1, .string y.f1.f0, .slice A2 y.f1.f1.length c2] 0 w4 B5
     have C6 : (((w4.setCell ⟨n4, 0, none⟩ (.slice A1 y.f0.length c1)).setCell ⟨n4, 1, none⟩ (.string y.f1.f0)).setCell ⟨n4, 2, none⟩ (.slice A2 y.f1.f1.length c2)).heap[n6]? = some (.cells #[.int .i64 0] 40 (0, 0)) := z26 (by omega) [.slice A1 y.f0.length c1, .string y.f1.f0, .slice A2 y.f1.f1.length c2] 0 w4 B6
     have C7 : (((w4.setCell ⟨n4, 0, none⟩ (.slice A1 y.f0.length c1)).setCell ⟨n4, 1, none⟩ (.string y.f1.f0)).setCell ⟨n4, 2, none⟩ (.slice A2 y.f1.f1.length c2)).heap[n7]? = some (.cells #[.slice none 0 0, .string ⟨#[]⟩, .slice none 0 0] 27 (0, 0)) := z26 (by omega) [.slice A1 y.f0.length c1, .string y.f1.f0, .slice A2 y.f1.f1.length c2] 0 w4 B7
     have Cg : (((w4.setCell ⟨n4, 0, none⟩ (.slice A1 y.f0.length c1)).setCell ⟨n4, 1, none⟩ (.string y.f1.f0)).setCell ⟨n4, 2, none⟩ (.slice A2 y.f1.f1.length c2)).heap[g]? = some (.cells #[.slice Ag l.length cg, .int .i64 p', .int .i64 s.size] 128 (0, 0)) := z26 (by omega) [.slice A1 y.f0.length c1, .string y.f1.f0, .slice A2 y.f1.f1.length c2] 0 w4 hbg
     have hcg : (((w4.setCell ⟨n4, 0, none⟩ (.slice A1 y.f0.length c1)).setCell ⟨n4, 1, none⟩ (.string y.f1.f0)).setCell ⟨n4, 2, none⟩ (.slice A2 y.f1.f1.length c2)).cell? ⟨g, 1, none⟩ = some (.int .i64 p') := (z03 Cg 1).trans rfl
     have HBc : Below w.heap.size w (((w4.setCell ⟨n4, 0, none⟩ (.slice A1 y.f0.length c1)).setCell ⟨n4, 1, none⟩ (.string y.f1.f0)).setCell ⟨n4, 2, none⟩ (.slice A2 y.f1.f1.length c2)) := z38 (by omega) [.slice A1 y.f0.length c1, .string y.f1.f0, .slice A2 y.f1.f1.length c2] 0 w4 HB4
     have HO0 := z00.mk (show Kd.R k33 33 (((w4.setCell ⟨n4, 0, none⟩ (.slice A1 y.f0.length c1)).setCell ⟨n4, 1, none⟩ (.string y.f1.f0)).setCell ⟨n4, 2, none⟩ (.slice A2 y.f1.f1.length c2)) (g + 1) (fun k => g + 1 ≤ k) (.slice A1 y.f0.length c1) y.f0 from z4x (fun k hk => by omega) [.slice A1 y.f0.length c1, .string y.f1.f0, .slice A2 y.f1.f1.length c2] 0 w4 ha)
     have HO1 := z00.mk (show Kd.R k60 60 (((w4.setCell ⟨n4, 0, none⟩ (.slice A1 y.f0.length c1)).setCell ⟨n4, 1, none⟩ (.string y.f1.f0)).setCell ⟨n4, 2, none⟩ (.slice A2 y.f1.f1.length c2)) (g + 1) (fun k => g + 1 ≤ k) (.slice A2 y.f1.f1.length c2) y.f1.f1 from z4x (fun k hk => by omega) [.slice A1 y.f0.length c1, .string y.f1.f0, .slice A2 y.f1.f1.length c2] 0 w4 hb')
     have hKW : z08 W2 (sets W2 n4 0 [.slice A1 y.f0.length c1, .string y.f1.f0, .slice A2 y.f1.f1.length c2]) n4 none := z08.set_ (z08.set_ (z08.set_ (z08.refl W2 n4 none) 0 (.slice A1 y.f0.length c1)) 1 (.string y.f1.f0)) 2 (.slice A2 y.f1.f1.length c2)
     have hLL : (l.length : Int) = (l.length : Int) := rfl
     by_cases hlt : p' < l.length
     · have hltz : decide ((p' : Int) < (l.length : Int)) = true := decide_eq_true (by omega)
       have hltz2 : decide (p' < l.length) = true := decide_eq_true hlt
       have hRc : Rd (sets W2 n4 0 [.slice A1 y.f0.length c1, .string y.f1.f0, .slice A2 y.f1.f1.length c2]) (((w4.setCell ⟨n4, 0, none⟩ (.slice A1 y.f0.length c1)).setCell ⟨n4, 1, none⟩ (.string y.f1.f0)).setCell ⟨n4, 2, none⟩ (.slice A2 y.f1.f1.length c2)) g l p' s.size := ⟨Ag, cg, Cg, by rw [z4s]; exact hgl, hCC.far (fun ad he => by
        obtain ⟨cells, hc⟩ := hCC.2 ad he (by intro h0; rw [h0] at hlt; simp at hlt)
        intro hm
        rw [hm, HBL.out.1] at hc
        cases hc) hKW, hpl, hll⟩
       have hBc : Below (sets W2 n4 0 [.slice A1 y.f0.length c1, .string y.f1.f0, .slice A2 y.f1.f1.length c2]).heap.size (sets W2 n4 0 [.slice A1 y.f0.length c1, .string y.f1.f0, .slice A2 y.f1.f1.length c2]) (((w4.setCell ⟨n4, 0, none⟩ (.slice A1 y.f0.length c1)).setCell ⟨n4, 1, none⟩ (.string y.f1.f0)).setCell ⟨n4, 2, none⟩ (.slice A2 y.f1.f1.length c2)) := by rw [z4s]; exact za3 B HBL.out.1 B4 [.slice A1 y.f0.length c1, .string y.f1.f0, .slice A2 y.f1.f1.length c2]
       have HFL := z00.mk (z4c (sets W2 n4 0 [.slice A1 y.f0.length c1, .string y.f1.f0, .slice A2 y.f1.f1.length c2]) (((w4.setCell ⟨n4, 0, none⟩ (.slice A1 y.f0.length c1)).setCell ⟨n4, 1, none⟩ (.string y.f1.f0)).setCell ⟨n4, 2, none⟩ (.slice A2 y.f1.f1.length c2)) g l p' s.size 2 hRc hBc)
       have hne : leftL l p' ≠ [] := fun h0 => by
        have := congrArg List.length h0
        rw [z19] at this
        simp at this
        omega
       rw [zeb HRQ.out hne, z19] at HR
       replace HR := z00.mk (show ((⟨[], noneA⟩ : PgS), (seeP l s.size (l.length - (l.length - p'))).f2, (2 : Int)) = r from HR.out)
       rw [show l.length - (l.length - p') = p' by omega] at HR
       obtain rfl := HR.out
       clear hRc hBc hKW
       go_wp2_with fail
       refine HFL.out.mono ?_
       rintro e w6 ⟨rfl, R6, B6', K6⟩
       have D4 := z0r (show (sets W2 n4 0 [.slice A1 y.f0.length c1, .string y.f1.f0, .slice A2 y.f1.f1.length c2]).heap[n4]? = some (.cells #[.slice A1 y.f0.length c1, .string y.f1.f0, .slice A2 y.f1.f1.length c2] 27 (0, 0)) from z36 [.slice A1 y.f0.length c1, .string y.f1.f0, .slice A2 y.f1.f1.length c2] 0 W2 #[.slice none 0 0, .string ⟨#[]⟩, .slice none 0 0] HBL.out.1) B6'
       have D5 := z0r (show (sets W2 n4 0 [.slice A1 y.f0.length c1, .string y.f1.f0, .slice A2 y.f1.f1.length c2]).heap[n5]? = some (.cells #[.int .i64 a] 3 (0, 0)) from z26 (by omega) [.slice A1 y.f0.length c1, .string y.f1.f0, .slice A2 y.f1.f1.length c2] 0 W2 HBL.out.2.1) B6'
       have D6 := z0r (show (sets W2 n4 0 [.slice A1 y.f0.length c1, .string y.f1.f0, .slice A2 y.f1.f1.length c2]).heap[n6]? = some (.cells #[.int .i64 0] 40 (0, 0)) from z26 (by omega) [.slice A1 y.f0.length c1, .string y.f1.f0, .slice A2 y.f1.f1.length c2] 0 W2 HBL.out.2.2.1) B6'
       have D7 := z0r (show (sets W2 n4 0 [.slice A1 y.f0.length c1, .string y.f1.f0, .slice A2 y.f1.f1.length c2]).heap[n7]? = some (.cells #[.slice none 0 0, .string ⟨#[]⟩, .slice none 0 0] 27 (0, 0)) from z26 (by omega) [.slice A1 y.f0.length c1, .string y.f1.f0, .slice A2 y.f1.f1.length c2] 0 W2 HBL.out.2.2.2) B6'
       have HB6 := z1e (z38 (show w.heap.size ≤ n4 by omega) [.slice A1 y.f0.length c1, .string y.f1.f0, .slice A2 y.f1.f1.length c2] 0 W2 HBW.out) (by rw [z4s]; exact HBW.out.size) B6'
       refine leaves_cons (f := 81) (args := #[.pointer (some ⟨n7, 0, none⟩), .pointer (some ⟨n4, 0, none⟩), .pointer (some ⟨n5, 0, none⟩), .pointer (some ⟨n6, 0, none⟩)]) (by simp) (by simp [go_sem]) ?_
       refine (zh9 n7 n4 n5 n6 (seeP l s.size p').f2 2 [] w6 (.slice A1 y.f0.length c1) (.string y.f1.f0) (.slice A2 y.f1.f1.length c2) _ _ D7 D4 D5 D6 (by omega) (by omega) (by omega) (by omega) (by omega) (by omega)).mono ?_
       rintro e u' w'' ⟨rfl, rfl, F4, F5, F6, HBB⟩
       exact ⟨_, z8a rfl rfl rfl F4 F5 F6, _, rfl, ⟨_, _, rfl, Kd.R_nil _ _ _ _ _, Kd.R_nil _ _ _ _ _⟩, by have h := HBB _ _ HB6 (by omega) (by omega) (by omega) HB6.size; first | exact h | (rw [en4] at h; exact h)⟩
     · have hltz : decide ((p' : Int) < (l.length : Int)) = false := decide_eq_false (by omega)
       have hltz2 : decide (p' < l.length) = false := decide_eq_false hlt
       have hnil : leftL l p' = [] := List.length_eq_zero_iff.1 (by rw [z19]; omega)
       rw [hnil] at HRQ
       rw [all_ok HRQ.out] at HR
       replace HR := z00.mk (show (y, (0 : Int), (0 : Int)) = r from HR.out)
       obtain rfl := HR.out
       clear hKW
       have b0 : (((w4.setCell ⟨n4, 0, none⟩ (.slice A1 y.f0.length c1)).setCell ⟨n4, 1, none⟩ (.string y.f1.f0)).setCell ⟨n4, 2, none⟩ (.slice A2 y.f1.f1.length c2)).cell? ⟨n4, 0, none⟩ = some (.slice A1 y.f0.length c1) := (z03 C4 0).trans rfl
       have b1 : (((w4.setCell ⟨n4, 0, none⟩ (.slice A1 y.f0.length c1)).setCell ⟨n4, 1, none⟩ (.string y.f1.f0)).setCell ⟨n4, 2, none⟩ (.slice A2 y.f1.f1.length c2)).cell? ⟨n4, 1, none⟩ = some (.string y.f1.f0) := (z03 C4 1).trans rfl
       have b2 : (((w4.setCell ⟨n4, 0, none⟩ (.slice A1 y.f0.length c1)).setCell ⟨n4, 1, none⟩ (.string y.f1.f0)).setCell ⟨n4, 2, none⟩ (.slice A2 y.f1.f1.length c2)).cell? ⟨n4, 2, none⟩ = some (.slice A2 y.f1.f1.length c2) := (z03 C4 2).trans rfl
       have bf0 := z02 C4 0
       have bf1 := z02 C4 1
       have bf2 := z02 C4 2
       have g5 : (((w4.setCell ⟨n4, 0, none⟩ (.slice A1 y.f0.length c1)).setCell ⟨n4, 1, none⟩ (.string y.f1.f0)).setCell ⟨n4, 2, none⟩ (.slice A2 y.f1.f1.length c2)).cell? ⟨n5, 0, none⟩ = some (.int .i64 a) := (z03 C5 0).trans rfl
       have g6 : (((w4.setCell ⟨n4, 0, none⟩ (.slice A1 y.f0.length c1)).setCell ⟨n4, 1, none⟩ (.string y.f1.f0)).setCell ⟨n4, 2, none⟩ (.slice A2 y.f1.f1.length c2)).cell? ⟨n6, 0, none⟩ = some (.int .i64 0) := (z03 C6 0).trans rfl
       have gf5 := z02 C5 0
       have gf6 := z02 C6 0
       have D4 : ((((((((w4.setCell ⟨n4, 0, none⟩ (.slice A1 y.f0.length c1)).setCell ⟨n4, 1, none⟩ (.string y.f1.f0)).setCell ⟨n4, 2, none⟩ (.slice A2 y.f1.f1.length c2)).setCell ⟨n4, 0, none⟩ (.slice A1 y.f0.length c1)).setCell ⟨n4, 1, none⟩ (.string y.f1.f0)).setCell ⟨n4, 2, none⟩ (.slice A2 y.f1.f1.length c2)).setCell ⟨n5, 0, none⟩ (.int .i64 0)).setCell ⟨n6, 0, none⟩ (.int .i64 0)).heap[n4]? = some (.cells #[.slice A1 y.f0.length c1, .string y.f1.f0, .slice A2 y.f1.f1.length c2] 27 (0, 0)) := z15 (z15 (z36 [.slice A1 y.f0.length c1, .string y.f1.f0, .slice A2 y.f1.f1.length c2] 0 (((w4.setCell ⟨n4, 0, none⟩ (.slice A1 y.f0.length c1)).setCell ⟨n4, 1, none⟩ (.string y.f1.f0)).setCell ⟨n4, 2, none⟩ (.slice A2 y.f1.f1.length c2)) #[.slice A1 y.f0.length c1, .string y.f1.f0, .slice A2 y.f1.f1.length c2] C4) (by show n4 ≠ n5; omega) _) (by show n4 ≠ n6; omega) _
       have D5 : ((((((((w4.setCell ⟨n4, 0, none⟩ (.slice A1 y.f0.length c1)).setCell ⟨n4, 1, none⟩ (.string y.f1.f0)).setCell ⟨n4, 2, none⟩ (.slice A2 y.f1.f1.length c2)).setCell ⟨n4, 0, none⟩ (.slice A1 y.f0.length c1)).setCell ⟨n4, 1, none⟩ (.string y.f1.f0)).setCell ⟨n4, 2, none⟩ (.slice A2 y.f1.f1.length c2)).setCell ⟨n5, 0, none⟩ (.int .i64 0)).setCell ⟨n6, 0, none⟩ (.int .i64 0)).heap[n5]? = some (.cells #[.int .i64 0] 3 (0, 0)) := z15 (z0v (z26 (by omega) [.slice A1 y.f0.length c1, .string y.f1.f0, .slice A2 y.f1.f1.length c2] 0 (((w4.setCell ⟨n4, 0, none⟩ (.slice A1 y.f0.length c1)).setCell ⟨n4, 1, none⟩ (.string y.f1.f0)).setCell ⟨n4, 2, none⟩ (.slice A2 y.f1.f1.length c2)) C5) 0 (.int .i64 0) rfl) (by show n5 ≠ n6; omega) _
       have D6 : ((((((((w4.setCell ⟨n4, 0, none⟩ (.slice A1 y.f0.length c1)).setCell ⟨n4, 1, none⟩ (.string y.f1.f0)).setCell ⟨n4, 2, none⟩ (.slice A2 y.f1.f1.length c2)).setCell ⟨n4, 0, none⟩ (.slice A1 y.f0.length c1)).setCell ⟨n4, 1, none⟩ (.string y.f1.f0)).setCell ⟨n4, 2, none⟩ (.slice A2 y.f1.f1.length c2)).setCell ⟨n5, 0, none⟩ (.int .i64 0)).setCell ⟨n6, 0, none⟩ (.int .i64 0)).heap[n6]? = some (.cells #[.int .i64 0] 40 (0, 0)) := z0v (z15 (z26 (by omega) [.slice A1 y.f0.length c1, .string y.f1.f0, .slice A2 y.f1.f1.length c2] 0 (((w4.setCell ⟨n4, 0, none⟩ (.slice A1 y.f0.length c1)).setCell ⟨n4, 1, none⟩ (.string y.f1.f0)).setCell ⟨n4, 2, none⟩ (.slice A2 y.f1.f1.length c2)) C6) (by show n6 ≠ n5; omega) _) 0 (.int .i64 0) rfl
       have HBD : Below w.heap.size w ((((((((w4.setCell ⟨n4, 0, none⟩ (.slice A1 y.f0.length c1)).setCell ⟨n4, 1, none⟩ (.string y.f1.f0)).setCell ⟨n4, 2, none⟩ (.slice A2 y.f1.f1.length c2)).setCell ⟨n4, 0, none⟩ (.slice A1 y.f0.length c1)).setCell ⟨n4, 1, none⟩ (.string y.f1.f0)).setCell ⟨n4, 2, none⟩ (.slice A2 y.f1.f1.length c2)).setCell ⟨n5, 0, none⟩ (.int .i64 0)).setCell ⟨n6, 0, none⟩ (.int .i64 0)) := z07 (z07 (z38 (show w.heap.size ≤ n4 by omega) [.slice A1 y.f0.length c1, .string y.f1.f0, .slice A2 y.f1.f1.length c2] 0 (((w4.setCell ⟨n4, 0, none⟩ (.slice A1 y.f0.length c1)).setCell ⟨n4, 1, none⟩ (.string y.f1.f0)).setCell ⟨n4, 2, none⟩ (.slice A2 y.f1.f1.length c2)) HBc) (by omega)) (by omega)
       have HE0 := z00.mk (show Kd.R k33 33 ((((((((w4.setCell ⟨n4, 0, none⟩ (.slice A1 y.f0.length c1)).setCell ⟨n4, 1, none⟩ (.string y.f1.f0)).setCell ⟨n4, 2, none⟩ (.slice A2 y.f1.f1.length c2)).setCell ⟨n4, 0, none⟩ (.slice A1 y.f0.length c1)).setCell ⟨n4, 1, none⟩ (.string y.f1.f0)).setCell ⟨n4, 2, none⟩ (.slice A2 y.f1.f1.length c2)).setCell ⟨n5, 0, none⟩ (.int .i64 0)).setCell ⟨n6, 0, none⟩ (.int .i64 0)) (g + 1) (fun k => g + 1 ≤ k) (.slice A1 y.f0.length c1) y.f0 from Kd.R_far (Kd.R_far (z4x (fun k hk => by omega) [.slice A1 y.f0.length c1, .string y.f1.f0, .slice A2 y.f1.f1.length c2] 0 (((w4.setCell ⟨n4, 0, none⟩ (.slice A1 y.f0.length c1)).setCell ⟨n4, 1, none⟩ (.string y.f1.f0)).setCell ⟨n4, 2, none⟩ (.slice A2 y.f1.f1.length c2)) HO0.out) (fun k hk => by show k ≠ n5; omega) _) (fun k hk => by show k ≠ n6; omega) _)
       have HE1 := z00.mk (show Kd.R k60 60 ((((((((w4.setCell ⟨n4, 0, none⟩ (.slice A1 y.f0.length c1)).setCell ⟨n4, 1, none⟩ (.string y.f1.f0)).setCell ⟨n4, 2, none⟩ (.slice A2 y.f1.f1.length c2)).setCell ⟨n4, 0, none⟩ (.slice A1 y.f0.length c1)).setCell ⟨n4, 1, none⟩ (.string y.f1.f0)).setCell ⟨n4, 2, none⟩ (.slice A2 y.f1.f1.length c2)).setCell ⟨n5, 0, none⟩ (.int .i64 0)).setCell ⟨n6, 0, none⟩ (.int .i64 0)) (g + 1) (fun k => g + 1 ≤ k) (.slice A2 y.f1.f1.length c2) y.f1.f1 from Kd.R_far (Kd.R_far (z4x (fun k hk => by omega) [.slice A1 y.f0.length c1, .string y.f1.f0, .slice A2 y.f1.f1.length c2] 0 (((w4.setCell ⟨n4, 0, none⟩ (.slice A1 y.f0.length c1)).setCell ⟨n4, 1, none⟩ (.string y.f1.f0)).setCell ⟨n4, 2, none⟩ (.slice A2 y.f1.f1.length c2)) HO1.out) (fun k hk => by show k ≠ n5; omega) _) (fun k hk => by show k ≠ n6; omega) _)
       have HD := z00.mk (And.intro D4 (And.intro D5 (And.intro D6 HBD)))
       clear D4 D5 D6 HBD C4 C5 C6 C7 HBc B4 B5 B6 B7 HB4 R B K hp Cg hbg hgl hCC hpl hll
       go_wp2
       refine leaves_cons (f := 81) (args := #[.pointer (some ⟨n7, 0, none⟩), .pointer (some ⟨n4, 0, none⟩), .pointer (some ⟨n5, 0, none⟩), .pointer (some ⟨n6, 0, none⟩)]) (by simp) (by simp [go_sem]) ?_
       refine (idleP _ _ _ _ _).mono ?_
       rintro e u' w'' ⟨rfl, rfl, rfl⟩
       exact ⟨_, z8a rfl rfl rfl (z0k HD.out.1 _) (z0k HD.out.2.1 _) (z0k HD.out.2.2.1 _), _, rfl, ⟨_, _, rfl, Kd.R_mono (Kd.R_lower (Kd.R_alloc HE0.out _) (show n4 ≤ g + 1 by omega)) (fun k hk => by omega), Kd.R_mono (Kd.R_lower (Kd.R_alloc HE1.out _) (show n4 ≤ g + 1 by omega)) (fun k hk => by omega)⟩, by have h := z04 HD.out.2.2.2 (.cells #[.int .i64 0, .int .i64 0] 125); rw [en4] at h; exact h⟩
   · have B4 := z0r HBL.out.1 B
     have B5 := z0r HBL.out.2.1 B
     have B6 := z0r HBL.out.2.2.1 B
     have B7 := z0r HBL.out.2.2.2 B
     have HB4 := z1e HBW.out HBW.out.size B
     rw [zbx HRQ.out] at HR
     replace HR := z00.mk (show ((⟨[], noneA⟩ : PgS), (seeP l s.size (l.length - q.1)).f2, q.2) = r from HR.out)
     obtain rfl := HR.out
     obtain rfl : i = l.length - q.1 := by omega
     refine leaves_cons (f := 81) (args := #[.pointer (some ⟨n7, 0, none⟩), .pointer (some ⟨n4, 0, none⟩), .pointer (some ⟨n5, 0, none⟩), .pointer (some ⟨n6, 0, none⟩)]) (by simp) (by simp [go_sem]) ?_
     refine (zh9 n7 n4 n5 n6 (seeP l s.size (l.length - q.1)).f2 q.2 [] w4 (.slice none 0 0) (.string ⟨#[]⟩) (.slice none 0 0) _ _ B7 B4 B5 B6 (by omega) (by omega) (by omega) (by omega) (by omega) (by omega)).mono ?_
     rintro e u' w'' ⟨rfl, rfl, F4, F5, F6, HBB⟩
     exact ⟨_, z8a rfl rfl rfl F4 F5 F6, _, rfl, ⟨_, _, rfl, Kd.R_nil _ _ _ _ _, Kd.R_nil _ _ _ _ _⟩, by have h := HBB _ _ HB4 (by omega) (by omega) (by omega) HB4.size; first | exact h | (rw [en4] at h; exact h)⟩
 · have hbne : (b != 0) = true := bne_iff_ne.2 hb0
   have hbeq : (b == 0) = false := beq_eq_false_iff_ne.2 hb0
   replace HR := z00.mk (show ((⟨[], noneA⟩ : PgS), a, b) = r by rw [← HR.out]; show _ = if b = 0 then _ else _; rw [if_neg hb0])
   obtain rfl := HR.out
   go_wp2_with fail
   rw [HW2.out]
   have B4 := z0y HBL.out.1
   have B5 := z0y HBL.out.2.1
   have B6 := z0y HBL.out.2.2.1
   have B7 := z0y HBL.out.2.2.2
   have HB := z05 HBW.out
   refine z7y (n := 6) (S := fun w' => w'.cell? ⟨n5, 0, none⟩ = some (.int .i64 a) ∧ w'.cell? ⟨n6, 0, none⟩ = some (.int .i64 b) ∧ w'.cell? ⟨n7, 0, none⟩ = some (.slice none 0 0) ∧ w'.cell? ⟨n7, 1, none⟩ = some (.string ⟨#[]⟩) ∧ w'.cell? ⟨n7, 2, none⟩ = some (.slice none 0 0)) (ds := [5]) #[false, false, false, false, false, false] (by kernel_rfl) rfl rfl ⟨(z03 B5 0).trans rfl, (z03 B6 0).trans rfl, (z03 B7 0).trans rfl, (z03 B7 1).trans rfl, (z03 B7 2).trans rfl⟩ (fun hHeld => ?_); refine z55 readP4.tab readP4.bits (fun HT_ HW_ => ?_)
   generalize W2.drew = W at B4 B5 B6 B7 HB hHeld ⊢
   refine take_ (i := 0) (N := some 18) (v := ?_) (a' := ?_) #[true, false, false, false, false, false] rfl rfl (z3g HT_.out HW_.out (by kernel_rfl)) (fun c a w h => z40 (putP a _ _ (by decide) (by decide) (by decide)) _ _ _ h) (Or.inl ⟨by rfl, ?_⟩) hHeld ?_ ?_
   rotate_left
   · rintro w' ⟨s0, s1, z0, z1, z2⟩
     go_simp
     with_reducible rfl
   rotate_left
   · simp only [Act.put, List.setIfInBounds_toArray, List.set_cons_zero, List.set_cons_succ, i64_w, i32_w]
     rfl
   refine take_ (i := 1) (N := some 19) (v := ?_) (a' := ?_) #[true, true, false, false, false, false] rfl rfl (z3g HT_.out HW_.out (by kernel_rfl)) (fun c a w h => z40 (putP a _ _ (by decide) (by decide) (by decide)) _ _ _ h) (Or.inl ⟨by rfl, ?_⟩) hHeld ?_ ?_
   rotate_left
   · rintro w' ⟨s0, s1, z0, z1, z2⟩
     go_simp
     with_reducible rfl
   rotate_left
   · simp only [Act.put, List.setIfInBounds_toArray, List.set_cons_zero, List.set_cons_succ, i64_w, i32_w]
     rfl
   refine take_ (i := 2) (N := some 20) (v := ?_) (a' := ?_) #[true, true, true, false, false, false] rfl rfl (z3g HT_.out HW_.out (by kernel_rfl)) (fun c a w h => z40 (putP a _ _ (by decide) (by decide) (by decide)) _ _ _ h) (Or.inl ⟨by rfl, ?_⟩) hHeld ?_ ?_
   rotate_left
   · rintro w' ⟨s0, s1, z0, z1, z2⟩
     go_simp
     with_reducible rfl
   rotate_left
   · simp only [Act.put, List.setIfInBounds_toArray, List.set_cons_zero, List.set_cons_succ, i64_w, i32_w]
     rfl
   refine one_ (i := 3) (N := none) #[true, true, true, true, false, false] rfl rfl (z3f HT_.out (by kernel_rfl)) (by decide) (fun K hK => ?_)
   have a0 : W.cell? ⟨n4, 0, none⟩ = some (.slice none 0 0) := (z03 B4 0).trans rfl
   have a1 : W.cell? ⟨n4, 1, none⟩ = some (.string ⟨#[]⟩) := (z03 B4 1).trans rfl
   have a2 : W.cell? ⟨n4, 2, none⟩ = some (.slice none 0 0) := (z03 B4 2).trans rfl
   have af0 := z02 B4 0
   have af1 := z02 B4 1
   have af2 := z02 B4 2
   refine skip_ (w1 := ?_) (by rfl) rfl ?_ ?_
   rotate_left
   · go_simp
     rfl
   have C4 : (((W.setCell ⟨n4, 0, none⟩ (.slice none 0 0)).setCell ⟨n4, 1, none⟩ (.string ⟨#[]⟩)).setCell ⟨n4, 2, none⟩ (.slice none 0 0)).heap[n4]? = some (.cells #[.slice none 0 0, .string ⟨#[]⟩, .slice none 0 0] 27 (0, 0)) := z36 [.slice none 0 0, .string ⟨#[]⟩, .slice none 0 0] 0 W #[.slice none 0 0, .string ⟨#[]⟩, .slice none 0 0] B4
   have C5 : (((W.setCell ⟨n4, 0, none⟩ (.slice none 0 0)).setCell ⟨n4, 1, none⟩ (.string ⟨#[]⟩)).setCell ⟨n4, 2, none⟩ (.slice none 0 0)).heap[n5]? = some (.cells #[.int .i64 a] 3 (0, 0)) := z26 (by omega) [.slice none 0 0, .string ⟨#[]⟩, .slice none 0 0] 0 W B5
   have C6 : (((W.setCell ⟨n4, 0, none⟩ (.slice none 0 0)).setCell ⟨n4, 1, none⟩ (.string ⟨#[]⟩)).setCell ⟨n4, 2, none⟩ (.slice none 0 0)).heap[n6]? = some (.cells #[.int .i64 b] 40 (0, 0)) := z26 (by omega) [.slice none 0 0, .string ⟨#[]⟩, .slice none 0 0] 0 W B6
   have C7 : (((W.setCell ⟨n4, 0, none⟩ (.slice none 0 0)).setCell ⟨n4, 1, none⟩ (.string ⟨#[]⟩)).setCell ⟨n4, 2, none⟩ (.slice none 0 0)).heap[n7]? = some (.cells #[.slice none 0 0, .string ⟨#[]⟩, .slice none 0 0] 27 (0, 0)) := z26 (by omega) [.slice none 0 0, .string ⟨#[]⟩, .slice none 0 0] 0 W B7
   refine hK.out _ _ ⟨(z03 C5 0).trans rfl, (z03 C6 0).trans rfl, (z03 C7 0).trans rfl, (z03 C7 1).trans rfl, (z03 C7 2).trans rfl⟩ (fun hHeld => ?_)
   clear hK K
   refine one_ (i := 4) (N := none) #[true, true, true, true, true, false] rfl rfl (z3f HT_.out (by kernel_rfl)) (by decide) (fun K hK => ?_)
   have b0 : (((W.setCell ⟨n4, 0, none⟩ (.slice none 0 0)).setCell ⟨n4, 1, none⟩ (.string ⟨#[]⟩)).setCell ⟨n4, 2, none⟩ (.slice none 0 0)).cell? ⟨n5, 0, none⟩ = some (.int .i64 a) := (z03 C5 0).trans rfl
   have bf0 := z02 C5 0
   refine skip_ (w1 := ?_) (by rfl) rfl ?_ ?_
   rotate_left
   · go_simp
     rfl
   have E4 : ((((W.setCell ⟨n4, 0, none⟩ (.slice none 0 0)).setCell ⟨n4, 1, none⟩ (.string ⟨#[]⟩)).setCell ⟨n4, 2, none⟩ (.slice none 0 0)).setCell ⟨n5, 0, none⟩ (.int .i64 a)).heap[n4]? = some (.cells #[.slice none 0 0, .string ⟨#[]⟩, .slice none 0 0] 27 (0, 0)) := z15 C4 (by show n4 ≠ n5; omega) _
   have E5 : ((((W.setCell ⟨n4, 0, none⟩ (.slice none 0 0)).setCell ⟨n4, 1, none⟩ (.string ⟨#[]⟩)).setCell ⟨n4, 2, none⟩ (.slice none 0 0)).setCell ⟨n5, 0, none⟩ (.int .i64 a)).heap[n5]? = some (.cells #[.int .i64 a] 3 (0, 0)) := z0v C5 0 (.int .i64 a) rfl
   have E6 : ((((W.setCell ⟨n4, 0, none⟩ (.slice none 0 0)).setCell ⟨n4, 1, none⟩ (.string ⟨#[]⟩)).setCell ⟨n4, 2, none⟩ (.slice none 0 0)).setCell ⟨n5, 0, none⟩ (.int .i64 a)).heap[n6]? = some (.cells #[.int .i64 b] 40 (0, 0)) := z15 C6 (by show n6 ≠ n5; omega) _
   have E7 : ((((W.setCell ⟨n4, 0, none⟩ (.slice none 0 0)).setCell ⟨n4, 1, none⟩ (.string ⟨#[]⟩)).setCell ⟨n4, 2, none⟩ (.slice none 0 0)).setCell ⟨n5, 0, none⟩ (.int .i64 a)).heap[n7]? = some (.cells #[.slice none 0 0, .string ⟨#[]⟩, .slice none 0 0] 27 (0, 0)) := z15 C7 (by show n7 ≠ n5; omega) _
   refine hK.out _ _ ⟨(z03 E5 0).trans rfl, (z03 E6 0).trans rfl, (z03 E7 0).trans rfl, (z03 E7 1).trans rfl, (z03 E7 2).trans rfl⟩ (fun hHeld => ?_)
   clear hK K
   refine last_ (i := 5) (N := none) #[true, true, true, true, true, true] rfl rfl (z3f HT_.out (by kernel_rfl)) (by decide) (fun K hK => ?_)
   have c0 : ((((W.setCell ⟨n4, 0, none⟩ (.slice none 0 0)).setCell ⟨n4, 1, none⟩ (.string ⟨#[]⟩)).setCell ⟨n4, 2, none⟩ (.slice none 0 0)).setCell ⟨n5, 0, none⟩ (.int .i64 a)).cell? ⟨n6, 0, none⟩ = some (.int .i64 b) := (z03 E6 0).trans rfl
   have cf0 := z02 E6 0
   refine skip_ (w1 := ?_) (by rfl) rfl ?_ ?_
   rotate_left
   · go_simp
     rfl
   refine hK.out _ _ ?_
   clear hK K
   refine done_ (z6m HT_.out (by kernel_rfl)) ?_
   have F4 : (((((W.setCell ⟨n4, 0, none⟩ (.slice none 0 0)).setCell ⟨n4, 1, none⟩ (.string ⟨#[]⟩)).setCell ⟨n4, 2, none⟩ (.slice none 0 0)).setCell ⟨n5, 0, none⟩ (.int .i64 a)).setCell ⟨n6, 0, none⟩ (.int .i64 b)).heap[n4]? = some (.cells #[.slice none 0 0, .string ⟨#[]⟩, .slice none 0 0] 27 (0, 0)) := z15 E4 (by show n4 ≠ n6; omega) _
   have F5 : (((((W.setCell ⟨n4, 0, none⟩ (.slice none 0 0)).setCell ⟨n4, 1, none⟩ (.string ⟨#[]⟩)).setCell ⟨n4, 2, none⟩ (.slice none 0 0)).setCell ⟨n5, 0, none⟩ (.int .i64 a)).setCell ⟨n6, 0, none⟩ (.int .i64 b)).heap[n5]? = some (.cells #[.int .i64 a] 3 (0, 0)) := z15 E5 (by show n5 ≠ n6; omega) _
   have F6 : (((((W.setCell ⟨n4, 0, none⟩ (.slice none 0 0)).setCell ⟨n4, 1, none⟩ (.string ⟨#[]⟩)).setCell ⟨n4, 2, none⟩ (.slice none 0 0)).setCell ⟨n5, 0, none⟩ (.int .i64 a)).setCell ⟨n6, 0, none⟩ (.int .i64 b)).heap[n6]? = some (.cells #[.int .i64 b] 40 (0, 0)) := z0v E6 0 (.int .i64 b) rfl
   have HB3 : Below w.heap.size w (((((W.setCell ⟨n4, 0, none⟩ (.slice none 0 0)).setCell ⟨n4, 1, none⟩ (.string ⟨#[]⟩)).setCell ⟨n4, 2, none⟩ (.slice none 0 0)).setCell ⟨n5, 0, none⟩ (.int .i64 a)).setCell ⟨n6, 0, none⟩ (.int .i64 b)) := (((((HB).setCell (show w.heap.size ≤ n4 by omega) _).setCell (show w.heap.size ≤ n4 by omega) _).setCell (show w.heap.size ≤ n4 by omega) _).setCell (show w.heap.size ≤ n5 by omega) _).setCell (show w.heap.size ≤ n6 by omega) _
   go_wp2
   exact ⟨_, z8a rfl rfl rfl F4 F5 F6, _, rfl, ⟨_, _, rfl, Kd.R_nil _ _ _ _ _, Kd.R_nil _ _ _ _ _⟩, by have h := HB3; rw [en4] at h; exact h⟩
theorem z8f {W : World} {g4 g5 g6 : Nat} {tmps : Array Value} (t0 : tmps.getD 4 undef = .pointer (some ⟨g4, 0, none⟩)) (t1 : tmps.getD 5 undef = .pointer (some ⟨g5, 0, none⟩)) (t2 : tmps.getD 6 undef = .pointer (some ⟨g6, 0, none⟩))
 {y0 : Value} {a b : Int} (h4 : W.heap[g4]? = some (.cells #[y0] 37 (0, 0))) (h5 : W.heap[g5]? = some (.cells #[.int .i64 a] 3 (0, 0))) (h6 : W.heap[g6]? = some (.cells #[.int .i64 b] 40 (0, 0))) :
 (results Tryz.f65 tmps).run Tryz.prog W = .ok (.tuple #[(y0), .int .i64 a, .int .i64 b]) W := by
 simp only [Array.getD_eq_getD_getElem?] at t0 t1 t2
 have c0 : W.cell? ⟨g4, 0, none⟩ = some y0 := (z03 h4 0).trans rfl
 have d5 : W.cell? ⟨g5, 0, none⟩ = some (.int .i64 a) := (z03 h5 0).trans rfl
 have d6 : W.cell? ⟨g6, 0, none⟩ = some (.int .i64 b) := (z03 h6 0).trans rfl
 simp [results, Tryz.results65, go_sem, t0, t1, t2, d5, d6, c0]
theorem putS (a : Act) (m : Nat) (v : Value) (h4 : m ≠ 4) (h5 : m ≠ 5) (h6 : m ≠ 6) : results Tryz.f65 (a.put (some m) v).tmps = results Tryz.f65 a.tmps := by
 simp [results, Tryz.results65, Act.put, Array.getD_eq_getD_getElem?, Array.getElem?_setIfInBounds_ne, h4, h5, h6]
set_option maxHeartbeats 4000000 in
set_option maxRecDepth 100000 in
theorem zd8 (s : ByteArray) (hs : s.size ≤ 140737488351232) (w : World) (hLW : LaidW w) :
 Calls Tryz.prog 65 #[.string s, .func (.func 66) #[] #[]] w fun e w' => ∃ v, e = .returned (.tuple #[v, .int .i64 (z34 ([] : List StS) z4j s).2.1, .int .i64 (z34 ([] : List StS) z4j s).2.2]) ∧ stV w' w.heap.size v (z34 ([] : List StS) z4j s).1 ∧ Below w.heap.size w w' := by
 have hmf : ∀ (fn : Fn) (first cap : Array Value) (w : World), (Instr.makeFunc fn first cap).run Tryz.prog w = .ok (.func fn first cap) w := fun _ _ _ _ => rfl
 have HF := z00.mk (lex_f s hs)
 have HEN := z00.mk (fun h => zhh (s := s) h)
 obtain ⟨r, hr⟩ : ∃ r, z34 ([] : List StS) z4j s = r := ⟨_, rfl⟩
 rw [hr]
 unfold z34 at hr
 obtain ⟨⟨l, a, b⟩, hl⟩ : ∃ x, z3m s = x := ⟨_, rfl⟩
 rw [hl] at HF HEN hr
 have HR := z00.mk hr
 clear hr hl
 obtain ⟨n4, en4⟩ : ∃ n, w.heap.size = n := ⟨_, rfl⟩
 have hb0 := zgt w (.cells #[.slice none 0 0] 37) (.cells #[.int .i64 0] 3) (.cells #[.int .i64 0] 40) (.cells #[.slice none 0 0] 37)
 rw [en4] at hb0
 obtain ⟨n5, hn5⟩ : ∃ n, n4 + 1 = n := ⟨_, rfl⟩
 obtain ⟨n6, hn6⟩ : ∃ n, n5 + 1 = n := ⟨_, rfl⟩
 obtain ⟨n7, hn7⟩ : ∃ n, n6 + 1 = n := ⟨_, rfl⟩
 obtain ⟨W0, hW0⟩ : ∃ W, (((w.alloc (.cells #[.slice none 0 0] 37)).alloc (.cells #[.int .i64 0] 3)).alloc (.cells #[.int .i64 0] 40)).alloc (.cells #[.slice none 0 0] 37) = W := ⟨_, rfl⟩
 have hB0 : Below w.heap.size w W0 := hW0 ▸ z04 (z04 (z04 (z04 (Below.refl _ _) _) _) _) _
 rw [hW0, hn5, show n4 + 2 = n6 by omega, show n4 + 3 = n7 by omega] at hb0
 have hz0 : W0.heap.size = n4 + 4 := by rw [← hW0]; simp [en4]
 have HLX := z00.mk (z3t.calls s l a b W0 (hLW.below hB0) HF.out)
 have H0 := z00.mk (And.intro hb0 (And.intro hB0 hz0))
 have HW0 := z00.mk hW0
 have HLW := z00.mk hLW
 clear hb0 hB0 hz0 hW0 hLW hs
 go_enter_defers Tryz.func65, Tryz.ntmps65
 go_wp2_with fail
 rw [HW0.out]
 refine HLX.out.mono ?_
 rintro e w1 ⟨v0, rfl, hv, hb⟩
 obtain ⟨A, c, rfl⟩ := Kd.R_slice hv
 have hz0 := H0.out.2.2
 have B4 := z0r H0.out.1.1 hb
 have B5 := z0r H0.out.1.2.1 hb
 have B6 := z0r H0.out.1.2.2.1 hb
 have B7 := z0r H0.out.1.2.2.2 hb
 have hc5 : w1.cell? ⟨n5, 0, none⟩ = some (.int .i64 0) := (z03 B5 0).trans rfl
 have hc6 : w1.cell? ⟨n6, 0, none⟩ = some (.int .i64 0) := (z03 B6 0).trans rfl
 have hf5 := z02 B5 0
 have hf6 := z02 B6 0
 have hB1 := z1e H0.out.2.1 H0.out.2.1.size hb
 obtain ⟨W2, hW2⟩ : ∃ W, (w1.setCell ⟨n5, 0, none⟩ (.int .i64 a)).setCell ⟨n6, 0, none⟩ (.int .i64 b) = W := ⟨_, rfl⟩
 have H4 : W2.heap[n4]? = some (.cells #[.slice none 0 0] 37 (0, 0)) := hW2 ▸ z15 (z15 B4 (by show n4 ≠ n5; omega) _) (by show n4 ≠ n6; omega) _
 have H5 : W2.heap[n5]? = some (.cells #[.int .i64 a] 3 (0, 0)) := hW2 ▸ z15 (z0v B5 0 (.int .i64 a) rfl) (by show n5 ≠ n6; omega) _
 have H6 : W2.heap[n6]? = some (.cells #[.int .i64 b] 40 (0, 0)) := hW2 ▸ z0v (z15 B6 (by show n6 ≠ n5; omega) _) 0 (.int .i64 b) rfl
 have H7 : W2.heap[n7]? = some (.cells #[.slice none 0 0] 37 (0, 0)) := hW2 ▸ z15 (z15 B7 (by show n7 ≠ n5; omega) _) (by show n7 ≠ n6; omega) _
 have HB : Below w.heap.size w W2 := hW2 ▸ z07 (z07 hB1 (by omega)) (by omega)
 have hC := Kd.R_far (p := ⟨n6, 0, none⟩) (Kd.R_far (p := ⟨n5, 0, none⟩) (ok := fun k => W0.heap.size ≤ k) (Kd.R_mono (Kd.R_bound hv) (fun k hk => hk.2.1)) (fun k hk => by show k ≠ n5; omega) (.int .i64 a)) (fun k hk => by show k ≠ n6; omega) (.int .i64 b)
 rw [hW2] at hC
 have HC := z00.mk hC
 have HBW := z00.mk HB
 have HBL := z00.mk (And.intro H4 (And.intro H5 (And.intro H6 H7)))
 have hc6b : W2.cell? ⟨n6, 0, none⟩ = some (.int .i64 b) := (z03 H6 0).trans rfl
 have hn := And.intro hn5 (And.intro hn6 hn7)
 have HN := z00.mk hn
 have HW2 := z00.mk hW2
 clear H0 HLX hv hb B4 B5 B6 B7 hB1 hC HB H4 H5 H6 H7 hz0 HF hW2
 by_cases hb0 : b = 0
 · subst hb0
   replace HR := z00.mk (show zer ([] : List StS) l s.size (allP z4j (l.map tkOf)) = r by rw [← HR.out]; show _ = if (0 : Int) = 0 then _ else _; rw [if_pos rfl])
   replace HEN := z00.mk (HEN.out rfl)
   obtain ⟨g, eg⟩ : ∃ n, w1.heap.size = n := ⟨_, rfl⟩
   have eg2 : W2.heap.size = g := by rw [← HW2.out]; simp [eg]
   have hbg := z1q W2 (.cells #[.slice A l.length c, .int .i64 0, .int .i64 s.size] 128)
   rw [eg2] at hbg
   have h7g : n7 < g := by have := z2o HBL.out.2.2.2; omega
   have HRD : Rd W2 (W2.alloc (.cells #[.slice A l.length c, .int .i64 0, .int .i64 s.size] 128)) g l 0 s.size := ⟨A, c, hbg, by omega, TokC.of_R HC.out, Nat.zero_le _, HEN.out.1⟩
   have HP := z90 W2 (W2.alloc (.cells #[.slice A l.length c, .int .i64 0, .int .i64 s.size] 128)) g l 0 s.size HRD (z04 (Below.refl W2.heap.size W2) _)
   rw [zbt] at HP
   obtain ⟨rq, hrq⟩ : ∃ rq, z4j (l.map tkOf) = rq := ⟨_, rfl⟩
   rw [hrq] at HP
   have HP := z00.mk HP
   have HRQ := z00.mk hrq
   have H7G := z00.mk (And.intro h7g eg2)
   clear hbg HRD hrq h7g eg2
   go_wp2_with fail
   rw [HW2.out]
   refine HP.out.mono ?_
   intro e w4 hp
   obtain ⟨hn5, hn6, hn7⟩ := HN.out
   have h7g := H7G.out.1
   have eg2 := H7G.out.2
   rcases hp.split with ⟨y, p', v, rfl, rfl, hv, R, B, K⟩ | ⟨q, i, p', rfl, h1, h2, rfl, R, B, K⟩
   · have B4 := z0r HBL.out.1 B
     have B5 := z0r HBL.out.2.1 B
     have B6 := z0r HBL.out.2.2.1 B
     have B7 := z0r HBL.out.2.2.2 B
     have HB4 := z1e HBW.out HBW.out.size B
     have hw3 : (W2.alloc (.cells #[.slice A l.length c, .int .i64 0, .int .i64 s.size] 128)).heap.size = g + 1 := by simp [eg2]
     obtain ⟨A1, c1, rfl⟩ := Kd.R_slice hv
     have ha : Kd.R k69 69 w4 _ _ (.slice A1 y.length c1) y := hv
     rw [hw3] at ha
     obtain ⟨Ag, cg, hbg, hgl, hCC, hpl, hll⟩ := id R
     have a0 : w4.cell? ⟨n4, 0, none⟩ = some (.slice none 0 0) := (z03 B4 0).trans rfl
     have af0 := z02 B4 0
     have C4 : (w4.setCell ⟨n4, 0, none⟩ (.slice A1 y.length c1)).heap[n4]? = some (.cells #[.slice A1 y.length c1] 37 (0, 0)) := z36 [.slice A1 y.length c1] 0 w4 #[.slice none 0 0] B4
     have C5 : (w4.setCell ⟨n4, 0, none⟩ (.slice A1 y.length c1)).heap[n5]? = some (.cells #[.int .i64 a] 3 (0, 0)) := z26 (by omega) [.slice A1 y.length c1] 0 w4 B5
     have C6 : (w4.setCell ⟨n4, 0, none⟩ (.slice A1 y.length c1)).heap[n6]? = some (.cells #[.int .i64 0] 40 (0, 0)) := z26 (by omega) [.slice A1 y.length c1] 0 w4 B6
     have C7 : (w4.setCell ⟨n4, 0, none⟩ (.slice A1 y.length c1)).heap[n7]? = some (.cells #[.slice none 0 0] 37 (0, 0)) := z26 (by omega) [.slice A1 y.length c1] 0 w4 B7
     have Cg : (w4.setCell ⟨n4, 0, none⟩ (.slice A1 y.length c1)).heap[g]? = some (.cells #[.slice Ag l.length cg, .int .i64 p', .int .i64 s.size] 128 (0, 0)) := z26 (by omega) [.slice A1 y.length c1] 0 w4 hbg
     have hcg : (w4.setCell ⟨n4, 0, none⟩ (.slice A1 y.length c1)).cell? ⟨g, 1, none⟩ = some (.int .i64 p') := (z03 Cg 1).trans rfl
     have HBc : Below w.heap.size w (w4.setCell ⟨n4, 0, none⟩ (.slice A1 y.length c1)) := z38 (by omega) [.slice A1 y.length c1] 0 w4 HB4
     have HO0 := z00.mk (show Kd.R k69 69 (w4.setCell ⟨n4, 0, none⟩ (.slice A1 y.length c1)) (g + 1) (fun k => g + 1 ≤ k) (.slice A1 y.length c1) y from z4x (fun k hk => by omega) [.slice A1 y.length c1] 0 w4 ha)
     have hKW : z08 W2 (sets W2 n4 0 [.slice A1 y.length c1]) n4 none := z08.set_ (z08.refl W2 n4 none) 0 (.slice A1 y.length c1)
     have hLL : (l.length : Int) = (l.length : Int) := rfl
     by_cases hlt : p' < l.length
     · have hltz : decide ((p' : Int) < (l.length : Int)) = true := decide_eq_true (by omega)
       have hltz2 : decide (p' < l.length) = true := decide_eq_true hlt
       have hRc : Rd (sets W2 n4 0 [.slice A1 y.length c1]) (w4.setCell ⟨n4, 0, none⟩ (.slice A1 y.length c1)) g l p' s.size := ⟨Ag, cg, Cg, by rw [z4s]; exact hgl, hCC.far (fun ad he => by
        obtain ⟨cells, hc⟩ := hCC.2 ad he (by intro h0; rw [h0] at hlt; simp at hlt)
        intro hm
        rw [hm, HBL.out.1] at hc
        cases hc) hKW, hpl, hll⟩
       have hBc : Below (sets W2 n4 0 [.slice A1 y.length c1]).heap.size (sets W2 n4 0 [.slice A1 y.length c1]) (w4.setCell ⟨n4, 0, none⟩ (.slice A1 y.length c1)) := by rw [z4s]; exact za3 B HBL.out.1 B4 [.slice A1 y.length c1]
       have HFL := z00.mk (z4c (sets W2 n4 0 [.slice A1 y.length c1]) (w4.setCell ⟨n4, 0, none⟩ (.slice A1 y.length c1)) g l p' s.size 2 hRc hBc)
       have hne : leftL l p' ≠ [] := fun h0 => by
        have := congrArg List.length h0
        rw [z19] at this
        simp at this
        omega
       rw [zeb HRQ.out hne, z19] at HR
       replace HR := z00.mk (show (([] : List StS), (seeP l s.size (l.length - (l.length - p'))).f2, (2 : Int)) = r from HR.out)
       rw [show l.length - (l.length - p') = p' by omega] at HR
       obtain rfl := HR.out
       clear hRc hBc hKW
       go_wp2_with fail
       refine HFL.out.mono ?_
       rintro e w6 ⟨rfl, R6, B6', K6⟩
       have D4 := z0r (show (sets W2 n4 0 [.slice A1 y.length c1]).heap[n4]? = some (.cells #[.slice A1 y.length c1] 37 (0, 0)) from z36 [.slice A1 y.length c1] 0 W2 #[.slice none 0 0] HBL.out.1) B6'
       have D5 := z0r (show (sets W2 n4 0 [.slice A1 y.length c1]).heap[n5]? = some (.cells #[.int .i64 a] 3 (0, 0)) from z26 (by omega) [.slice A1 y.length c1] 0 W2 HBL.out.2.1) B6'
       have D6 := z0r (show (sets W2 n4 0 [.slice A1 y.length c1]).heap[n6]? = some (.cells #[.int .i64 0] 40 (0, 0)) from z26 (by omega) [.slice A1 y.length c1] 0 W2 HBL.out.2.2.1) B6'
       have D7 := z0r (show (sets W2 n4 0 [.slice A1 y.length c1]).heap[n7]? = some (.cells #[.slice none 0 0] 37 (0, 0)) from z26 (by omega) [.slice A1 y.length c1] 0 W2 HBL.out.2.2.2) B6'
       have HB6 := z1e (z38 (show w.heap.size ≤ n4 by omega) [.slice A1 y.length c1] 0 W2 HBW.out) (by rw [z4s]; exact HBW.out.size) B6'
       refine leaves_cons (f := 103) (args := #[.pointer (some ⟨n7, 0, none⟩), .pointer (some ⟨n4, 0, none⟩), .pointer (some ⟨n5, 0, none⟩), .pointer (some ⟨n6, 0, none⟩)]) (by simp) (by simp [go_sem]) ?_
       refine (zg2 n7 n4 n5 n6 (seeP l s.size p').f2 2 [] w6 (.slice A1 y.length c1) _ _ D7 D4 D5 D6 (by omega) (by omega) (by omega) (by omega) (by omega) (by omega)).mono ?_
       rintro e u' w'' ⟨rfl, rfl, F4, F5, F6, HBB⟩
       exact ⟨_, z8f rfl rfl rfl F4 F5 F6, _, rfl, Kd.R_nil _ _ _ _ _, by have h := HBB _ _ HB6 (by omega) (by omega) (by omega) HB6.size; first | exact h | (rw [en4] at h; exact h)⟩
     · have hltz : decide ((p' : Int) < (l.length : Int)) = false := decide_eq_false (by omega)
       have hltz2 : decide (p' < l.length) = false := decide_eq_false hlt
       have hnil : leftL l p' = [] := List.length_eq_zero_iff.1 (by rw [z19]; omega)
       rw [hnil] at HRQ
       rw [all_ok HRQ.out] at HR
       replace HR := z00.mk (show (y, (0 : Int), (0 : Int)) = r from HR.out)
       obtain rfl := HR.out
       clear hKW
       have b0 : (w4.setCell ⟨n4, 0, none⟩ (.slice A1 y.length c1)).cell? ⟨n4, 0, none⟩ = some (.slice A1 y.length c1) := (z03 C4 0).trans rfl
       have bf0 := z02 C4 0
       have g5 : (w4.setCell ⟨n4, 0, none⟩ (.slice A1 y.length c1)).cell? ⟨n5, 0, none⟩ = some (.int .i64 a) := (z03 C5 0).trans rfl
       have g6 : (w4.setCell ⟨n4, 0, none⟩ (.slice A1 y.length c1)).cell? ⟨n6, 0, none⟩ = some (.int .i64 0) := (z03 C6 0).trans rfl
       have gf5 := z02 C5 0
       have gf6 := z02 C6 0
       have D4 : ((((w4.setCell ⟨n4, 0, none⟩ (.slice A1 y.length c1)).setCell ⟨n4, 0, none⟩ (.slice A1 y.length c1)).setCell ⟨n5, 0, none⟩ (.int .i64 0)).setCell ⟨n6, 0, none⟩ (.int .i64 0)).heap[n4]? = some (.cells #[.slice A1 y.length c1] 37 (0, 0)) := z15 (z15 (z36 [.slice A1 y.length c1] 0 (w4.setCell ⟨n4, 0, none⟩ (.slice A1 y.length c1)) #[.slice A1 y.length c1] C4) (by show n4 ≠ n5; omega) _) (by show n4 ≠ n6; omega) _
       have D5 : ((((w4.setCell ⟨n4, 0, none⟩ (.slice A1 y.length c1)).setCell ⟨n4, 0, none⟩ (.slice A1 y.length c1)).setCell ⟨n5, 0, none⟩ (.int .i64 0)).setCell ⟨n6, 0, none⟩ (.int .i64 0)).heap[n5]? = some (.cells #[.int .i64 0] 3 (0, 0)) := z15 (z0v (z26 (by omega) [.slice A1 y.length c1] 0 (w4.setCell ⟨n4, 0, none⟩ (.slice A1 y.length c1)) C5) 0 (.int .i64 0) rfl) (by show n5 ≠ n6; omega) _
       have D6 : ((((w4.setCell ⟨n4, 0, none⟩ (.slice A1 y.length c1)).setCell ⟨n4, 0, none⟩ (.slice A1 y.length c1)).setCell ⟨n5, 0, none⟩ (.int .i64 0)).setCell ⟨n6, 0, none⟩ (.int .i64 0)).heap[n6]? = some (.cells #[.int .i64 0] 40 (0, 0)) := z0v (z15 (z26 (by omega) [.slice A1 y.length c1] 0 (w4.setCell ⟨n4, 0, none⟩ (.slice A1 y.length c1)) C6) (by show n6 ≠ n5; omega) _) 0 (.int .i64 0) rfl
       have HBD : Below w.heap.size w ((((w4.setCell ⟨n4, 0, none⟩ (.slice A1 y.length c1)).setCell ⟨n4, 0, none⟩ (.slice A1 y.length c1)).setCell ⟨n5, 0, none⟩ (.int .i64 0)).setCell ⟨n6, 0, none⟩ (.int .i64 0)) := z07 (z07 (z38 (show w.heap.size ≤ n4 by omega) [.slice A1 y.length c1] 0 (w4.setCell ⟨n4, 0, none⟩ (.slice A1 y.length c1)) HBc) (by omega)) (by omega)
       have HE0 := z00.mk (show Kd.R k69 69 ((((w4.setCell ⟨n4, 0, none⟩ (.slice A1 y.length c1)).setCell ⟨n4, 0, none⟩ (.slice A1 y.length c1)).setCell ⟨n5, 0, none⟩ (.int .i64 0)).setCell ⟨n6, 0, none⟩ (.int .i64 0)) (g + 1) (fun k => g + 1 ≤ k) (.slice A1 y.length c1) y from Kd.R_far (Kd.R_far (z4x (fun k hk => by omega) [.slice A1 y.length c1] 0 (w4.setCell ⟨n4, 0, none⟩ (.slice A1 y.length c1)) HO0.out) (fun k hk => by show k ≠ n5; omega) _) (fun k hk => by show k ≠ n6; omega) _)
       have HD := z00.mk (And.intro D4 (And.intro D5 (And.intro D6 HBD)))
       clear D4 D5 D6 HBD C4 C5 C6 C7 HBc B4 B5 B6 B7 HB4 R B K hp Cg hbg hgl hCC hpl hll
       go_wp2
       refine leaves_cons (f := 103) (args := #[.pointer (some ⟨n7, 0, none⟩), .pointer (some ⟨n4, 0, none⟩), .pointer (some ⟨n5, 0, none⟩), .pointer (some ⟨n6, 0, none⟩)]) (by simp) (by simp [go_sem]) ?_
       refine (idleS _ _ _ _ _).mono ?_
       rintro e u' w'' ⟨rfl, rfl, rfl⟩
       exact ⟨_, z8f rfl rfl rfl (z0k HD.out.1 _) (z0k HD.out.2.1 _) (z0k HD.out.2.2.1 _), _, rfl, Kd.R_mono (Kd.R_lower (Kd.R_alloc HE0.out _) (show n4 ≤ g + 1 by omega)) (fun k hk => by omega), by have h := z04 HD.out.2.2.2 (.cells #[.int .i64 0, .int .i64 0] 125); rw [en4] at h; exact h⟩
   · have B4 := z0r HBL.out.1 B
     have B5 := z0r HBL.out.2.1 B
     have B6 := z0r HBL.out.2.2.1 B
     have B7 := z0r HBL.out.2.2.2 B
     have HB4 := z1e HBW.out HBW.out.size B
     rw [zbx HRQ.out] at HR
     replace HR := z00.mk (show (([] : List StS), (seeP l s.size (l.length - q.1)).f2, q.2) = r from HR.out)
     obtain rfl := HR.out
     obtain rfl : i = l.length - q.1 := by omega
     refine leaves_cons (f := 103) (args := #[.pointer (some ⟨n7, 0, none⟩), .pointer (some ⟨n4, 0, none⟩), .pointer (some ⟨n5, 0, none⟩), .pointer (some ⟨n6, 0, none⟩)]) (by simp) (by simp [go_sem]) ?_
     refine (zg2 n7 n4 n5 n6 (seeP l s.size (l.length - q.1)).f2 q.2 [] w4 (.slice none 0 0) _ _ B7 B4 B5 B6 (by omega) (by omega) (by omega) (by omega) (by omega) (by omega)).mono ?_
     rintro e u' w'' ⟨rfl, rfl, F4, F5, F6, HBB⟩
     exact ⟨_, z8f rfl rfl rfl F4 F5 F6, _, rfl, Kd.R_nil _ _ _ _ _, by have h := HBB _ _ HB4 (by omega) (by omega) (by omega) HB4.size; first | exact h | (rw [en4] at h; exact h)⟩
 · have hbne : (b != 0) = true := bne_iff_ne.2 hb0
   have hbeq : (b == 0) = false := beq_eq_false_iff_ne.2 hb0
   replace HR := z00.mk (show (([] : List StS), a, b) = r by rw [← HR.out]; show _ = if b = 0 then _ else _; rw [if_neg hb0])
   obtain rfl := HR.out
   go_wp2_with fail
   rw [HW2.out]
   have B4 := z0y HBL.out.1
   have B5 := z0y HBL.out.2.1
   have B6 := z0y HBL.out.2.2.1
   have B7 := z0y HBL.out.2.2.2
   have HB := z05 HBW.out
   refine z7y (n := 6) (S := fun w' => w'.cell? ⟨n5, 0, none⟩ = some (.int .i64 a) ∧ w'.cell? ⟨n6, 0, none⟩ = some (.int .i64 b) ∧ w'.cell? ⟨n7, 0, none⟩ = some (.slice none 0 0)) (ds := [5]) #[false, false, false, false, false, false] (by kernel_rfl) rfl rfl ⟨(z03 B5 0).trans rfl, (z03 B6 0).trans rfl, (z03 B7 0).trans rfl⟩ (fun hHeld => ?_); refine z55 readS4.tab readS4.bits (fun HT_ HW_ => ?_)
   generalize W2.drew = W at B4 B5 B6 B7 HB hHeld ⊢
   refine take_ (i := 0) (N := some 18) (v := ?_) (a' := ?_) #[true, false, false, false, false, false] rfl rfl (z3g HT_.out HW_.out (by kernel_rfl)) (fun c a w h => z40 (putS a _ _ (by decide) (by decide) (by decide)) _ _ _ h) (Or.inl ⟨by rfl, ?_⟩) hHeld ?_ ?_
   rotate_left
   · rintro w' ⟨s0, s1, z0⟩
     go_simp
     with_reducible rfl
   rotate_left
   · simp only [Act.put, List.setIfInBounds_toArray, List.set_cons_zero, List.set_cons_succ, i64_w, i32_w]
     rfl
   refine take_ (i := 1) (N := some 19) (v := ?_) (a' := ?_) #[true, true, false, false, false, false] rfl rfl (z3g HT_.out HW_.out (by kernel_rfl)) (fun c a w h => z40 (putS a _ _ (by decide) (by decide) (by decide)) _ _ _ h) (Or.inl ⟨by rfl, ?_⟩) hHeld ?_ ?_
   rotate_left
   · rintro w' ⟨s0, s1, z0⟩
     go_simp
     with_reducible rfl
   rotate_left
   · simp only [Act.put, List.setIfInBounds_toArray, List.set_cons_zero, List.set_cons_succ, i64_w, i32_w]
     rfl
   refine take_ (i := 2) (N := some 20) (v := ?_) (a' := ?_) #[true, true, true, false, false, false] rfl rfl (z3g HT_.out HW_.out (by kernel_rfl)) (fun c a w h => z40 (putS a _ _ (by decide) (by decide) (by decide)) _ _ _ h) (Or.inl ⟨by rfl, ?_⟩) hHeld ?_ ?_
   rotate_left
   · rintro w' ⟨s0, s1, z0⟩
     go_simp
     with_reducible rfl
   rotate_left
   · simp only [Act.put, List.setIfInBounds_toArray, List.set_cons_zero, List.set_cons_succ, i64_w, i32_w]
     rfl
   refine one_ (i := 3) (N := none) #[true, true, true, true, false, false] rfl rfl (z3f HT_.out (by kernel_rfl)) (by decide) (fun K hK => ?_)
   have a0 : W.cell? ⟨n4, 0, none⟩ = some (.slice none 0 0) := (z03 B4 0).trans rfl
   have af0 := z02 B4 0
   refine skip_ (w1 := ?_) (by rfl) rfl ?_ ?_
   rotate_left
   · go_simp
     rfl
   have C4 : (W.setCell ⟨n4, 0, none⟩ (.slice none 0 0)).heap[n4]? = some (.cells #[.slice none 0 0] 37 (0, 0)) := z36 [.slice none 0 0] 0 W #[.slice none 0 0] B4
   have C5 : (W.setCell ⟨n4, 0, none⟩ (.slice none 0 0)).heap[n5]? = some (.cells #[.int .i64 a] 3 (0, 0)) := z26 (by omega) [.slice none 0 0] 0 W B5
   have C6 : (W.setCell ⟨n4, 0, none⟩ (.slice none 0 0)).heap[n6]? = some (.cells #[.int .i64 b] 40 (0, 0)) := z26 (by omega) [.slice none 0 0] 0 W B6
   have C7 : (W.setCell ⟨n4, 0, none⟩ (.slice none 0 0)).heap[n7]? = some (.cells #[.slice none 0 0] 37 (0, 0)) := z26 (by omega) [.slice none 0 0] 0 W B7
   refine hK.out _ _ ⟨(z03 C5 0).trans rfl, (z03 C6 0).trans rfl, (z03 C7 0).trans rfl⟩ (fun hHeld => ?_)
   clear hK K
   refine one_ (i := 4) (N := none) #[true, true, true, true, true, false] rfl rfl (z3f HT_.out (by kernel_rfl)) (by decide) (fun K hK => ?_)
   have b0 : (W.setCell ⟨n4, 0, none⟩ (.slice none 0 0)).cell? ⟨n5, 0, none⟩ = some (.int .i64 a) := (z03 C5 0).trans rfl
   have bf0 := z02 C5 0
   refine skip_ (w1 := ?_) (by rfl) rfl ?_ ?_
   rotate_left
   · go_simp
     rfl
   have E4 : ((W.setCell ⟨n4, 0, none⟩ (.slice none 0 0)).setCell ⟨n5, 0, none⟩ (.int .i64 a)).heap[n4]? = some (.cells #[.slice none 0 0] 37 (0, 0)) := z15 C4 (by show n4 ≠ n5; omega) _
   have E5 : ((W.setCell ⟨n4, 0, none⟩ (.slice none 0 0)).setCell ⟨n5, 0, none⟩ (.int .i64 a)).heap[n5]? = some (.cells #[.int .i64 a] 3 (0, 0)) := z0v C5 0 (.int .i64 a) rfl
   have E6 : ((W.setCell ⟨n4, 0, none⟩ (.slice none 0 0)).setCell ⟨n5, 0, none⟩ (.int .i64 a)).heap[n6]? = some (.cells #[.int .i64 b] 40 (0, 0)) := z15 C6 (by show n6 ≠ n5; omega) _
   have E7 : ((W.setCell ⟨n4, 0, none⟩ (.slice none 0 0)).setCell ⟨n5, 0, none⟩ (.int .i64 a)).heap[n7]? = some (.cells #[.slice none 0 0] 37 (0, 0)) := z15 C7 (by show n7 ≠ n5; omega) _
   refine hK.out _ _ ⟨(z03 E5 0).trans rfl, (z03 E6 0).trans rfl, (z03 E7 0).trans rfl⟩ (fun hHeld => ?_)
   clear hK K
   refine last_ (i := 5) (N := none) #[true, true, true, true, true, true] rfl rfl (z3f HT_.out (by kernel_rfl)) (by decide) (fun K hK => ?_)
   have c0 : ((W.setCell ⟨n4, 0, none⟩ (.slice none 0 0)).setCell ⟨n5, 0, none⟩ (.int .i64 a)).cell? ⟨n6, 0, none⟩ = some (.int .i64 b) := (z03 E6 0).trans rfl
   have cf0 := z02 E6 0
   refine skip_ (w1 := ?_) (by rfl) rfl ?_ ?_
   rotate_left
   · go_simp
     rfl
   refine hK.out _ _ ?_
   clear hK K
   refine done_ (z6m HT_.out (by kernel_rfl)) ?_
   have F4 : (((W.setCell ⟨n4, 0, none⟩ (.slice none 0 0)).setCell ⟨n5, 0, none⟩ (.int .i64 a)).setCell ⟨n6, 0, none⟩ (.int .i64 b)).heap[n4]? = some (.cells #[.slice none 0 0] 37 (0, 0)) := z15 E4 (by show n4 ≠ n6; omega) _
   have F5 : (((W.setCell ⟨n4, 0, none⟩ (.slice none 0 0)).setCell ⟨n5, 0, none⟩ (.int .i64 a)).setCell ⟨n6, 0, none⟩ (.int .i64 b)).heap[n5]? = some (.cells #[.int .i64 a] 3 (0, 0)) := z15 E5 (by show n5 ≠ n6; omega) _
   have F6 : (((W.setCell ⟨n4, 0, none⟩ (.slice none 0 0)).setCell ⟨n5, 0, none⟩ (.int .i64 a)).setCell ⟨n6, 0, none⟩ (.int .i64 b)).heap[n6]? = some (.cells #[.int .i64 b] 40 (0, 0)) := z0v E6 0 (.int .i64 b) rfl
   have HB3 : Below w.heap.size w (((W.setCell ⟨n4, 0, none⟩ (.slice none 0 0)).setCell ⟨n5, 0, none⟩ (.int .i64 a)).setCell ⟨n6, 0, none⟩ (.int .i64 b)) := (((HB).setCell (show w.heap.size ≤ n4 by omega) _).setCell (show w.heap.size ≤ n5 by omega) _).setCell (show w.heap.size ≤ n6 by omega) _
   go_wp2
   exact ⟨_, z8f rfl rfl rfl F4 F5 F6, _, rfl, Kd.R_nil _ _ _ _ _, by have h := HB3; rw [en4] at h; exact h⟩

def z4m.f (a0 : ByteArray) : Option (List StS × Int × Int) := if a0.size ≤ 140737488351232 then some (z34 ([] : List StS) z4j a0) else none
def z5i.f (a0 : ByteArray) : Option (List RlS × ByteArray × List TmS × Int × Int) :=
 if a0.size ≤ 140737488351232 then some ((z34 (⟨[], noneA⟩ : PgS) z3x a0).1.f0, (z34 (⟨[], noneA⟩ : PgS) z3x a0).1.f1.f0, (z34 (⟨[], noneA⟩ : PgS) z3x a0).1.f1.f1, (z34 (⟨[], noneA⟩ : PgS) z3x a0).2.1, (z34 (⟨[], noneA⟩ : PgS) z3x a0).2.2) else none
set_option maxRecDepth 100000 in
theorem z4m.calls (a0 : ByteArray) (r1 : List StS) (r2 : Int) (r3 : Int) (w : World) (hLW : LaidW w) (h : z4m.f a0 = some (r1, r2, r3)) :
 Calls Tryz.prog 36 #[.string a0] w fun e w' => ∃ v0_ : Value, e = .returned (.tuple #[v0_, .int .i64 r2, .int .i64 r3]) ∧ Kd.R k69 69 w' w.heap.size (fun _ => True) v0_ r1 ∧ Below w.heap.size w w' := by
 unfold z4m.f at h
 split at h
 case isFalse => cases h
 rename_i hs
 have HR := z00.mk (Option.some.inj h)
 have HP := z00.mk (zd8 a0 hs w hLW)
 rw [HR.out] at HP
 clear h hs hLW HR
 go_enter Tryz.func36, Tryz.ntmps36
 go_wp2_with fail
 refine HP.out.mono ?_
 rintro e w1 ⟨v, rfl, hv, hb⟩
 have HV := z00.mk (Kd.R_mono (ok' := fun _ => True) hv (fun _ _ => trivial))
 have HB := z00.mk hb
 obtain ⟨A, c, rfl⟩ := Kd.R_slice hv
 clear hv hb HP
 go_wp2
 go_ret3
 exact ⟨_, rfl, HV.out, HB.out⟩
set_option maxHeartbeats 1600000 in
set_option maxRecDepth 100000 in
theorem z5i.calls (a0 : ByteArray) (r1 : List RlS) (r2 : ByteArray) (r3 : List TmS) (r4 : Int) (r5 : Int) (w : World) (hLW : LaidW w) (h : z5i.f a0 = some (r1, r2, r3, r4, r5)) :
 Calls Tryz.prog 29 #[.string a0] w fun e w' => ∃ v0_ v1_ : Value, e = .returned (.tuple #[.agg #[v0_, .string r2, v1_], .int .i64 r4, .int .i64 r5]) ∧ Kd.R k33 33 w' w.heap.size (fun _ => True) v0_ r1 ∧ Kd.R k60 60 w' w.heap.size (fun _ => True) v1_ r3 ∧ Below w.heap.size w w' := by
 unfold z5i.f at h
 split at h
 case isFalse => cases h
 rename_i hs
 have hB0 : Below w.heap.size w (w.alloc (.cells zProg 27)) := z04 (Below.refl _ _) _
 have hP := zdi a0 hs (w.alloc (.cells zProg 27)) (hLW.below hB0)
 obtain ⟨⟨⟨f0, ⟨q0, q1⟩⟩, ra, rb⟩, hr⟩ : ∃ x, z34 (⟨[], noneA⟩ : PgS) z3x a0 = x := ⟨_, rfl⟩
 rw [hr] at h hP
 have h := Option.some.inj h
 injection h with h1 h; injection h with h2 h; injection h with h3 h; injection h with h4 h5
 subst h1 h2 h3 h4 h5
 have HP := z00.mk hP
 obtain ⟨n, en⟩ : ∃ n, w.heap.size = n := ⟨_, rfl⟩
 have hN := z1q w (.cells zProg 27)
 rw [en] at hN
 have HN := z00.mk (And.intro hN hB0)
 have hz : (w.alloc (.cells zProg 27)).heap.size = n + 1 := by simp [en]
 clear hr hs hLW hP hN hB0
 go_enter Tryz.func29, Tryz.ntmps29
 go_wp2_with fail
 refine HP.out.mono ?_
 rintro e w1 ⟨v, rfl, ⟨u1, u2, rfl, hu1, hu2⟩, hb⟩
 obtain ⟨A1, c1, rfl⟩ := Kd.R_slice hu1
 obtain ⟨A2, c2, rfl⟩ := Kd.R_slice hu2
 rw [hz] at hu1 hu2
 have B := z0r HN.out.1 hb
 have hc0 : w1.cell? ⟨n, 0, none⟩ = some (.slice none 0 0) := (z03 B 0).trans rfl
 have hc1 : w1.cell? ⟨n, 1, none⟩ = some (.string ⟨#[]⟩) := (z03 B 1).trans rfl
 have hc2 : w1.cell? ⟨n, 2, none⟩ = some (.slice none 0 0) := (z03 B 2).trans rfl
 have hf0 := z02 B 0
 have hf1 := z02 B 1
 have hf2 := z02 B 2
 have HB := z1e HN.out.2 HN.out.2.size hb
 have P1 : (sets w1 n 0 [.slice A1 f0.length c1, .string q0, .slice A2 q1.length c2]).heap[n]? = some (.cells #[.slice A1 f0.length c1, .string q0, .slice A2 q1.length c2] 27 (0, 0)) := z36 [.slice A1 f0.length c1, .string q0, .slice A2 q1.length c2] 0 w1 zProg B
 have HD := z00.mk (And.intro P1 (And.intro (Kd.R_mono (ok' := fun _ => True) (Kd.R_lower (base' := w.heap.size) (show Kd.R k33 33 (sets w1 n 0 [.slice A1 f0.length c1, .string q0, .slice A2 q1.length c2]) (n + 1) (fun k => n + 1 ≤ k) (.slice A1 f0.length c1) f0 from z4x (fun k hk => by omega) [.slice A1 f0.length c1, .string q0, .slice A2 q1.length c2] 0 w1 hu1) (by omega)) (fun _ _ => trivial)) (And.intro (Kd.R_mono (ok' := fun _ => True) (Kd.R_lower (base' := w.heap.size) (show Kd.R k60 60 (sets w1 n 0 [.slice A1 f0.length c1, .string q0, .slice A2 q1.length c2]) (n + 1) (fun k => n + 1 ≤ k) (.slice A2 q1.length c2) q1 from z4x (fun k hk => by omega) [.slice A1 f0.length c1, .string q0, .slice A2 q1.length c2] 0 w1 hu2) (by omega)) (fun _ _ => trivial)) (z38 (show w.heap.size ≤ n by omega) [.slice A1 f0.length c1, .string q0, .slice A2 q1.length c2] 0 w1 HB))))
 clear hu1 hu2 hb B HP P1 HB
 go_wp2
 refine bodyPost_ret (zd9 rfl _ _ n 27 #[.slice A1 f0.length c1, .string q0, .slice A2 q1.length c2] (0, 0) _ rfl HD.out.1 Tryz.underlying27 rfl (by kernel_rfl)) rfl ?_
 exact ⟨_, _, rfl, HD.out.2.1, HD.out.2.2.1, HD.out.2.2.2⟩

private theorem zcr (k k' : IntKind) (x y : Int) : Builtin.max2 (.int k x) (.int k' y) = pure (.int k (mx x y)) := by rw [z4f]; rfl
private theorem zd3 (k k' : IntKind) (x y : Int) : Builtin.min2 (.int k x) (.int k' y) = pure (.int k (mn x y)) := by rw [z4g]; rfl
attribute [local go_sem] zcr zd3 z50 z52 z3o z3p z4a z4b
def z28.l0 : Nat → Int → Int → List (S108) → Int → Int → Option (Int)
 | 0, _, _, _, _, _ => none
 | k + 1, x6, x7, x16, x17, x18 => if x18 < x17 then (if 0 ≤ x18 then (if x18 < (x16.length : Int) then (if ((z2p x16 x18).f1).toList = ([40] : List UInt8) then (z28.l0 k (wrap64 (x6 + 1)) (mx x7 (wrap64 (x6 + 1))) x16 x17 (wrap64 (x18 + 1))) else (if ((z2p x16 x18).f1).toList = ([41] : List UInt8) then (z28.l0 k (mx 0 (wrap64 (x6 - 1))) (mx x7 (mx 0 (wrap64 (x6 - 1)))) x16 x17 (wrap64 (x18 + 1))) else (z28.l0 k x6 (mx x7 x6) x16 x17 (wrap64 (x18 + 1))))) else (none)) else (none)) else (some x7)
def z28.f (k : Nat) (a0 : ByteArray) : Option (Int) := (z3t.f a0).bind fun bt112 => (z28.l0 k 0 0 bt112.1 (bt112.1.length : Int) 0)
set_option maxHeartbeats 8000000 in
set_option maxRecDepth 100000 in
theorem z28.calls (k : Nat) (a0 : ByteArray) (r : Int) (w : World) (hLW : LaidW w) (h : z28.f k a0 = some r) :
 Calls Tryz.prog 32 #[.string a0] w fun e w' => e = .returned (.int .i64 r) ∧ Below w.heap.size w w' := by
 have hu108 := Tryz.underlying108
 have HLW := z00.mk hLW
 clear hLW
 have HB := z00.mk (Below.refl w.heap.size w)
 have H : ((z3t.f a0).bind fun bt112 => (z28.l0 k 0 0 bt112.1 (bt112.1.length : Int) 0)) = some r := h
 clear h
 replace H := Option.bind_eq_some_iff.mp H
 obtain ⟨⟨t112, t113, t114⟩, A20, H⟩ := H
 replace H : (z28.l0 k 0 0 t112 (t112.length : Int) 0) = some r := H
 have A2 := z00.mk A20
 clear A20
 have H' := z00.mk H
 clear H
 go_enter Tryz.func32, Tryz.ntmps32
 go_wp2_with (first | ((with_reducible refine z0s (f := 63) rfl ?_); refine z1r (some 12) rfl rfl Tryz.func63 (by kernel_rfl) rfl #[.string a0] rfl (by (try simp only [List.map_toArray, List.map_cons, List.map_nil]); first | done | rfl | (simp only [List.length_drop, List.length_take]; rfl)) ?_; (with_reducible refine (z3t.calls a0 t112 t113 t114 _ ?side1 A2.out).mono ?_); (case side1 => (first | (refine LaidW.below HLW.out ?_; (repeat (first | (with_reducible first | exact HB.out | apply z04 | apply z01 | apply z05) | exact HB.out)); done) | (repeat (first | exact HLW.out | apply LaidW.drewN | apply LaidW.drew | apply LaidW.alloc)))); rintro e w3 ⟨v115, rfl, ho0, hb⟩; refine ⟨_, rfl, ?_⟩; have n0_ := z00.mk (Kd.R_lower ho0 (z13 (by repeat (first | (with_reducible first | exact HB.out | apply z04 | apply z01 | apply z05) | exact HB.out)))); have n1_ := z00.mk (z0z (by repeat (first | (with_reducible first | exact HB.out | apply z04 | apply z01 | apply z05) | exact HB.out)) hb); clear HB; have HO116 := n0_; have HB := n1_; clear n0_ n1_; (try clear hb); (try clear hb2); (try clear hk); (try clear hi); (try clear ho0); obtain ⟨Ao4, co4, eo4⟩ := Kd.R_slice HO116.out; subst eo4))
 go_loopg [6, 7, 18] k (fun kq v6 v7 v18 w' => ∃ (x6_1 : Int) (x7_1 : Int) (x18_1 : Int), v6 = .int .i64 x6_1 ∧ v7 = .int .i64 x7_1 ∧ v18 = .int .i64 x18_1 ∧ z00 (z28.l0 kq x6_1 x7_1 t112 (t112.length : Int) x18_1 = some r) ∧ z00 (kq ≤ k) ∧ z00 (Kd.R k108 108 w' w.heap.size (fun _ => True) (.slice Ao4 t112.length co4) t112) ∧ z00 (Below w.heap.size w w'))
 case atStart => exact ⟨(0), (0), (0), (by first | rfl | (simp; done) | (simp [*]; done)), (by first | rfl | (simp; done) | (simp [*]; done)), (by first | rfl | (simp; done) | (simp [*]; done)), H', ⟨Nat.le_refl _⟩, ⟨by (with_reducible repeat (first | apply Kd.R_alloc | apply Kd.R_drewN | apply Kd.R_drew)); exact HO116.out⟩, ⟨by repeat (first | (with_reducible first | exact HB.out | apply z04 | apply z01 | apply z05) | exact HB.out)⟩⟩
 case round =>
  clear H'
  try clear p2
  try clear c3
  obtain ⟨x6_1, x7_1, x18_1, rfl, rfl, rfl, HA, HK1, HO_16, HB⟩ := hrel
  cases gk with
  | zero => exact absurd HA.out (by simp [z28.l0])
  | succ k1 =>
   have H := HA.out
   clear HA
   simp only [z28.l0] at H
   by_cases c5 : x18_1 < (t112.length : Int)
   · rw [if_pos c5] at H
     have c5b0 : decide (x18_1 < (t112.length : Int)) = true := decide_eq_true c5
     clear c5
     by_cases c6 : 0 ≤ x18_1
     · rw [if_pos c6] at H
       have c6b0 : decide (0 ≤ x18_1) = true := decide_eq_true c6
       clear c6
       by_cases c7 : x18_1 < (t112.length : Int)
       · rw [if_pos c7] at H
         have c7b0 : decide (x18_1 < (t112.length : Int)) = true := decide_eq_true c7
         clear c7
         by_cases c8 : ((z2p t112 x18_1).f1).toList = ([40] : List UInt8)
         · rw [if_pos c8] at H
           have c8b0 : (((z2p t112 x18_1).f1).toList == ([40] : List UInt8)) = true := beq_iff_eq.mpr c8
           have c8b1 : (((z2p t112 x18_1).f1).toList != ([40] : List UInt8)) = false := bne_eq_false_iff_eq.mpr c8
           clear c8
           obtain ⟨ji9, hji9⟩ : ∃ j_ : Int, (mx x7_1 (wrap64 (x6_1 + 1))) = j_ := ⟨_, rfl⟩
           replace H : (z28.l0 k1 (wrap64 (x6_1 + 1)) ji9 t112 (t112.length : Int) (wrap64 (x18_1 + 1))) = some r := by first | (rw [hji9] at H; exact H) | (simp only [hji9] at H ⊢; exact H)
           have hji9_ : (if x7_1 < (wrap64 (x6_1 + 1)) then (wrap64 (x6_1 + 1)) else x7_1) = ji9 := hji9
           have H' := z00.mk H
           clear H
           have p117 : 0 ≤ (x18_1 : Int) := of_decide_eq_true (by first | (with_reducible assumption) | assumption)
           have q117 : x18_1 < (t112.length : Int) := of_decide_eq_true (by first | (with_reducible assumption) | assumption)
           obtain ⟨ad117, e117, hx117_0, hx117_1, hx117_2⟩ := z97 (Kd.R_reads' HO_16.out).2.2 x18_1 p117 q117
           cases e117
           replace p117 := eq_true p117
           replace q117 := eq_true q117
           go_wp2_with (first | ((with_reducible refine z2e (N := 9) rfl ?_); refine z2j ?hg (N := 9) ?hd (cs := #[.int .i64 0, .string (⟨#[]⟩ : ByteArray), .int .i64 0]) (t := 108) ?hr ?_; (case hd => rfl); (case hg => rfl); (case hr => first | (go_simp; done) | (go_simp; rfl)); intro gb118 hg w10 hbox hb; have n0_ := z00.mk (Kd.R_below (Kd.R_elderB (by (with_reducible repeat (first | apply Kd.R_alloc | apply Kd.R_drewN | apply Kd.R_drew)); exact HO_16.out) gb118 (Nat.le_of_eq hg.symm)) hb); have n1_ := z00.mk (z0z (by repeat (first | (with_reducible first | exact HB.out | apply z04 | apply z01 | apply z05) | exact HB.out)) hb); have n2_ := z00.mk (hbox); have n3_ := z00.mk ((by rw [hg]; exact (z13 (by repeat (first | (with_reducible first | exact HB.out | apply z04 | apply z01 | apply z05) | exact HB.out))) : w.heap.size ≤ gb118)); have n4_ := z00.mk ((by rw [hg]; exact (z13 (by repeat (first | (with_reducible first | exact HB.out | apply z04 | apply z01 | apply z05) | exact HB.out))) : w.heap.size ≤ gb118)); clear HO_16; clear HB; have HO_16 := n0_; have HB := n1_; have BK118 := n2_; have GW118 := n3_; have GE118 := n4_; clear n0_ n1_ n2_ n3_ n4_; clear hb hbox hg; have hcz11_0 : w10.cell? ⟨gb118, 0, none⟩ = some (.int .i64 0) := (z03 BK118.out 0).trans rfl; have hcz11_1 : w10.cell? ⟨gb118, 1, none⟩ = some (.string (⟨#[]⟩ : ByteArray)) := (z03 BK118.out 1).trans rfl; have hcz11_2 : w10.cell? ⟨gb118, 2, none⟩ = some (.int .i64 0) := (z03 BK118.out 2).trans rfl; have hfz11_0 := z02 BK118.out 0; have hfz11_1 := z02 BK118.out 1; have hfz11_2 := z02 BK118.out 2))
           go_roundg k1
           case measure => have := HK1.out; omega
           case rel => exact ⟨(wrap64 (x6_1 + 1)), (ji9), (wrap64 (x18_1 + 1)), (by first | rfl | (simp; done) | (simp [*]; done)), (by first | rfl | (simp; done) | (simp only [← hji9] <;> (first | rfl | simp)) | (simp [*]; done)), (by first | rfl | (simp; done) | (simp [*]; done)), H', ⟨by have := HK1.out; omega⟩, ⟨by (with_reducible repeat (first | apply Kd.R_alloc | apply Kd.R_drewN | apply Kd.R_drew)); exact Kd.R_mono (Kd.R_far (p := ⟨gb118, 2, none⟩) (Kd.R_far (p := ⟨gb118, 1, none⟩) (Kd.R_far (p := ⟨gb118, 0, none⟩) (Kd.R_mono HO_16.out (fun k_ hk => (⟨hk, hk.2⟩ : _ ∧ k_ ≠ gb118))) (fun _ hk => hk.2) (.int .i64 ((z2p t112 x18_1).f0))) (fun _ hk => hk.2) (.string ((z2p t112 x18_1).f1))) (fun _ hk => hk.2) (.int .i64 ((z2p t112 x18_1).f2))) (fun _ hk => trivial)⟩, ⟨by repeat (first | (with_reducible first | exact HB.out | apply z04 | apply z01 | apply z05 | refine z07 ?_ GE118.out) | exact HB.out)⟩⟩
         · rw [if_neg c8] at H
           have c8b0 : (((z2p t112 x18_1).f1).toList == ([40] : List UInt8)) = false := beq_eq_false_iff_ne.mpr c8
           have c8b1 : (((z2p t112 x18_1).f1).toList != ([40] : List UInt8)) = true := bne_iff_ne.mpr c8
           by_cases c12 : ((z2p t112 x18_1).f1).toList = ([41] : List UInt8)
           · rw [if_pos c12] at H
             have c12b0 : (((z2p t112 x18_1).f1).toList == ([41] : List UInt8)) = true := beq_iff_eq.mpr c12
             have c12b1 : (((z2p t112 x18_1).f1).toList != ([41] : List UInt8)) = false := bne_eq_false_iff_eq.mpr c12
             clear c12
             obtain ⟨ji13, hji13⟩ : ∃ j_ : Int, (mx 0 (wrap64 (x6_1 - 1))) = j_ := ⟨_, rfl⟩
             replace H : (z28.l0 k1 ji13 (mx x7_1 (ji13)) t112 (t112.length : Int) (wrap64 (x18_1 + 1))) = some r := by first | (rw [hji13] at H; exact H) | (simp only [hji13] at H ⊢; exact H)
             have hji13_ : (if 0 < (wrap64 (x6_1 - 1)) then (wrap64 (x6_1 - 1)) else 0) = ji13 := hji13
             obtain ⟨ji14, hji14⟩ : ∃ j_ : Int, (mx x7_1 (ji13)) = j_ := ⟨_, rfl⟩
             replace H : (z28.l0 k1 ji13 ji14 t112 (t112.length : Int) (wrap64 (x18_1 + 1))) = some r := by first | (rw [hji14] at H; exact H) | (simp only [hji14] at H ⊢; exact H)
             have hji14_ : (if x7_1 < (ji13) then (ji13) else x7_1) = ji14 := hji14
             have H' := z00.mk H
             clear H
             have p117 : 0 ≤ (x18_1 : Int) := of_decide_eq_true (by first | (with_reducible assumption) | assumption)
             have q117 : x18_1 < (t112.length : Int) := of_decide_eq_true (by first | (with_reducible assumption) | assumption)
             obtain ⟨ad117, e117, hx117_0, hx117_1, hx117_2⟩ := z97 (Kd.R_reads' HO_16.out).2.2 x18_1 p117 q117
             cases e117
             replace p117 := eq_true p117
             replace q117 := eq_true q117
             go_wp2_with (first | ((with_reducible refine z2e (N := 9) rfl ?_); refine z2j ?hg (N := 9) ?hd (cs := #[.int .i64 0, .string (⟨#[]⟩ : ByteArray), .int .i64 0]) (t := 108) ?hr ?_; (case hd => rfl); (case hg => rfl); (case hr => first | (go_simp; done) | (go_simp; rfl)); intro gb118 hg w15 hbox hb; have n0_ := z00.mk (Kd.R_below (Kd.R_elderB (by (with_reducible repeat (first | apply Kd.R_alloc | apply Kd.R_drewN | apply Kd.R_drew)); exact HO_16.out) gb118 (Nat.le_of_eq hg.symm)) hb); have n1_ := z00.mk (z0z (by repeat (first | (with_reducible first | exact HB.out | apply z04 | apply z01 | apply z05) | exact HB.out)) hb); have n2_ := z00.mk (hbox); have n3_ := z00.mk ((by rw [hg]; exact (z13 (by repeat (first | (with_reducible first | exact HB.out | apply z04 | apply z01 | apply z05) | exact HB.out))) : w.heap.size ≤ gb118)); have n4_ := z00.mk ((by rw [hg]; exact (z13 (by repeat (first | (with_reducible first | exact HB.out | apply z04 | apply z01 | apply z05) | exact HB.out))) : w.heap.size ≤ gb118)); clear HO_16; clear HB; have HO_16 := n0_; have HB := n1_; have BK118 := n2_; have GW118 := n3_; have GE118 := n4_; clear n0_ n1_ n2_ n3_ n4_; clear hb hbox hg; have hcz16_0 : w15.cell? ⟨gb118, 0, none⟩ = some (.int .i64 0) := (z03 BK118.out 0).trans rfl; have hcz16_1 : w15.cell? ⟨gb118, 1, none⟩ = some (.string (⟨#[]⟩ : ByteArray)) := (z03 BK118.out 1).trans rfl; have hcz16_2 : w15.cell? ⟨gb118, 2, none⟩ = some (.int .i64 0) := (z03 BK118.out 2).trans rfl; have hfz16_0 := z02 BK118.out 0; have hfz16_1 := z02 BK118.out 1; have hfz16_2 := z02 BK118.out 2))
             go_roundg k1
             case measure => have := HK1.out; omega
             case rel => exact ⟨(ji13), (ji14), (wrap64 (x18_1 + 1)), (by first | rfl | (simp; done) | (simp only [← hji13] <;> (first | rfl | simp)) | (simp [*]; done)), (by first | rfl | (simp; done) | (simp only [← hji14] <;> (first | rfl | simp)) | (simp [*]; done)), (by first | rfl | (simp; done) | (simp [*]; done)), H', ⟨by have := HK1.out; omega⟩, ⟨by (with_reducible repeat (first | apply Kd.R_alloc | apply Kd.R_drewN | apply Kd.R_drew)); exact Kd.R_mono (Kd.R_far (p := ⟨gb118, 2, none⟩) (Kd.R_far (p := ⟨gb118, 1, none⟩) (Kd.R_far (p := ⟨gb118, 0, none⟩) (Kd.R_mono HO_16.out (fun k_ hk => (⟨hk, hk.2⟩ : _ ∧ k_ ≠ gb118))) (fun _ hk => hk.2) (.int .i64 ((z2p t112 x18_1).f0))) (fun _ hk => hk.2) (.string ((z2p t112 x18_1).f1))) (fun _ hk => hk.2) (.int .i64 ((z2p t112 x18_1).f2))) (fun _ hk => trivial)⟩, ⟨by repeat (first | (with_reducible first | exact HB.out | apply z04 | apply z01 | apply z05 | refine z07 ?_ GE118.out) | exact HB.out)⟩⟩
           · rw [if_neg c12] at H
             have c12b0 : (((z2p t112 x18_1).f1).toList == ([41] : List UInt8)) = false := beq_eq_false_iff_ne.mpr c12
             have c12b1 : (((z2p t112 x18_1).f1).toList != ([41] : List UInt8)) = true := bne_iff_ne.mpr c12
             obtain ⟨ji17, hji17⟩ : ∃ j_ : Int, (mx x7_1 x6_1) = j_ := ⟨_, rfl⟩
             replace H : (z28.l0 k1 x6_1 ji17 t112 (t112.length : Int) (wrap64 (x18_1 + 1))) = some r := by first | (rw [hji17] at H; exact H) | (simp only [hji17] at H ⊢; exact H)
             have hji17_ : (if x7_1 < x6_1 then x6_1 else x7_1) = ji17 := hji17
             have H' := z00.mk H
             clear H
             have p117 : 0 ≤ (x18_1 : Int) := of_decide_eq_true (by first | (with_reducible assumption) | assumption)
             have q117 : x18_1 < (t112.length : Int) := of_decide_eq_true (by first | (with_reducible assumption) | assumption)
             obtain ⟨ad117, e117, hx117_0, hx117_1, hx117_2⟩ := z97 (Kd.R_reads' HO_16.out).2.2 x18_1 p117 q117
             cases e117
             replace p117 := eq_true p117
             replace q117 := eq_true q117
             go_wp2_with (first | ((with_reducible refine z2e (N := 9) rfl ?_); refine z2j ?hg (N := 9) ?hd (cs := #[.int .i64 0, .string (⟨#[]⟩ : ByteArray), .int .i64 0]) (t := 108) ?hr ?_; (case hd => rfl); (case hg => rfl); (case hr => first | (go_simp; done) | (go_simp; rfl)); intro gb118 hg w18 hbox hb; have n0_ := z00.mk (Kd.R_below (Kd.R_elderB (by (with_reducible repeat (first | apply Kd.R_alloc | apply Kd.R_drewN | apply Kd.R_drew)); exact HO_16.out) gb118 (Nat.le_of_eq hg.symm)) hb); have n1_ := z00.mk (z0z (by repeat (first | (with_reducible first | exact HB.out | apply z04 | apply z01 | apply z05) | exact HB.out)) hb); have n2_ := z00.mk (hbox); have n3_ := z00.mk ((by rw [hg]; exact (z13 (by repeat (first | (with_reducible first | exact HB.out | apply z04 | apply z01 | apply z05) | exact HB.out))) : w.heap.size ≤ gb118)); have n4_ := z00.mk ((by rw [hg]; exact (z13 (by repeat (first | (with_reducible first | exact HB.out | apply z04 | apply z01 | apply z05) | exact HB.out))) : w.heap.size ≤ gb118)); clear HO_16; clear HB; have HO_16 := n0_; have HB := n1_; have BK118 := n2_; have GW118 := n3_; have GE118 := n4_; clear n0_ n1_ n2_ n3_ n4_; clear hb hbox hg; have hcz19_0 : w18.cell? ⟨gb118, 0, none⟩ = some (.int .i64 0) := (z03 BK118.out 0).trans rfl; have hcz19_1 : w18.cell? ⟨gb118, 1, none⟩ = some (.string (⟨#[]⟩ : ByteArray)) := (z03 BK118.out 1).trans rfl; have hcz19_2 : w18.cell? ⟨gb118, 2, none⟩ = some (.int .i64 0) := (z03 BK118.out 2).trans rfl; have hfz19_0 := z02 BK118.out 0; have hfz19_1 := z02 BK118.out 1; have hfz19_2 := z02 BK118.out 2))
             go_roundg k1
             case measure => have := HK1.out; omega
             case rel => exact ⟨(x6_1), (ji17), (wrap64 (x18_1 + 1)), (by first | rfl | (simp; done) | (simp [*]; done)), (by first | rfl | (simp; done) | (simp only [← hji17] <;> (first | rfl | simp)) | (simp [*]; done)), (by first | rfl | (simp; done) | (simp [*]; done)), H', ⟨by have := HK1.out; omega⟩, ⟨by (with_reducible repeat (first | apply Kd.R_alloc | apply Kd.R_drewN | apply Kd.R_drew)); exact Kd.R_mono (Kd.R_far (p := ⟨gb118, 2, none⟩) (Kd.R_far (p := ⟨gb118, 1, none⟩) (Kd.R_far (p := ⟨gb118, 0, none⟩) (Kd.R_mono HO_16.out (fun k_ hk => (⟨hk, hk.2⟩ : _ ∧ k_ ≠ gb118))) (fun _ hk => hk.2) (.int .i64 ((z2p t112 x18_1).f0))) (fun _ hk => hk.2) (.string ((z2p t112 x18_1).f1))) (fun _ hk => hk.2) (.int .i64 ((z2p t112 x18_1).f2))) (fun _ hk => trivial)⟩, ⟨by repeat (first | (with_reducible first | exact HB.out | apply z04 | apply z01 | apply z05 | refine z07 ?_ GE118.out) | exact HB.out)⟩⟩
       · rw [if_neg c7] at H
         exact absurd H (by simp)
     · rw [if_neg c6] at H
       exact absurd H (by simp)
   · rw [if_neg c5] at H
     have c5b0 : decide (x18_1 < (t112.length : Int)) = false := decide_eq_false c5
     clear c5
     obtain rfl := Option.some.inj H
     go_wp2
     go_ret
     exact ⟨by first | rfl | (simp [z0n, z0o] <;> rfl) | (simp [*, z0n, z0o] <;> rfl), by repeat (first | (with_reducible first | exact HB.out | apply z04 | apply z01 | apply z05) | exact HB.out)⟩

abbrev awT : ByteArray := ⟨#[112, 40, 88, 44, 32, 99, 111, 117, 110, 116, 40, 89, 41, 41, 32, 58, 45, 32, 119, 97, 108, 107, 40, 88, 44, 32, 97, 47, 94, 98, 42, 44, 32, 89, 41, 46, 32, 63, 45, 32, 112, 40, 88, 44, 32, 51, 41, 46]⟩
def awRule : RlS := ⟨⟨⟨#[112]⟩, [⟨⟨#[88]⟩, noneV⟩, ⟨⟨#[89]⟩, noneV⟩]⟩, 1, [⟨5, noneA, ⟨#[]⟩, ⟨⟨#[88]⟩, noneV⟩, ⟨⟨#[89]⟩, noneV⟩, noneT, [⟨1, ⟨#[97]⟩⟩, ⟨2, ⟨#[98]⟩⟩, ⟨5, ⟨#[]⟩⟩, ⟨3, ⟨#[]⟩⟩]⟩]⟩
theorem aw_parse : z5i.f awT = some ([awRule], ⟨#[112]⟩, [⟨⟨#[88]⟩, noneV⟩, ⟨⟨#[]⟩, ⟨1, 3, ⟨#[]⟩⟩⟩], 0, 0) := by kernel_rfl
theorem aw_deep : z28.f 20 ⟨#[40, 40, 97, 41, 41]⟩ = some 2 := by kernel_rfl
theorem add0 (a : Addr) : a.add 0 = a := by simp [Addr.add]
theorem add2 (a : Addr) : a.add 2 = ⟨a.block, a.off + 2, none⟩ := by simp [Addr.add]
theorem add6 (a : Addr) : a.add 6 = ⟨a.block, a.off + 6, none⟩ := by simp [Addr.add]
set_option maxHeartbeats 4000000 in
set_option maxRecDepth 100000 in
theorem z86 (w : World) (hLW : LaidW w) :
 Calls Tryz.prog 28 #[] w fun e w' => e = .returned (.bool true) ∧ Below w.heap.size w w' := by
 have HP := z00.mk (z5i.calls awT [awRule] ⟨#[112]⟩ [⟨⟨#[88]⟩, noneV⟩, ⟨⟨#[]⟩, ⟨1, 3, ⟨#[]⟩⟩⟩] 0 0 w hLW aw_parse)
 have HLW := z00.mk hLW
 clear hLW
 go_enter Tryz.func28, Tryz.ntmps28
 go_wp2_with fail
 refine HP.out.mono ?_
 rintro e w1 ⟨v0, v1, rfl, h0, h1, hb⟩
 obtain ⟨A, c, rfl⟩ := Kd.R_slice h0
 obtain ⟨A2, c2, rfl⟩ := Kd.R_slice h1
 obtain ⟨n, en⟩ : ∃ n, w1.heap.size = n := ⟨_, rfl⟩
 have hW := z1q w1 (.cells #[.slice A 1 c, .string ⟨#[112]⟩, .slice A2 2 c2] 27)
 rw [en] at hW
 have hC := Kd.C_below (Kd.R_reads' h0).2.2 (z04 (Below.refl w1.heap.size w1) (.cells #[.slice A 1 c, .string ⟨#[112]⟩, .slice A2 2 c2] 27))
 have HB := z00.mk (z04 hb (.cells #[.slice A 1 c, .string ⟨#[112]⟩, .slice A2 2 c2] 27))
 have HCW := z00.mk (And.intro hW hC)
 clear h0 h1 hb hW hC HP
 go_upto_region 2 with (fail)
 generalize w1.alloc (.cells #[.slice A 1 c, .string ⟨#[112]⟩, .slice A2 2 c2] 27) = W at HB HCW ⊢
 have d0 : W.cell? ⟨n, 0, none⟩ = some (.slice A 1 c) := (z03 HCW.out.1 0).trans rfl
 have d1 : W.cell? ⟨n, 1, none⟩ = some (.string ⟨#[112]⟩) := (z03 HCW.out.1 1).trans rfl
 obtain ⟨ad, A1, c1, A3, c3, rfl, _, _, x2, x3, _, _, _, g3⟩ := at_T33 HCW.out.2 0 (by decide) (by decide)
 obtain ⟨ad3, B2, b2, B16, b16, rfl, _, _, _, _, _, _, _, _, _, _, _, _, _, _, _, _, y16, _, _, _, g16⟩ := at_T62 g3 0 (by decide) (by decide)
 obtain ⟨ad16, rfl, z10, z11⟩ := za4 g16 1 (by decide) (by decide)
 obtain ⟨ad16', e16, z30, z31⟩ := za4 g16 3 (by decide) (by decide)
 cases e16
 replace x2 : W.cell? ⟨(ad.add 0).block, (ad.add 0).off + 2, none⟩ = some (.int .i64 1) := x2
 simp only [add0] at x2
 replace x3 : W.cell? ⟨(ad.add 0).block, (ad.add 0).off + 3, none⟩ = some (.slice (some ad3) 1 c3) := x3
 simp only [add0] at x3
 replace y16 : W.cell? ⟨(ad3.add 0).block, (ad3.add 0).off + 16, none⟩ = some (.slice (some ad16) 4 b16) := y16
 simp only [add0] at y16
 replace z10 : W.cell? (ad16.add 2) = some (.int .i64 2) := z10
 rw [add2] at z10
 replace z11 : W.cell? ⟨(ad16.add 2).block, (ad16.add 2).off + 1, none⟩ = some (.string ⟨#[98]⟩) := z11
 rw [add2] at z11
 replace z30 : W.cell? (ad16.add 6) = some (.int .i64 3) := z30
 rw [add6] at z30
 clear g3 g16 z31
 have HD := z00.mk (fun V (h : LaidW V) => z28.calls 20 ⟨#[40, 40, 97, 41, 41]⟩ 2 V h aw_deep)
 go_wp2_with fail
 refine (HD.out W (HLW.out.below HB.out)).mono ?_
 rintro e w2 ⟨rfl, hb2⟩
 have HB2 := z00.mk (z1e HB.out HB.out.size hb2)
 clear hb2
 go_wp2
 go_ret
 exact ⟨rfl, HB2.out⟩

def Err {α : Type} (p : Prs α) : Prop := ∀ l q, p l = .error q → q.2 ≠ 0
theorem bnd_e {α β : Type} {p : Except (Nat × Int) (α × List TK)} {f : α → List TK → Except (Nat × Int) β} {q : Nat × Int} (h : bnd p f = .error q) : p = .error q ∨ ∃ x r, p = .ok (x, r) ∧ f x r = .error q := by
 cases p with
 | error e => exact Or.inl (show (Except.error e : Except (Nat × Int) (α × List TK)) = .error q by simp only [bnd] at h; injection h with h; rw [h])
 | ok y => exact Or.inr ⟨y.1, y.2, rfl, h⟩
theorem z7o : Err z1g := fun l q h => by
 cases l with
 | nil => simp only [z1g] at h; injection h with h; subst h; simp
 | cons t r =>
  simp only [z1g] at h
  split at h
  · cases h
  · injection h with h; subst h; simp
theorem err_want (s : List UInt8) : Err (wantP s) := fun l q h => by
 unfold wantP at h
 split at h
 · cases h
 · injection h with h; subst h; simp
theorem zew {s : List UInt8} {k : Int} {one : Prs (List StS)} (h1 : Err one) : ∀ (n : Nat) (acc : List StS), Err (rowL s k one n acc)
 | 0, acc => fun l q h => by simp only [rowL] at h; cases h
 | n + 1, acc => fun l q h => by
  simp only [rowL] at h
  split at h
  · rcases bnd_e h with h | ⟨x, r, _, h⟩
    · exact h1 _ q h
    · exact zew h1 n _ r q h
  · cases h
theorem zb2 {s : List UInt8} {k : Int} {one : Prs (List StS)} (h1 : Err one) : Err (rowP s k one) := fun l q h => by
 unfold rowP at h
 rcases bnd_e h with h | ⟨x, r, _, h⟩
 · exact h1 _ q h
 · exact zew h1 _ _ r q h
theorem zed {inner : Option (Prs (List StS))} (hi : ∀ p, inner = some p → Err p) : Err (partW inner) := fun l q h => by
 unfold partW at h
 rcases bnd_e h with h | ⟨x, r, _, h⟩
 · unfold baseP at h
   split at h
   · cases inner with
     | none => injection h with h; subst h; simp
     | some p =>
      rcases bnd_e h with h | ⟨x, r, _, h⟩
      · exact hi p rfl _ q h
      · rcases bnd_e h with h | ⟨x, r, _, h⟩
        · exact err_want _ _ q h
        · cases h
   · split at h
     · rcases bnd_e h with h | ⟨x, r, _, h⟩
       · exact z7o _ q h
       · cases h
     · rcases bnd_e h with h | ⟨x, r, _, h⟩
       · exact z7o _ q h
       · cases h
 · cases h
theorem zei : ∀ d, Err (partP d) ∧ Err (pathP d)
 | 0 => by
  have h : Err (partP 0) := zed (fun p h => by cases h)
  exact ⟨h, zb2 (zb2 h)⟩
 | d + 1 => by
  have h : Err (partP (d + 1)) := zed (fun p h => by injection h with h; subst h; exact (zei d).2)
  exact ⟨h, zb2 (zb2 h)⟩
theorem zfy : Err z4j := fun l q h => by
 unfold z4j at h
 rcases bnd_e h with h | ⟨x, r, _, h⟩
 · exact (zei 32).2 _ q h
 · 
   split at h
   · injection h with h; subst h; simp
   · cases h
theorem zc5 {full : List UInt8} : ∀ (l : List (Nat × Nat × Nat)) (a : Nat), covT nmL vlL full a l → ∀ x ∈ l, nextN nmL vlL (full.drop x.2.1) = some (x.1, x.2.2) ∧ x.2.1 + x.2.2 ≤ full.length ∧ 1 ≤ x.2.2
 | [], _, _ => fun x hx => by cases hx
 | y :: l, a, ⟨h1, h2, h3, h4, h5, h6, h7, h8⟩ => fun x hx => by
  rcases List.mem_cons.1 hx with rfl | hx
  · exact ⟨h6, h3, h2⟩
  · exact zc5 l _ h8 x hx
theorem zby (s : ByteArray) (x : Nat × Nat × Nat) : (tokS s x).f1.data.toList = (s.data.toList.drop x.2.1).take x.2.2 := by
 simp only [tokS]; rw [z3q, z3r]; simp
def TokOk (t : TK) : Prop := 0 < t.2.size ∧ (t.1 = 1 → t.2.data.toList ≠ [40] ∧ t.2.data.toList ≠ [41])
theorem tok_ok {s : ByteArray} {l : List (Nat × Nat × Nat)} (h : tokN nmL vlL 0 s.data.toList = .ok l) : ∀ x ∈ l, TokOk (tkOf (tokS s x)) := fun x hx => by
 have hc := tok_cov nmL vlL s.data.toList _ 0 l (Nat.le_refl _) (by simpa using h)
 obtain ⟨hn, hle, h1⟩ := zc5 l 0 hc x hx
 have ht := zby s x
 refine ⟨?_, fun h0 => ?_⟩
 · show 0 < (tokS s x).f1.size
   rw [← z0x, ht, List.length_take, List.length_drop]
   omega
 · have hk : x.1 = 1 := by
    have : ((x.1 : Nat) : Int) = 1 := h0
    omega
   rw [hk] at hn
   show (tokS s x).f1.data.toList ≠ [40] ∧ (tokS s x).f1.data.toList ≠ [41]
   rw [ht]
   cases hd : s.data.toList.drop x.2.1 with
   | nil => exact ⟨by simp, by simp⟩
   | cons c r =>
    rw [hd] at hn
    obtain ⟨hs, _⟩ := zh4 hn
    refine ⟨fun e => ?_, fun e => ?_⟩
    all_goals
     obtain ⟨m, hm⟩ : ∃ m, x.2.2 = m + 1 := ⟨x.2.2 - 1, by omega⟩
     rw [hm, List.take_succ_cons] at e
     injection e with e1 e2
     subst e1
     exact absurd hs (by decide)
theorem lex_ok {s : ByteArray} (hs : s.size ≤ 20000) (h : (z3m s).2.2 = 0) : (∀ t ∈ (z3m s).1.map tkOf, TokOk t) ∧ (z3m s).1.length ≤ s.size := by
 unfold z3m at h ⊢
 rw [if_neg (by omega)] at h ⊢
 unfold z7i at h ⊢
 cases ht : tokN nmL vlL 0 s.data.toList with
 | error i => rw [ht] at h; cases h
 | ok l =>
  simp only
  refine ⟨fun t hm => ?_, ?_⟩
  · rw [List.map_map, List.mem_map] at hm
    obtain ⟨x, hx, rfl⟩ := hm
    exact tok_ok ht x hx
  · have hn := z8l nmL vlL _ s.data.toList 0 l (Nat.le_refl _) ht
    rw [z0x] at hn
    simpa using hn
theorem mx8 (a b : Nat) : mx (a : Int) (b : Int) = ((max a b : Nat) : Int) := by unfold mx; split <;> omega
theorem zgw (ts : List S108) (hl : ts.length ≤ 20000) : ∀ (d i o m k : Nat), ts.length - i = d → i ≤ ts.length → d < k → o ≤ i → z28.l0 k (o : Int) (m : Int) ts (ts.length : Int) (i : Int) = some (((deepF (o, m) (txts ((ts.drop i).map tkOf))).2 : Nat) : Int) := by
 intro d
 induction d with
 | zero =>
  intro i o m k hd hi hk ho
  obtain ⟨k, rfl⟩ : ∃ j, k = j + 1 := ⟨k - 1, by omega⟩
  simp only [z28.l0]
  rw [if_neg (by omega), List.drop_eq_nil_of_le (by omega)]
  rfl
 | succ d ih =>
  intro i o m k hd hi hk ho
  obtain ⟨k, rfl⟩ : ∃ j, k = j + 1 := ⟨k - 1, by omega⟩
  have hlt : i < ts.length := by omega
  simp only [z28.l0]
  rw [if_pos (by omega), if_pos (by omega), if_pos (by omega)]
  have hr : z2p ts (i : Int) = ts[i] := by
   show ts.getD (Int.toNat (i : Int)) _ = _
   rw [Int.toNat_natCast, List.getD_eq_getElem?_getD, List.getElem?_eq_getElem hlt]
   rfl
  have hw1 : wrap64 ((i : Int) + 1) = ((i + 1 : Nat) : Int) := by unfold wrap64; omega
  have hw2 : wrap64 ((o : Int) + 1) = ((o + 1 : Nat) : Int) := by unfold wrap64; omega
  have hw3 : mx 0 (wrap64 ((o : Int) - 1)) = ((o - 1 : Nat) : Int) := by
   have : wrap64 ((o : Int) - 1) = (o : Int) - 1 := by unfold wrap64; omega
   rw [this]; unfold mx; split <;> omega
  have hf : deepF (o, m) (txts ((ts.drop i).map tkOf)) = deepF (deep1 (o, m) (ts[i].f1.data.toList)) (txts ((ts.drop (i + 1)).map tkOf)) := by
   rw [List.drop_eq_getElem_cons hlt]
   rfl
  rw [hr, hw1, hw2, hw3, hf, z2g]
  by_cases h40 : ts[i].f1.data.toList = [40]
  · rw [if_pos h40, mx8, ih (i + 1) (o + 1) (max m (o + 1)) k (by omega) (by omega) (by omega) (by omega)]
    unfold deep1
    rw [if_pos h40]
  · rw [if_neg h40]
    by_cases h41 : ts[i].f1.data.toList = [41]
    · rw [if_pos h41, mx8, ih (i + 1) (o - 1) (max m (o - 1)) k (by omega) (by omega) (by omega) (by omega)]
      unfold deep1
      rw [if_neg h40, if_pos h41]
    · rw [if_neg h41, mx8, ih (i + 1) o (max m o) k (by omega) (by omega) (by omega) (by omega)]
      unfold deep1
      rw [if_neg h40, if_neg h41]
theorem deep_f (s : ByteArray) (hs : s.size ≤ 20000) (hl : (z3m s).1.length ≤ 20000) : z28.f ((z3m s).1.length + 1) s = some (((deepF (0, 0) (txts ((z3m s).1.map tkOf))).2 : Nat) : Int) := by
 unfold z28.f
 rw [lex_f s (by omega)]
 exact zgw (z3m s).1 hl _ 0 0 0 _ rfl (Nat.zero_le _) (by omega) (Nat.le_refl _)
theorem all_ok8 {α : Type} {p : Prs α} {l : List TK} {x : α} (h : allP p l = .ok x) : p l = .ok (x, []) := by
 unfold allP at h
 split at h
 · cases h
 · rename_i y hy; rw [hy]; injection h with h; rw [h]
 · cases h
theorem all_err {α : Type} {p : Prs α} (hp : Err p) {l : List TK} {q : Nat × Int} (h : allP p l = .error q) : q.2 ≠ 0 := by
 unfold allP at h
 split at h
 · rename_i e he; injection h with h; rw [← h]; exact hp l e he
 · cases h
 · injection h with h; subst h; simp
theorem zf5 {s : ByteArray} (hs : s.size ≤ 20000) {l : List StS} {a e : Int} (h : z4m.f s = some (l, a, e)) :
 (e ≠ 0 ∧ l = []) ∨ (e = 0 ∧ z4p 0 l = some 1 ∧ l.length ≤ 100 ∧ ∃ k d, (d : Nat) ≤ 32 ∧ z28.f k s = some (d : Int)) := by
 unfold z4m.f at h
 rw [if_pos (by omega)] at h
 replace h := Option.some.inj h
 unfold z34 at h
 by_cases h0 : (z3m s).2.2 = 0
 · rw [if_pos h0] at h
   obtain ⟨hT, hn⟩ := lex_ok hs h0
   cases hA : allP z4j ((z3m s).1.map tkOf) with
   | error q =>
    rw [hA] at h
    injection h with h1 h; injection h with h2 h3
    exact Or.inl ⟨by rw [← h3]; exact all_err zfy hA, h1.symm⟩
   | ok x =>
    rw [hA] at h
    injection h with h1 h; injection h with h2 h3
    have h1 : x = l := h1
    subst h1
    obtain ⟨hp, hlen⟩ := whole_of (all_ok8 hA)
    refine Or.inr ⟨h3.symm, ?_, hlen, ?_⟩
    · have := (path_one 32 _ _ _ (fun t ht => (hT t ht).1) hp).1 0 (by omega)
      simpa using this
    · obtain ⟨u, hu, hd⟩ := zg1 32 _ _ _ (fun t ht => (hT t ht).2) hp
      rw [List.append_nil] at hu
      obtain ⟨m, e1, _, e2⟩ := hd 0 0 (Nat.le_refl _)
      refine ⟨_, m, by omega, (deep_f s hs (by omega)).trans ?_⟩
      rw [hu, e1]
 · rw [if_neg h0] at h
   injection h with h1 h; injection h with h2 h3
   exact Or.inl ⟨by rw [← h3]; exact h0, h1.symm⟩
end Go.Proofs.YthebhbomlllpeaaGreatDoor.X
namespace Go.Proofs.YthebhbomlllpeaaGreatDoor.X
abbrev Pc := List UInt8 × Int

abbrev tkO (s : List UInt8) : Option (List TK) := toksO nmL vlL s
def DeepE (d : Nat) (u : List (List UInt8)) : Prop := ∀ o m, o ≤ m → deepF (o, m) u = (o, max m (o + d))
def P3 (D : Nat) (ts : List TK) (l : List StS) : Prop := ∀ r, partP D (ts ++ r) = .ok (l ++ (z1b r).1, (z1b r).2)
def P2 (D : Nat) (ts : List TK) (l : List StS) : Prop := ∀ r, z1b r = ([], r) → rowP [47] 3 (partP D) (ts ++ r) = rowL [47] 3 (partP D) r.length l r
def P1 (D : Nat) (ts : List TK) (l : List StS) : Prop := ∀ r, z1b r = ([], r) → mk0 r [47] = false → pathP D (ts ++ r) = rowL [124] 4 (rowP [47] 3 (partP D)) r.length l r
theorem zge {s : List UInt8} {k : Int} {one : Prs (List StS)} (n : Nat) (acc : List StS) {l : List TK} (h : mk0 l s = false) : rowL s k one n acc l = .ok (acc, l) := by
 cases n with
 | zero => rfl
 | succ n => simp only [rowL, h, Bool.false_eq_true, if_false]
theorem part_any (D : Nat) : ∃ o, partP D = partW o := by
 cases D with
 | zero => exact ⟨_, rfl⟩
 | succ D => exact ⟨_, rfl⟩
def Lv (b : Int) (D : Nat) (ts : List TK) (l : List StS) : Prop := (b = 3 → P3 D ts l) ∧ (2 ≤ b → P2 D ts l) ∧ P1 D ts l
structure PInv (p : Pc) (l : List StS) (d : Nat) : Prop where
 mk ::
 ne : p.1 ≠ []
 lo : 1 ≤ p.2
 hi : p.2 ≤ 3
 tk : ∃ ts, tkO p.1 = some ts ∧ DeepE d (txts ts) ∧ ∀ D, d ≤ D → Lv p.2 D ts l
end Go.Proofs.YthebhbomlllpeaaGreatDoor.X
namespace Go.Proofs.YthebhbomlllpeaaGreatDoor.X
open Go.RowKit Go.Proofs.YthebhbomlllpeaaGreatDoorW.PrintWords Go.Proofs.YthebhbomlllpeaaGreatDoorW.PrintLast Go.Proofs.YthebhbomlllpeaaGreatDoorW.PrintMore
attribute [local go_sem] z4f z4g z50 z52 z3o z3p z4a z4b
theorem eqA58 (d : Nat) (w : World) (x0 y0 : Int) (x1 y1 : Int) (x2 y2 : ByteArray) :
 (Op.equalIn (d + 2) 58 (.agg #[.int .i64 x0, .int .i64 x1, .string x2]) (.agg #[.int .i64 y0, .int .i64 y1, .string y2])).run Tryz.prog w = .ok (x0 == y0 && (x1 == y1 && (x2.toList == y2.toList))) w := by
 refine zhn Tryz.underlying58 (by kernel_rfl) ?_
 refine z8e (by rfl) (by go_simp; rfl) (by go_simp; rfl) (by go_simp) ?_
 refine z8e (by rfl) (by go_simp; rfl) (by go_simp; rfl) (by go_simp) ?_
 exact zba (by rfl) (by go_simp; rfl) (by go_simp; rfl) (by go_simp)
end Go.Proofs.YthebhbomlllpeaaGreatDoor.X
namespace Go.Proofs.YthebhbomlllpeaaGreatDoor.X
open Go.RowKit Go.Proofs.YthebhbomlllpeaaGreatDoorW.PrintWords Go.Proofs.YthebhbomlllpeaaGreatDoorW.PrintLast Go.Proofs.YthebhbomlllpeaaGreatDoorW.PrintMore
attribute [local go_sem] z4f z4g z50 z52 z3o z3p z4a z4b
attribute [local go_sem high] eqA58
def z1l.f (a0_0 : Int) (a0_1 : Int) (a0_2 : ByteArray) : Option (Bool) := if a0_0 = 1 then (some (a0_2.toList == ([] : List UInt8))) else (if a0_0 = 2 then (if a0_2.toList = ([] : List UInt8) then ((z2m.f a0_1).bind fun t154 => (some t154)) else (some false)) else (if a0_0 = 3 then (if a0_1 = 0 then ((z1p.f a0_2).bind fun t155 => (some t155)) else (some false)) else (some false)))
set_option maxHeartbeats 8000000 in
set_option maxRecDepth 100000 in
theorem z1l.calls (a0_0 : Int) (a0_1 : Int) (a0_2 : ByteArray) (r : Bool) (w : World) (h : z1l.f a0_0 a0_1 a0_2 = some r) :
 Calls Tryz.prog 112 #[.agg #[.int .i64 a0_0, .int .i64 a0_1, .string a0_2]] w fun e w' => e = .returned (.bool r) ∧ Below w.heap.size w w' := by
 have hu58 := Tryz.underlying58
 have HB := z00.mk (Below.refl w.heap.size w)
 have H : (if a0_0 = 1 then (some (a0_2.toList == ([] : List UInt8))) else (if a0_0 = 2 then (if a0_2.toList = ([] : List UInt8) then ((z2m.f a0_1).bind fun t154 => (some t154)) else (some false)) else (if a0_0 = 3 then (if a0_1 = 0 then ((z1p.f a0_2).bind fun t155 => (some t155)) else (some false)) else (some false)))) = some r := h
 clear h
 by_cases c2 : a0_0 = 1
 · rw [if_pos c2] at H
   have c2b0 : (a0_0 == 1) = true := beq_iff_eq.mpr c2
   have c2b1 : (a0_0 != 1) = false := bne_eq_false_iff_eq.mpr c2
   clear c2
   obtain rfl := Option.some.inj H
   go_enter Tryz.func112, Tryz.ntmps112
   go_wp2_with (first | ((with_reducible refine z2e (N := 1) rfl ?_); refine z2j ?hg (N := 1) ?hd (cs := #[.int .i64 a0_0, .int .i64 a0_1, .string a0_2]) (t := 58) ?hr ?_; (case hd => rfl); (case hg => rfl); (case hr => first | (go_simp; done) | (go_simp; rfl)); intro gb153 hg w3 hbox hb; have n0_ := z00.mk (z0z (by repeat (first | (with_reducible first | exact HB.out | apply z04 | apply z01 | apply z05) | exact HB.out)) hb); have n1_ := z00.mk (hbox); have n2_ := z00.mk ((by rw [hg]; exact (z13 (by repeat (first | (with_reducible first | exact HB.out | apply z04 | apply z01 | apply z05) | exact HB.out))) : w.heap.size ≤ gb153)); have n3_ := z00.mk ((by rw [hg]; exact (z13 (by repeat (first | (with_reducible first | exact HB.out | apply z04 | apply z01 | apply z05) | exact HB.out))) : w.heap.size ≤ gb153)); clear HB; have HB := n0_; have BK153 := n1_; have GW153 := n2_; have GE153 := n3_; clear n0_ n1_ n2_ n3_; clear hb hbox hg; have hcz4_0 : w3.cell? ⟨gb153, 0, none⟩ = some (.int .i64 a0_0) := (z03 BK153.out 0).trans rfl; have hcz4_1 : w3.cell? ⟨gb153, 1, none⟩ = some (.int .i64 a0_1) := (z03 BK153.out 1).trans rfl; have hcz4_2 : w3.cell? ⟨gb153, 2, none⟩ = some (.string a0_2) := (z03 BK153.out 2).trans rfl; have hfz4_0 := z02 BK153.out 0; have hfz4_1 := z02 BK153.out 1; have hfz4_2 := z02 BK153.out 2))
   go_ret
   exact ⟨by first | rfl | (simp [z0n, z0o] <;> rfl) | (simp [*, z0n, z0o] <;> rfl), by repeat (first | (with_reducible first | exact HB.out | apply z04 | apply z01 | apply z05 | refine z07 ?_ GE153.out) | exact HB.out)⟩
 · rw [if_neg c2] at H
   have c2b0 : (a0_0 == 1) = false := beq_eq_false_iff_ne.mpr c2
   have c2b1 : (a0_0 != 1) = true := bne_iff_ne.mpr c2
   by_cases c5 : a0_0 = 2
   · rw [if_pos c5] at H
     have c5b0 : (a0_0 == 2) = true := beq_iff_eq.mpr c5
     have c5b1 : (a0_0 != 2) = false := bne_eq_false_iff_eq.mpr c5
     clear c5
     by_cases c6 : a0_2.toList = ([] : List UInt8)
     · rw [if_pos c6] at H
       have c6b0 : (a0_2.toList == ([] : List UInt8)) = true := beq_iff_eq.mpr c6
       have c6b1 : (a0_2.toList != ([] : List UInt8)) = false := bne_eq_false_iff_eq.mpr c6
       clear c6
       replace H := Option.bind_eq_some_iff.mp H
       obtain ⟨t154, A70, H⟩ := H
       replace H : (some t154) = some r := H
       have A7 := z00.mk A70
       clear A70
       obtain rfl := Option.some.inj H
       go_enter Tryz.func112, Tryz.ntmps112
       go_wp2_with (first | ((with_reducible refine z2e (N := 1) rfl ?_); refine z2j ?hg (N := 1) ?hd (cs := #[.int .i64 a0_0, .int .i64 a0_1, .string a0_2]) (t := 58) ?hr ?_; (case hd => rfl); (case hg => rfl); (case hr => first | (go_simp; done) | (go_simp; rfl)); intro gb153 hg w8 hbox hb; have n0_ := z00.mk (z0z (by repeat (first | (with_reducible first | exact HB.out | apply z04 | apply z01 | apply z05) | exact HB.out)) hb); have n1_ := z00.mk (hbox); have n2_ := z00.mk ((by rw [hg]; exact (z13 (by repeat (first | (with_reducible first | exact HB.out | apply z04 | apply z01 | apply z05) | exact HB.out))) : w.heap.size ≤ gb153)); have n3_ := z00.mk ((by rw [hg]; exact (z13 (by repeat (first | (with_reducible first | exact HB.out | apply z04 | apply z01 | apply z05) | exact HB.out))) : w.heap.size ≤ gb153)); clear HB; have HB := n0_; have BK153 := n1_; have GW153 := n2_; have GE153 := n3_; clear n0_ n1_ n2_ n3_; clear hb hbox hg; have hcz9_0 : w8.cell? ⟨gb153, 0, none⟩ = some (.int .i64 a0_0) := (z03 BK153.out 0).trans rfl; have hcz9_1 : w8.cell? ⟨gb153, 1, none⟩ = some (.int .i64 a0_1) := (z03 BK153.out 1).trans rfl; have hcz9_2 : w8.cell? ⟨gb153, 2, none⟩ = some (.string a0_2) := (z03 BK153.out 2).trans rfl; have hfz9_0 := z02 BK153.out 0; have hfz9_1 := z02 BK153.out 1; have hfz9_2 := z02 BK153.out 2) | (go_at_call 146; (with_reducible refine (z2m.calls a0_1 t154 _ A7.out).mono ?_); rintro e w' ⟨rfl, ⟨nd, rfl⟩⟩))
       go_ret
       exact ⟨by first | rfl | (simp [z0n, z0o] <;> rfl) | (simp [*, z0n, z0o] <;> rfl), by repeat (first | (with_reducible first | exact HB.out | apply z04 | apply z01 | apply z05 | refine z07 ?_ GE153.out) | exact HB.out)⟩
     · rw [if_neg c6] at H
       have c6b0 : (a0_2.toList == ([] : List UInt8)) = false := beq_eq_false_iff_ne.mpr c6
       have c6b1 : (a0_2.toList != ([] : List UInt8)) = true := bne_iff_ne.mpr c6
       obtain rfl := Option.some.inj H
       go_enter Tryz.func112, Tryz.ntmps112
       go_wp2_with (first | ((with_reducible refine z2e (N := 1) rfl ?_); refine z2j ?hg (N := 1) ?hd (cs := #[.int .i64 a0_0, .int .i64 a0_1, .string a0_2]) (t := 58) ?hr ?_; (case hd => rfl); (case hg => rfl); (case hr => first | (go_simp; done) | (go_simp; rfl)); intro gb153 hg w10 hbox hb; have n0_ := z00.mk (z0z (by repeat (first | (with_reducible first | exact HB.out | apply z04 | apply z01 | apply z05) | exact HB.out)) hb); have n1_ := z00.mk (hbox); have n2_ := z00.mk ((by rw [hg]; exact (z13 (by repeat (first | (with_reducible first | exact HB.out | apply z04 | apply z01 | apply z05) | exact HB.out))) : w.heap.size ≤ gb153)); have n3_ := z00.mk ((by rw [hg]; exact (z13 (by repeat (first | (with_reducible first | exact HB.out | apply z04 | apply z01 | apply z05) | exact HB.out))) : w.heap.size ≤ gb153)); clear HB; have HB := n0_; have BK153 := n1_; have GW153 := n2_; have GE153 := n3_; clear n0_ n1_ n2_ n3_; clear hb hbox hg; have hcz11_0 : w10.cell? ⟨gb153, 0, none⟩ = some (.int .i64 a0_0) := (z03 BK153.out 0).trans rfl; have hcz11_1 : w10.cell? ⟨gb153, 1, none⟩ = some (.int .i64 a0_1) := (z03 BK153.out 1).trans rfl; have hcz11_2 : w10.cell? ⟨gb153, 2, none⟩ = some (.string a0_2) := (z03 BK153.out 2).trans rfl; have hfz11_0 := z02 BK153.out 0; have hfz11_1 := z02 BK153.out 1; have hfz11_2 := z02 BK153.out 2))
       go_ret
       exact ⟨by first | rfl | (simp [z0n, z0o] <;> rfl) | (simp [*, z0n, z0o] <;> rfl), by repeat (first | (with_reducible first | exact HB.out | apply z04 | apply z01 | apply z05 | refine z07 ?_ GE153.out) | exact HB.out)⟩
   · rw [if_neg c5] at H
     have c5b0 : (a0_0 == 2) = false := beq_eq_false_iff_ne.mpr c5
     have c5b1 : (a0_0 != 2) = true := bne_iff_ne.mpr c5
     by_cases c12 : a0_0 = 3
     · rw [if_pos c12] at H
       have c12b0 : (a0_0 == 3) = true := beq_iff_eq.mpr c12
       have c12b1 : (a0_0 != 3) = false := bne_eq_false_iff_eq.mpr c12
       clear c12
       by_cases c13 : a0_1 = 0
       · rw [if_pos c13] at H
         have c13b0 : (a0_1 == 0) = true := beq_iff_eq.mpr c13
         have c13b1 : (a0_1 != 0) = false := bne_eq_false_iff_eq.mpr c13
         clear c13
         replace H := Option.bind_eq_some_iff.mp H
         obtain ⟨t155, A140, H⟩ := H
         replace H : (some t155) = some r := H
         have A14 := z00.mk A140
         clear A140
         obtain rfl := Option.some.inj H
         go_enter Tryz.func112, Tryz.ntmps112
         go_wp2_with (first | ((with_reducible refine z2e (N := 1) rfl ?_); refine z2j ?hg (N := 1) ?hd (cs := #[.int .i64 a0_0, .int .i64 a0_1, .string a0_2]) (t := 58) ?hr ?_; (case hd => rfl); (case hg => rfl); (case hr => first | (go_simp; done) | (go_simp; rfl)); intro gb153 hg w15 hbox hb; have n0_ := z00.mk (z0z (by repeat (first | (with_reducible first | exact HB.out | apply z04 | apply z01 | apply z05) | exact HB.out)) hb); have n1_ := z00.mk (hbox); have n2_ := z00.mk ((by rw [hg]; exact (z13 (by repeat (first | (with_reducible first | exact HB.out | apply z04 | apply z01 | apply z05) | exact HB.out))) : w.heap.size ≤ gb153)); have n3_ := z00.mk ((by rw [hg]; exact (z13 (by repeat (first | (with_reducible first | exact HB.out | apply z04 | apply z01 | apply z05) | exact HB.out))) : w.heap.size ≤ gb153)); clear HB; have HB := n0_; have BK153 := n1_; have GW153 := n2_; have GE153 := n3_; clear n0_ n1_ n2_ n3_; clear hb hbox hg; have hcz16_0 : w15.cell? ⟨gb153, 0, none⟩ = some (.int .i64 a0_0) := (z03 BK153.out 0).trans rfl; have hcz16_1 : w15.cell? ⟨gb153, 1, none⟩ = some (.int .i64 a0_1) := (z03 BK153.out 1).trans rfl; have hcz16_2 : w15.cell? ⟨gb153, 2, none⟩ = some (.string a0_2) := (z03 BK153.out 2).trans rfl; have hfz16_0 := z02 BK153.out 0; have hfz16_1 := z02 BK153.out 1; have hfz16_2 := z02 BK153.out 2) | (go_at_call 99; (with_reducible refine (z1p.calls a0_2 t155 _ A14.out).mono ?_); rintro e w17 ⟨rfl, hb⟩; have n0_ := z00.mk (z0r (g := gb153) (o := .cells #[.int .i64 a0_0, .int .i64 a0_1, .string a0_2] 58 (0, 0)) (by (with_reducible repeat (first | refine z12 ?_ _ | refine z0y ?_ | refine z0k ?_ _)); exact BK153.out) hb); have n1_ := z00.mk (z0z (by repeat (first | (with_reducible first | exact HB.out | apply z04 | apply z01 | apply z05 | refine z07 ?_ GE153.out) | exact HB.out)) hb); clear BK153; clear HB; have BK153 := n0_; have HB := n1_; clear n0_ n1_; (try clear hb); (try clear hb2); (try clear hk); (try clear hi)))
         go_ret
         exact ⟨by first | rfl | (simp [z0n, z0o] <;> rfl) | (simp [*, z0n, z0o] <;> rfl), by repeat (first | (with_reducible first | exact HB.out | apply z04 | apply z01 | apply z05 | refine z07 ?_ GE153.out) | exact HB.out)⟩
       · rw [if_neg c13] at H
         have c13b0 : (a0_1 == 0) = false := beq_eq_false_iff_ne.mpr c13
         have c13b1 : (a0_1 != 0) = true := bne_iff_ne.mpr c13
         obtain rfl := Option.some.inj H
         go_enter Tryz.func112, Tryz.ntmps112
         go_wp2_with (first | ((with_reducible refine z2e (N := 1) rfl ?_); refine z2j ?hg (N := 1) ?hd (cs := #[.int .i64 a0_0, .int .i64 a0_1, .string a0_2]) (t := 58) ?hr ?_; (case hd => rfl); (case hg => rfl); (case hr => first | (go_simp; done) | (go_simp; rfl)); intro gb153 hg w18 hbox hb; have n0_ := z00.mk (z0z (by repeat (first | (with_reducible first | exact HB.out | apply z04 | apply z01 | apply z05) | exact HB.out)) hb); have n1_ := z00.mk (hbox); have n2_ := z00.mk ((by rw [hg]; exact (z13 (by repeat (first | (with_reducible first | exact HB.out | apply z04 | apply z01 | apply z05) | exact HB.out))) : w.heap.size ≤ gb153)); have n3_ := z00.mk ((by rw [hg]; exact (z13 (by repeat (first | (with_reducible first | exact HB.out | apply z04 | apply z01 | apply z05) | exact HB.out))) : w.heap.size ≤ gb153)); clear HB; have HB := n0_; have BK153 := n1_; have GW153 := n2_; have GE153 := n3_; clear n0_ n1_ n2_ n3_; clear hb hbox hg; have hcz19_0 : w18.cell? ⟨gb153, 0, none⟩ = some (.int .i64 a0_0) := (z03 BK153.out 0).trans rfl; have hcz19_1 : w18.cell? ⟨gb153, 1, none⟩ = some (.int .i64 a0_1) := (z03 BK153.out 1).trans rfl; have hcz19_2 : w18.cell? ⟨gb153, 2, none⟩ = some (.string a0_2) := (z03 BK153.out 2).trans rfl; have hfz19_0 := z02 BK153.out 0; have hfz19_1 := z02 BK153.out 1; have hfz19_2 := z02 BK153.out 2))
         go_ret
         exact ⟨by first | rfl | (simp [z0n, z0o] <;> rfl) | (simp [*, z0n, z0o] <;> rfl), by repeat (first | (with_reducible first | exact HB.out | apply z04 | apply z01 | apply z05 | refine z07 ?_ GE153.out) | exact HB.out)⟩
     · rw [if_neg c12] at H
       have c12b0 : (a0_0 == 3) = false := beq_eq_false_iff_ne.mpr c12
       have c12b1 : (a0_0 != 3) = true := bne_iff_ne.mpr c12
       obtain rfl := Option.some.inj H
       go_enter Tryz.func112, Tryz.ntmps112
       go_wp2_with (first | ((with_reducible refine z2e (N := 1) rfl ?_); refine z2j ?hg (N := 1) ?hd (cs := #[.int .i64 a0_0, .int .i64 a0_1, .string a0_2]) (t := 58) ?hr ?_; (case hd => rfl); (case hg => rfl); (case hr => first | (go_simp; done) | (go_simp; rfl)); intro gb153 hg w20 hbox hb; have n0_ := z00.mk (z0z (by repeat (first | (with_reducible first | exact HB.out | apply z04 | apply z01 | apply z05) | exact HB.out)) hb); have n1_ := z00.mk (hbox); have n2_ := z00.mk ((by rw [hg]; exact (z13 (by repeat (first | (with_reducible first | exact HB.out | apply z04 | apply z01 | apply z05) | exact HB.out))) : w.heap.size ≤ gb153)); have n3_ := z00.mk ((by rw [hg]; exact (z13 (by repeat (first | (with_reducible first | exact HB.out | apply z04 | apply z01 | apply z05) | exact HB.out))) : w.heap.size ≤ gb153)); clear HB; have HB := n0_; have BK153 := n1_; have GW153 := n2_; have GE153 := n3_; clear n0_ n1_ n2_ n3_; clear hb hbox hg; have hcz21_0 : w20.cell? ⟨gb153, 0, none⟩ = some (.int .i64 a0_0) := (z03 BK153.out 0).trans rfl; have hcz21_1 : w20.cell? ⟨gb153, 1, none⟩ = some (.int .i64 a0_1) := (z03 BK153.out 1).trans rfl; have hcz21_2 : w20.cell? ⟨gb153, 2, none⟩ = some (.string a0_2) := (z03 BK153.out 2).trans rfl; have hfz21_0 := z02 BK153.out 0; have hfz21_1 := z02 BK153.out 1; have hfz21_2 := z02 BK153.out 2))
       go_ret
       exact ⟨by first | rfl | (simp [z0n, z0o] <;> rfl) | (simp [*, z0n, z0o] <;> rfl), by repeat (first | (with_reducible first | exact HB.out | apply z04 | apply z01 | apply z05 | refine z07 ?_ GE153.out) | exact HB.out)⟩
def z6x.f (k : Nat) (a0_0 : ByteArray) (a0_1 : Int) (a0_2 : Int) (a0_3 : ByteArray) : Option (Bool) := if a0_0.toList = ([] : List UInt8) then ((z1l.f a0_1 a0_2 a0_3).bind fun t157 => (some t157)) else ((z0f.f k a0_0).bind fun t158 => (if t158 = true then (some (a0_1 == 0 && (a0_2 == 0 && (a0_3.toList == ([] : List UInt8))))) else (some false)))
mutual
def z3d.j0 : Nat → Bool → ByteArray → List (S60) → Option (Bool)
 | 0, _, _, _ => none
 | k + 1, x13, x160000, x160001 => if x13 = true then (some false) else (z3d.l0 k (x160001.length : Int) 0 x160000 x160001)
def z3d.l0 : Nat → Int → Int → ByteArray → List (S60) → Option (Bool)
 | 0, _, _, _, _ => none
 | k + 1, x16, x17, x160000, x160001 => if x17 < x16 then (if 0 ≤ x17 then (if x17 < (x160001.length : Int) then ((z6x.f k ((z6e x160001 x17).f0) ((z6e x160001 x17).f1.f0) ((z6e x160001 x17).f1.f1) ((z6e x160001 x17).f1.f2)).bind fun t162 => (if t162 = true then (z3d.l0 k x16 (wrap64 (x17 + 1)) x160000 x160001) else (some false))) else (none)) else (none)) else (some true)
end
def z0w.l0 : Nat → ByteArray → Option (ByteArray)
 | 0, _ => none
 | k + 1, x3 => if (x3.size : Int) < 16 then (if 1 + x3.size ≤ 9223372036854775807 then (z0w.l0 k ((⟨#[48]⟩ : ByteArray) ++ x3)) else (none)) else (if 1 + x3.size ≤ 9223372036854775807 then (some ((⟨#[35]⟩ : ByteArray) ++ x3)) else (none))
def z0w.f (k : Nat) (a0_0 : Int) (a0_1 : Int) (a0_2 : ByteArray) : Option (ByteArray) := (z1l.f a0_0 a0_1 a0_2).bind fun t170 => (if t170 = true then (if a0_0 = 1 then (if a0_1 < 0 then ((z0a.f k (IntKind.u64.wrap (-(IntKind.u64.wrap (a0_1)))) 10).bind fun t171 => (if 1 + t171.size ≤ 9223372036854775807 then (some ((⟨#[45]⟩ : ByteArray) ++ t171)) else (none))) else ((z0a.f k (IntKind.u64.wrap (a0_1)) 10).bind fun t172 => (some t172))) else (if a0_0 = 2 then ((z0a.f k (IntKind.u64.wrap (a0_1)) 16).bind fun t173 => (z0w.l0 k t173)) else (some a0_2))) else (some (⟨#[]⟩ : ByteArray)))
set_option maxHeartbeats 8000000 in
set_option maxRecDepth 100000 in
theorem z0w.calls (k : Nat) (a0_0 : Int) (a0_1 : Int) (a0_2 : ByteArray) (r : ByteArray) (w : World) (h : z0w.f k a0_0 a0_1 a0_2 = some r) :
 Calls Tryz.prog 113 #[.agg #[.int .i64 a0_0, .int .i64 a0_1, .string a0_2]] w fun e w' => e = .returned (.string r) ∧ Below w.heap.size w w' := by
 have hu58 := Tryz.underlying58
 have HB := z00.mk (Below.refl w.heap.size w)
 have H : ((z1l.f a0_0 a0_1 a0_2).bind fun t170 => (if t170 = true then (if a0_0 = 1 then (if a0_1 < 0 then ((z0a.f k (IntKind.u64.wrap (-(IntKind.u64.wrap (a0_1)))) 10).bind fun t171 => (if 1 + t171.size ≤ 9223372036854775807 then (some ((⟨#[45]⟩ : ByteArray) ++ t171)) else (none))) else ((z0a.f k (IntKind.u64.wrap (a0_1)) 10).bind fun t172 => (some t172))) else (if a0_0 = 2 then ((z0a.f k (IntKind.u64.wrap (a0_1)) 16).bind fun t173 => (z0w.l0 k t173)) else (some a0_2))) else (some (⟨#[]⟩ : ByteArray)))) = some r := h
 clear h
 replace H := Option.bind_eq_some_iff.mp H
 obtain ⟨t170, A20, H⟩ := H
 replace H : (if t170 = true then (if a0_0 = 1 then (if a0_1 < 0 then ((z0a.f k (IntKind.u64.wrap (-(IntKind.u64.wrap (a0_1)))) 10).bind fun t171 => (if 1 + t171.size ≤ 9223372036854775807 then (some ((⟨#[45]⟩ : ByteArray) ++ t171)) else (none))) else ((z0a.f k (IntKind.u64.wrap (a0_1)) 10).bind fun t172 => (some t172))) else (if a0_0 = 2 then ((z0a.f k (IntKind.u64.wrap (a0_1)) 16).bind fun t173 => (z0w.l0 k t173)) else (some a0_2))) else (some (⟨#[]⟩ : ByteArray))) = some r := H
 have A2 := z00.mk A20
 clear A20
 by_cases c3 : t170 = true
 · subst c3
   have H1 : (if a0_0 = 1 then (if a0_1 < 0 then ((z0a.f k (IntKind.u64.wrap (-(IntKind.u64.wrap (a0_1)))) 10).bind fun t171 => (if 1 + t171.size ≤ 9223372036854775807 then (some ((⟨#[45]⟩ : ByteArray) ++ t171)) else (none))) else ((z0a.f k (IntKind.u64.wrap (a0_1)) 10).bind fun t172 => (some t172))) else (if a0_0 = 2 then ((z0a.f k (IntKind.u64.wrap (a0_1)) 16).bind fun t173 => (z0w.l0 k t173)) else (some a0_2))) = some r := by rw [if_pos rfl] at H; exact H
   clear H
   have H := H1
   clear H1
   by_cases c4 : a0_0 = 1
   · rw [if_pos c4] at H
     have c4b0 : (a0_0 == 1) = true := beq_iff_eq.mpr c4
     have c4b1 : (a0_0 != 1) = false := bne_eq_false_iff_eq.mpr c4
     clear c4
     by_cases c5 : a0_1 < 0
     · rw [if_pos c5] at H
       have c5b0 : decide (a0_1 < 0) = true := decide_eq_true c5
       clear c5
       replace H := Option.bind_eq_some_iff.mp H
       obtain ⟨t171, A60, H⟩ := H
       replace H : (if 1 + t171.size ≤ 9223372036854775807 then (some ((⟨#[45]⟩ : ByteArray) ++ t171)) else (none)) = some r := H
       have A6 := z00.mk A60
       clear A60
       by_cases c7 : 1 + t171.size ≤ 9223372036854775807
       · rw [if_pos c7] at H
         have c7b0 := eq_true c7
         have c7b1 : decide (1 + t171.size ≤ 9223372036854775807) = true := decide_eq_true c7
         try have c7b2 : (9223372036854775807 < 1 + t171.size) = False := eq_false (Nat.not_lt.2 c7)
         obtain rfl := Option.some.inj H
         go_enter Tryz.func113, Tryz.ntmps113
         go_wp2_with (first | ((with_reducible refine z2e (N := 1) rfl ?_); refine z2j ?hg (N := 1) ?hd (cs := #[.int .i64 a0_0, .int .i64 a0_1, .string a0_2]) (t := 58) ?hr ?_; (case hd => rfl); (case hg => rfl); (case hr => first | (go_simp; done) | (go_simp; rfl)); intro gb169 hg w8 hbox hb; have n0_ := z00.mk (z0z (by repeat (first | (with_reducible first | exact HB.out | apply z04 | apply z01 | apply z05) | exact HB.out)) hb); have n1_ := z00.mk (hbox); have n2_ := z00.mk ((by rw [hg]; exact (z13 (by repeat (first | (with_reducible first | exact HB.out | apply z04 | apply z01 | apply z05) | exact HB.out))) : w.heap.size ≤ gb169)); have n3_ := z00.mk ((by rw [hg]; exact (z13 (by repeat (first | (with_reducible first | exact HB.out | apply z04 | apply z01 | apply z05) | exact HB.out))) : w.heap.size ≤ gb169)); clear HB; have HB := n0_; have BK169 := n1_; have GW169 := n2_; have GE169 := n3_; clear n0_ n1_ n2_ n3_; clear hb hbox hg; have hcz9_0 : w8.cell? ⟨gb169, 0, none⟩ = some (.int .i64 a0_0) := (z03 BK169.out 0).trans rfl; have hcz9_1 : w8.cell? ⟨gb169, 1, none⟩ = some (.int .i64 a0_1) := (z03 BK169.out 1).trans rfl; have hcz9_2 : w8.cell? ⟨gb169, 2, none⟩ = some (.string a0_2) := (z03 BK169.out 2).trans rfl; have hfz9_0 := z02 BK169.out 0; have hfz9_1 := z02 BK169.out 1; have hfz9_2 := z02 BK169.out 2) | ((with_reducible refine z0s (f := 112) rfl ?_); refine z1r (some 5) rfl rfl Tryz.func112 (by kernel_rfl) rfl #[.agg #[.int .i64 a0_0, .int .i64 a0_1, .string a0_2]] rfl (by (try simp only [List.map_toArray, List.map_cons, List.map_nil]); first | done | rfl | (simp only [List.length_drop, List.length_take]; rfl)) ?_; (with_reducible refine (z1l.calls a0_0 a0_1 a0_2 true _ A2.out).mono ?_); rintro e w10 ⟨rfl, hb⟩; refine ⟨_, rfl, ?_⟩; have n0_ := z00.mk (z0r (g := gb169) (o := .cells #[.int .i64 a0_0, .int .i64 a0_1, .string a0_2] 58 (0, 0)) (by (with_reducible repeat (first | refine z12 ?_ _ | refine z0y ?_ | refine z0k ?_ _)); exact BK169.out) hb); have n1_ := z00.mk (z0z (by repeat (first | (with_reducible first | exact HB.out | apply z04 | apply z01 | apply z05 | refine z07 ?_ GE169.out) | exact HB.out)) hb); clear BK169; clear HB; have BK169 := n0_; have HB := n1_; clear n0_ n1_; (try clear hb); (try clear hb2); (try clear hk); (try clear hi); have hcz11_0 : w10.cell? ⟨gb169, 0, none⟩ = some (.int .i64 a0_0) := (z03 BK169.out 0).trans rfl; have hcz11_1 : w10.cell? ⟨gb169, 1, none⟩ = some (.int .i64 a0_1) := (z03 BK169.out 1).trans rfl; have hcz11_2 : w10.cell? ⟨gb169, 2, none⟩ = some (.string a0_2) := (z03 BK169.out 2).trans rfl; have hfz11_0 := z02 BK169.out 0; have hfz11_1 := z02 BK169.out 1; have hfz11_2 := z02 BK169.out 2) | ((with_reducible refine z0s (f := 147) rfl ?_); refine z1r (some 18) rfl rfl Tryz.func147 (by kernel_rfl) rfl #[.int .u64 (IntKind.u64.wrap (-(IntKind.u64.wrap (a0_1)))), .int .u64 10] rfl (by (try simp only [List.map_toArray, List.map_cons, List.map_nil]); first | done | rfl | (simp only [List.length_drop, List.length_take]; rfl)) ?_; (with_reducible refine (z0a.calls k (IntKind.u64.wrap (-(IntKind.u64.wrap (a0_1)))) 10 t171 _ A6.out).mono ?_); rintro e w12 ⟨rfl, hb⟩; refine ⟨_, rfl, ?_⟩; have n0_ := z00.mk (z0r (g := gb169) (o := .cells #[.int .i64 a0_0, .int .i64 a0_1, .string a0_2] 58 (0, 0)) (by (with_reducible repeat (first | refine z12 ?_ _ | refine z0y ?_ | refine z0k ?_ _)); exact BK169.out) hb); have n1_ := z00.mk (z0z (by repeat (first | (with_reducible first | exact HB.out | apply z04 | apply z01 | apply z05 | refine z07 ?_ GE169.out) | exact HB.out)) hb); clear BK169; clear HB; have BK169 := n0_; have HB := n1_; clear n0_ n1_; (try clear hb); (try clear hb2); (try clear hk); (try clear hi)))
         go_ret
         exact ⟨by first | rfl | (simp [z0n, z0o] <;> rfl) | (simp [*, z0n, z0o] <;> rfl), by repeat (first | (with_reducible first | exact HB.out | apply z04 | apply z01 | apply z05 | refine z07 ?_ GE169.out) | exact HB.out)⟩
       · rw [if_neg c7] at H
         exact absurd H (by simp)
     · rw [if_neg c5] at H
       have c5b0 : decide (a0_1 < 0) = false := decide_eq_false c5
       clear c5
       replace H := Option.bind_eq_some_iff.mp H
       obtain ⟨t172, A130, H⟩ := H
       replace H : (some t172) = some r := H
       have A13 := z00.mk A130
       clear A130
       obtain rfl := Option.some.inj H
       go_enter Tryz.func113, Tryz.ntmps113
       go_wp2_with (first | ((with_reducible refine z2e (N := 1) rfl ?_); refine z2j ?hg (N := 1) ?hd (cs := #[.int .i64 a0_0, .int .i64 a0_1, .string a0_2]) (t := 58) ?hr ?_; (case hd => rfl); (case hg => rfl); (case hr => first | (go_simp; done) | (go_simp; rfl)); intro gb169 hg w14 hbox hb; have n0_ := z00.mk (z0z (by repeat (first | (with_reducible first | exact HB.out | apply z04 | apply z01 | apply z05) | exact HB.out)) hb); have n1_ := z00.mk (hbox); have n2_ := z00.mk ((by rw [hg]; exact (z13 (by repeat (first | (with_reducible first | exact HB.out | apply z04 | apply z01 | apply z05) | exact HB.out))) : w.heap.size ≤ gb169)); have n3_ := z00.mk ((by rw [hg]; exact (z13 (by repeat (first | (with_reducible first | exact HB.out | apply z04 | apply z01 | apply z05) | exact HB.out))) : w.heap.size ≤ gb169)); clear HB; have HB := n0_; have BK169 := n1_; have GW169 := n2_; have GE169 := n3_; clear n0_ n1_ n2_ n3_; clear hb hbox hg; have hcz15_0 : w14.cell? ⟨gb169, 0, none⟩ = some (.int .i64 a0_0) := (z03 BK169.out 0).trans rfl; have hcz15_1 : w14.cell? ⟨gb169, 1, none⟩ = some (.int .i64 a0_1) := (z03 BK169.out 1).trans rfl; have hcz15_2 : w14.cell? ⟨gb169, 2, none⟩ = some (.string a0_2) := (z03 BK169.out 2).trans rfl; have hfz15_0 := z02 BK169.out 0; have hfz15_1 := z02 BK169.out 1; have hfz15_2 := z02 BK169.out 2) | ((with_reducible refine z0s (f := 112) rfl ?_); refine z1r (some 5) rfl rfl Tryz.func112 (by kernel_rfl) rfl #[.agg #[.int .i64 a0_0, .int .i64 a0_1, .string a0_2]] rfl (by (try simp only [List.map_toArray, List.map_cons, List.map_nil]); first | done | rfl | (simp only [List.length_drop, List.length_take]; rfl)) ?_; (with_reducible refine (z1l.calls a0_0 a0_1 a0_2 true _ A2.out).mono ?_); rintro e w16 ⟨rfl, hb⟩; refine ⟨_, rfl, ?_⟩; have n0_ := z00.mk (z0r (g := gb169) (o := .cells #[.int .i64 a0_0, .int .i64 a0_1, .string a0_2] 58 (0, 0)) (by (with_reducible repeat (first | refine z12 ?_ _ | refine z0y ?_ | refine z0k ?_ _)); exact BK169.out) hb); have n1_ := z00.mk (z0z (by repeat (first | (with_reducible first | exact HB.out | apply z04 | apply z01 | apply z05 | refine z07 ?_ GE169.out) | exact HB.out)) hb); clear BK169; clear HB; have BK169 := n0_; have HB := n1_; clear n0_ n1_; (try clear hb); (try clear hb2); (try clear hk); (try clear hi); have hcz17_0 : w16.cell? ⟨gb169, 0, none⟩ = some (.int .i64 a0_0) := (z03 BK169.out 0).trans rfl; have hcz17_1 : w16.cell? ⟨gb169, 1, none⟩ = some (.int .i64 a0_1) := (z03 BK169.out 1).trans rfl; have hcz17_2 : w16.cell? ⟨gb169, 2, none⟩ = some (.string a0_2) := (z03 BK169.out 2).trans rfl; have hfz17_0 := z02 BK169.out 0; have hfz17_1 := z02 BK169.out 1; have hfz17_2 := z02 BK169.out 2) | ((with_reducible refine z0s (f := 147) rfl ?_); refine z1r (some 23) rfl rfl Tryz.func147 (by kernel_rfl) rfl #[.int .u64 (IntKind.u64.wrap (a0_1)), .int .u64 10] rfl (by (try simp only [List.map_toArray, List.map_cons, List.map_nil]); first | done | rfl | (simp only [List.length_drop, List.length_take]; rfl)) ?_; (with_reducible refine (z0a.calls k (IntKind.u64.wrap (a0_1)) 10 t172 _ A13.out).mono ?_); rintro e w18 ⟨rfl, hb⟩; refine ⟨_, rfl, ?_⟩; have n0_ := z00.mk (z0r (g := gb169) (o := .cells #[.int .i64 a0_0, .int .i64 a0_1, .string a0_2] 58 (0, 0)) (by (with_reducible repeat (first | refine z12 ?_ _ | refine z0y ?_ | refine z0k ?_ _)); exact BK169.out) hb); have n1_ := z00.mk (z0z (by repeat (first | (with_reducible first | exact HB.out | apply z04 | apply z01 | apply z05 | refine z07 ?_ GE169.out) | exact HB.out)) hb); clear BK169; clear HB; have BK169 := n0_; have HB := n1_; clear n0_ n1_; (try clear hb); (try clear hb2); (try clear hk); (try clear hi)))
       go_ret
       exact ⟨by first | rfl | (simp [z0n, z0o] <;> rfl) | (simp [*, z0n, z0o] <;> rfl), by repeat (first | (with_reducible first | exact HB.out | apply z04 | apply z01 | apply z05 | refine z07 ?_ GE169.out) | exact HB.out)⟩
   · rw [if_neg c4] at H
     have c4b0 : (a0_0 == 1) = false := beq_eq_false_iff_ne.mpr c4
     have c4b1 : (a0_0 != 1) = true := bne_iff_ne.mpr c4
     by_cases c19 : a0_0 = 2
     · rw [if_pos c19] at H
       have c19b0 : (a0_0 == 2) = true := beq_iff_eq.mpr c19
       have c19b1 : (a0_0 != 2) = false := bne_eq_false_iff_eq.mpr c19
       clear c19
       replace H := Option.bind_eq_some_iff.mp H
       obtain ⟨t173, A200, H⟩ := H
       replace H : (z0w.l0 k t173) = some r := H
       have A20 := z00.mk A200
       clear A200
       have H' := z00.mk H
       clear H
       go_enter Tryz.func113, Tryz.ntmps113
       go_wp2_with (first | ((with_reducible refine z2e (N := 1) rfl ?_); refine z2j ?hg (N := 1) ?hd (cs := #[.int .i64 a0_0, .int .i64 a0_1, .string a0_2]) (t := 58) ?hr ?_; (case hd => rfl); (case hg => rfl); (case hr => first | (go_simp; done) | (go_simp; rfl)); intro gb169 hg w21 hbox hb; have n0_ := z00.mk (z0z (by repeat (first | (with_reducible first | exact HB.out | apply z04 | apply z01 | apply z05) | exact HB.out)) hb); have n1_ := z00.mk (hbox); have n2_ := z00.mk ((by rw [hg]; exact (z13 (by repeat (first | (with_reducible first | exact HB.out | apply z04 | apply z01 | apply z05) | exact HB.out))) : w.heap.size ≤ gb169)); have n3_ := z00.mk ((by rw [hg]; exact (z13 (by repeat (first | (with_reducible first | exact HB.out | apply z04 | apply z01 | apply z05) | exact HB.out))) : w.heap.size ≤ gb169)); clear HB; have HB := n0_; have BK169 := n1_; have GW169 := n2_; have GE169 := n3_; clear n0_ n1_ n2_ n3_; clear hb hbox hg; have hcz22_0 : w21.cell? ⟨gb169, 0, none⟩ = some (.int .i64 a0_0) := (z03 BK169.out 0).trans rfl; have hcz22_1 : w21.cell? ⟨gb169, 1, none⟩ = some (.int .i64 a0_1) := (z03 BK169.out 1).trans rfl; have hcz22_2 : w21.cell? ⟨gb169, 2, none⟩ = some (.string a0_2) := (z03 BK169.out 2).trans rfl; have hfz22_0 := z02 BK169.out 0; have hfz22_1 := z02 BK169.out 1; have hfz22_2 := z02 BK169.out 2) | ((with_reducible refine z0s (f := 112) rfl ?_); refine z1r (some 5) rfl rfl Tryz.func112 (by kernel_rfl) rfl #[.agg #[.int .i64 a0_0, .int .i64 a0_1, .string a0_2]] rfl (by (try simp only [List.map_toArray, List.map_cons, List.map_nil]); first | done | rfl | (simp only [List.length_drop, List.length_take]; rfl)) ?_; (with_reducible refine (z1l.calls a0_0 a0_1 a0_2 true _ A2.out).mono ?_); rintro e w23 ⟨rfl, hb⟩; refine ⟨_, rfl, ?_⟩; have n0_ := z00.mk (z0r (g := gb169) (o := .cells #[.int .i64 a0_0, .int .i64 a0_1, .string a0_2] 58 (0, 0)) (by (with_reducible repeat (first | refine z12 ?_ _ | refine z0y ?_ | refine z0k ?_ _)); exact BK169.out) hb); have n1_ := z00.mk (z0z (by repeat (first | (with_reducible first | exact HB.out | apply z04 | apply z01 | apply z05 | refine z07 ?_ GE169.out) | exact HB.out)) hb); clear BK169; clear HB; have BK169 := n0_; have HB := n1_; clear n0_ n1_; (try clear hb); (try clear hb2); (try clear hk); (try clear hi); have hcz24_0 : w23.cell? ⟨gb169, 0, none⟩ = some (.int .i64 a0_0) := (z03 BK169.out 0).trans rfl; have hcz24_1 : w23.cell? ⟨gb169, 1, none⟩ = some (.int .i64 a0_1) := (z03 BK169.out 1).trans rfl; have hcz24_2 : w23.cell? ⟨gb169, 2, none⟩ = some (.string a0_2) := (z03 BK169.out 2).trans rfl; have hfz24_0 := z02 BK169.out 0; have hfz24_1 := z02 BK169.out 1; have hfz24_2 := z02 BK169.out 2) | ((with_reducible refine z0s (f := 147) rfl ?_); refine z1r (some 29) rfl rfl Tryz.func147 (by kernel_rfl) rfl #[.int .u64 (IntKind.u64.wrap (a0_1)), .int .u64 16] rfl (by (try simp only [List.map_toArray, List.map_cons, List.map_nil]); first | done | rfl | (simp only [List.length_drop, List.length_take]; rfl)) ?_; (with_reducible refine (z0a.calls k (IntKind.u64.wrap (a0_1)) 16 t173 _ A20.out).mono ?_); rintro e w25 ⟨rfl, hb⟩; refine ⟨_, rfl, ?_⟩; have n0_ := z00.mk (z0r (g := gb169) (o := .cells #[.int .i64 a0_0, .int .i64 a0_1, .string a0_2] 58 (0, 0)) (by (with_reducible repeat (first | refine z12 ?_ _ | refine z0y ?_ | refine z0k ?_ _)); exact BK169.out) hb); have n1_ := z00.mk (z0z (by repeat (first | (with_reducible first | exact HB.out | apply z04 | apply z01 | apply z05 | refine z07 ?_ GE169.out) | exact HB.out)) hb); clear BK169; clear HB; have BK169 := n0_; have HB := n1_; clear n0_ n1_; (try clear hb); (try clear hb2); (try clear hk); (try clear hi)))
       go_loopg [3] k (fun kq v3 w' => ∃ (x3_1 : ByteArray), v3 = .string x3_1 ∧ z00 (z0w.l0 kq x3_1 = some r) ∧ z00 (kq ≤ k) ∧ z00 (w'.heap[gb169]? = some (.cells #[.int .i64 a0_0, .int .i64 a0_1, .string a0_2] 58 (0, 0))) ∧ z00 (Below w.heap.size w w'))
       case atStart => exact ⟨(t173), (by first | rfl | (simp; done) | (simp [*]; done)), H', ⟨Nat.le_refl _⟩, ⟨by (with_reducible repeat (first | refine z12 ?_ _ | refine z0y ?_ | refine z0k ?_ _)); exact BK169.out⟩, ⟨by repeat (first | (with_reducible first | exact HB.out | apply z04 | apply z01 | apply z05 | refine z07 ?_ GE169.out) | exact HB.out)⟩⟩
       case round =>
        clear H'
        try clear c1
        try clear p2
        try clear c3
        try clear c4
        try clear c4b0
        try clear c4b1
        try clear c5
        try clear c5b0
        try clear c7
        try clear c7b0
        try clear c7b1
        try clear c7b2
        try clear c11
        try clear c14
        try clear c19
        try clear c19b0
        try clear c19b1
        try clear hcz11_0
        try clear hcz11_1
        try clear hcz11_2
        try clear hcz15_0
        try clear hcz15_1
        try clear hcz15_2
        try clear hcz17_0
        try clear hcz17_1
        try clear hcz17_2
        try clear hcz22_0
        try clear hcz22_1
        try clear hcz22_2
        try clear hcz24_0
        try clear hcz24_1
        try clear hcz24_2
        try clear hcz9_0
        try clear hcz9_1
        try clear hcz9_2
        try clear hfz11_0
        try clear hfz11_1
        try clear hfz11_2
        try clear hfz15_0
        try clear hfz15_1
        try clear hfz15_2
        try clear hfz17_0
        try clear hfz17_1
        try clear hfz17_2
        try clear hfz22_0
        try clear hfz22_1
        try clear hfz22_2
        try clear hfz24_0
        try clear hfz24_1
        try clear hfz24_2
        try clear hfz9_0
        try clear hfz9_1
        try clear hfz9_2
        obtain ⟨x3_1, rfl, HA, HK1, BK169, HB⟩ := hrel
        cases gk with
        | zero => exact absurd HA.out (by simp [z0w.l0])
        | succ k1 =>
         have H := HA.out
         clear HA
         simp only [z0w.l0] at H
         by_cases c26 : (x3_1.size : Int) < 16
         · rw [if_pos c26] at H
           have c26b0 : decide ((x3_1.size : Int) < 16) = true := decide_eq_true c26
           have c26b1 : decide (x3_1.size < 16) = true := decide_eq_true (by omega)
           clear c26
           by_cases c27 : 1 + x3_1.size ≤ 9223372036854775807
           · rw [if_pos c27] at H
             have c27b0 := eq_true c27
             have c27b1 : decide (1 + x3_1.size ≤ 9223372036854775807) = true := decide_eq_true c27
             try have c27b2 : (9223372036854775807 < 1 + x3_1.size) = False := eq_false (Nat.not_lt.2 c27)
             have H' := z00.mk H
             clear H
             go_wp2
             go_roundg k1
             case measure => have := HK1.out; omega
             case rel => exact ⟨((⟨#[48]⟩ : ByteArray) ++ x3_1), (by first | rfl | (simp; done) | (simp [*]; done)), H', ⟨by have := HK1.out; omega⟩, ⟨by (with_reducible repeat (first | refine z12 ?_ _ | refine z0y ?_ | refine z0k ?_ _)); exact BK169.out⟩, ⟨by repeat (first | (with_reducible first | exact HB.out | apply z04 | apply z01 | apply z05 | refine z07 ?_ GE169.out) | exact HB.out)⟩⟩
           · rw [if_neg c27] at H
             exact absurd H (by simp)
         · rw [if_neg c26] at H
           have c26b0 : decide ((x3_1.size : Int) < 16) = false := decide_eq_false c26
           have c26b1 : decide (x3_1.size < 16) = false := decide_eq_false (by omega)
           clear c26
           by_cases c28 : 1 + x3_1.size ≤ 9223372036854775807
           · rw [if_pos c28] at H
             have c28b0 := eq_true c28
             have c28b1 : decide (1 + x3_1.size ≤ 9223372036854775807) = true := decide_eq_true c28
             try have c28b2 : (9223372036854775807 < 1 + x3_1.size) = False := eq_false (Nat.not_lt.2 c28)
             obtain rfl := Option.some.inj H
             go_wp2
             go_ret
             exact ⟨by first | rfl | (simp [z0n, z0o] <;> rfl) | (simp [*, z0n, z0o] <;> rfl), by repeat (first | (with_reducible first | exact HB.out | apply z04 | apply z01 | apply z05 | refine z07 ?_ GE169.out) | exact HB.out)⟩
           · rw [if_neg c28] at H
             exact absurd H (by simp)
     · rw [if_neg c19] at H
       have c19b0 : (a0_0 == 2) = false := beq_eq_false_iff_ne.mpr c19
       have c19b1 : (a0_0 != 2) = true := bne_iff_ne.mpr c19
       obtain rfl := Option.some.inj H
       go_enter Tryz.func113, Tryz.ntmps113
       go_wp2_with (first | ((with_reducible refine z2e (N := 1) rfl ?_); refine z2j ?hg (N := 1) ?hd (cs := #[.int .i64 a0_0, .int .i64 a0_1, .string a0_2]) (t := 58) ?hr ?_; (case hd => rfl); (case hg => rfl); (case hr => first | (go_simp; done) | (go_simp; rfl)); intro gb169 hg w29 hbox hb; have n0_ := z00.mk (z0z (by repeat (first | (with_reducible first | exact HB.out | apply z04 | apply z01 | apply z05) | exact HB.out)) hb); have n1_ := z00.mk (hbox); have n2_ := z00.mk ((by rw [hg]; exact (z13 (by repeat (first | (with_reducible first | exact HB.out | apply z04 | apply z01 | apply z05) | exact HB.out))) : w.heap.size ≤ gb169)); have n3_ := z00.mk ((by rw [hg]; exact (z13 (by repeat (first | (with_reducible first | exact HB.out | apply z04 | apply z01 | apply z05) | exact HB.out))) : w.heap.size ≤ gb169)); clear HB; have HB := n0_; have BK169 := n1_; have GW169 := n2_; have GE169 := n3_; clear n0_ n1_ n2_ n3_; clear hb hbox hg; have hcz30_0 : w29.cell? ⟨gb169, 0, none⟩ = some (.int .i64 a0_0) := (z03 BK169.out 0).trans rfl; have hcz30_1 : w29.cell? ⟨gb169, 1, none⟩ = some (.int .i64 a0_1) := (z03 BK169.out 1).trans rfl; have hcz30_2 : w29.cell? ⟨gb169, 2, none⟩ = some (.string a0_2) := (z03 BK169.out 2).trans rfl; have hfz30_0 := z02 BK169.out 0; have hfz30_1 := z02 BK169.out 1; have hfz30_2 := z02 BK169.out 2) | ((with_reducible refine z0s (f := 112) rfl ?_); refine z1r (some 5) rfl rfl Tryz.func112 (by kernel_rfl) rfl #[.agg #[.int .i64 a0_0, .int .i64 a0_1, .string a0_2]] rfl (by (try simp only [List.map_toArray, List.map_cons, List.map_nil]); first | done | rfl | (simp only [List.length_drop, List.length_take]; rfl)) ?_; (with_reducible refine (z1l.calls a0_0 a0_1 a0_2 true _ A2.out).mono ?_); rintro e w31 ⟨rfl, hb⟩; refine ⟨_, rfl, ?_⟩; have n0_ := z00.mk (z0r (g := gb169) (o := .cells #[.int .i64 a0_0, .int .i64 a0_1, .string a0_2] 58 (0, 0)) (by (with_reducible repeat (first | refine z12 ?_ _ | refine z0y ?_ | refine z0k ?_ _)); exact BK169.out) hb); have n1_ := z00.mk (z0z (by repeat (first | (with_reducible first | exact HB.out | apply z04 | apply z01 | apply z05 | refine z07 ?_ GE169.out) | exact HB.out)) hb); clear BK169; clear HB; have BK169 := n0_; have HB := n1_; clear n0_ n1_; (try clear hb); (try clear hb2); (try clear hk); (try clear hi); have hcz32_0 : w31.cell? ⟨gb169, 0, none⟩ = some (.int .i64 a0_0) := (z03 BK169.out 0).trans rfl; have hcz32_1 : w31.cell? ⟨gb169, 1, none⟩ = some (.int .i64 a0_1) := (z03 BK169.out 1).trans rfl; have hcz32_2 : w31.cell? ⟨gb169, 2, none⟩ = some (.string a0_2) := (z03 BK169.out 2).trans rfl; have hfz32_0 := z02 BK169.out 0; have hfz32_1 := z02 BK169.out 1; have hfz32_2 := z02 BK169.out 2))
       go_ret
       exact ⟨by first | rfl | (simp [z0n, z0o] <;> rfl) | (simp [*, z0n, z0o] <;> rfl), by repeat (first | (with_reducible first | exact HB.out | apply z04 | apply z01 | apply z05 | refine z07 ?_ GE169.out) | exact HB.out)⟩
 · replace c3 := Bool.eq_false_iff.mpr c3
   subst c3
   have H1 : (some (⟨#[]⟩ : ByteArray)) = some r := by rw [if_neg (show ¬ (false = true) by decide)] at H; exact H
   clear H
   have H := H1
   clear H1
   obtain rfl := Option.some.inj H
   go_enter Tryz.func113, Tryz.ntmps113
   go_wp2_with (first | ((with_reducible refine z2e (N := 1) rfl ?_); refine z2j ?hg (N := 1) ?hd (cs := #[.int .i64 a0_0, .int .i64 a0_1, .string a0_2]) (t := 58) ?hr ?_; (case hd => rfl); (case hg => rfl); (case hr => first | (go_simp; done) | (go_simp; rfl)); intro gb169 hg w33 hbox hb; have n0_ := z00.mk (z0z (by repeat (first | (with_reducible first | exact HB.out | apply z04 | apply z01 | apply z05) | exact HB.out)) hb); have n1_ := z00.mk (hbox); have n2_ := z00.mk ((by rw [hg]; exact (z13 (by repeat (first | (with_reducible first | exact HB.out | apply z04 | apply z01 | apply z05) | exact HB.out))) : w.heap.size ≤ gb169)); have n3_ := z00.mk ((by rw [hg]; exact (z13 (by repeat (first | (with_reducible first | exact HB.out | apply z04 | apply z01 | apply z05) | exact HB.out))) : w.heap.size ≤ gb169)); clear HB; have HB := n0_; have BK169 := n1_; have GW169 := n2_; have GE169 := n3_; clear n0_ n1_ n2_ n3_; clear hb hbox hg; have hcz34_0 : w33.cell? ⟨gb169, 0, none⟩ = some (.int .i64 a0_0) := (z03 BK169.out 0).trans rfl; have hcz34_1 : w33.cell? ⟨gb169, 1, none⟩ = some (.int .i64 a0_1) := (z03 BK169.out 1).trans rfl; have hcz34_2 : w33.cell? ⟨gb169, 2, none⟩ = some (.string a0_2) := (z03 BK169.out 2).trans rfl; have hfz34_0 := z02 BK169.out 0; have hfz34_1 := z02 BK169.out 1; have hfz34_2 := z02 BK169.out 2) | ((with_reducible refine z0s (f := 112) rfl ?_); refine z1r (some 5) rfl rfl Tryz.func112 (by kernel_rfl) rfl #[.agg #[.int .i64 a0_0, .int .i64 a0_1, .string a0_2]] rfl (by (try simp only [List.map_toArray, List.map_cons, List.map_nil]); first | done | rfl | (simp only [List.length_drop, List.length_take]; rfl)) ?_; (with_reducible refine (z1l.calls a0_0 a0_1 a0_2 false _ A2.out).mono ?_); rintro e w35 ⟨rfl, hb⟩; refine ⟨_, rfl, ?_⟩; have n0_ := z00.mk (z0r (g := gb169) (o := .cells #[.int .i64 a0_0, .int .i64 a0_1, .string a0_2] 58 (0, 0)) (by (with_reducible repeat (first | refine z12 ?_ _ | refine z0y ?_ | refine z0k ?_ _)); exact BK169.out) hb); have n1_ := z00.mk (z0z (by repeat (first | (with_reducible first | exact HB.out | apply z04 | apply z01 | apply z05 | refine z07 ?_ GE169.out) | exact HB.out)) hb); clear BK169; clear HB; have BK169 := n0_; have HB := n1_; clear n0_ n1_; (try clear hb); (try clear hb2); (try clear hk); (try clear hi)))
   go_ret
   exact ⟨by first | rfl | (simp [z0n, z0o] <;> rfl) | (simp [*, z0n, z0o] <;> rfl), by repeat (first | (with_reducible first | exact HB.out | apply z04 | apply z01 | apply z05 | refine z07 ?_ GE169.out) | exact HB.out)⟩
end Go.Proofs.YthebhbomlllpeaaGreatDoor.X
namespace Go.Proofs.YthebhbomlllpeaaGreatDoor.X
open Go.RowKit Go.Proofs.YthebhbomlllpeaaGreatDoorW.PrintWords Go.Proofs.YthebhbomlllpeaaGreatDoorW.PrintLast Go.Proofs.YthebhbomlllpeaaGreatDoorW.PrintMore
theorem str1 (x : Int) (c : UInt8) (h : UInt8.ofNat x.toNat = c) : strOfNums [x] = ⟨#[c]⟩ := by
 subst h; rfl
theorem z9h (b : Nat) (l : Nat → List UInt8) (hT : z5w b l) (k u : Nat) (acc : ByteArray) (hu : u < 18446744073709551616) (ha : acc.size ≤ 1000) :
 z0a.j1 (k + 1) (u : Int) (b : Int) acc true = z0a.l0 k ((u / b : Nat) : Int) (b : Int) (⟨#[hexc (u % b)]⟩ ++ acc) := by
 have hb := hT.two
 have hb2 := hT.most
 have hm : Int.tmod (u : Int) (b : Int) = ((u % b : Nat) : Int) := by rw [Int.tmod_eq_emod_of_nonneg (by omega)]; rfl
 have hd : IntKind.u64.wrap (Int.tdiv (u : Int) (b : Int)) = ((u / b : Nat) : Int) := by
  rw [Int.tdiv_eq_ediv_of_nonneg (by omega), IntKind.wrap_u64]
  have h1 : (u : Int) / (b : Int) = ((u / b : Nat) : Int) := rfl
  have h2 : u / b ≤ u := Nat.div_le_self _ _
  rw [h1]
  generalize u / b = q at h2
  omega
 have hlt : u % b < b := Nat.mod_lt _ (by omega)
 simp only [z0a.j1, if_true, hm, hd]
 rw [if_neg (by omega)]
 generalize hr : u % b = r at hlt ⊢
 split
 · rename_i h
   simp only [Option.bind_some]
   rw [str1 _ (hexc r) (by
    have h1 : ((97 + (r : Int) % 256) % 256 - 10) % 256 = ((87 + r : Nat) : Int) := by omega
    rw [h1, Int.toNat_natCast]; unfold hexc; rw [if_neg (by omega)])]
   rw [if_pos (by show 1 + acc.size ≤ _; omega)]
 · rename_i h
   simp only [Option.bind_some]
   rw [str1 _ (hexc r) (by
    have h1 : ((48 : Int) + (r : Int) % 256) % 256 = ((48 + r : Nat) : Int) := by omega
    rw [h1, Int.toNat_natCast]; unfold hexc; rw [if_pos (by omega)])]
   rw [if_pos (by show 1 + acc.size ≤ _; omega)]
theorem z9e (b : Nat) (l : Nat → List UInt8) (hT : z5w b l) : ∀ (d u k : Nat) (acc : ByteArray), u < b ^ (d + 1) → d ≤ 70 → acc.size + d ≤ 900 → u < 18446744073709551616 → (0 < u ∨ acc.size = 0) → 2 * d + 6 ≤ k →
 z0a.l0 k (u : Int) (b : Int) acc = some (⟨(l u).toArray⟩ ++ acc) := by
 intro d
 induction d with
 | zero =>
  intro u k acc hu hd ha hu2 h0 hk
  obtain ⟨k, rfl⟩ : ∃ j, k = j + 4 := ⟨k - 4, by omega⟩
  have hb := hT.two
  have e : z0a.l0 (k + 4) (u : Int) (b : Int) acc = z0a.j1 (k + 3) (u : Int) (b : Int) acc true := by
   rw [show k + 4 = (k + 3) + 1 from rfl]
   simp only [z0a.l0]
   rcases h0 with h0 | h0
   · rw [if_pos (by omega)]
   · split
     · rfl
     · rw [show (acc.toList == ([] : List UInt8)) = true from by rw [beq_iff_eq]; exact (z32 acc).2 h0]
  rw [e, show k + 3 = (k + 2) + 1 from rfl, z9h b l hT (k + 2) u acc hu2 (by omega)]
  have hu' : u < b := by simpa using hu
  rw [Nat.div_eq_of_lt hu', Nat.mod_eq_of_lt hu', show k + 2 = (k + 1) + 1 from rfl]
  simp only [z0a.l0]
  rw [if_neg (by omega), show ((⟨#[hexc u]⟩ ++ acc : ByteArray).toList == ([] : List UInt8)) = false from by
   rw [beq_eq_false_iff_ne]; intro h
   have := (z32 _).1 h
   rw [ByteArray.size_append] at this
   change 1 + acc.size = 0 at this; omega]
  simp only [z0a.j1, Bool.false_eq_true, if_false]
  rw [hT.one u hu']
 | succ d ih =>
  intro u k acc hu hd ha hu2 h0 hk
  obtain ⟨k, rfl⟩ : ∃ j, k = j + 2 := ⟨k - 2, by omega⟩
  have hb := hT.two
  have e : z0a.l0 (k + 2) (u : Int) (b : Int) acc = z0a.j1 (k + 1) (u : Int) (b : Int) acc true := by
   rw [show k + 2 = (k + 1) + 1 from rfl]
   simp only [z0a.l0]
   rcases h0 with h0 | h0
   · rw [if_pos (by omega)]
   · split
     · rfl
     · rw [show (acc.toList == ([] : List UInt8)) = true from by rw [beq_iff_eq]; exact (z32 acc).2 h0]
  rw [e, z9h b l hT k u acc hu2 (by omega)]
  have hs : (⟨#[hexc (u % b)]⟩ ++ acc : ByteArray).size = 1 + acc.size := by rw [ByteArray.size_append]; rfl
  by_cases hz : b ≤ u
  · have hp : 0 < u / b := Nat.div_pos hz (by omega)
    have h2 : u / b ≤ u := Nat.div_le_self _ _
    rw [ih (u / b) k _ (by rw [Nat.pow_succ] at hu; exact Nat.div_lt_of_lt_mul (by rw [Nat.mul_comm]; exact hu)) (by omega) (by omega) (by omega) (Or.inl hp) (by omega)]
    rw [hT.more u hz]
    congr 1
    apply ba_eq
    simp
  · obtain ⟨k, rfl⟩ : ∃ j, k = j + 2 := ⟨k - 2, by omega⟩
    have hu' : u < b := by omega
    rw [Nat.div_eq_of_lt hu', Nat.mod_eq_of_lt hu', show k + 2 = (k + 1) + 1 from rfl]
    simp only [z0a.l0]
    rw [if_neg (by omega), show ((⟨#[hexc u]⟩ ++ acc : ByteArray).toList == ([] : List UInt8)) = false from by
     rw [beq_eq_false_iff_ne]; intro h
     have := (z32 _).1 h
     rw [ByteArray.size_append] at this
     change 1 + acc.size = 0 at this; omega]
    simp only [z0a.j1, Bool.false_eq_true, if_false]
    rw [hT.one u hu']
theorem ba_nil (a : ByteArray) : a ++ (⟨#[]⟩ : ByteArray) = a := by apply ba_eq; simp
theorem z6f (u k : Nat) (hu : u < 18446744073709551616) (hk : 46 ≤ k) : z0a.f k (u : Int) 10 = some ⟨(Lib.decDigits u).toArray⟩ := by
 unfold z0a.f
 have := z9e 10 _ zd6 19 u k ⟨#[]⟩ (Nat.lt_of_lt_of_le hu (by decide)) (by omega) (by show 0 + 19 ≤ 900; omega) hu (Or.inr rfl) (by omega)
 rw [ba_nil] at this
 exact this
theorem z8y (u k : Nat) (hu : u < 18446744073709551616) (hk : 46 ≤ k) : z0a.f k (u : Int) 16 = some ⟨(hexL u).toArray⟩ := by
 unfold z0a.f
 have := z9e 16 _ zdn 19 u k ⟨#[]⟩ (Nat.lt_of_lt_of_le hu (by decide)) (by omega) (by show 0 + 19 ≤ 900; omega) hu (Or.inr rfl) (by omega)
 rw [ba_nil] at this
 exact this
theorem pad_loop (l : List UInt8) : ∀ (d k : Nat), 16 - l.length = d → l.length ≤ 16 → d < k →
 z0w.l0 k ⟨l.toArray⟩ = some ⟨(35 :: (List.replicate (16 - l.length) 48 ++ l)).toArray⟩ := by
 intro d
 induction d generalizing l with
 | zero =>
  intro k h1 h2 hk
  obtain ⟨k, rfl⟩ : ∃ j, k = j + 1 := ⟨k - 1, by omega⟩
  have hl : l.length = 16 := by omega
  simp only [z0w.l0]
  have hs : (⟨l.toArray⟩ : ByteArray).size = 16 := by simp [ByteArray.size, hl]
  rw [hs, if_neg (by omega), if_pos (by omega), hl]
  rfl
 | succ d ih =>
  intro k h1 h2 hk
  obtain ⟨k, rfl⟩ : ∃ j, k = j + 1 := ⟨k - 1, by omega⟩
  simp only [z0w.l0]
  have hs : (⟨l.toArray⟩ : ByteArray).size = l.length := by simp [ByteArray.size]
  rw [hs, if_pos (by omega), if_pos (by omega)]
  have e : (⟨#[48]⟩ : ByteArray) ++ ⟨l.toArray⟩ = ⟨(48 :: l).toArray⟩ := by apply ba_eq; simp
  rw [e, ih (48 :: l) k (by simp; omega) (by simp; omega) (by omega)]
  have e2 : List.replicate (16 - l.length) (48 : UInt8) ++ l = List.replicate (16 - (48 :: l).length) 48 ++ 48 :: l := by
   rw [show 16 - l.length = (16 - (48 :: l).length) + 1 from by simp; omega, List.replicate_succ']
   simp
  rw [e2]
theorem z9s (n : Int) : z2m.f n = some (floB n) := by
 unfold z2m.f floB
 by_cases h : n = 9221120237041090561
 · rw [if_pos h]; simp [h]
 · rw [if_neg h]
   by_cases h1 : n ≤ 9218868437227405312
   · rw [if_pos h1]; congr 1; simp [h, h1]
   · rw [if_neg h1]; congr 1; symm; simp [h]; omega
theorem z9v (a b : Int) (s : ByteArray) : z1l.f a b s = some (z5o a b s) := by
 unfold z1l.f z5o
 by_cases h1 : a = 1
 · rw [if_pos h1, if_pos h1]
   congr 1
   rw [Bool.eq_iff_iff, beq_iff_eq, decide_eq_true_iff, z32]
 · rw [if_neg h1, if_neg h1]
   by_cases h2 : a = 2
   · rw [if_pos h2, if_pos h2]
     by_cases h3 : s.size = 0
     · rw [if_pos ((z32 s).2 h3), z9s]; simp [h3]
     · rw [if_neg (fun h => h3 ((z32 s).1 h))]; simp [h3]
   · rw [if_neg h2, if_neg h2]
     by_cases h3 : a = 3
     · rw [if_pos h3, if_pos h3]
       by_cases h4 : b = 0
       · rw [if_pos h4]; unfold z1p.f; simp [h4]
       · rw [if_neg h4]; simp [h4]
     · rw [if_neg h3, if_neg h3]
theorem z5c (a b : Int) (s : ByteArray) (k : Nat) (hk : 46 ≤ k) (hb : -9223372036854775808 ≤ b ∧ b ≤ 9223372036854775807) :
 z0w.f k a b s = some ⟨(textL a b s).toArray⟩ := by
 unfold z0w.f textL
 rw [z9v]
 simp only [Option.bind_some]
 by_cases hr : z5o a b s = true
 · rw [if_pos hr, if_pos hr]
   by_cases h1 : a = 1
   · rw [if_pos h1, if_pos h1]
     unfold Lib.itoa
     by_cases h2 : b < 0
     · rw [if_pos h2, if_pos h2]
       have e : IntKind.u64.wrap (-(IntKind.u64.wrap b)) = ((b.natAbs : Nat) : Int) := by simp only [IntKind.wrap_u64]; omega
       rw [e, z6f _ k (by omega) hk]
       have hl : (Lib.decDigits b.natAbs).length ≤ 9223372036854775806 := by
        rw [Lib.decDigits_length]
        have := zf0 b.natAbs (by omega)
        omega
       simp only [Option.bind_some]
       rw [if_pos (by simp only [ByteArray.size, List.size_toArray]; omega)]
       rfl
     · rw [if_neg h2, if_neg h2]
       have e : IntKind.u64.wrap b = ((b.toNat : Nat) : Int) := by rw [IntKind.wrap_u64]; omega
       rw [e, z6f _ k (by omega) hk]
       rfl
   · rw [if_neg h1, if_neg h1]
     by_cases h2 : a = 2
     · rw [if_pos h2, if_pos h2]
       have hw := wrap_u64 b
       obtain ⟨u, hu⟩ : ∃ u : Nat, IntKind.u64.wrap b = (u : Int) := ⟨_, (Int.toNat_of_nonneg hw.1).symm⟩
       rw [hu, z8y _ k (by omega) hk]
       simp only [Option.bind_some]
       have := z9a u 16 (by omega) (by omega)
       rw [pad_loop _ _ k rfl this.2 (by omega)]
       rfl
     · rw [if_neg h2, if_neg h2, z7p]
 · rw [if_neg hr, if_neg hr]

def z9j (c : Int) : Int := if 97 ≤ c then c - 97 + 10 else (c - 48) % 256
def z56 (b n c : Int) : Int := IntKind.u64.wrap (IntKind.u64.wrap (n * b) + z9j c)
def z5h (s : ByteArray) (b : Int) : Nat → Nat → Int → Int
 | 0, _, n => n
 | d + 1, pos, n => if pos < s.size then z5h s b d (pos + (Utf8.decode s pos).2) (z56 b n (bt s (pos : Int))) else n
def z1f.f (a0 : ByteArray) (a1 : Int) : Option Int := some (z5h a0 a1 a0.size 0 0)
theorem zdz {s : ByteArray} {b n : Int} {d pos : Nat} (h : ¬ pos < s.size) : z5h s b d pos n = n := by
 cases d with
 | zero => rfl
 | succ d => simp only [z5h]; rw [if_neg h]
theorem num_next {s : ByteArray} {b n T : Int} {d pos : Nat} (h : pos < s.size) (hd : s.size - pos ≤ d) (hT : z5h s b d pos n = T) :
 ∃ d', s.size - (pos + (Utf8.decode s pos).2) ≤ d' ∧ z5h s b d' (pos + (Utf8.decode s pos).2) (z56 b n (bt s (pos : Int))) = T := by
 obtain ⟨d, rfl⟩ : ∃ e, d = e + 1 := ⟨d - 1, by omega⟩
 simp only [z5h] at hT
 rw [if_pos h] at hT
 have := z93 s pos h
 exact ⟨d, by omega, hT⟩
set_option maxHeartbeats 2000000 in
set_option maxRecDepth 1000000 in
theorem z1f.calls (a0 : ByteArray) (a1 : Int) (r : Int) (w : World) (h : z1f.f a0 a1 = some r) :
 Calls Tryz.prog 132 #[.string a0, .int .u64 a1] w fun e w' => e = .returned (.int .u64 r) ∧ Below w.heap.size w w' := by
 have hT := Option.some.inj h
 clear h
 go_enter Tryz.func132, Tryz.ntmps132
 go_wp2
 go_loopw [5] (fun v5 wr => ∃ (pos d : Nat) (n : Int), v5 = .int .u64 n ∧ wr = w.iter a0 pos ∧ z00 (a0.size - pos ≤ d) ∧ z00 (z5h a0 a1 d pos n = r)) (fun _ wr => a0.size - wr.iterPos w.heap.size)
 case atStart => exact ⟨0, a0.size, 0, rfl, rfl, ⟨by omega⟩, ⟨hT⟩⟩
 case round =>
  obtain ⟨pos, d, n, rfl, rfl, HD, HN⟩ := hrel
  clear hT
  by_cases hp : pos < a0.size
  · have hnx : ∀ ty, (Instr.next (.pointer (some ⟨w.heap.size, 0, none⟩)) true ty).run Tryz.prog (w.iter a0 pos) = _ := fun ty => run_next_any w a0 pos ty hp
    have hwd := z93 a0 pos hp
    have hby := z5g a0 pos hp
    have hstep := num_next hp HD.out HN.out
    rw [hby] at hstep
    have HST := z00.mk hstep
    clear hby hstep
    obtain ⟨c, hc⟩ : ∃ c : Int, c = ((a0[pos]'hp).toNat : Int) := ⟨_, rfl⟩
    have hc0 : 0 ≤ c := by omega
    have hc1 : c < 256 := by have := (a0[pos]'hp).toNat_lt; omega
    rw [← hc] at HST
    by_cases hge : 97 ≤ c
    · have hdig : z9j c = c - 97 + 10 := by unfold z9j; rw [if_pos hge]
      go_wp2
      obtain ⟨d', h1, h2⟩ := HST.out
      unfold z56 at h2
      rw [hdig, hc] at h2
      refine ⟨⟨pos + (Utf8.decode a0 pos).2, d', _, rfl, rfl, ⟨h1⟩, ⟨h2⟩⟩, ?_⟩
      have e1 : (w.iter a0 (pos + (Utf8.decode a0 pos).snd)).iterPos w.heap.size = pos + (Utf8.decode a0 pos).snd := by simp
      have e2 : (w.iter a0 pos).iterPos w.heap.size = pos := by simp
      rw [e1, e2]
      omega
    · have hdig : z9j c = (c - 48) % 256 := by unfold z9j; rw [if_neg hge]
      go_wp2
      obtain ⟨d', h1, h2⟩ := HST.out
      unfold z56 at h2
      rw [hdig, hc] at h2
      refine ⟨⟨pos + (Utf8.decode a0 pos).2, d', _, rfl, rfl, ⟨h1⟩, ⟨h2⟩⟩, ?_⟩
      have e1 : (w.iter a0 (pos + (Utf8.decode a0 pos).snd)).iterPos w.heap.size = pos + (Utf8.decode a0 pos).snd := by simp
      have e2 : (w.iter a0 pos).iterPos w.heap.size = pos := by simp
      rw [e1, e2]
      omega
  · have hnx : ∀ ty, (Instr.next (.pointer (some ⟨w.heap.size, 0, none⟩)) true ty).run Tryz.prog (w.iter a0 pos) = _ := fun ty => run_next_end w a0 pos ty hp
    have hr : n = r := by rw [← HN.out, zdz hp]
    go_wp2
    go_ret
    refine ⟨?_, z7w w a0 pos⟩
    rw [hr]
    first | done | rfl
end Go.Proofs.YthebhbomlllpeaaGreatDoor.X
