/-
  ParsePaths: what the proof needs, put together by a program of this session (shake.py), part 9.
-/
import Derived.Test.YthebhbomlllpeaaGreatDoorZParsePaths8
set_option linter.unusedVariables false
set_option linter.unusedSimpArgs false
namespace Go.Proofs.YthebhbomlllpeaaGreatDoor.X
open Go.RowKit Go.Proofs.YthebhbomlllpeaaGreatDoorW.PrintWords Go.Proofs.YthebhbomlllpeaaGreatDoorW.PrintLast Go.Proofs.YthebhbomlllpeaaGreatDoorW.PrintMore
attribute [local go_sem] z4f z4g z50 z52 z3o z3p z4a z4b
def z14.j0 : Nat → ByteArray → Bool → Int → Int → ByteArray → Option (Int × Int × ByteArray × Int)
 | 0, _, _, _, _, _ => none
 | k + 1, x0, x34, x192000, x192001, x192002 => if x34 = true then ((z1f.f x0 10).bind fun t196 => ((z0w.f k 1 (wrap64 (t196)) (⟨#[]⟩ : ByteArray)).bind fun t197 => (if t197.toList = x0.toList then (some (1, wrap64 (t196), (⟨#[]⟩ : ByteArray), 0)) else (some (0, 0, (⟨#[]⟩ : ByteArray), 2))))) else ((z0w.f k x192000 x192001 x192002).bind fun t198 => (if t198.toList = x0.toList then (some (x192000, x192001, x192002, 0)) else (some (0, 0, (⟨#[]⟩ : ByteArray), 2))))
def z14.f (k : Nat) (a0 : ByteArray) : Option (Int × Int × ByteArray × Int) := if a0.toList = ([] : List UInt8) then (some (0, 0, (⟨#[]⟩ : ByteArray), 2)) else (if 0 < (a0.size : Int) then (if (bt a0 0) = 35 then (if 1 ≤ (a0.size : Int) then ((z1f.f (a0.extract 1 a0.size) 16).bind fun t192 => ((z0w.f k 2 (wrap64 (t192)) (⟨#[]⟩ : ByteArray)).bind fun t193 => (if t193.toList = a0.toList then (some (2, wrap64 (t192), (⟨#[]⟩ : ByteArray), 0)) else (some (0, 0, (⟨#[]⟩ : ByteArray), 2))))) else (none)) else (if (bt a0 0) = 45 then (if 1 ≤ (a0.size : Int) then ((z1f.f (a0.extract 1 a0.size) 10).bind fun t194 => ((z0w.f k 1 (wrap64 (IntKind.u64.wrap (-t194))) (⟨#[]⟩ : ByteArray)).bind fun t195 => (if t195.toList = a0.toList then (some (1, wrap64 (IntKind.u64.wrap (-t194)), (⟨#[]⟩ : ByteArray), 0)) else (some (0, 0, (⟨#[]⟩ : ByteArray), 2))))) else (none)) else (if (bt a0 0) ≥ 48 then (z14.j0 k a0 (decide ((bt a0 0) ≤ 57)) 3 0 a0) else (z14.j0 k a0 false 3 0 a0)))) else (none))
set_option maxHeartbeats 8000000 in
set_option maxRecDepth 100000 in
theorem z14.calls (k : Nat) (a0 : ByteArray) (r1 : Int) (r2 : Int) (r3 : ByteArray) (r4 : Int) (w : World) (h : z14.f k a0 = some (r1, r2, r3, r4)) :
 Calls Tryz.prog 101 #[.string a0] w fun e w' => e = .returned (.tuple #[.agg #[.int .i64 r1, .int .i64 r2, .string r3], .int .i64 r4]) ∧ Below w.heap.size w w' := by
 unfold z14.f at h
 obtain ⟨n0, en0⟩ : ∃ n, w.heap.size = n := ⟨_, rfl⟩
 have hB0 : Below w.heap.size w (w.alloc (.cells #[.int .i64 0, .int .i64 0, .string ⟨#[]⟩] 58)) := z04 (Below.refl _ _) _
 have hN0 := z1q w (.cells #[.int .i64 0, .int .i64 0, .string ⟨#[]⟩] 58)
 rw [en0] at hN0
 by_cases c1 : a0.toList = []
 · rw [if_pos c1] at h
   simp only [Option.some.injEq, Prod.mk.injEq] at h
   obtain ⟨rfl, rfl, rfl, rfl⟩ := h
   have b1 : (a0.toList == ([] : List UInt8)) = true := beq_iff_eq.mpr c1
   clear c1
   go_enter Tryz.func101, Tryz.ntmps101
   go_wp2_with fail
   refine bodyPost_ret (z23 rfl _ _ n0 58 #[.int .i64 0, .int .i64 0, .string ⟨#[]⟩] (0, 0) _ rfl hN0 Tryz.underlying58 rfl (by kernel_rfl)) rfl ?_
   exact ⟨rfl, hB0⟩
 rw [if_neg c1] at h
 have b1 : (a0.toList == ([] : List UInt8)) = false := beq_eq_false_iff_ne.mpr c1
 split at h
 case isFalse => cases h
 rename_i c2
 have b2 : decide (0 < (a0.size : Int)) = true := decide_eq_true c2
 have b7 : 0 < a0.size := by omega
 have b3 : decide (0 < a0.size) = true := decide_eq_true b7
 have hbt : bt a0 0 = ((a0[0]'b7).toNat : Int) := z5g a0 0 b7
 rw [hbt] at h
 obtain ⟨W1, hW1⟩ : ∃ W, w.alloc (.cells #[.int .i64 0, .int .i64 0, .string ⟨#[]⟩] 58) = W := ⟨_, rfl⟩
 have hB2 : Below w.heap.size w (W1.alloc (.cells #[.int .i64 3, .int .i64 0, .string a0] 58)) := z04 (hW1 ▸ hB0) _
 have hN1 := z1q W1 (.cells #[.int .i64 3, .int .i64 0, .string a0] 58)
 have hN2 := z0k (hW1 ▸ hN0) (.cells #[.int .i64 3, .int .i64 0, .string a0] 58)
 have hsz : W1.heap.size = n0 + 1 := by rw [← hW1]; simp [en0]
 rw [hsz] at hN1
 have c4 : 1 ≤ (a0.size : Int) := by omega
 have b5 := eq_true c4
 have b6 : decide (1 ≤ (a0.size : Int)) = true := decide_eq_true c4
 clear c1 c2 hbt
 by_cases c3 : ((a0[0]'b7).toNat : Int) = 35
 · rw [if_pos c3, if_pos c4] at h
   have b4 : (((a0[0]'b7).toNat : Int) == 35) = true := beq_iff_eq.mpr c3
   clear c3
   obtain ⟨x, hx, h⟩ := Option.bind_eq_some_iff.mp h
   obtain ⟨y, hy, h⟩ := Option.bind_eq_some_iff.mp h
   have A1 := z00.mk hx
   have A2 := z00.mk hy
   have HH := z00.mk h
   clear hx hy h
   go_enter Tryz.func101, Tryz.ntmps101
   go_wp2_with fail
   refine (z1f.calls _ _ x _ A1.out).mono ?_
   rintro e w1 ⟨rfl, hb⟩
   have k1 := z0r hN1 hb
   have k2 := z0r hN2 hb
   have hB3 := z1e hB2 hB2.size hb
   have d0 : w1.cell? ⟨n0 + 1, 0, none⟩ = some (.int .i64 3) := (z03 k1 0).trans rfl
   have d1 : w1.cell? ⟨n0 + 1, 1, none⟩ = some (.int .i64 0) := (z03 k1 1).trans rfl
   have d2 : w1.cell? ⟨n0 + 1, 2, none⟩ = some (.string a0) := (z03 k1 2).trans rfl
   have f0 := z02 k1 0
   have f1 := z02 k1 1
   have f2 := z02 k1 2
   go_wp2_with fail
   refine (z0w.calls _ 2 (wrap64 x) ⟨#[]⟩ y _ A2.out).mono ?_
   rintro e w2 ⟨rfl, hb2⟩
   have k3 : w2.heap[n0 + 1]? = some (.cells #[.int .i64 2, .int .i64 (wrap64 x), .string ⟨#[]⟩] 58 (0, 0)) := z0r (z0v (cs := #[.int .i64 2, .int .i64 (wrap64 x), .string a0]) (z0v (cs := #[.int .i64 2, .int .i64 0, .string a0]) (z0v (cs := #[.int .i64 3, .int .i64 0, .string a0]) k1 0 _ rfl) 1 _ rfl) 2 _ rfl) hb2
   have k4 : w2.heap[n0]? = some (.cells #[.int .i64 0, .int .i64 0, .string ⟨#[]⟩] 58 (0, 0)) := z0r (z15 (z15 (z15 (k2) (p := ⟨n0 + 1, 0, none⟩) (by show n0 ≠ n0 + 1; omega) _) (p := ⟨n0 + 1, 1, none⟩) (by show n0 ≠ n0 + 1; omega) _) (p := ⟨n0 + 1, 2, none⟩) (by show n0 ≠ n0 + 1; omega) _) hb2
   have hB4 : Below w.heap.size w w2 := by
    have hS : ∀ W2, Below w.heap.size w W2 → Below W2.heap.size W2 w2 → Below w.heap.size w w2 := fun W2 h1 h2 => z1e h1 h1.size h2
    exact hS _ (z07 (z07 (z07 hB3 (by show w.heap.size ≤ n0 + 1; omega)) (by show w.heap.size ≤ n0 + 1; omega)) (by show w.heap.size ≤ n0 + 1; omega)) hb2
   by_cases c9 : y.toList = a0.toList
   · have h := HH.out
     rw [if_pos c9] at h
     simp only [Option.some.injEq, Prod.mk.injEq] at h
     obtain ⟨rfl, rfl, rfl, rfl⟩ := h
     have b9 : (y.toList != a0.toList) = false := bne_eq_false_iff_eq.mpr c9
     have b8 : (y.toList == a0.toList) = true := beq_iff_eq.mpr c9
     clear c9
     have g0 : w2.cell? ⟨n0 + 1, 0, none⟩ = some (.int .i64 2) := (z03 k3 0).trans rfl
     have g1 : w2.cell? ⟨n0 + 1, 1, none⟩ = some (.int .i64 (wrap64 x)) := (z03 k3 1).trans rfl
     have g2 : w2.cell? ⟨n0 + 1, 2, none⟩ = some (.string ⟨#[]⟩) := (z03 k3 2).trans rfl
     have g3 : w2.cell? ⟨n0, 0, none⟩ = some (.int .i64 0) := (z03 k4 0).trans rfl
     have g4 : w2.cell? ⟨n0, 1, none⟩ = some (.int .i64 0) := (z03 k4 1).trans rfl
     have g5 : w2.cell? ⟨n0, 2, none⟩ = some (.string ⟨#[]⟩) := (z03 k4 2).trans rfl
     have u0 := z02 k4 0
     have u1 := z02 k4 1
     have u2 := z02 k4 2
     go_wp2_with fail
     refine bodyPost_ret (z23 rfl _ _ n0 58 #[.int .i64 2, .int .i64 (wrap64 x), .string ⟨#[]⟩] (0, 0) _ rfl (z0v (cs := #[.int .i64 2, .int .i64 (wrap64 x), .string ⟨#[]⟩]) (z0v (cs := #[.int .i64 2, .int .i64 0, .string ⟨#[]⟩]) (z0v (cs := #[.int .i64 0, .int .i64 0, .string ⟨#[]⟩]) k4 0 _ rfl) 1 _ rfl) 2 _ rfl) Tryz.underlying58 rfl (by kernel_rfl)) rfl ?_
     exact ⟨rfl, z07 (z07 (z07 hB4 (by show w.heap.size ≤ n0; omega)) (by show w.heap.size ≤ n0; omega)) (by show w.heap.size ≤ n0; omega)⟩
   · have h := HH.out
     rw [if_neg c9] at h
     simp only [Option.some.injEq, Prod.mk.injEq] at h
     obtain ⟨rfl, rfl, rfl, rfl⟩ := h
     have b9 : (y.toList != a0.toList) = true := bne_iff_ne.mpr c9
     have b8 : (y.toList == a0.toList) = false := beq_eq_false_iff_ne.mpr c9
     clear c9
     have g0 : w2.cell? ⟨n0 + 1, 0, none⟩ = some (.int .i64 2) := (z03 k3 0).trans rfl
     have g1 : w2.cell? ⟨n0 + 1, 1, none⟩ = some (.int .i64 (wrap64 x)) := (z03 k3 1).trans rfl
     have g2 : w2.cell? ⟨n0 + 1, 2, none⟩ = some (.string ⟨#[]⟩) := (z03 k3 2).trans rfl
     have g3 : w2.cell? ⟨n0, 0, none⟩ = some (.int .i64 0) := (z03 k4 0).trans rfl
     have g4 : w2.cell? ⟨n0, 1, none⟩ = some (.int .i64 0) := (z03 k4 1).trans rfl
     have g5 : w2.cell? ⟨n0, 2, none⟩ = some (.string ⟨#[]⟩) := (z03 k4 2).trans rfl
     have u0 := z02 k4 0
     have u1 := z02 k4 1
     have u2 := z02 k4 2
     go_wp2_with fail
     refine bodyPost_ret (z23 rfl _ _ n0 58 #[.int .i64 0, .int .i64 0, .string ⟨#[]⟩] (0, 0) _ rfl (z0v (cs := #[.int .i64 0, .int .i64 0, .string ⟨#[]⟩]) (z0v (cs := #[.int .i64 0, .int .i64 0, .string ⟨#[]⟩]) (z0v (cs := #[.int .i64 0, .int .i64 0, .string ⟨#[]⟩]) k4 0 _ rfl) 1 _ rfl) 2 _ rfl) Tryz.underlying58 rfl (by kernel_rfl)) rfl ?_
     exact ⟨rfl, z07 (z07 (z07 hB4 (by show w.heap.size ≤ n0; omega)) (by show w.heap.size ≤ n0; omega)) (by show w.heap.size ≤ n0; omega)⟩
 rw [if_neg c3] at h
 have b4 : (((a0[0]'b7).toNat : Int) == 35) = false := beq_eq_false_iff_ne.mpr c3
 by_cases c5 : ((a0[0]'b7).toNat : Int) = 45
 · rw [if_pos c5, if_pos c4] at h
   have b10 : (((a0[0]'b7).toNat : Int) == 45) = true := beq_iff_eq.mpr c5
   clear c3 c5
   obtain ⟨x, hx, h⟩ := Option.bind_eq_some_iff.mp h
   obtain ⟨y, hy, h⟩ := Option.bind_eq_some_iff.mp h
   have A1 := z00.mk hx
   have A2 := z00.mk hy
   have HH := z00.mk h
   clear hx hy h
   go_enter Tryz.func101, Tryz.ntmps101
   go_wp2_with fail
   refine (z1f.calls _ _ x _ A1.out).mono ?_
   rintro e w1 ⟨rfl, hb⟩
   have k1 := z0r hN1 hb
   have k2 := z0r hN2 hb
   have hB3 := z1e hB2 hB2.size hb
   have d0 : w1.cell? ⟨n0 + 1, 0, none⟩ = some (.int .i64 3) := (z03 k1 0).trans rfl
   have d1 : w1.cell? ⟨n0 + 1, 1, none⟩ = some (.int .i64 0) := (z03 k1 1).trans rfl
   have d2 : w1.cell? ⟨n0 + 1, 2, none⟩ = some (.string a0) := (z03 k1 2).trans rfl
   have f0 := z02 k1 0
   have f1 := z02 k1 1
   have f2 := z02 k1 2
   go_wp2_with fail
   refine (z0w.calls _ 1 (wrap64 (IntKind.u64.wrap (-x))) ⟨#[]⟩ y _ A2.out).mono ?_
   rintro e w2 ⟨rfl, hb2⟩
   have k3 : w2.heap[n0 + 1]? = some (.cells #[.int .i64 1, .int .i64 (wrap64 (IntKind.u64.wrap (-x))), .string ⟨#[]⟩] 58 (0, 0)) := z0r (z0v (cs := #[.int .i64 1, .int .i64 (wrap64 (IntKind.u64.wrap (-x))), .string a0]) (z0v (cs := #[.int .i64 1, .int .i64 0, .string a0]) (z0v (cs := #[.int .i64 3, .int .i64 0, .string a0]) k1 0 _ rfl) 1 _ rfl) 2 _ rfl) hb2
   have k4 : w2.heap[n0]? = some (.cells #[.int .i64 0, .int .i64 0, .string ⟨#[]⟩] 58 (0, 0)) := z0r (z15 (z15 (z15 (k2) (p := ⟨n0 + 1, 0, none⟩) (by show n0 ≠ n0 + 1; omega) _) (p := ⟨n0 + 1, 1, none⟩) (by show n0 ≠ n0 + 1; omega) _) (p := ⟨n0 + 1, 2, none⟩) (by show n0 ≠ n0 + 1; omega) _) hb2
   have hB4 : Below w.heap.size w w2 := by
    have hS : ∀ W2, Below w.heap.size w W2 → Below W2.heap.size W2 w2 → Below w.heap.size w w2 := fun W2 h1 h2 => z1e h1 h1.size h2
    exact hS _ (z07 (z07 (z07 hB3 (by show w.heap.size ≤ n0 + 1; omega)) (by show w.heap.size ≤ n0 + 1; omega)) (by show w.heap.size ≤ n0 + 1; omega)) hb2
   by_cases c9 : y.toList = a0.toList
   · have h := HH.out
     rw [if_pos c9] at h
     simp only [Option.some.injEq, Prod.mk.injEq] at h
     obtain ⟨rfl, rfl, rfl, rfl⟩ := h
     have b9 : (y.toList != a0.toList) = false := bne_eq_false_iff_eq.mpr c9
     have b8 : (y.toList == a0.toList) = true := beq_iff_eq.mpr c9
     clear c9
     have g0 : w2.cell? ⟨n0 + 1, 0, none⟩ = some (.int .i64 1) := (z03 k3 0).trans rfl
     have g1 : w2.cell? ⟨n0 + 1, 1, none⟩ = some (.int .i64 (wrap64 (IntKind.u64.wrap (-x)))) := (z03 k3 1).trans rfl
     have g2 : w2.cell? ⟨n0 + 1, 2, none⟩ = some (.string ⟨#[]⟩) := (z03 k3 2).trans rfl
     have g3 : w2.cell? ⟨n0, 0, none⟩ = some (.int .i64 0) := (z03 k4 0).trans rfl
     have g4 : w2.cell? ⟨n0, 1, none⟩ = some (.int .i64 0) := (z03 k4 1).trans rfl
     have g5 : w2.cell? ⟨n0, 2, none⟩ = some (.string ⟨#[]⟩) := (z03 k4 2).trans rfl
     have u0 := z02 k4 0
     have u1 := z02 k4 1
     have u2 := z02 k4 2
     go_wp2_with fail
     refine bodyPost_ret (z23 rfl _ _ n0 58 #[.int .i64 1, .int .i64 (wrap64 (IntKind.u64.wrap (-x))), .string ⟨#[]⟩] (0, 0) _ rfl (z0v (cs := #[.int .i64 1, .int .i64 (wrap64 (IntKind.u64.wrap (-x))), .string ⟨#[]⟩]) (z0v (cs := #[.int .i64 1, .int .i64 0, .string ⟨#[]⟩]) (z0v (cs := #[.int .i64 0, .int .i64 0, .string ⟨#[]⟩]) k4 0 _ rfl) 1 _ rfl) 2 _ rfl) Tryz.underlying58 rfl (by kernel_rfl)) rfl ?_
     exact ⟨rfl, z07 (z07 (z07 hB4 (by show w.heap.size ≤ n0; omega)) (by show w.heap.size ≤ n0; omega)) (by show w.heap.size ≤ n0; omega)⟩
   · have h := HH.out
     rw [if_neg c9] at h
     simp only [Option.some.injEq, Prod.mk.injEq] at h
     obtain ⟨rfl, rfl, rfl, rfl⟩ := h
     have b9 : (y.toList != a0.toList) = true := bne_iff_ne.mpr c9
     have b8 : (y.toList == a0.toList) = false := beq_eq_false_iff_ne.mpr c9
     clear c9
     have g0 : w2.cell? ⟨n0 + 1, 0, none⟩ = some (.int .i64 1) := (z03 k3 0).trans rfl
     have g1 : w2.cell? ⟨n0 + 1, 1, none⟩ = some (.int .i64 (wrap64 (IntKind.u64.wrap (-x)))) := (z03 k3 1).trans rfl
     have g2 : w2.cell? ⟨n0 + 1, 2, none⟩ = some (.string ⟨#[]⟩) := (z03 k3 2).trans rfl
     have g3 : w2.cell? ⟨n0, 0, none⟩ = some (.int .i64 0) := (z03 k4 0).trans rfl
     have g4 : w2.cell? ⟨n0, 1, none⟩ = some (.int .i64 0) := (z03 k4 1).trans rfl
     have g5 : w2.cell? ⟨n0, 2, none⟩ = some (.string ⟨#[]⟩) := (z03 k4 2).trans rfl
     have u0 := z02 k4 0
     have u1 := z02 k4 1
     have u2 := z02 k4 2
     go_wp2_with fail
     refine bodyPost_ret (z23 rfl _ _ n0 58 #[.int .i64 0, .int .i64 0, .string ⟨#[]⟩] (0, 0) _ rfl (z0v (cs := #[.int .i64 0, .int .i64 0, .string ⟨#[]⟩]) (z0v (cs := #[.int .i64 0, .int .i64 0, .string ⟨#[]⟩]) (z0v (cs := #[.int .i64 0, .int .i64 0, .string ⟨#[]⟩]) k4 0 _ rfl) 1 _ rfl) 2 _ rfl) Tryz.underlying58 rfl (by kernel_rfl)) rfl ?_
     exact ⟨rfl, z07 (z07 (z07 hB4 (by show w.heap.size ≤ n0; omega)) (by show w.heap.size ≤ n0; omega)) (by show w.heap.size ≤ n0; omega)⟩
 rw [if_neg c5] at h
 have b10 : (((a0[0]'b7).toNat : Int) == 45) = false := beq_eq_false_iff_ne.mpr c5
 have hj : ∃ b : Bool, b = (decide ((48 : Int) ≤ ((a0[0]'b7).toNat : Int)) && decide (((a0[0]'b7).toNat : Int) ≤ (57 : Int))) ∧ z14.j0 k a0 b 3 0 a0 = some (r1, r2, r3, r4) := by
  refine ⟨_, rfl, ?_⟩
  split at h
  · rename_i c6; rw [decide_eq_true (show (48 : Int) ≤ ((a0[0]'b7).toNat : Int) from c6), Bool.true_and]; exact h
  · rename_i c6; rw [decide_eq_false (show ¬ (48 : Int) ≤ ((a0[0]'b7).toNat : Int) from c6), Bool.false_and]; exact h
 clear h c3 c5
 obtain ⟨b, hb0, h⟩ := hj
 cases k with
 | zero => simp [z14.j0] at h
 | succ k =>
 simp only [z14.j0] at h
 cases b with
 | true =>
  rw [if_pos rfl] at h
  have c7 := Bool.and_eq_true_iff.1 hb0.symm
  have b11 := c7.1
  have b12 := c7.2
  have b13 : decide (48 ≤ (a0[0]'b7).toNat) = true := decide_eq_true (by have := of_decide_eq_true b11; omega)
  have b14 : decide ((a0[0]'b7).toNat ≤ 57) = true := decide_eq_true (by have := of_decide_eq_true b12; omega)
  clear hb0 c7
  obtain ⟨x, hx, h⟩ := Option.bind_eq_some_iff.mp h
  obtain ⟨y, hy, h⟩ := Option.bind_eq_some_iff.mp h
  have A1 := z00.mk hx
  have A2 := z00.mk hy
  have HH := z00.mk h
  clear hx hy h
  go_enter Tryz.func101, Tryz.ntmps101
  go_wp2_with fail
  refine (z1f.calls _ _ x _ A1.out).mono ?_
  rintro e w1 ⟨rfl, hb⟩
  have k1 := z0r hN1 hb
  have k2 := z0r hN2 hb
  have hB3 := z1e hB2 hB2.size hb
  have d0 : w1.cell? ⟨n0 + 1, 0, none⟩ = some (.int .i64 3) := (z03 k1 0).trans rfl
  have d1 : w1.cell? ⟨n0 + 1, 1, none⟩ = some (.int .i64 0) := (z03 k1 1).trans rfl
  have d2 : w1.cell? ⟨n0 + 1, 2, none⟩ = some (.string a0) := (z03 k1 2).trans rfl
  have f0 := z02 k1 0
  have f1 := z02 k1 1
  have f2 := z02 k1 2
  go_wp2_with fail
  refine (z0w.calls _ 1 (wrap64 x) ⟨#[]⟩ y _ A2.out).mono ?_
  rintro e w2 ⟨rfl, hb2⟩
  have k3 : w2.heap[n0 + 1]? = some (.cells #[.int .i64 1, .int .i64 (wrap64 x), .string ⟨#[]⟩] 58 (0, 0)) := z0r (z0v (cs := #[.int .i64 1, .int .i64 (wrap64 x), .string a0]) (z0v (cs := #[.int .i64 1, .int .i64 0, .string a0]) (z0v (cs := #[.int .i64 3, .int .i64 0, .string a0]) k1 0 _ rfl) 1 _ rfl) 2 _ rfl) hb2
  have k4 : w2.heap[n0]? = some (.cells #[.int .i64 0, .int .i64 0, .string ⟨#[]⟩] 58 (0, 0)) := z0r (z15 (z15 (z15 (k2) (p := ⟨n0 + 1, 0, none⟩) (by show n0 ≠ n0 + 1; omega) _) (p := ⟨n0 + 1, 1, none⟩) (by show n0 ≠ n0 + 1; omega) _) (p := ⟨n0 + 1, 2, none⟩) (by show n0 ≠ n0 + 1; omega) _) hb2
  have hB4 : Below w.heap.size w w2 := by
   have hS : ∀ W2, Below w.heap.size w W2 → Below W2.heap.size W2 w2 → Below w.heap.size w w2 := fun W2 h1 h2 => z1e h1 h1.size h2
   exact hS _ (z07 (z07 (z07 hB3 (by show w.heap.size ≤ n0 + 1; omega)) (by show w.heap.size ≤ n0 + 1; omega)) (by show w.heap.size ≤ n0 + 1; omega)) hb2
  by_cases c9 : y.toList = a0.toList
  · have h := HH.out
    rw [if_pos c9] at h
    simp only [Option.some.injEq, Prod.mk.injEq] at h
    obtain ⟨rfl, rfl, rfl, rfl⟩ := h
    have b9 : (y.toList != a0.toList) = false := bne_eq_false_iff_eq.mpr c9
    have b8 : (y.toList == a0.toList) = true := beq_iff_eq.mpr c9
    clear c9
    have g0 : w2.cell? ⟨n0 + 1, 0, none⟩ = some (.int .i64 1) := (z03 k3 0).trans rfl
    have g1 : w2.cell? ⟨n0 + 1, 1, none⟩ = some (.int .i64 (wrap64 x)) := (z03 k3 1).trans rfl
    have g2 : w2.cell? ⟨n0 + 1, 2, none⟩ = some (.string ⟨#[]⟩) := (z03 k3 2).trans rfl
    have g3 : w2.cell? ⟨n0, 0, none⟩ = some (.int .i64 0) := (z03 k4 0).trans rfl
    have g4 : w2.cell? ⟨n0, 1, none⟩ = some (.int .i64 0) := (z03 k4 1).trans rfl
    have g5 : w2.cell? ⟨n0, 2, none⟩ = some (.string ⟨#[]⟩) := (z03 k4 2).trans rfl
    have u0 := z02 k4 0
    have u1 := z02 k4 1
    have u2 := z02 k4 2
    go_wp2_with fail
    refine bodyPost_ret (z23 rfl _ _ n0 58 #[.int .i64 1, .int .i64 (wrap64 x), .string ⟨#[]⟩] (0, 0) _ rfl (z0v (cs := #[.int .i64 1, .int .i64 (wrap64 x), .string ⟨#[]⟩]) (z0v (cs := #[.int .i64 1, .int .i64 0, .string ⟨#[]⟩]) (z0v (cs := #[.int .i64 0, .int .i64 0, .string ⟨#[]⟩]) k4 0 _ rfl) 1 _ rfl) 2 _ rfl) Tryz.underlying58 rfl (by kernel_rfl)) rfl ?_
    exact ⟨rfl, z07 (z07 (z07 hB4 (by show w.heap.size ≤ n0; omega)) (by show w.heap.size ≤ n0; omega)) (by show w.heap.size ≤ n0; omega)⟩
  · have h := HH.out
    rw [if_neg c9] at h
    simp only [Option.some.injEq, Prod.mk.injEq] at h
    obtain ⟨rfl, rfl, rfl, rfl⟩ := h
    have b9 : (y.toList != a0.toList) = true := bne_iff_ne.mpr c9
    have b8 : (y.toList == a0.toList) = false := beq_eq_false_iff_ne.mpr c9
    clear c9
    have g0 : w2.cell? ⟨n0 + 1, 0, none⟩ = some (.int .i64 1) := (z03 k3 0).trans rfl
    have g1 : w2.cell? ⟨n0 + 1, 1, none⟩ = some (.int .i64 (wrap64 x)) := (z03 k3 1).trans rfl
    have g2 : w2.cell? ⟨n0 + 1, 2, none⟩ = some (.string ⟨#[]⟩) := (z03 k3 2).trans rfl
    have g3 : w2.cell? ⟨n0, 0, none⟩ = some (.int .i64 0) := (z03 k4 0).trans rfl
    have g4 : w2.cell? ⟨n0, 1, none⟩ = some (.int .i64 0) := (z03 k4 1).trans rfl
    have g5 : w2.cell? ⟨n0, 2, none⟩ = some (.string ⟨#[]⟩) := (z03 k4 2).trans rfl
    have u0 := z02 k4 0
    have u1 := z02 k4 1
    have u2 := z02 k4 2
    go_wp2_with fail
    refine bodyPost_ret (z23 rfl _ _ n0 58 #[.int .i64 0, .int .i64 0, .string ⟨#[]⟩] (0, 0) _ rfl (z0v (cs := #[.int .i64 0, .int .i64 0, .string ⟨#[]⟩]) (z0v (cs := #[.int .i64 0, .int .i64 0, .string ⟨#[]⟩]) (z0v (cs := #[.int .i64 0, .int .i64 0, .string ⟨#[]⟩]) k4 0 _ rfl) 1 _ rfl) 2 _ rfl) Tryz.underlying58 rfl (by kernel_rfl)) rfl ?_
    exact ⟨rfl, z07 (z07 (z07 hB4 (by show w.heap.size ≤ n0; omega)) (by show w.heap.size ≤ n0; omega)) (by show w.heap.size ≤ n0; omega)⟩
 | false =>
  rw [if_neg (by decide)] at h
  obtain ⟨y, hy, h⟩ := Option.bind_eq_some_iff.mp h
  have A2 := z00.mk hy
  have HH := z00.mk h
  clear hy h
  have hB3 := hB2
  have k1 := hN1
  have k2 := hN2
  have g0 : (W1.alloc (.cells #[.int .i64 3, .int .i64 0, .string a0] 58)).cell? ⟨n0 + 1, 0, none⟩ = some (.int .i64 3) := (z03 k1 0).trans rfl
  have g1 : (W1.alloc (.cells #[.int .i64 3, .int .i64 0, .string a0] 58)).cell? ⟨n0 + 1, 1, none⟩ = some (.int .i64 0) := (z03 k1 1).trans rfl
  have g2 : (W1.alloc (.cells #[.int .i64 3, .int .i64 0, .string a0] 58)).cell? ⟨n0 + 1, 2, none⟩ = some (.string a0) := (z03 k1 2).trans rfl
  cases h6 : decide ((48 : Int) ≤ ((a0[0]'b7).toNat : Int)) with
  | true =>
   have b12 : decide (((a0[0]'b7).toNat : Int) ≤ (57 : Int)) = false := by rw [h6, Bool.true_and] at hb0; exact hb0.symm
   have b13 : decide (48 ≤ (a0[0]'b7).toNat) = true := decide_eq_true (by have := of_decide_eq_true h6; omega)
   have b14 : decide ((a0[0]'b7).toNat ≤ 57) = false := decide_eq_false (by have := of_decide_eq_false b12; omega)
   clear hb0
   go_enter Tryz.func101, Tryz.ntmps101
   skip
   go_wp2_with fail
   refine (z0w.calls _ 3 0 a0 y _ A2.out).mono ?_
   rintro e w2 ⟨rfl, hb2⟩
   have k3 : w2.heap[n0 + 1]? = some (.cells #[.int .i64 3, .int .i64 0, .string a0] 58 (0, 0)) := z0r k1 hb2
   have k4 : w2.heap[n0]? = some (.cells #[.int .i64 0, .int .i64 0, .string ⟨#[]⟩] 58 (0, 0)) := z0r (k2) hb2
   have hB4 := z1e hB3 hB3.size hb2
   by_cases c9 : y.toList = a0.toList
   · have h := HH.out
     rw [if_pos c9] at h
     simp only [Option.some.injEq, Prod.mk.injEq] at h
     obtain ⟨rfl, rfl, rfl, rfl⟩ := h
     have b9 : (y.toList != a0.toList) = false := bne_eq_false_iff_eq.mpr c9
     have b8 : (y.toList == a0.toList) = true := beq_iff_eq.mpr c9
     clear c9
     have g0 : w2.cell? ⟨n0 + 1, 0, none⟩ = some (.int .i64 3) := (z03 k3 0).trans rfl
     have g1 : w2.cell? ⟨n0 + 1, 1, none⟩ = some (.int .i64 0) := (z03 k3 1).trans rfl
     have g2 : w2.cell? ⟨n0 + 1, 2, none⟩ = some (.string a0) := (z03 k3 2).trans rfl
     have g3 : w2.cell? ⟨n0, 0, none⟩ = some (.int .i64 0) := (z03 k4 0).trans rfl
     have g4 : w2.cell? ⟨n0, 1, none⟩ = some (.int .i64 0) := (z03 k4 1).trans rfl
     have g5 : w2.cell? ⟨n0, 2, none⟩ = some (.string ⟨#[]⟩) := (z03 k4 2).trans rfl
     have u0 := z02 k4 0
     have u1 := z02 k4 1
     have u2 := z02 k4 2
     go_wp2_with fail
     refine bodyPost_ret (z23 rfl _ _ n0 58 #[.int .i64 3, .int .i64 0, .string a0] (0, 0) _ rfl (z0v (cs := #[.int .i64 3, .int .i64 0, .string ⟨#[]⟩]) (z0v (cs := #[.int .i64 3, .int .i64 0, .string ⟨#[]⟩]) (z0v (cs := #[.int .i64 0, .int .i64 0, .string ⟨#[]⟩]) k4 0 _ rfl) 1 _ rfl) 2 _ rfl) Tryz.underlying58 rfl (by kernel_rfl)) rfl ?_
     exact ⟨rfl, z07 (z07 (z07 hB4 (by show w.heap.size ≤ n0; omega)) (by show w.heap.size ≤ n0; omega)) (by show w.heap.size ≤ n0; omega)⟩
   · have h := HH.out
     rw [if_neg c9] at h
     simp only [Option.some.injEq, Prod.mk.injEq] at h
     obtain ⟨rfl, rfl, rfl, rfl⟩ := h
     have b9 : (y.toList != a0.toList) = true := bne_iff_ne.mpr c9
     have b8 : (y.toList == a0.toList) = false := beq_eq_false_iff_ne.mpr c9
     clear c9
     have g0 : w2.cell? ⟨n0 + 1, 0, none⟩ = some (.int .i64 3) := (z03 k3 0).trans rfl
     have g1 : w2.cell? ⟨n0 + 1, 1, none⟩ = some (.int .i64 0) := (z03 k3 1).trans rfl
     have g2 : w2.cell? ⟨n0 + 1, 2, none⟩ = some (.string a0) := (z03 k3 2).trans rfl
     have g3 : w2.cell? ⟨n0, 0, none⟩ = some (.int .i64 0) := (z03 k4 0).trans rfl
     have g4 : w2.cell? ⟨n0, 1, none⟩ = some (.int .i64 0) := (z03 k4 1).trans rfl
     have g5 : w2.cell? ⟨n0, 2, none⟩ = some (.string ⟨#[]⟩) := (z03 k4 2).trans rfl
     have u0 := z02 k4 0
     have u1 := z02 k4 1
     have u2 := z02 k4 2
     go_wp2_with fail
     refine bodyPost_ret (z23 rfl _ _ n0 58 #[.int .i64 0, .int .i64 0, .string ⟨#[]⟩] (0, 0) _ rfl (z0v (cs := #[.int .i64 0, .int .i64 0, .string ⟨#[]⟩]) (z0v (cs := #[.int .i64 0, .int .i64 0, .string ⟨#[]⟩]) (z0v (cs := #[.int .i64 0, .int .i64 0, .string ⟨#[]⟩]) k4 0 _ rfl) 1 _ rfl) 2 _ rfl) Tryz.underlying58 rfl (by kernel_rfl)) rfl ?_
     exact ⟨rfl, z07 (z07 (z07 hB4 (by show w.heap.size ≤ n0; omega)) (by show w.heap.size ≤ n0; omega)) (by show w.heap.size ≤ n0; omega)⟩
  | false =>
   have b13 : decide (48 ≤ (a0[0]'b7).toNat) = false := decide_eq_false (by have := of_decide_eq_false h6; omega)
   clear hb0
   go_enter Tryz.func101, Tryz.ntmps101
   skip
   go_wp2_with fail
   refine (z0w.calls _ 3 0 a0 y _ A2.out).mono ?_
   rintro e w2 ⟨rfl, hb2⟩
   have k3 : w2.heap[n0 + 1]? = some (.cells #[.int .i64 3, .int .i64 0, .string a0] 58 (0, 0)) := z0r k1 hb2
   have k4 : w2.heap[n0]? = some (.cells #[.int .i64 0, .int .i64 0, .string ⟨#[]⟩] 58 (0, 0)) := z0r (k2) hb2
   have hB4 := z1e hB3 hB3.size hb2
   by_cases c9 : y.toList = a0.toList
   · have h := HH.out
     rw [if_pos c9] at h
     simp only [Option.some.injEq, Prod.mk.injEq] at h
     obtain ⟨rfl, rfl, rfl, rfl⟩ := h
     have b9 : (y.toList != a0.toList) = false := bne_eq_false_iff_eq.mpr c9
     have b8 : (y.toList == a0.toList) = true := beq_iff_eq.mpr c9
     clear c9
     have g0 : w2.cell? ⟨n0 + 1, 0, none⟩ = some (.int .i64 3) := (z03 k3 0).trans rfl
     have g1 : w2.cell? ⟨n0 + 1, 1, none⟩ = some (.int .i64 0) := (z03 k3 1).trans rfl
     have g2 : w2.cell? ⟨n0 + 1, 2, none⟩ = some (.string a0) := (z03 k3 2).trans rfl
     have g3 : w2.cell? ⟨n0, 0, none⟩ = some (.int .i64 0) := (z03 k4 0).trans rfl
     have g4 : w2.cell? ⟨n0, 1, none⟩ = some (.int .i64 0) := (z03 k4 1).trans rfl
     have g5 : w2.cell? ⟨n0, 2, none⟩ = some (.string ⟨#[]⟩) := (z03 k4 2).trans rfl
     have u0 := z02 k4 0
     have u1 := z02 k4 1
     have u2 := z02 k4 2
     go_wp2_with fail
     refine bodyPost_ret (z23 rfl _ _ n0 58 #[.int .i64 3, .int .i64 0, .string a0] (0, 0) _ rfl (z0v (cs := #[.int .i64 3, .int .i64 0, .string ⟨#[]⟩]) (z0v (cs := #[.int .i64 3, .int .i64 0, .string ⟨#[]⟩]) (z0v (cs := #[.int .i64 0, .int .i64 0, .string ⟨#[]⟩]) k4 0 _ rfl) 1 _ rfl) 2 _ rfl) Tryz.underlying58 rfl (by kernel_rfl)) rfl ?_
     exact ⟨rfl, z07 (z07 (z07 hB4 (by show w.heap.size ≤ n0; omega)) (by show w.heap.size ≤ n0; omega)) (by show w.heap.size ≤ n0; omega)⟩
   · have h := HH.out
     rw [if_neg c9] at h
     simp only [Option.some.injEq, Prod.mk.injEq] at h
     obtain ⟨rfl, rfl, rfl, rfl⟩ := h
     have b9 : (y.toList != a0.toList) = true := bne_iff_ne.mpr c9
     have b8 : (y.toList == a0.toList) = false := beq_eq_false_iff_ne.mpr c9
     clear c9
     have g0 : w2.cell? ⟨n0 + 1, 0, none⟩ = some (.int .i64 3) := (z03 k3 0).trans rfl
     have g1 : w2.cell? ⟨n0 + 1, 1, none⟩ = some (.int .i64 0) := (z03 k3 1).trans rfl
     have g2 : w2.cell? ⟨n0 + 1, 2, none⟩ = some (.string a0) := (z03 k3 2).trans rfl
     have g3 : w2.cell? ⟨n0, 0, none⟩ = some (.int .i64 0) := (z03 k4 0).trans rfl
     have g4 : w2.cell? ⟨n0, 1, none⟩ = some (.int .i64 0) := (z03 k4 1).trans rfl
     have g5 : w2.cell? ⟨n0, 2, none⟩ = some (.string ⟨#[]⟩) := (z03 k4 2).trans rfl
     have u0 := z02 k4 0
     have u1 := z02 k4 1
     have u2 := z02 k4 2
     go_wp2_with fail
     refine bodyPost_ret (z23 rfl _ _ n0 58 #[.int .i64 0, .int .i64 0, .string ⟨#[]⟩] (0, 0) _ rfl (z0v (cs := #[.int .i64 0, .int .i64 0, .string ⟨#[]⟩]) (z0v (cs := #[.int .i64 0, .int .i64 0, .string ⟨#[]⟩]) (z0v (cs := #[.int .i64 0, .int .i64 0, .string ⟨#[]⟩]) k4 0 _ rfl) 1 _ rfl) 2 _ rfl) Tryz.underlying58 rfl (by kernel_rfl)) rfl ?_
     exact ⟨rfl, z07 (z07 (z07 hB4 (by show w.heap.size ≤ n0; omega)) (by show w.heap.size ≤ n0; omega)) (by show w.heap.size ≤ n0; omega)⟩
end Go.Proofs.YthebhbomlllpeaaGreatDoor.X
namespace Go.Proofs.YthebhbomlllpeaaGreatDoor.X
open Go.RowKit Go.Proofs.YthebhbomlllpeaaGreatDoorW.PrintWords Go.Proofs.YthebhbomlllpeaaGreatDoorW.PrintLast Go.Proofs.YthebhbomlllpeaaGreatDoorW.PrintMore
theorem zar (s : ByteArray) (b : Int) (hA : ∀ c ∈ s.data.toList, c.toNat < 128) : ∀ (d pos : Nat) (n : Int), s.size - pos ≤ d →
 z5h s b d pos n = (s.data.toList.drop pos).foldl (fun n (c : UInt8) => z56 b n (c.toNat : Int)) n := by
 have hlen : s.data.toList.length = s.size := rfl
 intro d
 induction d with
 | zero =>
  intro pos n h
  rw [List.drop_eq_nil_of_le (by omega)]; rfl
 | succ d ih =>
  intro pos n h
  simp only [z5h]
  by_cases hp : pos < s.size
  · have hc : (s[pos]'hp).toNat < 128 := hA _ (Array.mem_toList_iff.2 (Array.getElem_mem hp))
    rw [if_pos hp, decode_ascii s pos hp hc, ih _ _ (by omega), List.drop_eq_getElem_cons (by omega : pos < s.data.toList.length), List.foldl_cons, z5g s pos hp]
    rfl
  · rw [if_neg hp, List.drop_eq_nil_of_le (by omega)]; rfl
theorem z82 (l : List UInt8) (b : Int) (hA : ∀ c ∈ l, c.toNat < 128) : z1f.f ⟨l.toArray⟩ b = some (l.foldl (fun n (c : UInt8) => z56 b n (c.toNat : Int)) 0) := by
 unfold z1f.f
 rw [zar ⟨l.toArray⟩ b (by simpa using hA) _ _ _ (by omega)]
 rfl
theorem z9i (d : Nat) (h : d < 16) : z9j ((hexc d).toNat : Int) = (d : Int) := by
 have h1 := zaf d h
 unfold z9j
 split at h1
 · rw [if_neg (by omega), h1]; omega
 · rw [if_pos (by omega), h1]; omega
theorem zgb (d : Nat) (h : d < 16) : (hexc d).toNat < 128 := by
 have h1 := zaf d h
 split at h1 <;> omega
theorem z8s {b : Nat} {l : Nat → List UInt8} (hT : z5w b l) (u : Nat) : ∀ c ∈ l u, c.toNat < 128 := by
 have hb := hT.two
 have hb2 := hT.most
 induction u using Nat.strongRecOn with
 | _ u ih =>
  intro c hc
  by_cases h : u < b
  · rw [hT.one u h, List.mem_singleton] at hc
    subst hc; exact zgb u (by omega)
  · rw [hT.more u (by omega)] at hc
    have hm : u % b < b := Nat.mod_lt _ (by omega)
    rcases List.mem_append.1 hc with hc | hc
    · exact ih (u / b) (Nat.div_lt_self (by omega) (by omega)) c hc
    · rw [List.mem_singleton] at hc
      subst hc; exact zgb _ (by omega)
theorem za5 {b : Nat} {l : Nat → List UInt8} (hT : z5w b l) (u : Nat) (hu : u < 18446744073709551616) :
 (l u).foldl (fun n (c : UInt8) => z56 (b : Int) n (c.toNat : Int)) 0 = (u : Int) := by
 have hb := hT.two
 have hb2 := hT.most
 induction u using Nat.strongRecOn with
 | _ u ih =>
  by_cases h : u < b
  · rw [hT.one u h]
    simp only [List.foldl_cons, List.foldl_nil, z56, Int.zero_mul, IntKind.wrap_u64]
    rw [z9i u (by omega)]
    omega
  · have hm : u % b < b := Nat.mod_lt _ (by omega)
    have hd := Nat.div_add_mod u b
    have hle : u / b ≤ u := Nat.div_le_self _ _
    rw [hT.more u (by omega), List.foldl_append, ih (u / b) (Nat.div_lt_self (by omega) (by omega)) (by omega)]
    simp only [List.foldl_cons, List.foldl_nil, z56, IntKind.wrap_u64]
    rw [z9i _ (by omega)]
    have e : ((u / b : Nat) : Int) * (b : Int) = ((b * (u / b) : Nat) : Int) := by rw [Nat.mul_comm]; rfl
    rw [e]
    generalize b * (u / b) = q at hd
    generalize u % b = r at hd hm
    omega
theorem za9 : ∀ (n : Nat) (l : List UInt8), (List.replicate n 48 ++ l).foldl (fun n (c : UInt8) => z56 16 n (c.toNat : Int)) 0 = l.foldl (fun n (c : UInt8) => z56 16 n (c.toNat : Int)) 0
 | 0, l => rfl
 | n + 1, l => by
  rw [List.replicate_succ, List.cons_append, List.foldl_cons]
  have e : z56 16 0 ((48 : UInt8).toNat : Int) = 0 := by decide +kernel
  rw [e]
  exact za9 n l
theorem zfd (u : Nat) (hu : u < 18446744073709551616) : z1f.f ⟨(Lib.decDigits u).toArray⟩ 10 = some (u : Int) := by
 rw [z82 _ _ (z8s zd6 u)]
 have := za5 zd6 u hu
 rw [show ((10 : Nat) : Int) = 10 from rfl] at this
 rw [this]
theorem zch (u : Nat) (hu : u < 18446744073709551616) : z1f.f ⟨(hex16 u).toArray⟩ 16 = some (u : Int) := by
 unfold hex16
 rw [z82 _ _ (fun c hc => by
  rcases List.mem_append.1 hc with hc | hc
  · rw [(List.mem_replicate.1 hc).2]; decide
  · exact z8s zdn u c hc), za9]
 have := za5 zdn u hu
 rw [show ((16 : Nat) : Int) = 16 from rfl] at this
 rw [this]
def numOf (s : ByteArray) (b : Int) : Int := z5h s b s.size 0 0
def z2z (t : ByteArray) : Int × Int × ByteArray :=
 if bt t 0 = 35 then (2, wrap64 (numOf (t.extract 1 t.size) 16), ⟨#[]⟩)
 else if bt t 0 = 45 then (1, wrap64 (IntKind.u64.wrap (-numOf (t.extract 1 t.size) 10)), ⟨#[]⟩)
 else if 48 ≤ bt t 0 ∧ bt t 0 ≤ 57 then (1, wrap64 (numOf t 10), ⟨#[]⟩)
 else (3, 0, t)
def refR (t : ByteArray) : Int × Int × ByteArray × Int :=
 if t.size = 0 ∨ textL (z2z t).1 (z2z t).2.1 (z2z t).2.2 ≠ t.data.toList then (0, 0, ⟨#[]⟩, 2) else ((z2z t).1, (z2z t).2.1, (z2z t).2.2, 0)
theorem z7b (s : ByteArray) (b : Int) : z1f.f s b = some (numOf s b) := rfl
theorem zbm (t : ByteArray) (h0 : t.size ≠ 0) (a b : Int) (s : ByteArray) (hc : z2z t = (a, b, s)) :
 (if (⟨(textL a b s).toArray⟩ : ByteArray).toList = t.toList then some (a, b, s, (0 : Int)) else some (0, 0, (⟨#[]⟩ : ByteArray), 2)) = some (refR t) := by
 unfold refR
 rw [hc, z2g, z2g]
 by_cases h : textL a b s = t.data.toList
 · rw [if_pos h, if_neg (by rintro (h1 | h1); exact h0 h1; exact h1 h)]
 · rw [if_neg h, if_pos (Or.inr h)]
theorem zb5 (t : ByteArray) (k : Nat) (hk : 60 ≤ k) : z14.f k t = some (refR t) := by
 obtain ⟨k, rfl⟩ : ∃ j, k = j + 1 := ⟨k - 1, by omega⟩
 unfold z14.f
 by_cases h0 : t.size = 0
 · rw [if_pos ((z32 t).2 h0)]
   unfold refR
   rw [if_pos (Or.inl h0)]
 · rw [if_neg (fun h => h0 ((z32 t).1 h)), if_pos (by omega)]
   by_cases h1 : bt t 0 = 35
   · have hc : z2z t = (2, wrap64 (numOf (t.extract 1 t.size) 16), ⟨#[]⟩) := by unfold z2z; rw [if_pos h1]
     rw [if_pos h1, if_pos (by omega), z7b]
     simp only [Option.bind_some]
     rw [z5c _ _ _ (k + 1) (by omega) (z4z _)]
     exact zbm t h0 _ _ _ hc
   · rw [if_neg h1]
     by_cases h2 : bt t 0 = 45
     · have hc : z2z t = (1, wrap64 (IntKind.u64.wrap (-numOf (t.extract 1 t.size) 10)), ⟨#[]⟩) := by unfold z2z; rw [if_neg h1, if_pos h2]
       rw [if_pos h2, if_pos (by omega), z7b]
       simp only [Option.bind_some]
       rw [z5c _ _ _ (k + 1) (by omega) (z4z _)]
       exact zbm t h0 _ _ _ hc
     · rw [if_neg h2]
       have hsym : ¬ (48 ≤ bt t 0 ∧ bt t 0 ≤ 57) → z14.j0 (k + 1) t false 3 0 t = some (refR t) := fun h3 => by
        have hc : z2z t = (3, 0, t) := by unfold z2z; rw [if_neg h1, if_neg h2, if_neg h3]
        simp only [z14.j0, Bool.false_eq_true, if_false]
        rw [z5c _ _ _ k (by omega) (by omega)]
        exact zbm t h0 _ _ _ hc
       by_cases h3 : bt t 0 ≥ 48
       · rw [if_pos h3]
         by_cases h4 : bt t 0 ≤ 57
         · have hc : z2z t = (1, wrap64 (numOf t 10), ⟨#[]⟩) := by unfold z2z; rw [if_neg h1, if_neg h2, if_pos ⟨h3, h4⟩]
           rw [decide_eq_true h4]
           simp only [z14.j0, if_true]
           rw [z7b]
           simp only [Option.bind_some]
           rw [z5c _ _ _ k (by omega) (z4z _)]
           exact zbm t h0 _ _ _ hc
         · rw [decide_eq_false h4]; exact hsym (by omega)
       · rw [if_neg h3]; exact hsym (by omega)
theorem zcf (u : Nat) (hu : u < 18446744073709551616) : numOf ⟨(Lib.decDigits u).toArray⟩ 10 = (u : Int) := Option.some.inj (zfd u hu)
theorem zdq (u : Nat) (hu : u < 18446744073709551616) : numOf ⟨(hex16 u).toArray⟩ 16 = (u : Int) := Option.some.inj (zch u hu)
theorem cand_ref (k n : Int) (s : ByteArray) (hr : z5o k n s = true) (hn : -9223372036854775808 ≤ n ∧ n ≤ 9223372036854775807) :
 z2z (txt k n s) = (k, n, s) := by
 have ht : textL k n s = if k = 1 then Lib.itoa n else if k = 2 then 35 :: hex16 (IntKind.u64.wrap n).toNat else s.data.toList := by unfold textL; rw [if_pos hr]
 unfold txt
 rcases z8p hr with ⟨rfl, rfl⟩ | ⟨rfl, rfl, hf⟩ | ⟨rfl, rfl, hN⟩
 · rw [if_pos rfl] at ht
   rw [ht]
   obtain ⟨c, l, he, hc⟩ := zbw n
   have hp := z7j n hn
   rw [he] at hp ⊢
   unfold z2z
   rw [zbj]
   rcases hc with ⟨h1, h2, h3⟩ | ⟨h1, h2, h3, h4⟩
   · rw [if_neg (by omega), if_pos (by omega), z7z, h3, zcf _ (by omega)]
     have e : (-((n.natAbs : Nat) : Int)) = n := by omega
     rw [e, z9c n hn]
   · rw [if_neg (by omega), if_neg (by omega), if_pos (by omega), h4, zcf _ (by omega)]
     have e : ((n.toNat : Nat) : Int) = n := by omega
     rw [e]
     have : wrap64 n = n := by unfold wrap64; omega
     rw [this]
 · rw [if_neg (by omega), if_pos rfl] at ht
   rw [ht]
   have hw := wrap_u64 n
   obtain ⟨u, hu⟩ : ∃ u : Nat, IntKind.u64.wrap n = (u : Int) := ⟨_, (Int.toNat_of_nonneg hw.1).symm⟩
   rw [hu, Int.toNat_natCast]
   have hu2 : u < 18446744073709551616 := by omega
   have hb := z9c n hn
   rw [hu] at hb
   unfold z2z
   rw [zbj, if_pos (by rfl), z7z, zdq u hu2, hb]
 · rw [if_neg (by omega), if_neg (by omega)] at ht
   obtain ⟨c, l, he, h1, h2⟩ := zce hN
   rw [ht, z7p]
   have hs : s = ⟨(c :: l).toArray⟩ := by rw [← he, z7p]
   unfold z2z
   have hb : bt s 0 = (c.toNat : Int) := by rw [hs, zbj]
   rw [hb, if_neg (by omega), if_neg (by omega), if_neg (by omega)]
theorem zdg (t : ByteArray) : -9223372036854775808 ≤ (z2z t).2.1 ∧ (z2z t).2.1 ≤ 9223372036854775807 := by
 unfold z2z
 split
 · exact z4z _
 · split
   · exact z4z _
   · split
     · exact z4z _
     · show -9223372036854775808 ≤ (0 : Int) ∧ (0 : Int) ≤ 9223372036854775807
       omega
theorem refR_eq (t : ByteArray) : refR t = readR t := by
 unfold refR readR
 by_cases h0 : t.size = 0
 · rw [if_pos (Or.inl h0), if_pos (Or.inl h0)]
 · have hd := data_ne h0
   have key : ∀ k n s, textL k n s = t.data.toList → -9223372036854775808 ≤ n ∧ n ≤ 9223372036854775807 → candR t = (k, n, s) ∧ z2z t = (k, n, s) := fun k n s h hr => by
    have h1 := (zh1 k n s (za6 (by rw [h]; exact hd)) hr).1
    have h2 := cand_ref k n s (za6 (by rw [h]; exact hd)) hr
    unfold txt at h1 h2
    rw [h, z7p] at h1 h2
    exact ⟨h1, h2⟩
   by_cases h1 : textL (candR t).1 (candR t).2.1 (candR t).2.2 = t.data.toList
   · obtain ⟨e1, e2⟩ := key _ _ _ h1 (zh3 t)
     rw [e2, if_neg (by rintro (h | h); exact h0 h; exact h h1)]
   · by_cases h2 : textL (z2z t).1 (z2z t).2.1 (z2z t).2.2 = t.data.toList
     · obtain ⟨e1, e2⟩ := key _ _ _ h2 (zdg t)
       rw [e1] at h1
       exact absurd h2 h1
     · rw [if_pos (Or.inr h2), if_pos (Or.inr h1)]
end Go.Proofs.YthebhbomlllpeaaGreatDoor.X
namespace Go.Proofs.YthebhbomlllpeaaGreatDoor.X
open Go.RowKit Go.Proofs.YthebhbomlllpeaaGreatDoorW.PrintWords Go.Proofs.YthebhbomlllpeaaGreatDoorW.PrintLast Go.Proofs.YthebhbomlllpeaaGreatDoorW.PrintMore
attribute [local go_sem] z4f z4g z50 z52 z3o z3p z4a z4b
mutual
def z09.j0 : Nat → ByteArray → Int → Int → Bool → Option (Int × ByteArray × Int × Bool)
 | 0, _, _, _, _ => none
 | k + 1, x0, x1, x6, x21 => if x21 = true then ((z0p.f k x0 x1 true).bind fun t200 => (if 0 ≤ x1 then (if x1 ≤ (wrap64 (x1 + t200)) then (if (wrap64 (x1 + t200)) ≤ (x0.size : Int) then ((z1p.f (x0.extract (x1 : Int).toNat ((wrap64 (x1 + t200)) : Int).toNat)).bind fun t201 => (some (1, x0.extract (x1 : Int).toNat ((wrap64 (x1 + t200)) : Int).toNat, x1, t201))) else (none)) else (none)) else (none))) else (if x6 ≥ 65 then (z09.j1 k x0 x1 x6 (decide (x6 ≤ 90))) else (z09.j1 k x0 x1 x6 false))
def z09.j1 : Nat → ByteArray → Int → Int → Bool → Option (Int × ByteArray × Int × Bool)
 | 0, _, _, _, _ => none
 | k + 1, x0, x1, x6, x40 => if x40 = true then ((z0p.f k x0 x1 false).bind fun t202 => (if 0 ≤ x1 then (if x1 ≤ (wrap64 (x1 + t202)) then (if (wrap64 (x1 + t202)) ≤ (x0.size : Int) then ((z0f.f k (x0.extract (x1 : Int).toNat ((wrap64 (x1 + t202)) : Int).toNat)).bind fun t203 => (some (2, x0.extract (x1 : Int).toNat ((wrap64 (x1 + t202)) : Int).toNat, x1, t203))) else (none)) else (none)) else (none))) else (if x6 = 35 then (z09.j2 k x0 x1 true) else (if x6 ≥ 48 then (if x6 ≤ 57 then (z09.j2 k x0 x1 true) else (if x6 = 45 then (if (wrap64 (x1 + 1)) < (x0.size : Int) then (if 0 ≤ (wrap64 (x1 + 1)) then (if (bt x0 (wrap64 (x1 + 1))) ≥ 48 then (z09.j2 k x0 x1 (decide ((bt x0 (wrap64 (x1 + 1))) ≤ 57))) else (z09.j2 k x0 x1 false)) else (none)) else (z09.j2 k x0 x1 false)) else (z09.j2 k x0 x1 false))) else (if x6 = 45 then (if (wrap64 (x1 + 1)) < (x0.size : Int) then (if 0 ≤ (wrap64 (x1 + 1)) then (if (bt x0 (wrap64 (x1 + 1))) ≥ 48 then (z09.j2 k x0 x1 (decide ((bt x0 (wrap64 (x1 + 1))) ≤ 57))) else (z09.j2 k x0 x1 false)) else (none)) else (z09.j2 k x0 x1 false)) else (z09.j2 k x0 x1 false))))
def z09.j2 : Nat → ByteArray → Int → Bool → Option (Int × ByteArray × Int × Bool)
 | 0, _, _, _ => none
 | k + 1, x0, x1, x88 => if x88 = true then ((z0p.f k x0 (wrap64 (x1 + 1)) false).bind fun t204 => (if 0 ≤ x1 then (if x1 ≤ (wrap64 ((wrap64 (x1 + 1)) + t204)) then (if (wrap64 ((wrap64 (x1 + 1)) + t204)) ≤ (x0.size : Int) then ((z14.f k (x0.extract (x1 : Int).toNat ((wrap64 ((wrap64 (x1 + 1)) + t204)) : Int).toNat)).bind fun bt205 => (some (3, x0.extract (x1 : Int).toNat ((wrap64 ((wrap64 (x1 + 1)) + t204)) : Int).toNat, x1, (bt205.2.2.2 == 0)))) else (none)) else (none)) else (none))) else ((z0u.f k x0 x1).bind fun t210 => (if 0 ≤ x1 then (if x1 ≤ (wrap64 (x1 + t210)) then (if (wrap64 (x1 + t210)) ≤ (x0.size : Int) then (some (4, x0.extract (x1 : Int).toNat ((wrap64 (x1 + t210)) : Int).toNat, x1, decide (t210 > 0))) else (none)) else (none)) else (none)))
end
def z09.f (k : Nat) (a0 : ByteArray) (a1 : Int) : Option (Int × ByteArray × Int × Bool) := if 0 ≤ a1 then (if a1 < (a0.size : Int) then (if (bt a0 a1) ≥ 97 then (z09.j0 k a0 a1 (bt a0 a1) (decide ((bt a0 a1) ≤ 122))) else (z09.j0 k a0 a1 (bt a0 a1) false)) else (none)) else (none)
set_option maxHeartbeats 8000000 in
set_option maxRecDepth 100000 in
theorem z09.calls (k : Nat) (a0 : ByteArray) (a1 : Int) (r1 : Int) (r2 : ByteArray) (r3 : Int) (r4 : Bool) (w : World) (h : z09.f k a0 a1 = some (r1, r2, r3, r4)) :
 Calls Tryz.prog 64 #[.string a0, .int .i64 a1] w fun e w' => e = .returned (.tuple #[.agg #[.int .i64 r1, .string r2, .int .i64 r3], .bool r4]) ∧ Below w.heap.size w w' := by
 have hu53 := Tryz.underlying53
 have hu58 := Tryz.underlying58
 have HB := z00.mk (Below.refl w.heap.size w)
 have H : (if 0 ≤ a1 then (if a1 < (a0.size : Int) then (if (bt a0 a1) ≥ 97 then (z09.j0 k a0 a1 (bt a0 a1) (decide ((bt a0 a1) ≤ 122))) else (z09.j0 k a0 a1 (bt a0 a1) false)) else (none)) else (none)) = some (r1, r2, r3, r4) := h
 clear h
 by_cases c3 : 0 ≤ a1
 · rw [if_pos c3] at H
   have c3b0 : decide (0 ≤ a1) = true := decide_eq_true c3
   clear c3
   by_cases c4 : a1 < (a0.size : Int)
   · rw [if_pos c4] at H
     have c4b0 : decide (a1 < (a0.size : Int)) = true := decide_eq_true c4
     clear c4
     have HC6 := z00.mk H
     clear H
     go_enter Tryz.func64, Tryz.ntmps64
     go_upto_region 2 with (first | ((with_reducible refine z2e (N := 4) rfl ?_); (try (refine zaa (by rfl) ?_; dsimp only)); refine z2j ?hg (N := 4) ?hd (cs := #[.int .i64 0, .string (⟨#[]⟩ : ByteArray), .int .i64 0]) (t := 53) ?hr ?_; (case hd => rfl); (case hg => rfl); (case hr => first | (go_simp; done) | (go_simp; rfl)); intro gb199 hg w7 hbox hb; have n0_ := z00.mk (z0z (by repeat (first | (with_reducible first | exact HB.out | apply z04 | apply z01 | apply z05) | exact HB.out)) hb); have n1_ := z00.mk (hbox); have n2_ := z00.mk ((by rw [hg]; exact (z13 (by repeat (first | (with_reducible first | exact HB.out | apply z04 | apply z01 | apply z05) | exact HB.out))) : w.heap.size ≤ gb199)); have n3_ := z00.mk ((by rw [hg]; exact (z13 (by repeat (first | (with_reducible first | exact HB.out | apply z04 | apply z01 | apply z05) | exact HB.out))) : w.heap.size ≤ gb199)); clear HB; have HB := n0_; have BK199 := n1_; have GW199 := n2_; have GE199 := n3_; clear n0_ n1_ n2_ n3_; clear hb hbox hg; have p5 : 0 ≤ (a1 : Int) := of_decide_eq_true (by first | (with_reducible assumption) | assumption); have q5 : a1 < (a0.size : Int) := of_decide_eq_true (by first | (with_reducible assumption) | assumption); have hx5 := bt_at a0 a1; replace p5 := eq_true p5; replace q5 := eq_true q5))
     (try simp only [Act.put, List.setIfInBounds_toArray, List.set_cons_zero, List.set_cons_succ])
     go_cut [21] (fun v21 wc => ∃ (kq : Nat) (x21_5 : Bool), v21 = .bool x21_5 ∧ z00 (z09.j0 kq a0 a1 (bt a0 a1) x21_5 = some (r1, r2, r3, r4)) ∧ z00 (kq ≤ k) ∧ z00 (wc.heap[gb199]? = some (.cells #[.int .i64 0, .string (⟨#[]⟩ : ByteArray), .int .i64 0] 53 (0, 0))) ∧ z00 (Below w.heap.size w wc))
     case first =>
      have H := HC6.out
      clear HC6
      by_cases c8 : (bt a0 a1) ≥ 97
      · rw [if_pos c8] at H
        have c8b0 : decide (97 ≤ (bt a0 a1)) = true := decide_eq_true c8
        clear c8
        (first | rw [c8b0] | (simp only [i64_w, i32_w]; rw [c8b0]) | skip)
        have H' := z00.mk H
        clear H
        go_wp2
        go_meet
        case rel => exact ⟨_, (decide ((bt a0 a1) ≤ 122)), (by first | rfl | (simp; done) | (simp [*]; done)), H', ⟨by first | omega | exact Nat.le_refl _⟩, ⟨by (with_reducible repeat (first | refine z12 ?_ _ | refine z0y ?_ | refine z0k ?_ _)); exact BK199.out⟩, ⟨by repeat (first | (with_reducible first | exact HB.out | apply z04 | apply z01 | apply z05 | refine z07 ?_ GE199.out) | exact HB.out)⟩⟩
      · rw [if_neg c8] at H
        have c8b0 : decide (97 ≤ (bt a0 a1)) = false := decide_eq_false c8
        clear c8
        (first | rw [c8b0] | (simp only [i64_w, i32_w]; rw [c8b0]) | skip)
        have H' := z00.mk H
        clear H
        go_wp2
        go_meet
        case rel => exact ⟨_, (false), (by first | rfl | (simp; done) | (simp [*]; done)), H', ⟨by first | omega | exact Nat.le_refl _⟩, ⟨by (with_reducible repeat (first | refine z12 ?_ _ | refine z0y ?_ | refine z0k ?_ _)); exact BK199.out⟩, ⟨by repeat (first | (with_reducible first | exact HB.out | apply z04 | apply z01 | apply z05 | refine z07 ?_ GE199.out) | exact HB.out)⟩⟩
     case rest =>
      clear HC6
      try clear p2
      try clear c3
      try clear c3b0
      try clear c4
      try clear c4b0
      try clear p5
      try clear q5
      try clear hx5
      try clear c6
      try clear c8
      try clear c8b0
      try clear p5
      try clear q5
      obtain ⟨kq, x21_5, rfl, HA, HJ5, BK199, HB⟩ := hcut
      cases kq with
      | zero => exact absurd HA.out (by simp [z09.j0])
      | succ kj5 =>
       have H := HA.out
       clear HA
       simp only [z09.j0] at H
       by_cases c9 : x21_5 = true
       · subst c9
         have H1 : ((z0p.f kj5 a0 a1 true).bind fun t200 => (if 0 ≤ a1 then (if a1 ≤ (wrap64 (a1 + t200)) then (if (wrap64 (a1 + t200)) ≤ (a0.size : Int) then ((z1p.f (a0.extract (a1 : Int).toNat ((wrap64 (a1 + t200)) : Int).toNat)).bind fun t201 => (some (1, a0.extract (a1 : Int).toNat ((wrap64 (a1 + t200)) : Int).toNat, a1, t201))) else (none)) else (none)) else (none))) = some (r1, r2, r3, r4) := by rw [if_pos rfl] at H; exact H
         clear H
         have H := H1
         clear H1
         replace H := Option.bind_eq_some_iff.mp H
         obtain ⟨t200, A100, H⟩ := H
         replace H : (if 0 ≤ a1 then (if a1 ≤ (wrap64 (a1 + t200)) then (if (wrap64 (a1 + t200)) ≤ (a0.size : Int) then ((z1p.f (a0.extract (a1 : Int).toNat ((wrap64 (a1 + t200)) : Int).toNat)).bind fun t201 => (some (1, a0.extract (a1 : Int).toNat ((wrap64 (a1 + t200)) : Int).toNat, a1, t201))) else (none)) else (none)) else (none)) = some (r1, r2, r3, r4) := H
         have A10 := z00.mk A100
         clear A100
         by_cases c11 : 0 ≤ a1
         · rw [if_pos c11] at H
           have c11b0 := eq_true c11
           have c11b1 : decide (0 ≤ a1) = true := decide_eq_true c11
           clear c11
           by_cases c12 : a1 ≤ (wrap64 (a1 + t200))
           · rw [if_pos c12] at H
             have c12b0 := eq_true c12
             have c12b1 : decide (a1 ≤ (wrap64 (a1 + t200))) = true := decide_eq_true c12
             by_cases c13 : (wrap64 (a1 + t200)) ≤ (a0.size : Int)
             · rw [if_pos c13] at H
               have c13b0 := eq_true c13
               have c13b1 : decide ((wrap64 (a1 + t200)) ≤ (a0.size : Int)) = true := decide_eq_true c13
               replace H := Option.bind_eq_some_iff.mp H
               obtain ⟨t201, A140, H⟩ := H
               replace H : (some (1, a0.extract (a1 : Int).toNat ((wrap64 (a1 + t200)) : Int).toNat, a1, t201)) = some (r1, r2, r3, r4) := H
               have A14 := z00.mk A140
               clear A140
               simp only [Option.some.injEq, Prod.mk.injEq] at H
               obtain ⟨rfl, rfl, rfl, rfl⟩ := H
               go_wp2_with (first | ((with_reducible refine z0s (f := 98) rfl ?_); refine z1r (some 27) rfl rfl Tryz.func98 (by kernel_rfl) rfl #[.string a0, .int .i64 a1, .bool true] rfl (by (try simp only [List.map_toArray, List.map_cons, List.map_nil]); first | done | rfl | (simp only [List.length_drop, List.length_take]; rfl)) ?_; (with_reducible refine (z0p.calls kj5 a0 a1 true t200 _ A10.out).mono ?_); rintro e w' ⟨rfl, ⟨nd, rfl⟩⟩; refine ⟨_, rfl, ?_⟩; (try (rw [z61 wc]; generalize hq_ : World.drewN wc _ = wc; have n0_ : z00 (wc.heap[gb199]? = some (.cells #[.int .i64 0, .string (⟨#[]⟩ : ByteArray), .int .i64 0] 53 (0, 0))) := ⟨by rw [← hq_]; exact (by (with_reducible repeat (first | refine z12 ?_ _ | refine z0y ?_ | refine z0k ?_ _)); exact BK199.out)⟩; have n1_ : z00 (Below w.heap.size w wc) := ⟨by rw [← hq_]; exact (by repeat (first | (with_reducible first | exact HB.out | apply z04 | apply z01 | apply z05 | refine z07 ?_ GE199.out) | exact HB.out))⟩; clear BK199 HB hq_; have BK199 := n0_; have HB := n1_; clear n0_ n1_))) | ((with_reducible refine z0s (f := 99) rfl ?_); refine z1r (some 34) rfl rfl Tryz.func99 (by kernel_rfl) rfl #[.string (a0.extract (a1 : Int).toNat ((wrap64 (a1 + t200)) : Int).toNat)] rfl (by (try simp only [List.map_toArray, List.map_cons, List.map_nil]); first | done | rfl | (simp only [List.length_drop, List.length_take]; rfl)) ?_; (with_reducible refine (z1p.calls (a0.extract (a1 : Int).toNat ((wrap64 (a1 + t200)) : Int).toNat) t201 _ A14.out).mono ?_); rintro e w15 ⟨rfl, hb⟩; refine ⟨_, rfl, ?_⟩; have n0_ := z00.mk (z0r (g := gb199) (o := .cells #[.int .i64 0, .string (⟨#[]⟩ : ByteArray), .int .i64 0] 53 (0, 0)) (by (with_reducible repeat (first | refine z12 ?_ _ | refine z0y ?_ | refine z0k ?_ _)); exact BK199.out) hb); have n1_ := z00.mk (z0z (by repeat (first | (with_reducible first | exact HB.out | apply z04 | apply z01 | apply z05 | refine z07 ?_ GE199.out) | exact HB.out)) hb); clear BK199; clear HB; have BK199 := n0_; have HB := n1_; clear n0_ n1_; (try clear hb); (try clear hb2); (try clear hk); (try clear hi); have hcz16_0 : w15.cell? ⟨gb199, 0, none⟩ = some (.int .i64 0) := (z03 BK199.out 0).trans rfl; have hcz16_1 : w15.cell? ⟨gb199, 1, none⟩ = some (.string (⟨#[]⟩ : ByteArray)) := (z03 BK199.out 1).trans rfl; have hcz16_2 : w15.cell? ⟨gb199, 2, none⟩ = some (.int .i64 0) := (z03 BK199.out 2).trans rfl; have hfz16_0 := z02 BK199.out 0; have hfz16_1 := z02 BK199.out 1; have hfz16_2 := z02 BK199.out 2))
               refine bodyPost_ret (z23 rfl _ _ gb199 53 #[.int .i64 1, .string (a0.extract (a1 : Int).toNat ((wrap64 (a1 + t200)) : Int).toNat), .int .i64 a1] (0, 0) _ rfl (by (with_reducible repeat (first | refine z12 ?_ _ | refine z0y ?_ | refine z0k ?_ _)); refine z0v (cs := #[.int .i64 1, .string (a0.extract (a1 : Int).toNat ((wrap64 (a1 + t200)) : Int).toNat), .int .i64 0]) ?_ 2 _ rfl; (with_reducible repeat (first | refine z12 ?_ _ | refine z0y ?_ | refine z0k ?_ _)); refine z0v (cs := #[.int .i64 1, .string (⟨#[]⟩ : ByteArray), .int .i64 0]) ?_ 1 _ rfl; (with_reducible repeat (first | refine z12 ?_ _ | refine z0y ?_ | refine z0k ?_ _)); refine z0v (cs := #[.int .i64 0, .string (⟨#[]⟩ : ByteArray), .int .i64 0]) ?_ 0 _ rfl; (with_reducible repeat (first | refine z12 ?_ _ | refine z0y ?_ | refine z0k ?_ _)); exact BK199.out) Tryz.underlying53 rfl (by kernel_rfl)) rfl ?_
               exact ⟨by first | rfl | (simp [z0n, z0o] <;> rfl) | (simp [*, z0n, z0o] <;> rfl), by repeat (first | (with_reducible first | exact HB.out | apply z04 | apply z01 | apply z05 | refine z07 ?_ GE199.out) | exact HB.out)⟩
             · rw [if_neg c13] at H
               exact absurd H (by simp)
           · rw [if_neg c12] at H
             exact absurd H (by simp)
         · rw [if_neg c11] at H
           exact absurd H (by simp)
       · replace c9 := Bool.eq_false_iff.mpr c9
         subst c9
         have H1 : (if (bt a0 a1) ≥ 65 then (z09.j1 kj5 a0 a1 (bt a0 a1) (decide ((bt a0 a1) ≤ 90))) else (z09.j1 kj5 a0 a1 (bt a0 a1) false)) = some (r1, r2, r3, r4) := by rw [if_neg (show ¬ (false = true) by decide)] at H; exact H
         clear H
         have H := H1
         clear H1
         have HC17 := z00.mk H
         clear H
         go_upto_region 5 with (fail)
         go_cut [40] (fun v40 wc => ∃ (kq : Nat) (x40_16 : Bool), v40 = .bool x40_16 ∧ z00 (z09.j1 kq a0 a1 (bt a0 a1) x40_16 = some (r1, r2, r3, r4)) ∧ z00 (kq ≤ kj5) ∧ z00 (wc.heap[gb199]? = some (.cells #[.int .i64 0, .string (⟨#[]⟩ : ByteArray), .int .i64 0] 53 (0, 0))) ∧ z00 (Below w.heap.size w wc))
         case first =>
          have H := HC17.out
          clear HC17
          by_cases c18 : (bt a0 a1) ≥ 65
          · rw [if_pos c18] at H
            have c18b0 : decide (65 ≤ (bt a0 a1)) = true := decide_eq_true c18
            clear c18
            (first | rw [c18b0] | (simp only [i64_w, i32_w]; rw [c18b0]) | skip)
            have H' := z00.mk H
            clear H
            go_wp2
            go_meet
            case rel => exact ⟨_, (decide ((bt a0 a1) ≤ 90)), (by first | rfl | (simp; done) | (simp [*]; done)), H', ⟨by have := HJ5.out; first | omega | exact Nat.le_refl _⟩, ⟨by (with_reducible repeat (first | refine z12 ?_ _ | refine z0y ?_ | refine z0k ?_ _)); exact BK199.out⟩, ⟨by repeat (first | (with_reducible first | exact HB.out | apply z04 | apply z01 | apply z05 | refine z07 ?_ GE199.out) | exact HB.out)⟩⟩
          · rw [if_neg c18] at H
            have c18b0 : decide (65 ≤ (bt a0 a1)) = false := decide_eq_false c18
            clear c18
            (first | rw [c18b0] | (simp only [i64_w, i32_w]; rw [c18b0]) | skip)
            have H' := z00.mk H
            clear H
            go_wp2
            go_meet
            case rel => exact ⟨_, (false), (by first | rfl | (simp; done) | (simp [*]; done)), H', ⟨by have := HJ5.out; first | omega | exact Nat.le_refl _⟩, ⟨by (with_reducible repeat (first | refine z12 ?_ _ | refine z0y ?_ | refine z0k ?_ _)); exact BK199.out⟩, ⟨by repeat (first | (with_reducible first | exact HB.out | apply z04 | apply z01 | apply z05 | refine z07 ?_ GE199.out) | exact HB.out)⟩⟩
         case rest =>
          clear HC17
          try clear c1
          try clear p2
          try clear c3
          try clear c3b0
          try clear c4
          try clear c4b0
          try clear p5
          try clear q5
          try clear hx5
          try clear c6
          try clear p6
          try clear c8
          try clear c8b0
          try clear c9
          try clear c11
          try clear c11b0
          try clear c11b1
          try clear c12
          try clear c12b0
          try clear c12b1
          try clear c13
          try clear c13b0
          try clear c13b1
          try clear c18
          try clear c18b0
          try clear hcz16_0
          try clear hcz16_1
          try clear hcz16_2
          try clear hfz16_0
          try clear hfz16_1
          try clear hfz16_2
          try clear p2
          try clear p5
          try clear q5
          obtain ⟨kq, x40_16, rfl, HA, HJ16, BK199, HB⟩ := hcut
          cases kq with
          | zero => exact absurd HA.out (by simp [z09.j1])
          | succ kj16 =>
           have H := HA.out
           clear HA
           simp only [z09.j1] at H
           by_cases c19 : x40_16 = true
           · subst c19
             have H1 : ((z0p.f kj16 a0 a1 false).bind fun t202 => (if 0 ≤ a1 then (if a1 ≤ (wrap64 (a1 + t202)) then (if (wrap64 (a1 + t202)) ≤ (a0.size : Int) then ((z0f.f kj16 (a0.extract (a1 : Int).toNat ((wrap64 (a1 + t202)) : Int).toNat)).bind fun t203 => (some (2, a0.extract (a1 : Int).toNat ((wrap64 (a1 + t202)) : Int).toNat, a1, t203))) else (none)) else (none)) else (none))) = some (r1, r2, r3, r4) := by rw [if_pos rfl] at H; exact H
             clear H
             have H := H1
             clear H1
             replace H := Option.bind_eq_some_iff.mp H
             obtain ⟨t202, A200, H⟩ := H
             replace H : (if 0 ≤ a1 then (if a1 ≤ (wrap64 (a1 + t202)) then (if (wrap64 (a1 + t202)) ≤ (a0.size : Int) then ((z0f.f kj16 (a0.extract (a1 : Int).toNat ((wrap64 (a1 + t202)) : Int).toNat)).bind fun t203 => (some (2, a0.extract (a1 : Int).toNat ((wrap64 (a1 + t202)) : Int).toNat, a1, t203))) else (none)) else (none)) else (none)) = some (r1, r2, r3, r4) := H
             have A20 := z00.mk A200
             clear A200
             by_cases c21 : 0 ≤ a1
             · rw [if_pos c21] at H
               have c21b0 := eq_true c21
               have c21b1 : decide (0 ≤ a1) = true := decide_eq_true c21
               clear c21
               by_cases c22 : a1 ≤ (wrap64 (a1 + t202))
               · rw [if_pos c22] at H
                 have c22b0 := eq_true c22
                 have c22b1 : decide (a1 ≤ (wrap64 (a1 + t202))) = true := decide_eq_true c22
                 by_cases c23 : (wrap64 (a1 + t202)) ≤ (a0.size : Int)
                 · rw [if_pos c23] at H
                   have c23b0 := eq_true c23
                   have c23b1 : decide ((wrap64 (a1 + t202)) ≤ (a0.size : Int)) = true := decide_eq_true c23
                   replace H := Option.bind_eq_some_iff.mp H
                   obtain ⟨t203, A240, H⟩ := H
                   replace H : (some (2, a0.extract (a1 : Int).toNat ((wrap64 (a1 + t202)) : Int).toNat, a1, t203)) = some (r1, r2, r3, r4) := H
                   have A24 := z00.mk A240
                   clear A240
                   simp only [Option.some.injEq, Prod.mk.injEq] at H
                   obtain ⟨rfl, rfl, rfl, rfl⟩ := H
                   go_wp2_with (first | ((with_reducible refine z0s (f := 98) rfl ?_); refine z1r (some 46) rfl rfl Tryz.func98 (by kernel_rfl) rfl #[.string a0, .int .i64 a1, .bool false] rfl (by (try simp only [List.map_toArray, List.map_cons, List.map_nil]); first | done | rfl | (simp only [List.length_drop, List.length_take]; rfl)) ?_; (with_reducible refine (z0p.calls kj16 a0 a1 false t202 _ A20.out).mono ?_); rintro e w' ⟨rfl, ⟨nd, rfl⟩⟩; refine ⟨_, rfl, ?_⟩; (try (rw [z61 wc]; generalize hq_ : World.drewN wc _ = wc; have n0_ : z00 (wc.heap[gb199]? = some (.cells #[.int .i64 0, .string (⟨#[]⟩ : ByteArray), .int .i64 0] 53 (0, 0))) := ⟨by rw [← hq_]; exact (by (with_reducible repeat (first | refine z12 ?_ _ | refine z0y ?_ | refine z0k ?_ _)); exact BK199.out)⟩; have n1_ : z00 (Below w.heap.size w wc) := ⟨by rw [← hq_]; exact (by repeat (first | (with_reducible first | exact HB.out | apply z04 | apply z01 | apply z05 | refine z07 ?_ GE199.out) | exact HB.out))⟩; clear BK199 HB hq_; have BK199 := n0_; have HB := n1_; clear n0_ n1_))) | ((with_reducible refine z0s (f := 100) rfl ?_); refine z1r (some 53) rfl rfl Tryz.func100 (by kernel_rfl) rfl #[.string (a0.extract (a1 : Int).toNat ((wrap64 (a1 + t202)) : Int).toNat)] rfl (by (try simp only [List.map_toArray, List.map_cons, List.map_nil]); first | done | rfl | (simp only [List.length_drop, List.length_take]; rfl)) ?_; (with_reducible refine (z0f.calls kj16 (a0.extract (a1 : Int).toNat ((wrap64 (a1 + t202)) : Int).toNat) t203 _ A24.out).mono ?_); rintro e w' ⟨rfl, ⟨nd, rfl⟩⟩; refine ⟨_, rfl, ?_⟩; (try (rw [z61 wc]; generalize hq_ : World.drewN wc _ = wc; have n0_ : z00 (wc.heap[gb199]? = some (.cells #[.int .i64 0, .string (⟨#[]⟩ : ByteArray), .int .i64 0] 53 (0, 0))) := ⟨by rw [← hq_]; exact (by (with_reducible repeat (first | refine z12 ?_ _ | refine z0y ?_ | refine z0k ?_ _)); exact BK199.out)⟩; have n1_ : z00 (Below w.heap.size w wc) := ⟨by rw [← hq_]; exact (by repeat (first | (with_reducible first | exact HB.out | apply z04 | apply z01 | apply z05 | refine z07 ?_ GE199.out) | exact HB.out))⟩; clear BK199 HB hq_; have BK199 := n0_; have HB := n1_; clear n0_ n1_)); have hcz25_0 : wc.cell? ⟨gb199, 0, none⟩ = some (.int .i64 0) := (z03 BK199.out 0).trans rfl; have hcz25_1 : wc.cell? ⟨gb199, 1, none⟩ = some (.string (⟨#[]⟩ : ByteArray)) := (z03 BK199.out 1).trans rfl; have hcz25_2 : wc.cell? ⟨gb199, 2, none⟩ = some (.int .i64 0) := (z03 BK199.out 2).trans rfl; have hfz25_0 := z02 BK199.out 0; have hfz25_1 := z02 BK199.out 1; have hfz25_2 := z02 BK199.out 2))
                   refine bodyPost_ret (z23 rfl _ _ gb199 53 #[.int .i64 2, .string (a0.extract (a1 : Int).toNat ((wrap64 (a1 + t202)) : Int).toNat), .int .i64 a1] (0, 0) _ rfl (by (with_reducible repeat (first | refine z12 ?_ _ | refine z0y ?_ | refine z0k ?_ _)); refine z0v (cs := #[.int .i64 2, .string (a0.extract (a1 : Int).toNat ((wrap64 (a1 + t202)) : Int).toNat), .int .i64 0]) ?_ 2 _ rfl; (with_reducible repeat (first | refine z12 ?_ _ | refine z0y ?_ | refine z0k ?_ _)); refine z0v (cs := #[.int .i64 2, .string (⟨#[]⟩ : ByteArray), .int .i64 0]) ?_ 1 _ rfl; (with_reducible repeat (first | refine z12 ?_ _ | refine z0y ?_ | refine z0k ?_ _)); refine z0v (cs := #[.int .i64 0, .string (⟨#[]⟩ : ByteArray), .int .i64 0]) ?_ 0 _ rfl; (with_reducible repeat (first | refine z12 ?_ _ | refine z0y ?_ | refine z0k ?_ _)); exact BK199.out) Tryz.underlying53 rfl (by kernel_rfl)) rfl ?_
                   exact ⟨by first | rfl | (simp [z0n, z0o] <;> rfl) | (simp [*, z0n, z0o] <;> rfl), by repeat (first | (with_reducible first | exact HB.out | apply z04 | apply z01 | apply z05 | refine z07 ?_ GE199.out) | exact HB.out)⟩
                 · rw [if_neg c23] at H
                   exact absurd H (by simp)
               · rw [if_neg c22] at H
                 exact absurd H (by simp)
             · rw [if_neg c21] at H
               exact absurd H (by simp)
           · replace c19 := Bool.eq_false_iff.mpr c19
             subst c19
             have H1 : (if (bt a0 a1) = 35 then (z09.j2 kj16 a0 a1 true) else (if (bt a0 a1) ≥ 48 then (if (bt a0 a1) ≤ 57 then (z09.j2 kj16 a0 a1 true) else (if (bt a0 a1) = 45 then (if (wrap64 (a1 + 1)) < (a0.size : Int) then (if 0 ≤ (wrap64 (a1 + 1)) then (if (bt a0 (wrap64 (a1 + 1))) ≥ 48 then (z09.j2 kj16 a0 a1 (decide ((bt a0 (wrap64 (a1 + 1))) ≤ 57))) else (z09.j2 kj16 a0 a1 false)) else (none)) else (z09.j2 kj16 a0 a1 false)) else (z09.j2 kj16 a0 a1 false))) else (if (bt a0 a1) = 45 then (if (wrap64 (a1 + 1)) < (a0.size : Int) then (if 0 ≤ (wrap64 (a1 + 1)) then (if (bt a0 (wrap64 (a1 + 1))) ≥ 48 then (z09.j2 kj16 a0 a1 (decide ((bt a0 (wrap64 (a1 + 1))) ≤ 57))) else (z09.j2 kj16 a0 a1 false)) else (none)) else (z09.j2 kj16 a0 a1 false)) else (z09.j2 kj16 a0 a1 false)))) = some (r1, r2, r3, r4) := by rw [if_neg (show ¬ (false = true) by decide)] at H; exact H
             clear H
             have H := H1
             clear H1
             have HC26 := z00.mk H
             clear H
             go_upto_region 8 with (fail)
             go_cut [88] (fun v88 wc => ∃ (kq : Nat) (x88_25 : Bool), v88 = .bool x88_25 ∧ z00 (z09.j2 kq a0 a1 x88_25 = some (r1, r2, r3, r4)) ∧ z00 (kq ≤ kj16) ∧ z00 (wc.heap[gb199]? = some (.cells #[.int .i64 0, .string (⟨#[]⟩ : ByteArray), .int .i64 0] 53 (0, 0))) ∧ z00 (Below w.heap.size w wc))
             case first =>
              have H := HC26.out
              clear HC26
              by_cases c27 : (bt a0 a1) = 35
              · rw [if_pos c27] at H
                have c27b0 : ((bt a0 a1) == 35) = true := beq_iff_eq.mpr c27
                have c27b1 : ((bt a0 a1) != 35) = false := bne_eq_false_iff_eq.mpr c27
                clear c27
                (first | rw [c27b0] | (simp only [i64_w, i32_w]; rw [c27b0]) | skip)
                have H' := z00.mk H
                clear H
                go_wp2
                go_meet
                case rel => exact ⟨_, (true), (by first | rfl | (simp; done) | (simp [*]; done)), H', ⟨by have := HJ5.out; have := HJ16.out; first | omega | exact Nat.le_refl _⟩, ⟨by (with_reducible repeat (first | refine z12 ?_ _ | refine z0y ?_ | refine z0k ?_ _)); exact BK199.out⟩, ⟨by repeat (first | (with_reducible first | exact HB.out | apply z04 | apply z01 | apply z05 | refine z07 ?_ GE199.out) | exact HB.out)⟩⟩
              · rw [if_neg c27] at H
                have c27b0 : ((bt a0 a1) == 35) = false := beq_eq_false_iff_ne.mpr c27
                have c27b1 : ((bt a0 a1) != 35) = true := bne_iff_ne.mpr c27
                (first | rw [c27b0] | (simp only [i64_w, i32_w]; rw [c27b0]) | skip)
                by_cases c28 : (bt a0 a1) ≥ 48
                · rw [if_pos c28] at H
                  have c28b0 : decide (48 ≤ (bt a0 a1)) = true := decide_eq_true c28
                  clear c28
                  by_cases c29 : (bt a0 a1) ≤ 57
                  · rw [if_pos c29] at H
                    have c29b0 : decide ((bt a0 a1) ≤ 57) = true := decide_eq_true c29
                    clear c29
                    have H' := z00.mk H
                    clear H
                    go_wp2
                    go_meet
                    case rel => exact ⟨_, (true), (by first | rfl | (simp; done) | (simp [*]; done)), H', ⟨by have := HJ5.out; have := HJ16.out; first | omega | exact Nat.le_refl _⟩, ⟨by (with_reducible repeat (first | refine z12 ?_ _ | refine z0y ?_ | refine z0k ?_ _)); exact BK199.out⟩, ⟨by repeat (first | (with_reducible first | exact HB.out | apply z04 | apply z01 | apply z05 | refine z07 ?_ GE199.out) | exact HB.out)⟩⟩
                  · rw [if_neg c29] at H
                    have c29b0 : decide ((bt a0 a1) ≤ 57) = false := decide_eq_false c29
                    clear c29
                    by_cases c30 : (bt a0 a1) = 45
                    · rw [if_pos c30] at H
                      have c30b0 : ((bt a0 a1) == 45) = true := beq_iff_eq.mpr c30
                      have c30b1 : ((bt a0 a1) != 45) = false := bne_eq_false_iff_eq.mpr c30
                      clear c30
                      by_cases c31 : (wrap64 (a1 + 1)) < (a0.size : Int)
                      · rw [if_pos c31] at H
                        have c31b0 : decide ((wrap64 (a1 + 1)) < (a0.size : Int)) = true := decide_eq_true c31
                        clear c31
                        obtain ⟨ji32, hji32⟩ : ∃ j_ : Int, (wrap64 (a1 + 1)) = j_ := ⟨_, rfl⟩
                        replace H : (if 0 ≤ (ji32) then (if (bt a0 (ji32)) ≥ 48 then (z09.j2 kj16 a0 a1 (decide ((bt a0 (ji32)) ≤ 57))) else (z09.j2 kj16 a0 a1 false)) else (none)) = some (r1, r2, r3, r4) := by first | (rw [hji32] at H; exact H) | (simp only [hji32] at H ⊢; exact H)
                        (try rw [hji32] at c31b0)
                        have hji32w : (IntKind.i64.wrap (a1 + 1)) = ji32 := (i64_w _).trans hji32
                        by_cases c33 : 0 ≤ (ji32)
                        · rw [if_pos c33] at H
                          have c33b0 : decide (0 ≤ (ji32)) = true := decide_eq_true c33
                          clear c33
                          by_cases c35 : (bt a0 (ji32)) ≥ 48
                          · rw [if_pos c35] at H
                            have c35b0 : decide (48 ≤ (bt a0 (ji32))) = true := decide_eq_true c35
                            clear c35
                            have H' := z00.mk H
                            clear H
                            have p34 : 0 ≤ ((ji32) : Int) := of_decide_eq_true (by first | (with_reducible assumption) | assumption)
                            have q34 : (ji32) < (a0.size : Int) := of_decide_eq_true (by first | (with_reducible assumption) | assumption)
                            have hx34 := bt_at a0 (ji32)
                            replace p34 := eq_true p34
                            replace q34 := eq_true q34
                            have p36 : 0 ≤ ((ji32) : Int) := of_decide_eq_true (by first | (with_reducible assumption) | assumption)
                            have q36 : (ji32) < (a0.size : Int) := of_decide_eq_true (by first | (with_reducible assumption) | assumption)
                            have hx36 := bt_at a0 (ji32)
                            replace p36 := eq_true p36
                            replace q36 := eq_true q36
                            go_wp2
                            go_meet
                            case rel => exact ⟨_, (decide ((bt a0 (ji32)) ≤ 57)), (by first | rfl | (simp; done) | (simp only [← hji32] <;> (first | rfl | simp)) | (simp [*]; done)), H', ⟨by have := HJ5.out; have := HJ16.out; first | omega | exact Nat.le_refl _⟩, ⟨by (with_reducible repeat (first | refine z12 ?_ _ | refine z0y ?_ | refine z0k ?_ _)); exact BK199.out⟩, ⟨by repeat (first | (with_reducible first | exact HB.out | apply z04 | apply z01 | apply z05 | refine z07 ?_ GE199.out) | exact HB.out)⟩⟩
                          · rw [if_neg c35] at H
                            have c35b0 : decide (48 ≤ (bt a0 (ji32))) = false := decide_eq_false c35
                            clear c35
                            have H' := z00.mk H
                            clear H
                            have p34 : 0 ≤ ((ji32) : Int) := of_decide_eq_true (by first | (with_reducible assumption) | assumption)
                            have q34 : (ji32) < (a0.size : Int) := of_decide_eq_true (by first | (with_reducible assumption) | assumption)
                            have hx34 := bt_at a0 (ji32)
                            replace p34 := eq_true p34
                            replace q34 := eq_true q34
                            go_wp2
                            go_meet
                            case rel => exact ⟨_, (false), (by first | rfl | (simp; done) | (simp [*]; done)), H', ⟨by have := HJ5.out; have := HJ16.out; first | omega | exact Nat.le_refl _⟩, ⟨by (with_reducible repeat (first | refine z12 ?_ _ | refine z0y ?_ | refine z0k ?_ _)); exact BK199.out⟩, ⟨by repeat (first | (with_reducible first | exact HB.out | apply z04 | apply z01 | apply z05 | refine z07 ?_ GE199.out) | exact HB.out)⟩⟩
                        · rw [if_neg c33] at H
                          exact absurd H (by simp)
                      · rw [if_neg c31] at H
                        have c31b0 : decide ((wrap64 (a1 + 1)) < (a0.size : Int)) = false := decide_eq_false c31
                        clear c31
                        have H' := z00.mk H
                        clear H
                        go_wp2
                        go_meet
                        case rel => exact ⟨_, (false), (by first | rfl | (simp; done) | (simp [*]; done)), H', ⟨by have := HJ5.out; have := HJ16.out; first | omega | exact Nat.le_refl _⟩, ⟨by (with_reducible repeat (first | refine z12 ?_ _ | refine z0y ?_ | refine z0k ?_ _)); exact BK199.out⟩, ⟨by repeat (first | (with_reducible first | exact HB.out | apply z04 | apply z01 | apply z05 | refine z07 ?_ GE199.out) | exact HB.out)⟩⟩
                    · rw [if_neg c30] at H
                      have c30b0 : ((bt a0 a1) == 45) = false := beq_eq_false_iff_ne.mpr c30
                      have c30b1 : ((bt a0 a1) != 45) = true := bne_iff_ne.mpr c30
                      have H' := z00.mk H
                      clear H
                      go_wp2
                      go_meet
                      case rel => exact ⟨_, (false), (by first | rfl | (simp; done) | (simp [*]; done)), H', ⟨by have := HJ5.out; have := HJ16.out; first | omega | exact Nat.le_refl _⟩, ⟨by (with_reducible repeat (first | refine z12 ?_ _ | refine z0y ?_ | refine z0k ?_ _)); exact BK199.out⟩, ⟨by repeat (first | (with_reducible first | exact HB.out | apply z04 | apply z01 | apply z05 | refine z07 ?_ GE199.out) | exact HB.out)⟩⟩
                · rw [if_neg c28] at H
                  have c28b0 : decide (48 ≤ (bt a0 a1)) = false := decide_eq_false c28
                  clear c28
                  by_cases c37 : (bt a0 a1) = 45
                  · rw [if_pos c37] at H
                    have c37b0 : ((bt a0 a1) == 45) = true := beq_iff_eq.mpr c37
                    have c37b1 : ((bt a0 a1) != 45) = false := bne_eq_false_iff_eq.mpr c37
                    clear c37
                    by_cases c38 : (wrap64 (a1 + 1)) < (a0.size : Int)
                    · rw [if_pos c38] at H
                      have c38b0 : decide ((wrap64 (a1 + 1)) < (a0.size : Int)) = true := decide_eq_true c38
                      clear c38
                      obtain ⟨ji39, hji39⟩ : ∃ j_ : Int, (wrap64 (a1 + 1)) = j_ := ⟨_, rfl⟩
                      replace H : (if 0 ≤ (ji39) then (if (bt a0 (ji39)) ≥ 48 then (z09.j2 kj16 a0 a1 (decide ((bt a0 (ji39)) ≤ 57))) else (z09.j2 kj16 a0 a1 false)) else (none)) = some (r1, r2, r3, r4) := by first | (rw [hji39] at H; exact H) | (simp only [hji39] at H ⊢; exact H)
                      (try rw [hji39] at c38b0)
                      have hji39w : (IntKind.i64.wrap (a1 + 1)) = ji39 := (i64_w _).trans hji39
                      by_cases c40 : 0 ≤ (ji39)
                      · rw [if_pos c40] at H
                        have c40b0 : decide (0 ≤ (ji39)) = true := decide_eq_true c40
                        clear c40
                        by_cases c42 : (bt a0 (ji39)) ≥ 48
                        · rw [if_pos c42] at H
                          have c42b0 : decide (48 ≤ (bt a0 (ji39))) = true := decide_eq_true c42
                          clear c42
                          have H' := z00.mk H
                          clear H
                          have p41 : 0 ≤ ((ji39) : Int) := of_decide_eq_true (by first | (with_reducible assumption) | assumption)
                          have q41 : (ji39) < (a0.size : Int) := of_decide_eq_true (by first | (with_reducible assumption) | assumption)
                          have hx41 := bt_at a0 (ji39)
                          replace p41 := eq_true p41
                          replace q41 := eq_true q41
                          have p43 : 0 ≤ ((ji39) : Int) := of_decide_eq_true (by first | (with_reducible assumption) | assumption)
                          have q43 : (ji39) < (a0.size : Int) := of_decide_eq_true (by first | (with_reducible assumption) | assumption)
                          have hx43 := bt_at a0 (ji39)
                          replace p43 := eq_true p43
                          replace q43 := eq_true q43
                          go_wp2
                          go_meet
                          case rel => exact ⟨_, (decide ((bt a0 (ji39)) ≤ 57)), (by first | rfl | (simp; done) | (simp only [← hji39] <;> (first | rfl | simp)) | (simp [*]; done)), H', ⟨by have := HJ5.out; have := HJ16.out; first | omega | exact Nat.le_refl _⟩, ⟨by (with_reducible repeat (first | refine z12 ?_ _ | refine z0y ?_ | refine z0k ?_ _)); exact BK199.out⟩, ⟨by repeat (first | (with_reducible first | exact HB.out | apply z04 | apply z01 | apply z05 | refine z07 ?_ GE199.out) | exact HB.out)⟩⟩
                        · rw [if_neg c42] at H
                          have c42b0 : decide (48 ≤ (bt a0 (ji39))) = false := decide_eq_false c42
                          clear c42
                          have H' := z00.mk H
                          clear H
                          have p41 : 0 ≤ ((ji39) : Int) := of_decide_eq_true (by first | (with_reducible assumption) | assumption)
                          have q41 : (ji39) < (a0.size : Int) := of_decide_eq_true (by first | (with_reducible assumption) | assumption)
                          have hx41 := bt_at a0 (ji39)
                          replace p41 := eq_true p41
                          replace q41 := eq_true q41
                          go_wp2
                          go_meet
                          case rel => exact ⟨_, (false), (by first | rfl | (simp; done) | (simp [*]; done)), H', ⟨by have := HJ5.out; have := HJ16.out; first | omega | exact Nat.le_refl _⟩, ⟨by (with_reducible repeat (first | refine z12 ?_ _ | refine z0y ?_ | refine z0k ?_ _)); exact BK199.out⟩, ⟨by repeat (first | (with_reducible first | exact HB.out | apply z04 | apply z01 | apply z05 | refine z07 ?_ GE199.out) | exact HB.out)⟩⟩
                      · rw [if_neg c40] at H
                        exact absurd H (by simp)
                    · rw [if_neg c38] at H
                      have c38b0 : decide ((wrap64 (a1 + 1)) < (a0.size : Int)) = false := decide_eq_false c38
                      clear c38
                      have H' := z00.mk H
                      clear H
                      go_wp2
                      go_meet
                      case rel => exact ⟨_, (false), (by first | rfl | (simp; done) | (simp [*]; done)), H', ⟨by have := HJ5.out; have := HJ16.out; first | omega | exact Nat.le_refl _⟩, ⟨by (with_reducible repeat (first | refine z12 ?_ _ | refine z0y ?_ | refine z0k ?_ _)); exact BK199.out⟩, ⟨by repeat (first | (with_reducible first | exact HB.out | apply z04 | apply z01 | apply z05 | refine z07 ?_ GE199.out) | exact HB.out)⟩⟩
                  · rw [if_neg c37] at H
                    have c37b0 : ((bt a0 a1) == 45) = false := beq_eq_false_iff_ne.mpr c37
                    have c37b1 : ((bt a0 a1) != 45) = true := bne_iff_ne.mpr c37
                    have H' := z00.mk H
                    clear H
                    go_wp2
                    go_meet
                    case rel => exact ⟨_, (false), (by first | rfl | (simp; done) | (simp [*]; done)), H', ⟨by have := HJ5.out; have := HJ16.out; first | omega | exact Nat.le_refl _⟩, ⟨by (with_reducible repeat (first | refine z12 ?_ _ | refine z0y ?_ | refine z0k ?_ _)); exact BK199.out⟩, ⟨by repeat (first | (with_reducible first | exact HB.out | apply z04 | apply z01 | apply z05 | refine z07 ?_ GE199.out) | exact HB.out)⟩⟩
             case rest =>
              clear HC26
              try clear c1
              try clear c2
              try clear p2
              try clear c3
              try clear c3b0
              try clear p3
              try clear q3
              try clear hx3
              try clear c4
              try clear c4b0
              try clear p4
              try clear q4
              try clear hx4
              try clear p5
              try clear q5
              try clear hx5
              try clear c6
              try clear p6
              try clear c8
              try clear c8b0
              try clear c9
              try clear c10
              try clear c11
              try clear c11b0
              try clear c11b1
              try clear c12
              try clear c12b0
              try clear c12b1
              try clear c13
              try clear c13b0
              try clear c13b1
              try clear c18
              try clear c18b0
              try clear c19
              try clear c21
              try clear c21b0
              try clear c21b1
              try clear c22
              try clear c22b0
              try clear c22b1
              try clear c23
              try clear c23b0
              try clear c23b1
              try clear c27
              try clear c27b0
              try clear c27b1
              try clear c28
              try clear c28b0
              try clear c29
              try clear c29b0
              try clear c30
              try clear c30b0
              try clear c30b1
              try clear c31
              try clear c31b0
              try clear c33
              try clear c33b0
              try clear p34
              try clear q34
              try clear hx34
              try clear c35
              try clear c35b0
              try clear p36
              try clear q36
              try clear hx36
              try clear c37
              try clear c37b0
              try clear c37b1
              try clear c38
              try clear c38b0
              try clear c40
              try clear c40b0
              try clear p41
              try clear q41
              try clear hx41
              try clear c42
              try clear c42b0
              try clear p43
              try clear q43
              try clear hx43
              try clear hcz16_0
              try clear hcz16_1
              try clear hcz16_2
              try clear hcz25_0
              try clear hcz25_1
              try clear hcz25_2
              try clear hfz16_0
              try clear hfz16_1
              try clear hfz16_2
              try clear hfz25_0
              try clear hfz25_1
              try clear hfz25_2
              try clear p2
              try clear p34
              try clear p36
              try clear p41
              try clear p43
              try clear p5
              try clear p6
              try clear q34
              try clear q36
              try clear q41
              try clear q43
              try clear q5
              obtain ⟨kq, x88_25, rfl, HA, HJ25, BK199, HB⟩ := hcut
              cases kq with
              | zero => exact absurd HA.out (by simp [z09.j2])
              | succ kj25 =>
               have H := HA.out
               clear HA
               simp only [z09.j2] at H
               by_cases c44 : x88_25 = true
               · subst c44
                 have H1 : ((z0p.f kj25 a0 (wrap64 (a1 + 1)) false).bind fun t204 => (if 0 ≤ a1 then (if a1 ≤ (wrap64 ((wrap64 (a1 + 1)) + t204)) then (if (wrap64 ((wrap64 (a1 + 1)) + t204)) ≤ (a0.size : Int) then ((z14.f kj25 (a0.extract (a1 : Int).toNat ((wrap64 ((wrap64 (a1 + 1)) + t204)) : Int).toNat)).bind fun bt205 => (some (3, a0.extract (a1 : Int).toNat ((wrap64 ((wrap64 (a1 + 1)) + t204)) : Int).toNat, a1, (bt205.2.2.2 == 0)))) else (none)) else (none)) else (none))) = some (r1, r2, r3, r4) := by rw [if_pos rfl] at H; exact H
                 clear H
                 have H := H1
                 clear H1
                 replace H := Option.bind_eq_some_iff.mp H
                 obtain ⟨t204, A450, H⟩ := H
                 replace H : (if 0 ≤ a1 then (if a1 ≤ (wrap64 ((wrap64 (a1 + 1)) + t204)) then (if (wrap64 ((wrap64 (a1 + 1)) + t204)) ≤ (a0.size : Int) then ((z14.f kj25 (a0.extract (a1 : Int).toNat ((wrap64 ((wrap64 (a1 + 1)) + t204)) : Int).toNat)).bind fun bt205 => (some (3, a0.extract (a1 : Int).toNat ((wrap64 ((wrap64 (a1 + 1)) + t204)) : Int).toNat, a1, (bt205.2.2.2 == 0)))) else (none)) else (none)) else (none)) = some (r1, r2, r3, r4) := H
                 have A45 := z00.mk A450
                 clear A450
                 by_cases c46 : 0 ≤ a1
                 · rw [if_pos c46] at H
                   have c46b0 := eq_true c46
                   have c46b1 : decide (0 ≤ a1) = true := decide_eq_true c46
                   clear c46
                   by_cases c47 : a1 ≤ (wrap64 ((wrap64 (a1 + 1)) + t204))
                   · rw [if_pos c47] at H
                     have c47b0 := eq_true c47
                     have c47b1 : decide (a1 ≤ (wrap64 ((wrap64 (a1 + 1)) + t204))) = true := decide_eq_true c47
                     by_cases c48 : (wrap64 ((wrap64 (a1 + 1)) + t204)) ≤ (a0.size : Int)
                     · rw [if_pos c48] at H
                       have c48b0 := eq_true c48
                       have c48b1 : decide ((wrap64 ((wrap64 (a1 + 1)) + t204)) ≤ (a0.size : Int)) = true := decide_eq_true c48
                       replace H := Option.bind_eq_some_iff.mp H
                       obtain ⟨⟨t205, t206, t207, t208⟩, A490, H⟩ := H
                       replace H : (some (3, a0.extract (a1 : Int).toNat ((wrap64 ((wrap64 (a1 + 1)) + t204)) : Int).toNat, a1, (t208 == 0))) = some (r1, r2, r3, r4) := H
                       have A49 := z00.mk A490
                       clear A490
                       simp only [Option.some.injEq, Prod.mk.injEq] at H
                       obtain ⟨rfl, rfl, rfl, rfl⟩ := H
                       go_wp2_with (first | ((with_reducible refine z0s (f := 98) rfl ?_); refine z1r (some 96) rfl rfl Tryz.func98 (by kernel_rfl) rfl #[.string a0, .int .i64 (wrap64 (a1 + 1)), .bool false] rfl (by (try simp only [List.map_toArray, List.map_cons, List.map_nil]); first | done | rfl | (simp only [List.length_drop, List.length_take]; rfl)) ?_; (with_reducible refine (z0p.calls kj25 a0 (wrap64 (a1 + 1)) false t204 _ A45.out).mono ?_); rintro e w' ⟨rfl, ⟨nd, rfl⟩⟩; refine ⟨_, rfl, ?_⟩; (try (rw [z61 wc]; generalize hq_ : World.drewN wc _ = wc; have n0_ : z00 (wc.heap[gb199]? = some (.cells #[.int .i64 0, .string (⟨#[]⟩ : ByteArray), .int .i64 0] 53 (0, 0))) := ⟨by rw [← hq_]; exact (by (with_reducible repeat (first | refine z12 ?_ _ | refine z0y ?_ | refine z0k ?_ _)); exact BK199.out)⟩; have n1_ : z00 (Below w.heap.size w wc) := ⟨by rw [← hq_]; exact (by repeat (first | (with_reducible first | exact HB.out | apply z04 | apply z01 | apply z05 | refine z07 ?_ GE199.out) | exact HB.out))⟩; clear BK199 HB hq_; have BK199 := n0_; have HB := n1_; clear n0_ n1_))) | ((with_reducible refine z0s (f := 101) rfl ?_); refine z1r (some 101) rfl rfl Tryz.func101 (by kernel_rfl) rfl #[.string (a0.extract (a1 : Int).toNat ((wrap64 ((wrap64 (a1 + 1)) + t204)) : Int).toNat)] rfl (by (try simp only [List.map_toArray, List.map_cons, List.map_nil]); first | done | rfl | (simp only [List.length_drop, List.length_take]; rfl)) ?_; (with_reducible refine (z14.calls kj25 (a0.extract (a1 : Int).toNat ((wrap64 ((wrap64 (a1 + 1)) + t204)) : Int).toNat) t205 t206 t207 t208 _ A49.out).mono ?_); rintro e w50 ⟨rfl, hb⟩; refine ⟨_, rfl, ?_⟩; have n0_ := z00.mk (z0r (g := gb199) (o := .cells #[.int .i64 0, .string (⟨#[]⟩ : ByteArray), .int .i64 0] 53 (0, 0)) (by (with_reducible repeat (first | refine z12 ?_ _ | refine z0y ?_ | refine z0k ?_ _)); exact BK199.out) hb); have n1_ := z00.mk (z0z (by repeat (first | (with_reducible first | exact HB.out | apply z04 | apply z01 | apply z05 | refine z07 ?_ GE199.out) | exact HB.out)) hb); clear BK199; clear HB; have BK199 := n0_; have HB := n1_; clear n0_ n1_; (try clear hb); (try clear hb2); (try clear hk); (try clear hi)) | ((with_reducible refine z2e (N := 10) rfl ?_); (try (refine zaa (by rfl) ?_; dsimp only)); refine z2j ?hg (N := 10) ?hd (cs := #[.int .i64 0, .int .i64 0, .string (⟨#[]⟩ : ByteArray)]) (t := 58) ?hr ?_; (case hd => rfl); (case hg => rfl); (case hr => first | (go_simp; done) | (go_simp; rfl)); intro gb209 hg w51 hbox hb; have n0_ := z00.mk (z0r (g := gb199) (o := .cells #[.int .i64 0, .string (⟨#[]⟩ : ByteArray), .int .i64 0] 53 (0, 0)) (by (with_reducible repeat (first | refine z12 ?_ _ | refine z0y ?_ | refine z0k ?_ _)); exact BK199.out) hb); have n1_ := z00.mk (z0z (by repeat (first | (with_reducible first | exact HB.out | apply z04 | apply z01 | apply z05 | refine z07 ?_ GE199.out) | exact HB.out)) hb); have n2_ := z00.mk (hbox); have n3_ := z00.mk ((by rw [hg]; exact (z13 (by repeat (first | (with_reducible first | exact HB.out | apply z04 | apply z01 | apply z05 | refine z07 ?_ GE199.out) | exact HB.out))) : w.heap.size ≤ gb209)); have n4_ := z00.mk ((by rw [hg]; exact (z13 (by repeat (first | (with_reducible first | exact HB.out | apply z04 | apply z01 | apply z05 | refine z07 ?_ GE199.out) | exact HB.out))) : w.heap.size ≤ gb209)); have n5_ := z00.mk ((by rw [hg]; exact Nat.ne_of_lt (z2o (g := gb199) (o := .cells #[.int .i64 0, .string (⟨#[]⟩ : ByteArray), .int .i64 0] 53 (0, 0)) (by (with_reducible repeat (first | refine z12 ?_ _ | refine z0y ?_ | refine z0k ?_ _)); exact BK199.out)) : gb199 ≠ gb209)); have n6_ := z00.mk ((by rw [hg]; exact Nat.ne_of_gt (z2o (g := gb199) (o := .cells #[.int .i64 0, .string (⟨#[]⟩ : ByteArray), .int .i64 0] 53 (0, 0)) (by (with_reducible repeat (first | refine z12 ?_ _ | refine z0y ?_ | refine z0k ?_ _)); exact BK199.out)) : gb209 ≠ gb199)); clear BK199; clear HB; have BK199 := n0_; have HB := n1_; have BK209 := n2_; have GW209 := n3_; have GE209 := n4_; have NB199_209 := n5_; have NB209_199 := n6_; clear n0_ n1_ n2_ n3_ n4_ n5_ n6_; clear hb hbox hg; have hnb52 := NB209_199.out; have hnc52 := NB199_209.out; have hcz53_0 : w51.cell? ⟨gb209, 0, none⟩ = some (.int .i64 0) := (z03 BK209.out 0).trans rfl; have hcz53_1 : w51.cell? ⟨gb209, 1, none⟩ = some (.int .i64 0) := (z03 BK209.out 1).trans rfl; have hcz53_2 : w51.cell? ⟨gb209, 2, none⟩ = some (.string (⟨#[]⟩ : ByteArray)) := (z03 BK209.out 2).trans rfl; have hfz53_0 := z02 BK209.out 0; have hfz53_1 := z02 BK209.out 1; have hfz53_2 := z02 BK209.out 2; have hcz54_0 : w51.cell? ⟨gb199, 0, none⟩ = some (.int .i64 0) := (z03 BK199.out 0).trans rfl; have hcz54_1 : w51.cell? ⟨gb199, 1, none⟩ = some (.string (⟨#[]⟩ : ByteArray)) := (z03 BK199.out 1).trans rfl; have hcz54_2 : w51.cell? ⟨gb199, 2, none⟩ = some (.int .i64 0) := (z03 BK199.out 2).trans rfl; have hfz54_0 := z02 BK199.out 0; have hfz54_1 := z02 BK199.out 1; have hfz54_2 := z02 BK199.out 2))
                       refine bodyPost_ret (z23 rfl _ _ gb199 53 #[.int .i64 3, .string (a0.extract (a1 : Int).toNat ((wrap64 ((wrap64 (a1 + 1)) + t204)) : Int).toNat), .int .i64 a1] (0, 0) _ rfl (by (with_reducible repeat (first | refine z12 ?_ _ | refine z0y ?_ | refine z0k ?_ _)); refine z0v (cs := #[.int .i64 3, .string (a0.extract (a1 : Int).toNat ((wrap64 ((wrap64 (a1 + 1)) + t204)) : Int).toNat), .int .i64 0]) ?_ 2 _ rfl; (with_reducible repeat (first | refine z12 ?_ _ | refine z0y ?_ | refine z0k ?_ _)); refine z0v (cs := #[.int .i64 3, .string (⟨#[]⟩ : ByteArray), .int .i64 0]) ?_ 1 _ rfl; (with_reducible repeat (first | refine z12 ?_ _ | refine z0y ?_ | refine z0k ?_ _)); refine z0v (cs := #[.int .i64 0, .string (⟨#[]⟩ : ByteArray), .int .i64 0]) ?_ 0 _ rfl; (with_reducible repeat (first | refine z12 ?_ _ | refine z0y ?_ | refine z0k ?_ _)); refine z15 ?_ NB199_209.out _; (with_reducible repeat (first | refine z12 ?_ _ | refine z0y ?_ | refine z0k ?_ _)); refine z15 ?_ NB199_209.out _; (with_reducible repeat (first | refine z12 ?_ _ | refine z0y ?_ | refine z0k ?_ _)); refine z15 ?_ NB199_209.out _; (with_reducible repeat (first | refine z12 ?_ _ | refine z0y ?_ | refine z0k ?_ _)); exact BK199.out) Tryz.underlying53 rfl (by kernel_rfl)) rfl ?_
                       exact ⟨by first | rfl | (simp [z0n, z0o] <;> rfl) | (simp [*, z0n, z0o] <;> rfl), by repeat (first | (with_reducible first | exact HB.out | apply z04 | apply z01 | apply z05 | refine z07 ?_ GE199.out | refine z07 ?_ GE209.out) | exact HB.out)⟩
                     · rw [if_neg c48] at H
                       exact absurd H (by simp)
                   · rw [if_neg c47] at H
                     exact absurd H (by simp)
                 · rw [if_neg c46] at H
                   exact absurd H (by simp)
               · replace c44 := Bool.eq_false_iff.mpr c44
                 subst c44
                 have H1 : ((z0u.f kj25 a0 a1).bind fun t210 => (if 0 ≤ a1 then (if a1 ≤ (wrap64 (a1 + t210)) then (if (wrap64 (a1 + t210)) ≤ (a0.size : Int) then (some (4, a0.extract (a1 : Int).toNat ((wrap64 (a1 + t210)) : Int).toNat, a1, decide (t210 > 0))) else (none)) else (none)) else (none))) = some (r1, r2, r3, r4) := by rw [if_neg (show ¬ (false = true) by decide)] at H; exact H
                 clear H
                 have H := H1
                 clear H1
                 replace H := Option.bind_eq_some_iff.mp H
                 obtain ⟨t210, A550, H⟩ := H
                 replace H : (if 0 ≤ a1 then (if a1 ≤ (wrap64 (a1 + t210)) then (if (wrap64 (a1 + t210)) ≤ (a0.size : Int) then (some (4, a0.extract (a1 : Int).toNat ((wrap64 (a1 + t210)) : Int).toNat, a1, decide (t210 > 0))) else (none)) else (none)) else (none)) = some (r1, r2, r3, r4) := H
                 have A55 := z00.mk A550
                 clear A550
                 by_cases c56 : 0 ≤ a1
                 · rw [if_pos c56] at H
                   have c56b0 := eq_true c56
                   have c56b1 : decide (0 ≤ a1) = true := decide_eq_true c56
                   clear c56
                   by_cases c57 : a1 ≤ (wrap64 (a1 + t210))
                   · rw [if_pos c57] at H
                     have c57b0 := eq_true c57
                     have c57b1 : decide (a1 ≤ (wrap64 (a1 + t210))) = true := decide_eq_true c57
                     by_cases c58 : (wrap64 (a1 + t210)) ≤ (a0.size : Int)
                     · rw [if_pos c58] at H
                       have c58b0 := eq_true c58
                       have c58b1 : decide ((wrap64 (a1 + t210)) ≤ (a0.size : Int)) = true := decide_eq_true c58
                       simp only [Option.some.injEq, Prod.mk.injEq] at H
                       obtain ⟨rfl, rfl, rfl, rfl⟩ := H
                       go_wp2_with (first | ((with_reducible refine z0s (f := 102) rfl ?_); refine z1r (some 111) rfl rfl Tryz.func102 (by kernel_rfl) rfl #[.string a0, .int .i64 a1] rfl (by (try simp only [List.map_toArray, List.map_cons, List.map_nil]); first | done | rfl | (simp only [List.length_drop, List.length_take]; rfl)) ?_; (with_reducible refine (z0u.calls kj25 a0 a1 t210 _ A55.out).mono ?_); rintro e w' ⟨rfl, ⟨nd, rfl⟩⟩; refine ⟨_, rfl, ?_⟩; (try (rw [z61 wc]; generalize hq_ : World.drewN wc _ = wc; have n0_ : z00 (wc.heap[gb199]? = some (.cells #[.int .i64 0, .string (⟨#[]⟩ : ByteArray), .int .i64 0] 53 (0, 0))) := ⟨by rw [← hq_]; exact (by (with_reducible repeat (first | refine z12 ?_ _ | refine z0y ?_ | refine z0k ?_ _)); exact BK199.out)⟩; have n1_ : z00 (Below w.heap.size w wc) := ⟨by rw [← hq_]; exact (by repeat (first | (with_reducible first | exact HB.out | apply z04 | apply z01 | apply z05 | refine z07 ?_ GE199.out) | exact HB.out))⟩; clear BK199 HB hq_; have BK199 := n0_; have HB := n1_; clear n0_ n1_)); have hcz59_0 : wc.cell? ⟨gb199, 0, none⟩ = some (.int .i64 0) := (z03 BK199.out 0).trans rfl; have hcz59_1 : wc.cell? ⟨gb199, 1, none⟩ = some (.string (⟨#[]⟩ : ByteArray)) := (z03 BK199.out 1).trans rfl; have hcz59_2 : wc.cell? ⟨gb199, 2, none⟩ = some (.int .i64 0) := (z03 BK199.out 2).trans rfl; have hfz59_0 := z02 BK199.out 0; have hfz59_1 := z02 BK199.out 1; have hfz59_2 := z02 BK199.out 2))
                       refine bodyPost_ret (z23 rfl _ _ gb199 53 #[.int .i64 4, .string (a0.extract (a1 : Int).toNat ((wrap64 (a1 + t210)) : Int).toNat), .int .i64 a1] (0, 0) _ rfl (by (with_reducible repeat (first | refine z12 ?_ _ | refine z0y ?_ | refine z0k ?_ _)); refine z0v (cs := #[.int .i64 4, .string (a0.extract (a1 : Int).toNat ((wrap64 (a1 + t210)) : Int).toNat), .int .i64 0]) ?_ 2 _ rfl; (with_reducible repeat (first | refine z12 ?_ _ | refine z0y ?_ | refine z0k ?_ _)); refine z0v (cs := #[.int .i64 4, .string (⟨#[]⟩ : ByteArray), .int .i64 0]) ?_ 1 _ rfl; (with_reducible repeat (first | refine z12 ?_ _ | refine z0y ?_ | refine z0k ?_ _)); refine z0v (cs := #[.int .i64 0, .string (⟨#[]⟩ : ByteArray), .int .i64 0]) ?_ 0 _ rfl; (with_reducible repeat (first | refine z12 ?_ _ | refine z0y ?_ | refine z0k ?_ _)); exact BK199.out) Tryz.underlying53 rfl (by kernel_rfl)) rfl ?_
                       exact ⟨by first | rfl | (simp [z0n, z0o] <;> rfl) | (simp [*, z0n, z0o] <;> rfl), by repeat (first | (with_reducible first | exact HB.out | apply z04 | apply z01 | apply z05 | refine z07 ?_ GE199.out) | exact HB.out)⟩
                     · rw [if_neg c58] at H
                       exact absurd H (by simp)
                   · rw [if_neg c57] at H
                     exact absurd H (by simp)
                 · rw [if_neg c56] at H
                   exact absurd H (by simp)
   · rw [if_neg c4] at H
     exact absurd H (by simp)
 · rw [if_neg c3] at H
   exact absurd H (by simp)
end Go.Proofs.YthebhbomlllpeaaGreatDoor.X
