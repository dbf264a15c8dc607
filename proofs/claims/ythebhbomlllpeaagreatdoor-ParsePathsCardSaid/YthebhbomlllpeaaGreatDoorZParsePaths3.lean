/-
  ParsePaths: what the proof needs, put together by a program of this session (shake.py), part 3.
-/
import Derived.Test.YthebhbomlllpeaaGreatDoorZParsePaths2
set_option linter.unusedVariables false
set_option linter.unusedSimpArgs false
namespace Go.Proofs.YthebhbomlllpeaaGreatDoor.X
open Go.RowKit Go.Proofs.YthebhbomlllpeaaGreatDoorW.PrintWords Go.Proofs.YthebhbomlllpeaaGreatDoorW.PrintLast Go.Proofs.YthebhbomlllpeaaGreatDoorW.PrintMore
attribute [local go_sem] z4f z4g z50 z52 z3o z3p z4a z4b
abbrev PFT := Nat → List S53 → Int → Int → Int → Int → Int → Option (List S69 × Int × Int × Int × Int)
abbrev PFC (PF : PFT) : Prop := ∀ (k : Nat) (g : Nat) (s0_0 : List (S53)) (s0_1 : Int) (s0_2 : Int) (s0_3 : Int) (s0_4 : Int) (a1 : Int) (r1 : List (S69)) (r2 : Int) (r3 : Int) (r4 : Int) (r5 : Int) (w0 w : World) (hI : IsS95 w0 w g s0_0 s0_1 s0_2 s0_3 s0_4) (hB : Below w0.heap.size w0 w) (h : PF k s0_0 s0_1 s0_2 s0_3 s0_4 a1 = some (r1, r2, r3, r4, r5)),
 Calls Tryz.prog 105 #[.pointer (some ⟨g, 0, none⟩), .int .i64 a1] w fun e w' => ∃ v0_ : Value, e = .returned (v0_) ∧ Kd.R k69 69 w' w.heap.size (fun _ => True) v0_ r1 ∧ IsS95 w0 w' g s0_0 r2 r3 r4 r5 ∧ Below w0.heap.size w0 w' ∧ z08 w w' g none
mutual
def z06.j0 (PF : PFT) : Nat → List (S69) → List (S53) → Int → Int → Int → Int → Option ((List (S69)) × Int × Int × Int × Int)
 | 0, _, _, _, _, _, _ => none
 | k + 1, x5, x1000, x1001, x1002, x1003, x1004 => z06.l0 PF k x5 x1000 x1001 x1002 x1003 x1004
def z06.l0 (PF : PFT) : Nat → List (S69) → List (S53) → Int → Int → Int → Int → Option ((List (S69)) × Int × Int × Int × Int)
 | 0, _, _, _, _, _, _ => none
 | k + 1, x5, x1000, x1001, x1002, x1003, x1004 => if x1003 = 0 then ((z0c.f x1000 x1001 x1002 x1003 x1004 0 4 (⟨#[42]⟩ : ByteArray)).bind fun bt300 => (if bt300.1 = true then (if x5.length < 5864062014805 then (z06.l0 PF k (x5 ++ [(⟨5, (⟨#[]⟩ : ByteArray)⟩ : S69)]) x1000 (wrap64 (bt300.2.1 + 1)) bt300.2.2.1 bt300.2.2.2.1 bt300.2.2.2.2) else (none)) else ((z0c.f x1000 bt300.2.1 bt300.2.2.1 bt300.2.2.2.1 bt300.2.2.2.2 0 4 (⟨#[43]⟩ : ByteArray)).bind fun bt308 => (if bt308.1 = true then (if x5.length < 5864062014805 then (z06.l0 PF k (x5 ++ [(⟨6, (⟨#[]⟩ : ByteArray)⟩ : S69)]) x1000 (wrap64 (bt308.2.1 + 1)) bt308.2.2.1 bt308.2.2.2.1 bt308.2.2.2.2) else (none)) else ((z0c.f x1000 bt308.2.1 bt308.2.2.1 bt308.2.2.2.1 bt308.2.2.2.2 0 4 (⟨#[63]⟩ : ByteArray)).bind fun bt316 => (if bt316.1 = true then (if x5.length < 5864062014805 then (z06.l0 PF k (x5 ++ [(⟨7, (⟨#[]⟩ : ByteArray)⟩ : S69)]) x1000 (wrap64 (bt316.2.1 + 1)) bt316.2.2.1 bt316.2.2.2.1 bt316.2.2.2.2) else (none)) else (some (x5, bt316.2.1, bt316.2.2.1, bt316.2.2.2.1, bt316.2.2.2.2)))))))) else (some (x5, x1001, x1002, x1003, x1004))
end
def z06.f (PF : PFT) (k : Nat) (s0_0 : List (S53)) (s0_1 : Int) (s0_2 : Int) (s0_3 : Int) (s0_4 : Int) (a1 : Int) : Option ((List (S69)) × Int × Int × Int × Int) := (z0c.f s0_0 s0_1 s0_2 s0_3 s0_4 0 4 (⟨#[40]⟩ : ByteArray)).bind fun bt254 => (if bt254.1 = true then (if a1 = 32 then ((z0t.f s0_0 bt254.2.1 bt254.2.2.1 bt254.2.2.2.1 bt254.2.2.2.2).bind fun bt259 => ((z0i.f s0_0 bt259.2.1 bt259.2.2.1 bt259.2.2.2.1 bt259.2.2.2.2 3 bt259.1).bind fun bt264 => (some (([] : List (S69)), bt264.1, bt264.2.1, bt264.2.2.1, bt264.2.2.2)))) else ((PF k s0_0 (wrap64 (bt254.2.1 + 1)) bt254.2.2.1 bt254.2.2.2.1 bt254.2.2.2.2 (wrap64 (a1 + 1))).bind fun bt268 => ((z18.f s0_0 bt268.2.1 bt268.2.2.1 bt268.2.2.2.1 bt268.2.2.2.2 (⟨#[41]⟩ : ByteArray)).bind fun bt275 => (z06.j0 PF k bt268.1 s0_0 bt275.1 bt275.2.1 bt275.2.2.1 bt275.2.2.2)))) else ((z0c.f s0_0 bt254.2.1 bt254.2.2.1 bt254.2.2.2.1 bt254.2.2.2.2 0 4 (⟨#[94]⟩ : ByteArray)).bind fun bt279 => (if bt279.1 = true then ((z0b.f k s0_0 (wrap64 (bt279.2.1 + 1)) bt279.2.2.1 bt279.2.2.2.1 bt279.2.2.2.2).bind fun bt284 => (z06.j0 PF k (([(⟨2, bt284.1⟩ : S69)] : List (S69))) s0_0 bt284.2.1 bt284.2.2.1 bt284.2.2.2.1 bt284.2.2.2.2)) else ((z0b.f k s0_0 bt279.2.1 bt279.2.2.1 bt279.2.2.2.1 bt279.2.2.2.2).bind fun bt292 => (z06.j0 PF k (([(⟨1, bt292.1⟩ : S69)] : List (S69))) s0_0 bt292.2.1 bt292.2.2.1 bt292.2.2.2.1 bt292.2.2.2.2)))))
set_option maxHeartbeats 8000000 in
set_option maxRecDepth 100000 in
theorem z06.calls (PF : PFT) (HPF : PFC PF) (k : Nat) (g : Nat) (s0_0 : List (S53)) (s0_1 : Int) (s0_2 : Int) (s0_3 : Int) (s0_4 : Int) (a1 : Int) (r1 : List (S69)) (r2 : Int) (r3 : Int) (r4 : Int) (r5 : Int) (w0 w : World) (hI : IsS95 w0 w g s0_0 s0_1 s0_2 s0_3 s0_4) (hB : Below w0.heap.size w0 w) (h : z06.f PF k s0_0 s0_1 s0_2 s0_3 s0_4 a1 = some (r1, r2, r3, r4, r5)) :
 Calls Tryz.prog 157 #[.pointer (some ⟨g, 0, none⟩), .int .i64 a1] w fun e w' => ∃ v0_ : Value, e = .returned (v0_) ∧ Kd.R k69 69 w' w.heap.size (fun _ => True) v0_ r1 ∧ IsS95 w0 w' g s0_0 r2 r3 r4 r5 ∧ Below w0.heap.size w0 w' ∧ z08 w w' g none := by
 have hu69 := Tryz.underlying69
 have HI0 := z00.mk hI
 have HK := z00.mk (z08.refl w g none)
 have HL := z00.mk hB.size
 clear hI
 have HW0 := z00.mk hB.size
 have HB := z00.mk hB
 clear hB
 have H : ((z0c.f s0_0 s0_1 s0_2 s0_3 s0_4 0 4 (⟨#[40]⟩ : ByteArray)).bind fun bt254 => (if bt254.1 = true then (if a1 = 32 then ((z0t.f s0_0 bt254.2.1 bt254.2.2.1 bt254.2.2.2.1 bt254.2.2.2.2).bind fun bt259 => ((z0i.f s0_0 bt259.2.1 bt259.2.2.1 bt259.2.2.2.1 bt259.2.2.2.2 3 bt259.1).bind fun bt264 => (some (([] : List (S69)), bt264.1, bt264.2.1, bt264.2.2.1, bt264.2.2.2)))) else ((PF k s0_0 (wrap64 (bt254.2.1 + 1)) bt254.2.2.1 bt254.2.2.2.1 bt254.2.2.2.2 (wrap64 (a1 + 1))).bind fun bt268 => ((z18.f s0_0 bt268.2.1 bt268.2.2.1 bt268.2.2.2.1 bt268.2.2.2.2 (⟨#[41]⟩ : ByteArray)).bind fun bt275 => (z06.j0 PF k bt268.1 s0_0 bt275.1 bt275.2.1 bt275.2.2.1 bt275.2.2.2)))) else ((z0c.f s0_0 bt254.2.1 bt254.2.2.1 bt254.2.2.2.1 bt254.2.2.2.2 0 4 (⟨#[94]⟩ : ByteArray)).bind fun bt279 => (if bt279.1 = true then ((z0b.f k s0_0 (wrap64 (bt279.2.1 + 1)) bt279.2.2.1 bt279.2.2.2.1 bt279.2.2.2.2).bind fun bt284 => (z06.j0 PF k (([(⟨2, bt284.1⟩ : S69)] : List (S69))) s0_0 bt284.2.1 bt284.2.2.1 bt284.2.2.2.1 bt284.2.2.2.2)) else ((z0b.f k s0_0 bt279.2.1 bt279.2.2.1 bt279.2.2.2.1 bt279.2.2.2.2).bind fun bt292 => (z06.j0 PF k (([(⟨1, bt292.1⟩ : S69)] : List (S69))) s0_0 bt292.2.1 bt292.2.2.1 bt292.2.2.2.1 bt292.2.2.2.2)))))) = some (r1, r2, r3, r4, r5) := h
 clear h
 replace H := Option.bind_eq_some_iff.mp H
 obtain ⟨⟨t254, t255, t256, t257, t258⟩, A30, H⟩ := H
 replace H : (if t254 = true then (if a1 = 32 then ((z0t.f s0_0 t255 t256 t257 t258).bind fun bt259 => ((z0i.f s0_0 bt259.2.1 bt259.2.2.1 bt259.2.2.2.1 bt259.2.2.2.2 3 bt259.1).bind fun bt264 => (some (([] : List (S69)), bt264.1, bt264.2.1, bt264.2.2.1, bt264.2.2.2)))) else ((PF k s0_0 (wrap64 (t255 + 1)) t256 t257 t258 (wrap64 (a1 + 1))).bind fun bt268 => ((z18.f s0_0 bt268.2.1 bt268.2.2.1 bt268.2.2.2.1 bt268.2.2.2.2 (⟨#[41]⟩ : ByteArray)).bind fun bt275 => (z06.j0 PF k bt268.1 s0_0 bt275.1 bt275.2.1 bt275.2.2.1 bt275.2.2.2)))) else ((z0c.f s0_0 t255 t256 t257 t258 0 4 (⟨#[94]⟩ : ByteArray)).bind fun bt279 => (if bt279.1 = true then ((z0b.f k s0_0 (wrap64 (bt279.2.1 + 1)) bt279.2.2.1 bt279.2.2.2.1 bt279.2.2.2.2).bind fun bt284 => (z06.j0 PF k (([(⟨2, bt284.1⟩ : S69)] : List (S69))) s0_0 bt284.2.1 bt284.2.2.1 bt284.2.2.2.1 bt284.2.2.2.2)) else ((z0b.f k s0_0 bt279.2.1 bt279.2.2.1 bt279.2.2.2.1 bt279.2.2.2.2).bind fun bt292 => (z06.j0 PF k (([(⟨1, bt292.1⟩ : S69)] : List (S69))) s0_0 bt292.2.1 bt292.2.2.1 bt292.2.2.2.1 bt292.2.2.2.2))))) = some (r1, r2, r3, r4, r5) := H
 have A3 := z00.mk A30
 clear A30
 have HC4 := z00.mk H
 clear H
 go_enter Tryz.func157, Tryz.ntmps157
 go_upto_if 7 with (first | ((with_reducible refine z0s (f := 55) rfl ?_); refine z1r (some 7) rfl rfl Tryz.func55 (by kernel_rfl) rfl #[.pointer (some ⟨g, 0, none⟩), .int .i64 0, .int .i64 4, .string (⟨#[40]⟩ : ByteArray)] rfl (by (try simp only [List.map_toArray, List.map_cons, List.map_nil]); first | done | rfl | (simp only [List.length_drop, List.length_take]; rfl)) ?_; (with_reducible refine (z0c.calls g s0_0 s0_1 s0_2 s0_3 s0_4 0 4 (⟨#[40]⟩ : ByteArray) t254 t255 t256 t257 t258 w0 _ ?side1 ?side2 A3.out).mono ?_); (case side1 => repeat (first | (with_reducible first | exact HI0.out | apply IsS95.alloc | apply IsS95.drewN | apply IsS95.drew | apply IsS95.set_1 | apply IsS95.set_2 | apply IsS95.set_3 | apply IsS95.set_4) | exact HI0.out)); (case side2 => repeat (first | (with_reducible first | exact HB.out | apply z04 | apply z01 | apply z05 | refine z07 ?_ (IsS95.ge HI0.out)) | exact HB.out)); rintro e w5 ⟨rfl, hi, hb, hk⟩; refine ⟨_, rfl, ?_⟩; have n0_ := z00.mk (z08.trans (by repeat (first | (with_reducible first | exact HK.out | apply z08.set_ | apply z0g | apply z0m | apply z0e) | exact HK.out)) hk (.inl rfl)); have n1_ := z00.mk (hb); have n2_ := z00.mk (hi); clear HK; clear HB; clear HI0; have HK := n0_; have HB := n1_; have HI0 := n2_; clear n0_ n1_ n2_; (try clear hb); (try clear hb2); (try clear hk); (try clear hi)))
 (try simp only [Act.put, List.setIfInBounds_toArray, List.set_cons_zero, List.set_cons_succ])
 go_cut [5] (fun v5 wc => ∃ (kq : Nat) (x5_3 : List (S69)) (x1001_3 : Int) (x1002_3 : Int) (x1003_3 : Int) (x1004_3 : Int), z00 (z06.j0 PF kq x5_3 s0_0 x1001_3 x1002_3 x1003_3 x1004_3 = some (r1, r2, r3, r4, r5)) ∧ z00 (kq ≤ k) ∧ z00 (Kd.R k69 69 wc w.heap.size (fun _ => True) v5 x5_3) ∧ z00 (IsS95 w0 wc g s0_0 x1001_3 x1002_3 x1003_3 x1004_3) ∧ z00 (z08 w wc g none) ∧ z00 (Below w0.heap.size w0 wc))
 case first =>
  have H := HC4.out
  clear HC4
  by_cases c6 : t254 = true
  · subst c6
    have H1 : (if a1 = 32 then ((z0t.f s0_0 t255 t256 t257 t258).bind fun bt259 => ((z0i.f s0_0 bt259.2.1 bt259.2.2.1 bt259.2.2.2.1 bt259.2.2.2.2 3 bt259.1).bind fun bt264 => (some (([] : List (S69)), bt264.1, bt264.2.1, bt264.2.2.1, bt264.2.2.2)))) else ((PF k s0_0 (wrap64 (t255 + 1)) t256 t257 t258 (wrap64 (a1 + 1))).bind fun bt268 => ((z18.f s0_0 bt268.2.1 bt268.2.2.1 bt268.2.2.2.1 bt268.2.2.2.2 (⟨#[41]⟩ : ByteArray)).bind fun bt275 => (z06.j0 PF k bt268.1 s0_0 bt275.1 bt275.2.1 bt275.2.2.1 bt275.2.2.2)))) = some (r1, r2, r3, r4, r5) := by rw [if_pos rfl] at H; exact H
    clear H
    have H := H1
    clear H1
    by_cases c7 : a1 = 32
    · rw [if_pos c7] at H
      have c7b0 : (a1 == 32) = true := beq_iff_eq.mpr c7
      have c7b1 : (a1 != 32) = false := bne_eq_false_iff_eq.mpr c7
      clear c7
      (first | rw [c7b0] | (simp only [i64_w, i32_w]; rw [c7b0]) | skip)
      replace H := Option.bind_eq_some_iff.mp H
      obtain ⟨⟨t259, t260, t261, t262, t263⟩, A80, H⟩ := H
      replace H : ((z0i.f s0_0 t260 t261 t262 t263 3 t259).bind fun bt264 => (some (([] : List (S69)), bt264.1, bt264.2.1, bt264.2.2.1, bt264.2.2.2))) = some (r1, r2, r3, r4, r5) := H
      have A8 := z00.mk A80
      clear A80
      replace H := Option.bind_eq_some_iff.mp H
      obtain ⟨⟨t264, t265, t266, t267⟩, A90, H⟩ := H
      replace H : (some (([] : List (S69)), t264, t265, t266, t267)) = some (r1, r2, r3, r4, r5) := H
      have A9 := z00.mk A90
      clear A90
      simp only [Option.some.injEq, Prod.mk.injEq] at H
      obtain ⟨rfl, rfl, rfl, rfl, rfl⟩ := H
      go_wp2_with (first | ((with_reducible refine z0s (f := 59) rfl ?_); refine z1r (some 12) rfl rfl Tryz.func59 (by kernel_rfl) rfl #[.pointer (some ⟨g, 0, none⟩)] rfl (by (try simp only [List.map_toArray, List.map_cons, List.map_nil]); first | done | rfl | (simp only [List.length_drop, List.length_take]; rfl)) ?_; (with_reducible refine (z0t.calls g s0_0 t255 t256 t257 t258 t259 t260 t261 t262 t263 w0 _ ?side1 ?side2 A8.out).mono ?_); (case side1 => repeat (first | (with_reducible first | exact HI0.out | apply IsS95.alloc | apply IsS95.drewN | apply IsS95.drew | apply IsS95.set_1 | apply IsS95.set_2 | apply IsS95.set_3 | apply IsS95.set_4) | exact HI0.out)); (case side2 => repeat (first | (with_reducible first | exact HB.out | apply z04 | apply z01 | apply z05 | refine z07 ?_ (IsS95.ge HI0.out)) | exact HB.out)); rintro e w10 ⟨rfl, hi, hb, hk⟩; refine ⟨_, rfl, ?_⟩; have n0_ := z00.mk (z08.trans (by repeat (first | (with_reducible first | exact HK.out | apply z08.set_ | apply z0g | apply z0m | apply z0e) | exact HK.out)) hk (.inl rfl)); have n1_ := z00.mk (hb); have n2_ := z00.mk (hi); clear HK; clear HB; clear HI0; have HK := n0_; have HB := n1_; have HI0 := n2_; clear n0_ n1_ n2_; (try clear hb); (try clear hb2); (try clear hk); (try clear hi)) | ((with_reducible refine z0s (f := 58) rfl ?_); refine z1r (some 13) rfl rfl Tryz.func58 (by kernel_rfl) rfl #[.pointer (some ⟨g, 0, none⟩), .int .i64 3, .int .i64 t259] rfl (by (try simp only [List.map_toArray, List.map_cons, List.map_nil]); first | done | rfl | (simp only [List.length_drop, List.length_take]; rfl)) ?_; (with_reducible refine (z0i.calls g s0_0 t260 t261 t262 t263 3 t259 t264 t265 t266 t267 w0 _ ?side1 ?side2 A9.out).mono ?_); (case side1 => repeat (first | (with_reducible first | exact HI0.out | apply IsS95.alloc | apply IsS95.drewN | apply IsS95.drew | apply IsS95.set_1 | apply IsS95.set_2 | apply IsS95.set_3 | apply IsS95.set_4) | exact HI0.out)); (case side2 => repeat (first | (with_reducible first | exact HB.out | apply z04 | apply z01 | apply z05 | refine z07 ?_ (IsS95.ge HI0.out)) | exact HB.out)); rintro e w11 ⟨rfl, hi, hb, hk⟩; refine ⟨_, rfl, ?_⟩; have n0_ := z00.mk (z08.trans (by repeat (first | (with_reducible first | exact HK.out | apply z08.set_ | apply z0g | apply z0m | apply z0e) | exact HK.out)) hk (.inl rfl)); have n1_ := z00.mk (hb); have n2_ := z00.mk (hi); clear HK; clear HB; clear HI0; have HK := n0_; have HB := n1_; have HI0 := n2_; clear n0_ n1_ n2_; (try clear hb); (try clear hb2); (try clear hk); (try clear hi)))
      go_ret
      exact ⟨_, by first | rfl | (simp [z0n, z0o] <;> rfl) | (simp [*, z0n, z0o] <;> rfl), by first | exact Kd.R_nil _ _ _ _ _ | exact Kd.N_nil _ _ _ _ _ | exact Kd.V_nil _ _ _ _ _ | exact Kd.Q_nil _ _ _ _ _ | exact Kd.S_nil _ _ _ _ _, by repeat (first | (with_reducible first | exact HI0.out | apply IsS95.alloc | apply IsS95.drewN | apply IsS95.drew | apply IsS95.set_1 | apply IsS95.set_2 | apply IsS95.set_3 | apply IsS95.set_4) | exact HI0.out), by repeat (first | (with_reducible first | exact HB.out | apply z04 | apply z01 | apply z05 | refine z07 ?_ (IsS95.ge HI0.out)) | exact HB.out), by repeat (first | (with_reducible first | exact HK.out | apply z08.set_ | apply z0g | apply z0m | apply z0e) | exact HK.out)⟩
    · rw [if_neg c7] at H
      have c7b0 : (a1 == 32) = false := beq_eq_false_iff_ne.mpr c7
      have c7b1 : (a1 != 32) = true := bne_iff_ne.mpr c7
      (first | rw [c7b0] | (simp only [i64_w, i32_w]; rw [c7b0]) | skip)
      replace H := Option.bind_eq_some_iff.mp H
      obtain ⟨⟨t268, t271, t272, t273, t274⟩, A120, H⟩ := H
      replace H : ((z18.f s0_0 t271 t272 t273 t274 (⟨#[41]⟩ : ByteArray)).bind fun bt275 => (z06.j0 PF k t268 s0_0 bt275.1 bt275.2.1 bt275.2.2.1 bt275.2.2.2)) = some (r1, r2, r3, r4, r5) := H
      have A12 := z00.mk A120
      clear A120
      replace H := Option.bind_eq_some_iff.mp H
      obtain ⟨⟨t275, t276, t277, t278⟩, A130, H⟩ := H
      replace H : (z06.j0 PF k t268 s0_0 t275 t276 t277 t278) = some (r1, r2, r3, r4, r5) := H
      have A13 := z00.mk A130
      clear A130
      have H' := z00.mk H
      clear H
      obtain ⟨ASz14_0, cSz14_0, HGz14, hgz14, HSz14_0⟩ := HI0.out
      have hcz14_0 := z29 HGz14
      have hcz14_1 := z2a HGz14
      have hcz14_2 := z2b HGz14
      have hcz14_3 := z2d HGz14
      have hcz14_4 := z2c HGz14
      have hfz14_1 := z02 HGz14 1
      have hfz14_2 := z02 HGz14 2
      have hfz14_3 := z02 HGz14 3
      have hfz14_4 := z02 HGz14 4
      clear HGz14 hgz14
      go_wp2_with (first | ((with_reducible refine z0s (f := 105) rfl ?_); refine z1r (some 25) rfl rfl Tryz.func105 (by kernel_rfl) rfl #[.pointer (some ⟨g, 0, none⟩), .int .i64 (wrap64 (a1 + 1))] rfl (by (try simp only [List.map_toArray, List.map_cons, List.map_nil]); first | done | rfl | (simp only [List.length_drop, List.length_take]; rfl)) ?_; (with_reducible refine (HPF k g s0_0 (wrap64 (t255 + 1)) t256 t257 t258 (wrap64 (a1 + 1)) t268 t271 t272 t273 t274 w0 _ ?side1 ?side2 A12.out).mono ?_); (case side1 => repeat (first | (with_reducible first | exact HI0.out | apply IsS95.alloc | apply IsS95.drewN | apply IsS95.drew | apply IsS95.set_1 | apply IsS95.set_2 | apply IsS95.set_3 | apply IsS95.set_4) | exact HI0.out)); (case side2 => repeat (first | (with_reducible first | exact HB.out | apply z04 | apply z01 | apply z05 | refine z07 ?_ (IsS95.ge HI0.out)) | exact HB.out)); rintro e w15 ⟨v269, rfl, ho0, hi, hb, hk⟩; refine ⟨_, rfl, ?_⟩; have n0_ := z00.mk (Kd.R_lower ho0 (z35 (w := w) (g := g) (row := none) (by repeat (first | (with_reducible first | exact HK.out | apply z08.set_ | apply z0g | apply z0m | apply z0e) | exact HK.out)))); have n1_ := z00.mk (z08.trans (by repeat (first | (with_reducible first | exact HK.out | apply z08.set_ | apply z0g | apply z0m | apply z0e) | exact HK.out)) hk (.inl rfl)); have n2_ := z00.mk (hb); have n3_ := z00.mk (hi); clear HK; clear HB; clear HI0; have HO270 := n0_; have HK := n1_; have HB := n2_; have HI0 := n3_; clear n0_ n1_ n2_ n3_; (try clear hb); (try clear hb2); (try clear hk); (try clear hi); (try clear ho0)) | ((with_reducible refine z0s (f := 61) rfl ?_); refine z1r (some 27) rfl rfl Tryz.func61 (by kernel_rfl) rfl #[.pointer (some ⟨g, 0, none⟩), .string (⟨#[41]⟩ : ByteArray)] rfl (by (try simp only [List.map_toArray, List.map_cons, List.map_nil]); first | done | rfl | (simp only [List.length_drop, List.length_take]; rfl)) ?_; (with_reducible refine (z18.calls g s0_0 t271 t272 t273 t274 (⟨#[41]⟩ : ByteArray) t275 t276 t277 t278 w0 _ ?side1 ?side2 A13.out).mono ?_); (case side1 => repeat (first | (with_reducible first | exact HI0.out | apply IsS95.alloc | apply IsS95.drewN | apply IsS95.drew | apply IsS95.set_1 | apply IsS95.set_2 | apply IsS95.set_3 | apply IsS95.set_4) | exact HI0.out)); (case side2 => repeat (first | (with_reducible first | exact HB.out | apply z04 | apply z01 | apply z05 | refine z07 ?_ (IsS95.ge HI0.out)) | exact HB.out)); rintro e w16 ⟨rfl, hi, hb, hk⟩; refine ⟨_, rfl, ?_⟩; have n0_ := z00.mk (Kd.R_mono (Kd.R_keep (IsS95.apart (show IsS95 w0 _ g s0_0 t271 t272 t273 t274 from by repeat (first | (with_reducible first | exact HI0.out | apply IsS95.alloc | apply IsS95.drewN | apply IsS95.drew | apply IsS95.set_1 | apply IsS95.set_2 | apply IsS95.set_3 | apply IsS95.set_4) | exact HI0.out)) (by (with_reducible repeat (first | apply Kd.R_alloc | apply Kd.R_drewN | apply Kd.R_drew)); exact HO270.out) (by decide)) hk (fun _ h => h.2)) (fun _ h => h.1)); have n1_ := z00.mk (z08.trans (by repeat (first | (with_reducible first | exact HK.out | apply z08.set_ | apply z0g | apply z0m | apply z0e) | exact HK.out)) hk (.inl rfl)); have n2_ := z00.mk (hb); have n3_ := z00.mk (hi); clear HO270; clear HK; clear HB; clear HI0; have HO270 := n0_; have HK := n1_; have HB := n2_; have HI0 := n3_; clear n0_ n1_ n2_ n3_; (try clear hb); (try clear hb2); (try clear hk); (try clear hi)))
      go_meet
      case rel => exact ⟨_, (t268), (t275), (t276), (t277), (t278), H', ⟨by first | omega | exact Nat.le_refl _⟩, ⟨by (with_reducible repeat (first | apply Kd.R_alloc | apply Kd.R_drewN | apply Kd.R_drew)); exact HO270.out⟩, ⟨by repeat (first | (with_reducible first | exact HI0.out | apply IsS95.alloc | apply IsS95.drewN | apply IsS95.drew | apply IsS95.set_1 | apply IsS95.set_2 | apply IsS95.set_3 | apply IsS95.set_4) | exact HI0.out)⟩, ⟨by repeat (first | (with_reducible first | exact HK.out | apply z08.set_ | apply z0g | apply z0m | apply z0e) | exact HK.out)⟩, ⟨by repeat (first | (with_reducible first | exact HB.out | apply z04 | apply z01 | apply z05 | refine z07 ?_ (IsS95.ge HI0.out)) | exact HB.out)⟩⟩
  · replace c6 := Bool.eq_false_iff.mpr c6
    subst c6
    have H1 : ((z0c.f s0_0 t255 t256 t257 t258 0 4 (⟨#[94]⟩ : ByteArray)).bind fun bt279 => (if bt279.1 = true then ((z0b.f k s0_0 (wrap64 (bt279.2.1 + 1)) bt279.2.2.1 bt279.2.2.2.1 bt279.2.2.2.2).bind fun bt284 => (z06.j0 PF k (([(⟨2, bt284.1⟩ : S69)] : List (S69))) s0_0 bt284.2.1 bt284.2.2.1 bt284.2.2.2.1 bt284.2.2.2.2)) else ((z0b.f k s0_0 bt279.2.1 bt279.2.2.1 bt279.2.2.2.1 bt279.2.2.2.2).bind fun bt292 => (z06.j0 PF k (([(⟨1, bt292.1⟩ : S69)] : List (S69))) s0_0 bt292.2.1 bt292.2.2.1 bt292.2.2.2.1 bt292.2.2.2.2)))) = some (r1, r2, r3, r4, r5) := by rw [if_neg (show ¬ (false = true) by decide)] at H; exact H
    clear H
    have H := H1
    clear H1
    replace H := Option.bind_eq_some_iff.mp H
    obtain ⟨⟨t279, t280, t281, t282, t283⟩, A170, H⟩ := H
    replace H : (if t279 = true then ((z0b.f k s0_0 (wrap64 (t280 + 1)) t281 t282 t283).bind fun bt284 => (z06.j0 PF k (([(⟨2, bt284.1⟩ : S69)] : List (S69))) s0_0 bt284.2.1 bt284.2.2.1 bt284.2.2.2.1 bt284.2.2.2.2)) else ((z0b.f k s0_0 t280 t281 t282 t283).bind fun bt292 => (z06.j0 PF k (([(⟨1, bt292.1⟩ : S69)] : List (S69))) s0_0 bt292.2.1 bt292.2.2.1 bt292.2.2.2.1 bt292.2.2.2.2))) = some (r1, r2, r3, r4, r5) := H
    have A17 := z00.mk A170
    clear A170
    by_cases c18 : t279 = true
    · subst c18
      have H1 : ((z0b.f k s0_0 (wrap64 (t280 + 1)) t281 t282 t283).bind fun bt284 => (z06.j0 PF k (([(⟨2, bt284.1⟩ : S69)] : List (S69))) s0_0 bt284.2.1 bt284.2.2.1 bt284.2.2.2.1 bt284.2.2.2.2)) = some (r1, r2, r3, r4, r5) := by rw [if_pos rfl] at H; exact H
      clear H
      have H := H1
      clear H1
      replace H := Option.bind_eq_some_iff.mp H
      obtain ⟨⟨t284, t285, t286, t287, t288⟩, A190, H⟩ := H
      replace H : (z06.j0 PF k (([(⟨2, t284⟩ : S69)] : List (S69))) s0_0 t285 t286 t287 t288) = some (r1, r2, r3, r4, r5) := H
      have A19 := z00.mk A190
      clear A190
      obtain ⟨y289, hy289⟩ : ∃ y_ : List (S69), y_ = (([(⟨2, t284⟩ : S69)] : List (S69))) := ⟨_, rfl⟩
      replace H : (z06.j0 PF k y289 s0_0 t285 t286 t287 t288) = some (r1, r2, r3, r4, r5) := by first | (rw [hy289]; with_reducible exact H) | (have H2_ := (Option.bind_some _ _).symm.trans H; rw [hy289]; with_reducible exact H2_) | (have H2_ := (Option.bind_some _ _).symm.trans H; with_reducible exact H2_) | with_reducible exact H | (rw [hy289]; exact H) | exact H
      have Ny289 := z00.mk hy289
      clear hy289
      have H' := z00.mk H
      clear H
      go_wp2_with (first | ((with_reducible refine z0s (f := 55) rfl ?_); refine z1r (some 29) rfl rfl Tryz.func55 (by kernel_rfl) rfl #[.pointer (some ⟨g, 0, none⟩), .int .i64 0, .int .i64 4, .string (⟨#[94]⟩ : ByteArray)] rfl (by (try simp only [List.map_toArray, List.map_cons, List.map_nil]); first | done | rfl | (simp only [List.length_drop, List.length_take]; rfl)) ?_; (with_reducible refine (z0c.calls g s0_0 t255 t256 t257 t258 0 4 (⟨#[94]⟩ : ByteArray) true t280 t281 t282 t283 w0 _ ?side1 ?side2 A17.out).mono ?_); (case side1 => repeat (first | (with_reducible first | exact HI0.out | apply IsS95.alloc | apply IsS95.drewN | apply IsS95.drew | apply IsS95.set_1 | apply IsS95.set_2 | apply IsS95.set_3 | apply IsS95.set_4) | exact HI0.out)); (case side2 => repeat (first | (with_reducible first | exact HB.out | apply z04 | apply z01 | apply z05 | refine z07 ?_ (IsS95.ge HI0.out)) | exact HB.out)); rintro e w20 ⟨rfl, hi, hb, hk⟩; refine ⟨_, rfl, ?_⟩; have n0_ := z00.mk (z08.trans (by repeat (first | (with_reducible first | exact HK.out | apply z08.set_ | apply z0g | apply z0m | apply z0e) | exact HK.out)) hk (.inl rfl)); have n1_ := z00.mk (hb); have n2_ := z00.mk (hi); clear HK; clear HB; clear HI0; have HK := n0_; have HB := n1_; have HI0 := n2_; clear n0_ n1_ n2_; (try clear hb); (try clear hb2); (try clear hk); (try clear hi); obtain ⟨ASz21_0, cSz21_0, HGz21, hgz21, HSz21_0⟩ := HI0.out; have hcz21_0 := z29 HGz21; have hcz21_1 := z2a HGz21; have hcz21_2 := z2b HGz21; have hcz21_3 := z2d HGz21; have hcz21_4 := z2c HGz21; have hfz21_1 := z02 HGz21 1; have hfz21_2 := z02 HGz21 2; have hfz21_3 := z02 HGz21 3; have hfz21_4 := z02 HGz21 4; clear HGz21 hgz21) | ((with_reducible refine z0s (f := 91) rfl ?_); refine z1r (some 39) rfl rfl Tryz.func91 (by kernel_rfl) rfl #[.pointer (some ⟨g, 0, none⟩)] rfl (by (try simp only [List.map_toArray, List.map_cons, List.map_nil]); first | done | rfl | (simp only [List.length_drop, List.length_take]; rfl)) ?_; (with_reducible refine (z0b.calls k g s0_0 (wrap64 (t280 + 1)) t281 t282 t283 t284 t285 t286 t287 t288 w0 _ ?side1 ?side2 A19.out).mono ?_); (case side1 => repeat (first | (with_reducible first | exact HI0.out | apply IsS95.alloc | apply IsS95.drewN | apply IsS95.drew | apply IsS95.set_1 | apply IsS95.set_2 | apply IsS95.set_3 | apply IsS95.set_4) | exact HI0.out)); (case side2 => repeat (first | (with_reducible first | exact HB.out | apply z04 | apply z01 | apply z05 | refine z07 ?_ (IsS95.ge HI0.out)) | exact HB.out)); rintro e w22 ⟨rfl, hi, hb, hk⟩; refine ⟨_, rfl, ?_⟩; have n0_ := z00.mk (z08.trans (by repeat (first | (with_reducible first | exact HK.out | apply z08.set_ | apply z0g | apply z0m | apply z0e) | exact HK.out)) hk (.inl rfl)); have n1_ := z00.mk (hb); have n2_ := z00.mk (hi); clear HK; clear HB; clear HI0; have HK := n0_; have HB := n1_; have HI0 := n2_; clear n0_ n1_ n2_; (try clear hb); (try clear hb2); (try clear hk); (try clear hi)) | ((with_reducible refine z2e (N := 41) rfl ?_); refine Kd.R_lit k69 _ 69 ?hg (N := 41) ?hd (xs := ([(⟨2, t284⟩ : S69)] : List (S69))) (inner := [.int .i64 2, .string t284]) (ok := fun _ => True) (okp := fun _ => True) ?hr ?hp (fun _ hk => hk) trivial (Below.refl _ _) (Nat.le_refl _) (by simp) ?_; (case hd => rfl); (case hg => rfl); (case hr => first | (go_simp; done) | (go_simp; rfl)); (case hp => exact (Reps.c2 (show Kd.M k69 _ _ _ (⟨2, t284⟩ : S69) [.int .i64 2, .string t284] from (z3e _ _ _ (⟨2, t284⟩ : S69) )) (Reps.none _ _))); intro v290 w23 ho24 hb hg_ hnew_; clear hg_ hnew_; (first | rw [← Ny289.out] at ho24 | (simp only [Int.reduceToNat] at ho24; rw [← Ny289.out] at ho24)); have n0_ := z00.mk (Kd.R_lower ho24 (z35 (w := w) (g := g) (row := none) (by repeat (first | (with_reducible first | exact HK.out | apply z08.set_ | apply z0g | apply z0m | apply z0e) | exact HK.out)))); have n1_ := z00.mk (IsS95.below (by repeat (first | (with_reducible first | exact HI0.out | apply IsS95.alloc | apply IsS95.drewN | apply IsS95.drew | apply IsS95.set_1 | apply IsS95.set_2 | apply IsS95.set_3 | apply IsS95.set_4) | exact HI0.out)) hb); have n2_ := z00.mk (z08.trans (by repeat (first | (with_reducible first | exact HK.out | apply z08.set_ | apply z0g | apply z0m | apply z0e) | exact HK.out)) (z08.of_below hb g none) (.inl rfl)); have n3_ := z00.mk (z0z (by repeat (first | (with_reducible first | exact HB.out | apply z04 | apply z01 | apply z05 | refine z07 ?_ (IsS95.ge HI0.out)) | exact HB.out)) hb); clear HI0; clear HK; clear HB; have HO291 := n0_; have HI0 := n1_; have HK := n2_; have HB := n3_; clear n0_ n1_ n2_ n3_; clear hb ho24))
      go_meet
      case rel => exact ⟨_, (y289), (t285), (t286), (t287), (t288), H', ⟨by first | omega | exact Nat.le_refl _⟩, ⟨by (with_reducible repeat (first | apply Kd.R_alloc | apply Kd.R_drewN | apply Kd.R_drew)); exact HO291.out⟩, ⟨by repeat (first | (with_reducible first | exact HI0.out | apply IsS95.alloc | apply IsS95.drewN | apply IsS95.drew | apply IsS95.set_1 | apply IsS95.set_2 | apply IsS95.set_3 | apply IsS95.set_4) | exact HI0.out)⟩, ⟨by repeat (first | (with_reducible first | exact HK.out | apply z08.set_ | apply z0g | apply z0m | apply z0e) | exact HK.out)⟩, ⟨by repeat (first | (with_reducible first | exact HB.out | apply z04 | apply z01 | apply z05 | refine z07 ?_ (IsS95.ge HI0.out)) | exact HB.out)⟩⟩
    · replace c18 := Bool.eq_false_iff.mpr c18
      subst c18
      have H1 : ((z0b.f k s0_0 t280 t281 t282 t283).bind fun bt292 => (z06.j0 PF k (([(⟨1, bt292.1⟩ : S69)] : List (S69))) s0_0 bt292.2.1 bt292.2.2.1 bt292.2.2.2.1 bt292.2.2.2.2)) = some (r1, r2, r3, r4, r5) := by rw [if_neg (show ¬ (false = true) by decide)] at H; exact H
      clear H
      have H := H1
      clear H1
      replace H := Option.bind_eq_some_iff.mp H
      obtain ⟨⟨t292, t293, t294, t295, t296⟩, A250, H⟩ := H
      replace H : (z06.j0 PF k (([(⟨1, t292⟩ : S69)] : List (S69))) s0_0 t293 t294 t295 t296) = some (r1, r2, r3, r4, r5) := H
      have A25 := z00.mk A250
      clear A250
      obtain ⟨y297, hy297⟩ : ∃ y_ : List (S69), y_ = (([(⟨1, t292⟩ : S69)] : List (S69))) := ⟨_, rfl⟩
      replace H : (z06.j0 PF k y297 s0_0 t293 t294 t295 t296) = some (r1, r2, r3, r4, r5) := by first | (rw [hy297]; with_reducible exact H) | (have H2_ := (Option.bind_some _ _).symm.trans H; rw [hy297]; with_reducible exact H2_) | (have H2_ := (Option.bind_some _ _).symm.trans H; with_reducible exact H2_) | with_reducible exact H | (rw [hy297]; exact H) | exact H
      have Ny297 := z00.mk hy297
      clear hy297
      have H' := z00.mk H
      clear H
      go_wp2_with (first | ((with_reducible refine z0s (f := 55) rfl ?_); refine z1r (some 29) rfl rfl Tryz.func55 (by kernel_rfl) rfl #[.pointer (some ⟨g, 0, none⟩), .int .i64 0, .int .i64 4, .string (⟨#[94]⟩ : ByteArray)] rfl (by (try simp only [List.map_toArray, List.map_cons, List.map_nil]); first | done | rfl | (simp only [List.length_drop, List.length_take]; rfl)) ?_; (with_reducible refine (z0c.calls g s0_0 t255 t256 t257 t258 0 4 (⟨#[94]⟩ : ByteArray) false t280 t281 t282 t283 w0 _ ?side1 ?side2 A17.out).mono ?_); (case side1 => repeat (first | (with_reducible first | exact HI0.out | apply IsS95.alloc | apply IsS95.drewN | apply IsS95.drew | apply IsS95.set_1 | apply IsS95.set_2 | apply IsS95.set_3 | apply IsS95.set_4) | exact HI0.out)); (case side2 => repeat (first | (with_reducible first | exact HB.out | apply z04 | apply z01 | apply z05 | refine z07 ?_ (IsS95.ge HI0.out)) | exact HB.out)); rintro e w26 ⟨rfl, hi, hb, hk⟩; refine ⟨_, rfl, ?_⟩; have n0_ := z00.mk (z08.trans (by repeat (first | (with_reducible first | exact HK.out | apply z08.set_ | apply z0g | apply z0m | apply z0e) | exact HK.out)) hk (.inl rfl)); have n1_ := z00.mk (hb); have n2_ := z00.mk (hi); clear HK; clear HB; clear HI0; have HK := n0_; have HB := n1_; have HI0 := n2_; clear n0_ n1_ n2_; (try clear hb); (try clear hb2); (try clear hk); (try clear hi)) | ((with_reducible refine z0s (f := 91) rfl ?_); refine z1r (some 43) rfl rfl Tryz.func91 (by kernel_rfl) rfl #[.pointer (some ⟨g, 0, none⟩)] rfl (by (try simp only [List.map_toArray, List.map_cons, List.map_nil]); first | done | rfl | (simp only [List.length_drop, List.length_take]; rfl)) ?_; (with_reducible refine (z0b.calls k g s0_0 t280 t281 t282 t283 t292 t293 t294 t295 t296 w0 _ ?side1 ?side2 A25.out).mono ?_); (case side1 => repeat (first | (with_reducible first | exact HI0.out | apply IsS95.alloc | apply IsS95.drewN | apply IsS95.drew | apply IsS95.set_1 | apply IsS95.set_2 | apply IsS95.set_3 | apply IsS95.set_4) | exact HI0.out)); (case side2 => repeat (first | (with_reducible first | exact HB.out | apply z04 | apply z01 | apply z05 | refine z07 ?_ (IsS95.ge HI0.out)) | exact HB.out)); rintro e w27 ⟨rfl, hi, hb, hk⟩; refine ⟨_, rfl, ?_⟩; have n0_ := z00.mk (z08.trans (by repeat (first | (with_reducible first | exact HK.out | apply z08.set_ | apply z0g | apply z0m | apply z0e) | exact HK.out)) hk (.inl rfl)); have n1_ := z00.mk (hb); have n2_ := z00.mk (hi); clear HK; clear HB; clear HI0; have HK := n0_; have HB := n1_; have HI0 := n2_; clear n0_ n1_ n2_; (try clear hb); (try clear hb2); (try clear hk); (try clear hi)) | ((with_reducible refine z2e (N := 45) rfl ?_); refine Kd.R_lit k69 _ 69 ?hg (N := 45) ?hd (xs := ([(⟨1, t292⟩ : S69)] : List (S69))) (inner := [.int .i64 1, .string t292]) (ok := fun _ => True) (okp := fun _ => True) ?hr ?hp (fun _ hk => hk) trivial (Below.refl _ _) (Nat.le_refl _) (by simp) ?_; (case hd => rfl); (case hg => rfl); (case hr => first | (go_simp; done) | (go_simp; rfl)); (case hp => exact (Reps.c2 (show Kd.M k69 _ _ _ (⟨1, t292⟩ : S69) [.int .i64 1, .string t292] from (z3e _ _ _ (⟨1, t292⟩ : S69) )) (Reps.none _ _))); intro v298 w28 ho29 hb hg_ hnew_; clear hg_ hnew_; (first | rw [← Ny297.out] at ho29 | (simp only [Int.reduceToNat] at ho29; rw [← Ny297.out] at ho29)); have n0_ := z00.mk (Kd.R_lower ho29 (z35 (w := w) (g := g) (row := none) (by repeat (first | (with_reducible first | exact HK.out | apply z08.set_ | apply z0g | apply z0m | apply z0e) | exact HK.out)))); have n1_ := z00.mk (IsS95.below (by repeat (first | (with_reducible first | exact HI0.out | apply IsS95.alloc | apply IsS95.drewN | apply IsS95.drew | apply IsS95.set_1 | apply IsS95.set_2 | apply IsS95.set_3 | apply IsS95.set_4) | exact HI0.out)) hb); have n2_ := z00.mk (z08.trans (by repeat (first | (with_reducible first | exact HK.out | apply z08.set_ | apply z0g | apply z0m | apply z0e) | exact HK.out)) (z08.of_below hb g none) (.inl rfl)); have n3_ := z00.mk (z0z (by repeat (first | (with_reducible first | exact HB.out | apply z04 | apply z01 | apply z05 | refine z07 ?_ (IsS95.ge HI0.out)) | exact HB.out)) hb); clear HI0; clear HK; clear HB; have HO299 := n0_; have HI0 := n1_; have HK := n2_; have HB := n3_; clear n0_ n1_ n2_ n3_; clear hb ho29))
      go_meet
      case rel => exact ⟨_, (y297), (t293), (t294), (t295), (t296), H', ⟨by first | omega | exact Nat.le_refl _⟩, ⟨by (with_reducible repeat (first | apply Kd.R_alloc | apply Kd.R_drewN | apply Kd.R_drew)); exact HO299.out⟩, ⟨by repeat (first | (with_reducible first | exact HI0.out | apply IsS95.alloc | apply IsS95.drewN | apply IsS95.drew | apply IsS95.set_1 | apply IsS95.set_2 | apply IsS95.set_3 | apply IsS95.set_4) | exact HI0.out)⟩, ⟨by repeat (first | (with_reducible first | exact HK.out | apply z08.set_ | apply z0g | apply z0m | apply z0e) | exact HK.out)⟩, ⟨by repeat (first | (with_reducible first | exact HB.out | apply z04 | apply z01 | apply z05 | refine z07 ?_ (IsS95.ge HI0.out)) | exact HB.out)⟩⟩
 case rest =>
  clear HC4
  try clear c1
  try clear c2
  try clear p2
  try clear c5
  try clear c6
  try clear p6
  try clear c7
  try clear c7b0
  try clear c7b1
  try clear c9
  try clear c10
  try clear c15
  try clear c18
  try clear hcz14_0
  try clear hcz14_1
  try clear hcz14_2
  try clear hcz14_3
  try clear hcz14_4
  try clear hcz21_0
  try clear hcz21_1
  try clear hcz21_2
  try clear hcz21_3
  try clear hcz21_4
  try clear hfz14_1
  try clear hfz14_2
  try clear hfz14_3
  try clear hfz14_4
  try clear hfz21_1
  try clear hfz21_2
  try clear hfz21_3
  try clear hfz21_4
  obtain ⟨kq, x5_3, x1001_3, x1002_3, x1003_3, x1004_3, HA, HJ3, HO_5, HI0, HK, HB⟩ := hcut
  cases kq with
  | zero => exact absurd HA.out (by simp [z06.j0])
  | succ kj3 =>
   have H := HA.out
   clear HA
   simp only [z06.j0] at H
   have H' := z00.mk H
   clear H
   go_wp2
   go_loopg [5] kj3 (fun kq v5 w' => ∃ (x5_2 : List (S69)) (x1001_2 : Int) (x1002_2 : Int) (x1003_2 : Int) (x1004_2 : Int), z00 (z06.l0 PF kq x5_2 s0_0 x1001_2 x1002_2 x1003_2 x1004_2 = some (r1, r2, r3, r4, r5)) ∧ z00 (kq ≤ kj3) ∧ z00 (Kd.R k69 69 w' w.heap.size (fun _ => True) v5 x5_2) ∧ z00 (IsS95 w0 w' g s0_0 x1001_2 x1002_2 x1003_2 x1004_2) ∧ z00 (z08 w w' g none) ∧ z00 (Below w0.heap.size w0 w'))
   case atStart => exact ⟨(x5_3), (x1001_3), (x1002_3), (x1003_3), (x1004_3), H', ⟨Nat.le_refl _⟩, ⟨by (with_reducible repeat (first | apply Kd.R_alloc | apply Kd.R_drewN | apply Kd.R_drew)); exact HO_5.out⟩, ⟨by repeat (first | (with_reducible first | exact HI0.out | apply IsS95.alloc | apply IsS95.drewN | apply IsS95.drew | apply IsS95.set_1 | apply IsS95.set_2 | apply IsS95.set_3 | apply IsS95.set_4) | exact HI0.out)⟩, ⟨by repeat (first | (with_reducible first | exact HK.out | apply z08.set_ | apply z0g | apply z0m | apply z0e) | exact HK.out)⟩, ⟨by repeat (first | (with_reducible first | exact HB.out | apply z04 | apply z01 | apply z05 | refine z07 ?_ (IsS95.ge HI0.out)) | exact HB.out)⟩⟩
   case round =>
    clear H'
    try clear c1
    try clear c2
    try clear p2
    try clear c5
    try clear c6
    try clear p6
    try clear c7
    try clear c7b0
    try clear c7b1
    try clear c9
    try clear c10
    try clear c15
    try clear c18
    try clear hcz14_0
    try clear hcz14_1
    try clear hcz14_2
    try clear hcz14_3
    try clear hcz14_4
    try clear hcz21_0
    try clear hcz21_1
    try clear hcz21_2
    try clear hcz21_3
    try clear hcz21_4
    try clear hfz14_1
    try clear hfz14_2
    try clear hfz14_3
    try clear hfz14_4
    try clear hfz21_1
    try clear hfz21_2
    try clear hfz21_3
    try clear hfz21_4
    try clear p2
    try clear p6
    obtain ⟨x5_2, x1001_2, x1002_2, x1003_2, x1004_2, HA, HK2, HO_5, HI0, HK, HB⟩ := hrel
    cases gk with
    | zero => exact absurd HA.out (by simp [z06.l0])
    | succ k2 =>
     have H := HA.out
     clear HA
     simp only [z06.l0] at H
     by_cases c30 : x1003_2 = 0
     · rw [if_pos c30] at H
       have c30b0 : (x1003_2 == 0) = true := beq_iff_eq.mpr c30
       have c30b1 : (x1003_2 != 0) = false := bne_eq_false_iff_eq.mpr c30
       clear c30
       replace H := Option.bind_eq_some_iff.mp H
       obtain ⟨⟨t300, t301, t302, t303, t304⟩, A310, H⟩ := H
       replace H : (if t300 = true then (if x5_2.length < 5864062014805 then (z06.l0 PF k2 (x5_2 ++ [(⟨5, (⟨#[]⟩ : ByteArray)⟩ : S69)]) s0_0 (wrap64 (t301 + 1)) t302 t303 t304) else (none)) else ((z0c.f s0_0 t301 t302 t303 t304 0 4 (⟨#[43]⟩ : ByteArray)).bind fun bt308 => (if bt308.1 = true then (if x5_2.length < 5864062014805 then (z06.l0 PF k2 (x5_2 ++ [(⟨6, (⟨#[]⟩ : ByteArray)⟩ : S69)]) s0_0 (wrap64 (bt308.2.1 + 1)) bt308.2.2.1 bt308.2.2.2.1 bt308.2.2.2.2) else (none)) else ((z0c.f s0_0 bt308.2.1 bt308.2.2.1 bt308.2.2.2.1 bt308.2.2.2.2 0 4 (⟨#[63]⟩ : ByteArray)).bind fun bt316 => (if bt316.1 = true then (if x5_2.length < 5864062014805 then (z06.l0 PF k2 (x5_2 ++ [(⟨7, (⟨#[]⟩ : ByteArray)⟩ : S69)]) s0_0 (wrap64 (bt316.2.1 + 1)) bt316.2.2.1 bt316.2.2.2.1 bt316.2.2.2.2) else (none)) else (some (x5_2, bt316.2.1, bt316.2.2.1, bt316.2.2.2.1, bt316.2.2.2.2))))))) = some (r1, r2, r3, r4, r5) := H
       have A31 := z00.mk A310
       clear A310
       by_cases c32 : t300 = true
       · subst c32
         have H1 : (if x5_2.length < 5864062014805 then (z06.l0 PF k2 (x5_2 ++ [(⟨5, (⟨#[]⟩ : ByteArray)⟩ : S69)]) s0_0 (wrap64 (t301 + 1)) t302 t303 t304) else (none)) = some (r1, r2, r3, r4, r5) := by rw [if_pos rfl] at H; exact H
         clear H
         have H := H1
         clear H1
         by_cases c33 : x5_2.length < 5864062014805
         · rw [if_pos c33] at H
           have LMc33 := z00.mk c33
           clear c33
           obtain ⟨y305, hy305⟩ : ∃ y_ : List (S69), y_ = (x5_2 ++ [(⟨5, (⟨#[]⟩ : ByteArray)⟩ : S69)]) := ⟨_, rfl⟩
           replace H : (z06.l0 PF k2 y305 s0_0 (wrap64 (t301 + 1)) t302 t303 t304) = some (r1, r2, r3, r4, r5) := by first | (rw [hy305]; with_reducible exact H) | (have H2_ := (Option.bind_some _ _).symm.trans H; rw [hy305]; with_reducible exact H2_) | (have H2_ := (Option.bind_some _ _).symm.trans H; with_reducible exact H2_) | with_reducible exact H | (rw [hy305]; exact H) | exact H
           have Ny305 := z00.mk hy305
           clear hy305
           have H' := z00.mk H
           clear H
           obtain ⟨ASz34_0, cSz34_0, HGz34, hgz34, HSz34_0⟩ := HI0.out
           have hcz34_0 := z29 HGz34
           have hcz34_1 := z2a HGz34
           have hcz34_2 := z2b HGz34
           have hcz34_3 := z2d HGz34
           have hcz34_4 := z2c HGz34
           have hfz34_1 := z02 HGz34 1
           have hfz34_2 := z02 HGz34 2
           have hfz34_3 := z02 HGz34 3
           have hfz34_4 := z02 HGz34 4
           clear HGz34 hgz34
           go_wp2_with (first | ((with_reducible refine z0s (f := 55) rfl ?_); refine z1r (some 52) rfl rfl Tryz.func55 (by kernel_rfl) rfl #[.pointer (some ⟨g, 0, none⟩), .int .i64 0, .int .i64 4, .string (⟨#[42]⟩ : ByteArray)] rfl (by (try simp only [List.map_toArray, List.map_cons, List.map_nil]); first | done | rfl | (simp only [List.length_drop, List.length_take]; rfl)) ?_; (with_reducible refine (z0c.calls g s0_0 x1001_2 x1002_2 x1003_2 x1004_2 0 4 (⟨#[42]⟩ : ByteArray) true t301 t302 t303 t304 w0 _ ?side1 ?side2 A31.out).mono ?_); (case side1 => repeat (first | (with_reducible first | exact HI0.out | apply IsS95.alloc | apply IsS95.drewN | apply IsS95.drew | apply IsS95.set_1 | apply IsS95.set_2 | apply IsS95.set_3 | apply IsS95.set_4) | exact HI0.out)); (case side2 => repeat (first | (with_reducible first | exact HB.out | apply z04 | apply z01 | apply z05 | refine z07 ?_ (IsS95.ge HI0.out)) | exact HB.out)); rintro e w35 ⟨rfl, hi, hb, hk⟩; refine ⟨_, rfl, ?_⟩; have n0_ := z00.mk (Kd.R_mono (Kd.R_keep (IsS95.apart (show IsS95 w0 _ g s0_0 x1001_2 x1002_2 x1003_2 x1004_2 from by repeat (first | (with_reducible first | exact HI0.out | apply IsS95.alloc | apply IsS95.drewN | apply IsS95.drew | apply IsS95.set_1 | apply IsS95.set_2 | apply IsS95.set_3 | apply IsS95.set_4) | exact HI0.out)) (by (with_reducible repeat (first | apply Kd.R_alloc | apply Kd.R_drewN | apply Kd.R_drew)); exact HO_5.out) (by decide)) hk (fun _ h => h.2)) (fun _ h => h.1)); have n1_ := z00.mk (z08.trans (by repeat (first | (with_reducible first | exact HK.out | apply z08.set_ | apply z0g | apply z0m | apply z0e) | exact HK.out)) hk (.inl rfl)); have n2_ := z00.mk (hb); have n3_ := z00.mk (hi); clear HO_5; clear HK; clear HB; clear HI0; have HO_5 := n0_; have HK := n1_; have HB := n2_; have HI0 := n3_; clear n0_ n1_ n2_ n3_; (try clear hb); (try clear hb2); (try clear hk); (try clear hi)) | ((with_reducible refine z1s (b := .append) (xs := #[.tmp 53, .tmp 55]) rfl ?_); at_builtin; refine Kd.R_append k69 w.heap.size rfl (.tmp 53) (.tmp 55) 37 69 (.agg #[(.int .i64 0), (.string ⟨#[]⟩)]) 24 rfl Tryz.underlying37 z9g rfl (by decide) (by omega) u5 x5_2 (⟨5, (⟨#[]⟩ : ByteArray)⟩ : S69) [.int .i64 5, .string (⟨#[]⟩ : ByteArray)] (fun _ => True) (fun _ => False) rfl rfl ?aP (fun _ hk => hk.elim) ?aF ?aO (Below.refl _ _) ?aS ?aL ?_; (case aP => exact z3e _ _ _ (⟨5, (⟨#[]⟩ : ByteArray)⟩ : S69)); (case aF => exact (fun _ _ => trivial)); (case aO => exact (by (with_reducible repeat (first | apply Kd.R_alloc | apply Kd.R_drewN | apply Kd.R_drew)); exact HO_5.out)); (case aS => exact (z35 (w := w) (g := g) (row := none) (by repeat (first | (with_reducible first | exact HK.out | apply z08.set_ | apply z0g | apply z0m | apply z0e) | exact HK.out)))); (case aL => have := LMc33.out; omega); intro v306 w36 ho hb hg hat; rw [← Ny305.out] at ho; have n0_ := z00.mk (IsS95.grown (by repeat (first | (with_reducible first | exact HI0.out | apply IsS95.alloc | apply IsS95.drewN | apply IsS95.drew | apply IsS95.set_1 | apply IsS95.set_2 | apply IsS95.set_3 | apply IsS95.set_4) | exact HI0.out)) hg (IsS95.own_ne HI0.out HO_5.out (by decide))); have n1_ := z00.mk (z2t (by repeat (first | (with_reducible first | exact HB.out | apply z04 | apply z01 | apply z05 | refine z07 ?_ (IsS95.ge HI0.out)) | exact HB.out)) HL.out hb); have n2_ := z00.mk (z08.trans (by repeat (first | (with_reducible first | exact HK.out | apply z08.set_ | apply z0g | apply z0m | apply z0e) | exact HK.out)) (z08.of_grown hg g) (Kd.R_base2 HO_5.out)); have n3_ := z00.mk (ho); clear HI0; clear HB; clear HK; clear HO_5; have HI0 := n0_; have HB := n1_; have HK := n2_; have HO307 := n3_; clear n0_ n1_ n2_ n3_; clear ho hb hg hat; obtain ⟨ASz37_0, cSz37_0, HGz37, hgz37, HSz37_0⟩ := HI0.out; have hcz37_0 := z29 HGz37; have hcz37_1 := z2a HGz37; have hcz37_2 := z2b HGz37; have hcz37_3 := z2d HGz37; have hcz37_4 := z2c HGz37; have hfz37_1 := z02 HGz37 1; have hfz37_2 := z02 HGz37 2; have hfz37_3 := z02 HGz37 3; have hfz37_4 := z02 HGz37 4; clear HGz37 hgz37))
           go_roundg k2
           case measure => have := HJ3.out; have := HK2.out; omega
           case rel => exact ⟨(y305), (wrap64 (t301 + 1)), (t302), (t303), (t304), H', ⟨by have := HJ3.out; have := HK2.out; omega⟩, ⟨by (with_reducible repeat (first | apply Kd.R_alloc | apply Kd.R_drewN | apply Kd.R_drew)); exact Kd.R_mono (Kd.R_far (p := ⟨g, 1, none⟩) (IsS95.apart HI0.out HO307.out (by decide)) (fun _ hk => hk.2) (.int .i64 (wrap64 (t301 + 1)))) (fun _ hk => trivial)⟩, ⟨by repeat (first | (with_reducible first | exact HI0.out | apply IsS95.alloc | apply IsS95.drewN | apply IsS95.drew | apply IsS95.set_1 | apply IsS95.set_2 | apply IsS95.set_3 | apply IsS95.set_4) | exact HI0.out)⟩, ⟨by repeat (first | (with_reducible first | exact HK.out | apply z08.set_ | apply z0g | apply z0m | apply z0e) | exact HK.out)⟩, ⟨by repeat (first | (with_reducible first | exact HB.out | apply z04 | apply z01 | apply z05 | refine z07 ?_ (IsS95.ge HI0.out)) | exact HB.out)⟩⟩
         · rw [if_neg c33] at H
           exact absurd H (by simp)
       · replace c32 := Bool.eq_false_iff.mpr c32
         subst c32
         have H1 : ((z0c.f s0_0 t301 t302 t303 t304 0 4 (⟨#[43]⟩ : ByteArray)).bind fun bt308 => (if bt308.1 = true then (if x5_2.length < 5864062014805 then (z06.l0 PF k2 (x5_2 ++ [(⟨6, (⟨#[]⟩ : ByteArray)⟩ : S69)]) s0_0 (wrap64 (bt308.2.1 + 1)) bt308.2.2.1 bt308.2.2.2.1 bt308.2.2.2.2) else (none)) else ((z0c.f s0_0 bt308.2.1 bt308.2.2.1 bt308.2.2.2.1 bt308.2.2.2.2 0 4 (⟨#[63]⟩ : ByteArray)).bind fun bt316 => (if bt316.1 = true then (if x5_2.length < 5864062014805 then (z06.l0 PF k2 (x5_2 ++ [(⟨7, (⟨#[]⟩ : ByteArray)⟩ : S69)]) s0_0 (wrap64 (bt316.2.1 + 1)) bt316.2.2.1 bt316.2.2.2.1 bt316.2.2.2.2) else (none)) else (some (x5_2, bt316.2.1, bt316.2.2.1, bt316.2.2.2.1, bt316.2.2.2.2)))))) = some (r1, r2, r3, r4, r5) := by rw [if_neg (show ¬ (false = true) by decide)] at H; exact H
         clear H
         have H := H1
         clear H1
         replace H := Option.bind_eq_some_iff.mp H
         obtain ⟨⟨t308, t309, t310, t311, t312⟩, A380, H⟩ := H
         replace H : (if t308 = true then (if x5_2.length < 5864062014805 then (z06.l0 PF k2 (x5_2 ++ [(⟨6, (⟨#[]⟩ : ByteArray)⟩ : S69)]) s0_0 (wrap64 (t309 + 1)) t310 t311 t312) else (none)) else ((z0c.f s0_0 t309 t310 t311 t312 0 4 (⟨#[63]⟩ : ByteArray)).bind fun bt316 => (if bt316.1 = true then (if x5_2.length < 5864062014805 then (z06.l0 PF k2 (x5_2 ++ [(⟨7, (⟨#[]⟩ : ByteArray)⟩ : S69)]) s0_0 (wrap64 (bt316.2.1 + 1)) bt316.2.2.1 bt316.2.2.2.1 bt316.2.2.2.2) else (none)) else (some (x5_2, bt316.2.1, bt316.2.2.1, bt316.2.2.2.1, bt316.2.2.2.2))))) = some (r1, r2, r3, r4, r5) := H
         have A38 := z00.mk A380
         clear A380
         by_cases c39 : t308 = true
         · subst c39
           have H1 : (if x5_2.length < 5864062014805 then (z06.l0 PF k2 (x5_2 ++ [(⟨6, (⟨#[]⟩ : ByteArray)⟩ : S69)]) s0_0 (wrap64 (t309 + 1)) t310 t311 t312) else (none)) = some (r1, r2, r3, r4, r5) := by rw [if_pos rfl] at H; exact H
           clear H
           have H := H1
           clear H1
           by_cases c40 : x5_2.length < 5864062014805
           · rw [if_pos c40] at H
             have LMc40 := z00.mk c40
             clear c40
             obtain ⟨y313, hy313⟩ : ∃ y_ : List (S69), y_ = (x5_2 ++ [(⟨6, (⟨#[]⟩ : ByteArray)⟩ : S69)]) := ⟨_, rfl⟩
             replace H : (z06.l0 PF k2 y313 s0_0 (wrap64 (t309 + 1)) t310 t311 t312) = some (r1, r2, r3, r4, r5) := by first | (rw [hy313]; with_reducible exact H) | (have H2_ := (Option.bind_some _ _).symm.trans H; rw [hy313]; with_reducible exact H2_) | (have H2_ := (Option.bind_some _ _).symm.trans H; with_reducible exact H2_) | with_reducible exact H | (rw [hy313]; exact H) | exact H
             have Ny313 := z00.mk hy313
             clear hy313
             have H' := z00.mk H
             clear H
             obtain ⟨ASz41_0, cSz41_0, HGz41, hgz41, HSz41_0⟩ := HI0.out
             have hcz41_0 := z29 HGz41
             have hcz41_1 := z2a HGz41
             have hcz41_2 := z2b HGz41
             have hcz41_3 := z2d HGz41
             have hcz41_4 := z2c HGz41
             have hfz41_1 := z02 HGz41 1
             have hfz41_2 := z02 HGz41 2
             have hfz41_3 := z02 HGz41 3
             have hfz41_4 := z02 HGz41 4
             clear HGz41 hgz41
             go_wp2_with (first | ((with_reducible refine z0s (f := 55) rfl ?_); refine z1r (some 52) rfl rfl Tryz.func55 (by kernel_rfl) rfl #[.pointer (some ⟨g, 0, none⟩), .int .i64 0, .int .i64 4, .string (⟨#[42]⟩ : ByteArray)] rfl (by (try simp only [List.map_toArray, List.map_cons, List.map_nil]); first | done | rfl | (simp only [List.length_drop, List.length_take]; rfl)) ?_; (with_reducible refine (z0c.calls g s0_0 x1001_2 x1002_2 x1003_2 x1004_2 0 4 (⟨#[42]⟩ : ByteArray) false t301 t302 t303 t304 w0 _ ?side1 ?side2 A31.out).mono ?_); (case side1 => repeat (first | (with_reducible first | exact HI0.out | apply IsS95.alloc | apply IsS95.drewN | apply IsS95.drew | apply IsS95.set_1 | apply IsS95.set_2 | apply IsS95.set_3 | apply IsS95.set_4) | exact HI0.out)); (case side2 => repeat (first | (with_reducible first | exact HB.out | apply z04 | apply z01 | apply z05 | refine z07 ?_ (IsS95.ge HI0.out)) | exact HB.out)); rintro e w42 ⟨rfl, hi, hb, hk⟩; refine ⟨_, rfl, ?_⟩; have n0_ := z00.mk (Kd.R_mono (Kd.R_keep (IsS95.apart (show IsS95 w0 _ g s0_0 x1001_2 x1002_2 x1003_2 x1004_2 from by repeat (first | (with_reducible first | exact HI0.out | apply IsS95.alloc | apply IsS95.drewN | apply IsS95.drew | apply IsS95.set_1 | apply IsS95.set_2 | apply IsS95.set_3 | apply IsS95.set_4) | exact HI0.out)) (by (with_reducible repeat (first | apply Kd.R_alloc | apply Kd.R_drewN | apply Kd.R_drew)); exact HO_5.out) (by decide)) hk (fun _ h => h.2)) (fun _ h => h.1)); have n1_ := z00.mk (z08.trans (by repeat (first | (with_reducible first | exact HK.out | apply z08.set_ | apply z0g | apply z0m | apply z0e) | exact HK.out)) hk (.inl rfl)); have n2_ := z00.mk (hb); have n3_ := z00.mk (hi); clear HO_5; clear HK; clear HB; clear HI0; have HO_5 := n0_; have HK := n1_; have HB := n2_; have HI0 := n3_; clear n0_ n1_ n2_ n3_; (try clear hb); (try clear hb2); (try clear hk); (try clear hi)) | ((with_reducible refine z0s (f := 55) rfl ?_); refine z1r (some 58) rfl rfl Tryz.func55 (by kernel_rfl) rfl #[.pointer (some ⟨g, 0, none⟩), .int .i64 0, .int .i64 4, .string (⟨#[43]⟩ : ByteArray)] rfl (by (try simp only [List.map_toArray, List.map_cons, List.map_nil]); first | done | rfl | (simp only [List.length_drop, List.length_take]; rfl)) ?_; (with_reducible refine (z0c.calls g s0_0 t301 t302 t303 t304 0 4 (⟨#[43]⟩ : ByteArray) true t309 t310 t311 t312 w0 _ ?side1 ?side2 A38.out).mono ?_); (case side1 => repeat (first | (with_reducible first | exact HI0.out | apply IsS95.alloc | apply IsS95.drewN | apply IsS95.drew | apply IsS95.set_1 | apply IsS95.set_2 | apply IsS95.set_3 | apply IsS95.set_4) | exact HI0.out)); (case side2 => repeat (first | (with_reducible first | exact HB.out | apply z04 | apply z01 | apply z05 | refine z07 ?_ (IsS95.ge HI0.out)) | exact HB.out)); rintro e w43 ⟨rfl, hi, hb, hk⟩; refine ⟨_, rfl, ?_⟩; have n0_ := z00.mk (Kd.R_mono (Kd.R_keep (IsS95.apart (show IsS95 w0 _ g s0_0 t301 t302 t303 t304 from by repeat (first | (with_reducible first | exact HI0.out | apply IsS95.alloc | apply IsS95.drewN | apply IsS95.drew | apply IsS95.set_1 | apply IsS95.set_2 | apply IsS95.set_3 | apply IsS95.set_4) | exact HI0.out)) (by (with_reducible repeat (first | apply Kd.R_alloc | apply Kd.R_drewN | apply Kd.R_drew)); exact HO_5.out) (by decide)) hk (fun _ h => h.2)) (fun _ h => h.1)); have n1_ := z00.mk (z08.trans (by repeat (first | (with_reducible first | exact HK.out | apply z08.set_ | apply z0g | apply z0m | apply z0e) | exact HK.out)) hk (.inl rfl)); have n2_ := z00.mk (hb); have n3_ := z00.mk (hi); clear HO_5; clear HK; clear HB; clear HI0; have HO_5 := n0_; have HK := n1_; have HB := n2_; have HI0 := n3_; clear n0_ n1_ n2_ n3_; (try clear hb); (try clear hb2); (try clear hk); (try clear hi)) | ((with_reducible refine z1s (b := .append) (xs := #[.tmp 59, .tmp 61]) rfl ?_); at_builtin; refine Kd.R_append k69 w.heap.size rfl (.tmp 59) (.tmp 61) 37 69 (.agg #[(.int .i64 0), (.string ⟨#[]⟩)]) 24 rfl Tryz.underlying37 z9g rfl (by decide) (by omega) u5 x5_2 (⟨6, (⟨#[]⟩ : ByteArray)⟩ : S69) [.int .i64 6, .string (⟨#[]⟩ : ByteArray)] (fun _ => True) (fun _ => False) rfl rfl ?aP (fun _ hk => hk.elim) ?aF ?aO (Below.refl _ _) ?aS ?aL ?_; (case aP => exact z3e _ _ _ (⟨6, (⟨#[]⟩ : ByteArray)⟩ : S69)); (case aF => exact (fun _ _ => trivial)); (case aO => exact (by (with_reducible repeat (first | apply Kd.R_alloc | apply Kd.R_drewN | apply Kd.R_drew)); exact HO_5.out)); (case aS => exact (z35 (w := w) (g := g) (row := none) (by repeat (first | (with_reducible first | exact HK.out | apply z08.set_ | apply z0g | apply z0m | apply z0e) | exact HK.out)))); (case aL => have := LMc40.out; omega); intro v314 w44 ho hb hg hat; rw [← Ny313.out] at ho; have n0_ := z00.mk (IsS95.grown (by repeat (first | (with_reducible first | exact HI0.out | apply IsS95.alloc | apply IsS95.drewN | apply IsS95.drew | apply IsS95.set_1 | apply IsS95.set_2 | apply IsS95.set_3 | apply IsS95.set_4) | exact HI0.out)) hg (IsS95.own_ne HI0.out HO_5.out (by decide))); have n1_ := z00.mk (z2t (by repeat (first | (with_reducible first | exact HB.out | apply z04 | apply z01 | apply z05 | refine z07 ?_ (IsS95.ge HI0.out)) | exact HB.out)) HL.out hb); have n2_ := z00.mk (z08.trans (by repeat (first | (with_reducible first | exact HK.out | apply z08.set_ | apply z0g | apply z0m | apply z0e) | exact HK.out)) (z08.of_grown hg g) (Kd.R_base2 HO_5.out)); have n3_ := z00.mk (ho); clear HI0; clear HB; clear HK; clear HO_5; have HI0 := n0_; have HB := n1_; have HK := n2_; have HO315 := n3_; clear n0_ n1_ n2_ n3_; clear ho hb hg hat; obtain ⟨ASz45_0, cSz45_0, HGz45, hgz45, HSz45_0⟩ := HI0.out; have hcz45_0 := z29 HGz45; have hcz45_1 := z2a HGz45; have hcz45_2 := z2b HGz45; have hcz45_3 := z2d HGz45; have hcz45_4 := z2c HGz45; have hfz45_1 := z02 HGz45 1; have hfz45_2 := z02 HGz45 2; have hfz45_3 := z02 HGz45 3; have hfz45_4 := z02 HGz45 4; clear HGz45 hgz45))
             go_roundg k2
             case measure => have := HJ3.out; have := HK2.out; omega
             case rel => exact ⟨(y313), (wrap64 (t309 + 1)), (t310), (t311), (t312), H', ⟨by have := HJ3.out; have := HK2.out; omega⟩, ⟨by (with_reducible repeat (first | apply Kd.R_alloc | apply Kd.R_drewN | apply Kd.R_drew)); exact Kd.R_mono (Kd.R_far (p := ⟨g, 1, none⟩) (IsS95.apart HI0.out HO315.out (by decide)) (fun _ hk => hk.2) (.int .i64 (wrap64 (t309 + 1)))) (fun _ hk => trivial)⟩, ⟨by repeat (first | (with_reducible first | exact HI0.out | apply IsS95.alloc | apply IsS95.drewN | apply IsS95.drew | apply IsS95.set_1 | apply IsS95.set_2 | apply IsS95.set_3 | apply IsS95.set_4) | exact HI0.out)⟩, ⟨by repeat (first | (with_reducible first | exact HK.out | apply z08.set_ | apply z0g | apply z0m | apply z0e) | exact HK.out)⟩, ⟨by repeat (first | (with_reducible first | exact HB.out | apply z04 | apply z01 | apply z05 | refine z07 ?_ (IsS95.ge HI0.out)) | exact HB.out)⟩⟩
           · rw [if_neg c40] at H
             exact absurd H (by simp)
         · replace c39 := Bool.eq_false_iff.mpr c39
           subst c39
           have H1 : ((z0c.f s0_0 t309 t310 t311 t312 0 4 (⟨#[63]⟩ : ByteArray)).bind fun bt316 => (if bt316.1 = true then (if x5_2.length < 5864062014805 then (z06.l0 PF k2 (x5_2 ++ [(⟨7, (⟨#[]⟩ : ByteArray)⟩ : S69)]) s0_0 (wrap64 (bt316.2.1 + 1)) bt316.2.2.1 bt316.2.2.2.1 bt316.2.2.2.2) else (none)) else (some (x5_2, bt316.2.1, bt316.2.2.1, bt316.2.2.2.1, bt316.2.2.2.2)))) = some (r1, r2, r3, r4, r5) := by rw [if_neg (show ¬ (false = true) by decide)] at H; exact H
           clear H
           have H := H1
           clear H1
           replace H := Option.bind_eq_some_iff.mp H
           obtain ⟨⟨t316, t317, t318, t319, t320⟩, A460, H⟩ := H
           replace H : (if t316 = true then (if x5_2.length < 5864062014805 then (z06.l0 PF k2 (x5_2 ++ [(⟨7, (⟨#[]⟩ : ByteArray)⟩ : S69)]) s0_0 (wrap64 (t317 + 1)) t318 t319 t320) else (none)) else (some (x5_2, t317, t318, t319, t320))) = some (r1, r2, r3, r4, r5) := H
           have A46 := z00.mk A460
           clear A460
           by_cases c47 : t316 = true
           · subst c47
             have H1 : (if x5_2.length < 5864062014805 then (z06.l0 PF k2 (x5_2 ++ [(⟨7, (⟨#[]⟩ : ByteArray)⟩ : S69)]) s0_0 (wrap64 (t317 + 1)) t318 t319 t320) else (none)) = some (r1, r2, r3, r4, r5) := by rw [if_pos rfl] at H; exact H
             clear H
             have H := H1
             clear H1
             by_cases c48 : x5_2.length < 5864062014805
             · rw [if_pos c48] at H
               have LMc48 := z00.mk c48
               clear c48
               obtain ⟨y321, hy321⟩ : ∃ y_ : List (S69), y_ = (x5_2 ++ [(⟨7, (⟨#[]⟩ : ByteArray)⟩ : S69)]) := ⟨_, rfl⟩
               replace H : (z06.l0 PF k2 y321 s0_0 (wrap64 (t317 + 1)) t318 t319 t320) = some (r1, r2, r3, r4, r5) := by first | (rw [hy321]; with_reducible exact H) | (have H2_ := (Option.bind_some _ _).symm.trans H; rw [hy321]; with_reducible exact H2_) | (have H2_ := (Option.bind_some _ _).symm.trans H; with_reducible exact H2_) | with_reducible exact H | (rw [hy321]; exact H) | exact H
               have Ny321 := z00.mk hy321
               clear hy321
               have H' := z00.mk H
               clear H
               obtain ⟨ASz49_0, cSz49_0, HGz49, hgz49, HSz49_0⟩ := HI0.out
               have hcz49_0 := z29 HGz49
               have hcz49_1 := z2a HGz49
               have hcz49_2 := z2b HGz49
               have hcz49_3 := z2d HGz49
               have hcz49_4 := z2c HGz49
               have hfz49_1 := z02 HGz49 1
               have hfz49_2 := z02 HGz49 2
               have hfz49_3 := z02 HGz49 3
               have hfz49_4 := z02 HGz49 4
               clear HGz49 hgz49
               go_wp2_with (first | ((with_reducible refine z0s (f := 55) rfl ?_); refine z1r (some 52) rfl rfl Tryz.func55 (by kernel_rfl) rfl #[.pointer (some ⟨g, 0, none⟩), .int .i64 0, .int .i64 4, .string (⟨#[42]⟩ : ByteArray)] rfl (by (try simp only [List.map_toArray, List.map_cons, List.map_nil]); first | done | rfl | (simp only [List.length_drop, List.length_take]; rfl)) ?_; (with_reducible refine (z0c.calls g s0_0 x1001_2 x1002_2 x1003_2 x1004_2 0 4 (⟨#[42]⟩ : ByteArray) false t301 t302 t303 t304 w0 _ ?side1 ?side2 A31.out).mono ?_); (case side1 => repeat (first | (with_reducible first | exact HI0.out | apply IsS95.alloc | apply IsS95.drewN | apply IsS95.drew | apply IsS95.set_1 | apply IsS95.set_2 | apply IsS95.set_3 | apply IsS95.set_4) | exact HI0.out)); (case side2 => repeat (first | (with_reducible first | exact HB.out | apply z04 | apply z01 | apply z05 | refine z07 ?_ (IsS95.ge HI0.out)) | exact HB.out)); rintro e w50 ⟨rfl, hi, hb, hk⟩; refine ⟨_, rfl, ?_⟩; have n0_ := z00.mk (Kd.R_mono (Kd.R_keep (IsS95.apart (show IsS95 w0 _ g s0_0 x1001_2 x1002_2 x1003_2 x1004_2 from by repeat (first | (with_reducible first | exact HI0.out | apply IsS95.alloc | apply IsS95.drewN | apply IsS95.drew | apply IsS95.set_1 | apply IsS95.set_2 | apply IsS95.set_3 | apply IsS95.set_4) | exact HI0.out)) (by (with_reducible repeat (first | apply Kd.R_alloc | apply Kd.R_drewN | apply Kd.R_drew)); exact HO_5.out) (by decide)) hk (fun _ h => h.2)) (fun _ h => h.1)); have n1_ := z00.mk (z08.trans (by repeat (first | (with_reducible first | exact HK.out | apply z08.set_ | apply z0g | apply z0m | apply z0e) | exact HK.out)) hk (.inl rfl)); have n2_ := z00.mk (hb); have n3_ := z00.mk (hi); clear HO_5; clear HK; clear HB; clear HI0; have HO_5 := n0_; have HK := n1_; have HB := n2_; have HI0 := n3_; clear n0_ n1_ n2_ n3_; (try clear hb); (try clear hb2); (try clear hk); (try clear hi)) | ((with_reducible refine z0s (f := 55) rfl ?_); refine z1r (some 58) rfl rfl Tryz.func55 (by kernel_rfl) rfl #[.pointer (some ⟨g, 0, none⟩), .int .i64 0, .int .i64 4, .string (⟨#[43]⟩ : ByteArray)] rfl (by (try simp only [List.map_toArray, List.map_cons, List.map_nil]); first | done | rfl | (simp only [List.length_drop, List.length_take]; rfl)) ?_; (with_reducible refine (z0c.calls g s0_0 t301 t302 t303 t304 0 4 (⟨#[43]⟩ : ByteArray) false t309 t310 t311 t312 w0 _ ?side1 ?side2 A38.out).mono ?_); (case side1 => repeat (first | (with_reducible first | exact HI0.out | apply IsS95.alloc | apply IsS95.drewN | apply IsS95.drew | apply IsS95.set_1 | apply IsS95.set_2 | apply IsS95.set_3 | apply IsS95.set_4) | exact HI0.out)); (case side2 => repeat (first | (with_reducible first | exact HB.out | apply z04 | apply z01 | apply z05 | refine z07 ?_ (IsS95.ge HI0.out)) | exact HB.out)); rintro e w51 ⟨rfl, hi, hb, hk⟩; refine ⟨_, rfl, ?_⟩; have n0_ := z00.mk (Kd.R_mono (Kd.R_keep (IsS95.apart (show IsS95 w0 _ g s0_0 t301 t302 t303 t304 from by repeat (first | (with_reducible first | exact HI0.out | apply IsS95.alloc | apply IsS95.drewN | apply IsS95.drew | apply IsS95.set_1 | apply IsS95.set_2 | apply IsS95.set_3 | apply IsS95.set_4) | exact HI0.out)) (by (with_reducible repeat (first | apply Kd.R_alloc | apply Kd.R_drewN | apply Kd.R_drew)); exact HO_5.out) (by decide)) hk (fun _ h => h.2)) (fun _ h => h.1)); have n1_ := z00.mk (z08.trans (by repeat (first | (with_reducible first | exact HK.out | apply z08.set_ | apply z0g | apply z0m | apply z0e) | exact HK.out)) hk (.inl rfl)); have n2_ := z00.mk (hb); have n3_ := z00.mk (hi); clear HO_5; clear HK; clear HB; clear HI0; have HO_5 := n0_; have HK := n1_; have HB := n2_; have HI0 := n3_; clear n0_ n1_ n2_ n3_; (try clear hb); (try clear hb2); (try clear hk); (try clear hi)) | ((with_reducible refine z0s (f := 55) rfl ?_); refine z1r (some 64) rfl rfl Tryz.func55 (by kernel_rfl) rfl #[.pointer (some ⟨g, 0, none⟩), .int .i64 0, .int .i64 4, .string (⟨#[63]⟩ : ByteArray)] rfl (by (try simp only [List.map_toArray, List.map_cons, List.map_nil]); first | done | rfl | (simp only [List.length_drop, List.length_take]; rfl)) ?_; (with_reducible refine (z0c.calls g s0_0 t309 t310 t311 t312 0 4 (⟨#[63]⟩ : ByteArray) true t317 t318 t319 t320 w0 _ ?side1 ?side2 A46.out).mono ?_); (case side1 => repeat (first | (with_reducible first | exact HI0.out | apply IsS95.alloc | apply IsS95.drewN | apply IsS95.drew | apply IsS95.set_1 | apply IsS95.set_2 | apply IsS95.set_3 | apply IsS95.set_4) | exact HI0.out)); (case side2 => repeat (first | (with_reducible first | exact HB.out | apply z04 | apply z01 | apply z05 | refine z07 ?_ (IsS95.ge HI0.out)) | exact HB.out)); rintro e w52 ⟨rfl, hi, hb, hk⟩; refine ⟨_, rfl, ?_⟩; have n0_ := z00.mk (Kd.R_mono (Kd.R_keep (IsS95.apart (show IsS95 w0 _ g s0_0 t309 t310 t311 t312 from by repeat (first | (with_reducible first | exact HI0.out | apply IsS95.alloc | apply IsS95.drewN | apply IsS95.drew | apply IsS95.set_1 | apply IsS95.set_2 | apply IsS95.set_3 | apply IsS95.set_4) | exact HI0.out)) (by (with_reducible repeat (first | apply Kd.R_alloc | apply Kd.R_drewN | apply Kd.R_drew)); exact HO_5.out) (by decide)) hk (fun _ h => h.2)) (fun _ h => h.1)); have n1_ := z00.mk (z08.trans (by repeat (first | (with_reducible first | exact HK.out | apply z08.set_ | apply z0g | apply z0m | apply z0e) | exact HK.out)) hk (.inl rfl)); have n2_ := z00.mk (hb); have n3_ := z00.mk (hi); clear HO_5; clear HK; clear HB; clear HI0; have HO_5 := n0_; have HK := n1_; have HB := n2_; have HI0 := n3_; clear n0_ n1_ n2_ n3_; (try clear hb); (try clear hb2); (try clear hk); (try clear hi)) | ((with_reducible refine z1s (b := .append) (xs := #[.tmp 65, .tmp 67]) rfl ?_); at_builtin; refine Kd.R_append k69 w.heap.size rfl (.tmp 65) (.tmp 67) 37 69 (.agg #[(.int .i64 0), (.string ⟨#[]⟩)]) 24 rfl Tryz.underlying37 z9g rfl (by decide) (by omega) u5 x5_2 (⟨7, (⟨#[]⟩ : ByteArray)⟩ : S69) [.int .i64 7, .string (⟨#[]⟩ : ByteArray)] (fun _ => True) (fun _ => False) rfl rfl ?aP (fun _ hk => hk.elim) ?aF ?aO (Below.refl _ _) ?aS ?aL ?_; (case aP => exact z3e _ _ _ (⟨7, (⟨#[]⟩ : ByteArray)⟩ : S69)); (case aF => exact (fun _ _ => trivial)); (case aO => exact (by (with_reducible repeat (first | apply Kd.R_alloc | apply Kd.R_drewN | apply Kd.R_drew)); exact HO_5.out)); (case aS => exact (z35 (w := w) (g := g) (row := none) (by repeat (first | (with_reducible first | exact HK.out | apply z08.set_ | apply z0g | apply z0m | apply z0e) | exact HK.out)))); (case aL => have := LMc48.out; omega); intro v322 w53 ho hb hg hat; rw [← Ny321.out] at ho; have n0_ := z00.mk (IsS95.grown (by repeat (first | (with_reducible first | exact HI0.out | apply IsS95.alloc | apply IsS95.drewN | apply IsS95.drew | apply IsS95.set_1 | apply IsS95.set_2 | apply IsS95.set_3 | apply IsS95.set_4) | exact HI0.out)) hg (IsS95.own_ne HI0.out HO_5.out (by decide))); have n1_ := z00.mk (z2t (by repeat (first | (with_reducible first | exact HB.out | apply z04 | apply z01 | apply z05 | refine z07 ?_ (IsS95.ge HI0.out)) | exact HB.out)) HL.out hb); have n2_ := z00.mk (z08.trans (by repeat (first | (with_reducible first | exact HK.out | apply z08.set_ | apply z0g | apply z0m | apply z0e) | exact HK.out)) (z08.of_grown hg g) (Kd.R_base2 HO_5.out)); have n3_ := z00.mk (ho); clear HI0; clear HB; clear HK; clear HO_5; have HI0 := n0_; have HB := n1_; have HK := n2_; have HO323 := n3_; clear n0_ n1_ n2_ n3_; clear ho hb hg hat; obtain ⟨ASz54_0, cSz54_0, HGz54, hgz54, HSz54_0⟩ := HI0.out; have hcz54_0 := z29 HGz54; have hcz54_1 := z2a HGz54; have hcz54_2 := z2b HGz54; have hcz54_3 := z2d HGz54; have hcz54_4 := z2c HGz54; have hfz54_1 := z02 HGz54 1; have hfz54_2 := z02 HGz54 2; have hfz54_3 := z02 HGz54 3; have hfz54_4 := z02 HGz54 4; clear HGz54 hgz54))
               go_roundg k2
               case measure => have := HJ3.out; have := HK2.out; omega
               case rel => exact ⟨(y321), (wrap64 (t317 + 1)), (t318), (t319), (t320), H', ⟨by have := HJ3.out; have := HK2.out; omega⟩, ⟨by (with_reducible repeat (first | apply Kd.R_alloc | apply Kd.R_drewN | apply Kd.R_drew)); exact Kd.R_mono (Kd.R_far (p := ⟨g, 1, none⟩) (IsS95.apart HI0.out HO323.out (by decide)) (fun _ hk => hk.2) (.int .i64 (wrap64 (t317 + 1)))) (fun _ hk => trivial)⟩, ⟨by repeat (first | (with_reducible first | exact HI0.out | apply IsS95.alloc | apply IsS95.drewN | apply IsS95.drew | apply IsS95.set_1 | apply IsS95.set_2 | apply IsS95.set_3 | apply IsS95.set_4) | exact HI0.out)⟩, ⟨by repeat (first | (with_reducible first | exact HK.out | apply z08.set_ | apply z0g | apply z0m | apply z0e) | exact HK.out)⟩, ⟨by repeat (first | (with_reducible first | exact HB.out | apply z04 | apply z01 | apply z05 | refine z07 ?_ (IsS95.ge HI0.out)) | exact HB.out)⟩⟩
             · rw [if_neg c48] at H
               exact absurd H (by simp)
           · replace c47 := Bool.eq_false_iff.mpr c47
             subst c47
             have H1 : (some (x5_2, t317, t318, t319, t320)) = some (r1, r2, r3, r4, r5) := by rw [if_neg (show ¬ (false = true) by decide)] at H; exact H
             clear H
             have H := H1
             clear H1
             simp only [Option.some.injEq, Prod.mk.injEq] at H
             obtain ⟨rfl, rfl, rfl, rfl, rfl⟩ := H
             obtain ⟨ASz55_0, cSz55_0, HGz55, hgz55, HSz55_0⟩ := HI0.out
             have hcz55_0 := z29 HGz55
             have hcz55_1 := z2a HGz55
             have hcz55_2 := z2b HGz55
             have hcz55_3 := z2d HGz55
             have hcz55_4 := z2c HGz55
             have hfz55_1 := z02 HGz55 1
             have hfz55_2 := z02 HGz55 2
             have hfz55_3 := z02 HGz55 3
             have hfz55_4 := z02 HGz55 4
             clear HGz55 hgz55
             go_wp2_with (first | ((with_reducible refine z0s (f := 55) rfl ?_); refine z1r (some 52) rfl rfl Tryz.func55 (by kernel_rfl) rfl #[.pointer (some ⟨g, 0, none⟩), .int .i64 0, .int .i64 4, .string (⟨#[42]⟩ : ByteArray)] rfl (by (try simp only [List.map_toArray, List.map_cons, List.map_nil]); first | done | rfl | (simp only [List.length_drop, List.length_take]; rfl)) ?_; (with_reducible refine (z0c.calls g s0_0 x1001_2 x1002_2 x1003_2 x1004_2 0 4 (⟨#[42]⟩ : ByteArray) false t301 t302 t303 t304 w0 _ ?side1 ?side2 A31.out).mono ?_); (case side1 => repeat (first | (with_reducible first | exact HI0.out | apply IsS95.alloc | apply IsS95.drewN | apply IsS95.drew | apply IsS95.set_1 | apply IsS95.set_2 | apply IsS95.set_3 | apply IsS95.set_4) | exact HI0.out)); (case side2 => repeat (first | (with_reducible first | exact HB.out | apply z04 | apply z01 | apply z05 | refine z07 ?_ (IsS95.ge HI0.out)) | exact HB.out)); rintro e w56 ⟨rfl, hi, hb, hk⟩; refine ⟨_, rfl, ?_⟩; have n0_ := z00.mk (Kd.R_mono (Kd.R_keep (IsS95.apart (show IsS95 w0 _ g s0_0 x1001_2 x1002_2 x1003_2 x1004_2 from by repeat (first | (with_reducible first | exact HI0.out | apply IsS95.alloc | apply IsS95.drewN | apply IsS95.drew | apply IsS95.set_1 | apply IsS95.set_2 | apply IsS95.set_3 | apply IsS95.set_4) | exact HI0.out)) (by (with_reducible repeat (first | apply Kd.R_alloc | apply Kd.R_drewN | apply Kd.R_drew)); exact HO_5.out) (by decide)) hk (fun _ h => h.2)) (fun _ h => h.1)); have n1_ := z00.mk (z08.trans (by repeat (first | (with_reducible first | exact HK.out | apply z08.set_ | apply z0g | apply z0m | apply z0e) | exact HK.out)) hk (.inl rfl)); have n2_ := z00.mk (hb); have n3_ := z00.mk (hi); clear HO_5; clear HK; clear HB; clear HI0; have HO_5 := n0_; have HK := n1_; have HB := n2_; have HI0 := n3_; clear n0_ n1_ n2_ n3_; (try clear hb); (try clear hb2); (try clear hk); (try clear hi)) | ((with_reducible refine z0s (f := 55) rfl ?_); refine z1r (some 58) rfl rfl Tryz.func55 (by kernel_rfl) rfl #[.pointer (some ⟨g, 0, none⟩), .int .i64 0, .int .i64 4, .string (⟨#[43]⟩ : ByteArray)] rfl (by (try simp only [List.map_toArray, List.map_cons, List.map_nil]); first | done | rfl | (simp only [List.length_drop, List.length_take]; rfl)) ?_; (with_reducible refine (z0c.calls g s0_0 t301 t302 t303 t304 0 4 (⟨#[43]⟩ : ByteArray) false t309 t310 t311 t312 w0 _ ?side1 ?side2 A38.out).mono ?_); (case side1 => repeat (first | (with_reducible first | exact HI0.out | apply IsS95.alloc | apply IsS95.drewN | apply IsS95.drew | apply IsS95.set_1 | apply IsS95.set_2 | apply IsS95.set_3 | apply IsS95.set_4) | exact HI0.out)); (case side2 => repeat (first | (with_reducible first | exact HB.out | apply z04 | apply z01 | apply z05 | refine z07 ?_ (IsS95.ge HI0.out)) | exact HB.out)); rintro e w57 ⟨rfl, hi, hb, hk⟩; refine ⟨_, rfl, ?_⟩; have n0_ := z00.mk (Kd.R_mono (Kd.R_keep (IsS95.apart (show IsS95 w0 _ g s0_0 t301 t302 t303 t304 from by repeat (first | (with_reducible first | exact HI0.out | apply IsS95.alloc | apply IsS95.drewN | apply IsS95.drew | apply IsS95.set_1 | apply IsS95.set_2 | apply IsS95.set_3 | apply IsS95.set_4) | exact HI0.out)) (by (with_reducible repeat (first | apply Kd.R_alloc | apply Kd.R_drewN | apply Kd.R_drew)); exact HO_5.out) (by decide)) hk (fun _ h => h.2)) (fun _ h => h.1)); have n1_ := z00.mk (z08.trans (by repeat (first | (with_reducible first | exact HK.out | apply z08.set_ | apply z0g | apply z0m | apply z0e) | exact HK.out)) hk (.inl rfl)); have n2_ := z00.mk (hb); have n3_ := z00.mk (hi); clear HO_5; clear HK; clear HB; clear HI0; have HO_5 := n0_; have HK := n1_; have HB := n2_; have HI0 := n3_; clear n0_ n1_ n2_ n3_; (try clear hb); (try clear hb2); (try clear hk); (try clear hi)) | ((with_reducible refine z0s (f := 55) rfl ?_); refine z1r (some 64) rfl rfl Tryz.func55 (by kernel_rfl) rfl #[.pointer (some ⟨g, 0, none⟩), .int .i64 0, .int .i64 4, .string (⟨#[63]⟩ : ByteArray)] rfl (by (try simp only [List.map_toArray, List.map_cons, List.map_nil]); first | done | rfl | (simp only [List.length_drop, List.length_take]; rfl)) ?_; (with_reducible refine (z0c.calls g s0_0 t309 t310 t311 t312 0 4 (⟨#[63]⟩ : ByteArray) false t317 t318 t319 t320 w0 _ ?side1 ?side2 A46.out).mono ?_); (case side1 => repeat (first | (with_reducible first | exact HI0.out | apply IsS95.alloc | apply IsS95.drewN | apply IsS95.drew | apply IsS95.set_1 | apply IsS95.set_2 | apply IsS95.set_3 | apply IsS95.set_4) | exact HI0.out)); (case side2 => repeat (first | (with_reducible first | exact HB.out | apply z04 | apply z01 | apply z05 | refine z07 ?_ (IsS95.ge HI0.out)) | exact HB.out)); rintro e w58 ⟨rfl, hi, hb, hk⟩; refine ⟨_, rfl, ?_⟩; have n0_ := z00.mk (Kd.R_mono (Kd.R_keep (IsS95.apart (show IsS95 w0 _ g s0_0 t309 t310 t311 t312 from by repeat (first | (with_reducible first | exact HI0.out | apply IsS95.alloc | apply IsS95.drewN | apply IsS95.drew | apply IsS95.set_1 | apply IsS95.set_2 | apply IsS95.set_3 | apply IsS95.set_4) | exact HI0.out)) (by (with_reducible repeat (first | apply Kd.R_alloc | apply Kd.R_drewN | apply Kd.R_drew)); exact HO_5.out) (by decide)) hk (fun _ h => h.2)) (fun _ h => h.1)); have n1_ := z00.mk (z08.trans (by repeat (first | (with_reducible first | exact HK.out | apply z08.set_ | apply z0g | apply z0m | apply z0e) | exact HK.out)) hk (.inl rfl)); have n2_ := z00.mk (hb); have n3_ := z00.mk (hi); clear HO_5; clear HK; clear HB; clear HI0; have HO_5 := n0_; have HK := n1_; have HB := n2_; have HI0 := n3_; clear n0_ n1_ n2_ n3_; (try clear hb); (try clear hb2); (try clear hk); (try clear hi)))
             go_ret
             exact ⟨_, by first | rfl | (simp [z0n, z0o] <;> rfl) | (simp [*, z0n, z0o] <;> rfl), by (with_reducible repeat (first | apply Kd.R_alloc | apply Kd.R_drewN | apply Kd.R_drew)); exact HO_5.out, by repeat (first | (with_reducible first | exact HI0.out | apply IsS95.alloc | apply IsS95.drewN | apply IsS95.drew | apply IsS95.set_1 | apply IsS95.set_2 | apply IsS95.set_3 | apply IsS95.set_4) | exact HI0.out), by repeat (first | (with_reducible first | exact HB.out | apply z04 | apply z01 | apply z05 | refine z07 ?_ (IsS95.ge HI0.out)) | exact HB.out), by repeat (first | (with_reducible first | exact HK.out | apply z08.set_ | apply z0g | apply z0m | apply z0e) | exact HK.out)⟩
     · rw [if_neg c30] at H
       have c30b0 : (x1003_2 == 0) = false := beq_eq_false_iff_ne.mpr c30
       have c30b1 : (x1003_2 != 0) = true := bne_iff_ne.mpr c30
       simp only [Option.some.injEq, Prod.mk.injEq] at H
       obtain ⟨rfl, rfl, rfl, rfl, rfl⟩ := H
       obtain ⟨ASz59_0, cSz59_0, HGz59, hgz59, HSz59_0⟩ := HI0.out
       have hcz59_0 := z29 HGz59
       have hcz59_1 := z2a HGz59
       have hcz59_2 := z2b HGz59
       have hcz59_3 := z2d HGz59
       have hcz59_4 := z2c HGz59
       have hfz59_1 := z02 HGz59 1
       have hfz59_2 := z02 HGz59 2
       have hfz59_3 := z02 HGz59 3
       have hfz59_4 := z02 HGz59 4
       clear HGz59 hgz59
       go_wp2
       go_ret
       exact ⟨_, by first | rfl | (simp [z0n, z0o] <;> rfl) | (simp [*, z0n, z0o] <;> rfl), by (with_reducible repeat (first | apply Kd.R_alloc | apply Kd.R_drewN | apply Kd.R_drew)); exact HO_5.out, by repeat (first | (with_reducible first | exact HI0.out | apply IsS95.alloc | apply IsS95.drewN | apply IsS95.drew | apply IsS95.set_1 | apply IsS95.set_2 | apply IsS95.set_3 | apply IsS95.set_4) | exact HI0.out), by repeat (first | (with_reducible first | exact HB.out | apply z04 | apply z01 | apply z05 | refine z07 ?_ (IsS95.ge HI0.out)) | exact HB.out), by repeat (first | (with_reducible first | exact HK.out | apply z08.set_ | apply z0g | apply z0m | apply z0e) | exact HK.out)⟩
def z0d.l0 (PF : PFT) : Nat → Int → List (S69) → List (S53) → Int → Int → Int → Int → Option ((List (S69)) × Int × Int × Int × Int)
 | 0, _, _, _, _, _, _, _ => none
 | k + 1, x1, x5, x1000, x1001, x1002, x1003, x1004 => if x1003 = 0 then ((z0c.f x1000 x1001 x1002 x1003 x1004 0 4 (⟨#[47]⟩ : ByteArray)).bind fun bt331 => (if bt331.1 = true then ((z06.f PF k x1000 (wrap64 (bt331.2.1 + 1)) bt331.2.2.1 bt331.2.2.2.1 bt331.2.2.2.2 x1).bind fun bt336 => (if x5.length + bt336.1.length < 5864062014805 then ((some (x5 ++ bt336.1 : List (S69))).bind fun y343 => (if y343.length < 5864062014805 then (z0d.l0 PF k x1 (y343 ++ [(⟨3, (⟨#[]⟩ : ByteArray)⟩ : S69)]) x1000 bt336.2.1 bt336.2.2.1 bt336.2.2.2.1 bt336.2.2.2.2) else (none))) else (none))) else (some (x5, bt331.2.1, bt331.2.2.1, bt331.2.2.2.1, bt331.2.2.2.2)))) else (some (x5, x1001, x1002, x1003, x1004))
def z0d.f (PF : PFT) (k : Nat) (s0_0 : List (S53)) (s0_1 : Int) (s0_2 : Int) (s0_3 : Int) (s0_4 : Int) (a1 : Int) : Option ((List (S69)) × Int × Int × Int × Int) := (z06.f PF k s0_0 s0_1 s0_2 s0_3 s0_4 a1).bind fun bt324 => (z0d.l0 PF k a1 bt324.1 s0_0 bt324.2.1 bt324.2.2.1 bt324.2.2.2.1 bt324.2.2.2.2)
set_option maxHeartbeats 8000000 in
set_option maxRecDepth 100000 in
theorem z0d.calls (PF : PFT) (HPF : PFC PF) (k : Nat) (g : Nat) (s0_0 : List (S53)) (s0_1 : Int) (s0_2 : Int) (s0_3 : Int) (s0_4 : Int) (a1 : Int) (r1 : List (S69)) (r2 : Int) (r3 : Int) (r4 : Int) (r5 : Int) (w0 w : World) (hI : IsS95 w0 w g s0_0 s0_1 s0_2 s0_3 s0_4) (hB : Below w0.heap.size w0 w) (h : z0d.f PF k s0_0 s0_1 s0_2 s0_3 s0_4 a1 = some (r1, r2, r3, r4, r5)) :
 Calls Tryz.prog 137 #[.pointer (some ⟨g, 0, none⟩), .int .i64 a1] w fun e w' => ∃ v0_ : Value, e = .returned (v0_) ∧ Kd.R k69 69 w' w.heap.size (fun _ => True) v0_ r1 ∧ IsS95 w0 w' g s0_0 r2 r3 r4 r5 ∧ Below w0.heap.size w0 w' ∧ z08 w w' g none := by
 have hu69 := Tryz.underlying69
 have HI0 := z00.mk hI
 have HK := z00.mk (z08.refl w g none)
 have HL := z00.mk hB.size
 clear hI
 have HW0 := z00.mk hB.size
 have HB := z00.mk hB
 clear hB
 have H : ((z06.f PF k s0_0 s0_1 s0_2 s0_3 s0_4 a1).bind fun bt324 => (z0d.l0 PF k a1 bt324.1 s0_0 bt324.2.1 bt324.2.2.1 bt324.2.2.2.1 bt324.2.2.2.2)) = some (r1, r2, r3, r4, r5) := h
 clear h
 replace H := Option.bind_eq_some_iff.mp H
 obtain ⟨⟨t324, t327, t328, t329, t330⟩, A30, H⟩ := H
 replace H : (z0d.l0 PF k a1 t324 s0_0 t327 t328 t329 t330) = some (r1, r2, r3, r4, r5) := H
 have A3 := z00.mk A30
 clear A30
 have H' := z00.mk H
 clear H
 go_enter Tryz.func137, Tryz.ntmps137
 go_wp2_with (first | ((with_reducible refine z0s (f := 157) rfl ?_); refine z1r (some 8) rfl rfl Tryz.func157 (by kernel_rfl) rfl #[.pointer (some ⟨g, 0, none⟩), .int .i64 a1] rfl (by (try simp only [List.map_toArray, List.map_cons, List.map_nil]); first | done | rfl | (simp only [List.length_drop, List.length_take]; rfl)) ?_; (with_reducible refine (z06.calls PF HPF k g s0_0 s0_1 s0_2 s0_3 s0_4 a1 t324 t327 t328 t329 t330 w0 _ ?side1 ?side2 A3.out).mono ?_); (case side1 => repeat (first | (with_reducible first | exact HI0.out | apply IsS95.alloc | apply IsS95.drewN | apply IsS95.drew | apply IsS95.set_1 | apply IsS95.set_2 | apply IsS95.set_3 | apply IsS95.set_4) | exact HI0.out)); (case side2 => repeat (first | (with_reducible first | exact HB.out | apply z04 | apply z01 | apply z05 | refine z07 ?_ (IsS95.ge HI0.out)) | exact HB.out)); rintro e w4 ⟨v325, rfl, ho0, hi, hb, hk⟩; refine ⟨_, rfl, ?_⟩; have n0_ := z00.mk (Kd.R_lower ho0 (z35 (w := w) (g := g) (row := none) (by repeat (first | (with_reducible first | exact HK.out | apply z08.set_ | apply z0g | apply z0m | apply z0e) | exact HK.out)))); have n1_ := z00.mk (z08.trans (by repeat (first | (with_reducible first | exact HK.out | apply z08.set_ | apply z0g | apply z0m | apply z0e) | exact HK.out)) hk (.inl rfl)); have n2_ := z00.mk (hb); have n3_ := z00.mk (hi); clear HK; clear HB; clear HI0; have HO326 := n0_; have HK := n1_; have HB := n2_; have HI0 := n3_; clear n0_ n1_ n2_ n3_; (try clear hb); (try clear hb2); (try clear hk); (try clear hi); (try clear ho0)))
 go_loopg [5] k (fun kq v5 w' => ∃ (x5_1 : List (S69)) (x1001_1 : Int) (x1002_1 : Int) (x1003_1 : Int) (x1004_1 : Int), z00 (z0d.l0 PF kq a1 x5_1 s0_0 x1001_1 x1002_1 x1003_1 x1004_1 = some (r1, r2, r3, r4, r5)) ∧ z00 (kq ≤ k) ∧ z00 (Kd.R k69 69 w' w.heap.size (fun _ => True) v5 x5_1) ∧ z00 (IsS95 w0 w' g s0_0 x1001_1 x1002_1 x1003_1 x1004_1) ∧ z00 (z08 w w' g none) ∧ z00 (Below w0.heap.size w0 w'))
 case atStart => exact ⟨(t324), (t327), (t328), (t329), (t330), H', ⟨Nat.le_refl _⟩, ⟨by (with_reducible repeat (first | apply Kd.R_alloc | apply Kd.R_drewN | apply Kd.R_drew)); exact HO326.out⟩, ⟨by repeat (first | (with_reducible first | exact HI0.out | apply IsS95.alloc | apply IsS95.drewN | apply IsS95.drew | apply IsS95.set_1 | apply IsS95.set_2 | apply IsS95.set_3 | apply IsS95.set_4) | exact HI0.out)⟩, ⟨by repeat (first | (with_reducible first | exact HK.out | apply z08.set_ | apply z0g | apply z0m | apply z0e) | exact HK.out)⟩, ⟨by repeat (first | (with_reducible first | exact HB.out | apply z04 | apply z01 | apply z05 | refine z07 ?_ (IsS95.ge HI0.out)) | exact HB.out)⟩⟩
 case round =>
  clear H'
  try clear c1
  try clear p2
  obtain ⟨x5_1, x1001_1, x1002_1, x1003_1, x1004_1, HA, HK1, HO_5, HI0, HK, HB⟩ := hrel
  cases gk with
  | zero => exact absurd HA.out (by simp [z0d.l0])
  | succ k1 =>
   have H := HA.out
   clear HA
   simp only [z0d.l0] at H
   by_cases c5 : x1003_1 = 0
   · rw [if_pos c5] at H
     have c5b0 : (x1003_1 == 0) = true := beq_iff_eq.mpr c5
     have c5b1 : (x1003_1 != 0) = false := bne_eq_false_iff_eq.mpr c5
     clear c5
     replace H := Option.bind_eq_some_iff.mp H
     obtain ⟨⟨t331, t332, t333, t334, t335⟩, A60, H⟩ := H
     replace H : (if t331 = true then ((z06.f PF k1 s0_0 (wrap64 (t332 + 1)) t333 t334 t335 a1).bind fun bt336 => (if x5_1.length + bt336.1.length < 5864062014805 then ((some (x5_1 ++ bt336.1 : List (S69))).bind fun y343 => (if y343.length < 5864062014805 then (z0d.l0 PF k1 a1 (y343 ++ [(⟨3, (⟨#[]⟩ : ByteArray)⟩ : S69)]) s0_0 bt336.2.1 bt336.2.2.1 bt336.2.2.2.1 bt336.2.2.2.2) else (none))) else (none))) else (some (x5_1, t332, t333, t334, t335))) = some (r1, r2, r3, r4, r5) := H
     have A6 := z00.mk A60
     clear A60
     by_cases c7 : t331 = true
     · subst c7
       have H1 : ((z06.f PF k1 s0_0 (wrap64 (t332 + 1)) t333 t334 t335 a1).bind fun bt336 => (if x5_1.length + bt336.1.length < 5864062014805 then ((some (x5_1 ++ bt336.1 : List (S69))).bind fun y343 => (if y343.length < 5864062014805 then (z0d.l0 PF k1 a1 (y343 ++ [(⟨3, (⟨#[]⟩ : ByteArray)⟩ : S69)]) s0_0 bt336.2.1 bt336.2.2.1 bt336.2.2.2.1 bt336.2.2.2.2) else (none))) else (none))) = some (r1, r2, r3, r4, r5) := by rw [if_pos rfl] at H; exact H
       clear H
       have H := H1
       clear H1
       replace H := Option.bind_eq_some_iff.mp H
       obtain ⟨⟨t336, t339, t340, t341, t342⟩, A80, H⟩ := H
       replace H : (if x5_1.length + t336.length < 5864062014805 then ((some (x5_1 ++ t336 : List (S69))).bind fun y343 => (if y343.length < 5864062014805 then (z0d.l0 PF k1 a1 (y343 ++ [(⟨3, (⟨#[]⟩ : ByteArray)⟩ : S69)]) s0_0 t339 t340 t341 t342) else (none))) else (none)) = some (r1, r2, r3, r4, r5) := H
       have A8 := z00.mk A80
       clear A80
       by_cases c9 : x5_1.length + t336.length < 5864062014805
       · rw [if_pos c9] at H
         have LMc9 := z00.mk c9
         clear c9
         obtain ⟨y343, hy343⟩ : ∃ y_ : List (S69), y_ = (x5_1 ++ t336) := ⟨_, rfl⟩
         replace H : (if y343.length < 5864062014805 then (z0d.l0 PF k1 a1 (y343 ++ [(⟨3, (⟨#[]⟩ : ByteArray)⟩ : S69)]) s0_0 t339 t340 t341 t342) else (none)) = some (r1, r2, r3, r4, r5) := by first | (rw [hy343]; with_reducible exact H) | (have H2_ := (Option.bind_some _ _).symm.trans H; rw [hy343]; with_reducible exact H2_) | (have H2_ := (Option.bind_some _ _).symm.trans H; with_reducible exact H2_) | with_reducible exact H | (rw [hy343]; exact H) | exact H
         have Ny343 := z00.mk hy343
         clear hy343
         by_cases c10 : y343.length < 5864062014805
         · rw [if_pos c10] at H
           have LMc10 := z00.mk c10
           clear c10
           obtain ⟨y346, hy346⟩ : ∃ y_ : List (S69), y_ = (y343 ++ [(⟨3, (⟨#[]⟩ : ByteArray)⟩ : S69)]) := ⟨_, rfl⟩
           replace H : (z0d.l0 PF k1 a1 y346 s0_0 t339 t340 t341 t342) = some (r1, r2, r3, r4, r5) := by first | (rw [hy346]; with_reducible exact H) | (have H2_ := (Option.bind_some _ _).symm.trans H; rw [hy346]; with_reducible exact H2_) | (have H2_ := (Option.bind_some _ _).symm.trans H; with_reducible exact H2_) | with_reducible exact H | (rw [hy346]; exact H) | exact H
           have Ny346 := z00.mk hy346
           clear hy346
           have H' := z00.mk H
           clear H
           obtain ⟨ASz11_0, cSz11_0, HGz11, hgz11, HSz11_0⟩ := HI0.out
           have hcz11_0 := z29 HGz11
           have hcz11_1 := z2a HGz11
           have hcz11_2 := z2b HGz11
           have hcz11_3 := z2d HGz11
           have hcz11_4 := z2c HGz11
           have hfz11_1 := z02 HGz11 1
           have hfz11_2 := z02 HGz11 2
           have hfz11_3 := z02 HGz11 3
           have hfz11_4 := z02 HGz11 4
           clear HGz11 hgz11
           go_wp2_with (first | (go_at_call 55; (with_reducible refine (z0c.calls g s0_0 x1001_1 x1002_1 x1003_1 x1004_1 0 4 (⟨#[47]⟩ : ByteArray) true t332 t333 t334 t335 w0 _ ?side1 ?side2 A6.out).mono ?_); (case side1 => repeat (first | (with_reducible first | exact HI0.out | apply IsS95.alloc | apply IsS95.drewN | apply IsS95.drew | apply IsS95.set_1 | apply IsS95.set_2 | apply IsS95.set_3 | apply IsS95.set_4) | exact HI0.out)); (case side2 => repeat (first | (with_reducible first | exact HB.out | apply z04 | apply z01 | apply z05 | refine z07 ?_ (IsS95.ge HI0.out)) | exact HB.out)); rintro e w12 ⟨rfl, hi, hb, hk⟩; have n0_ := z00.mk (Kd.R_mono (Kd.R_keep (IsS95.apart (show IsS95 w0 _ g s0_0 x1001_1 x1002_1 x1003_1 x1004_1 from by repeat (first | (with_reducible first | exact HI0.out | apply IsS95.alloc | apply IsS95.drewN | apply IsS95.drew | apply IsS95.set_1 | apply IsS95.set_2 | apply IsS95.set_3 | apply IsS95.set_4) | exact HI0.out)) (by (with_reducible repeat (first | apply Kd.R_alloc | apply Kd.R_drewN | apply Kd.R_drew)); exact HO_5.out) (by decide)) hk (fun _ h => h.2)) (fun _ h => h.1)); have n1_ := z00.mk (z08.trans (by repeat (first | (with_reducible first | exact HK.out | apply z08.set_ | apply z0g | apply z0m | apply z0e) | exact HK.out)) hk (.inl rfl)); have n2_ := z00.mk (hb); have n3_ := z00.mk (hi); clear HO_5; clear HK; clear HB; clear HI0; have HO_5 := n0_; have HK := n1_; have HB := n2_; have HI0 := n3_; clear n0_ n1_ n2_ n3_; (try clear hb); (try clear hb2); (try clear hk); (try clear hi); obtain ⟨ASz13_0, cSz13_0, HGz13, hgz13, HSz13_0⟩ := HI0.out; have hcz13_0 := z29 HGz13; have hcz13_1 := z2a HGz13; have hcz13_2 := z2b HGz13; have hcz13_3 := z2d HGz13; have hcz13_4 := z2c HGz13; have hfz13_1 := z02 HGz13 1; have hfz13_2 := z02 HGz13 2; have hfz13_3 := z02 HGz13 3; have hfz13_4 := z02 HGz13 4; clear HGz13 hgz13) | ((with_reducible refine z0s (f := 157) rfl ?_); refine z1r (some 29) rfl rfl Tryz.func157 (by kernel_rfl) rfl #[.pointer (some ⟨g, 0, none⟩), .int .i64 a1] rfl (by (try simp only [List.map_toArray, List.map_cons, List.map_nil]); first | done | rfl | (simp only [List.length_drop, List.length_take]; rfl)) ?_; (with_reducible refine (z06.calls PF HPF k1 g s0_0 (wrap64 (t332 + 1)) t333 t334 t335 a1 t336 t339 t340 t341 t342 w0 _ ?side1 ?side2 A8.out).mono ?_); (case side1 => repeat (first | (with_reducible first | exact HI0.out | apply IsS95.alloc | apply IsS95.drewN | apply IsS95.drew | apply IsS95.set_1 | apply IsS95.set_2 | apply IsS95.set_3 | apply IsS95.set_4) | exact HI0.out)); (case side2 => repeat (first | (with_reducible first | exact HB.out | apply z04 | apply z01 | apply z05 | refine z07 ?_ (IsS95.ge HI0.out)) | exact HB.out)); rintro e w14 ⟨v337, rfl, ho0, hi, hb, hk⟩; refine ⟨_, rfl, ?_⟩; have n0_ := z00.mk (Kd.R_mono (Kd.R_told (Kd.R_oldK (IsS95.apart (show IsS95 w0 _ g s0_0 (wrap64 (t332 + 1)) t333 t334 t335 from by repeat (first | (with_reducible first | exact HI0.out | apply IsS95.alloc | apply IsS95.drewN | apply IsS95.drew | apply IsS95.set_1 | apply IsS95.set_2 | apply IsS95.set_3 | apply IsS95.set_4) | exact HI0.out)) (by (with_reducible repeat (first | apply Kd.R_alloc | apply Kd.R_drewN | apply Kd.R_drew)); exact (Kd.R_mono (Kd.R_far (p := ⟨g, 1, none⟩) (IsS95.apart HI0.out HO_5.out (by decide)) (fun _ hk => hk.2) (.int .i64 (wrap64 (t332 + 1)))) (fun _ h_ => h_.1))) (by decide)) hk) (Kd.R_base ho0)) (fun _ h_ => h_.1)); have n1_ := z00.mk (Kd.R_lower (Kd.R_new' ho0 (Kd.R_lt (by (with_reducible repeat (first | apply Kd.R_alloc | apply Kd.R_drewN | apply Kd.R_drew)); exact (Kd.R_mono (Kd.R_far (p := ⟨g, 1, none⟩) (IsS95.apart HI0.out HO_5.out (by decide)) (fun _ hk => hk.2) (.int .i64 (wrap64 (t332 + 1)))) (fun _ h_ => h_.1))))) (z35 (w := w) (g := g) (row := none) (by repeat (first | (with_reducible first | exact HK.out | apply z08.set_ | apply z0g | apply z0m | apply z0e) | exact HK.out)))); have n2_ := z00.mk (z08.trans (by repeat (first | (with_reducible first | exact HK.out | apply z08.set_ | apply z0g | apply z0m | apply z0e) | exact HK.out)) hk (.inl rfl)); have n3_ := z00.mk (hb); have n4_ := z00.mk (hi); clear HO_5; clear HK; clear HB; clear HI0; have HO_5 := n0_; have HO338 := n1_; have HK := n2_; have HB := n3_; have HI0 := n4_; clear n0_ n1_ n2_ n3_ n4_; (try clear hb); (try clear hb2); (try clear hk); (try clear hi); (try clear ho0); obtain ⟨Ao16, co16, eo16⟩ := Kd.R_slice HO338.out; subst eo16) | ((with_reducible refine z1s (b := .append) (xs := #[.tmp 26, .tmp 29]) rfl ?_); at_builtin; refine Kd.R_append_rows k69 w.heap.size rfl (.tmp 26) (.tmp 29) 37 69 (.agg #[(.int .i64 0), (.string ⟨#[]⟩)]) 24 rfl Tryz.underlying37 z9g rfl (by decide) (by omega) u5 x5_1 t336 _ _ _ (fun k_ => some k_ ≠ (.slice Ao16 t336.length co16 : Value).ownBlock) (fun _ => False) rfl rfl ?aO ?aR (fun _ _ h => h) (fun _ h => h.elim) ?aF (Below.refl _ _) ?aS ?aL ?_; (case aR => repeat (first | exact (Kd.R_reads' HO338.out).2.2 | (with_reducible refine Kd.C_alloc ?_ _) | (with_reducible refine Kd.C_drewN ?_ _) | (with_reducible refine Kd.C_drew ?_))); (case aF => exact (fun k_ hk => Kd.fresh' (Kd.R_lt (by (with_reducible repeat (first | apply Kd.R_alloc | apply Kd.R_drewN | apply Kd.R_drew)); exact HO338.out)) k_ hk)); (case aO => exact (by (with_reducible repeat (first | apply Kd.R_alloc | apply Kd.R_drewN | apply Kd.R_drew)); exact Kd.R_mono HO_5.out (fun _ hk => hk.2))); (case aS => exact (z35 (w := w) (g := g) (row := none) (by repeat (first | (with_reducible first | exact HK.out | apply z08.set_ | apply z0g | apply z0m | apply z0e) | exact HK.out)))); (case aL => have := LMc9.out; omega); intro v344 w15 ho hb hg hat; rw [← Ny343.out] at ho; have n0_ := z00.mk (IsS95.grown (by repeat (first | (with_reducible first | exact HI0.out | apply IsS95.alloc | apply IsS95.drewN | apply IsS95.drew | apply IsS95.set_1 | apply IsS95.set_2 | apply IsS95.set_3 | apply IsS95.set_4) | exact HI0.out)) hg (IsS95.own_ne HI0.out HO_5.out (by decide))); have n1_ := z00.mk (Kd.R_after (ok := (fun _ => True)) (by (with_reducible repeat (first | apply Kd.R_alloc | apply Kd.R_drewN | apply Kd.R_drew)); exact HO338.out) hg hat); have n2_ := z00.mk (z2t (by repeat (first | (with_reducible first | exact HB.out | apply z04 | apply z01 | apply z05 | refine z07 ?_ (IsS95.ge HI0.out)) | exact HB.out)) HL.out hb); have n3_ := z00.mk (z08.trans (by repeat (first | (with_reducible first | exact HK.out | apply z08.set_ | apply z0g | apply z0m | apply z0e) | exact HK.out)) (z08.of_grown hg g) (Kd.R_base2 HO_5.out)); have n4_ := z00.mk (ho); clear HI0; clear HO338; clear HB; clear HK; clear HO_5; have HI0 := n0_; have HO338 := n1_; have HB := n2_; have HK := n3_; have HO345 := n4_; clear n0_ n1_ n2_ n3_ n4_; clear ho hb hg hat) | ((with_reducible refine z1s (b := .append) (xs := #[.tmp 30, .tmp 32]) rfl ?_); at_builtin; refine Kd.R_append k69 w.heap.size rfl (.tmp 30) (.tmp 32) 37 69 (.agg #[(.int .i64 0), (.string ⟨#[]⟩)]) 24 rfl Tryz.underlying37 z9g rfl (by decide) (by omega) v344 y343 (⟨3, (⟨#[]⟩ : ByteArray)⟩ : S69) [.int .i64 3, .string (⟨#[]⟩ : ByteArray)] (fun k_ => some k_ ≠ (.slice Ao16 t336.length co16 : Value).ownBlock) (fun _ => False) rfl rfl ?aP (fun _ hk => hk.elim) ?aF ?aO (Below.refl _ _) ?aS ?aL ?_; (case aP => exact z3e _ _ _ (⟨3, (⟨#[]⟩ : ByteArray)⟩ : S69)); (case aF => exact (fun k_ hk => Kd.fresh' (Kd.R_lt (by (with_reducible repeat (first | apply Kd.R_alloc | apply Kd.R_drewN | apply Kd.R_drew)); exact HO338.out)) k_ hk)); (case aO => exact (by (with_reducible repeat (first | apply Kd.R_alloc | apply Kd.R_drewN | apply Kd.R_drew)); exact HO345.out)); (case aS => exact (z35 (w := w) (g := g) (row := none) (by repeat (first | (with_reducible first | exact HK.out | apply z08.set_ | apply z0g | apply z0m | apply z0e) | exact HK.out)))); (case aL => have := LMc10.out; omega); intro v347 w17 ho hb hg hat; rw [← Ny346.out] at ho; have n0_ := z00.mk (IsS95.grown (by repeat (first | (with_reducible first | exact HI0.out | apply IsS95.alloc | apply IsS95.drewN | apply IsS95.drew | apply IsS95.set_1 | apply IsS95.set_2 | apply IsS95.set_3 | apply IsS95.set_4) | exact HI0.out)) hg (IsS95.own_ne HI0.out HO345.out (by decide))); have n1_ := z00.mk (Kd.R_after (ok := (fun _ => True)) (by (with_reducible repeat (first | apply Kd.R_alloc | apply Kd.R_drewN | apply Kd.R_drew)); exact HO338.out) hg hat); have n2_ := z00.mk (z2t (by repeat (first | (with_reducible first | exact HB.out | apply z04 | apply z01 | apply z05 | refine z07 ?_ (IsS95.ge HI0.out)) | exact HB.out)) HL.out hb); have n3_ := z00.mk (z08.trans (by repeat (first | (with_reducible first | exact HK.out | apply z08.set_ | apply z0g | apply z0m | apply z0e) | exact HK.out)) (z08.of_grown hg g) (Kd.R_base2 HO345.out)); have n4_ := z00.mk (ho); clear HI0; clear HO338; clear HB; clear HK; clear HO345; have HI0 := n0_; have HO338 := n1_; have HB := n2_; have HK := n3_; have HO348 := n4_; clear n0_ n1_ n2_ n3_ n4_; clear ho hb hg hat))
           go_roundg k1
           case measure => have := HK1.out; omega
           case rel => exact ⟨(y346), (t339), (t340), (t341), (t342), H', ⟨by have := HK1.out; omega⟩, ⟨by (with_reducible repeat (first | apply Kd.R_alloc | apply Kd.R_drewN | apply Kd.R_drew)); exact Kd.R_mono HO348.out (fun _ hk => trivial)⟩, ⟨by repeat (first | (with_reducible first | exact HI0.out | apply IsS95.alloc | apply IsS95.drewN | apply IsS95.drew | apply IsS95.set_1 | apply IsS95.set_2 | apply IsS95.set_3 | apply IsS95.set_4) | exact HI0.out)⟩, ⟨by repeat (first | (with_reducible first | exact HK.out | apply z08.set_ | apply z0g | apply z0m | apply z0e) | exact HK.out)⟩, ⟨by repeat (first | (with_reducible first | exact HB.out | apply z04 | apply z01 | apply z05 | refine z07 ?_ (IsS95.ge HI0.out)) | exact HB.out)⟩⟩
         · rw [if_neg c10] at H
           exact absurd H (by simp)
       · rw [if_neg c9] at H
         exact absurd H (by simp)
     · replace c7 := Bool.eq_false_iff.mpr c7
       subst c7
       have H1 : (some (x5_1, t332, t333, t334, t335)) = some (r1, r2, r3, r4, r5) := by rw [if_neg (show ¬ (false = true) by decide)] at H; exact H
       clear H
       have H := H1
       clear H1
       simp only [Option.some.injEq, Prod.mk.injEq] at H
       obtain ⟨rfl, rfl, rfl, rfl, rfl⟩ := H
       obtain ⟨ASz18_0, cSz18_0, HGz18, hgz18, HSz18_0⟩ := HI0.out
       have hcz18_0 := z29 HGz18
       have hcz18_1 := z2a HGz18
       have hcz18_2 := z2b HGz18
       have hcz18_3 := z2d HGz18
       have hcz18_4 := z2c HGz18
       have hfz18_1 := z02 HGz18 1
       have hfz18_2 := z02 HGz18 2
       have hfz18_3 := z02 HGz18 3
       have hfz18_4 := z02 HGz18 4
       clear HGz18 hgz18
       go_wp2_with (first | (go_at_call 55; (with_reducible refine (z0c.calls g s0_0 x1001_1 x1002_1 x1003_1 x1004_1 0 4 (⟨#[47]⟩ : ByteArray) false t332 t333 t334 t335 w0 _ ?side1 ?side2 A6.out).mono ?_); (case side1 => repeat (first | (with_reducible first | exact HI0.out | apply IsS95.alloc | apply IsS95.drewN | apply IsS95.drew | apply IsS95.set_1 | apply IsS95.set_2 | apply IsS95.set_3 | apply IsS95.set_4) | exact HI0.out)); (case side2 => repeat (first | (with_reducible first | exact HB.out | apply z04 | apply z01 | apply z05 | refine z07 ?_ (IsS95.ge HI0.out)) | exact HB.out)); rintro e w19 ⟨rfl, hi, hb, hk⟩; have n0_ := z00.mk (Kd.R_mono (Kd.R_keep (IsS95.apart (show IsS95 w0 _ g s0_0 x1001_1 x1002_1 x1003_1 x1004_1 from by repeat (first | (with_reducible first | exact HI0.out | apply IsS95.alloc | apply IsS95.drewN | apply IsS95.drew | apply IsS95.set_1 | apply IsS95.set_2 | apply IsS95.set_3 | apply IsS95.set_4) | exact HI0.out)) (by (with_reducible repeat (first | apply Kd.R_alloc | apply Kd.R_drewN | apply Kd.R_drew)); exact HO_5.out) (by decide)) hk (fun _ h => h.2)) (fun _ h => h.1)); have n1_ := z00.mk (z08.trans (by repeat (first | (with_reducible first | exact HK.out | apply z08.set_ | apply z0g | apply z0m | apply z0e) | exact HK.out)) hk (.inl rfl)); have n2_ := z00.mk (hb); have n3_ := z00.mk (hi); clear HO_5; clear HK; clear HB; clear HI0; have HO_5 := n0_; have HK := n1_; have HB := n2_; have HI0 := n3_; clear n0_ n1_ n2_ n3_; (try clear hb); (try clear hb2); (try clear hk); (try clear hi)))
       go_ret
       exact ⟨_, by first | rfl | (simp [z0n, z0o] <;> rfl) | (simp [*, z0n, z0o] <;> rfl), by (with_reducible repeat (first | apply Kd.R_alloc | apply Kd.R_drewN | apply Kd.R_drew)); exact HO_5.out, by repeat (first | (with_reducible first | exact HI0.out | apply IsS95.alloc | apply IsS95.drewN | apply IsS95.drew | apply IsS95.set_1 | apply IsS95.set_2 | apply IsS95.set_3 | apply IsS95.set_4) | exact HI0.out), by repeat (first | (with_reducible first | exact HB.out | apply z04 | apply z01 | apply z05 | refine z07 ?_ (IsS95.ge HI0.out)) | exact HB.out), by repeat (first | (with_reducible first | exact HK.out | apply z08.set_ | apply z0g | apply z0m | apply z0e) | exact HK.out)⟩
   · rw [if_neg c5] at H
     have c5b0 : (x1003_1 == 0) = false := beq_eq_false_iff_ne.mpr c5
     have c5b1 : (x1003_1 != 0) = true := bne_iff_ne.mpr c5
     simp only [Option.some.injEq, Prod.mk.injEq] at H
     obtain ⟨rfl, rfl, rfl, rfl, rfl⟩ := H
     obtain ⟨ASz20_0, cSz20_0, HGz20, hgz20, HSz20_0⟩ := HI0.out
     have hcz20_0 := z29 HGz20
     have hcz20_1 := z2a HGz20
     have hcz20_2 := z2b HGz20
     have hcz20_3 := z2d HGz20
     have hcz20_4 := z2c HGz20
     have hfz20_1 := z02 HGz20 1
     have hfz20_2 := z02 HGz20 2
     have hfz20_3 := z02 HGz20 3
     have hfz20_4 := z02 HGz20 4
     clear HGz20 hgz20
     go_wp2
     go_ret
     exact ⟨_, by first | rfl | (simp [z0n, z0o] <;> rfl) | (simp [*, z0n, z0o] <;> rfl), by (with_reducible repeat (first | apply Kd.R_alloc | apply Kd.R_drewN | apply Kd.R_drew)); exact HO_5.out, by repeat (first | (with_reducible first | exact HI0.out | apply IsS95.alloc | apply IsS95.drewN | apply IsS95.drew | apply IsS95.set_1 | apply IsS95.set_2 | apply IsS95.set_3 | apply IsS95.set_4) | exact HI0.out), by repeat (first | (with_reducible first | exact HB.out | apply z04 | apply z01 | apply z05 | refine z07 ?_ (IsS95.ge HI0.out)) | exact HB.out), by repeat (first | (with_reducible first | exact HK.out | apply z08.set_ | apply z0g | apply z0m | apply z0e) | exact HK.out)⟩
def z0q.l0 (PF : PFT) : Nat → Int → List (S69) → List (S53) → Int → Int → Int → Int → Option ((List (S69)) × Int × Int × Int × Int)
 | 0, _, _, _, _, _, _, _ => none
 | k + 1, x1, x5, x1000, x1001, x1002, x1003, x1004 => if x1003 = 0 then ((z0c.f x1000 x1001 x1002 x1003 x1004 0 4 (⟨#[124]⟩ : ByteArray)).bind fun bt214 => (if bt214.1 = true then ((z0d.f PF k x1000 (wrap64 (bt214.2.1 + 1)) bt214.2.2.1 bt214.2.2.2.1 bt214.2.2.2.2 x1).bind fun bt219 => (if x5.length + bt219.1.length < 5864062014805 then ((some (x5 ++ bt219.1 : List (S69))).bind fun y226 => (if y226.length < 5864062014805 then (z0q.l0 PF k x1 (y226 ++ [(⟨4, (⟨#[]⟩ : ByteArray)⟩ : S69)]) x1000 bt219.2.1 bt219.2.2.1 bt219.2.2.2.1 bt219.2.2.2.2) else (none))) else (none))) else (some (x5, bt214.2.1, bt214.2.2.1, bt214.2.2.2.1, bt214.2.2.2.2)))) else (some (x5, x1001, x1002, x1003, x1004))
def z0q.f (PF : PFT) (k : Nat) (s0_0 : List (S53)) (s0_1 : Int) (s0_2 : Int) (s0_3 : Int) (s0_4 : Int) (a1 : Int) : Option ((List (S69)) × Int × Int × Int × Int) := (z0d.f PF k s0_0 s0_1 s0_2 s0_3 s0_4 a1).bind fun bt207 => (z0q.l0 PF k a1 bt207.1 s0_0 bt207.2.1 bt207.2.2.1 bt207.2.2.2.1 bt207.2.2.2.2)
set_option maxHeartbeats 8000000 in
set_option maxRecDepth 100000 in
theorem z0q.calls (PF : PFT) (HPF : PFC PF) (k : Nat) (g : Nat) (s0_0 : List (S53)) (s0_1 : Int) (s0_2 : Int) (s0_3 : Int) (s0_4 : Int) (a1 : Int) (r1 : List (S69)) (r2 : Int) (r3 : Int) (r4 : Int) (r5 : Int) (w0 w : World) (hI : IsS95 w0 w g s0_0 s0_1 s0_2 s0_3 s0_4) (hB : Below w0.heap.size w0 w) (h : z0q.f PF k s0_0 s0_1 s0_2 s0_3 s0_4 a1 = some (r1, r2, r3, r4, r5)) :
 Calls Tryz.prog 105 #[.pointer (some ⟨g, 0, none⟩), .int .i64 a1] w fun e w' => ∃ v0_ : Value, e = .returned (v0_) ∧ Kd.R k69 69 w' w.heap.size (fun _ => True) v0_ r1 ∧ IsS95 w0 w' g s0_0 r2 r3 r4 r5 ∧ Below w0.heap.size w0 w' ∧ z08 w w' g none := by
 have hu69 := Tryz.underlying69
 have HI0 := z00.mk hI
 have HK := z00.mk (z08.refl w g none)
 have HL := z00.mk hB.size
 clear hI
 have HW0 := z00.mk hB.size
 have HB := z00.mk hB
 clear hB
 have H : ((z0d.f PF k s0_0 s0_1 s0_2 s0_3 s0_4 a1).bind fun bt207 => (z0q.l0 PF k a1 bt207.1 s0_0 bt207.2.1 bt207.2.2.1 bt207.2.2.2.1 bt207.2.2.2.2)) = some (r1, r2, r3, r4, r5) := h
 clear h
 replace H := Option.bind_eq_some_iff.mp H
 obtain ⟨⟨t207, t210, t211, t212, t213⟩, A30, H⟩ := H
 replace H : (z0q.l0 PF k a1 t207 s0_0 t210 t211 t212 t213) = some (r1, r2, r3, r4, r5) := H
 have A3 := z00.mk A30
 clear A30
 have H' := z00.mk H
 clear H
 go_enter Tryz.func105, Tryz.ntmps105
 go_wp2_with (first | ((with_reducible refine z0s (f := 137) rfl ?_); refine z1r (some 8) rfl rfl Tryz.func137 (by kernel_rfl) rfl #[.pointer (some ⟨g, 0, none⟩), .int .i64 a1] rfl (by (try simp only [List.map_toArray, List.map_cons, List.map_nil]); first | done | rfl | (simp only [List.length_drop, List.length_take]; rfl)) ?_; (with_reducible refine (z0d.calls PF HPF k g s0_0 s0_1 s0_2 s0_3 s0_4 a1 t207 t210 t211 t212 t213 w0 _ ?side1 ?side2 A3.out).mono ?_); (case side1 => repeat (first | (with_reducible first | exact HI0.out | apply IsS95.alloc | apply IsS95.drewN | apply IsS95.drew | apply IsS95.set_1 | apply IsS95.set_2 | apply IsS95.set_3 | apply IsS95.set_4) | exact HI0.out)); (case side2 => repeat (first | (with_reducible first | exact HB.out | apply z04 | apply z01 | apply z05 | refine z07 ?_ (IsS95.ge HI0.out)) | exact HB.out)); rintro e w4 ⟨v208, rfl, ho0, hi, hb, hk⟩; refine ⟨_, rfl, ?_⟩; have n0_ := z00.mk (Kd.R_lower ho0 (z35 (w := w) (g := g) (row := none) (by repeat (first | (with_reducible first | exact HK.out | apply z08.set_ | apply z0g | apply z0m | apply z0e) | exact HK.out)))); have n1_ := z00.mk (z08.trans (by repeat (first | (with_reducible first | exact HK.out | apply z08.set_ | apply z0g | apply z0m | apply z0e) | exact HK.out)) hk (.inl rfl)); have n2_ := z00.mk (hb); have n3_ := z00.mk (hi); clear HK; clear HB; clear HI0; have HO209 := n0_; have HK := n1_; have HB := n2_; have HI0 := n3_; clear n0_ n1_ n2_ n3_; (try clear hb); (try clear hb2); (try clear hk); (try clear hi); (try clear ho0)))
 go_loopg [5] k (fun kq v5 w' => ∃ (x5_1 : List (S69)) (x1001_1 : Int) (x1002_1 : Int) (x1003_1 : Int) (x1004_1 : Int), z00 (z0q.l0 PF kq a1 x5_1 s0_0 x1001_1 x1002_1 x1003_1 x1004_1 = some (r1, r2, r3, r4, r5)) ∧ z00 (kq ≤ k) ∧ z00 (Kd.R k69 69 w' w.heap.size (fun _ => True) v5 x5_1) ∧ z00 (IsS95 w0 w' g s0_0 x1001_1 x1002_1 x1003_1 x1004_1) ∧ z00 (z08 w w' g none) ∧ z00 (Below w0.heap.size w0 w'))
 case atStart => exact ⟨(t207), (t210), (t211), (t212), (t213), H', ⟨Nat.le_refl _⟩, ⟨by (with_reducible repeat (first | apply Kd.R_alloc | apply Kd.R_drewN | apply Kd.R_drew)); exact HO209.out⟩, ⟨by repeat (first | (with_reducible first | exact HI0.out | apply IsS95.alloc | apply IsS95.drewN | apply IsS95.drew | apply IsS95.set_1 | apply IsS95.set_2 | apply IsS95.set_3 | apply IsS95.set_4) | exact HI0.out)⟩, ⟨by repeat (first | (with_reducible first | exact HK.out | apply z08.set_ | apply z0g | apply z0m | apply z0e) | exact HK.out)⟩, ⟨by repeat (first | (with_reducible first | exact HB.out | apply z04 | apply z01 | apply z05 | refine z07 ?_ (IsS95.ge HI0.out)) | exact HB.out)⟩⟩
 case round =>
  clear H'
  try clear c1
  try clear p2
  obtain ⟨x5_1, x1001_1, x1002_1, x1003_1, x1004_1, HA, HK1, HO_5, HI0, HK, HB⟩ := hrel
  cases gk with
  | zero => exact absurd HA.out (by simp [z0q.l0])
  | succ k1 =>
   have H := HA.out
   clear HA
   simp only [z0q.l0] at H
   by_cases c5 : x1003_1 = 0
   · rw [if_pos c5] at H
     have c5b0 : (x1003_1 == 0) = true := beq_iff_eq.mpr c5
     have c5b1 : (x1003_1 != 0) = false := bne_eq_false_iff_eq.mpr c5
     clear c5
     replace H := Option.bind_eq_some_iff.mp H
     obtain ⟨⟨t214, t215, t216, t217, t218⟩, A60, H⟩ := H
     replace H : (if t214 = true then ((z0d.f PF k1 s0_0 (wrap64 (t215 + 1)) t216 t217 t218 a1).bind fun bt219 => (if x5_1.length + bt219.1.length < 5864062014805 then ((some (x5_1 ++ bt219.1 : List (S69))).bind fun y226 => (if y226.length < 5864062014805 then (z0q.l0 PF k1 a1 (y226 ++ [(⟨4, (⟨#[]⟩ : ByteArray)⟩ : S69)]) s0_0 bt219.2.1 bt219.2.2.1 bt219.2.2.2.1 bt219.2.2.2.2) else (none))) else (none))) else (some (x5_1, t215, t216, t217, t218))) = some (r1, r2, r3, r4, r5) := H
     have A6 := z00.mk A60
     clear A60
     by_cases c7 : t214 = true
     · subst c7
       have H1 : ((z0d.f PF k1 s0_0 (wrap64 (t215 + 1)) t216 t217 t218 a1).bind fun bt219 => (if x5_1.length + bt219.1.length < 5864062014805 then ((some (x5_1 ++ bt219.1 : List (S69))).bind fun y226 => (if y226.length < 5864062014805 then (z0q.l0 PF k1 a1 (y226 ++ [(⟨4, (⟨#[]⟩ : ByteArray)⟩ : S69)]) s0_0 bt219.2.1 bt219.2.2.1 bt219.2.2.2.1 bt219.2.2.2.2) else (none))) else (none))) = some (r1, r2, r3, r4, r5) := by rw [if_pos rfl] at H; exact H
       clear H
       have H := H1
       clear H1
       replace H := Option.bind_eq_some_iff.mp H
       obtain ⟨⟨t219, t222, t223, t224, t225⟩, A80, H⟩ := H
       replace H : (if x5_1.length + t219.length < 5864062014805 then ((some (x5_1 ++ t219 : List (S69))).bind fun y226 => (if y226.length < 5864062014805 then (z0q.l0 PF k1 a1 (y226 ++ [(⟨4, (⟨#[]⟩ : ByteArray)⟩ : S69)]) s0_0 t222 t223 t224 t225) else (none))) else (none)) = some (r1, r2, r3, r4, r5) := H
       have A8 := z00.mk A80
       clear A80
       by_cases c9 : x5_1.length + t219.length < 5864062014805
       · rw [if_pos c9] at H
         have LMc9 := z00.mk c9
         clear c9
         obtain ⟨y226, hy226⟩ : ∃ y_ : List (S69), y_ = (x5_1 ++ t219) := ⟨_, rfl⟩
         replace H : (if y226.length < 5864062014805 then (z0q.l0 PF k1 a1 (y226 ++ [(⟨4, (⟨#[]⟩ : ByteArray)⟩ : S69)]) s0_0 t222 t223 t224 t225) else (none)) = some (r1, r2, r3, r4, r5) := by first | (rw [hy226]; with_reducible exact H) | (have H2_ := (Option.bind_some _ _).symm.trans H; rw [hy226]; with_reducible exact H2_) | (have H2_ := (Option.bind_some _ _).symm.trans H; with_reducible exact H2_) | with_reducible exact H | (rw [hy226]; exact H) | exact H
         have Ny226 := z00.mk hy226
         clear hy226
         by_cases c10 : y226.length < 5864062014805
         · rw [if_pos c10] at H
           have LMc10 := z00.mk c10
           clear c10
           obtain ⟨y229, hy229⟩ : ∃ y_ : List (S69), y_ = (y226 ++ [(⟨4, (⟨#[]⟩ : ByteArray)⟩ : S69)]) := ⟨_, rfl⟩
           replace H : (z0q.l0 PF k1 a1 y229 s0_0 t222 t223 t224 t225) = some (r1, r2, r3, r4, r5) := by first | (rw [hy229]; with_reducible exact H) | (have H2_ := (Option.bind_some _ _).symm.trans H; rw [hy229]; with_reducible exact H2_) | (have H2_ := (Option.bind_some _ _).symm.trans H; with_reducible exact H2_) | with_reducible exact H | (rw [hy229]; exact H) | exact H
           have Ny229 := z00.mk hy229
           clear hy229
           have H' := z00.mk H
           clear H
           obtain ⟨ASz11_0, cSz11_0, HGz11, hgz11, HSz11_0⟩ := HI0.out
           have hcz11_0 := z29 HGz11
           have hcz11_1 := z2a HGz11
           have hcz11_2 := z2b HGz11
           have hcz11_3 := z2d HGz11
           have hcz11_4 := z2c HGz11
           have hfz11_1 := z02 HGz11 1
           have hfz11_2 := z02 HGz11 2
           have hfz11_3 := z02 HGz11 3
           have hfz11_4 := z02 HGz11 4
           clear HGz11 hgz11
           go_wp2_with (first | (go_at_call 55; (with_reducible refine (z0c.calls g s0_0 x1001_1 x1002_1 x1003_1 x1004_1 0 4 (⟨#[124]⟩ : ByteArray) true t215 t216 t217 t218 w0 _ ?side1 ?side2 A6.out).mono ?_); (case side1 => repeat (first | (with_reducible first | exact HI0.out | apply IsS95.alloc | apply IsS95.drewN | apply IsS95.drew | apply IsS95.set_1 | apply IsS95.set_2 | apply IsS95.set_3 | apply IsS95.set_4) | exact HI0.out)); (case side2 => repeat (first | (with_reducible first | exact HB.out | apply z04 | apply z01 | apply z05 | refine z07 ?_ (IsS95.ge HI0.out)) | exact HB.out)); rintro e w12 ⟨rfl, hi, hb, hk⟩; have n0_ := z00.mk (Kd.R_mono (Kd.R_keep (IsS95.apart (show IsS95 w0 _ g s0_0 x1001_1 x1002_1 x1003_1 x1004_1 from by repeat (first | (with_reducible first | exact HI0.out | apply IsS95.alloc | apply IsS95.drewN | apply IsS95.drew | apply IsS95.set_1 | apply IsS95.set_2 | apply IsS95.set_3 | apply IsS95.set_4) | exact HI0.out)) (by (with_reducible repeat (first | apply Kd.R_alloc | apply Kd.R_drewN | apply Kd.R_drew)); exact HO_5.out) (by decide)) hk (fun _ h => h.2)) (fun _ h => h.1)); have n1_ := z00.mk (z08.trans (by repeat (first | (with_reducible first | exact HK.out | apply z08.set_ | apply z0g | apply z0m | apply z0e) | exact HK.out)) hk (.inl rfl)); have n2_ := z00.mk (hb); have n3_ := z00.mk (hi); clear HO_5; clear HK; clear HB; clear HI0; have HO_5 := n0_; have HK := n1_; have HB := n2_; have HI0 := n3_; clear n0_ n1_ n2_ n3_; (try clear hb); (try clear hb2); (try clear hk); (try clear hi); obtain ⟨ASz13_0, cSz13_0, HGz13, hgz13, HSz13_0⟩ := HI0.out; have hcz13_0 := z29 HGz13; have hcz13_1 := z2a HGz13; have hcz13_2 := z2b HGz13; have hcz13_3 := z2d HGz13; have hcz13_4 := z2c HGz13; have hfz13_1 := z02 HGz13 1; have hfz13_2 := z02 HGz13 2; have hfz13_3 := z02 HGz13 3; have hfz13_4 := z02 HGz13 4; clear HGz13 hgz13) | ((with_reducible refine z0s (f := 137) rfl ?_); refine z1r (some 29) rfl rfl Tryz.func137 (by kernel_rfl) rfl #[.pointer (some ⟨g, 0, none⟩), .int .i64 a1] rfl (by (try simp only [List.map_toArray, List.map_cons, List.map_nil]); first | done | rfl | (simp only [List.length_drop, List.length_take]; rfl)) ?_; (with_reducible refine (z0d.calls PF HPF k1 g s0_0 (wrap64 (t215 + 1)) t216 t217 t218 a1 t219 t222 t223 t224 t225 w0 _ ?side1 ?side2 A8.out).mono ?_); (case side1 => repeat (first | (with_reducible first | exact HI0.out | apply IsS95.alloc | apply IsS95.drewN | apply IsS95.drew | apply IsS95.set_1 | apply IsS95.set_2 | apply IsS95.set_3 | apply IsS95.set_4) | exact HI0.out)); (case side2 => repeat (first | (with_reducible first | exact HB.out | apply z04 | apply z01 | apply z05 | refine z07 ?_ (IsS95.ge HI0.out)) | exact HB.out)); rintro e w14 ⟨v220, rfl, ho0, hi, hb, hk⟩; refine ⟨_, rfl, ?_⟩; have n0_ := z00.mk (Kd.R_mono (Kd.R_told (Kd.R_oldK (IsS95.apart (show IsS95 w0 _ g s0_0 (wrap64 (t215 + 1)) t216 t217 t218 from by repeat (first | (with_reducible first | exact HI0.out | apply IsS95.alloc | apply IsS95.drewN | apply IsS95.drew | apply IsS95.set_1 | apply IsS95.set_2 | apply IsS95.set_3 | apply IsS95.set_4) | exact HI0.out)) (by (with_reducible repeat (first | apply Kd.R_alloc | apply Kd.R_drewN | apply Kd.R_drew)); exact (Kd.R_mono (Kd.R_far (p := ⟨g, 1, none⟩) (IsS95.apart HI0.out HO_5.out (by decide)) (fun _ hk => hk.2) (.int .i64 (wrap64 (t215 + 1)))) (fun _ h_ => h_.1))) (by decide)) hk) (Kd.R_base ho0)) (fun _ h_ => h_.1)); have n1_ := z00.mk (Kd.R_lower (Kd.R_new' ho0 (Kd.R_lt (by (with_reducible repeat (first | apply Kd.R_alloc | apply Kd.R_drewN | apply Kd.R_drew)); exact (Kd.R_mono (Kd.R_far (p := ⟨g, 1, none⟩) (IsS95.apart HI0.out HO_5.out (by decide)) (fun _ hk => hk.2) (.int .i64 (wrap64 (t215 + 1)))) (fun _ h_ => h_.1))))) (z35 (w := w) (g := g) (row := none) (by repeat (first | (with_reducible first | exact HK.out | apply z08.set_ | apply z0g | apply z0m | apply z0e) | exact HK.out)))); have n2_ := z00.mk (z08.trans (by repeat (first | (with_reducible first | exact HK.out | apply z08.set_ | apply z0g | apply z0m | apply z0e) | exact HK.out)) hk (.inl rfl)); have n3_ := z00.mk (hb); have n4_ := z00.mk (hi); clear HO_5; clear HK; clear HB; clear HI0; have HO_5 := n0_; have HO221 := n1_; have HK := n2_; have HB := n3_; have HI0 := n4_; clear n0_ n1_ n2_ n3_ n4_; (try clear hb); (try clear hb2); (try clear hk); (try clear hi); (try clear ho0); obtain ⟨Ao16, co16, eo16⟩ := Kd.R_slice HO221.out; subst eo16) | ((with_reducible refine z1s (b := .append) (xs := #[.tmp 26, .tmp 29]) rfl ?_); at_builtin; refine Kd.R_append_rows k69 w.heap.size rfl (.tmp 26) (.tmp 29) 37 69 (.agg #[(.int .i64 0), (.string ⟨#[]⟩)]) 24 rfl Tryz.underlying37 z9g rfl (by decide) (by omega) u5 x5_1 t219 _ _ _ (fun k_ => some k_ ≠ (.slice Ao16 t219.length co16 : Value).ownBlock) (fun _ => False) rfl rfl ?aO ?aR (fun _ _ h => h) (fun _ h => h.elim) ?aF (Below.refl _ _) ?aS ?aL ?_; (case aR => repeat (first | exact (Kd.R_reads' HO221.out).2.2 | (with_reducible refine Kd.C_alloc ?_ _) | (with_reducible refine Kd.C_drewN ?_ _) | (with_reducible refine Kd.C_drew ?_))); (case aF => exact (fun k_ hk => Kd.fresh' (Kd.R_lt (by (with_reducible repeat (first | apply Kd.R_alloc | apply Kd.R_drewN | apply Kd.R_drew)); exact HO221.out)) k_ hk)); (case aO => exact (by (with_reducible repeat (first | apply Kd.R_alloc | apply Kd.R_drewN | apply Kd.R_drew)); exact Kd.R_mono HO_5.out (fun _ hk => hk.2))); (case aS => exact (z35 (w := w) (g := g) (row := none) (by repeat (first | (with_reducible first | exact HK.out | apply z08.set_ | apply z0g | apply z0m | apply z0e) | exact HK.out)))); (case aL => have := LMc9.out; omega); intro v227 w15 ho hb hg hat; rw [← Ny226.out] at ho; have n0_ := z00.mk (IsS95.grown (by repeat (first | (with_reducible first | exact HI0.out | apply IsS95.alloc | apply IsS95.drewN | apply IsS95.drew | apply IsS95.set_1 | apply IsS95.set_2 | apply IsS95.set_3 | apply IsS95.set_4) | exact HI0.out)) hg (IsS95.own_ne HI0.out HO_5.out (by decide))); have n1_ := z00.mk (Kd.R_after (ok := (fun _ => True)) (by (with_reducible repeat (first | apply Kd.R_alloc | apply Kd.R_drewN | apply Kd.R_drew)); exact HO221.out) hg hat); have n2_ := z00.mk (z2t (by repeat (first | (with_reducible first | exact HB.out | apply z04 | apply z01 | apply z05 | refine z07 ?_ (IsS95.ge HI0.out)) | exact HB.out)) HL.out hb); have n3_ := z00.mk (z08.trans (by repeat (first | (with_reducible first | exact HK.out | apply z08.set_ | apply z0g | apply z0m | apply z0e) | exact HK.out)) (z08.of_grown hg g) (Kd.R_base2 HO_5.out)); have n4_ := z00.mk (ho); clear HI0; clear HO221; clear HB; clear HK; clear HO_5; have HI0 := n0_; have HO221 := n1_; have HB := n2_; have HK := n3_; have HO228 := n4_; clear n0_ n1_ n2_ n3_ n4_; clear ho hb hg hat) | ((with_reducible refine z1s (b := .append) (xs := #[.tmp 30, .tmp 32]) rfl ?_); at_builtin; refine Kd.R_append k69 w.heap.size rfl (.tmp 30) (.tmp 32) 37 69 (.agg #[(.int .i64 0), (.string ⟨#[]⟩)]) 24 rfl Tryz.underlying37 z9g rfl (by decide) (by omega) v227 y226 (⟨4, (⟨#[]⟩ : ByteArray)⟩ : S69) [.int .i64 4, .string (⟨#[]⟩ : ByteArray)] (fun k_ => some k_ ≠ (.slice Ao16 t219.length co16 : Value).ownBlock) (fun _ => False) rfl rfl ?aP (fun _ hk => hk.elim) ?aF ?aO (Below.refl _ _) ?aS ?aL ?_; (case aP => exact z3e _ _ _ (⟨4, (⟨#[]⟩ : ByteArray)⟩ : S69)); (case aF => exact (fun k_ hk => Kd.fresh' (Kd.R_lt (by (with_reducible repeat (first | apply Kd.R_alloc | apply Kd.R_drewN | apply Kd.R_drew)); exact HO221.out)) k_ hk)); (case aO => exact (by (with_reducible repeat (first | apply Kd.R_alloc | apply Kd.R_drewN | apply Kd.R_drew)); exact HO228.out)); (case aS => exact (z35 (w := w) (g := g) (row := none) (by repeat (first | (with_reducible first | exact HK.out | apply z08.set_ | apply z0g | apply z0m | apply z0e) | exact HK.out)))); (case aL => have := LMc10.out; omega); intro v230 w17 ho hb hg hat; rw [← Ny229.out] at ho; have n0_ := z00.mk (IsS95.grown (by repeat (first | (with_reducible first | exact HI0.out | apply IsS95.alloc | apply IsS95.drewN | apply IsS95.drew | apply IsS95.set_1 | apply IsS95.set_2 | apply IsS95.set_3 | apply IsS95.set_4) | exact HI0.out)) hg (IsS95.own_ne HI0.out HO228.out (by decide))); have n1_ := z00.mk (Kd.R_after (ok := (fun _ => True)) (by (with_reducible repeat (first | apply Kd.R_alloc | apply Kd.R_drewN | apply Kd.R_drew)); exact HO221.out) hg hat); have n2_ := z00.mk (z2t (by repeat (first | (with_reducible first | exact HB.out | apply z04 | apply z01 | apply z05 | refine z07 ?_ (IsS95.ge HI0.out)) | exact HB.out)) HL.out hb); have n3_ := z00.mk (z08.trans (by repeat (first | (with_reducible first | exact HK.out | apply z08.set_ | apply z0g | apply z0m | apply z0e) | exact HK.out)) (z08.of_grown hg g) (Kd.R_base2 HO228.out)); have n4_ := z00.mk (ho); clear HI0; clear HO221; clear HB; clear HK; clear HO228; have HI0 := n0_; have HO221 := n1_; have HB := n2_; have HK := n3_; have HO231 := n4_; clear n0_ n1_ n2_ n3_ n4_; clear ho hb hg hat))
           go_roundg k1
           case measure => have := HK1.out; omega
           case rel => exact ⟨(y229), (t222), (t223), (t224), (t225), H', ⟨by have := HK1.out; omega⟩, ⟨by (with_reducible repeat (first | apply Kd.R_alloc | apply Kd.R_drewN | apply Kd.R_drew)); exact Kd.R_mono HO231.out (fun _ hk => trivial)⟩, ⟨by repeat (first | (with_reducible first | exact HI0.out | apply IsS95.alloc | apply IsS95.drewN | apply IsS95.drew | apply IsS95.set_1 | apply IsS95.set_2 | apply IsS95.set_3 | apply IsS95.set_4) | exact HI0.out)⟩, ⟨by repeat (first | (with_reducible first | exact HK.out | apply z08.set_ | apply z0g | apply z0m | apply z0e) | exact HK.out)⟩, ⟨by repeat (first | (with_reducible first | exact HB.out | apply z04 | apply z01 | apply z05 | refine z07 ?_ (IsS95.ge HI0.out)) | exact HB.out)⟩⟩
         · rw [if_neg c10] at H
           exact absurd H (by simp)
       · rw [if_neg c9] at H
         exact absurd H (by simp)
     · replace c7 := Bool.eq_false_iff.mpr c7
       subst c7
       have H1 : (some (x5_1, t215, t216, t217, t218)) = some (r1, r2, r3, r4, r5) := by rw [if_neg (show ¬ (false = true) by decide)] at H; exact H
       clear H
       have H := H1
       clear H1
       simp only [Option.some.injEq, Prod.mk.injEq] at H
       obtain ⟨rfl, rfl, rfl, rfl, rfl⟩ := H
       obtain ⟨ASz18_0, cSz18_0, HGz18, hgz18, HSz18_0⟩ := HI0.out
       have hcz18_0 := z29 HGz18
       have hcz18_1 := z2a HGz18
       have hcz18_2 := z2b HGz18
       have hcz18_3 := z2d HGz18
       have hcz18_4 := z2c HGz18
       have hfz18_1 := z02 HGz18 1
       have hfz18_2 := z02 HGz18 2
       have hfz18_3 := z02 HGz18 3
       have hfz18_4 := z02 HGz18 4
       clear HGz18 hgz18
       go_wp2_with (first | (go_at_call 55; (with_reducible refine (z0c.calls g s0_0 x1001_1 x1002_1 x1003_1 x1004_1 0 4 (⟨#[124]⟩ : ByteArray) false t215 t216 t217 t218 w0 _ ?side1 ?side2 A6.out).mono ?_); (case side1 => repeat (first | (with_reducible first | exact HI0.out | apply IsS95.alloc | apply IsS95.drewN | apply IsS95.drew | apply IsS95.set_1 | apply IsS95.set_2 | apply IsS95.set_3 | apply IsS95.set_4) | exact HI0.out)); (case side2 => repeat (first | (with_reducible first | exact HB.out | apply z04 | apply z01 | apply z05 | refine z07 ?_ (IsS95.ge HI0.out)) | exact HB.out)); rintro e w19 ⟨rfl, hi, hb, hk⟩; have n0_ := z00.mk (Kd.R_mono (Kd.R_keep (IsS95.apart (show IsS95 w0 _ g s0_0 x1001_1 x1002_1 x1003_1 x1004_1 from by repeat (first | (with_reducible first | exact HI0.out | apply IsS95.alloc | apply IsS95.drewN | apply IsS95.drew | apply IsS95.set_1 | apply IsS95.set_2 | apply IsS95.set_3 | apply IsS95.set_4) | exact HI0.out)) (by (with_reducible repeat (first | apply Kd.R_alloc | apply Kd.R_drewN | apply Kd.R_drew)); exact HO_5.out) (by decide)) hk (fun _ h => h.2)) (fun _ h => h.1)); have n1_ := z00.mk (z08.trans (by repeat (first | (with_reducible first | exact HK.out | apply z08.set_ | apply z0g | apply z0m | apply z0e) | exact HK.out)) hk (.inl rfl)); have n2_ := z00.mk (hb); have n3_ := z00.mk (hi); clear HO_5; clear HK; clear HB; clear HI0; have HO_5 := n0_; have HK := n1_; have HB := n2_; have HI0 := n3_; clear n0_ n1_ n2_ n3_; (try clear hb); (try clear hb2); (try clear hk); (try clear hi)))
       go_ret
       exact ⟨_, by first | rfl | (simp [z0n, z0o] <;> rfl) | (simp [*, z0n, z0o] <;> rfl), by (with_reducible repeat (first | apply Kd.R_alloc | apply Kd.R_drewN | apply Kd.R_drew)); exact HO_5.out, by repeat (first | (with_reducible first | exact HI0.out | apply IsS95.alloc | apply IsS95.drewN | apply IsS95.drew | apply IsS95.set_1 | apply IsS95.set_2 | apply IsS95.set_3 | apply IsS95.set_4) | exact HI0.out), by repeat (first | (with_reducible first | exact HB.out | apply z04 | apply z01 | apply z05 | refine z07 ?_ (IsS95.ge HI0.out)) | exact HB.out), by repeat (first | (with_reducible first | exact HK.out | apply z08.set_ | apply z0g | apply z0m | apply z0e) | exact HK.out)⟩
   · rw [if_neg c5] at H
     have c5b0 : (x1003_1 == 0) = false := beq_eq_false_iff_ne.mpr c5
     have c5b1 : (x1003_1 != 0) = true := bne_iff_ne.mpr c5
     simp only [Option.some.injEq, Prod.mk.injEq] at H
     obtain ⟨rfl, rfl, rfl, rfl, rfl⟩ := H
     obtain ⟨ASz20_0, cSz20_0, HGz20, hgz20, HSz20_0⟩ := HI0.out
     have hcz20_0 := z29 HGz20
     have hcz20_1 := z2a HGz20
     have hcz20_2 := z2b HGz20
     have hcz20_3 := z2d HGz20
     have hcz20_4 := z2c HGz20
     have hfz20_1 := z02 HGz20 1
     have hfz20_2 := z02 HGz20 2
     have hfz20_3 := z02 HGz20 3
     have hfz20_4 := z02 HGz20 4
     clear HGz20 hgz20
     go_wp2
     go_ret
     exact ⟨_, by first | rfl | (simp [z0n, z0o] <;> rfl) | (simp [*, z0n, z0o] <;> rfl), by (with_reducible repeat (first | apply Kd.R_alloc | apply Kd.R_drewN | apply Kd.R_drew)); exact HO_5.out, by repeat (first | (with_reducible first | exact HI0.out | apply IsS95.alloc | apply IsS95.drewN | apply IsS95.drew | apply IsS95.set_1 | apply IsS95.set_2 | apply IsS95.set_3 | apply IsS95.set_4) | exact HI0.out), by repeat (first | (with_reducible first | exact HB.out | apply z04 | apply z01 | apply z05 | refine z07 ?_ (IsS95.ge HI0.out)) | exact HB.out), by repeat (first | (with_reducible first | exact HK.out | apply z08.set_ | apply z0g | apply z0m | apply z0e) | exact HK.out)⟩
def refPF : Nat → PFT
 | 0 => fun _ _ _ _ _ _ _ => none
 | d + 1 => z0q.f (refPF d)
theorem z7c : ∀ d, PFC (refPF d)
 | 0 => fun k g s0_0 s0_1 s0_2 s0_3 s0_4 a1 r1 r2 r3 r4 r5 w0 w hI hB h => by cases h
 | d + 1 => z0q.calls (refPF d) (z7c d)
end Go.Proofs.YthebhbomlllpeaaGreatDoor.X
namespace Go.Proofs.YthebhbomlllpeaaGreatDoor.X
def z1z (c : UInt8) : Bool := decide (97 ≤ c.toNat ∧ c.toNat ≤ 122)
def z1n (c : UInt8) : Bool := decide (65 ≤ c.toNat ∧ c.toNat ≤ 90)
def z1v (c : UInt8) : Bool := decide (48 ≤ c.toNat ∧ c.toNat ≤ 57)
def lowB (c : UInt8) : Bool := z1z c || z1v c || c == 95
def signB (c : UInt8) : Bool := lowB c || z1n c
def z45 (c : UInt8) : Bool := c == 32 || c == 9 || c == 10
def keysL : List (List UInt8) := [[110, 111, 116], [105, 115], [112, 108, 117, 115], [109, 105, 110, 117, 115], [116, 105, 109, 101, 115], [119, 97, 108, 107], [99, 111, 117, 110, 116], [115, 117, 109], [109, 105, 110], [109, 97, 120], [109, 101, 97, 110]]
def keyL (s : List UInt8) : Bool := keysL.contains s
def runN (p : UInt8 → Bool) : List UInt8 → Nat
 | [] => 0
 | c :: r => if p c then runN p r + 1 else 0
def twoB (s : List UInt8) : Bool := s.take 2 == [60, 61] || s.take 2 == [33, 61] || s.take 2 == [58, 45] || s.take 2 == [63, 45]
def oneB (c : UInt8) : Bool := [40, 41, 44, 46, 60, 61, 47, 124, 42, 43, 63, 94].contains c
def z8m : List UInt8 → Bool
 | [] => false
 | c :: _ => z1v c
def valB (c : UInt8) (r : List UInt8) : Bool := c == 35 || z1v c || (c == 45 && z8m r)
def nextN (nm vl : List UInt8 → Bool) : List UInt8 → Option (Nat × Nat)
 | [] => none
 | c :: r =>
  if z1z c then (if nm ((c :: r).take (runN lowB (c :: r))) then some (1, runN lowB (c :: r)) else none)
  else if z1n c then (if runN signB (c :: r) ≤ 40 then some (2, runN signB (c :: r)) else none)
  else if valB c r then (if vl ((c :: r).take (1 + runN signB r)) then some (3, 1 + runN signB r) else none)
  else if twoB (c :: r) then some (4, 2)
  else if oneB c then some (4, 1)
  else none
theorem z3v (p : UInt8 → Bool) : ∀ l, runN p l ≤ l.length
 | [] => Nat.le_refl _
 | c :: r => by
  simp only [runN]
  have := z3v p r
  split <;> simp <;> omega
theorem z8q (p : UInt8 → Bool) : ∀ l, runN p (l.take (runN p l)) = runN p l
 | [] => rfl
 | c :: r => by
  simp only [runN]
  split
  · rename_i h
    simp only [List.take_succ_cons, runN, h, if_true, z8q p r]
  · simp [runN]
theorem z6u {nm vl : List UInt8 → Bool} {s : List UInt8} {k n : Nat} (h : nextN nm vl s = some (k, n)) : 1 ≤ n ∧ n ≤ s.length ∧ 1 ≤ k ∧ k ≤ 4 := by
 cases s with
 | nil => cases h
 | cons c r =>
  have h1 := z3v lowB (c :: r)
  have h2 := z3v signB (c :: r)
  have h3 := z3v signB r
  simp only [nextN] at h
  split at h
  · rename_i hs
    split at h
    · injection h with h; injection h with e1 e2
      have : lowB c = true := by unfold lowB; simp [hs]
      have : runN lowB (c :: r) = runN lowB r + 1 := by simp only [runN, this, if_true]
      omega
    · cases h
  · split at h
    · rename_i hs
      split at h
      · injection h with h; injection h with e1 e2
        have : signB c = true := by unfold signB; simp [hs]
        have : runN signB (c :: r) = runN signB r + 1 := by simp only [runN, this, if_true]
        omega
      · cases h
    · split at h
      · split at h
        · injection h with h; injection h with e1 e2
          simp only [List.length_cons]
          omega
        · cases h
      · split at h
        · rename_i ht
          injection h with h; injection h with e1 e2
          have : 2 ≤ (c :: r).length := by
           cases r with
           | nil => simp [twoB] at ht
           | cons d r => simp
          omega
        · split at h
          · injection h with h; injection h with e1 e2
            simp only [List.length_cons]
            omega
          · cases h
def tokF (nm vl : List UInt8 → Bool) : Nat → Nat → List UInt8 → Except Nat (List (Nat × Nat × Nat))
 | 0, _, _ => .ok []
 | _ + 1, _, [] => .ok []
 | d + 1, at_, c :: r =>
  if z45 c then tokF nm vl d (at_ + 1) r
  else match nextN nm vl (c :: r) with
   | none => .error at_
   | some (k, n) => match tokF nm vl d (at_ + n) ((c :: r).drop n) with
    | .error i => .error i
    | .ok l => .ok ((k, at_, n) :: l)
def tokN (nm vl : List UInt8 → Bool) (at_ : Nat) (s : List UInt8) : Except Nat (List (Nat × Nat × Nat)) := tokF nm vl s.length at_ s
theorem z8w (nm vl : List UInt8 → Bool) : ∀ (d d' at_ : Nat) (s : List UInt8), s.length ≤ d → s.length ≤ d' → tokF nm vl d at_ s = tokF nm vl d' at_ s
 | 0, 0, _, _, _, _ => rfl
 | 0, d' + 1, _, [], _, _ => rfl
 | d + 1, 0, _, [], _, _ => rfl
 | d + 1, d' + 1, _, [], _, _ => rfl
 | 0, _, _, _ :: _, h, _ => by simp at h
 | _, 0, _, _ :: _, _, h => by simp at h
 | d + 1, d' + 1, at_, c :: r, h, h' => by
  simp only [List.length_cons] at h h'
  simp only [tokF]
  split
  · exact z8w nm vl d d' (at_ + 1) r (by omega) (by omega)
  · cases hn : nextN nm vl (c :: r) with
    | none => rfl
    | some x =>
     obtain ⟨k, n⟩ := x
     have hp := z6u hn
     simp only
     rw [z8w nm vl d d' (at_ + n) ((c :: r).drop n) (by rw [List.length_drop, List.length_cons]; omega) (by rw [List.length_drop, List.length_cons]; omega)]
theorem z99 (nm vl : List UInt8 → Bool) (at_ : Nat) : tokN nm vl at_ [] = .ok [] := rfl
theorem z8n (nm vl : List UInt8 → Bool) (at_ : Nat) (c : UInt8) (r : List UInt8) (h : z45 c = true) : tokN nm vl at_ (c :: r) = tokN nm vl (at_ + 1) r := by
 unfold tokN
 rw [List.length_cons]
 simp only [tokF, h, if_true]
theorem z8g (nm vl : List UInt8 → Bool) (at_ : Nat) (c : UInt8) (r : List UInt8) (h : z45 c = false) (hn : nextN nm vl (c :: r) = none) : tokN nm vl at_ (c :: r) = .error at_ := by
 unfold tokN
 rw [List.length_cons]
 simp only [tokF, h, Bool.false_eq_true, if_false, hn]
theorem zbp (nm vl : List UInt8 → Bool) (at_ : Nat) (c : UInt8) (r : List UInt8) (h : z45 c = false) (k n : Nat) (hn : nextN nm vl (c :: r) = some (k, n)) :
 tokN nm vl at_ (c :: r) = match tokN nm vl (at_ + n) ((c :: r).drop n) with
  | .error i => .error i
  | .ok l => .ok ((k, at_, n) :: l) := by
 have hp := z6u hn
 unfold tokN
 rw [List.length_cons]
 simp only [tokF, h, Bool.false_eq_true, if_false, hn]
 rw [z8w nm vl r.length ((c :: r).drop n).length _ _ (by rw [List.length_drop, List.length_cons]; omega) (Nat.le_refl _)]

def covT (nm vl : List UInt8 → Bool) (full : List UInt8) : Nat → List (Nat × Nat × Nat) → Prop
 | a, [] => ∀ i (h : i < full.length), a ≤ i → z45 full[i] = true
 | a, x :: l => a ≤ x.2.1 ∧ 1 ≤ x.2.2 ∧ x.2.1 + x.2.2 ≤ full.length ∧ 1 ≤ x.1 ∧ x.1 ≤ 4 ∧ nextN nm vl (full.drop x.2.1) = some (x.1, x.2.2) ∧ (∀ i (h : i < full.length), a ≤ i → i < x.2.1 → z45 full[i] = true) ∧ covT nm vl full (x.2.1 + x.2.2) l
theorem cov_back {nm vl : List UInt8 → Bool} {full : List UInt8} {a : Nat} {l : List (Nat × Nat × Nat)} (ha : ∀ h : a < full.length, z45 full[a] = true) (h : covT nm vl full (a + 1) l) : covT nm vl full a l := by
 cases l with
 | nil =>
  intro i hi hai
  by_cases e : a = i
  · subst e; exact ha hi
  · exact h i hi (by omega)
 | cons x l =>
  obtain ⟨h1, h2, h3, h4, h5, h6, h7, h8⟩ := h
  refine ⟨by omega, h2, h3, h4, h5, h6, ?_, h8⟩
  intro i hi hai hix
  by_cases e : a = i
  · subst e; exact ha hi
  · exact h7 i hi (by omega) hix
theorem tok_cov (nm vl : List UInt8 → Bool) (full : List UInt8) : ∀ (d a : Nat) (l : List (Nat × Nat × Nat)), (full.drop a).length ≤ d → tokN nm vl a (full.drop a) = .ok l → covT nm vl full a l := by
 intro d
 induction d with
 | zero =>
  intro a l h ht
  have hn : full.drop a = [] := List.length_eq_zero_iff.1 (by omega)
  rw [hn, z99] at ht
  injection ht with ht
  subst ht
  intro i hi hai
  rw [List.length_drop] at h
  omega
 | succ d ih =>
  intro a l h ht
  by_cases hl : a < full.length
  · have hd : full.drop a = full[a] :: full.drop (a + 1) := List.drop_eq_getElem_cons hl
    cases hb : z45 full[a] with
    | true =>
     rw [hd, z8n nm vl a _ _ hb] at ht
     exact cov_back (fun _ => hb) (ih (a + 1) l (by rw [List.length_drop] at h ⊢; omega) ht)
    | false =>
     cases hm : nextN nm vl (full[a] :: full.drop (a + 1)) with
     | none => rw [hd, z8g nm vl a _ _ hb hm] at ht; cases ht
     | some y =>
      obtain ⟨k, n⟩ := y
      have hp := z6u hm
      rw [hd, zbp nm vl a _ _ hb k n hm, ← hd, List.drop_drop] at ht
      cases hr : tokN nm vl (a + n) (full.drop (a + n)) with
      | error i => rw [hr] at ht; cases ht
      | ok m =>
       rw [hr] at ht
       injection ht with ht
       subst ht
       rw [← hd] at hp hm
       rw [List.length_drop] at hp h
       exact ⟨Nat.le_refl _, hp.1, by show a + n ≤ full.length; omega, hp.2.2.1, hp.2.2.2, hm, fun i hi h1 h2 => absurd h2 (Nat.not_lt.2 h1), ih (a + n) m (by rw [List.length_drop]; omega) hr⟩
  · have hn : full.drop a = [] := List.drop_eq_nil_of_le (by omega)
    rw [hn, z99] at ht
    injection ht with ht
    subst ht
    intro i hi hai
    omega
theorem z8l (nm vl : List UInt8 → Bool) : ∀ (d : Nat) (s : List UInt8) (a : Nat) (l : List (Nat × Nat × Nat)), s.length ≤ d → tokN nm vl a s = .ok l → l.length ≤ s.length := by
 intro d
 induction d with
 | zero =>
  intro s a l h ht
  obtain rfl : s = [] := List.length_eq_zero_iff.1 (by omega)
  rw [z99] at ht
  injection ht with ht
  subst ht
  exact Nat.le_refl _
 | succ d ih =>
  intro s a l h ht
  cases s with
  | nil => rw [z99] at ht; injection ht with ht; subst ht; exact Nat.le_refl _
  | cons c r =>
   simp only [List.length_cons] at h ⊢
   cases hb : z45 c with
   | true =>
    rw [z8n nm vl a c r hb] at ht
    have := ih r (a + 1) l (by omega) ht
    omega
   | false =>
    cases hm : nextN nm vl (c :: r) with
    | none => rw [z8g nm vl a c r hb hm] at ht; cases ht
    | some y =>
     obtain ⟨k, n⟩ := y
     have hp := z6u hm
     rw [zbp nm vl a c r hb k n hm] at ht
     cases hr : tokN nm vl (a + n) ((c :: r).drop n) with
     | error j => rw [hr] at ht; cases ht
     | ok m =>
      rw [hr] at ht
      injection ht with ht
      subst ht
      have := ih _ _ _ (by rw [List.length_drop, List.length_cons]; omega) hr
      simp only [List.length_drop, List.length_cons] at this hp ⊢
      omega
theorem zh4 {nm vl : List UInt8 → Bool} {c : UInt8} {r : List UInt8} {n : Nat} (h : nextN nm vl (c :: r) = some (1, n)) : z1z c = true ∧ runN lowB (c :: r) = n ∧ nm ((c :: r).take n) = true := by
 simp only [nextN] at h
 split at h
 · rename_i hs
   split at h
   · rename_i hn
     injection h with h; injection h with e1 e2
     rw [e2] at hn
     exact ⟨hs, e2, hn⟩
   · cases h
 · split at h
   · split at h <;> cases h
   · split at h
     · split at h <;> cases h
     · split at h
       · cases h
       · split at h <;> cases h
theorem za8 {c : UInt8} (h : z1n c = true) : signB c = true := by unfold signB; rw [h]; simp
theorem zbc {c : UInt8} (h : z1n c = true) : lowB c = false := by
 unfold z1n at h
 simp only [decide_eq_true_eq] at h
 have h1 : z1z c = false := decide_eq_false (by omega)
 have h2 : z1v c = false := decide_eq_false (by omega)
 have h3 : (c == 95) = false := by
  rw [beq_eq_false_iff_ne]
  rintro rfl
  have : (95 : UInt8).toNat = 95 := rfl
  omega
 unfold lowB
 rw [h1, h2, h3]; rfl

def toksF (nm vl : List UInt8 → Bool) : Nat → List UInt8 → Option (List (Int × ByteArray))
 | 0, _ => some []
 | _ + 1, [] => some []
 | d + 1, c :: r =>
  if z45 c then toksF nm vl d r
  else match nextN nm vl (c :: r) with
   | none => none
   | some (k, n) => (toksF nm vl d ((c :: r).drop n)).map fun l => ((k : Int), (⟨((c :: r).take n).toArray⟩ : ByteArray)) :: l
def toksO (nm vl : List UInt8 → Bool) (s : List UInt8) : Option (List (Int × ByteArray)) := toksF nm vl s.length s
abbrev mkT (m : UInt8) : Int × ByteArray := (4, ⟨#[m]⟩)
end Go.Proofs.YthebhbomlllpeaaGreatDoor.X
namespace Go.Proofs.YthebhbomlllpeaaGreatDoor.X
open Go.RowKit Go.Proofs.YthebhbomlllpeaaGreatDoorW.PrintWords Go.Proofs.YthebhbomlllpeaaGreatDoorW.PrintLast Go.Proofs.YthebhbomlllpeaaGreatDoorW.PrintMore
def hexc (d : Nat) : UInt8 := if d < 10 then UInt8.ofNat (48 + d) else UInt8.ofNat (87 + d)
def hexL (u : Nat) : List UInt8 := if h : u < 16 then [hexc u] else hexL (u / 16) ++ [hexc (u % 16)]
termination_by u
decreasing_by omega
set_option maxHeartbeats 400000 in
set_option maxRecDepth 100000 in
theorem tz16 (w : World) (hLW : LaidW w) :
 Calls Tryz.prog 186 #[.int .u64 16] w fun e w' => e = .returned (.int .i64 4) ∧ w' = w := by
 have hc : w.cell? ⟨5, 15, none⟩ = some (.int .u8 4) := Lib.TabIs.cell hLW.t64 zde 15 (by decide)
 have hk : IntKind.u64.wrap (bits BinOp.and IntKind.u64 16 (IntKind.u64.wrap (-16)) * 285870213051353865) / 288230376151711744 = 15 := by decide +kernel
 go_enter Tryz.func186, Tryz.ntmps186
 go_wp2
 go_ret
 exact ⟨rfl, rfl⟩
def zci (u v d : Nat) (ds : List UInt8) : Prop := v < 16 ^ d ∧ ds.length = 16 - d ∧ hexL u = hexL v ++ ds
def zeg (cs : Array Value) (i : Nat) (ds : List UInt8) : Prop := cs.size = 65 ∧ (∀ j, j < 65 → ∃ x : Int, cs[j]? = some (.int .u8 x)) ∧ ∀ j (h : j < ds.length), cs[i + j]? = some (.int .u8 (ds[j].toNat : Int))
theorem zg9 {u v d : Nat} {ds : List UInt8} (h : zci u v d ds) (hd : d ≤ 16) : v < 18446744073709551616 :=
 Nat.lt_of_lt_of_le h.1 (Nat.le_trans (Nat.pow_le_pow_right (by omega) hd) (by decide))
theorem and15 (v : Nat) (h : v < 18446744073709551616) : bits BinOp.and IntKind.u64 (v : Int) 15 = ((v % 16 : Nat) : Int) := by
 have := u64_and_nat v 15 h (by decide)
 rw [show ((15 : Nat) : Int) = 15 from rfl] at this
 rw [this, show v &&& 15 = v % 16 from Nat.and_two_pow_sub_one_eq_mod v 4]
def z6p : ByteArray := ⟨#[48, 49, 50, 51, 52, 53, 54, 55, 56, 57, 97, 98, 99, 100, 101, 102, 103, 104, 105, 106, 107, 108, 109, 110, 111, 112, 113, 114, 115, 116, 117, 118, 119, 120, 121, 122]⟩
theorem z8u : ∀ n : Nat, n < 16 → ∀ h : n < z6p.size, z6p[n]'h = hexc n := by decide
theorem hex_next {u v d : Nat} {ds : List UInt8} (h : zci u v (d + 1) ds) (hd : d + 1 ≤ 16) (hv : 16 ≤ v) : 1 ≤ d ∧ zci u (v / 16) d (hexc (v % 16) :: ds) := by
 obtain ⟨h1, h2, h3⟩ := h
 have hd1 : 1 ≤ d := by
  rcases Nat.eq_zero_or_pos d with rfl | h
  · simp at h1; omega
  · exact h
 refine ⟨hd1, ?_, by simp [h2]; omega, ?_⟩
 · rw [Nat.pow_succ] at h1; omega
 · rw [h3, hexL, dif_neg (by omega)]
   simp
theorem hex_last {u v d : Nat} {ds : List UInt8} (h : zci u v d ds) (hv : ¬ 16 ≤ v) : hexL u = hexc v :: ds := by
 rw [h.2.2, hexL, dif_pos (by omega)]
 rfl
theorem ze8 {cs : Array Value} {i : Nat} {ds : List UInt8} (h : zeg cs (i + 1) ds) (hi : i < 65) (c : UInt8) : zeg (cs.setIfInBounds i (.int .u8 (c.toNat : Int))) i (c :: ds) := by
 obtain ⟨h1, h2, h3⟩ := h
 refine ⟨by simpa using h1, ?_, ?_⟩
 · intro j hj
   by_cases e : i = j
   · subst e; exact ⟨_, by rw [Array.getElem?_setIfInBounds_self_of_lt (by omega)]⟩
   · rw [Array.getElem?_setIfInBounds_ne e]; exact h2 j hj
 · intro j hj
   cases j with
   | zero => rw [Nat.add_zero, Array.getElem?_setIfInBounds_self_of_lt (by omega)]; rfl
   | succ j =>
    rw [Array.getElem?_setIfInBounds_ne (by omega)]
    have := h3 j (by simpa using hj)
    rw [show i + (j + 1) = i + 1 + j by omega, this]
    rfl
theorem row_zero (cs : Array Value) (h : cs = Array.replicate 65 (.int .u8 0)) : zeg cs 65 [] := by
 subst h
 refine ⟨by simp, fun j hj => ⟨0, by simp [hj]⟩, fun j hj => by simp at hj⟩
set_option maxHeartbeats 400000 in
set_option maxRecDepth 100000 in
theorem pow2_16 (w : World) :
 Calls Tryz.prog 185 #[.int .i64 16] w fun e w' => e = .returned (.bool true) ∧ w' = w := by
 have hk : bits BinOp.and IntKind.i64 16 15 = 0 := by decide +kernel
 go_enter Tryz.func185, Tryz.ntmps185
 go_wp2
 go_ret
 exact ⟨rfl, rfl⟩
set_option maxHeartbeats 800000 in
set_option maxRecDepth 100000 in
theorem zcn (u : Nat) (hu : u < 18446744073709551616) (w : World) (hLW : LaidW w) :
 Calls Tryz.prog 173 #[.slice none 0 0, .int .u64 u, .int .i64 16, .bool false, .bool false] w fun e w' => e = .returned (.tuple #[.slice none 0 0, .string ⟨(hexL u).toArray⟩]) ∧ Below w.heap.size w w' := by
 have hu16 : u < 16 ^ 16 := hu
 go_enter Tryz.func173, Tryz.ntmps173
 go_wp2_with (first | (go_at_call 185; refine (pow2_16 _).mono ?_; rintro e w' ⟨rfl, rfl⟩) | (go_at_call 186; refine (tz16 _ (by first | exact hLW.alloc _ | exact hLW)).mono ?_; rintro e w' ⟨rfl, rfl⟩))
 go_loopw [1, 13] (fun v1 v13 wr => ∃ (v d : Nat) (ds : List UInt8) (cs : Array Value), v1 = .int .u64 v ∧ v13 = .int .i64 (49 + (d : Int)) ∧ 1 ≤ d ∧ d ≤ 16 ∧ z00 (zci u v d ds) ∧ z00 (wr.heap[w.heap.size]? = some (.cells cs 203 (0, 0))) ∧ z00 (zeg cs (49 + d) ds) ∧ z00 (Below w.heap.size w wr)) (fun v1 _ _ => (intOf v1).toNat)
 case atStart => exact ⟨u, 16, [], Tryz.zeroCells203, rfl, rfl, by omega, by omega, ⟨hu16, rfl, by simp⟩, ⟨heap_alloc_new w _⟩, ⟨row_zero _ rfl⟩, ⟨(Below.refl _ _).alloc (Nat.le_refl _) _⟩⟩
 case round =>
  obtain ⟨v, d, ds, cs, rfl, rfl, hd1, hd2, HI, HB, HR, HW⟩ := hrel
  have hv : v < 18446744073709551616 := zg9 HI.out hd2
  obtain ⟨d, rfl⟩ : ∃ d', d = d' + 1 := ⟨d - 1, by omega⟩
  obtain ⟨x0, hx0⟩ := HR.out.2.1 (49 + d) (by omega)
  have hcell : wr.cell? ⟨w.heap.size, 49 + d, none⟩ = some (.int .u8 x0) := (z03 HB.out _).trans hx0
  have hfr : wr.frozen? ⟨w.heap.size, 49 + d, none⟩ = false := z02 HB.out _
  clear hx0
  by_cases hge : 16 ≤ v
  · have ht : decide ((16 : Int) ≤ (v : Int)) = true := decide_eq_true (by omega)
    have hbit := and15 v hv
    have hm : v % 16 < 36 := by omega
    go_wp2
    obtain ⟨hd', HI'⟩ := hex_next HI.out hd2 hge
    go_roundw
    case rel =>
     have e1 := z8u (v % 16) (by omega) (by show v % 16 < 36; omega)
     refine ⟨v / 16, d, hexc (v % 16) :: ds, cs.setIfInBounds (49 + d) (.int .u8 ((hexc (v % 16)).toNat : Int)), ?_, ?_, hd', by omega, ⟨HI'⟩, ⟨?_⟩, ⟨ze8 (i := 49 + d) HR.out (by omega) _⟩, ⟨?_⟩⟩
     · first | rfl | go_num
     · go_num
     · have := z65 HB.out (49 + d) (.int .u8 ((hexc (v % 16)).toNat : Int))
       rw [← e1] at this ⊢
       exact this
     · exact z07 HW.out (Nat.le_refl _)
    case measure => simp [intOf]; omega
  · have ht : decide ((16 : Int) ≤ (v : Int)) = false := decide_eq_false (by omega)
    have hm : v < 36 := by omega
    have hm2 : v < z6p.size := hm
    have e1 : z6p[v]'hm2 = hexc v := z8u v (by omega) hm2
    have hlen : (hexc v :: ds).length = 16 - d := by have := HI.out.2.1; simp [this]; omega
    have hal : Tryz.prog.arrayLen 203 = 65 := by kernel_rfl
    have hal1 : Tryz.prog.arrayLen 203 - (49 + d) = 16 - d := by rw [hal]; omega
    have hsl : ∀ W, (Instr.sliceAt 203 (.pointer (some ⟨w.heap.size, 0, none⟩)) (some (.int .i64 (49 + ((d : Int) + 1) - 1))) none none).run Tryz.prog W = .ok (.slice (some ⟨w.heap.size, 49 + d, none⟩) (16 - d) (16 - d)) W := fun W => by
     rw [run_sliceAt_array_l W 203 ⟨w.heap.size, 0, none⟩ (by simp [Program.arrayLen, Program.elem, Tryz.underlying203]) .i64 (49 + ((d : Int) + 1) - 1) (by omega) (by rw [hal]; omega)]
     rw [hal]
     go_simp
     have e2 : (49 + ((d : Int) + 1)).toNat - 1 = 49 + d := by omega
     rw [e2, if_neg (by omega)]
     exact ⟨rfl, by omega⟩
    have hrow := ze8 (i := 49 + d) HR.out (by omega) (hexc v)
    have hblk := z65 HB.out (49 + d) (.int .u8 ((hexc v).toNat : Int))
    have hcv : (convert 145 9 (.slice (some ⟨w.heap.size, 49 + d, none⟩) (16 - d) (16 - d))).run Tryz.prog (wr.setCell ⟨w.heap.size, 49 + d, none⟩ (.int .u8 (((⟨#[48, 49, 50, 51, 52, 53, 54, 55, 56, 57, 97, 98, 99, 100, 101, 102, 103, 104, 105, 106, 107, 108, 109, 110, 111, 112, 113, 114, 115, 116, 117, 118, 119, 120, 121, 122]⟩ : ByteArray)[v]'hm2).toNat : Int))) = .ok (.string ⟨(hexL u).toArray⟩) (wr.setCell ⟨w.heap.size, 49 + d, none⟩ (.int .u8 (((⟨#[48, 49, 50, 51, 52, 53, 54, 55, 56, 57, 97, 98, 99, 100, 101, 102, 103, 104, 105, 106, 107, 108, 109, 110, 111, 112, 113, 114, 115, 116, 117, 118, 119, 120, 121, 122]⟩ : ByteArray)[v]'hm2).toNat : Int))) := by
     show (convert 145 9 (.slice (some ⟨w.heap.size, 49 + d, none⟩) (16 - d) (16 - d))).run Tryz.prog (wr.setCell ⟨w.heap.size, 49 + d, none⟩ (.int .u8 ((z6p[v]'hm2).toNat : Int))) = .ok (.string ⟨(hexL u).toArray⟩) (wr.setCell ⟨w.heap.size, 49 + d, none⟩ (.int .u8 ((z6p[v]'hm2).toNat : Int)))
     rw [e1]
     have h := run_convert_bytes_back (P := Tryz.prog) (wr.setCell ⟨w.heap.size, 49 + d, none⟩ (.int .u8 ((hexc v).toNat : Int))) 145 9 5 ⟨w.heap.size, 49 + d, none⟩ (16 - d) (hexc v :: ds) Tryz.underlying145 Tryz.underlying5 Tryz.underlying9 (fun j hj => by
      rw [Lib.add_plain]
      exact (z03 hblk _).trans (hrow.2.2 j hj))
     rw [hlen] at h
     rw [hex_last HI.out hge]
     exact h
    have HC := z00.mk hcv
    have HROW := z00.mk hrow
    clear hrow hblk hlen hal hal1 e1 hcv
    go_wp2
    first | rw [HC.out] | erw [HC.out]
    go_wp2
    go_ret2
    exact ⟨rfl, z07 HW.out (Nat.le_refl _)⟩
set_option maxHeartbeats 400000 in
set_option maxRecDepth 100000 in
theorem z88 (u : Nat) (hu : u < 18446744073709551616) (w : World) (hLW : LaidW w) :
 Calls Tryz.prog 160 #[.int .u64 u, .int .i64 16] w fun e w' => e = .returned (.string ⟨(hexL u).toArray⟩) ∧ Below w.heap.size w w' := by
 go_enter Tryz.func160, Tryz.ntmps160
 go_wp2_with (go_at_call 173; refine (zcn u hu _ hLW).mono ?_; rintro e w' ⟨rfl, hb⟩)
 go_ret
 exact ⟨rfl, hb⟩
def z3b.f (a0 : Int) (a1 : Int) : Option ByteArray := if a1 = 16 ∧ 0 ≤ a0 ∧ a0 < 18446744073709551616 then some ⟨(hexL a0.toNat).toArray⟩ else none
set_option maxHeartbeats 400000 in
set_option maxRecDepth 100000 in
theorem z3b.calls (a0 a1 : Int) (r : ByteArray) (w : World) (hLW : LaidW w) (h : z3b.f a0 a1 = some r) :
 Calls Tryz.prog 140 #[.int .u64 a0, .int .i64 a1] w fun e w' => e = .returned (.string r) ∧ Below w.heap.size w w' := by
 unfold z3b.f at h
 split at h
 · rename_i hc
   obtain ⟨rfl, h0, h1⟩ := hc
   obtain rfl := Option.some.inj h
   obtain ⟨u, rfl⟩ := Int.eq_ofNat_of_zero_le h0
   have hu : u < 18446744073709551616 := by omega
   rw [Int.toNat_natCast]
   clear h h0 h1
   go_enter Tryz.func140, Tryz.ntmps140
   go_wp2_with (go_at_call 160; refine (z88 u hu _ hLW).mono ?_; rintro e w' ⟨rfl, hb⟩)
   go_ret
   exact ⟨rfl, hb⟩
 · cases h
end Go.Proofs.YthebhbomlllpeaaGreatDoor.X
