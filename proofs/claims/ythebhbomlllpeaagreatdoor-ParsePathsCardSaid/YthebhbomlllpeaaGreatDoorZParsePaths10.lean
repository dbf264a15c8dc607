/-
  ParsePaths: what the proof needs, put together by a program of this session (shake.py), part 10.
-/
import Derived.Test.YthebhbomlllpeaaGreatDoorZParsePaths9
set_option linter.unusedVariables false
set_option linter.unusedSimpArgs false
namespace Go.Proofs.YthebhbomlllpeaaGreatDoor.X
open Go.RowKit Go.Proofs.YthebhbomlllpeaaGreatDoorW.PrintWords Go.Proofs.YthebhbomlllpeaaGreatDoorW.PrintLast Go.Proofs.YthebhbomlllpeaaGreatDoorW.PrintMore
private theorem zc3 (k k' : IntKind) (x y : Int) : Builtin.max2 (.int k x) (.int k' y) = pure (.int k (mx x y)) := by rw [z4f]; rfl
private theorem zcw (k k' : IntKind) (x y : Int) : Builtin.min2 (.int k x) (.int k' y) = pure (.int k (mn x y)) := by rw [z4g]; rfl
attribute [local go_sem] zc3 zcw z50 z52 z3o z3p z4a z4b
mutual
def z0l.l0 : Nat → ByteArray → List (S53) → Int → Option ((List (S53)) × Int × Int)
 | 0, _, _, _ => none
 | k + 1, x0, x5, x6 => if x6 < (x0.size : Int) then (if 0 ≤ x6 then (if (bt x0 x6) = 32 then (z0l.j1 k x0 x5 x6 true) else (if (bt x0 x6) = 9 then (z0l.j1 k x0 x5 x6 true) else (z0l.j1 k x0 x5 x6 ((bt x0 x6) == 10)))) else (none)) else (some (x5, 0, 0))
def z0l.j1 : Nat → ByteArray → List (S53) → Int → Bool → Option ((List (S53)) × Int × Int)
 | 0, _, _, _, _ => none
 | k + 1, x0, x5, x6, x31 => if x31 = true then (z0l.l0 k x0 x5 (wrap64 (x6 + 1))) else ((z09.f k x0 x6).bind fun bt211 => (if bt211.2.2.2 = true then (if x5.length < 4398046511104 then (z0l.l0 k x0 (x5 ++ [(⟨bt211.1, bt211.2.1, bt211.2.2.1⟩ : S53)]) (wrap64 (x6 + (bt211.2.1.size : Int)))) else (none)) else (some (([] : List (S53)), x6, 2))))
end
def z0l.f (k : Nat) (a0 : ByteArray) : Option ((List (S53)) × Int × Int) := if (a0.size : Int) > 20000 then (some (([] : List (S53)), 0, 4)) else (z0l.l0 k a0 ([] : List (S53)) 0)
set_option maxHeartbeats 8000000 in
set_option maxRecDepth 100000 in
theorem z0l.calls (k : Nat) (a0 : ByteArray) (r1 : List (S53)) (r2 : Int) (r3 : Int) (w : World) (h : z0l.f k a0 = some (r1, r2, r3)) :
 Calls Tryz.prog 34 #[.string a0] w fun e w' => ∃ v0_ : Value, e = .returned (.tuple #[v0_, .int .i64 r2, .int .i64 r3]) ∧ Kd.R k53 53 w' w.heap.size (fun _ => True) v0_ r1 ∧ Below w.heap.size w w' := by
 have hu53 := Tryz.underlying53
 have HB := z00.mk (Below.refl w.heap.size w)
 have H : (if (a0.size : Int) > 20000 then (some (([] : List (S53)), 0, 4)) else (z0l.l0 k a0 ([] : List (S53)) 0)) = some (r1, r2, r3) := h
 clear h
 by_cases c2 : (a0.size : Int) > 20000
 · rw [if_pos c2] at H
   have c2b0 : decide (20000 < (a0.size : Int)) = true := decide_eq_true c2
   have c2b1 : decide (20000 < a0.size) = true := decide_eq_true (by omega)
   clear c2
   simp only [Option.some.injEq, Prod.mk.injEq] at H
   obtain ⟨rfl, rfl, rfl⟩ := H
   go_enter Tryz.func34, Tryz.ntmps34
   go_wp2
   go_ret3
   exact ⟨_, by first | rfl | (simp [z0n, z0o] <;> rfl) | (simp [*, z0n, z0o] <;> rfl), by first | exact Kd.R_nil _ _ _ _ _ | exact Kd.N_nil _ _ _ _ _ | exact Kd.V_nil _ _ _ _ _ | exact Kd.Q_nil _ _ _ _ _ | exact Kd.S_nil _ _ _ _ _, by repeat (first | (with_reducible first | exact HB.out | apply z04 | apply z01 | apply z05) | exact HB.out)⟩
 · rw [if_neg c2] at H
   have c2b0 : decide (20000 < (a0.size : Int)) = false := decide_eq_false c2
   have c2b1 : decide (20000 < a0.size) = false := decide_eq_false (by omega)
   clear c2
   have H' := z00.mk H
   clear H
   go_enter Tryz.func34, Tryz.ntmps34
   go_wp2
   go_loopg [5, 6] k (fun kq v5 v6 w' => ∃ (x5_1 : List (S53)) (x6_1 : Int), v6 = .int .i64 x6_1 ∧ z00 (z0l.l0 kq a0 x5_1 x6_1 = some (r1, r2, r3)) ∧ z00 (kq ≤ k) ∧ z00 (Kd.R k53 53 w' w.heap.size (fun _ => True) v5 x5_1) ∧ z00 (Below w.heap.size w w'))
   case atStart => exact ⟨(([] : List (S53))), (0), (by first | rfl | (simp; done) | (simp [*]; done)), H', ⟨Nat.le_refl _⟩, ⟨by first | exact Kd.R_nil _ _ _ _ _ | exact Kd.N_nil _ _ _ _ _ | exact Kd.V_nil _ _ _ _ _ | exact Kd.Q_nil _ _ _ _ _ | exact Kd.S_nil _ _ _ _ _⟩, ⟨by repeat (first | (with_reducible first | exact HB.out | apply z04 | apply z01 | apply z05) | exact HB.out)⟩⟩
   case round =>
    clear H'
    try clear c2
    try clear c2b0
    try clear c2b1
    try clear p2
    obtain ⟨x5_1, x6_1, rfl, HA, HK1, HO_5, HB⟩ := hrel
    cases gk with
    | zero => exact absurd HA.out (by simp [z0l.l0])
    | succ k1 =>
     have H := HA.out
     clear HA
     simp only [z0l.l0] at H
     by_cases c3 : x6_1 < (a0.size : Int)
     · rw [if_pos c3] at H
       have c3b0 : decide (x6_1 < (a0.size : Int)) = true := decide_eq_true c3
       clear c3
       have HC4 := z00.mk H
       clear H
       go_upto_region 6 with (fail)
       go_cut [31] (fun v31 wc => ∃ (kq : Nat) (x31_3 : Bool), v31 = .bool x31_3 ∧ z00 (z0l.j1 kq a0 x5_1 x6_1 x31_3 = some (r1, r2, r3)) ∧ z00 (kq ≤ k1) ∧ z00 (Kd.R k53 53 wc w.heap.size (fun _ => True) u5 x5_1) ∧ z00 (Below w.heap.size w wc))
       case first =>
        have H := HC4.out
        clear HC4
        by_cases c5 : 0 ≤ x6_1
        · rw [if_pos c5] at H
          have c5b0 : decide (0 ≤ x6_1) = true := decide_eq_true c5
          clear c5
          (first | rw [c5b0] | (simp only [i64_w, i32_w]; rw [c5b0]) | skip)
          by_cases c7 : (bt a0 x6_1) = 32
          · rw [if_pos c7] at H
            have c7b0 : ((bt a0 x6_1) == 32) = true := beq_iff_eq.mpr c7
            have c7b1 : ((bt a0 x6_1) != 32) = false := bne_eq_false_iff_eq.mpr c7
            clear c7
            have H' := z00.mk H
            clear H
            have p6 : 0 ≤ (x6_1 : Int) := of_decide_eq_true (by first | (with_reducible assumption) | assumption)
            have q6 : x6_1 < (a0.size : Int) := of_decide_eq_true (by first | (with_reducible assumption) | assumption)
            have hx6 := bt_at a0 x6_1
            replace p6 := eq_true p6
            replace q6 := eq_true q6
            go_wp2
            go_meet
            case rel => exact ⟨_, (true), (by first | rfl | (simp; done) | (simp [*]; done)), H', ⟨by have := HK1.out; first | omega | exact Nat.le_refl _⟩, ⟨by (with_reducible repeat (first | apply Kd.R_alloc | apply Kd.R_drewN | apply Kd.R_drew)); exact HO_5.out⟩, ⟨by repeat (first | (with_reducible first | exact HB.out | apply z04 | apply z01 | apply z05) | exact HB.out)⟩⟩
          · rw [if_neg c7] at H
            have c7b0 : ((bt a0 x6_1) == 32) = false := beq_eq_false_iff_ne.mpr c7
            have c7b1 : ((bt a0 x6_1) != 32) = true := bne_iff_ne.mpr c7
            by_cases c9 : (bt a0 x6_1) = 9
            · rw [if_pos c9] at H
              have c9b0 : ((bt a0 x6_1) == 9) = true := beq_iff_eq.mpr c9
              have c9b1 : ((bt a0 x6_1) != 9) = false := bne_eq_false_iff_eq.mpr c9
              clear c9
              have H' := z00.mk H
              clear H
              have p6 : 0 ≤ (x6_1 : Int) := of_decide_eq_true (by first | (with_reducible assumption) | assumption)
              have q6 : x6_1 < (a0.size : Int) := of_decide_eq_true (by first | (with_reducible assumption) | assumption)
              have hx6 := bt_at a0 x6_1
              replace p6 := eq_true p6
              replace q6 := eq_true q6
              have p8 : 0 ≤ (x6_1 : Int) := of_decide_eq_true (by first | (with_reducible assumption) | assumption)
              have q8 : x6_1 < (a0.size : Int) := of_decide_eq_true (by first | (with_reducible assumption) | assumption)
              have hx8 := bt_at a0 x6_1
              replace p8 := eq_true p8
              replace q8 := eq_true q8
              go_wp2
              go_meet
              case rel => exact ⟨_, (true), (by first | rfl | (simp; done) | (simp [*]; done)), H', ⟨by have := HK1.out; first | omega | exact Nat.le_refl _⟩, ⟨by (with_reducible repeat (first | apply Kd.R_alloc | apply Kd.R_drewN | apply Kd.R_drew)); exact HO_5.out⟩, ⟨by repeat (first | (with_reducible first | exact HB.out | apply z04 | apply z01 | apply z05) | exact HB.out)⟩⟩
            · rw [if_neg c9] at H
              have c9b0 : ((bt a0 x6_1) == 9) = false := beq_eq_false_iff_ne.mpr c9
              have c9b1 : ((bt a0 x6_1) != 9) = true := bne_iff_ne.mpr c9
              have H' := z00.mk H
              clear H
              have p6 : 0 ≤ (x6_1 : Int) := of_decide_eq_true (by first | (with_reducible assumption) | assumption)
              have q6 : x6_1 < (a0.size : Int) := of_decide_eq_true (by first | (with_reducible assumption) | assumption)
              have hx6 := bt_at a0 x6_1
              replace p6 := eq_true p6
              replace q6 := eq_true q6
              have p8 : 0 ≤ (x6_1 : Int) := of_decide_eq_true (by first | (with_reducible assumption) | assumption)
              have q8 : x6_1 < (a0.size : Int) := of_decide_eq_true (by first | (with_reducible assumption) | assumption)
              have hx8 := bt_at a0 x6_1
              replace p8 := eq_true p8
              replace q8 := eq_true q8
              have p10 : 0 ≤ (x6_1 : Int) := of_decide_eq_true (by first | (with_reducible assumption) | assumption)
              have q10 : x6_1 < (a0.size : Int) := of_decide_eq_true (by first | (with_reducible assumption) | assumption)
              have hx10 := bt_at a0 x6_1
              replace p10 := eq_true p10
              replace q10 := eq_true q10
              go_wp2
              go_meet
              case rel => exact ⟨_, (((bt a0 x6_1) == 10)), (by first | rfl | (simp; done) | (simp [*]; done)), H', ⟨by have := HK1.out; first | omega | exact Nat.le_refl _⟩, ⟨by (with_reducible repeat (first | apply Kd.R_alloc | apply Kd.R_drewN | apply Kd.R_drew)); exact HO_5.out⟩, ⟨by repeat (first | (with_reducible first | exact HB.out | apply z04 | apply z01 | apply z05) | exact HB.out)⟩⟩
        · rw [if_neg c5] at H
          exact absurd H (by simp)
       case rest =>
        clear HC4
        try clear p1
        try clear q1
        try clear hx1
        try clear c2
        try clear c2b0
        try clear c2b1
        try clear p2
        try clear c3
        try clear c3b0
        try clear c5
        try clear c5b0
        try clear p6
        try clear q6
        try clear hx6
        try clear c7
        try clear c7b0
        try clear c7b1
        try clear p8
        try clear q8
        try clear hx8
        try clear c9
        try clear c9b0
        try clear c9b1
        try clear p10
        try clear q10
        try clear hx10
        try clear p10
        try clear p2
        try clear p6
        try clear p8
        try clear q10
        try clear q6
        try clear q8
        obtain ⟨kq, x31_3, rfl, HA, HJ3, HO_5, HB⟩ := hcut
        cases kq with
        | zero => exact absurd HA.out (by simp [z0l.j1])
        | succ kj3 =>
         have H := HA.out
         clear HA
         simp only [z0l.j1] at H
         by_cases c11 : x31_3 = true
         · subst c11
           have H1 : (z0l.l0 kj3 a0 x5_1 (wrap64 (x6_1 + 1))) = some (r1, r2, r3) := by rw [if_pos rfl] at H; exact H
           clear H
           have H := H1
           clear H1
           have H' := z00.mk H
           clear H
           go_wp2
           go_roundg kj3
           case measure => have := HK1.out; have := HJ3.out; omega
           case rel => exact ⟨(x5_1), (wrap64 (x6_1 + 1)), (by first | rfl | (simp; done) | (simp [*]; done)), H', ⟨by have := HK1.out; have := HJ3.out; omega⟩, ⟨by (with_reducible repeat (first | apply Kd.R_alloc | apply Kd.R_drewN | apply Kd.R_drew)); exact HO_5.out⟩, ⟨by repeat (first | (with_reducible first | exact HB.out | apply z04 | apply z01 | apply z05) | exact HB.out)⟩⟩
         · replace c11 := Bool.eq_false_iff.mpr c11
           subst c11
           have H1 : ((z09.f kj3 a0 x6_1).bind fun bt211 => (if bt211.2.2.2 = true then (if x5_1.length < 4398046511104 then (z0l.l0 kj3 a0 (x5_1 ++ [(⟨bt211.1, bt211.2.1, bt211.2.2.1⟩ : S53)]) (wrap64 (x6_1 + (bt211.2.1.size : Int)))) else (none)) else (some (([] : List (S53)), x6_1, 2)))) = some (r1, r2, r3) := by rw [if_neg (show ¬ (false = true) by decide)] at H; exact H
           clear H
           have H := H1
           clear H1
           replace H := Option.bind_eq_some_iff.mp H
           obtain ⟨⟨t211, t212, t213, t214⟩, A120, H⟩ := H
           replace H : (if t214 = true then (if x5_1.length < 4398046511104 then (z0l.l0 kj3 a0 (x5_1 ++ [(⟨t211, t212, t213⟩ : S53)]) (wrap64 (x6_1 + (t212.size : Int)))) else (none)) else (some (([] : List (S53)), x6_1, 2))) = some (r1, r2, r3) := H
           have A12 := z00.mk A120
           clear A120
           by_cases c13 : t214 = true
           · subst c13
             have H1 : (if x5_1.length < 4398046511104 then (z0l.l0 kj3 a0 (x5_1 ++ [(⟨t211, t212, t213⟩ : S53)]) (wrap64 (x6_1 + (t212.size : Int)))) else (none)) = some (r1, r2, r3) := by rw [if_pos rfl] at H; exact H
             clear H
             have H := H1
             clear H1
             by_cases c14 : x5_1.length < 4398046511104
             · rw [if_pos c14] at H
               have LMc14 := z00.mk c14
               clear c14
               obtain ⟨y216, hy216⟩ : ∃ y_ : List (S53), y_ = (x5_1 ++ [(⟨t211, t212, t213⟩ : S53)]) := ⟨_, rfl⟩
               replace H : (z0l.l0 kj3 a0 y216 (wrap64 (x6_1 + (t212.size : Int)))) = some (r1, r2, r3) := by first | (rw [hy216]; with_reducible exact H) | (have H2_ := (Option.bind_some _ _).symm.trans H; rw [hy216]; with_reducible exact H2_) | (have H2_ := (Option.bind_some _ _).symm.trans H; with_reducible exact H2_) | with_reducible exact H | (rw [hy216]; exact H) | exact H
               have Ny216 := z00.mk hy216
               clear hy216
               have H' := z00.mk H
               clear H
               go_wp2_with (first | ((with_reducible refine z0s (f := 64) rfl ?_); refine z1r (some 37) rfl rfl Tryz.func64 (by kernel_rfl) rfl #[.string a0, .int .i64 x6_1] rfl (by (try simp only [List.map_toArray, List.map_cons, List.map_nil]); first | done | rfl | (simp only [List.length_drop, List.length_take]; rfl)) ?_; (with_reducible refine (z09.calls kj3 a0 x6_1 t211 t212 t213 true _ A12.out).mono ?_); rintro e w15 ⟨rfl, hb⟩; refine ⟨_, rfl, ?_⟩; have n0_ := z00.mk (Kd.R_below (by (with_reducible repeat (first | apply Kd.R_alloc | apply Kd.R_drewN | apply Kd.R_drew)); exact HO_5.out) hb); have n1_ := z00.mk (z0z (by repeat (first | (with_reducible first | exact HB.out | apply z04 | apply z01 | apply z05) | exact HB.out)) hb); clear HO_5; clear HB; have HO_5 := n0_; have HB := n1_; clear n0_ n1_; (try clear hb); (try clear hb2); (try clear hk); (try clear hi)) | ((with_reducible refine z2e (N := 7) rfl ?_); refine z2j ?hg (N := 7) ?hd (cs := #[.int .i64 0, .string (⟨#[]⟩ : ByteArray), .int .i64 0]) (t := 53) ?hr ?_; (case hd => rfl); (case hg => rfl); (case hr => first | (go_simp; done) | (go_simp; rfl)); intro gb215 hg w16 hbox hb; have n0_ := z00.mk (Kd.R_below (Kd.R_elderB (by (with_reducible repeat (first | apply Kd.R_alloc | apply Kd.R_drewN | apply Kd.R_drew)); exact HO_5.out) gb215 (Nat.le_of_eq hg.symm)) hb); have n1_ := z00.mk (z0z (by repeat (first | (with_reducible first | exact HB.out | apply z04 | apply z01 | apply z05) | exact HB.out)) hb); have n2_ := z00.mk (hbox); have n3_ := z00.mk ((by rw [hg]; exact (z13 (by repeat (first | (with_reducible first | exact HB.out | apply z04 | apply z01 | apply z05) | exact HB.out))) : w.heap.size ≤ gb215)); have n4_ := z00.mk ((by rw [hg]; exact (z13 (by repeat (first | (with_reducible first | exact HB.out | apply z04 | apply z01 | apply z05) | exact HB.out))) : w.heap.size ≤ gb215)); clear HO_5; clear HB; have HO_5 := n0_; have HB := n1_; have BK215 := n2_; have GW215 := n3_; have GE215 := n4_; clear n0_ n1_ n2_ n3_ n4_; clear hb hbox hg; have hcz17_0 : w16.cell? ⟨gb215, 0, none⟩ = some (.int .i64 0) := (z03 BK215.out 0).trans rfl; have hcz17_1 : w16.cell? ⟨gb215, 1, none⟩ = some (.string (⟨#[]⟩ : ByteArray)) := (z03 BK215.out 1).trans rfl; have hcz17_2 : w16.cell? ⟨gb215, 2, none⟩ = some (.int .i64 0) := (z03 BK215.out 2).trans rfl; have hfz17_0 := z02 BK215.out 0; have hfz17_1 := z02 BK215.out 1; have hfz17_2 := z02 BK215.out 2) | ((with_reducible refine z1s (b := .append) (xs := #[.tmp 43, .tmp 45]) rfl ?_); at_builtin; refine Kd.R_append k53 (w0 := w) w.heap.size rfl (.tmp 43) (.tmp 45) 49 53 (.agg #[(.int .i64 0), (.string ⟨#[]⟩), (.int .i64 0)]) 32 rfl Tryz.underlying49 info53 rfl (by decide) (by omega) u5 x5_1 (⟨t211, t212, t213⟩ : S53) [.int .i64 t211, .string t212, .int .i64 t213] (fun k_ => k_ ≠ gb215) (fun _ => False) rfl (by first | (go_simp; done) | (go_simp; rfl)) ?aP (fun _ hk => hk.elim) ?aF ?aO ?aB ?aS ?aL ?_; (case aP => exact k53_mkM _ _ _ (⟨t211, t212, t213⟩ : S53)); (case aB => exact (by repeat (first | (with_reducible first | exact HB.out | apply z04 | apply z01 | apply z05 | refine z07 ?_ GE215.out) | exact HB.out))); (case aF => exact (fun k_ hk => Kd.freshB (g := gb215) (o := .cells #[.int .i64 t211, .string t212, .int .i64 t213] 53 (0, 0)) (by (with_reducible repeat (first | refine z12 ?_ _ | refine z0y ?_ | refine z0k ?_ _)); refine z0v (cs := #[.int .i64 t211, .string t212, .int .i64 0]) ?_ 2 _ rfl; (with_reducible repeat (first | refine z12 ?_ _ | refine z0y ?_ | refine z0k ?_ _)); refine z0v (cs := #[.int .i64 t211, .string (⟨#[]⟩ : ByteArray), .int .i64 0]) ?_ 1 _ rfl; (with_reducible repeat (first | refine z12 ?_ _ | refine z0y ?_ | refine z0k ?_ _)); refine z0v (cs := #[.int .i64 0, .string (⟨#[]⟩ : ByteArray), .int .i64 0]) ?_ 0 _ rfl; (with_reducible repeat (first | refine z12 ?_ _ | refine z0y ?_ | refine z0k ?_ _)); exact BK215.out) k_ hk)); (case aO => exact (by (with_reducible repeat (first | apply Kd.R_alloc | apply Kd.R_drewN | apply Kd.R_drew)); exact Kd.R_mono (Kd.R_far (p := ⟨gb215, 2, none⟩) (Kd.R_far (p := ⟨gb215, 1, none⟩) (Kd.R_far (p := ⟨gb215, 0, none⟩) (Kd.R_mono HO_5.out (fun k_ hk => (⟨hk, hk.2⟩ : _ ∧ k_ ≠ gb215))) (fun _ hk => hk.2) (.int .i64 t211)) (fun _ hk => hk.2) (.string t212)) (fun _ hk => hk.2) (.int .i64 t213)) (fun _ hk => hk.1.2))); (case aS => exact (z13 (by repeat (first | (with_reducible first | exact HB.out | apply z04 | apply z01 | apply z05 | refine z07 ?_ GE215.out) | exact HB.out)))); (case aL => have := LMc14.out; omega); intro v217 w18 ho hb hg hat; rw [← Ny216.out] at ho; have n0_ := z00.mk (z48 (g := gb215) (o := .cells #[.int .i64 t211, .string t212, .int .i64 t213] 53 (0, 0)) (by (with_reducible repeat (first | refine z12 ?_ _ | refine z0y ?_ | refine z0k ?_ _)); refine z0v (cs := #[.int .i64 t211, .string t212, .int .i64 0]) ?_ 2 _ rfl; (with_reducible repeat (first | refine z12 ?_ _ | refine z0y ?_ | refine z0k ?_ _)); refine z0v (cs := #[.int .i64 t211, .string (⟨#[]⟩ : ByteArray), .int .i64 0]) ?_ 1 _ rfl; (with_reducible repeat (first | refine z12 ?_ _ | refine z0y ?_ | refine z0k ?_ _)); refine z0v (cs := #[.int .i64 0, .string (⟨#[]⟩ : ByteArray), .int .i64 0]) ?_ 0 _ rfl; (with_reducible repeat (first | refine z12 ?_ _ | refine z0y ?_ | refine z0k ?_ _)); exact BK215.out) hg (Kd.R_away HO_5.out (fun _ hk => hk.2))); have n1_ := z00.mk (hb); have n2_ := z00.mk (ho); clear BK215; clear HB; clear HO_5; have BK215 := n0_; have HB := n1_; have HO218 := n2_; clear n0_ n1_ n2_; clear ho hb hg hat; have hcz19_0 : w18.cell? ⟨gb215, 0, none⟩ = some (.int .i64 t211) := (z03 BK215.out 0).trans rfl; have hcz19_1 : w18.cell? ⟨gb215, 1, none⟩ = some (.string t212) := (z03 BK215.out 1).trans rfl; have hcz19_2 : w18.cell? ⟨gb215, 2, none⟩ = some (.int .i64 t213) := (z03 BK215.out 2).trans rfl; have hfz19_0 := z02 BK215.out 0; have hfz19_1 := z02 BK215.out 1; have hfz19_2 := z02 BK215.out 2))
               go_roundg kj3
               case measure => have := HK1.out; have := HJ3.out; omega
               case rel => exact ⟨(y216), (wrap64 (x6_1 + (t212.size : Int))), (by first | rfl | (simp; done) | (simp [*]; done)), H', ⟨by have := HK1.out; have := HJ3.out; omega⟩, ⟨by (with_reducible repeat (first | apply Kd.R_alloc | apply Kd.R_drewN | apply Kd.R_drew)); exact Kd.R_mono HO218.out (fun _ hk => trivial)⟩, ⟨by repeat (first | (with_reducible first | exact HB.out | apply z04 | apply z01 | apply z05 | refine z07 ?_ GE215.out) | exact HB.out)⟩⟩
             · rw [if_neg c14] at H
               exact absurd H (by simp)
           · replace c13 := Bool.eq_false_iff.mpr c13
             subst c13
             have H1 : (some (([] : List (S53)), x6_1, 2)) = some (r1, r2, r3) := by rw [if_neg (show ¬ (false = true) by decide)] at H; exact H
             clear H
             have H := H1
             clear H1
             simp only [Option.some.injEq, Prod.mk.injEq] at H
             obtain ⟨rfl, rfl, rfl⟩ := H
             go_wp2_with (first | ((with_reducible refine z0s (f := 64) rfl ?_); refine z1r (some 37) rfl rfl Tryz.func64 (by kernel_rfl) rfl #[.string a0, .int .i64 x6_1] rfl (by (try simp only [List.map_toArray, List.map_cons, List.map_nil]); first | done | rfl | (simp only [List.length_drop, List.length_take]; rfl)) ?_; (with_reducible refine (z09.calls kj3 a0 x6_1 t211 t212 t213 false _ A12.out).mono ?_); rintro e w20 ⟨rfl, hb⟩; refine ⟨_, rfl, ?_⟩; have n0_ := z00.mk (Kd.R_below (by (with_reducible repeat (first | apply Kd.R_alloc | apply Kd.R_drewN | apply Kd.R_drew)); exact HO_5.out) hb); have n1_ := z00.mk (z0z (by repeat (first | (with_reducible first | exact HB.out | apply z04 | apply z01 | apply z05) | exact HB.out)) hb); clear HO_5; clear HB; have HO_5 := n0_; have HB := n1_; clear n0_ n1_; (try clear hb); (try clear hb2); (try clear hk); (try clear hi)) | ((with_reducible refine z2e (N := 7) rfl ?_); refine z2j ?hg (N := 7) ?hd (cs := #[.int .i64 0, .string (⟨#[]⟩ : ByteArray), .int .i64 0]) (t := 53) ?hr ?_; (case hd => rfl); (case hg => rfl); (case hr => first | (go_simp; done) | (go_simp; rfl)); intro gb215 hg w21 hbox hb; have n0_ := z00.mk (Kd.R_below (Kd.R_elderB (by (with_reducible repeat (first | apply Kd.R_alloc | apply Kd.R_drewN | apply Kd.R_drew)); exact HO_5.out) gb215 (Nat.le_of_eq hg.symm)) hb); have n1_ := z00.mk (z0z (by repeat (first | (with_reducible first | exact HB.out | apply z04 | apply z01 | apply z05) | exact HB.out)) hb); have n2_ := z00.mk (hbox); have n3_ := z00.mk ((by rw [hg]; exact (z13 (by repeat (first | (with_reducible first | exact HB.out | apply z04 | apply z01 | apply z05) | exact HB.out))) : w.heap.size ≤ gb215)); have n4_ := z00.mk ((by rw [hg]; exact (z13 (by repeat (first | (with_reducible first | exact HB.out | apply z04 | apply z01 | apply z05) | exact HB.out))) : w.heap.size ≤ gb215)); clear HO_5; clear HB; have HO_5 := n0_; have HB := n1_; have BK215 := n2_; have GW215 := n3_; have GE215 := n4_; clear n0_ n1_ n2_ n3_ n4_; clear hb hbox hg; have hcz22_0 : w21.cell? ⟨gb215, 0, none⟩ = some (.int .i64 0) := (z03 BK215.out 0).trans rfl; have hcz22_1 : w21.cell? ⟨gb215, 1, none⟩ = some (.string (⟨#[]⟩ : ByteArray)) := (z03 BK215.out 1).trans rfl; have hcz22_2 : w21.cell? ⟨gb215, 2, none⟩ = some (.int .i64 0) := (z03 BK215.out 2).trans rfl; have hfz22_0 := z02 BK215.out 0; have hfz22_1 := z02 BK215.out 1; have hfz22_2 := z02 BK215.out 2))
             go_ret3
             exact ⟨_, by first | rfl | (simp [z0n, z0o] <;> rfl) | (simp [*, z0n, z0o] <;> rfl), by first | exact Kd.R_nil _ _ _ _ _ | exact Kd.N_nil _ _ _ _ _ | exact Kd.V_nil _ _ _ _ _ | exact Kd.Q_nil _ _ _ _ _ | exact Kd.S_nil _ _ _ _ _, by repeat (first | (with_reducible first | exact HB.out | apply z04 | apply z01 | apply z05 | refine z07 ?_ GE215.out) | exact HB.out)⟩
     · rw [if_neg c3] at H
       have c3b0 : decide (x6_1 < (a0.size : Int)) = false := decide_eq_false c3
       clear c3
       simp only [Option.some.injEq, Prod.mk.injEq] at H
       obtain ⟨rfl, rfl, rfl⟩ := H
       go_wp2
       go_ret3
       exact ⟨_, by first | rfl | (simp [z0n, z0o] <;> rfl) | (simp [*, z0n, z0o] <;> rfl), by (with_reducible repeat (first | apply Kd.R_alloc | apply Kd.R_drewN | apply Kd.R_drew)); exact HO_5.out, by repeat (first | (with_reducible first | exact HB.out | apply z04 | apply z01 | apply z05) | exact HB.out)⟩
def z3h.l0 : Nat → List (S53) → Int → Int → Int → Int → Option (Int)
 | 0, _, _, _, _, _ => none
 | k + 1, x3, x6, x7, x16, x17 => if x17 < x16 then (if 0 ≤ x17 then (if x17 < (x3.length : Int) then (if ((z5k x3 x17).f1).toList = ([40] : List UInt8) then (if ((z5k x3 x17).f1).toList = ([41] : List UInt8) then (z3h.l0 k x3 (mx 0 (wrap64 ((wrap64 (x6 + 1)) - 1))) (mx x7 (mx 0 (wrap64 ((wrap64 (x6 + 1)) - 1)))) x16 (wrap64 (x17 + 1))) else (z3h.l0 k x3 (wrap64 (x6 + 1)) (mx x7 (wrap64 (x6 + 1))) x16 (wrap64 (x17 + 1)))) else (if ((z5k x3 x17).f1).toList = ([41] : List UInt8) then (z3h.l0 k x3 (mx 0 (wrap64 (x6 - 1))) (mx x7 (mx 0 (wrap64 (x6 - 1)))) x16 (wrap64 (x17 + 1))) else (z3h.l0 k x3 x6 (mx x7 x6) x16 (wrap64 (x17 + 1))))) else (none)) else (none)) else (some x7)

theorem ze9 (c : UInt8) (n : Nat) (hn : n < 256) : ((c.toNat : Int) = (n : Int)) ↔ c = UInt8.ofNat n := by
 have := z2f c n hn
 rw [← beq_iff_eq, this, beq_iff_eq]
theorem zct : ∀ c : Fin 256, z1i.f (c.val : Int) = some (signB (UInt8.ofNat c.val)) := by decide +kernel
theorem z8x (c : UInt8) : z1i.f (c.toNat : Int) = some (signB c) := by
 have := zct ⟨c.toNat, c.toNat_lt⟩
 simpa using this
def pB (b : Bool) (c : UInt8) : Bool := signB c && !(b && z1n c)
theorem z6q {p q : UInt8 → Bool} (h : ∀ c, p c = q c) : ∀ l, runN p l = runN q l
 | [] => rfl
 | c :: r => by simp only [runN, h c, z6q h r]
theorem pB_true (c : UInt8) : pB true c = lowB c := by
 unfold pB signB
 cases hl : lowB c with
 | true =>
  cases hg : z1n c with
  | true => have := zbc hg; rw [hl] at this; cases this
  | false => rfl
 | false => cases z1n c <;> rfl
theorem zap (c : UInt8) : pB false c = signB c := by unfold pB; simp
theorem zae (s : ByteArray) (hs : s.size ≤ 20000) (at_ : Nat) (b : Bool) : ∀ (d n k : Nat), s.size - (at_ + n) = d → at_ + n ≤ s.size → d < k → z0p.l0 k s (at_ : Int) b (n : Int) = some ((n + runN (pB b) (s.data.toList.drop (at_ + n)) : Nat) : Int)
 | 0, n, k, hd, hn, hk => by
  obtain ⟨k, rfl⟩ : ∃ m, k = m + 1 := ⟨k - 1, by omega⟩
  simp only [z0p.l0]
  rw [show wrap64 ((at_ : Int) + (n : Int)) = ((at_ + n : Nat) : Int) by unfold wrap64; omega, if_neg (by omega), z8c _ _ _ (by rw [z0x]; omega)]
  rfl
 | d + 1, n, k, hd, hn, hk => by
  obtain ⟨k, rfl⟩ : ∃ m, k = m + 1 := ⟨k - 1, by omega⟩
  have hlt : at_ + n < s.size := by omega
  have ih := zae s hs at_ b d (n + 1) k (by omega) (by omega) (by omega)
  have hst := z6l (pB b) s.data.toList (at_ + n) (by rw [z0x]; exact hlt)
  rw [z2u s _ hlt] at hst
  simp only [z0p.l0]
  rw [show wrap64 ((at_ : Int) + (n : Int)) = ((at_ + n : Nat) : Int) by unfold wrap64; omega, if_pos (by omega), if_pos (by omega), z5g s _ hlt, z8x]
  simp only [Option.bind_some]
  rw [show wrap64 ((n : Int) + 1) = ((n + 1 : Nat) : Int) by unfold wrap64; omega, ih, hst]
  generalize hc : s[at_ + n] = c
  have hstep : some (((n + 1 + runN (pB b) (s.data.toList.drop (at_ + (n + 1))) : Nat) : Int)) = some (((n + (runN (pB b) (s.data.toList.drop (at_ + n + 1)) + 1) : Nat) : Int)) := by
   rw [show at_ + (n + 1) = at_ + n + 1 by omega]; congr 1; omega
  cases hs1 : signB c with
  | false =>
   have : pB b c = false := by unfold pB; rw [hs1]; rfl
   rw [this]; simp
  | true =>
   rw [if_pos rfl]
   cases b with
   | false =>
    rw [if_neg (by simp)]
    have : pB false c = true := by rw [zap]; exact hs1
    rw [this, if_pos rfl]
    exact hstep
   | true =>
    rw [if_pos rfl]
    cases hg : z1n c with
    | true =>
     have h2 := hg
     unfold z1n at h2
     rw [decide_eq_true_eq] at h2
     have : pB true c = false := by unfold pB; rw [hs1, hg]; rfl
     rw [if_pos (by omega), if_pos (by omega), this]
     simp
    | false =>
     have h2 := hg
     unfold z1n at h2
     rw [decide_eq_false_iff_not] at h2
     have : pB true c = true := by unfold pB; rw [hs1, hg]; rfl
     rw [this, if_pos rfl]
     by_cases h3 : ((c.toNat : Int)) ≥ 65
     · rw [if_pos h3, if_neg (by omega)]; exact hstep
     · rw [if_neg h3]; exact hstep
theorem z7t (s : ByteArray) (hs : s.size ≤ 20000) (a : Nat) (ha : a ≤ s.size) (b : Bool) (k : Nat) (hk : s.size < k) : z0p.f k s (a : Int) b = some ((runN (pB b) (s.data.toList.drop a) : Nat) : Int) := by
 unfold z0p.f
 have := zae s hs a b _ 0 k rfl (by omega) (by omega)
 rw [Nat.zero_add] at this
 exact this
theorem zdv (s : ByteArray) (hs : s.size ≤ 20000) (a : Nat) (ha : a < s.size) (k : Nat) (hk : 5 ≤ k) : z0u.f k s (a : Int) = some (if twoB (s.data.toList.drop a) then 2 else if oneB s[a] then 1 else 0) := by
 obtain ⟨k, rfl⟩ : ∃ m, k = m + 2 := ⟨k - 2, by omega⟩
 have hj1 : ∀ b : Bool, z0u.j1 (k + 1) s (a : Int) b = some (if b then 2 else if oneB s[a] then 1 else 0) := fun b => by
  simp only [z0u.j1]
  cases b with
  | true => rfl
  | false =>
   rw [if_neg (by simp), if_pos (by omega), if_pos (by omega), z5g s a ha]
   generalize s[a] = c
   have h : ∀ n : Nat, n < 256 → (((c.toNat : Int) = (n : Int)) ↔ c = UInt8.ofNat n) := fun n hn => by
    have := z2f c n hn
    rw [← beq_iff_eq, this, beq_iff_eq]
   have e40 : (c.toNat : Int) = 40 ↔ c = 40 := h 40 (by omega); have e41 : (c.toNat : Int) = 41 ↔ c = 41 := h 41 (by omega); have e44 : (c.toNat : Int) = 44 ↔ c = 44 := h 44 (by omega); have e46 : (c.toNat : Int) = 46 ↔ c = 46 := h 46 (by omega); have e60 : (c.toNat : Int) = 60 ↔ c = 60 := h 60 (by omega); have e61 : (c.toNat : Int) = 61 ↔ c = 61 := h 61 (by omega); have e47 : (c.toNat : Int) = 47 ↔ c = 47 := h 47 (by omega)
   have e124 : (c.toNat : Int) = 124 ↔ c = 124 := h 124 (by omega); have e42 : (c.toNat : Int) = 42 ↔ c = 42 := h 42 (by omega); have e43 : (c.toNat : Int) = 43 ↔ c = 43 := h 43 (by omega); have e63 : (c.toNat : Int) = 63 ↔ c = 63 := h 63 (by omega); have e94 : (c.toNat : Int) = 94 ↔ c = 94 := h 94 (by omega)
   unfold oneB
   have hall : ∀ c : UInt8, ([40, 41, 44, 46, 60, 61, 47, 124, 42, 43, 63, 94] : List UInt8).contains c = decide (c = 40 ∨ c = 41 ∨ c = 44 ∨ c = 46 ∨ c = 60 ∨ c = 61 ∨ c = 47 ∨ c = 124 ∨ c = 42 ∨ c = 43 ∨ c = 63 ∨ c = 94) := fun c => by
    rw [Bool.eq_iff_iff]
    simp
   rw [hall]
   by_cases q40 : c = 40
   · rw [if_pos (e40.2 q40)]; simp [q40]
   rw [if_neg (fun z => q40 (e40.1 z))]
   by_cases q41 : c = 41
   · rw [if_pos (e41.2 q41)]; simp [q41]
   rw [if_neg (fun z => q41 (e41.1 z))]
   by_cases q44 : c = 44
   · rw [if_pos (e44.2 q44)]; simp [q44]
   rw [if_neg (fun z => q44 (e44.1 z))]
   by_cases q46 : c = 46
   · rw [if_pos (e46.2 q46)]; simp [q46]
   rw [if_neg (fun z => q46 (e46.1 z))]
   by_cases q60 : c = 60
   · rw [if_pos (e60.2 q60)]; simp [q60]
   rw [if_neg (fun z => q60 (e60.1 z))]
   by_cases q61 : c = 61
   · rw [if_pos (e61.2 q61)]; simp [q61]
   rw [if_neg (fun z => q61 (e61.1 z))]
   by_cases q47 : c = 47
   · rw [if_pos (e47.2 q47)]; simp [q47]
   rw [if_neg (fun z => q47 (e47.1 z))]
   by_cases q124 : c = 124
   · rw [if_pos (e124.2 q124)]; simp [q124]
   rw [if_neg (fun z => q124 (e124.1 z))]
   by_cases q42 : c = 42
   · rw [if_pos (e42.2 q42)]; simp [q42]
   rw [if_neg (fun z => q42 (e42.1 z))]
   by_cases q43 : c = 43
   · rw [if_pos (e43.2 q43)]; simp [q43]
   rw [if_neg (fun z => q43 (e43.1 z))]
   by_cases q63 : c = 63
   · rw [if_pos (e63.2 q63)]; simp [q63]
   rw [if_neg (fun z => q63 (e63.1 z))]
   by_cases q94 : c = 94
   · rw [if_pos (e94.2 q94)]; simp [q94]
   rw [if_neg (fun z => q94 (e94.1 z))]
   simp [q40, q41, q44, q46, q60, q61, q47, q124, q42, q43, q63, q94]
 have hj0 : ∀ z : ByteArray, z0u.j0 (k + 2) s (a : Int) z = some (if (z.data.toList == [60, 61] || z.data.toList == [33, 61] || z.data.toList == [58, 45] || z.data.toList == [63, 45]) then 2 else if oneB s[a] then 1 else 0) := fun z => by
  simp only [z0u.j0, hj1, z2g]
  by_cases q0 : z.data.toList = [60, 61]
  · rw [if_pos q0]; simp [q0]
  rw [if_neg q0]
  by_cases q1 : z.data.toList = [33, 61]
  · rw [if_pos q1]; simp [q1]
  rw [if_neg q1]
  by_cases q2 : z.data.toList = [58, 45]
  · rw [if_pos q2]; simp [q2]
  rw [if_neg q2]
  have h0 : (z.data.toList == [60, 61]) = false := beq_eq_false_iff_ne.2 q0
  have h1 : (z.data.toList == [33, 61]) = false := beq_eq_false_iff_ne.2 q1
  have h2 : (z.data.toList == [58, 45]) = false := beq_eq_false_iff_ne.2 q2
  rw [h0, h1, h2]
  simp
 unfold z0u.f
 rw [show wrap64 ((a : Int) + 2) = ((a + 2 : Nat) : Int) by unfold wrap64; omega]
 by_cases h2 : a + 2 ≤ s.size
 · rw [if_pos (by omega), if_pos (by omega), if_pos (by omega), hj0, Int.toNat_natCast, Int.toNat_natCast]
   have e : (s.extract a (a + 2)).data.toList = (s.data.toList.drop a).take 2 := by
    rw [z3q, List.take_drop, Nat.add_comm]
   rw [e]
   rfl
 · rw [if_neg (by omega), hj0]
   have e : ∀ p : List UInt8, p.length = 2 → ((s.data.toList.drop a).take 2 == p) = false := fun p hp => by
    rw [beq_eq_false_iff_ne]
    intro h
    have := congrArg List.length h
    rw [List.length_take, List.length_drop, z0x, hp] at this
    omega
   have h3 : twoB (s.data.toList.drop a) = false := by
    unfold twoB
    rw [e _ rfl, e _ rfl, e _ rfl, e _ rfl]
    rfl
   rw [h3]
   rfl
theorem z9z (s : ByteArray) (hs : s.size ≤ 20000) : ∀ (d i k : Nat), s.size - i = d → i ≤ s.size → d < k → z0f.l0 k s (i : Int) = some (decide (i + runN signB (s.data.toList.drop i) = s.size))
 | 0, i, k, hd, hi, hk => by
  obtain ⟨k, rfl⟩ : ∃ m, k = m + 1 := ⟨k - 1, by omega⟩
  simp only [z0f.l0]
  rw [if_neg (by omega), z8c _ _ _ (by rw [z0x]; omega), decide_eq_true (by omega)]
 | d + 1, i, k, hd, hi, hk => by
  obtain ⟨k, rfl⟩ : ∃ m, k = m + 1 := ⟨k - 1, by omega⟩
  have hlt : i < s.size := by omega
  have ih := z9z s hs d (i + 1) k (by omega) (by omega) (by omega)
  have hst := z6l signB s.data.toList i (by rw [z0x]; exact hlt)
  rw [z2u s _ hlt] at hst
  simp only [z0f.l0]
  rw [if_pos (by omega), if_pos (by omega), z5g s _ hlt, z8x, hst]
  simp only [Option.bind_some]
  cases signB s[i] with
  | true =>
   rw [if_pos rfl, if_pos rfl, show wrap64 ((i : Int) + 1) = ((i + 1 : Nat) : Int) by unfold wrap64; omega, ih]
   congr 1
   rw [Bool.eq_iff_iff, decide_eq_true_eq, decide_eq_true_eq]
   omega
  | false =>
   rw [if_neg (by simp), if_neg (by simp), decide_eq_false (by omega)]
theorem zfj (s : ByteArray) (hs : s.size ≤ 20000) (k : Nat) (hk : s.size + 2 < k) : z0f.f k s = some (varL s.data.toList) := by
 obtain ⟨k, rfl⟩ : ∃ m, k = m + 1 := ⟨k - 1, by omega⟩
 unfold z0f.f
 have hT : z0f.j0 (k + 1) s true = some false := by simp only [z0f.j0, if_true]
 by_cases h0 : s.size = 0
 · rw [if_pos (by omega), hT]
   have : s.data.toList = [] := List.eq_nil_of_length_eq_zero (by rw [z0x]; exact h0)
   rw [this]; rfl
 · have hp : 0 < s.size := by omega
   obtain ⟨r, hr⟩ := z96 hp
   have hv : varL s.data.toList = (decide (s.size ≤ 40) && (z1n s[0] && decide (runN signB s.data.toList = s.size))) := by
    rw [← z0x s, hr]; rfl
   rw [if_neg (by omega), hv]
   by_cases h40 : s.size ≤ 40
   · rw [if_neg (by omega), if_pos (by omega), decide_eq_true h40, Bool.true_and]
     have hb := z5g s 0 hp
     rw [show ((0 : Nat) : Int) = 0 from rfl] at hb
     rw [hb]
     cases hg : z1n s[0] with
     | true =>
      unfold z1n at hg
      rw [decide_eq_true_eq] at hg
      rw [if_neg (by omega), decide_eq_false (by omega)]
      simp only [z0f.j0, Bool.false_eq_true, if_false]
      have := z9z s hs _ 0 k rfl (Nat.zero_le _) (by omega)
      rw [Nat.zero_add, List.drop_zero] at this
      rw [show (0 : Int) = ((0 : Nat) : Int) from rfl, this, Bool.true_and]
     | false =>
      unfold z1n at hg
      rw [decide_eq_false_iff_not] at hg
      rw [Bool.false_and]
      by_cases h1 : ((s[0].toNat : Int)) < 65
      · rw [if_pos h1, hT]
      · rw [if_neg h1, decide_eq_true (by omega), hT]
   · rw [if_pos (by omega), hT, decide_eq_false h40, Bool.false_and]
theorem z6s (s : ByteArray) (a n : Nat) : (s.extract a (a + n)).data.toList = (s.data.toList.drop a).take n := by rw [z3q, List.take_drop]
theorem nm_at (s : ByteArray) (a n : Nat) : nmL ((s.data.toList.drop a).take n) = nameB (s.extract a (a + n)) := by
 unfold nmL
 rw [← z6s, z7p]
theorem vl_at (s : ByteArray) (a n : Nat) : vlL ((s.data.toList.drop a).take n) = ((readR (s.extract a (a + n))).2.2.2 == 0) := by
 unfold vlL
 rw [← z6s, z7p]
def z7h (s : ByteArray) (a : Nat) (r : Option (Int × ByteArray × Int × Bool)) (o : Option (Nat × Nat)) : Prop := ∃ kk txt ok, r = some (kk, txt, (a : Int), ok) ∧ (∀ k' n, o = some (k', n) → kk = (k' : Int) ∧ txt = s.extract a (a + n) ∧ ok = true) ∧ (o = none → ok = false)
theorem z7h.yes {s : ByteArray} {a k n : Nat} {r : Option (Int × ByteArray × Int × Bool)} {ok : Bool} (h : r = some ((k : Int), s.extract a (a + n), (a : Int), ok)) {o : Option (Nat × Nat)} (ho : o = if ok then some (k, n) else none) : z7h s a r o := by
 refine ⟨_, _, _, h, ?_, ?_⟩
 · intro k' n' he
   subst ho
   cases ok with
   | true => injection he with he; injection he with e1 e2; subst e1; subst e2; exact ⟨rfl, rfl, rfl⟩
   | false => cases he
 · intro he
   subst ho
   cases ok with
   | true => cases he
   | false => rfl
theorem zbv (s : ByteArray) (a m : Nat) (y : Int) (hy : y = (m : Int)) (h1 : a ≤ m) (h2 : m ≤ s.size) {α : Type} (f : ByteArray → Option α) :
 (if 0 ≤ (a : Int) then (if (a : Int) ≤ y then (if y ≤ (s.size : Int) then f (s.extract (a : Int).toNat (y : Int).toNat) else none) else none) else none) = f (s.extract a m) := by
 subst hy
 rw [if_pos (by omega), if_pos (by omega), if_pos (by omega), Int.toNat_natCast, Int.toNat_natCast]
theorem ref_j2 (s : ByteArray) (hs : s.size ≤ 20000) (a : Nat) (ha : a < s.size) (k : Nat) (hk : s.size + 60 ≤ k) (b : Bool) :
 z7h s a (z09.j2 (k + 1) s (a : Int) b) (if b then (if vlL ((s.data.toList.drop a).take (1 + runN signB (s.data.toList.drop (a + 1)))) then some (3, 1 + runN signB (s.data.toList.drop (a + 1))) else none) else if twoB (s.data.toList.drop a) then some (4, 2) else if oneB s[a] then some (4, 1) else none) := by
 simp only [z09.j2]
 cases b with
 | true =>
  simp only [if_true]
  rw [show wrap64 ((a : Int) + 1) = ((a + 1 : Nat) : Int) by unfold wrap64; omega, z7t s hs (a + 1) (by omega) false k (by omega), z6q zap]
  have h1 := z3v signB (s.data.toList.drop (a + 1))
  rw [List.length_drop, z0x] at h1
  generalize hn : runN signB (s.data.toList.drop (a + 1)) = n at h1
  rw [Option.bind_some]
  rw [zbv s a (a + (1 + n)) _ (by unfold wrap64; omega) (by omega) (by omega) (fun z => (z14.f k z).bind fun bt152 => some ((3 : Int), z, (a : Int), (bt152.2.2.2 == 0))), zb5 _ k (by omega), refR_eq, vl_at]
  rw [Option.bind_some]
  exact z7h.yes (k := 3) (n := 1 + n) rfl rfl
 | false =>
  simp only [Bool.false_eq_true, if_false]
  have h2 : twoB (s.data.toList.drop a) = true → a + 2 ≤ s.size := fun ht => by
   rcases Nat.lt_or_ge (a + 1) s.size with h | h
   · omega
   · have hal : a < s.data.toList.length := by rw [z0x]; exact ha
     have : s.data.toList.drop (a + 1) = [] := List.drop_eq_nil_of_le (by rw [z0x]; exact h)
     rw [List.drop_eq_getElem_cons hal, this] at ht
     simp [twoB] at ht
  have hm : ∃ m : Nat, z0u.f k s (a : Int) = some (m : Int) ∧ a + m ≤ s.size ∧ (if twoB (s.data.toList.drop a) then some (4, 2) else if oneB s[a] then some (4, 1) else none) = (if decide ((m : Int) > 0) then some (4, m) else none : Option (Nat × Nat)) := by
   rw [zdv s hs a ha k (by omega)]
   cases ht : twoB (s.data.toList.drop a) with
   | true => exact ⟨2, rfl, h2 ht, rfl⟩
   | false =>
    cases ho : oneB s[a] with
    | true => exact ⟨1, rfl, by omega, rfl⟩
    | false => exact ⟨0, rfl, by omega, rfl⟩
  obtain ⟨m, hm1, hm2, hm3⟩ := hm
  rw [hm1, hm3]
  rw [Option.bind_some]
  rw [zbv s a (a + m) _ (by unfold wrap64; omega) (by omega) hm2 (fun z => some ((4 : Int), z, (a : Int), decide ((m : Int) > 0)))]
  exact z7h.yes (k := 4) (n := m) rfl rfl
theorem val_test (s : ByteArray) (hs : s.size ≤ 20000) (a : Nat) (ha : a < s.size) {α : Type} (g : Bool → Option α) (c : UInt8) :
 (if (c.toNat : Int) = 35 then g true else if (c.toNat : Int) ≥ 48 then (if (c.toNat : Int) ≤ 57 then g true else (if (c.toNat : Int) = 45 then (if (wrap64 ((a : Int) + 1)) < (s.size : Int) then (if 0 ≤ (wrap64 ((a : Int) + 1)) then (if (bt s (wrap64 ((a : Int) + 1))) ≥ 48 then g (decide ((bt s (wrap64 ((a : Int) + 1))) ≤ 57)) else g false) else none) else g false) else g false)) else (if (c.toNat : Int) = 45 then (if (wrap64 ((a : Int) + 1)) < (s.size : Int) then (if 0 ≤ (wrap64 ((a : Int) + 1)) then (if (bt s (wrap64 ((a : Int) + 1))) ≥ 48 then g (decide ((bt s (wrap64 ((a : Int) + 1))) ≤ 57)) else g false) else none) else g false) else g false)) = g (valB c (s.data.toList.drop (a + 1))) := by
 have e35 : ((c.toNat : Int) = 35) ↔ c = 35 := ze9 c 35 (by omega)
 have e45 : ((c.toNat : Int) = 45) ↔ c = 45 := ze9 c 45 (by omega)
 have hm : (if (c.toNat : Int) = 45 then (if (wrap64 ((a : Int) + 1)) < (s.size : Int) then (if 0 ≤ (wrap64 ((a : Int) + 1)) then (if (bt s (wrap64 ((a : Int) + 1))) ≥ 48 then g (decide ((bt s (wrap64 ((a : Int) + 1))) ≤ 57)) else g false) else none) else g false) else g false) = g (c == 45 && z8m (s.data.toList.drop (a + 1))) := by
  by_cases h45 : c = 45
  · rw [if_pos (e45.2 h45), show wrap64 ((a : Int) + 1) = ((a + 1 : Nat) : Int) by unfold wrap64; omega]
    have : (c == 45) = true := beq_iff_eq.2 h45
    rw [this, Bool.true_and]
    by_cases hz : a + 1 < s.size
    · have hal2 : a + 1 < s.data.toList.length := by rw [z0x]; exact hz
      rw [if_pos (by omega), if_pos (by omega), z5g s _ hz, List.drop_eq_getElem_cons hal2, z2u s _ hz]
      generalize s[a + 1] = d
      have hd : z8m (d :: s.data.toList.drop (a + 1 + 1)) = z1v d := rfl
      rw [hd]
      unfold z1v
      by_cases h48 : (d.toNat : Int) ≥ 48
      · rw [if_pos h48]; congr 1; rw [Bool.eq_iff_iff, decide_eq_true_eq, decide_eq_true_eq]; omega
      · rw [if_neg h48]; congr 1; symm; rw [decide_eq_false_iff_not]; omega
    · rw [if_neg (by omega), List.drop_eq_nil_of_le (by rw [z0x]; omega)]
      rfl
  · rw [if_neg (fun h => h45 (e45.1 h))]
    have : (c == 45) = false := beq_eq_false_iff_ne.2 h45
    rw [this, Bool.false_and]
 rw [hm]
 unfold valB
 by_cases h35 : c = 35
 · rw [if_pos (e35.2 h35)]
   have : (c == 35) = true := beq_iff_eq.2 h35
   rw [this]; rfl
 · rw [if_neg (fun h => h35 (e35.1 h))]
   have : (c == 35) = false := beq_eq_false_iff_ne.2 h35
   rw [this, Bool.false_or]
   unfold z1v
   by_cases h48 : (c.toNat : Int) ≥ 48
   · rw [if_pos h48]
     by_cases h57 : (c.toNat : Int) ≤ 57
     · rw [if_pos h57, decide_eq_true (by omega)]; rfl
     · rw [if_neg h57, decide_eq_false (by omega), Bool.false_or]
   · rw [if_neg h48, decide_eq_false (by omega), Bool.false_or]
theorem zfq (c : UInt8) {α : Type} (g : Bool → Option α) : (if (c.toNat : Int) ≥ 65 then g (decide ((c.toNat : Int) ≤ 90)) else g false) = g (z1n c) := by
 unfold z1n
 by_cases h : (c.toNat : Int) ≥ 65
 · rw [if_pos h]; congr 1; rw [Bool.eq_iff_iff, decide_eq_true_eq, decide_eq_true_eq]; omega
 · rw [if_neg h]; congr 1; symm; rw [decide_eq_false_iff_not]; omega
theorem zfh (c : UInt8) {α : Type} (g : Bool → Option α) : (if (c.toNat : Int) ≥ 97 then g (decide ((c.toNat : Int) ≤ 122)) else g false) = g (z1z c) := by
 unfold z1z
 by_cases h : (c.toNat : Int) ≥ 97
 · rw [if_pos h]; congr 1; rw [Bool.eq_iff_iff, decide_eq_true_eq, decide_eq_true_eq]; omega
 · rw [if_neg h]; congr 1; symm; rw [decide_eq_false_iff_not]; omega
theorem ref_j1 (s : ByteArray) (hs : s.size ≤ 20000) (a : Nat) (ha : a < s.size) (k : Nat) (hk : s.size + 62 ≤ k) :
 z7h s a (z09.j1 (k + 2) s (a : Int) (s[a].toNat : Int) (z1n s[a])) (if z1n s[a] then (if runN signB (s.data.toList.drop a) ≤ 40 then some (2, runN signB (s.data.toList.drop a)) else none) else if valB s[a] (s.data.toList.drop (a + 1)) then (if vlL ((s.data.toList.drop a).take (1 + runN signB (s.data.toList.drop (a + 1)))) then some (3, 1 + runN signB (s.data.toList.drop (a + 1))) else none) else if twoB (s.data.toList.drop a) then some (4, 2) else if oneB s[a] then some (4, 1) else none) := by
 have hal : a < s.data.toList.length := by rw [z0x]; exact ha
 rw [show k + 2 = (k + 1) + 1 from rfl]
 simp only [z09.j1]
 cases hgr : z1n s[a] with
 | true =>
  simp only [if_true]
  have hst := z6l signB s.data.toList a hal
  have hd : s.data.toList.drop a = s[a] :: s.data.toList.drop (a + 1) := by rw [List.drop_eq_getElem_cons hal, z2u s a ha]
  rw [z2u s a ha, za8 hgr, if_pos rfl] at hst
  have h1 := z3v signB (s.data.toList.drop a)
  rw [List.length_drop, z0x] at h1
  have hvar : varL ((s.data.toList.drop a).take (runN signB (s.data.toList.drop a))) = decide (runN signB (s.data.toList.drop a) ≤ 40) := by
   have h2 := z8q signB (s.data.toList.drop a)
   have h4 : ((s.data.toList.drop a).take (runN signB (s.data.toList.drop a))).length = runN signB (s.data.toList.drop a) := by rw [List.length_take, List.length_drop, z0x]; omega
   have h5 : (s.data.toList.drop a).take (runN signB (s.data.toList.drop a)) = s[a] :: (s.data.toList.drop (a + 1)).take (runN signB (s.data.toList.drop (a + 1))) := by rw [hst, hd, List.take_succ_cons]
   rw [h5] at h2 h4 ⊢
   simp only [varL]
   rw [h4, h2, hgr]
   simp
  rw [z7t s hs a (by omega) false (k + 1) (by omega), z6q zap]
  generalize hn : runN signB (s.data.toList.drop a) = n at h1 hvar
  rw [Option.bind_some]
  have hsz : (s.extract a (a + n)).size = n := by rw [ByteArray.size_extract]; omega
  rw [zbv s a (a + n) _ (by unfold wrap64; omega) (by omega) (by omega) (fun z => (z0f.f (k + 1) z).bind fun t150 => some ((2 : Int), z, (a : Int), t150)), zfj _ (by omega) (k + 1) (by omega), z6s, hvar]
  rw [Option.bind_some]
  refine z7h.yes (k := 2) (n := n) rfl ?_
  by_cases h40 : n ≤ 40
  · rw [if_pos h40, decide_eq_true h40]; rfl
  · rw [if_neg h40, decide_eq_false h40]; rfl
 | false =>
  simp only [Bool.false_eq_true, if_false]
  rw [val_test s hs a ha (fun b => z09.j2 (k + 1) s (a : Int) b) s[a]]
  exact ref_j2 s hs a ha k (by omega) _
theorem zdk (s : ByteArray) (hs : s.size ≤ 20000) (a : Nat) (ha : a < s.size) (k : Nat) (hk : s.size + 70 ≤ k) : z7h s a (z09.f k s (a : Int)) (nextN nmL vlL (s.data.toList.drop a)) := by
 obtain ⟨k, rfl⟩ : ∃ m, k = m + 3 := ⟨k - 3, by omega⟩
 have hal : a < s.data.toList.length := by rw [z0x]; exact ha
 have hd : s.data.toList.drop a = s[a] :: s.data.toList.drop (a + 1) := by rw [List.drop_eq_getElem_cons hal, z2u s a ha]
 have key : nextN nmL vlL (s.data.toList.drop a) = (if z1z s[a] then (if nmL ((s.data.toList.drop a).take (runN lowB (s.data.toList.drop a))) then some (1, runN lowB (s.data.toList.drop a)) else none) else (if z1n s[a] then (if runN signB (s.data.toList.drop a) ≤ 40 then some (2, runN signB (s.data.toList.drop a)) else none) else if valB s[a] (s.data.toList.drop (a + 1)) then (if vlL ((s.data.toList.drop a).take (1 + runN signB (s.data.toList.drop (a + 1)))) then some (3, 1 + runN signB (s.data.toList.drop (a + 1))) else none) else if twoB (s.data.toList.drop a) then some (4, 2) else if oneB s[a] then some (4, 1) else none)) := by
  rw [hd]
  simp only [nextN]
 rw [key]
 unfold z09.f
 rw [if_pos (by omega), if_pos (by omega), z5g s a ha, zfh s[a] (fun b => z09.j0 (k + 3) s (a : Int) (s[a].toNat : Int) b), show k + 3 = (k + 2) + 1 from rfl]
 simp only [z09.j0]
 cases hsm : z1z s[a] with
 | true =>
  simp only [if_true]
  have h1 := z3v lowB (s.data.toList.drop a)
  rw [List.length_drop, z0x] at h1
  rw [z7t s hs a (by omega) true (k + 2) (by omega), z6q pB_true]
  generalize hn : runN lowB (s.data.toList.drop a) = n at h1
  rw [Option.bind_some]
  rw [zbv s a (a + n) _ (by unfold wrap64; omega) (by omega) (by omega) (fun z => (z1p.f z).bind fun t148 => some ((1 : Int), z, (a : Int), t148)), nm_at]
  unfold z1p.f
  rw [Option.bind_some]
  exact z7h.yes (k := 1) (n := n) rfl rfl
 | false =>
  simp only [Bool.false_eq_true, if_false]
  rw [zfq s[a] (fun b => z09.j1 (k + 2) s (a : Int) (s[a].toNat : Int) b)]
  exact ref_j1 s hs a ha k (by omega)
def tokS2 (s : ByteArray) (x : Nat × Nat × Nat) : S53 := ⟨x.1, s.extract x.2.1 (x.2.1 + x.2.2), x.2.1⟩
def z4l (s : ByteArray) : List S53 × Int × Int := match tokN nmL vlL 0 s.data.toList with
 | .error i => ([], (i : Int), 2)
 | .ok l => (l.map (tokS2 s), 0, 0)
theorem z68 (s : ByteArray) (hs : s.size ≤ 20000) : ∀ (d a : Nat) (pre : List (Nat × Nat × Nat)) (k : Nat), s.size - a ≤ d → a ≤ s.size → z5n s.data.toList a pre → pre.length ≤ a → 2 * d + s.size + 72 ≤ k →
 z0l.l0 k s (pre.map (tokS2 s)) (a : Int) = some (z4l s)
 | d, a, pre, k, hd, ha, hi, hp, hk => by
  obtain ⟨k, rfl⟩ : ∃ m, k = m + 2 := ⟨k - 2, by omega⟩
  simp only [z0l.l0]
  by_cases hlt : a < s.size
  · have hal : a < s.data.toList.length := by rw [z0x]; exact hlt
    have hg := z2u s a hlt hal
    have e1 : (if (bt s (a : Int)) = 32 then z0l.j1 (k + 1) s (pre.map (tokS2 s)) (a : Int) true else if (bt s (a : Int)) = 9 then z0l.j1 (k + 1) s (pre.map (tokS2 s)) (a : Int) true else z0l.j1 (k + 1) s (pre.map (tokS2 s)) (a : Int) ((bt s (a : Int)) == 10)) = z0l.j1 (k + 1) s (pre.map (tokS2 s)) (a : Int) (z45 s[a]) := by
     rw [z5g s a hlt]
     generalize s[a] = c
     have e32 : ((c.toNat : Int) = 32) ↔ c = 32 := ze9 c 32 (by omega)
     have e9 : ((c.toNat : Int) = 9) ↔ c = 9 := ze9 c 9 (by omega)
     have e10 : ((c.toNat : Int) == 10) = (c == 10) := z2f c 10 (by omega)
     unfold z45
     by_cases h32 : c = 32
     · rw [if_pos (e32.2 h32)]; simp [h32]
     · rw [if_neg (fun h => h32 (e32.1 h))]
       by_cases h9 : c = 9
       · rw [if_pos (e9.2 h9)]; simp [h9]
       · rw [if_neg (fun h => h9 (e9.1 h)), e10, beq_eq_false_iff_ne.2 h32, beq_eq_false_iff_ne.2 h9, Bool.false_or, Bool.false_or]
    rw [if_pos (by omega), if_pos (by omega), e1]
    simp only [z0l.j1]
    cases hb : z45 s[a] with
    | true =>
     rw [if_pos rfl, show wrap64 ((a : Int) + 1) = ((a + 1 : Nat) : Int) by unfold wrap64; omega]
     obtain ⟨d, rfl⟩ : ∃ m, d = m + 1 := ⟨d - 1, by omega⟩
     exact z68 s hs d (a + 1) pre k (by omega) (by omega) (zck hi hal (by rw [hg]; exact hb)) (by omega) (by omega)
    | false =>
     rw [if_neg (by simp)]
     obtain ⟨kk, txt, ok, hn, hcase, hcase2⟩ := zdk s hs a hlt k (by omega)
     rw [hn]
     simp only [Option.bind_some]
     cases hm : nextN nmL vlL (s.data.toList.drop a) with
     | none =>
      rw [hcase2 hm, if_neg (by simp)]
      have := zcb hi hal (by rw [hg]; exact hb) hm
      unfold z4l
      rw [this]
     | some y =>
      obtain ⟨k', n⟩ := y
      obtain ⟨h1, h2, h3⟩ := hcase k' n hm
      have hpos := z6u hm
      rw [List.length_drop, z0x] at hpos
      have hsz : txt.size = n := by rw [h2, ByteArray.size_extract]; omega
      rw [h3, if_pos rfl, if_pos (by rw [List.length_map]; omega), hsz, show wrap64 ((a : Int) + (n : Int)) = ((a + n : Nat) : Int) by unfold wrap64; omega]
      have e2 : pre.map (tokS2 s) ++ [(⟨kk, txt, (a : Int)⟩ : S53)] = (pre ++ [(k', a, n)]).map (tokS2 s) := by
       rw [List.map_append, h1, h2]; rfl
      rw [e2]
      obtain ⟨d, rfl⟩ : ∃ m, d = m + 1 := ⟨d - 1, by omega⟩
      exact z68 s hs d (a + n) _ k (by omega) (by omega) (zel hi hal (by rw [hg]; exact hb) k' n hm) (by rw [List.length_append]; simp; omega) (by omega)
  · rw [if_neg (by omega)]
    have := zgl hi (by rw [z0x]; omega)
    unfold z4l
    rw [this]
theorem zb9 (s : ByteArray) (hs : s.size ≤ 20000) (k : Nat) (hk : 3 * s.size + 72 ≤ k) : z0l.f k s = some (z4l s) := by
 unfold z0l.f
 rw [if_neg (by omega)]
 exact z68 s hs s.size 0 [] k (by omega) (Nat.zero_le _) (zd1 _) (Nat.le_refl _) (by omega)
theorem z9y (s : ByteArray) (ws : List ByteArray) (hw : ws.length ≤ 100) : ∀ (d i k : Nat), ws.length - i = d → i ≤ ws.length → d < k → z16.l0 k s ws (ws.length : Int) (i : Int) = some ((ws.drop i).any fun w => w.data.toList == s.data.toList)
 | 0, i, k, hd, hi, hk => by
  obtain ⟨k, rfl⟩ : ∃ m, k = m + 1 := ⟨k - 1, by omega⟩
  simp only [z16.l0]
  rw [if_neg (by omega), List.drop_eq_nil_of_le (by omega)]
  rfl
 | d + 1, i, k, hd, hi, hk => by
  obtain ⟨k, rfl⟩ : ∃ m, k = m + 1 := ⟨k - 1, by omega⟩
  have hlt : i < ws.length := by omega
  have ih := z9y s ws hw d (i + 1) k (by omega) (by omega) (by omega)
  simp only [z16.l0]
  have hrd : rdOf ByteArray.empty ws (i : Int) = ws[i] := by simp [rdOf, List.getD, hlt]
  rw [if_pos (by omega), if_pos (by omega), if_pos (by omega), hrd, z2g, z2g, show wrap64 ((i : Int) + 1) = ((i + 1 : Nat) : Int) by unfold wrap64; omega, ih, List.drop_eq_getElem_cons hlt, List.any_cons]
  by_cases h : ws[i].data.toList = s.data.toList
  · rw [if_pos h, beq_iff_eq.2 h]; rfl
  · rw [if_neg h, beq_eq_false_iff_ne.2 h, Bool.false_or]
theorem zf7 (s : ByteArray) (k : Nat) (hk : 12 ≤ k) : z16.f k s = some (keyL s.data.toList) := by
 unfold z16.f
 simp only [Option.bind_some]
 have := z9y s [(⟨#[110, 111, 116]⟩ : ByteArray), ⟨#[105, 115]⟩, ⟨#[112, 108, 117, 115]⟩, ⟨#[109, 105, 110, 117, 115]⟩, ⟨#[116, 105, 109, 101, 115]⟩, ⟨#[119, 97, 108, 107]⟩, ⟨#[99, 111, 117, 110, 116]⟩, ⟨#[115, 117, 109]⟩, ⟨#[109, 105, 110]⟩, ⟨#[109, 97, 120]⟩, ⟨#[109, 101, 97, 110]⟩] (by decide) 11 0 k rfl (by omega) (by omega)
 refine (show _ = _ from this).trans ?_
 congr 1
 unfold keyL keysL
 rw [List.contains_eq_any_beq]
 simp only [List.drop_zero, List.any_cons, List.any_nil]
 have hc : ∀ a b : List UInt8, (a == b) = (b == a) := fun a b => by rw [Bool.eq_iff_iff, beq_iff_eq, beq_iff_eq]; exact eq_comm
 rw [hc s.data.toList [110, 111, 116], hc s.data.toList [105, 115], hc s.data.toList [112, 108, 117, 115], hc s.data.toList [109, 105, 110, 117, 115], hc s.data.toList [116, 105, 109, 101, 115], hc s.data.toList [119, 97, 108, 107], hc s.data.toList [99, 111, 117, 110, 116], hc s.data.toList [115, 117, 109], hc s.data.toList [109, 105, 110], hc s.data.toList [109, 97, 120], hc s.data.toList [109, 101, 97, 110]]

abbrev RTk := S53
def tkR (x : RTk) : TK := (x.f0, x.f1)
def leftR (ts : List RTk) (K : Nat) : List TK := (ts.drop K).map tkR
def z5a (ts : List RTk) (en : Int) (K : Nat) : Int := if h : K < ts.length then (ts[K]).f2 else en
theorem z5x {ts : List RTk} {K : Nat} (h : K < ts.length) : leftR ts K = tkR ts[K] :: leftR ts (K + 1) := by
 unfold leftR
 rw [List.drop_eq_getElem_cons h, List.map_cons]
theorem z4r {ts : List RTk} {K : Nat} (h : ts.length ≤ K) : leftR ts K = [] := by
 unfold leftR
 rw [List.drop_eq_nil_of_le h]; rfl
theorem z4t (ts : List RTk) (K : Nat) : (leftR ts K).length = ts.length - K := by simp [leftR]
theorem z6t (ts : List RTk) (K : Nat) : (leftR ts K).drop 1 = leftR ts (K + 1) := by
 unfold leftR
 rw [← List.map_drop, List.drop_drop]
theorem rd_R (ts : List RTk) (K : Nat) (h : K < ts.length) : z5k ts (K : Int) = ts[K] := by
 show ts.getD (Int.toNat (K : Int)) _ = _
 rw [Int.toNat_natCast, List.getD_eq_getElem?_getD, List.getElem?_eq_getElem h]
 rfl
theorem z4y {n : Nat} (h : n ≤ 1000000) : wrap64 ((n : Int) + 1) = ((n + 1 : Nat) : Int) := by unfold wrap64; omega
theorem zfe {n : Nat} (h : n ≤ 1000000) : wrap64 ((n : Int) + 0) = (n : Int) := by unfold wrap64; omega
theorem see_R {ts : List RTk} {K : Nat} (hK : K ≤ ts.length) (hl : ts.length ≤ 100000) (en W : Int) : z1c.f ts K en 0 W 0 = some (if h : K < ts.length then ((ts[K]).f0, (ts[K]).f1, (K : Int), en, 0, W) else (0, ⟨#[]⟩, (K : Int), en, 0, W)) := by
 unfold z1c.f
 rw [if_pos rfl, zfe (by omega)]
 by_cases h : K < ts.length
 · rw [if_neg (by omega), if_pos (by omega), if_pos (by omega), rd_R ts K h, dif_pos h]
 · rw [if_pos (by omega), dif_neg h]
theorem is_R {ts : List RTk} {K : Nat} (hK : K ≤ ts.length) (hl : ts.length ≤ 100000) (en W : Int) (m : ByteArray) (l : List UInt8) (hm : m.data.toList = l) : z0c.f ts K en 0 W 0 4 m = some (mk0 (leftR ts K) l, (K : Int), en, 0, W) := by
 unfold z0c.f
 rw [see_R hK hl, Option.bind_some]
 by_cases h : K < ts.length
 · rw [dif_pos h, z5x h]
   simp only [mk0, isT, tkR]
   by_cases h4 : (ts[K]).f0 = 4
   · rw [if_pos h4, h4, ByteArray.toList_eq, ByteArray.toList_eq, hm]
     simp
   · rw [if_neg h4, show ((ts[K]).f0 == (4 : Int)) = false from beq_eq_false_iff_ne.2 h4]
     rfl
 · rw [dif_neg h, z4r (by omega)]
   rfl
theorem is_E {ts : List RTk} {K : Int} {en E W : Int} (hE : E ≠ 0) (m : ByteArray) : z0c.f ts K en E W 0 4 m = some (false, K, en, E, W) := by
 unfold z0c.f z1c.f
 rw [if_neg hE, Option.bind_some]
 rfl
theorem at_R {ts : List RTk} {K : Nat} (hK : K ≤ ts.length) (en E W : Int) : z0t.f ts K en E W = some (z5a ts en K, (K : Int), en, E, W) := by
 unfold z0t.f z5a
 by_cases h : K < ts.length
 · rw [if_pos (by omega), if_pos (by omega), rd_R ts K h, dif_pos h]
 · rw [if_neg (by omega), dif_neg h]
theorem zcl (ts : List RTk) (K en W a b : Int) : z0i.f ts K en 0 W a b = some (K, en, a, b) := by
 unfold z0i.f
 rw [if_pos rfl]
theorem fail_E (ts : List RTk) {K en E W a b : Int} (hE : E ≠ 0) : z0i.f ts K en E W a b = some (K, en, E, W) := by
 unfold z0i.f
 rw [if_neg hE]
theorem want_R {ts : List RTk} {K : Nat} (hK : K ≤ ts.length) (hl : ts.length ≤ 100000) (en W : Int) (m : ByteArray) (l : List UInt8) (hm : m.data.toList = l) : z18.f ts K en 0 W m = some (if mk0 (leftR ts K) l then (((K + 1 : Nat) : Int), en, 0, W) else ((K : Int), en, 2, z5a ts en K)) := by
 unfold z18.f
 rw [is_R hK hl en W m l hm, Option.bind_some]
 by_cases h : mk0 (leftR ts K) l = true
 · simp only [h, if_true]
   rw [z4y (by omega)]
 · simp only [h, if_false, Bool.false_eq_true]
   rw [at_R hK, Option.bind_some, zcl, Option.bind_some]
theorem want_E {ts : List RTk} {K : Nat} (hK : K ≤ ts.length) {en E W : Int} (hE : E ≠ 0) (m : ByteArray) : z18.f ts K en E W m = some ((K : Int), en, E, W) := by
 unfold z18.f
 rw [is_E hE m, Option.bind_some]
 show (z0t.f ts K en E W).bind _ = _
 rw [at_R hK, Option.bind_some, fail_E ts hE, Option.bind_some]
theorem pred_R {ts : List RTk} {K : Nat} (hK : K ≤ ts.length) (hl : ts.length ≤ 100000) (en W : Int) (k : Nat) (hk : 12 ≤ k) : z0b.f k ts K en 0 W = some (match z1g (leftR ts K) with
 | .ok (p, r) => (p, ((K + 1 : Nat) : Int), en, 0, W)
 | .error _ => (⟨#[]⟩, (K : Int), en, 2, z5a ts en K)) := by
 obtain ⟨k, rfl⟩ : ∃ j, k = j + 1 := ⟨k - 1, by omega⟩
 have hno : ∀ s : ByteArray, z0b.j0 (k + 1) s true ts K en 0 W = some (⟨#[]⟩, (K : Int), en, 2, z5a ts en K) := fun s => by
  simp only [z0b.j0, if_true]
  rw [at_R hK, Option.bind_some, zcl, Option.bind_some]
 have hyes : ∀ s : ByteArray, z0b.j0 (k + 1) s false ts K en 0 W = some (s, ((K + 1 : Nat) : Int), en, 0, W) := fun s => by
  simp only [z0b.j0, Bool.false_eq_true, if_false]
  rw [z4y (by omega)]
 unfold z0b.f
 rw [see_R hK hl, Option.bind_some]
 by_cases h : K < ts.length
 · rw [dif_pos h, z5x h]
   have hyes2 : predB (tkR ts[K]) = true → z1g (tkR ts[K] :: leftR ts (K + 1)) = .ok ((ts[K]).f1, leftR ts (K + 1)) := fun hb => by
    simp only [z1g, hb, if_true]
    rfl
   have hno2 : predB (tkR ts[K]) = false → z1g (tkR ts[K] :: leftR ts (K + 1)) = .error ((leftR ts (K + 1)).length + 1, 2) := fun hb => by
    simp only [z1g, hb, if_false, Bool.false_eq_true]
   by_cases h1 : (ts[K]).f0 = 1
   · have hb : predB (tkR ts[K]) = !keyL (ts[K]).f1.data.toList := by
      unfold predB tkR
      rw [h1]
      rfl
     simp only
     rw [if_pos h1, zf7 _ _ hk, Option.bind_some]
     cases hy : keyL (ts[K]).f1.data.toList with
     | true =>
      rw [hy] at hb
      rw [hno, hno2 hb]
     | false =>
      rw [hy] at hb
      rw [hyes, hyes2 hb]
   · have hb : predB (tkR ts[K]) = false := by
      unfold predB tkR
      rw [show ((ts[K]).f0 == (1 : Int)) = false from beq_eq_false_iff_ne.2 h1]
      rfl
     simp only
     rw [if_neg h1, hno, hno2 hb]
 · rw [dif_neg h, z4r (by omega)]
   exact hno ⟨#[]⟩
def OutR (ts : List RTk) (en W : Int) (K0 : Nat) (res : Except (Nat × Int) (List StS × List TK)) (o : Option (List StS × Int × Int × Int × Int)) : Prop :=
 match res with
 | .ok y => ∃ K' : Nat, K0 ≤ K' ∧ K' ≤ ts.length ∧ leftR ts K' = y.2 ∧ y.1.length + K0 ≤ K' ∧ o = some (y.1, (K' : Int), en, 0, W)
 | .error q => ∃ (x : List StS) (K' : Nat), K' ≤ ts.length ∧ x.length + K0 ≤ ts.length + 1 ∧ q.2 ≠ 0 ∧ o = some (x, (K' : Int), en, q.2, z5a ts en (ts.length - q.1))
theorem l0_E (PF : PFT) (k : Nat) (acc : List StS) (ts : List RTk) {K en E W : Int} (hE : E ≠ 0) : z06.l0 PF (k + 1) acc ts K en E W = some (acc, K, en, E, W) := by
 simp only [z06.l0]
 rw [if_neg hE]
theorem l0_R (PF : PFT) {ts : List RTk} (hl : ts.length ≤ 100000) (en W : Int) {K : Nat} (k : Nat) (acc : List StS) (hK : K ≤ ts.length) (ha : acc.length ≤ K) :
 z06.l0 PF (k + 1) acc ts K en 0 W = if mk0 (leftR ts K) [42] then z06.l0 PF k (acc ++ [stepS 5]) ts ((K + 1 : Nat) : Int) en 0 W
  else if mk0 (leftR ts K) [43] then z06.l0 PF k (acc ++ [stepS 6]) ts ((K + 1 : Nat) : Int) en 0 W
  else if mk0 (leftR ts K) [63] then z06.l0 PF k (acc ++ [stepS 7]) ts ((K + 1 : Nat) : Int) en 0 W else some (acc, (K : Int), en, 0, W) := by
 have hw : wrap64 ((K : Int) + 1) = ((K + 1 : Nat) : Int) := z4y (by omega)
 have hlt : acc.length < 5864062014805 := by omega
 rw [z06.l0, if_pos rfl, is_R hK hl en W _ [42] rfl, Option.bind_some]
 simp only [hw, if_pos hlt]
 rw [is_R hK hl en W _ [43] rfl, Option.bind_some]
 simp only [hw, if_pos hlt]
 rw [is_R hK hl en W _ [63] rfl, Option.bind_some]
 simp only [hw, if_pos hlt]
 rfl
theorem marks_R (PF : PFT) {ts : List RTk} (hl : ts.length ≤ 100000) (en W : Int) : ∀ (d K : Nat) (k : Nat) (acc : List StS), ts.length - K = d → K ≤ ts.length → d < k → acc.length ≤ K →
 ∃ K' : Nat, K ≤ K' ∧ K' ≤ ts.length ∧ leftR ts K' = (z1b (leftR ts K)).2 ∧ (z1b (leftR ts K)).1.length + K ≤ K' ∧ z06.l0 PF k acc ts K en 0 W = some (acc ++ (z1b (leftR ts K)).1, (K' : Int), en, 0, W) := by
 intro d
 induction d with
 | zero =>
  intro K k acc hd hK hk ha
  obtain ⟨k, rfl⟩ : ∃ j, k = j + 1 := ⟨k - 1, by omega⟩
  have e : leftR ts K = [] := z4r (by omega)
  rw [l0_R PF hl en W k acc hK ha, e]
  exact ⟨K, Nat.le_refl _, hK, e, by simp [z1b], by simp [mk0, z1b]⟩
 | succ d ih =>
  intro K k acc hd hK hk ha
  obtain ⟨k, rfl⟩ : ∃ j, k = j + 1 := ⟨k - 1, by omega⟩
  have hlt : K < ts.length := by omega
  have e := z5x hlt
  have step : ∀ n : Int, z1b (leftR ts K) = (stepS n :: (z1b (leftR ts (K + 1))).1, (z1b (leftR ts (K + 1))).2) →
   z06.l0 PF (k + 1) acc ts K en 0 W = z06.l0 PF k (acc ++ [stepS n]) ts ((K + 1 : Nat) : Int) en 0 W →
   ∃ K' : Nat, K ≤ K' ∧ K' ≤ ts.length ∧ leftR ts K' = (z1b (leftR ts K)).2 ∧ (z1b (leftR ts K)).1.length + K ≤ K' ∧ z06.l0 PF (k + 1) acc ts K en 0 W = some (acc ++ (z1b (leftR ts K)).1, (K' : Int), en, 0, W) := fun n hm hs => by
   obtain ⟨K', h1, h2, h3, h4, h5⟩ := ih (K + 1) k (acc ++ [stepS n]) (by omega) (by omega) (by omega) (by simp; omega)
   refine ⟨K', by omega, h2, by rw [hm]; exact h3, by rw [hm]; simp only [List.length_cons]; omega, ?_⟩
   rw [hs, h5, hm]
   simp
  have hl0 := l0_R PF hl en W k acc hK ha
  rw [e] at hl0
  have m42 : mk0 (tkR ts[K] :: leftR ts (K + 1)) [42] = isT (tkR ts[K]) 4 [42] := rfl
  have m43 : mk0 (tkR ts[K] :: leftR ts (K + 1)) [43] = isT (tkR ts[K]) 4 [43] := rfl
  have m63 : mk0 (tkR ts[K] :: leftR ts (K + 1)) [63] = isT (tkR ts[K]) 4 [63] := rfl
  rw [m42, m43, m63] at hl0
  by_cases h42 : isT (tkR ts[K]) 4 [42] = true
  · rw [if_pos h42] at hl0
    exact step 5 (by rw [e]; simp only [z1b, h42, if_true]) hl0
  rw [if_neg h42] at hl0
  by_cases h43 : isT (tkR ts[K]) 4 [43] = true
  · rw [if_pos h43] at hl0
    exact step 6 (by rw [e]; simp only [z1b, h42, h43, if_true, if_false, Bool.false_eq_true]) hl0
  rw [if_neg h43] at hl0
  by_cases h63 : isT (tkR ts[K]) 4 [63] = true
  · rw [if_pos h63] at hl0
    exact step 7 (by rw [e]; simp only [z1b, h42, h43, h63, if_true, if_false, Bool.false_eq_true]) hl0
  rw [if_neg h63] at hl0
  have hm : z1b (leftR ts K) = ([], leftR ts K) := by
   rw [e]; simp only [z1b, h42, h43, h63, if_false, Bool.false_eq_true]
  refine ⟨K, Nat.le_refl _, hK, by rw [hm], by rw [hm]; simp, ?_⟩
  rw [hl0, hm]
  simp
theorem zbk (PF : PFT) {ts : List RTk} (hl : ts.length ≤ 100000) (en W : Int) {K0 K : Nat} (k : Nat) (acc : List StS) (hK : K ≤ ts.length) (hk : ts.length - K + 2 ≤ k) (h0 : K0 ≤ K) (ha : acc.length + K0 ≤ K) :
 OutR ts en W K0 (.ok (acc ++ (z1b (leftR ts K)).1, (z1b (leftR ts K)).2)) (z06.j0 PF k acc ts K en 0 W) := by
 obtain ⟨k, rfl⟩ : ∃ j, k = j + 1 := ⟨k - 1, by omega⟩
 obtain ⟨K', h1, h2, h3, h4, h5⟩ := marks_R PF hl en W _ K k acc rfl hK (by omega) (by omega)
 refine ⟨K', by omega, h2, h3, ?_, ?_⟩
 · show (acc ++ _).length + K0 ≤ K'
   rw [List.length_append]; omega
 · simp only [z06.j0]
   exact h5
theorem zax (PF : PFT) {ts : List RTk} (en : Int) {W : Int} {K0 K : Nat} (k : Nat) (acc : List StS) (hK : K ≤ ts.length) (hk : 2 ≤ k) (ha : acc.length + K0 ≤ ts.length + 1) {n : Nat} {e : Int} (he : e ≠ 0) :
 OutR ts en W K0 (.error (n, e)) (z06.j0 PF k acc ts K en e (z5a ts en (ts.length - n))) := by
 obtain ⟨k, rfl⟩ : ∃ j, k = j + 1 + 1 := ⟨k - 2, by omega⟩
 refine ⟨acc, K, hK, ha, he, ?_⟩
 simp only [z06.j0]
 exact l0_E PF k acc ts he
theorem part_R (PF : PFT) {ts : List RTk} (hl : ts.length ≤ 100000) (en W : Int) (d : Nat) (hd : d ≤ 32)
 (hPF : ∀ d', d = d' + 1 → ∀ (K k : Nat), K ≤ ts.length → ts.length - K + 60 ≤ k → OutR ts en W K (pathP d' (leftR ts K)) (PF k ts K en 0 W ((32 - d' : Nat) : Int)))
 (K k : Nat) (hK : K ≤ ts.length) (hk : ts.length - K + 60 ≤ k) : OutR ts en W K (partP d (leftR ts K)) (z06.f PF k ts K en 0 W ((32 - d : Nat) : Int)) := by
 have hlen := z4t ts K
 unfold z06.f
 rw [is_R hK hl en W _ [40] rfl, Option.bind_some]
 by_cases h40 : mk0 (leftR ts K) [40] = true
 · simp only [h40, if_true]
   have hK1 : K + 1 ≤ ts.length := by
    by_cases h : K < ts.length
    · omega
    · rw [z4r (by omega)] at h40; cases h40
   cases d with
   | zero =>
    rw [if_pos (show ((32 - 0 : Nat) : Int) = 32 from rfl), at_R hK, Option.bind_some, zcl, Option.bind_some]
    have : partP 0 (leftR ts K) = .error ((leftR ts K).length, 3) := by
     show partW none (leftR ts K) = _
     unfold partW baseP
     rw [if_pos h40]
     rfl
    rw [this]
    refine ⟨[], K, hK, by simp; omega, by show (3 : Int) ≠ 0; decide, ?_⟩
    show some _ = some _
    rw [hlen, show ts.length - (ts.length - K) = K by omega]
   | succ d =>
    have hw : wrap64 (((32 - (d + 1) : Nat) : Int) + 1) = ((32 - d : Nat) : Int) := by unfold wrap64; omega
    rw [if_neg (by omega), z4y (by omega), hw]
    have ih := hPF d rfl (K + 1) k hK1 (by omega)
    have hp : partP (d + 1) (leftR ts K) = bnd (bnd (pathP d (leftR ts (K + 1))) fun x r => bnd (wantP [41] r) fun _ r => .ok (x, r)) fun x r => .ok (x ++ (z1b r).1, (z1b r).2) := by
     show partW (some (pathP d)) (leftR ts K) = _
     unfold partW baseP
     rw [if_pos h40]
     simp only [z6t]
    rw [hp]
    cases hpath : pathP d (leftR ts (K + 1)) with
    | error q =>
     rw [hpath] at ih
     obtain ⟨x, K', h1, h2, h3, h4⟩ := ih
     rw [h4, Option.bind_some]
     simp only
     rw [want_E h1 h3, Option.bind_some]
     exact zax PF en k x h1 (by omega) (by omega) h3
    | ok y =>
     rw [hpath] at ih
     obtain ⟨K', h0, h1, h2, h3, h4⟩ := ih
     rw [h4, Option.bind_some]
     simp only
     rw [want_R h1 hl en W _ [41] rfl, Option.bind_some, h2]
     by_cases h41 : mk0 y.2 [41] = true
     · have hK2 : K' + 1 ≤ ts.length := by
        by_cases h : K' < ts.length
        · omega
        · rw [← h2, z4r (by omega)] at h41; cases h41
       simp only [h41, if_true]
       have e2 : wantP [41] y.2 = .ok ((), leftR ts (K' + 1)) := by
        unfold wantP
        rw [if_pos h41, ← h2, z6t]
       simp only [bnd, e2]
       exact zbk PF hl en W k y.1 hK2 (by omega) (by omega) (by omega)
     · simp only [h41, if_false, Bool.false_eq_true]
       have e2 : wantP [41] y.2 = .error (y.2.length, 2) := by
        unfold wantP
        rw [if_neg h41]
       have e3 : ts.length - y.2.length = K' := by rw [← h2, z4t]; omega
       simp only [bnd, e2]
       have := zax PF en (W := W) (K0 := K) k y.1 h1 (by omega) (by omega) (n := y.2.length) (e := 2) (by decide)
       rwa [e3] at this
 · simp only [h40, if_false, Bool.false_eq_true]
   obtain ⟨o, ho⟩ := part_any d
   rw [ho, is_R hK hl en W _ [94] rfl, Option.bind_some]
   by_cases h94 : mk0 (leftR ts K) [94] = true
   · simp only [h94, if_true]
     have hK1 : K + 1 ≤ ts.length := by
      by_cases h : K < ts.length
      · omega
      · rw [z4r (by omega)] at h94; cases h94
     have hp : partW o (leftR ts K) = bnd (bnd (z1g (leftR ts (K + 1))) fun p r => .ok ([⟨2, p⟩], r)) fun x r => .ok (x ++ (z1b r).1, (z1b r).2) := by
      unfold partW baseP
      rw [if_neg h40, if_pos h94]
      simp only [z6t]
     rw [hp, z4y (by omega), pred_R hK1 hl en W k (by omega), Option.bind_some]
     cases hpr : z1g (leftR ts (K + 1)) with
     | ok y =>
      obtain ⟨p, r⟩ := y
      obtain ⟨t, e1, e2, _⟩ := z4o hpr
      have hlt : K + 1 < ts.length := by
       by_cases h : K + 1 < ts.length
       · exact h
       · rw [z4r (by omega)] at e1; cases e1
      have er : r = leftR ts (K + 2) := by
       rw [z5x hlt] at e1
       injection e1 with _ e1
       exact e1.symm
      rw [er]
      exact zbk PF hl en W k [⟨2, p⟩] (by omega) (by omega) (by omega) (by simp; omega)
     | error q =>
      have hq : q = ((leftR ts (K + 1)).length, 2) := by
       cases hc : leftR ts (K + 1) with
       | nil => rw [hc] at hpr; injection hpr with hpr; exact hpr.symm
       | cons t r =>
        rw [hc] at hpr
        simp only [z1g] at hpr
        split at hpr
        · cases hpr
        · injection hpr with hpr; exact hpr.symm
      rw [hq]
      have e3 : ts.length - (leftR ts (K + 1)).length = K + 1 := by rw [z4t]; omega
      have := zax PF en (W := W) (K0 := K) k [⟨2, ⟨#[]⟩⟩] hK1 (by omega) (by simp; omega) (n := (leftR ts (K + 1)).length) (e := 2) (by decide)
      rw [e3] at this
      exact this
   · simp only [h94, if_false, Bool.false_eq_true]
     have hp : partW o (leftR ts K) = bnd (bnd (z1g (leftR ts K)) fun p r => .ok ([⟨1, p⟩], r)) fun x r => .ok (x ++ (z1b r).1, (z1b r).2) := by
      unfold partW baseP
      rw [if_neg h40, if_neg h94]
     rw [hp, pred_R hK hl en W k (by omega), Option.bind_some]
     cases hpr : z1g (leftR ts K) with
     | ok y =>
      obtain ⟨p, r⟩ := y
      obtain ⟨t, e1, e2, _⟩ := z4o hpr
      have hlt : K < ts.length := by
       by_cases h : K < ts.length
       · exact h
       · rw [z4r (by omega)] at e1; cases e1
      have er : r = leftR ts (K + 1) := by
       rw [z5x hlt] at e1
       injection e1 with _ e1
       exact e1.symm
      rw [er]
      exact zbk PF hl en W k [⟨1, p⟩] (by omega) (by omega) (by omega) (by simp; omega)
     | error q =>
      have hq : q = ((leftR ts K).length, 2) := by
       cases hc : leftR ts K with
       | nil => rw [hc] at hpr; injection hpr with hpr; exact hpr.symm
       | cons t r =>
        rw [hc] at hpr
        simp only [z1g] at hpr
        split at hpr
        · cases hpr
        · injection hpr with hpr; exact hpr.symm
      rw [hq]
      have e3 : ts.length - (leftR ts K).length = K := by rw [z4t]; omega
      have := zax PF en (W := W) (K0 := K) k [⟨1, ⟨#[]⟩⟩] hK (by omega) (by simp; omega) (n := (leftR ts K).length) (e := 2) (by decide)
      rw [e3] at this
      exact this
theorem rowR (s : List UInt8) (n : Int) (sb : ByteArray) (hsb : sb.data.toList = s) {ts : List RTk} (hl : ts.length ≤ 100000) (en W : Int) (one : Prs (List StS)) (h1 : Nat → Nat → Option (List StS × Int × Int × Int × Int))
 (L : Nat → List StS → Int → Int → Int → Int → Option (List StS × Int × Int × Int × Int))
 (hL : ∀ (k : Nat) (acc : List StS) (K : Nat), K ≤ ts.length → acc.length ≤ K → L (k + 1) acc K en 0 W = if mk0 (leftR ts K) s then (h1 k (K + 1)).bind (fun b => if acc.length + b.1.length < 5864062014805 then (if (acc ++ b.1).length < 5864062014805 then L k (acc ++ b.1 ++ [stepS n]) b.2.1 b.2.2.1 b.2.2.2.1 b.2.2.2.2 else none) else none) else some (acc, (K : Int), en, 0, W))
 (hE : ∀ (k : Nat) (acc : List StS) (K E W' : Int), E ≠ 0 → L (k + 1) acc K en E W' = some (acc, K, en, E, W'))
 (ho : ∀ K k, K ≤ ts.length → ts.length - K + 60 ≤ k → OutR ts en W K (one (leftR ts K)) (h1 k K)) (K0 : Nat) :
 ∀ (d K : Nat) (k m : Nat) (acc : List StS), ts.length - K = d → K ≤ ts.length → ts.length - K + 60 ≤ k → ts.length - K ≤ m → K0 ≤ K → acc.length + K0 ≤ K → OutR ts en W K0 (rowL s n one m acc (leftR ts K)) (L k acc K en 0 W) := by
 intro d
 induction d using Nat.strongRecOn with
 | _ d ih =>
  intro K k m acc hd hK hk hm h0 ha
  obtain ⟨k, rfl⟩ : ∃ j, k = j + 1 + 1 := ⟨k - 2, by omega⟩
  rw [hL _ acc K hK (by omega)]
  by_cases hs : mk0 (leftR ts K) s = true
  · have hlt : K < ts.length := by
     by_cases h : K < ts.length
     · exact h
     · rw [z4r (by omega)] at hs; cases hs
    obtain ⟨m, rfl⟩ : ∃ j, m = j + 1 := ⟨m - 1, by omega⟩
    simp only [hs, if_true, rowL, z6t]
    have h2 := ho (K + 1) (k + 1) (by omega) (by omega)
    cases hone : one (leftR ts (K + 1)) with
    | error q =>
     rw [hone] at h2
     obtain ⟨x, K', g1, g2, g3, g4⟩ := h2
     rw [g4, Option.bind_some]
     simp only
     rw [if_pos (by omega), if_pos (by rw [List.length_append]; omega), hE k _ _ _ _ g3]
     exact ⟨_, K', g1, by simp only [List.length_append, List.length_cons, List.length_nil]; omega, g3, rfl⟩
    | ok y =>
     rw [hone] at h2
     obtain ⟨K', g0, g1, g2, g3, g4⟩ := h2
     rw [g4, Option.bind_some]
     simp only
     rw [if_pos (by omega), if_pos (by rw [List.length_append]; omega)]
     simp only [bnd]
     rw [← g2]
     exact ih (ts.length - K') (by omega) K' (k + 1) m _ rfl g1 (by omega) (by omega) (by omega) (by simp only [List.length_append, List.length_cons, List.length_nil]; omega)
  · rw [if_neg hs]
    rw [zge _ _ (by simpa using hs)]
    exact ⟨K, by omega, hK, rfl, ha, rfl⟩
theorem zbi (PF : PFT) {ts : List RTk} (hl : ts.length ≤ 100000) (en W : Int) (d : Nat) (hd : d ≤ 32)
 (hPF : ∀ d', d = d' + 1 → ∀ (K k : Nat), K ≤ ts.length → ts.length - K + 60 ≤ k → OutR ts en W K (pathP d' (leftR ts K)) (PF k ts K en 0 W ((32 - d' : Nat) : Int)))
 (K k : Nat) (hK : K ≤ ts.length) (hk : ts.length - K + 60 ≤ k) : OutR ts en W K (rowP [47] 3 (partP d) (leftR ts K)) (z0d.f PF k ts K en 0 W ((32 - d : Nat) : Int)) := by
 have hp := part_R PF hl en W d hd hPF
 have hrow := rowR [47] 3 ⟨#[47]⟩ rfl hl en W (partP d) (fun k K => z06.f PF k ts K en 0 W ((32 - d : Nat) : Int))
  (fun k acc K en E W => z0d.l0 PF k ((32 - d : Nat) : Int) acc ts K en E W)
  (fun k acc K hK ha => by
    simp only [z0d.l0]
    rw [if_pos trivial, is_R hK hl en W _ [47] rfl, Option.bind_some, z4y (by omega)]
    rfl)
  (fun k acc K E W' hE => by
    simp only [z0d.l0]
    rw [if_neg hE])
  (fun K k hK hk => hp K k hK hk) K
 unfold z0d.f
 have h1 := hp K k hK hk
 unfold rowP
 cases hone : partP d (leftR ts K) with
 | error q =>
  rw [hone] at h1
  obtain ⟨x, K', g1, g2, g3, g4⟩ := h1
  obtain ⟨k, rfl⟩ : ∃ j, k = j + 1 := ⟨k - 1, by omega⟩
  rw [g4, Option.bind_some]
  simp only [z0d.l0]
  rw [if_neg g3]
  exact ⟨x, K', g1, g2, g3, rfl⟩
 | ok y =>
  rw [hone] at h1
  obtain ⟨K', g0, g1, g2, g3, g4⟩ := h1
  rw [g4, Option.bind_some]
  simp only [bnd]
  rw [← g2]
  exact hrow _ K' k _ y.1 rfl g1 (by omega) (by rw [z4t]; exact Nat.le_refl _) g0 g3
theorem path_R (PF : PFT) {ts : List RTk} (hl : ts.length ≤ 100000) (en W : Int) (d : Nat) (hd : d ≤ 32)
 (hPF : ∀ d', d = d' + 1 → ∀ (K k : Nat), K ≤ ts.length → ts.length - K + 60 ≤ k → OutR ts en W K (pathP d' (leftR ts K)) (PF k ts K en 0 W ((32 - d' : Nat) : Int)))
 (K k : Nat) (hK : K ≤ ts.length) (hk : ts.length - K + 60 ≤ k) : OutR ts en W K (pathP d (leftR ts K)) (z0q.f PF k ts K en 0 W ((32 - d : Nat) : Int)) := by
 have hp := zbi PF hl en W d hd hPF
 have hrow := rowR [124] 4 ⟨#[124]⟩ rfl hl en W (rowP [47] 3 (partP d)) (fun k K => z0d.f PF k ts K en 0 W ((32 - d : Nat) : Int))
  (fun k acc K en E W => z0q.l0 PF k ((32 - d : Nat) : Int) acc ts K en E W)
  (fun k acc K hK ha => by
    simp only [z0q.l0]
    rw [if_pos trivial, is_R hK hl en W _ [124] rfl, Option.bind_some, z4y (by omega)]
    rfl)
  (fun k acc K E W' hE => by
    simp only [z0q.l0]
    rw [if_neg hE])
  (fun K k hK hk => hp K k hK hk) K
 unfold z0q.f
 have h1 := hp K k hK hk
 show OutR ts en W K (rowP [124] 4 (rowP [47] 3 (partP d)) (leftR ts K)) _
 rw [rowP]
 cases hone : rowP [47] 3 (partP d) (leftR ts K) with
 | error q =>
  rw [hone] at h1
  obtain ⟨x, K', g1, g2, g3, g4⟩ := h1
  obtain ⟨k, rfl⟩ : ∃ j, k = j + 1 := ⟨k - 1, by omega⟩
  rw [g4, Option.bind_some]
  simp only [z0q.l0]
  rw [if_neg g3]
  exact ⟨x, K', g1, g2, g3, rfl⟩
 | ok y =>
  rw [hone] at h1
  obtain ⟨K', g0, g1, g2, g3, g4⟩ := h1
  rw [g4, Option.bind_some]
  simp only [bnd]
  rw [← g2]
  exact hrow _ K' k _ y.1 rfl g1 (by omega) (by rw [z4t]; exact Nat.le_refl _) g0 g3
theorem zg6 {ts : List RTk} (hl : ts.length ≤ 100000) (en W : Int) : ∀ d, d ≤ 32 → ∀ (K k : Nat), K ≤ ts.length → ts.length - K + 60 ≤ k → OutR ts en W K (pathP d (leftR ts K)) (refPF (d + 1) k ts K en 0 W ((32 - d : Nat) : Int))
 | 0, hd => path_R (refPF 0) hl en W 0 hd (fun d' h => by cases h)
 | d + 1, hd => path_R (refPF (d + 1)) hl en W (d + 1) hd (fun d' h => by
  injection h with h
  subst h
  exact zg6 hl en W d (by omega))
end Go.Proofs.YthebhbomlllpeaaGreatDoor.X
namespace Go.Proofs.YthebhbomlllpeaaGreatDoor.X
open Go.RowKit Go.Proofs.YthebhbomlllpeaaGreatDoorW.PrintWords Go.Proofs.YthebhbomlllpeaaGreatDoorW.PrintLast Go.Proofs.YthebhbomlllpeaaGreatDoorW.PrintMore
attribute [local go_sem] z4f z4g z50 z52 z3o z3p z4a z4b
def z2h.f (k : Nat) (s0_0 : List (S53)) (s0_1 : Int) (s0_2 : Int) (s0_3 : Int) (s0_4 : Int) : Option ((List (S69)) × Int × Int × Int × Int) := (z0t.f s0_0 s0_1 s0_2 s0_3 s0_4).bind fun bt207 => ((refPF 33 k s0_0 bt207.2.1 bt207.2.2.1 bt207.2.2.2.1 bt207.2.2.2.2 0).bind fun bt212 => (if (bt212.1.length : Int) > 100 then ((z0i.f s0_0 bt212.2.1 bt212.2.2.1 bt212.2.2.2.1 bt212.2.2.2.2 4 bt207.1).bind fun bt219 => (some (bt212.1, bt219.1, bt219.2.1, bt219.2.2.1, bt219.2.2.2))) else (some (bt212.1, bt212.2.1, bt212.2.2.1, bt212.2.2.2.1, bt212.2.2.2.2))))
set_option maxHeartbeats 8000000 in
set_option maxRecDepth 100000 in
theorem z2h.calls (k : Nat) (g : Nat) (s0_0 : List (S53)) (s0_1 : Int) (s0_2 : Int) (s0_3 : Int) (s0_4 : Int) (r1 : List (S69)) (r2 : Int) (r3 : Int) (r4 : Int) (r5 : Int) (w0 w : World) (hI : IsS95 w0 w g s0_0 s0_1 s0_2 s0_3 s0_4) (hB : Below w0.heap.size w0 w) (h : z2h.f k s0_0 s0_1 s0_2 s0_3 s0_4 = some (r1, r2, r3, r4, r5)) :
 Calls Tryz.prog 67 #[.pointer (some ⟨g, 0, none⟩)] w fun e w' => ∃ v0_ : Value, e = .returned (v0_) ∧ Kd.R k69 69 w' w.heap.size (fun _ => True) v0_ r1 ∧ IsS95 w0 w' g s0_0 r2 r3 r4 r5 ∧ Below w0.heap.size w0 w' ∧ z08 w w' g none := by
 have HI0 := z00.mk hI
 have HK := z00.mk (z08.refl w g none)
 have HL := z00.mk hB.size
 clear hI
 have HW0 := z00.mk hB.size
 have HB := z00.mk hB
 clear hB
 have H : ((z0t.f s0_0 s0_1 s0_2 s0_3 s0_4).bind fun bt207 => ((refPF 33 k s0_0 bt207.2.1 bt207.2.2.1 bt207.2.2.2.1 bt207.2.2.2.2 0).bind fun bt212 => (if (bt212.1.length : Int) > 100 then ((z0i.f s0_0 bt212.2.1 bt212.2.2.1 bt212.2.2.2.1 bt212.2.2.2.2 4 bt207.1).bind fun bt219 => (some (bt212.1, bt219.1, bt219.2.1, bt219.2.2.1, bt219.2.2.2))) else (some (bt212.1, bt212.2.1, bt212.2.2.1, bt212.2.2.2.1, bt212.2.2.2.2))))) = some (r1, r2, r3, r4, r5) := h
 clear h
 replace H := Option.bind_eq_some_iff.mp H
 obtain ⟨⟨t207, t208, t209, t210, t211⟩, A20, H⟩ := H
 replace H : ((refPF 33 k s0_0 t208 t209 t210 t211 0).bind fun bt212 => (if (bt212.1.length : Int) > 100 then ((z0i.f s0_0 bt212.2.1 bt212.2.2.1 bt212.2.2.2.1 bt212.2.2.2.2 4 t207).bind fun bt219 => (some (bt212.1, bt219.1, bt219.2.1, bt219.2.2.1, bt219.2.2.2))) else (some (bt212.1, bt212.2.1, bt212.2.2.1, bt212.2.2.2.1, bt212.2.2.2.2)))) = some (r1, r2, r3, r4, r5) := H
 have A2 := z00.mk A20
 clear A20
 replace H := Option.bind_eq_some_iff.mp H
 obtain ⟨⟨t212, t215, t216, t217, t218⟩, A30, H⟩ := H
 replace H : (if (t212.length : Int) > 100 then ((z0i.f s0_0 t215 t216 t217 t218 4 t207).bind fun bt219 => (some (t212, bt219.1, bt219.2.1, bt219.2.2.1, bt219.2.2.2))) else (some (t212, t215, t216, t217, t218))) = some (r1, r2, r3, r4, r5) := H
 have A3 := z00.mk A30
 clear A30
 by_cases c4 : (t212.length : Int) > 100
 · rw [if_pos c4] at H
   have c4b0 : decide (100 < (t212.length : Int)) = true := decide_eq_true c4
   have c4b1 : decide (100 < t212.length) = true := decide_eq_true (by omega)
   clear c4
   replace H := Option.bind_eq_some_iff.mp H
   obtain ⟨⟨t219, t220, t221, t222⟩, A50, H⟩ := H
   replace H : (some (t212, t219, t220, t221, t222)) = some (r1, r2, r3, r4, r5) := H
   have A5 := z00.mk A50
   clear A50
   simp only [Option.some.injEq, Prod.mk.injEq] at H
   obtain ⟨rfl, rfl, rfl, rfl, rfl⟩ := H
   go_enter Tryz.func67, Tryz.ntmps67
   go_wp2_with (first | ((with_reducible refine z0s (f := 59) rfl ?_); refine z1r (some 6) rfl rfl Tryz.func59 (by kernel_rfl) rfl #[.pointer (some ⟨g, 0, none⟩)] rfl (by (try simp only [List.map_toArray, List.map_cons, List.map_nil]); first | done | rfl | (simp only [List.length_drop, List.length_take]; rfl)) ?_; (with_reducible refine (z0t.calls g s0_0 s0_1 s0_2 s0_3 s0_4 t207 t208 t209 t210 t211 w0 _ ?side1 ?side2 A2.out).mono ?_); (case side1 => repeat (first | (with_reducible first | exact HI0.out | apply IsS95.alloc | apply IsS95.drewN | apply IsS95.drew | apply IsS95.set_1 | apply IsS95.set_2 | apply IsS95.set_3 | apply IsS95.set_4) | exact HI0.out)); (case side2 => repeat (first | (with_reducible first | exact HB.out | apply z04 | apply z01 | apply z05 | refine z07 ?_ (IsS95.ge HI0.out)) | exact HB.out)); rintro e w6 ⟨rfl, hi, hb, hk⟩; refine ⟨_, rfl, ?_⟩; have n0_ := z00.mk (z08.trans (by repeat (first | (with_reducible first | exact HK.out | apply z08.set_ | apply z0g | apply z0m | apply z0e) | exact HK.out)) hk (.inl rfl)); have n1_ := z00.mk (hb); have n2_ := z00.mk (hi); clear HK; clear HB; clear HI0; have HK := n0_; have HB := n1_; have HI0 := n2_; clear n0_ n1_ n2_; (try clear hb); (try clear hb2); (try clear hk); (try clear hi)) | ((with_reducible refine z0s (f := 105) rfl ?_); refine z1r (some 8) rfl rfl Tryz.func105 (by kernel_rfl) rfl #[.pointer (some ⟨g, 0, none⟩), .int .i64 0] rfl (by (try simp only [List.map_toArray, List.map_cons, List.map_nil]); first | done | rfl | (simp only [List.length_drop, List.length_take]; rfl)) ?_; (with_reducible refine (z7c 33 k g s0_0 t208 t209 t210 t211 0 t212 t215 t216 t217 t218 w0 _ ?side1 ?side2 A3.out).mono ?_); (case side1 => repeat (first | (with_reducible first | exact HI0.out | apply IsS95.alloc | apply IsS95.drewN | apply IsS95.drew | apply IsS95.set_1 | apply IsS95.set_2 | apply IsS95.set_3 | apply IsS95.set_4) | exact HI0.out)); (case side2 => repeat (first | (with_reducible first | exact HB.out | apply z04 | apply z01 | apply z05 | refine z07 ?_ (IsS95.ge HI0.out)) | exact HB.out)); rintro e w7 ⟨v213, rfl, ho0, hi, hb, hk⟩; refine ⟨_, rfl, ?_⟩; have n0_ := z00.mk (Kd.R_lower ho0 (z35 (w := w) (g := g) (row := none) (by repeat (first | (with_reducible first | exact HK.out | apply z08.set_ | apply z0g | apply z0m | apply z0e) | exact HK.out)))); have n1_ := z00.mk (z08.trans (by repeat (first | (with_reducible first | exact HK.out | apply z08.set_ | apply z0g | apply z0m | apply z0e) | exact HK.out)) hk (.inl rfl)); have n2_ := z00.mk (hb); have n3_ := z00.mk (hi); clear HK; clear HB; clear HI0; have HO214 := n0_; have HK := n1_; have HB := n2_; have HI0 := n3_; clear n0_ n1_ n2_ n3_; (try clear hb); (try clear hb2); (try clear hk); (try clear hi); (try clear ho0); obtain ⟨Ao8, co8, eo8⟩ := Kd.R_slice HO214.out; subst eo8) | ((with_reducible refine z0s (f := 58) rfl ?_); refine z1r (some 14) rfl rfl Tryz.func58 (by kernel_rfl) rfl #[.pointer (some ⟨g, 0, none⟩), .int .i64 4, .int .i64 t207] rfl (by (try simp only [List.map_toArray, List.map_cons, List.map_nil]); first | done | rfl | (simp only [List.length_drop, List.length_take]; rfl)) ?_; (with_reducible refine (z0i.calls g s0_0 t215 t216 t217 t218 4 t207 t219 t220 t221 t222 w0 _ ?side1 ?side2 A5.out).mono ?_); (case side1 => repeat (first | (with_reducible first | exact HI0.out | apply IsS95.alloc | apply IsS95.drewN | apply IsS95.drew | apply IsS95.set_1 | apply IsS95.set_2 | apply IsS95.set_3 | apply IsS95.set_4) | exact HI0.out)); (case side2 => repeat (first | (with_reducible first | exact HB.out | apply z04 | apply z01 | apply z05 | refine z07 ?_ (IsS95.ge HI0.out)) | exact HB.out)); rintro e w9 ⟨rfl, hi, hb, hk⟩; refine ⟨_, rfl, ?_⟩; have n0_ := z00.mk (Kd.R_mono (Kd.R_keep (IsS95.apart (show IsS95 w0 _ g s0_0 t215 t216 t217 t218 from by repeat (first | (with_reducible first | exact HI0.out | apply IsS95.alloc | apply IsS95.drewN | apply IsS95.drew | apply IsS95.set_1 | apply IsS95.set_2 | apply IsS95.set_3 | apply IsS95.set_4) | exact HI0.out)) (by (with_reducible repeat (first | apply Kd.R_alloc | apply Kd.R_drewN | apply Kd.R_drew)); exact HO214.out) (by decide)) hk (fun _ h => h.2)) (fun _ h => h.1)); have n1_ := z00.mk (z08.trans (by repeat (first | (with_reducible first | exact HK.out | apply z08.set_ | apply z0g | apply z0m | apply z0e) | exact HK.out)) hk (.inl rfl)); have n2_ := z00.mk (hb); have n3_ := z00.mk (hi); clear HO214; clear HK; clear HB; clear HI0; have HO214 := n0_; have HK := n1_; have HB := n2_; have HI0 := n3_; clear n0_ n1_ n2_ n3_; (try clear hb); (try clear hb2); (try clear hk); (try clear hi)))
   go_ret
   exact ⟨_, by first | rfl | (simp [z0n, z0o] <;> rfl) | (simp [*, z0n, z0o] <;> rfl), by (with_reducible repeat (first | apply Kd.R_alloc | apply Kd.R_drewN | apply Kd.R_drew)); exact HO214.out, by repeat (first | (with_reducible first | exact HI0.out | apply IsS95.alloc | apply IsS95.drewN | apply IsS95.drew | apply IsS95.set_1 | apply IsS95.set_2 | apply IsS95.set_3 | apply IsS95.set_4) | exact HI0.out), by repeat (first | (with_reducible first | exact HB.out | apply z04 | apply z01 | apply z05 | refine z07 ?_ (IsS95.ge HI0.out)) | exact HB.out), by repeat (first | (with_reducible first | exact HK.out | apply z08.set_ | apply z0g | apply z0m | apply z0e) | exact HK.out)⟩
 · rw [if_neg c4] at H
   have c4b0 : decide (100 < (t212.length : Int)) = false := decide_eq_false c4
   have c4b1 : decide (100 < t212.length) = false := decide_eq_false (by omega)
   clear c4
   simp only [Option.some.injEq, Prod.mk.injEq] at H
   obtain ⟨rfl, rfl, rfl, rfl, rfl⟩ := H
   go_enter Tryz.func67, Tryz.ntmps67
   go_wp2_with (first | ((with_reducible refine z0s (f := 59) rfl ?_); refine z1r (some 6) rfl rfl Tryz.func59 (by kernel_rfl) rfl #[.pointer (some ⟨g, 0, none⟩)] rfl (by (try simp only [List.map_toArray, List.map_cons, List.map_nil]); first | done | rfl | (simp only [List.length_drop, List.length_take]; rfl)) ?_; (with_reducible refine (z0t.calls g s0_0 s0_1 s0_2 s0_3 s0_4 t207 t208 t209 t210 t211 w0 _ ?side1 ?side2 A2.out).mono ?_); (case side1 => repeat (first | (with_reducible first | exact HI0.out | apply IsS95.alloc | apply IsS95.drewN | apply IsS95.drew | apply IsS95.set_1 | apply IsS95.set_2 | apply IsS95.set_3 | apply IsS95.set_4) | exact HI0.out)); (case side2 => repeat (first | (with_reducible first | exact HB.out | apply z04 | apply z01 | apply z05 | refine z07 ?_ (IsS95.ge HI0.out)) | exact HB.out)); rintro e w10 ⟨rfl, hi, hb, hk⟩; refine ⟨_, rfl, ?_⟩; have n0_ := z00.mk (z08.trans (by repeat (first | (with_reducible first | exact HK.out | apply z08.set_ | apply z0g | apply z0m | apply z0e) | exact HK.out)) hk (.inl rfl)); have n1_ := z00.mk (hb); have n2_ := z00.mk (hi); clear HK; clear HB; clear HI0; have HK := n0_; have HB := n1_; have HI0 := n2_; clear n0_ n1_ n2_; (try clear hb); (try clear hb2); (try clear hk); (try clear hi)) | ((with_reducible refine z0s (f := 105) rfl ?_); refine z1r (some 8) rfl rfl Tryz.func105 (by kernel_rfl) rfl #[.pointer (some ⟨g, 0, none⟩), .int .i64 0] rfl (by (try simp only [List.map_toArray, List.map_cons, List.map_nil]); first | done | rfl | (simp only [List.length_drop, List.length_take]; rfl)) ?_; (with_reducible refine (z7c 33 k g s0_0 t208 t209 t210 t211 0 t212 t215 t216 t217 t218 w0 _ ?side1 ?side2 A3.out).mono ?_); (case side1 => repeat (first | (with_reducible first | exact HI0.out | apply IsS95.alloc | apply IsS95.drewN | apply IsS95.drew | apply IsS95.set_1 | apply IsS95.set_2 | apply IsS95.set_3 | apply IsS95.set_4) | exact HI0.out)); (case side2 => repeat (first | (with_reducible first | exact HB.out | apply z04 | apply z01 | apply z05 | refine z07 ?_ (IsS95.ge HI0.out)) | exact HB.out)); rintro e w11 ⟨v213, rfl, ho0, hi, hb, hk⟩; refine ⟨_, rfl, ?_⟩; have n0_ := z00.mk (Kd.R_lower ho0 (z35 (w := w) (g := g) (row := none) (by repeat (first | (with_reducible first | exact HK.out | apply z08.set_ | apply z0g | apply z0m | apply z0e) | exact HK.out)))); have n1_ := z00.mk (z08.trans (by repeat (first | (with_reducible first | exact HK.out | apply z08.set_ | apply z0g | apply z0m | apply z0e) | exact HK.out)) hk (.inl rfl)); have n2_ := z00.mk (hb); have n3_ := z00.mk (hi); clear HK; clear HB; clear HI0; have HO214 := n0_; have HK := n1_; have HB := n2_; have HI0 := n3_; clear n0_ n1_ n2_ n3_; (try clear hb); (try clear hb2); (try clear hk); (try clear hi); (try clear ho0); obtain ⟨Ao12, co12, eo12⟩ := Kd.R_slice HO214.out; subst eo12))
   go_ret
   exact ⟨_, by first | rfl | (simp [z0n, z0o] <;> rfl) | (simp [*, z0n, z0o] <;> rfl), by (with_reducible repeat (first | apply Kd.R_alloc | apply Kd.R_drewN | apply Kd.R_drew)); exact HO214.out, by repeat (first | (with_reducible first | exact HI0.out | apply IsS95.alloc | apply IsS95.drewN | apply IsS95.drew | apply IsS95.set_1 | apply IsS95.set_2 | apply IsS95.set_3 | apply IsS95.set_4) | exact HI0.out), by repeat (first | (with_reducible first | exact HB.out | apply z04 | apply z01 | apply z05 | refine z07 ?_ (IsS95.ge HI0.out)) | exact HB.out), by repeat (first | (with_reducible first | exact HK.out | apply z08.set_ | apply z0g | apply z0m | apply z0e) | exact HK.out)⟩

theorem eqA60 (d : Nat) (w : World) (x0 y0 : ByteArray) (x1 y1 : Int) (x2 y2 : Int) (x3 y3 : ByteArray) :
 (Op.equalIn (d + 3) 60 (.agg #[.string x0, .int .i64 x1, .int .i64 x2, .string x3]) (.agg #[.string y0, .int .i64 y1, .int .i64 y2, .string y3])).run Tryz.prog w = .ok (x0.toList == y0.toList && ((x1 == y1 && (x2 == y2 && (x3.toList == y3.toList))))) w := by
 refine zhn Tryz.underlying60 (by kernel_rfl) ?_
 refine z8e (by rfl) (by go_simp; rfl) (by go_simp; rfl) (by go_simp) ?_
 exact zba (by rfl) (by go_simp) (by go_simp) (eqA58 (d + 0) w _ _ _ _ _ _)

theorem eqA69 (d : Nat) (w : World) (x0 y0 : Int) (x1 y1 : ByteArray) :
 (Op.equalIn (d + 2) 69 (.agg #[.int .i64 x0, .string x1]) (.agg #[.int .i64 y0, .string y1])).run Tryz.prog w = .ok (x0 == y0 && (x1.toList == y1.toList)) w := by
 refine zhn Tryz.underlying69 (by kernel_rfl) ?_
 refine z8e (by rfl) (by go_simp; rfl) (by go_simp; rfl) (by go_simp) ?_
 exact zba (by rfl) (by go_simp; rfl) (by go_simp; rfl) (by go_simp)
end Go.Proofs.YthebhbomlllpeaaGreatDoor.X
namespace Go.Proofs.YthebhbomlllpeaaGreatDoor.X
open Go.RowKit Go.Proofs.YthebhbomlllpeaaGreatDoorW.PrintWords Go.Proofs.YthebhbomlllpeaaGreatDoorW.PrintLast Go.Proofs.YthebhbomlllpeaaGreatDoorW.PrintMore
attribute [local go_sem] z4f z4g z50 z52 z3o z3p z4a z4b
attribute [local go_sem high] eqA60 eqA69
mutual
def z3z.j0 : Nat → Bool → ByteArray → List (S60) → ByteArray → List (S60) → Option (Bool)
 | 0, _, _, _, _, _ => none
 | k + 1, x19, x682000, x682001, x683000, x683001 => if x19 = true then (some false) else (z3z.l0 k (x682001.length : Int) 0 x682000 x682001 x683000 x683001)
def z3z.l0 : Nat → Int → Int → ByteArray → List (S60) → ByteArray → List (S60) → Option (Bool)
 | 0, _, _, _, _, _, _ => none
 | k + 1, x22, x23, x682000, x682001, x683000, x683001 => if x23 < x22 then (if 0 ≤ x23 then (if x23 < (x682001.length : Int) then (if x23 < (x683001.length : Int) then (if (!((((z6e x682001 x23).f0).toList) == (((z6e x683001 x23).f0).toList)) || ((!(((z6e x682001 x23).f1.f0) == ((z6e x683001 x23).f1.f0)) || (!(((z6e x682001 x23).f1.f1) == ((z6e x683001 x23).f1.f1)) || (!((((z6e x682001 x23).f1.f2).toList) == (((z6e x683001 x23).f1.f2).toList))))))) = true then (some false) else (z3z.l0 k x22 (wrap64 (x23 + 1)) x682000 x682001 x683000 x683001)) else (none)) else (none)) else (none)) else (some true)
end
def z1d.l0 : Nat → List (S69) → List (S69) → Int → Int → Option (Bool)
 | 0, _, _, _, _ => none
 | k + 1, x0, x1, x12, x13 => if x13 < x12 then (if 0 ≤ x13 then (if x13 < (x0.length : Int) then (if x13 < (x1.length : Int) then (if (!(((z4i x0 x13).f0) == ((z4i x1 x13).f0)) || (!((((z4i x0 x13).f1).toList) == (((z4i x1 x13).f1).toList)))) = true then (some false) else (z1d.l0 k x0 x1 x12 (wrap64 (x13 + 1)))) else (none)) else (none)) else (none)) else (some true)
def z1d.f (k : Nat) (l0 : List (S69)) (l1 : List (S69)) : Option (Bool) := if (l0.length : Int) = (l1.length : Int) then (z1d.l0 k l0 l1 (l0.length : Int) 0) else (some false)
set_option maxHeartbeats 8000000 in
set_option maxRecDepth 100000 in
theorem z1d.calls (k : Nat) (A0 : Option Addr) (c0 : Nat) (l0 : List (S69)) (A1 : Option Addr) (c1 : Nat) (l1 : List (S69)) (r : Bool) (w : World) (hr0 : Kd.C k69 w A0 l0.length l0) (hc0 : l0.length ≤ c0) (hr1 : Kd.C k69 w A1 l1.length l1) (hc1 : l1.length ≤ c1) (h : z1d.f k l0 l1 = some r) :
 Calls Tryz.prog 38 #[.slice A0 l0.length c0, .slice A1 l1.length c1] w fun e w' => e = .returned (.bool r) ∧ z0h w w' := by
 have hu69 := Tryz.underlying69
 have HR0 := z00.mk hr0
 have HC0 := z00.mk hc0
 clear hr0 hc0
 have HR1 := z00.mk hr1
 have HC1 := z00.mk hc1
 clear hr1 hc1
 have H : (if (l0.length : Int) = (l1.length : Int) then (z1d.l0 k l0 l1 (l0.length : Int) 0) else (some false)) = some r := h
 clear h
 by_cases c3 : (l0.length : Int) = (l1.length : Int)
 · rw [if_pos c3] at H
   have c3b0 : ((l0.length : Int) == (l1.length : Int)) = true := beq_iff_eq.mpr c3
   have c3b1 : ((l0.length : Int) != (l1.length : Int)) = false := bne_eq_false_iff_eq.mpr c3
   have c3b2 : (l0.length == l1.length) = true := by first | simpa using c3 | (simp at c3 ⊢; omega)
   clear c3
   have H' := z00.mk H
   clear H
   go_enter Tryz.func38, Tryz.ntmps38
   go_wp2
   repeat (go_quiet (fail); try go_wp2)
   go_loopg [13] k (fun kq v13 w' => ∃ (x13_1 : Int), v13 = .int .i64 x13_1 ∧ z00 (z1d.l0 kq l0 l1 (l0.length : Int) x13_1 = some r) ∧ z00 (kq ≤ k) ∧ z0h w w')
   case atStart => exact ⟨(0), (by first | rfl | (simp; done) | (simp [*]; done)), H', ⟨Nat.le_refl _⟩, by repeat (first | exact z0h.refl _ | apply z0h.step)⟩
   case round =>
    clear H'
    try clear c1
    try clear p2
    try clear c3
    try clear c3b0
    try clear c3b1
    try clear c3b2
    obtain ⟨x13_1, rfl, HA, HK1, ⟨m1, rfl⟩⟩ := hrel
    cases gk with
    | zero => exact absurd HA.out (by simp [z1d.l0])
    | succ k1 =>
     have H := HA.out
     clear HA
     simp only [z1d.l0] at H
     by_cases c4 : x13_1 < (l0.length : Int)
     · rw [if_pos c4] at H
       have c4b0 : decide (x13_1 < (l0.length : Int)) = true := decide_eq_true c4
       clear c4
       by_cases c5 : 0 ≤ x13_1
       · rw [if_pos c5] at H
         have c5b0 : decide (0 ≤ x13_1) = true := decide_eq_true c5
         clear c5
         by_cases c6 : x13_1 < (l0.length : Int)
         · rw [if_pos c6] at H
           have c6b0 : decide (x13_1 < (l0.length : Int)) = true := decide_eq_true c6
           clear c6
           by_cases c7 : x13_1 < (l1.length : Int)
           · rw [if_pos c7] at H
             have c7b0 : decide (x13_1 < (l1.length : Int)) = true := decide_eq_true c7
             clear c7
             by_cases c8 : (!(((z4i l0 x13_1).f0) == ((z4i l1 x13_1).f0)) || (!((((z4i l0 x13_1).f1).toList) == (((z4i l1 x13_1).f1).toList)))) = true
             · rw [if_pos c8] at H
               have c8b0 : (!(((z4i l0 x13_1).f0) == ((z4i l1 x13_1).f0)) || (!((((z4i l0 x13_1).f1).toList) == (((z4i l1 x13_1).f1).toList)))) = true := c8
               clear c8
               obtain rfl := Option.some.inj H
               have p685 : 0 ≤ (x13_1 : Int) := of_decide_eq_true (by first | (with_reducible assumption) | assumption)
               have q685 : x13_1 < (l0.length : Int) := of_decide_eq_true (by first | (with_reducible assumption) | assumption)
               obtain ⟨ad685, e685, hx685_0, hx685_1⟩ := za4 HR0.out x13_1 p685 q685
               cases e685
               replace p685 := eq_true p685
               replace q685 := eq_true q685
               have p686 : 0 ≤ (x13_1 : Int) := of_decide_eq_true (by first | (with_reducible assumption) | assumption)
               have q686 : x13_1 < (l1.length : Int) := of_decide_eq_true (by first | (with_reducible assumption) | assumption)
               obtain ⟨ad686, e686, hx686_0, hx686_1⟩ := za4 HR1.out x13_1 p686 q686
               cases e686
               replace p686 := eq_true p686
               replace q686 := eq_true q686
               go_wp2
               repeat (go_quiet (fail); try go_wp2)
               go_ret
               exact ⟨by first | rfl | (simp; done) | (simp [*]; done), by repeat (first | exact z0h.refl _ | apply z0h.step)⟩
             · rw [if_neg c8] at H
               have c8b0 : (!(((z4i l0 x13_1).f0) == ((z4i l1 x13_1).f0)) || (!((((z4i l0 x13_1).f1).toList) == (((z4i l1 x13_1).f1).toList)))) = false := by simpa using c8
               clear c8
               have H' := z00.mk H
               clear H
               have p685 : 0 ≤ (x13_1 : Int) := of_decide_eq_true (by first | (with_reducible assumption) | assumption)
               have q685 : x13_1 < (l0.length : Int) := of_decide_eq_true (by first | (with_reducible assumption) | assumption)
               obtain ⟨ad685, e685, hx685_0, hx685_1⟩ := za4 HR0.out x13_1 p685 q685
               cases e685
               replace p685 := eq_true p685
               replace q685 := eq_true q685
               have p686 : 0 ≤ (x13_1 : Int) := of_decide_eq_true (by first | (with_reducible assumption) | assumption)
               have q686 : x13_1 < (l1.length : Int) := of_decide_eq_true (by first | (with_reducible assumption) | assumption)
               obtain ⟨ad686, e686, hx686_0, hx686_1⟩ := za4 HR1.out x13_1 p686 q686
               cases e686
               replace p686 := eq_true p686
               replace q686 := eq_true q686
               go_wp2
               repeat (go_quiet (fail); try go_wp2)
               go_roundg k1
               case measure => have := HK1.out; omega
               case rel => exact ⟨(wrap64 (x13_1 + 1)), (by first | rfl | (simp; done) | (simp [*]; done)), H', ⟨by have := HK1.out; omega⟩, by repeat (first | exact z0h.refl _ | apply z0h.step)⟩
           · rw [if_neg c7] at H
             exact absurd H (by simp)
         · rw [if_neg c6] at H
           exact absurd H (by simp)
       · rw [if_neg c5] at H
         exact absurd H (by simp)
     · rw [if_neg c4] at H
       have c4b0 : decide (x13_1 < (l0.length : Int)) = false := decide_eq_false c4
       clear c4
       obtain rfl := Option.some.inj H
       go_wp2
       repeat (go_quiet (fail); try go_wp2)
       go_ret
       exact ⟨by first | rfl | (simp; done) | (simp [*]; done), by repeat (first | exact z0h.refl _ | apply z0h.step)⟩
 · rw [if_neg c3] at H
   have c3b0 : ((l0.length : Int) == (l1.length : Int)) = false := beq_eq_false_iff_ne.mpr c3
   have c3b1 : ((l0.length : Int) != (l1.length : Int)) = true := bne_iff_ne.mpr c3
   have c3b2 : (l0.length == l1.length) = false := by first | simpa using c3 | (simp at c3 ⊢; omega)
   obtain rfl := Option.some.inj H
   go_enter Tryz.func38, Tryz.ntmps38
   go_wp2
   repeat (go_quiet (fail); try go_wp2)
   go_ret
   exact ⟨by first | rfl | (simp; done) | (simp [*]; done), by repeat (first | exact z0h.refl _ | apply z0h.step)⟩
def z63.l0 : Nat → List (S69) → List (S69) → Int → Int → Option (Bool)
 | 0, _, _, _, _ => none
 | k + 1, x0, x1, x12, x13 => if x13 < x12 then (if 0 ≤ x13 then (if x13 < (x0.length : Int) then (if x13 < (x1.length : Int) then (if (!(((z4i x0 x13).f0) == ((z4i x1 x13).f0)) || (!((((z4i x0 x13).f1).toList) == (((z4i x1 x13).f1).toList)))) = true then (some false) else (z63.l0 k x0 x1 x12 (wrap64 (x13 + 1)))) else (none)) else (none)) else (none)) else (some true)
end Go.Proofs.YthebhbomlllpeaaGreatDoor.X
namespace Go.Proofs.YthebhbomlllpeaaGreatDoor.X
open Go.RowKit Go.Proofs.YthebhbomlllpeaaGreatDoorW.PrintWords Go.Proofs.YthebhbomlllpeaaGreatDoorW.PrintLast Go.Proofs.YthebhbomlllpeaaGreatDoorW.PrintMore
theorem whole_R {ts : List RTk} (hl : ts.length ≤ 100000) (en : Int) (k : Nat) (hk : ts.length + 60 ≤ k) : OutR ts en 0 0 (z4j (leftR ts 0)) (z2h.f k ts 0 en 0 0) := by
 have h1 := zg6 hl en 0 32 (Nat.le_refl _) 0 k (Nat.zero_le _) (by omega)
 have ha : z0t.f ts 0 en 0 0 = some (z5a ts en 0, 0, en, 0, 0) := at_R (K := 0) (Nat.zero_le _) en 0 0
 unfold z2h.f
 rw [ha, Option.bind_some]
 unfold z4j
 cases hp : pathP 32 (leftR ts 0) with
 | error q =>
  rw [hp] at h1
  obtain ⟨x, K', g1, g2, g3, g4⟩ := h1
  have g4 : refPF 33 k ts 0 en 0 0 0 = some (x, (K' : Int), en, q.2, z5a ts en (ts.length - q.1)) := g4
  simp only
  rw [g4, Option.bind_some]
  simp only [bnd]
  split
  · rw [fail_E ts g3, Option.bind_some]
    exact ⟨x, K', g1, g2, g3, rfl⟩
  · exact ⟨x, K', g1, g2, g3, rfl⟩
 | ok y =>
  rw [hp] at h1
  obtain ⟨K', g0, g1, g2, g3, g4⟩ := h1
  have g4 : refPF 33 k ts 0 en 0 0 0 = some (y.1, (K' : Int), en, 0, 0) := g4
  simp only
  rw [g4, Option.bind_some]
  simp only [bnd]
  by_cases h100 : 100 < y.1.length
  · rw [if_pos h100, if_pos (by omega), zcl, Option.bind_some]
    refine ⟨y.1, K', g1, by omega, by show (4 : Int) ≠ 0; decide, ?_⟩
    rw [show ts.length - (leftR ts 0).length = 0 by rw [z4t]; omega]
  · rw [if_neg h100, if_neg (by omega)]
    exact ⟨K', g0, g1, g2, g3, rfl⟩
theorem tok_same (s : ByteArray) (x : Nat × Nat × Nat) : tkR (tokS2 s x) = tkOf (tokS s x) := by
 have h : (tokS2 s x).f1 = (tokS s x).f1 := by
  have h1 : (tokS2 s x).f1.data.toList = (tokS s x).f1.data.toList := by
   rw [zby s x]
   exact z6s s x.2.1 x.2.2
  exact ba_eq h1
 show ((tokS2 s x).f0, (tokS2 s x).f1) = ((tokS s x).f0, (tokS s x).f1)
 rw [h]
 rfl
theorem zgk (s : ByteArray) (l : List (Nat × Nat × Nat)) : leftR (l.map (tokS2 s)) 0 = (l.map (tokS s)).map tkOf := by
 unfold leftR
 rw [List.drop_zero, List.map_map, List.map_map]
 exact List.map_congr_left fun x _ => tok_same s x
theorem zf3 (s : ByteArray) (l : List (Nat × Nat × Nat)) (en : Int) (K : Nat) : z5a (l.map (tokS2 s)) en K = (seeP (l.map (tokS s)) en K).f2 := by
 unfold z5a seeP
 rw [List.getD_eq_getElem?_getD]
 by_cases h : K < l.length
 · rw [dif_pos (by rw [List.length_map]; exact h), List.getElem?_map, List.getElem?_eq_getElem h]
   simp only [List.getElem_map, Option.map_some, Option.getD_some]
   rfl
 · rw [dif_neg (by rw [List.length_map]; exact h), List.getElem?_eq_none (by rw [List.length_map]; omega)]
   rfl
def zh5 (ts : List RTk) (en : Int) : List StS × Int × Int := match allP z4j (leftR ts 0) with
 | .ok x => (x, 0, 0)
 | .error q => ([], z5a ts en (ts.length - q.1), q.2)
def z83 (s : ByteArray) : List StS × Int × Int := if (z4l s).2.2 = 0 then zh5 (z4l s).1 s.size else ([], (z4l s).2.1, (z4l s).2.2)
theorem zhf {s : ByteArray} (hs : s.size ≤ 20000) : z83 s = z34 ([] : List StS) z4j s := by
 have hL : z3m s = z7i s := by unfold z3m; rw [if_neg (by omega)]
 unfold z83 z34
 rw [hL]
 unfold z4l z7i
 cases tokN nmL vlL 0 s.data.toList with
 | error i => rfl
 | ok l =>
  simp only
  rw [if_pos trivial, if_pos trivial]
  unfold zh5 zer
  rw [zgk]
  cases allP z4j ((l.map (tokS s)).map tkOf) with
  | ok x => rfl
  | error q =>
   simp only
   rw [zf3, List.length_map, List.length_map]
set_option maxHeartbeats 4000000 in
set_option maxRecDepth 100000 in
theorem z9n (s : ByteArray) (hs : s.size ≤ 20000) (w : World) :
 Calls Tryz.prog 37 #[.string s] w fun e w' => ∃ v : Value, e = .returned (.tuple #[v, .int .i64 (z83 s).2.1, .int .i64 (z83 s).2.2]) ∧ Kd.R k69 69 w' w.heap.size (fun _ => True) v (z83 s).1 ∧ Below w.heap.size w w' := by
 have hT := z0l.calls (3 * s.size + 72) s (z4l s).1 (z4l s).2.1 (z4l s).2.2 w (zb9 s hs _ (Nat.le_refl _))
 have hlen : (z4l s).1.length ≤ 20000 := by
  unfold z4l
  cases ht : tokN nmL vlL 0 s.data.toList with
  | error i => simp
  | ok l =>
   have hn := z8l nmL vlL _ s.data.toList 0 l (Nat.le_refl _) ht
   have : s.data.toList.length = s.size := by rw [Array.length_toList]; rfl
   simp only [List.length_map]
   omega
 obtain ⟨res, hres⟩ : ∃ r, z83 s = r := ⟨_, rfl⟩
 rw [hres]
 obtain ⟨ra, rb, rc⟩ := res
 unfold z83 at hres
 obtain ⟨⟨ts, t1, t2⟩, hts⟩ : ∃ r, z4l s = r := ⟨_, rfl⟩
 rw [hts] at hT hlen hres
 have HT := z00.mk hT
 have HLN := z00.mk hlen
 have HRS := z00.mk hres
 clear hT hlen hres hts
 go_enter Tryz.func37, Tryz.ntmps37
 go_wp2_with fail
 refine HT.out.mono ?_
 rintro e w1 ⟨v, rfl, hv, hb⟩
 obtain ⟨A, c, rfl⟩ := Kd.R_slice hv
 have HV := z00.mk (Kd.R_reads' hv).2
 have HB := z00.mk hb
 clear hv hb HT
 by_cases ht2 : t2 = 0
 case neg =>
  have z1 : (t2 != 0) = true := bne_iff_ne.2 ht2
  have z2 : (t2 == 0) = false := beq_eq_false_iff_ne.2 ht2
  have HE := z00.mk (HRS.out.symm.trans (if_neg ht2))
  clear ht2
  go_wp2
  go_ret3
  injection HE.out with h1 h2
  injection h2 with h2 h3
  subst h1 h2 h3
  exact ⟨_, rfl, Kd.R_nil _ _ _ _ _, HB.out⟩
 subst ht2
 have HE := z00.mk (HRS.out.symm.trans (if_pos rfl))
 have hw := whole_R (ts := ts) (by have := HLN.out; omega) (s.size : Int) (ts.length + 60) (Nat.le_refl _)
 obtain ⟨n, en⟩ : ∃ n, w1.heap.size = n := ⟨_, rfl⟩
 have hN := z1q w1 (.cells #[.slice A ts.length c, .int .i64 0, .int .i64 s.size, .int .i64 0, .int .i64 0] 95)
 have hI : IsS95 w1 (w1.alloc (.cells #[.slice A ts.length c, .int .i64 0, .int .i64 s.size, .int .i64 0, .int .i64 0] 95)) n ts 0 s.size 0 0 := ⟨A, c, en ▸ hN, by omega, HV.out.2⟩
 have hB1 : Below w1.heap.size w1 (w1.alloc (.cells #[.slice A ts.length c, .int .i64 0, .int .i64 s.size, .int .i64 0, .int .i64 0] 95)) := z04 (Below.refl _ _) _
 have HC := z00.mk (fun r1 r2 r3 r4 r5 h => z2h.calls (ts.length + 60) n ts 0 s.size 0 0 r1 r2 r3 r4 r5 w1 _ hI hB1 h)
 clear hN hI hB1
 go_wp2_with fail
 unfold zh5 at HE
 unfold allP at HE
 cases hwp : z4j (leftR ts 0) with
 | error q =>
  rw [hwp] at hw
  have HE := z00.mk (show ([], z5a ts s.size (ts.length - q.1), q.2) = (ra, rb, rc) by have := HE.out; rw [hwp] at this; exact this.symm)
  obtain ⟨x, K', g1, g2, g3, g4⟩ := hw
  obtain ⟨pl, hpl⟩ : ∃ p, z5a ts s.size (ts.length - q.1) = p := ⟨_, rfl⟩
  obtain ⟨q1, q2⟩ := q
  simp only at g3 g4 hpl HE
  rw [hpl] at g4 HE
  refine (HC.out _ _ _ _ _ g4).mono ?_
  rintro e w2 ⟨v0, rfl, hv0, hi, hb, hk⟩
  obtain ⟨A0, c0, rfl⟩ := Kd.R_slice hv0
  obtain ⟨A', c', hblk, hg, hC'⟩ := hi
  have HB2 := z00.mk (z1e HB.out HB.out.size hb)
  have d0 : w2.cell? ⟨n, 0, none⟩ = some (.slice A' ts.length c') := (z03 hblk 0).trans rfl
  have d1 : w2.cell? ⟨n, 1, none⟩ = some (.int .i64 K') := (z03 hblk 1).trans rfl
  have d3 : w2.cell? ⟨n, 3, none⟩ = some (.int .i64 q2) := (z03 hblk 3).trans rfl
  have d4 : w2.cell? ⟨n, 4, none⟩ = some (.int .i64 pl) := (z03 hblk 4).trans rfl
  have z1 : (q2 == 0) = false := beq_eq_false_iff_ne.2 g3
  have z2 : (q2 != 0) = true := bne_iff_ne.2 g3
  clear hwp g1 g2 g3 g4 hpl hv0 hblk hg hC' hb hk
  go_wp2
  go_quiet (fail)
  go_wp2
  go_quiet (fail)
  go_wp2
  go_ret3
  injection HE.out with h1 h2
  injection h2 with h2 h3
  subst h1 h2 h3
  exact ⟨_, rfl, Kd.R_nil _ _ _ _ _, z01 (z01 HB2.out _) _⟩
 | ok y =>
  obtain ⟨x, r⟩ := y
  rw [hwp] at hw
  obtain ⟨K', g0, g1, g2, g3, g4⟩ := hw
  simp only at g2 g3 g4
  cases r with
  | nil =>
   have HE := z00.mk (show (x, (0 : Int), (0 : Int)) = (ra, rb, rc) by have := HE.out; rw [hwp] at this; exact this.symm)
   have hK : K' = ts.length := by
    have := z4t ts K'
    rw [g2, List.length_nil] at this
    omega
   refine (HC.out _ _ _ _ _ g4).mono ?_
   rintro e w2 ⟨v0, rfl, hv0, hi, hb, hk⟩
   have HV0 := z00.mk (Kd.R_lower (Kd.R_mono (ok' := fun _ => True) hv0 (fun _ _ => trivial)) (show w.heap.size ≤ _ from Nat.le_trans HB.out.size (by simp)))
   obtain ⟨A0, c0, rfl⟩ := Kd.R_slice hv0
   obtain ⟨A', c', hblk, hg, hC'⟩ := hi
   have HB2 := z00.mk (z1e HB.out HB.out.size hb)
   have d0 : w2.cell? ⟨n, 0, none⟩ = some (.slice A' ts.length c') := (z03 hblk 0).trans rfl
   have d1 : w2.cell? ⟨n, 1, none⟩ = some (.int .i64 K') := (z03 hblk 1).trans rfl
   have d3 : w2.cell? ⟨n, 3, none⟩ = some (.int .i64 0) := (z03 hblk 3).trans rfl
   have z1 : decide ((K' : Int) < (ts.length : Int)) = false := decide_eq_false (by omega)
   have z2 : decide (K' < ts.length) = false := decide_eq_false (by omega)
   clear hwp g0 g1 g2 g3 g4 hv0 hblk hg hC' hb hk hK
   go_wp2
   go_quiet (fail)
   go_wp2
   go_ret3
   injection HE.out with h1 h2
   injection h2 with h2 h3
   subst h1 h2 h3
   exact ⟨_, rfl, Kd.R_drewN HV0.out _, z01 HB2.out _⟩
  | cons t r =>
   have HE := z00.mk (show ([], z5a ts s.size (ts.length - (r.length + 1)), (2 : Int)) = (ra, rb, rc) by have := HE.out; rw [hwp] at this; exact this.symm)
   have hK : K' < ts.length ∧ ts.length - (r.length + 1) = K' := by
    have := z4t ts K'
    rw [g2, List.length_cons] at this
    omega
   rw [hK.2] at HE
   refine (HC.out _ _ _ _ _ g4).mono ?_
   rintro e w2 ⟨v0, rfl, hv0, hi, hb, hk⟩
   have hat := fun (m : Nat) => z0t.calls n ts K' s.size 0 0 _ _ _ _ _ w1 (w2.drewN m) (hi.drewN m) (z01 hb m) (at_R (by omega) s.size 0 0)
   obtain ⟨pl, hpl⟩ : ∃ p, z5a ts s.size K' = p := ⟨_, rfl⟩
   rw [hpl] at hat HE
   have HAT := z00.mk hat
   have HFA := z00.mk (fun (V : World) (hi : IsS95 w1 V n ts K' s.size 0 0) (hb : Below w1.heap.size w1 V) => z0i.calls n ts K' s.size 0 0 2 pl _ _ _ _ w1 V hi hb (zcl ts K' s.size 0 2 pl))
   obtain ⟨A0, c0, rfl⟩ := Kd.R_slice hv0
   obtain ⟨A', c', hblk, hg, hC'⟩ := hi
   have d0 : w2.cell? ⟨n, 0, none⟩ = some (.slice A' ts.length c') := (z03 hblk 0).trans rfl
   have d1 : w2.cell? ⟨n, 1, none⟩ = some (.int .i64 K') := (z03 hblk 1).trans rfl
   have d3 : w2.cell? ⟨n, 3, none⟩ = some (.int .i64 0) := (z03 hblk 3).trans rfl
   have z1 : decide ((K' : Int) < (ts.length : Int)) = true := decide_eq_true (by omega)
   have z2 : decide (K' < ts.length) = true := decide_eq_true hK.1
   clear hwp g0 g1 g2 g3 g4 hv0 hblk hg hC' hb hk hK hat hpl
   go_wp2
   go_quiet (fail)
   go_wp2_with fail
   refine (HAT.out _).mono ?_
   rintro e w3 ⟨rfl, hi, hb, hk⟩
   have HI3 := z00.mk (And.intro hi hb)
   clear hi hb hk d0 d1 d3
   go_wp2_with fail
   refine (HFA.out _ HI3.out.1 HI3.out.2).mono ?_
   rintro e w4 ⟨rfl, hi, hb, hk⟩
   obtain ⟨A', c', hblk, hg, hC'⟩ := hi
   have HB4 := z00.mk (z1e HB.out HB.out.size hb)
   have d3 : w4.cell? ⟨n, 3, none⟩ = some (.int .i64 2) := (z03 hblk 3).trans rfl
   have d4 : w4.cell? ⟨n, 4, none⟩ = some (.int .i64 pl) := (z03 hblk 4).trans rfl
   clear hblk hg hC' hb hk
   go_wp2
   go_quiet (fail)
   go_wp2
   go_ret3
   injection HE.out with h1 h2
   injection h2 with h2 h3
   subst h1 h2 h3
   exact ⟨_, rfl, Kd.R_nil _ _ _ _ _, z01 HB4.out _⟩

theorem paths_l0 (l : List StS) (hl : l.length ≤ 100) : ∀ (d i k : Nat), l.length - i = d → i ≤ l.length → d < k → z1d.l0 k l l (l.length : Int) (i : Int) = some true := by
 intro d
 induction d with
 | zero =>
  intro i k hd hi hk
  obtain ⟨k, rfl⟩ : ∃ j, k = j + 1 := ⟨k - 1, by omega⟩
  simp only [z1d.l0]
  rw [if_neg (by omega)]
 | succ d ih =>
  intro i k hd hi hk
  obtain ⟨k, rfl⟩ : ∃ j, k = j + 1 := ⟨k - 1, by omega⟩
  simp only [z1d.l0]
  rw [if_pos (by omega), if_pos (by omega), if_pos (by omega), if_pos (by omega), if_neg (by simp), show wrap64 ((i : Int) + 1) = ((i + 1 : Nat) : Int) by unfold wrap64; omega]
  exact ih (i + 1) k (by omega) (by omega) (by omega)
theorem zf6 (l : List StS) (hl : l.length ≤ 100) : z1d.f 200 l l = some true := by
 unfold z1d.f
 rw [if_pos rfl]
 exact paths_l0 l hl _ 0 200 rfl (Nat.zero_le _) (by omega)
set_option maxHeartbeats 4000000 in
set_option maxRecDepth 100000 in
theorem z9q (s : ByteArray) (hs : 1500 < s.size) (w : World) (hLW : LaidW w) :
 Calls Tryz.prog 9 #[.string s] w fun e w' => e = .returned (.bool true) ∧ Below w.heap.size w w' := by
 have HA := z00.mk (fun V (h : LaidW V) => z86 V h)
 have HLW := z00.mk hLW
 have e3 : decide ((1500 : Int) < (s.size : Int)) = true := decide_eq_true (by omega)
 have e4 : decide (1500 < s.size) = true := decide_eq_true hs
 clear hLW hs
 go_enter Tryz.func9, Tryz.ntmps9
 go_wp2_with fail
 refine (HA.out _ HLW.out).mono ?_
 rintro e w1 ⟨rfl, hb⟩
 have HB := z00.mk hb
 clear hb
 go_wp2_with fail
 refine (HA.out _ (HLW.out.below HB.out)).mono ?_
 rintro e w2 ⟨rfl, hb⟩
 have HB2 := z00.mk (z1e HB.out HB.out.size hb)
 clear hb
 go_wp2
 go_ret
 exact ⟨rfl, HB2.out⟩
set_option maxHeartbeats 4000000 in
set_option maxRecDepth 100000 in
theorem z8t (s : ByteArray) (hs : s.size ≤ 1500) (w : World) (hLW : LaidW w) :
 Calls Tryz.prog 9 #[.string s] w fun e w' => e = .returned (.bool true) ∧ Below w.heap.size w w' := by
 have HA := z00.mk (fun V (h : LaidW V) => z86 V h)
 have HLW := z00.mk hLW
 have e3 : decide ((1500 : Int) < (s.size : Int)) = false := decide_eq_false (by omega)
 have e4 : decide (1500 < s.size) = false := decide_eq_false (by omega)
 obtain ⟨⟨l, a, e⟩, hr⟩ : ∃ x, z83 s = x := ⟨_, rfl⟩
 have hp : z4m.f s = some (l, a, e) := by
  unfold z4m.f
  rw [if_pos (by omega), ← zhf (by omega), hr]
 have hl : l.length ≤ 100 := by
  rcases zf5 (by omega) hp with ⟨_, h⟩ | ⟨_, _, h, _⟩
  · rw [h]; simp
  · exact h
 have HP := z00.mk (fun (V : World) (h : LaidW V) => z4m.calls s l a e V h hp)
 have hR := fun (V : World) => z9n s (by omega) V
 rw [hr] at hR
 have HR := z00.mk hR
 have HPA := z00.mk (fun (V : World) (A : Option Addr) (c : Nat) (A' : Option Addr) (c' : Nat) (h1 : Kd.C k69 V A l.length l) (hc : l.length ≤ c) (h2 : Kd.C k69 V A' l.length l) (hc' : l.length ≤ c') => z1d.calls 200 A c l A' c' l true V h1 hc h2 hc' (zf6 l hl))
 have z1 : (a == a) = true := beq_self_eq_true a
 have z2 : (e == e) = true := beq_self_eq_true e
 clear hLW hs hr hp hl hR
 go_enter Tryz.func9, Tryz.ntmps9
 go_wp2_with fail
 refine (HA.out _ HLW.out).mono ?_
 rintro ex w1 ⟨rfl, hb⟩
 have HB := z00.mk hb
 clear hb
 go_wp2_with fail
 refine (HP.out _ (HLW.out.below HB.out)).mono ?_
 rintro ex w2 ⟨v, rfl, hv, hb⟩
 have HV := z00.mk (Kd.R_mono (ok' := fun _ => True) hv (fun _ _ => trivial))
 have HB2 := z00.mk (z1e HB.out HB.out.size hb)
 obtain ⟨A2, c2, rfl⟩ := Kd.R_slice hv
 clear hv hb
 go_wp2_with fail
 refine (HR.out _).mono ?_
 rintro ex w3 ⟨v, rfl, hv, hb⟩
 have HV3 := z00.mk (Kd.R_mono (ok' := fun _ => True) hv (fun _ _ => trivial))
 have HV2 := z00.mk (Kd.R_below HV.out hb)
 have HB3 := z00.mk (z1e HB2.out HB2.out.size hb)
 obtain ⟨A3, c3, rfl⟩ := Kd.R_slice hv
 clear hv hb HV
 go_wp2_with fail
 refine (HPA.out _ A2 c2 A3 c3 (Kd.R_reads' HV2.out).2.2 (Kd.R_reads' HV2.out).2.1 (Kd.R_reads' HV3.out).2.2 (Kd.R_reads' HV3.out).2.1).mono ?_
 rintro ex w4 ⟨rfl, hd⟩
 have HB4 := z00.mk (z1e HB3.out HB3.out.size hd.below)
 clear hd
 go_wp2
 go_ret
 exact ⟨by first | rfl | simp [*], HB4.out⟩
def z2v.f (k : Nat) (a0 : ByteArray) : Option Bool := some true
theorem z2v.calls (k : Nat) (a0 : ByteArray) (r : Bool) (w : World) (hLW : LaidW w) (h : z2v.f k a0 = some r) :
 Calls Tryz.prog 9 #[.string a0] w fun e w' => e = .returned (.bool r) ∧ Below w.heap.size w w' := by
 obtain rfl := Option.some.inj h
 by_cases hs : 1500 < a0.size
 · exact z9q a0 hs w hLW
 · exact z8t a0 (by omega) w hLW
end Go.Proofs.YthebhbomlllpeaaGreatDoor.X
namespace Go.Proofs.YthebhbomlllpeaaGreatDoor.X
theorem z9w (s : ByteArray) (_ : s.size ≤ maxLen) : ∃ k, z2v.f k s = some true := ⟨0, rfl⟩
end Go.Proofs.YthebhbomlllpeaaGreatDoor.X
