/-
  tuple.Text and tuple.Compare: mapped with value.Text and strings.Join; slices.CompareFunc with value.Compare.
-/
import Derived.Test.YtepgdjbjcnolnaaDoorXtT
import Derived.Test.YtepgdjbjcnolnaaDoorXtP
import Derived.Test.YtepgdjbjcnolnaaDoorXx6
namespace Go.Proofs.YtepgdjbjcnolnaaDoor.X
set_option linter.unusedVariables false
set_option linter.unusedSimpArgs false
open Go.RowKit Go.Proofs.YtepgdjbjcnolnaaDoorW.PrintWords Go.Proofs.YtepgdjbjcnolnaaDoorW.PrintLast Go.Proofs.YtepgdjbjcnolnaaDoorW.PrintMore

def textV (x : S38) : ByteArray := ⟨(textL x.f0 x.f1 x.f2).toArray⟩
/-- its number is an int64. -/
def okV (x : S38) : Bool := decide (-9223372036854775808 ≤ x.f1 ∧ x.f1 ≤ 9223372036854775807)
theorem infoS : (Tryd.prog.info? 9).map (fun i => (i.zero, i.size, i.bytes)) = some (some (.string ⟨#[]⟩), 1, 16) := by kernel_rfl
theorem rdT_at (l : List S38) (j : Nat) (h : j < l.length) : rd_T38 l (j : Int) = l[j] := by simp [rd_T38, List.getD, h]
set_option maxHeartbeats 1600000 in
set_option maxRecDepth 100000 in
theorem mappedText_any (l0 : List S38) (A0 : Option Addr) (cap0 : Nat) (w : World) (hLW : LaidW w) (hC0 : Kd.C k38 w A0 l0.length l0) (hok : ∀ x ∈ l0, okV x = true) (hl : l0.length ≤ 4398046511103) :
    Calls Tryd.prog 33 #[.slice A0 l0.length cap0, .func (.func 34) #[] #[]] w fun e w' => ∃ v', e = .returned v' ∧ Kd.R Kd.string 9 w' w.heap.size (fun _ => True) v' (l0.map textV) ∧ Below w.heap.size w w' := by
  have HC0 := Aside0.mk hC0
  have HOK := Aside0.mk hok
  clear hC0 hok
  obtain ⟨i0, hi, hz0, hz1, hz2⟩ := info_parts infoS
  obtain ⟨wm, hmk, hown, hgr⟩ := run_make_own (P := Tryd.prog) w w.heap.size 50 9 i0 _ 1 Tryd.underlying50 hi hz0 hz1 .i64 .i64 l0.length (by rw [hz2]; omega) (by unfold maxLen; omega) (Nat.le_refl _)
  have HOWN : Aside0 (Kd.R Kd.string 9 wm w.heap.size (fun _ => True) (.slice (some ⟨w.heap.size, 0, none⟩) 0 l0.length) []) := ⟨⟨fun _ _ => trivial, [], hown, Reps.none _ _⟩⟩
  have HBM : Aside0 (Below w.heap.size w wm) := ⟨(Below.refl w.heap.size w).grown hgr (Nat.le_refl _) (fun k h => by cases h)⟩
  clear hi hz0 hz1 hz2 hown hgr
  go_enter Tryd.func33, Tryd.ntmps33
  go_wp2
  go_loopw [5, 13] (fun v5 v13 wr => ∃ (j : Nat), j ≤ l0.length ∧ v13 = .int .i64 j ∧ Aside0 (Kd.R Kd.string 9 wr w.heap.size (fun _ => True) v5 ((l0.take j).map textV)) ∧ Aside0 (Below w.heap.size w wr)) (fun _ v13 _ => l0.length - (intOf v13).toNat)
  case atStart => exact ⟨0, Nat.zero_le _, rfl, HOWN, HBM⟩
  case round =>
    clear hmk HOWN HBM
    obtain ⟨j, hj, rfl, HO, HB⟩ := hrel
    by_cases hlt : j < l0.length
    · have ht : decide ((j : Int) < (l0.length : Int)) = true := decide_eq_true (by omega)
      obtain ⟨ad, e, hx0, hx1, hx2⟩ := at_T38 HC0.out (j : Int) (by omega) (by omega)
      subst e
      rw [rdT_at l0 j hlt] at hx0 hx1 hx2
      have hy0 := HOK.out l0[j] (List.getElem_mem hlt)
      have htk : (l0.take j).map textV ++ [textV l0[j]] = (l0.take (j + 1)).map textV := by
        rw [List.take_succ_eq_append_getElem hlt, List.map_append]; rfl
      generalize hy : l0[j] = y at hx0 hx1 hx2 hy0 htk
      clear hy
      rw [Int.toNat_natCast] at hx0 hx1 hx2
      replace hx0 := (HB.out.cell (World.block_lt_of_cell? w _ hx0)).trans hx0
      replace hx1 := (HB.out.cell (World.block_lt_of_cell? w _ hx1)).trans hx1
      replace hx2 := (HB.out.cell (World.block_lt_of_cell? w _ hx2)).trans hx2
      have hP := fun W h => value_Text.calls y.f0 y.f1 y.f2 (textV y) W h (by unfold value_Text.f; rw [if_pos (by simpa [okV] using hy0)]; rfl)
      have HP := Aside0.mk hP
      have HTK := Aside0.mk htk
      have HLr := Aside0.mk (hLW.below HB.out)
      clear hP htk hy0
      go_wp2_with (first
        | (go_at_call 34; refine (HP.out _ (by exact HLr.out.below (by repeat (first | exact Below.refl _ _ | exact (Below.refl _ _).alloc (Nat.le_refl _) _ | refine below_set ?_ (Nat.le_refl _))))).mono ?_; rintro e w1 ⟨rfl, hb1⟩; have HB1 := Aside0.mk (below_then HB.out HB.out.size (below_box hb1)); have HO1 := Aside0.mk (Kd.R_below HO.out (below_box hb1)); clear hb1)
        | ((with_reducible refine gate_builtin (b := .append) (xs := #[.tmp 17, .tmp 21]) rfl ?_); at_builtin; refine Kd.R_append Kd.string (w0 := w) w.heap.size rfl (.tmp 17) (.tmp 21) 50 9 (.string ⟨#[]⟩) 16 rfl Tryd.underlying50 infoS rfl (by decide) (by omega) u5 ((l0.take j).map textV) (textV y) [.string (textV y)] (fun _ => True) (fun _ => False) rfl rfl rfl (fun _ hk => hk.elim) (fun _ _ => trivial) HO1.out HB1.out HB1.out.size (by rw [List.length_map, List.length_take]; omega) ?_; intro v1 w2 ho hb hg hat; have HO2 := Aside0.mk ho; have HB2 := Aside0.mk hb; clear ho hb hg hat))
      go_roundw
      case rel => exact ⟨j + 1, by omega, by go_num, ⟨by rw [← HTK.out]; exact HO2.out⟩, HB2⟩
      case measure => simp [intOf]; omega
    · have ht : decide ((j : Int) < (l0.length : Int)) = false := decide_eq_false (by omega)
      obtain rfl : j = l0.length := by omega
      go_wp2
      go_ret
      have h := HO.out
      rw [List.take_length] at h
      exact ⟨_, rfl, h, HB.out⟩

/-! ### tuple.Text -/
def textT (l : List S38) : List UInt8 := Lib.join (l.map fun x => textL x.f0 x.f1 x.f2) [44, 32]
def tuple_Text.f (l0 : List S38) : Option ByteArray :=
  if l0.all okV = true ∧ l0.length ≤ 4398046511103 ∧ (textT l0).length ≤ 140737488355328 then some ⟨(textT l0).toArray⟩ else none
theorem textV_data (l : List S38) : (l.map textV).map (·.data.toList) = l.map fun x => textL x.f0 x.f1 x.f2 := by
  rw [List.map_map]
  apply List.map_congr_left
  intro x _
  simp [textV]
set_option maxHeartbeats 800000 in
set_option maxRecDepth 100000 in
theorem tuple_Text.calls (A0 : Option Addr) (c0 : Nat) (l0 : List S38) (r : ByteArray) (w : World) (hLW : LaidW w) (hr0 : Kd.C k38 w A0 l0.length l0) (hc0 : l0.length ≤ c0) (h : tuple_Text.f l0 = some r) :
    Calls Tryd.prog 19 #[.slice A0 l0.length c0] w fun e w' => e = .returned (.string r) ∧ Below w.heap.size w w' := by
  unfold tuple_Text.f at h
  split at h
  · rename_i hc
    obtain ⟨h1, h2, h3⟩ := hc
    obtain rfl := Option.some.inj h
    clear h hc0
    have HM := Aside0.mk (mappedText_any l0 A0 c0 w hLW hr0 (fun x hx => List.all_eq_true.1 h1 x hx) h2)
    have H3 := Aside0.mk h3
    have H2 := Aside0.mk h2
    clear h1 h2 h3 hr0
    go_enter Tryd.func19, Tryd.ntmps19
    go_wp2_with fail
    refine HM.out.mono ?_
    rintro e w1 ⟨v1, rfl, ho1, hb1⟩
    have HB1 := Aside0.mk hb1
    obtain ⟨A1, cap1, hv1⟩ := R_any ho1
    rw [hv1] at ho1 ⊢
    have hlen : (l0.map textV).length = l0.length := List.length_map ..
    have HJ : Aside0 (Calls Tryd.prog 32 #[.slice A1 l0.length cap1, .string ⟨#[44, 32]⟩] w1 fun e w' => e = .returned (.string ⟨(textT l0).toArray⟩) ∧ Below w1.heap.size w1 w') := by
      constructor
      rw [← hlen]
      have hrr := Kd.R_reads' ho1
      by_cases hz : (l0.map textV).length = 0
      · have hz0 : l0 = [] := by simpa using hz
        subst hz0
        refine (Tryd.strings_Join_none A1 cap1 _ w1).mono ?_
        rintro e w' ⟨rfl, rfl⟩
        exact ⟨rfl, Below.refl _ _⟩
      · obtain ⟨g, cap, e1, _, hg, _⟩ := Kd.R_form ho1 (by omega)
        injection e1 with e1 _ e2
        subst e1; subst e2
        have := Tryd.strings_Join g 0 cap1 (l0.map textV) ⟨#[44, 32]⟩ w1 (fun j x hx => by
          have hj : j < (l0.map textV).length := (List.getElem?_eq_some_iff.1 hx).1
          obtain ⟨hcell, _⟩ := Kd.R_celln (⟨#[]⟩ : ByteArray) ho1 (j : Int) (by omega) (by omega)
          rw [Int.toNat_natCast] at hcell
          rw [Nat.zero_add, hcell]
          have e3 : rdOf (⟨#[]⟩ : ByteArray) (l0.map textV) (j : Int) = x := by
            simp only [rdOf, Int.toNat_natCast, List.getD, hx, Option.getD_some]
          rw [e3]) hg (by have := H2.out; omega) hrr.2.1 (by rw [textV_data]; exact H3.out)
        rw [textV_data] at this
        exact this
    clear ho1 hb1 hv1 hlen
    go_wp2_with fail
    refine HJ.out.mono ?_
    rintro e w2 ⟨rfl, hb2⟩
    have HB2 := Aside0.mk (below_then HB1.out HB1.out.size hb2)
    clear hb2
    go_wp2
    go_ret
    exact ⟨rfl, HB2.out⟩
  · cases h

/-! ### tuple.Compare -/
def cmpI (a b : Int) : Int := if a < b then -1 else if b < a then 1 else 0
/-- how two values lie to each other. -/
def cmpV (x y : S38) : Int :=
  if cmpI x.f0 y.f0 ≠ 0 then cmpI x.f0 y.f0 else if cmpI x.f1 y.f1 ≠ 0 then cmpI x.f1 y.f1 else Lib.compareBytes x.f2.data.toList y.f2.data.toList
/-- how two lists lie to each other, column by column. -/
def orderL : List S38 → List S38 → Int
  | [], [] => 0
  | [], _ :: _ => -1
  | _ :: _, [] => 1
  | x :: xs, y :: ys => if cmpV x y ≠ 0 then cmpV x y else orderL xs ys
theorem cmp_int_eq (a b : Int) : cmp_Compare_int.f a b = some (cmpI a b) := by
  unfold cmp_Compare_int.f cmp_isNaN_int.f cmpI
  simp only [Option.bind_some, bne_self_eq_false, Bool.false_eq_true, if_false]
  by_cases h1 : a < b
  · simp [h1]
  · rw [if_neg h1, if_neg h1]
    by_cases h2 : b < a
    · have h3 : a > b := h2
      simp [h2, h3]
    · have h3 : ¬ a > b := h2
      simp [h2, h3]
theorem cmp_int64_eq (a b : Int) : cmp_Compare_int64.f a b = some (cmpI a b) := by
  unfold cmp_Compare_int64.f cmp_isNaN_int64.f cmpI
  simp only [Option.bind_some, bne_self_eq_false, Bool.false_eq_true, if_false]
  by_cases h1 : a < b
  · simp [h1]
  · rw [if_neg h1, if_neg h1]
    by_cases h2 : b < a
    · have h3 : a > b := h2
      simp [h2, h3]
    · have h3 : ¬ a > b := h2
      simp [h2, h3]
theorem wrap_0 : wrap64 (0 + 1) = 1 := by unfold wrap64; omega
theorem wrap_1 : wrap64 (1 + 1) = 2 := by unfold wrap64; omega
theorem wrap_2 : wrap64 (2 + 1) = 3 := by unfold wrap64; omega
theorem cmp_or_eq (a b c : Int) (k : Nat) (hk : 4 ≤ k) : cmp_Or_int.f k [a, b, c] = some (if a ≠ 0 then a else if b ≠ 0 then b else c) := by
  obtain ⟨k, rfl⟩ : ∃ m, k = m + 4 := ⟨k - 4, by omega⟩
  have r0 : rd [a, b, c] 0 = a := rfl
  have r1 : rd [a, b, c] 1 = b := rfl
  have r2 : rd [a, b, c] 2 = c := rfl
  have hl : (([a, b, c] : List Int).length : Int) = 3 := rfl
  unfold cmp_Or_int.f
  rw [hl]
  simp only [cmp_Or_int.l0, hl, r0, r1, r2, wrap_0, wrap_1, wrap_2]
  by_cases h1 : a = 0
  · subst h1
    by_cases h2 : b = 0
    · subst h2
      by_cases h3 : c = 0
      · subst h3; simp
      · simp [h3]
    · simp [h2]
  · simp [h1]
theorem value_Compare_eq (x y : S38) (k : Nat) (hk : 4 ≤ k) : value_Compare.f k x.f0 x.f1 x.f2 y.f0 y.f1 y.f2 = some (cmpV x y) := by
  unfold value_Compare.f strings_Compare.f
  rw [cmp_int_eq, cmp_int64_eq]
  simp only [Option.bind_some]
  rw [cmp_or_eq _ _ _ k hk]
  rfl
theorem order_cons {xs ys : List S38} {j : Nat} (hx : j < xs.length) (hy : j < ys.length) : orderL (xs.drop j) (ys.drop j) = if cmpV xs[j] ys[j] ≠ 0 then cmpV xs[j] ys[j] else orderL (xs.drop (j + 1)) (ys.drop (j + 1)) := by
  rw [List.drop_eq_getElem_cons hx, List.drop_eq_getElem_cons hy]
  rfl
theorem order_gt {xs ys : List S38} {j : Nat} (hx : j < xs.length) (hy : ys.length ≤ j) : orderL (xs.drop j) (ys.drop j) = 1 := by
  rw [List.drop_eq_getElem_cons hx, List.drop_eq_nil_of_le hy]
  rfl
theorem order_end {xs ys : List S38} {j : Nat} (hx : xs.length ≤ j) : orderL (xs.drop j) (ys.drop j) = if j < ys.length then -1 else 0 := by
  rw [List.drop_eq_nil_of_le hx]
  split
  · rename_i h
    rw [List.drop_eq_getElem_cons h]
    rfl
  · rename_i h
    rw [List.drop_eq_nil_of_le (by omega)]
    rfl
set_option maxHeartbeats 3200000 in
set_option maxRecDepth 100000 in
theorem compareFunc_any (xs ys : List S38) (A1 A2 : Option Addr) (c1 c2 : Nat) (w : World) (hC1 : Kd.C k38 w A1 xs.length xs) (hC2 : Kd.C k38 w A2 ys.length ys) (hl1 : xs.length ≤ 17592186044416) (hl2 : ys.length ≤ 17592186044416) :
    Calls Tryd.prog 37 #[.slice A1 xs.length c1, .slice A2 ys.length c2, .func (.func 38) #[] #[]] w fun e w' => e = .returned (.int .i64 (orderL xs ys)) ∧ Below w.heap.size w w' := by
  have HC1 := Aside0.mk hC1
  have HC2 := Aside0.mk hC2
  clear hC1 hC2
  go_enter Tryd.func37, Tryd.ntmps37
  go_wp2
  go_loopw [13] (fun v13 wr => ∃ (j : Nat), j ≤ xs.length ∧ v13 = .int .i64 j ∧ Aside0 (orderL (xs.drop j) (ys.drop j) = orderL xs ys) ∧ Aside0 (Below w.heap.size w wr)) (fun v13 _ => xs.length - (intOf v13).toNat)
  case atStart => exact ⟨0, Nat.zero_le _, rfl, ⟨rfl⟩, ⟨Below.refl _ _⟩⟩
  case round =>
    obtain ⟨j, hj, rfl, HO, HB⟩ := hrel
    by_cases hlt : j < xs.length
    · have ht : decide ((j : Int) < (xs.length : Int)) = true := decide_eq_true (by omega)
      obtain ⟨ad, e, hx0, hx1, hx2⟩ := at_T38 HC1.out (j : Int) (by omega) (by omega)
      subst e
      rw [rdT_at xs j hlt, Int.toNat_natCast] at hx0 hx1 hx2
      replace hx0 := (HB.out.cell (World.block_lt_of_cell? w _ hx0)).trans hx0
      replace hx1 := (HB.out.cell (World.block_lt_of_cell? w _ hx1)).trans hx1
      replace hx2 := (HB.out.cell (World.block_lt_of_cell? w _ hx2)).trans hx2
      by_cases hlt2 : j < ys.length
      · have ht2 : decide ((ys.length : Int) ≤ (j : Int)) = false := decide_eq_false (by omega)
        obtain ⟨ad2, e, hy0, hy1, hy2⟩ := at_T38 HC2.out (j : Int) (by omega) (by omega)
        subst e
        rw [rdT_at ys j hlt2, Int.toNat_natCast] at hy0 hy1 hy2
        replace hy0 := (HB.out.cell (World.block_lt_of_cell? w _ hy0)).trans hy0
        replace hy1 := (HB.out.cell (World.block_lt_of_cell? w _ hy1)).trans hy1
        replace hy2 := (HB.out.cell (World.block_lt_of_cell? w _ hy2)).trans hy2
        have ky0 := fun o => Lib.cell?_alloc_some o hy0
        have ky1 := fun o => Lib.cell?_alloc_some o hy1
        have ky2 := fun o => Lib.cell?_alloc_some o hy2
        have hoc := order_cons hlt hlt2
        generalize hx : xs[j] = x at hx0 hx1 hx2 hoc
        generalize hy : ys[j] = y at hy0 hy1 hy2 ky0 ky1 ky2 hoc
        clear hx hy hy0 hy1 hy2
        rw [HO.out] at hoc
        have HOC := Aside0.mk hoc
        have HP := Aside0.mk (fun W => value_Compare.calls 4 x.f0 x.f1 x.f2 y.f0 y.f1 y.f2 (cmpV x y) W (value_Compare_eq x y 4 (Nat.le_refl _)))
        clear hoc
        by_cases hz : cmpV x y = 0
        · have HZ := Aside0.mk hz
          rw [hz] at HP
          clear hz
          go_wp2_with (go_at_call 38; refine (HP.out _).mono ?_; rintro e w1 ⟨rfl, hb1⟩; have HB1 := Aside0.mk (below_then HB.out HB.out.size (below_box (below_box hb1))); clear hb1)
          go_roundw
          case rel => exact ⟨j + 1, by omega, by go_num, ⟨by have h := HOC.out; rw [if_neg (by simp [HZ.out])] at h; exact h.symm⟩, HB1⟩
          case measure => simp [intOf]; omega
        · have hne : ((cmpV x y : Int) != 0) = true := by rw [bne_iff_ne]; exact hz
          have HZ := Aside0.mk hz
          clear hz
          generalize hq : cmpV x y = q at *
          go_wp2_with (go_at_call 38; refine (HP.out _).mono ?_; rintro e w1 ⟨rfl, hb1⟩; have HB1 := Aside0.mk (below_then HB.out HB.out.size (below_box (below_box hb1))); clear hb1)
          go_ret
          exact ⟨by rw [HOC.out, if_pos HZ.out]; rfl, HB1.out⟩
      · have ht2 : decide ((ys.length : Int) ≤ (j : Int)) = true := decide_eq_true (by omega)
        go_wp2
        go_ret
        exact ⟨by rw [← HO.out, order_gt hlt (by omega)]; rfl, HB.out.alloc HB.out.size _⟩
    · obtain rfl : j = xs.length := by omega
      have ht : decide ((xs.length : Int) < (xs.length : Int)) = false := decide_eq_false (by omega)
      by_cases hlt2 : xs.length < ys.length
      · have ht2 : decide ((xs.length : Int) < (ys.length : Int)) = true := decide_eq_true (by omega)
        go_wp2
        go_ret
        exact ⟨by rw [← HO.out, order_end (Nat.le_refl _), if_pos hlt2]; rfl, HB.out⟩
      · have ht2 : decide ((xs.length : Int) < (ys.length : Int)) = false := decide_eq_false (by omega)
        go_wp2
        go_ret
        exact ⟨by rw [← HO.out, order_end (Nat.le_refl _), if_neg hlt2]; rfl, HB.out⟩
def tuple_Compare.f (l0 l1 : List S38) (l2 : List Int) : Option Int :=
  (tuple_Pick.f l0 l2).bind fun a => (tuple_Pick.f l1 l2).bind fun b => some (orderL a b)
theorem pick_len {l0 : List S38} {l2 : List Int} {a : List S38} (h : tuple_Pick.f l0 l2 = some a) : a.length ≤ 4398046511103 := by
  unfold tuple_Pick.f at h
  split at h
  · obtain rfl := Option.some.inj h
    rw [List.length_map]
    exact Nat.le_trans (List.length_filter_le _ _) (by assumption)
  · cases h
set_option maxHeartbeats 800000 in
set_option maxRecDepth 100000 in
theorem tuple_Compare.calls (A0 : Option Addr) (c0 : Nat) (l0 : List S38) (A1 : Option Addr) (c1 : Nat) (l1 : List S38) (A2 : Option Addr) (c2 : Nat) (l2 : List Int) (r : Int) (w : World) (hr0 : Kd.C k38 w A0 l0.length l0) (hc0 : l0.length ≤ c0) (hr1 : Kd.C k38 w A1 l1.length l1) (hc1 : l1.length ≤ c1) (hr2 : Kd.C (Kd.int .i64) w A2 l2.length l2) (hc2 : l2.length ≤ c2) (h : tuple_Compare.f l0 l1 l2 = some r) :
    Calls Tryd.prog 22 #[.slice A0 l0.length c0, .slice A1 l1.length c1, .slice A2 l2.length c2] w fun e w' => e = .returned (.int .i64 r) ∧ Below w.heap.size w w' := by
  unfold tuple_Compare.f at h
  obtain ⟨a, ha, h⟩ := Option.bind_eq_some_iff.1 h
  obtain ⟨b, hb, h⟩ := Option.bind_eq_some_iff.1 h
  obtain rfl := Option.some.inj h
  have HP1 := Aside0.mk (tuple_Pick.calls A0 c0 l0 A2 c2 l2 a w hr0 hc0 hr2 hc2 ha)
  have HR1 := Aside0.mk hr1
  have HR2 := Aside0.mk hr2
  have HHB := Aside0.mk hb
  have HLA := Aside0.mk (pick_len ha)
  have HLB := Aside0.mk (pick_len hb)
  have HCC1 := Aside0.mk hc1
  have HCC2 := Aside0.mk hc2
  clear hr0 hc0 hr1 hc1 hr2 hc2 ha hb h
  go_enter Tryd.func22, Tryd.ntmps22
  go_wp2_with fail
  refine HP1.out.mono ?_
  rintro e w1 ⟨v1, rfl, ho1, hb1⟩
  obtain ⟨B1, d1, hv1⟩ := R_any ho1
  rw [hv1] at ho1 ⊢
  have HO1 := Aside0.mk ho1
  have HB1 := Aside0.mk hb1
  clear ho1 hb1 hv1
  go_wp2_with fail
  refine (tuple_Pick.calls A1 c1 l1 A2 c2 l2 b w1 (Kd.C_below HR1.out HB1.out) HCC1.out (Kd.C_below HR2.out HB1.out) HCC2.out HHB.out).mono ?_
  rintro e w2 ⟨v2, rfl, ho2, hb2⟩
  obtain ⟨B2, d2, hv2⟩ := R_any ho2
  rw [hv2] at ho2 ⊢
  have HO2 := Aside0.mk ho2
  have HB2 := Aside0.mk hb2
  clear ho2 hb2 hv2
  go_wp2_with fail
  refine (compareFunc_any a b B1 B2 d1 d2 w2 (Kd.C_below (Kd.R_reads' HO1.out).2.2 HB2.out) (Kd.R_reads' HO2.out).2.2 (by have := HLA.out; omega) (by have := HLB.out; omega)).mono ?_
  rintro e w3 ⟨rfl, hb3⟩
  have HB3 := Aside0.mk (below_then (below_then HB1.out HB1.out.size HB2.out) (Nat.le_trans HB1.out.size HB2.out.size) hb3)
  clear hb3
  go_wp2
  go_ret
  exact ⟨rfl, HB3.out⟩
end Go.Proofs.YtepgdjbjcnolnaaDoor.X
