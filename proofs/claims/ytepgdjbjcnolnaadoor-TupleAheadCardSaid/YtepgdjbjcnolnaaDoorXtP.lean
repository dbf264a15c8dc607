/-
  tuple.Pick: some columns of a tuple: slices.Clone, slices.DeleteFunc and mapped, each with Pick's own closures.
-/
import Derived.Test.YtepgdjbjcnolnaaDoorXx0
import Derived.Test.YtepgdjbjcnolnaaDoorXtS
import Derived.Test.YtepgdjbjcnolnaaDoorXtL
import Derived.Lib.SliceRun
namespace Go.Proofs.YtepgdjbjcnolnaaDoor.X
set_option linter.unusedVariables false
set_option linter.unusedSimpArgs false
open Go.RowKit Go.Proofs.YtepgdjbjcnolnaaDoorW.PrintWords Go.Proofs.YtepgdjbjcnolnaaDoorW.PrintLast Go.Proofs.YtepgdjbjcnolnaaDoorW.PrintMore

/-- a number that is no column's. -/
def outB (n : Nat) (c : Int) : Bool := decide (c < 0) || decide ((n : Int) ≤ c)
set_option maxHeartbeats 400000 in
set_option maxRecDepth 100000 in
theorem pick1 (c : Int) (B : Nat) (A : Option Addr) (n cap : Nat) (w : World) (hc : w.cell? ⟨B, 0, none⟩ = some (.slice A n cap)) :
    Calls Tryd.prog 29 #[.int .i64 c, .pointer (some ⟨B, 0, none⟩)] w fun e w' => e = .returned (.bool (outB n c)) ∧ Drawn0 w w' := by
  by_cases h0 : c < 0
  · have e0 : decide (c < 0) = true := decide_eq_true h0
    go_enter Tryd.func29, Tryd.ntmps29
    go_wp2
    go_ret
    exact ⟨by rw [show outB n c = true by simp only [outB, e0, Bool.true_or]]; rfl, Drawn0.refl _⟩
  · have e0 : decide (c < 0) = false := decide_eq_false h0
    go_enter Tryd.func29, Tryd.ntmps29
    go_wp2
    go_ret
    exact ⟨by rw [show outB n c = decide ((n : Int) ≤ c) by simp only [outB, e0, Bool.false_or]]; rfl, Drawn0.refl _⟩

/-- where the first one is; -1: there is none. -/
def firstOut (n : Nat) (xs : List Int) : Int := match xs.findIdx? (outB n) with | none => -1 | some i => (i : Int)
theorem first_hit {n kk : Nat} {xs : List Int} (hlt : kk < xs.length) (h : outB n xs[kk] = true) (hA : ∀ j, j < kk → ∀ h : j < xs.length, outB n xs[j] = false) : firstOut n xs = (kk : Int) := by
  have : xs.findIdx? (outB n) = some kk := by
    rw [List.findIdx?_eq_some_iff_getElem]
    exact ⟨hlt, h, fun j hj => by simp [hA j hj (by omega)]⟩
  unfold firstOut
  rw [this]
theorem first_miss {n : Nat} {xs : List Int} (hA : ∀ j, ∀ h : j < xs.length, outB n xs[j] = false) : firstOut n xs = -1 := by
  have : xs.findIdx? (outB n) = none := by
    rw [List.findIdx?_eq_none_iff]
    intro x hx
    obtain ⟨j, h, rfl⟩ := List.getElem_of_mem hx
    exact hA j h
  unfold firstOut
  rw [this]
set_option maxHeartbeats 800000 in
set_option maxRecDepth 100000 in
theorem idx_any (xs : List Int) (A1 : Option Addr) (cap B : Nat) (A : Option Addr) (n c : Nat) (w : World) (hC : Kd.C (Kd.int .i64) w A1 xs.length xs) (hbox : w.cell? ⟨B, 0, none⟩ = some (.slice A n c)) (hl : xs.length ≤ 281474976710656) :
    Calls Tryd.prog 39 #[.slice A1 xs.length cap, .func (.func 29) #[] #[.pointer (some ⟨B, 0, none⟩)]] w fun e w' => e = .returned (.int .i64 (firstOut n xs)) ∧ Drawn0 w w' := by
  have HC := Aside0.mk hC
  clear hC
  go_enter Tryd.func39, Tryd.ntmps39
  go_wp2
  go_loopg [5, 8] xs.length (fun gg _ s8 wr => ∃ kk m : Nat, kk ≤ xs.length ∧ xs.length - kk ≤ gg ∧ s8 = .int .i64 kk ∧ wr = w.drewN m ∧ Aside0 (∀ j, j < kk → ∀ h : j < xs.length, outB n xs[j] = false))
  case atStart => exact ⟨0, 0, Nat.zero_le _, by omega, rfl, (World.drewN_zero w).symm, ⟨fun j hj => absurd hj (Nat.not_lt_zero _)⟩⟩
  case round =>
    obtain ⟨kk, m, hkk, hg, rfl, rfl, HA⟩ := hrel
    by_cases hlt : kk < xs.length
    · have hltz : decide ((kk : Int) < (xs.length : Int)) = true := decide_eq_true (by omega)
      obtain ⟨ad, e, hx⟩ := Kd.at_int HC.out (kk : Int) (by omega) (by omega)
      subst e
      rw [Int.toNat_natCast] at hx
      have hrd : rd xs (kk : Int) = xs[kk] := by simp [rd, List.getD, hlt]
      rw [hrd] at hx
      clear hrd
      generalize hy : xs[kk] = y at hx
      have HY := Aside0.mk hy
      clear hy
      cases hp : outB n y with
      | true =>
        have HP := Aside0.mk hp
        clear hp
        go_wp2_with (go_at_call 29; refine (pick1 _ B A n c (w.drewN m) hbox).mono ?_; rw [HP.out]; rintro e w' ⟨rfl, ⟨nd, rfl⟩⟩)
        go_ret
        exact ⟨by rw [first_hit hlt (by rw [HY.out]; exact HP.out) HA.out]; rfl, ⟨_, rfl⟩⟩
      | false =>
        have HP := Aside0.mk hp
        clear hp
        go_wp2_with (go_at_call 29; refine (pick1 _ B A n c (w.drewN m) hbox).mono ?_; rw [HP.out]; rintro e w' ⟨rfl, ⟨nd, rfl⟩⟩)
        go_roundg (xs.length - (kk + 1))
        case measure => omega
        case rel =>
          refine ⟨kk + 1, m + nd, by omega, by omega, by go_num, ?_, ⟨fun j hj h => ?_⟩⟩
          · rfl
          · by_cases e : j = kk
            · subst e; rw [HY.out]; exact HP.out
            · exact HA.out j (by omega) h
    · have hltz : decide ((kk : Int) < (xs.length : Int)) = false := decide_eq_false (by omega)
      obtain rfl : kk = xs.length := by omega
      go_wp2
      go_ret
      exact ⟨by rw [first_miss (fun j h => HA.out j h h)]; rfl, ⟨_, rfl⟩⟩

/-! ### slices.DeleteFunc on a row of the call's own -/
/-- what stands in the row while it is gone through: i that stay, ahead; from j on as it was. -/
def DelInv (n : Nat) (xs ys : List Int) (i j : Nat) : Prop := ys.length = xs.length ∧ i < j ∧ j ≤ xs.length ∧ ys.take i = (xs.take j).filter (fun c => !outB n c) ∧ ys.drop j = xs.drop j
theorem del_start {n i : Nat} {xs : List Int} (h : firstOut n xs = (i : Int)) : i < xs.length ∧ DelInv n xs xs i (i + 1) := by
  unfold firstOut at h
  split at h
  · omega
  · rename_i k hk
    obtain rfl : k = i := by omega
    obtain ⟨hlt, hx, hA⟩ := List.findIdx?_eq_some_iff_getElem.1 hk
    refine ⟨hlt, rfl, by omega, by omega, ?_, rfl⟩
    rw [List.take_succ_eq_append_getElem hlt, List.filter_append]
    simp only [List.filter_cons, hx, Bool.not_true, Bool.false_eq_true, if_false, List.filter_nil, List.append_nil]
    rw [List.filter_eq_self.2]
    intro a ha
    obtain ⟨j, hj, rfl⟩ := List.getElem_of_mem ha
    rw [List.length_take] at hj
    rw [List.getElem_take]
    simpa using hA j (by omega)
theorem del_none {n : Nat} {xs : List Int} (h : firstOut n xs < 0) : xs.filter (fun c => !outB n c) = xs := by
  unfold firstOut at h
  split at h
  · rename_i hk
    rw [List.filter_eq_self]
    intro a ha
    have := List.findIdx?_eq_none_iff.1 hk a ha
    simp [this]
  · omega
theorem first_range (n : Nat) (xs : List Int) : firstOut n xs = -1 ∨ ∃ i : Nat, firstOut n xs = (i : Int) := by
  unfold firstOut
  split
  · exact .inl rfl
  · exact .inr ⟨_, rfl⟩
theorem del_get {n i j : Nat} {xs ys : List Int} (h : DelInv n xs ys i j) (hj : j < xs.length) : rd ys (j : Int) = xs[j] := by
  obtain ⟨h1, h2, h3, h4, h5⟩ := h
  have : ys[j]'(by omega) = xs[j] := by
    have e := congrArg List.head? h5
    rw [List.head?_drop, List.head?_drop] at e
    rw [List.getElem?_eq_getElem (by omega), List.getElem?_eq_getElem hj] at e
    exact Option.some.inj e
  rw [← this]
  simp [rd, List.getD, (by omega : j < ys.length)]
theorem del_keep {n i j : Nat} {xs ys : List Int} (h : DelInv n xs ys i j) (hj : j < xs.length) (hk : outB n xs[j] = false) : DelInv n xs (ys.set i xs[j]) (i + 1) (j + 1) := by
  obtain ⟨h1, h2, h3, h4, h5⟩ := h
  refine ⟨by simpa using h1, by omega, by omega, ?_, ?_⟩
  · rw [List.take_succ_eq_append_getElem (by simp; omega), List.take_set_of_le (Nat.le_refl _), h4, List.take_succ_eq_append_getElem hj, List.filter_append]
    simp [List.filter_cons, hk]
  · rw [List.drop_set_of_lt (by omega)]
    have := congrArg (List.drop 1) h5
    simpa [List.drop_drop, Nat.add_comm] using this
theorem del_drop {n i j : Nat} {xs ys : List Int} (h : DelInv n xs ys i j) (hj : j < xs.length) (hk : outB n xs[j] = true) : DelInv n xs ys i (j + 1) := by
  obtain ⟨h1, h2, h3, h4, h5⟩ := h
  refine ⟨h1, by omega, by omega, ?_, ?_⟩
  · rw [h4, List.take_succ_eq_append_getElem hj, List.filter_append]
    simp [List.filter_cons, hk]
  · have := congrArg (List.drop 1) h5
    simpa [List.drop_drop, Nat.add_comm] using this
theorem R_setCells {e : Nat} {base g n cap : Nat} {ok : Nat → Prop} : ∀ (m o : Nat) (W : World) (ys : List Int), (Kd.int .i64).R e W base ok (.slice (some ⟨g, 0, none⟩) n cap) ys → base ≤ g →
    (∃ zs, (Kd.int .i64).R e (W.setCells g o (List.replicate m (.int .i64 0))) base ok (.slice (some ⟨g, 0, none⟩) n cap) zs ∧ zs.take o = ys.take o ∧ zs.length = ys.length) ∧ (∀ w : World, w.heap.size ≤ g → Below w.heap.size w W → Below w.heap.size w (W.setCells g o (List.replicate m (.int .i64 0))))
  | 0, o, W, ys, h, hg => ⟨⟨ys, h, rfl, rfl⟩, fun w hw hb => hb⟩
  | m + 1, o, W, ys, h, hg => by
    have h1 := (Kd.R_putg h (o : Int) 0).1
    rw [Int.toNat_natCast] at h1
    obtain ⟨⟨zs, h2, h3, h4⟩, h5⟩ := R_setCells m (o + 1) (W.setCell ⟨g, o, none⟩ (.int .i64 0)) _ h1 hg
    refine ⟨⟨zs, h2, ?_, by rw [h4, List.length_set]⟩, fun w hw hb => h5 w hw (below_set hb hw)⟩
    have := congrArg (List.take o) h3
    rw [List.take_take, List.take_take, Nat.min_eq_left (by omega), List.take_set_of_le (Nat.le_refl _)] at this
    exact this
theorem zero_int (w : World) : (zeroValue 3).run Tryd.prog w = .ok (.int .i64 0) w := by kernel_rfl
theorem R_any {α : Type} {d : Kd α} {e : Nat} {w : World} {base : Nat} {ok : Nat → Prop} {v : Value} {xs : List α} (h : d.R e w base ok v xs) : ∃ A c, v = .slice A xs.length c := by
  obtain ⟨A, c, e, _⟩ := h.2.slice_
  exact ⟨A, c, e⟩
set_option maxHeartbeats 1600000 in
set_option maxRecDepth 100000 in
theorem deleteFunc_any (xs : List Int) (v : Value) (B : Nat) (A : Option Addr) (n c : Nat) (W0 w : World) (hR : (Kd.int .i64).R 3 w W0.heap.size (fun _ => True) v xs) (hW : Below W0.heap.size W0 w) (hbox : W0.cell? ⟨B, 0, none⟩ = some (.slice A n c)) (hl : xs.length ≤ 17592186044416) :
    Calls Tryd.prog 27 #[v, .func (.func 29) #[] #[.pointer (some ⟨B, 0, none⟩)]] w fun e w' => ∃ v', e = .returned v' ∧ (Kd.int .i64).R 3 w' W0.heap.size (fun _ => True) v' (xs.filter (fun c => !outB n c)) ∧ Below W0.heap.size W0 w' := by
  have HW := Aside0.mk hW
  have HR := Aside0.mk hR
  obtain ⟨A1, cap, rfl⟩ := R_any hR
  have hC := (Kd.R_reads' hR).2.2
  have hcap := (Kd.R_reads' hR).2.1
  have hb1 : w.cell? ⟨B, 0, none⟩ = some (.slice A n c) := (hW.cell (World.block_lt_of_cell? _ _ hbox)).trans hbox
  have hI := idx_any xs A1 cap B A n c w hC hb1 (by omega)
  clear hW hR hC
  rcases first_range n xs with hf | ⟨i, hf⟩
  · rw [hf] at hI
    have hd := Aside0.mk (del_none (n := n) (xs := xs) (by rw [hf]; decide))
    clear hf
    have HI := Aside0.mk hI
    clear hI
    go_enter Tryd.func27, Tryd.ntmps27
    go_wp2_with (go_at_call 39; refine HI.out.mono ?_; rintro e w' ⟨rfl, ⟨nd, rfl⟩⟩)
    go_ret
    exact ⟨_, rfl, by rw [hd.out]; exact Kd.R_drewN HR.out _, pw_below_drewN HW.out _⟩
  · rw [hf] at hI
    obtain ⟨hi, hD⟩ := del_start hf
    have HD := Aside0.mk hD
    have HI := Aside0.mk hI
    clear hf hI hD
    have htest : ((i : Int) == -1) = false := by rw [beq_eq_false_iff_ne]; omega
    obtain ⟨g, cap', e1, hg, _, _⟩ := Kd.R_form HR.out (by omega)
    injection e1 with e1 _ e2
    subst e1; subst e2
    go_enter Tryd.func27, Tryd.ntmps27
    go_wp2_with (go_at_call 39; refine HI.out.mono ?_; rintro e w' ⟨rfl, ⟨nd, rfl⟩⟩)
    go_loopw [5, 6] (fun v5 v6 wr => ∃ (i j : Nat) (ys : List Int), v5 = .int .i64 i ∧ v6 = .int .i64 j ∧ Aside0 (DelInv n xs ys i j) ∧ Aside0 ((Kd.int .i64).R 3 wr W0.heap.size (fun _ => True) (.slice (some ⟨g, 0, none⟩) xs.length cap) ys) ∧ Aside0 (Below W0.heap.size W0 wr)) (fun _ v6 _ => xs.length - (intOf v6).toNat)
    case atStart => exact ⟨i, i + 1, xs, rfl, by go_num, HD, ⟨Kd.R_drewN HR.out _⟩, ⟨pw_below_drewN HW.out _⟩⟩
    case round =>
      clear HD HI HR HW hb1 hi htest
      obtain ⟨i, j, ys, rfl, rfl, HD, HR, HW⟩ := hrel
      have hij : i < j := HD.out.2.1
      have hjn : j ≤ xs.length := HD.out.2.2.1
      have hlen : ys.length = xs.length := HD.out.1
      have hb1 : wr.cell? ⟨B, 0, none⟩ = some (.slice A n c) := (HW.out.cell (World.block_lt_of_cell? _ _ hbox)).trans hbox
      have HLEN := Aside0.mk hlen
      by_cases hlt : j < xs.length
      · have ht : decide ((j : Int) < (xs.length : Int)) = true := decide_eq_true (by omega)
        obtain ⟨hx, _⟩ := Kd.R_celln 0 HR.out (j : Int) (by omega) (by omega)
        obtain ⟨hx2, hf2⟩ := Kd.R_celln 0 HR.out (i : Int) (by omega) (by omega)
        have hrd : rdOf 0 ys (j : Int) = xs[j] := del_get HD.out hlt
        rw [hrd] at hx
        rw [Int.toNat_natCast] at hx hx2 hf2
        clear hrd hlen
        generalize hy : xs[j] = y at hx
        have HY := Aside0.mk hy
        clear hy
        cases hp : outB n y with
        | true =>
          have HP := Aside0.mk hp
          clear hp
          go_wp2_with (go_at_call 29; refine (pick1 _ B A n c wr hb1).mono ?_; rw [HP.out]; rintro e w' ⟨rfl, ⟨nd, rfl⟩⟩)
          go_roundw
          case rel => exact ⟨i, j + 1, ys, rfl, by go_num, ⟨del_drop HD.out hlt (by rw [HY.out]; exact HP.out)⟩, ⟨Kd.R_drewN HR.out _⟩, ⟨pw_below_drewN HW.out _⟩⟩
          case measure => simp [intOf]; omega
        | false =>
          have HP := Aside0.mk hp
          clear hp
          have hput := Kd.R_putg HR.out (i : Int) y
          rw [Int.toNat_natCast] at hput
          have HPUT := Aside0.mk hput
          clear hput
          go_wp2_with (go_at_call 29; refine (pick1 _ B A n c wr hb1).mono ?_; rw [HP.out]; rintro e w' ⟨rfl, ⟨nd, rfl⟩⟩)
          go_roundw
          case rel =>
            refine ⟨i + 1, j + 1, ys.set i y, by go_num, by go_num, ⟨by have := del_keep HD.out hlt (by rw [HY.out]; exact HP.out); rw [HY.out] at this; exact this⟩, ⟨?_⟩, ⟨?_⟩⟩
            · exact Kd.R_drewN HPUT.out.1 nd
            · exact below_set (pw_below_drewN HW.out _) hg
          case measure => simp [intOf]; omega
      · have ht : decide ((j : Int) < (xs.length : Int)) = false := decide_eq_false (by omega)
        obtain rfl : j = xs.length := by omega
        have hci : ¬ cap = i := by omega
        have hcl : ∀ ty, (Builtin.clear_ #[23] ty #[.slice (some ⟨g, i, none⟩) (xs.length - i) (cap - i)]).run Tryd.prog wr = .ok (.tuple #[]) (wr.setCells g i (List.replicate (xs.length - i) (.int .i64 0))) := fun ty =>
          Lib.run_clear_slice wr 23 3 ty (.int .i64 0) Tryd.underlying23 zero_int rfl rfl g i (xs.length - i) (cap - i) (by omega)
            (fun j hj => by obtain ⟨hx, _⟩ := Kd.R_celln 0 HR.out ((i + j : Nat) : Int) (by omega) (by omega); rw [Int.toNat_natCast] at hx; rw [hx]; rfl)
            (fun j hj => by obtain ⟨_, hx⟩ := Kd.R_celln 0 HR.out ((i + j : Nat) : Int) (by omega) (by omega); rw [Int.toNat_natCast] at hx; exact hx)
        obtain ⟨⟨zs, hz1, hz2, hz3⟩, hz4⟩ := R_setCells (xs.length - i) i wr ys HR.out hg
        have hfin : (Kd.int .i64).R 3 (wr.setCells g i (List.replicate (xs.length - i) (.int .i64 0))) W0.heap.size (fun _ => True) (.slice (some ⟨g, 0, none⟩) i cap) (xs.filter (fun c => !outB n c)) := by
          have := Kd.R_take hz1 (m := i) (by omega)
          rw [hz2, HD.out.2.2.2.1, List.take_length] at this
          exact this
        have HF := Aside0.mk hfin
        have HF2 := Aside0.mk (hz4 W0 hg HW.out)
        clear hz1 hz2 hz3 hz4 hfin hlen
        go_wp2
        go_ret
        exact ⟨_, rfl, HF.out, HF2.out⟩

/-! ### slices.Clone -/
theorem infoI : (Tryd.prog.info? 3).map (fun i => (i.zero, i.size, i.bytes)) = some (some (.int .i64 0), 1, 8) := by kernel_rfl
theorem infoV : (Tryd.prog.info? 38).map (fun i => (i.zero, i.size, i.bytes)) = some (some (.agg #[(.int .i64 0), (.int .i64 0), (.string ⟨#[]⟩)]), 3, 32) := by kernel_rfl
set_option maxHeartbeats 800000 in
set_option maxRecDepth 100000 in
theorem clone_any (xs : List Int) (A : Option Addr) (c : Nat) (w : World) (hC : Kd.C (Kd.int .i64) w A xs.length xs) (hl : xs.length ≤ 17592186044416) :
    Calls Tryd.prog 28 #[.slice A xs.length c] w fun e w' => ∃ v', e = .returned v' ∧ (Kd.int .i64).R 3 w' w.heap.size (fun _ => True) v' xs ∧ Below w.heap.size w w' := by
  cases A with
  | none =>
    have h0 : xs = [] := by
      rcases xs with _ | ⟨x, xs⟩
      · rfl
      · obtain ⟨ad, e, _⟩ := Kd.at_int hC 0 (by omega) (by simp)
        cases e
    subst h0
    refine (Tryd.slices_Clone_int_nil 0 c w).mono ?_
    rintro e w' ⟨rfl, rfl⟩
    exact ⟨_, rfl, Kd.R_nil _ _ _ _ _, Below.refl _ _⟩
  | some ad =>
    have HC := Aside0.mk hC
    clear hC
    have heq := fun W => Lib.run_eql_slice_nil (P := Tryd.prog) W 23 3 (some ad) xs.length c 0 0 Tryd.underlying23
    simp only [Option.isNone_some] at heq
    go_enter Tryd.func28, Tryd.ntmps28
    go_wp2_with (first
      | ((with_reducible refine gate_dst (N := 5) rfl ?_); refine Kd.R_lit (Kd.int .i64) _ 3 ?hg (N := 5) ?hd (xs := ([] : List Int)) (inner := []) (ok := fun _ => True) (okp := fun _ => True) ?hr ?hp (fun _ hk => hk) trivial (Below.refl _ _) (Nat.le_refl _) (by simp) ?_; (case hd => rfl); (case hg => rfl); (case hr => first | (go_simp; done) | (go_simp; rfl)); (case hp => exact (Reps.none _ _)); intro v5 w5 ho5 hb5 hg5 hn5; have HO := Aside0.mk ho5; have HB := Aside0.mk hb5; clear ho5 hb5 hg5 hn5)
      | ((with_reducible refine gate_builtin (b := .append) (xs := #[.tmp 5, .tmp 6]) rfl ?_); at_builtin; refine Kd.R_append_rows (Kd.int .i64) (w0 := w) w.heap.size rfl (.tmp 5) (.tmp 6) 23 3 (.int .i64 0) 8 rfl Tryd.underlying23 infoI rfl (by decide) (by omega) v5 [] xs _ _ _ (fun _ => True) (fun _ => False) rfl rfl HO.out (Kd.C_below HC.out HB.out) (fun _ _ h => h) (fun _ h => h.elim) (fun _ _ => trivial) HB.out HB.out.size (by simp; omega) ?_; intro v1 w1 ho1 hb1 hg1 hat1; have HO1 := Aside0.mk ho1; have HB1 := Aside0.mk hb1; clear ho1 hb1 hg1 hat1))
    go_ret
    exact ⟨_, rfl, HO1.out, HB1.out⟩

/-! ### mapped, with Pick's second closure -/
set_option maxHeartbeats 800000 in
set_option maxRecDepth 100000 in
theorem pick2 (l0 : List S38) (A : Option Addr) (cap : Nat) (c : Int) (B : Nat) (w : World) (hbox : w.cell? ⟨B, 0, none⟩ = some (.slice A l0.length cap)) (hC : Kd.C k38 w A l0.length l0) (h0 : 0 ≤ c) (h1 : c < l0.length) :
    Calls Tryd.prog 31 #[.int .i64 c, .pointer (some ⟨B, 0, none⟩)] w fun e w' => e = .returned (.agg #[.int .i64 (rd_T38 l0 c).f0, .int .i64 (rd_T38 l0 c).f1, .string (rd_T38 l0 c).f2]) ∧ Below w.heap.size w w' := by
  obtain ⟨ad, e, hx0, hx1, hx2⟩ := at_T38 hC c h0 h1
  cases e
  clear hC
  have kb := fun o => Lib.cell?_alloc_some o hbox
  have k0 := fun o => Lib.cell?_alloc_some o hx0
  have k1 := fun o => Lib.cell?_alloc_some o hx1
  have k2 := fun o => Lib.cell?_alloc_some o hx2
  go_enter Tryd.func31, Tryd.ntmps31
  go_wp2
  exact bodyPost_ret (v := .agg #[.int .i64 (rd_T38 l0 c).f0, .int .i64 (rd_T38 l0 c).f1, .string (rd_T38 l0 c).f2]) (by simp [results, Tryd.results31, go_sem]) rfl ⟨rfl, by
    repeat (first | exact Below.refl _ _ | exact (Below.refl _ _).alloc (Nat.le_refl _) _ | refine below_set ?_ (Nat.le_refl _))⟩

theorem rd_at (ys : List Int) (j : Nat) (h : j < ys.length) : rd ys (j : Int) = ys[j] := by simp [rd, List.getD, h]
set_option maxHeartbeats 1600000 in
set_option maxRecDepth 100000 in
theorem mappedPick_any (l0 : List S38) (A0 : Option Addr) (cap0 : Nat) (ys : List Int) (A1 : Option Addr) (cap1 : Nat) (B : Nat) (w : World) (hC0 : Kd.C k38 w A0 l0.length l0) (hbox : w.cell? ⟨B, 0, none⟩ = some (.slice A0 l0.length cap0))
    (hC : Kd.C (Kd.int .i64) w A1 ys.length ys) (hin : ∀ y ∈ ys, outB l0.length y = false) (hl : ys.length ≤ 4398046511103) :
    Calls Tryd.prog 30 #[.slice A1 ys.length cap1, .func (.func 31) #[] #[.pointer (some ⟨B, 0, none⟩)]] w fun e w' => ∃ v', e = .returned v' ∧ Kd.R k38 38 w' w.heap.size (fun _ => True) v' (ys.map (rd_T38 l0)) ∧ Below w.heap.size w w' := by
  have HC := Aside0.mk hC
  have HC0 := Aside0.mk hC0
  have HIN := Aside0.mk hin
  clear hC hC0 hin
  obtain ⟨i0, hi, hz0, hz1, hz2⟩ := info_parts infoV
  obtain ⟨wm, hmk, hown, hgr⟩ := run_make_own (P := Tryd.prog) w w.heap.size 22 38 i0 _ 3 Tryd.underlying22 hi hz0 hz1 .i64 .i64 ys.length (by rw [hz2]; omega) (by unfold maxLen; omega) (Nat.le_refl _)
  have HOWN : Aside0 (Kd.R k38 38 wm w.heap.size (fun _ => True) (.slice (some ⟨w.heap.size, 0, none⟩) 0 ys.length) []) := ⟨⟨fun _ _ => trivial, [], hown, Reps.none _ _⟩⟩
  have HBM : Aside0 (Below w.heap.size w wm) := ⟨(Below.refl w.heap.size w).grown hgr (Nat.le_refl _) (fun k h => by cases h)⟩
  clear hi hz0 hz1 hz2 hown hgr
  go_enter Tryd.func30, Tryd.ntmps30
  go_wp2
  go_loopw [5, 13] (fun v5 v13 wr => ∃ (j : Nat), j ≤ ys.length ∧ v13 = .int .i64 j ∧ Aside0 (Kd.R k38 38 wr w.heap.size (fun _ => True) v5 ((ys.take j).map (rd_T38 l0))) ∧ Aside0 (Below w.heap.size w wr)) (fun _ v13 _ => ys.length - (intOf v13).toNat)
  case atStart => exact ⟨0, Nat.zero_le _, rfl, HOWN, HBM⟩
  case round =>
    clear hmk HOWN HBM
    obtain ⟨j, hj, rfl, HO, HB⟩ := hrel
    by_cases hlt : j < ys.length
    · have ht : decide ((j : Int) < (ys.length : Int)) = true := decide_eq_true (by omega)
      obtain ⟨ad, e, hx⟩ := Kd.at_int HC.out (j : Int) (by omega) (by omega)
      subst e
      rw [Int.toNat_natCast, rd_at ys j hlt] at hx
      have hy0 := HIN.out ys[j] (List.getElem_mem hlt)
      have htk : (ys.take j).map (rd_T38 l0) ++ [rd_T38 l0 ys[j]] = (ys.take (j + 1)).map (rd_T38 l0) := by
        rw [List.take_succ_eq_append_getElem hlt, List.map_append]; rfl
      generalize hy : ys[j] = y at hx hy0 htk
      clear hy
      have hr0 : 0 ≤ y ∧ y < l0.length := by
        unfold outB at hy0
        simp only [Bool.or_eq_false_iff, decide_eq_false_iff_not] at hy0
        omega
      replace hx := (HB.out.cell (World.block_lt_of_cell? w _ hx)).trans hx
      have hb1 : wr.cell? ⟨B, 0, none⟩ = some (.slice A0 l0.length cap0) := (HB.out.cell (World.block_lt_of_cell? _ _ hbox)).trans hbox
      have hP := pick2 l0 A0 cap0 y B wr hb1 (Kd.C_below HC0.out HB.out) hr0.1 hr0.2
      have HP := Aside0.mk hP
      have HTK := Aside0.mk htk
      clear hP htk hb1 hr0 hy0
      generalize hq : rd_T38 l0 y = q at *
      go_wp2_with (first
        | (go_at_call 31; refine HP.out.mono ?_; rintro e w1 ⟨rfl, hb1⟩; have HB1 := Aside0.mk (below_then HB.out HB.out.size hb1); have HO1 := Aside0.mk (Kd.R_below HO.out hb1); clear hb1)
        | ((with_reducible refine gate_builtin (b := .append) (xs := #[.tmp 17, .tmp 21]) rfl ?_); at_builtin; refine Kd.R_append k38 (w0 := w) w.heap.size rfl (.tmp 17) (.tmp 21) 22 38 (.agg #[(.int .i64 0), (.int .i64 0), (.string ⟨#[]⟩)]) 32 rfl Tryd.underlying22 infoV rfl (by decide) (by omega) u5 ((ys.take j).map (rd_T38 l0)) q [.int .i64 q.f0, .int .i64 q.f1, .string q.f2] (fun _ => True) (fun _ => False) rfl rfl (k38_mkM _ _ _ q) (fun _ hk => hk.elim) (fun _ _ => trivial) HO1.out HB1.out HB1.out.size (by rw [List.length_map, List.length_take]; omega) ?_; intro v1 w2 ho hb hg hat; have HO2 := Aside0.mk ho; have HB2 := Aside0.mk hb; clear ho hb hg hat))
      go_roundw
      case rel => exact ⟨j + 1, by omega, by go_num, ⟨by rw [← HTK.out]; exact HO2.out⟩, HB2⟩
      case measure => simp [intOf]; omega
    · have ht : decide ((j : Int) < (ys.length : Int)) = false := decide_eq_false (by omega)
      obtain rfl : j = ys.length := by omega
      go_wp2
      go_ret
      have h := HO.out
      rw [List.take_length] at h
      exact ⟨_, rfl, h, HB.out⟩

/-! ### tuple.Pick -/
def tuple_Pick.f (l0 : List S38) (l1 : List Int) : Option (List S38) := if l1.length ≤ 4398046511103 then some ((l1.filter (fun c => !outB l0.length c)).map (rd_T38 l0)) else none
set_option maxHeartbeats 1600000 in
set_option maxRecDepth 100000 in
theorem tuple_Pick.calls (A0 : Option Addr) (c0 : Nat) (l0 : List S38) (A1 : Option Addr) (c1 : Nat) (l1 : List Int) (r : List S38) (w : World) (hr0 : Kd.C k38 w A0 l0.length l0) (hc0 : l0.length ≤ c0) (hr1 : Kd.C (Kd.int .i64) w A1 l1.length l1) (hc1 : l1.length ≤ c1) (h : tuple_Pick.f l0 l1 = some r) :
    Calls Tryd.prog 17 #[.slice A0 l0.length c0, .slice A1 l1.length c1] w fun e w' => ∃ v0_ : Value, e = .returned (v0_) ∧ Kd.R k38 38 w' w.heap.size (fun _ => True) v0_ r ∧ Below w.heap.size w w' := by
  unfold tuple_Pick.f at h
  split at h
  · rename_i hlen
    obtain rfl := Option.some.inj h
    clear h hc0 hc1
    have hA : Below w.heap.size w (w.alloc (.cells #[.slice A0 l0.length c0] 22)) := (Below.refl _ _).alloc (Nat.le_refl _) _
    have HA := Aside0.mk hA
    have HR0 := Aside0.mk (Kd.C_below hr0 hA)
    have HR1 := Aside0.mk (Kd.C_below hr1 hA)
    have HBOX : Aside0 ((w.alloc (.cells #[.slice A0 l0.length c0] 22)).cell? ⟨w.heap.size, 0, none⟩ = some (.slice A0 l0.length c0)) := ⟨by rw [World.cell?_alloc_new]; rfl⟩
    have hfl : (l1.filter (fun c => !outB l0.length c)).length ≤ l1.length := List.length_filter_le _ _
    have HFL := Aside0.mk hfl
    have HLEN := Aside0.mk hlen
    clear hA hr0 hr1 hfl hlen
    obtain ⟨W1, hW1⟩ : ∃ W1, W1 = w.alloc (.cells #[.slice A0 l0.length c0] 22) := ⟨_, rfl⟩
    rw [← hW1] at HA HR0 HR1 HBOX
    have HW1 := Aside0.mk hW1
    clear hW1
    go_enter Tryd.func17, Tryd.ntmps17
    go_wp2_with fail
    rw [← HW1.out]
    refine (clone_any l1 A1 c1 W1 HR1.out (by have := HLEN.out; omega)).mono ?_
    rintro e w2 ⟨v2, rfl, ho2, hb2⟩
    have HO2 := Aside0.mk ho2
    have HB2 := Aside0.mk hb2
    clear ho2 hb2
    go_wp2_with fail
    refine (deleteFunc_any l1 v2 w.heap.size A0 l0.length c0 W1 w2 HO2.out HB2.out HBOX.out (by have := HLEN.out; omega)).mono ?_
    rintro e w3 ⟨v3, rfl, ho3, hb3⟩
    obtain ⟨A3, cap3, hv3⟩ := R_any ho3
    rw [hv3] at ho3 ⊢
    have HO3 := Aside0.mk ho3
    have HB3 := Aside0.mk hb3
    clear ho3 hb3 hv3 HO2 HB2
    go_wp2_with fail
    refine (mappedPick_any l0 A0 c0 _ A3 cap3 w.heap.size w3 (Kd.C_below HR0.out HB3.out) ((HB3.out.cell (World.block_lt_of_cell? _ _ HBOX.out)).trans HBOX.out) (Kd.R_reads' HO3.out).2.2 (fun y hy => by have := (List.mem_filter.1 hy).2; simpa using this) (by have h1 := HLEN.out; have h2 := HFL.out; omega)).mono ?_
    rintro e w4 ⟨v4, rfl, ho4, hb4⟩
    have HB4 := Aside0.mk (below_then HB3.out HB3.out.size hb4)
    have HO4 := Aside0.mk (Kd.R_lower ho4 (Nat.le_trans HA.out.size HB3.out.size))
    clear ho4 hb4
    go_wp2
    go_ret
    exact ⟨_, rfl, HO4.out, below_then HA.out HA.out.size HB4.out⟩
  · cases h
end Go.Proofs.YtepgdjbjcnolnaaDoor.X
