/-
  value.Read: strconv.ParseUint at base 16, strconv.ParseInt at base 10, and what is read, in plain Lean and in the code.
-/
import Derived.Test.YtklpbdmmmloejaaDoorXtU
import Derived.Test.YtklpbdmmmloejaaDoorXtT
import Derived.Lib.ParseIntBTie
namespace Go.Proofs.YtklpbdmmmloejaaDoor.X
set_option linter.unusedVariables false
set_option linter.unusedSimpArgs false
open Go.RowKit Go.Proofs.YtklpbdmmmloejaaDoorW.PrintWords Go.Proofs.YtklpbdmmmloejaaDoorW.PrintLast Go.Proofs.YtklpbdmmmloejaaDoorW.PrintMore

/-- the number that ParseUint hands back at base 16. -/
def num16 (l : List UInt8) : Nat := match (if l = [] then .syntax else parse16 0 l) with
  | .ok n => n
  | .syntax => 0
  | .range => 18446744073709551615
def IsErr (v : Value) : Prop := ∃ tp p, v = .iface tp p
theorem cellSyn {w : World} (h : LaidW w) : ∃ tp p, w.cell? ⟨2, 0, none⟩ = some (.iface tp p) := by
  obtain ⟨tp, p, hv⟩ := h.eSyn
  exact ⟨tp, p, by have := World.var?_cell gSyn hv 0; simpa using this⟩
theorem cellRan {w : World} (h : LaidW w) : ∃ tp p, w.cell? ⟨3, 0, none⟩ = some (.iface tp p) := by
  obtain ⟨tp, p, hv⟩ := h.eRan
  exact ⟨tp, p, by have := World.var?_cell gRan hv 0; simpa using this⟩
theorem ba_zero {s : ByteArray} (h : s.size = 0) : s = ⟨#[]⟩ := by
  obtain ⟨⟨l⟩⟩ := s
  cases l with
  | nil => rfl
  | cons _ _ => simp [ByteArray.size] at h
theorem internalUint16 (s : ByteArray) (hs : s.size ≤ 281474976710656) (w : World) :
    Calls Tryd.prog 49 #[.string s, .int .i64 16, .int .i64 64] w fun e w' => e = .returned (Lib.uintTuple 88 (if s.data.toList = [] then .syntax else parse16 0 s.data.toList)) ∧ Below w.heap.size w w' := by
  by_cases h0 : s.size = 0
  · obtain rfl := ba_zero h0
    refine (Tryd.internal_strconv_ParseUint_empty 16 64 w).mono ?_
    rintro e w' ⟨rfl, rfl⟩
    exact ⟨rfl, Below.refl _ _⟩
  · refine (internal_ParseUint16 s h0 (by omega) w).mono ?_
    rintro e w' ⟨rfl, rfl⟩
    rw [if_neg (fun h => h0 (by rw [Lib.size_eq, h]; rfl))]
    exact ⟨rfl, Lib.bytesWorld_below _ _ _⟩
set_option maxHeartbeats 1600000 in
set_option maxRecDepth 100000 in
theorem parseUint16 (s : ByteArray) (hs : s.size ≤ 281474976710656) (w : World) (hLW : LaidW w) :
    Calls Tryd.prog 34 #[.string s, .int .i64 16, .int .i64 64] w fun e w' => ∃ er, e = .returned (.tuple #[.int .u64 (num16 s.data.toList : Int), er]) ∧ Below w.heap.size w w' := by
  have HU := Aside0.mk (internalUint16 s hs w)
  have HLW := Aside0.mk hLW
  have HS := Aside0.mk hs
  clear hLW hs
  unfold num16
  cases hE : (if s.data.toList = [] then Lib.NumEnd.syntax else parse16 0 s.data.toList) with
  | ok n =>
    rw [hE] at HU
    have HU' : Aside0 (Calls Tryd.prog 49 #[.string s, .int .i64 16, .int .i64 64] w fun e w' => e = .returned (.tuple #[.int .u64 (n : Int), .nilIface]) ∧ Below w.heap.size w w') := HU
    clear HU hE
    go_enter Tryd.func34, Tryd.ntmps34
    go_wp2_with fail
    refine HU'.out.mono ?_
    rintro e w1 ⟨rfl, hb⟩
    have HB := Aside0.mk hb
    clear hb
    go_wp2
    go_ret2
    exact ⟨_, rfl, HB.out⟩
  | «syntax» =>
    rw [hE] at HU
    have HU' : Aside0 (Calls Tryd.prog 49 #[.string s, .int .i64 16, .int .i64 64] w fun e w' => e = .returned (.tuple #[.int .u64 0, .iface 88 (.int .i64 2)]) ∧ Below w.heap.size w w') := HU
    clear HU hE
    go_enter Tryd.func34, Tryd.ntmps34
    go_wp2_with fail
    refine HU'.out.mono ?_
    rintro e w1 ⟨rfl, hb⟩
    have HB := Aside0.mk hb
    clear hb
    go_wp2_with fail
    obtain ⟨tp, p, hc⟩ := cellSyn (HLW.out.below HB.out)
    refine (Tryd.strconv_toError_syntax _ s 16 64 _ w1 HS.out hc (Or.inr ⟨tp, p, rfl⟩)).mono ?_
    rintro e w2 ⟨N, rfl, -, -, hb⟩
    have HB2 := Aside0.mk (below_then HB.out HB.out.size hb)
    clear hb
    go_wp2
    go_ret2
    exact ⟨_, rfl, HB2.out⟩
  | range =>
    rw [hE] at HU
    have HU' : Aside0 (Calls Tryd.prog 49 #[.string s, .int .i64 16, .int .i64 64] w fun e w' => e = .returned (.tuple #[.int .u64 18446744073709551615, .iface 88 (.int .i64 1)]) ∧ Below w.heap.size w w') := HU
    clear HU hE
    go_enter Tryd.func34, Tryd.ntmps34
    go_wp2_with fail
    refine HU'.out.mono ?_
    rintro e w1 ⟨rfl, hb⟩
    have HB := Aside0.mk hb
    clear hb
    go_wp2_with fail
    obtain ⟨tp, p, hc⟩ := cellRan (HLW.out.below HB.out)
    refine (Tryd.strconv_toError_range _ s 16 64 _ w1 HS.out hc (Or.inr ⟨tp, p, rfl⟩)).mono ?_
    rintro e w2 ⟨N, rfl, -, -, hb⟩
    have HB2 := Aside0.mk (below_then HB.out HB.out.size hb)
    clear hb
    go_wp2
    go_ret2
    exact ⟨_, rfl, HB2.out⟩
/-- ParseInt at base 10: the number, or an error. -/
theorem parseInt10 (s : ByteArray) (hs : s.size ≤ 281474976710656) (w : World) (hLW : LaidW w) :
    Calls Tryd.prog 35 #[.string s, .int .i64 10, .int .i64 64] w fun e w' => ∃ n er, e = .returned (.tuple #[.int .i64 n, er]) ∧ ((∃ v, Lib.parseIntB 64 s.data.toList = .ok v ∧ n = v ∧ er = .nilIface) ∨ ((∀ v, Lib.parseIntB 64 s.data.toList ≠ .ok v) ∧ IsErr er)) ∧ Below w.heap.size w w' := by
  cases hE : Lib.parseIntB 64 s.data.toList with
  | ok v =>
    refine (Tryd.strconv_ParseInt_10_at64_ok s (by omega) v hE w).mono ?_
    rintro e w' ⟨rfl, hw⟩
    refine ⟨_, _, rfl, Or.inl ⟨v, rfl, rfl, rfl⟩, ?_⟩
    rcases hw with rfl | ⟨t, rfl⟩
    · exact Below.refl _ _
    · exact Lib.bytesWorld_below _ _ _
  | «syntax» =>
    obtain ⟨tp, p, hv⟩ := hLW.eSyn
    refine (Tryd.strconv_ParseInt_10_at64_syntax_var s hs hE tp p w hv).mono ?_
    rintro e w' ⟨N, rfl, -, -, hb⟩
    exact ⟨_, _, rfl, Or.inr ⟨(fun v h => by cases h), ⟨_, _, rfl⟩⟩, hb⟩
  | range =>
    obtain ⟨tp, p, hv⟩ := hLW.eRan
    refine (Tryd.strconv_ParseInt_10_at64_range_var s hs hE tp p w hv).mono ?_
    rintro e w' ⟨N, rfl, -, -, hb⟩
    exact ⟨_, _, rfl, Or.inr ⟨(fun v h => by cases h), ⟨_, _, rfl⟩⟩, hb⟩
/-! ### value.Read -/
def candR (t : ByteArray) : Int × Int × ByteArray :=
  if Lib.hasPrefix t.data.toList [35] = true then (2, wrap64 (num16 (Lib.trimPrefix t.data.toList [35])), ⟨#[]⟩)
  else match Lib.parseIntB 64 t.data.toList with
    | .ok n => (1, n, ⟨#[]⟩)
    | _ => (3, 0, t)
def readR (t : ByteArray) : Int × Int × ByteArray × Int :=
  if t.size = 0 ∨ textL (candR t).1 (candR t).2.1 (candR t).2.2 ≠ t.data.toList then (0, 0, ⟨#[]⟩, 2) else ((candR t).1, (candR t).2.1, (candR t).2.2, 0)
def value_Read.f (a0 : ByteArray) : Option (Int × Int × ByteArray × Int) := if a0.size ≤ 281474976710656 then some (readR a0) else none
theorem below_two (w : World) (a b : Obj) : Below w.heap.size w ((w.alloc a).alloc b) := ((Below.refl _ _).alloc (Nat.le_refl _) a).alloc (by simp) b
theorem two_1 (w : World) (a b : Array Value) (t u : TypeId) : ((w.alloc (.cells a t)).alloc (.cells b u)).heap[w.heap.size + 1]? = some (.cells b u (0, 0)) := by
  have := blk_new (w.alloc (.cells a t)) (.cells b u)
  rwa [show (w.alloc (.cells a t)).heap.size = w.heap.size + 1 from Array.size_push ..] at this
theorem two_0 (w : World) (a b : Array Value) (t u : TypeId) : ((w.alloc (.cells a t)).alloc (.cells b u)).heap[w.heap.size]? = some (.cells a t (0, 0)) := blk_alloc (blk_new w _) _
theorem trim_le (t : ByteArray) : (⟨(Lib.trimPrefix t.data.toList [35]).toArray⟩ : ByteArray).size ≤ t.size := by
  rw [Lib.size_eq, Lib.size_eq t, List.toList_toArray]
  unfold Lib.trimPrefix
  split
  · rw [List.length_drop]; omega
  · exact Nat.le_refl _
theorem int_ok (t : ByteArray) (hs : t.size ≤ 281474976710656) (w : World) (n : Int) (hn : Lib.parseIntB 64 t.data.toList = .ok n) :
    Calls Tryd.prog 35 #[.string t, .int .i64 10, .int .i64 64] w fun e w' => e = .returned (.tuple #[.int .i64 n, .nilIface]) ∧ Below w.heap.size w w' := by
  refine (Tryd.strconv_ParseInt_10_at64_ok t (by omega) n hn w).mono ?_
  rintro e w' ⟨rfl, hw⟩
  refine ⟨rfl, ?_⟩
  rcases hw with rfl | ⟨t, rfl⟩
  · exact Below.refl _ _
  · exact Lib.bytesWorld_below _ _ _
theorem int_err (t : ByteArray) (hs : t.size ≤ 281474976710656) (w : World) (hLW : LaidW w) (hn : ∀ n, Lib.parseIntB 64 t.data.toList ≠ .ok n) :
    Calls Tryd.prog 35 #[.string t, .int .i64 10, .int .i64 64] w fun e w' => ∃ m tp p, e = .returned (.tuple #[.int .i64 m, .iface tp p]) ∧ Below w.heap.size w w' := by
  refine (parseInt10 t hs w hLW).mono ?_
  rintro e w' ⟨m, er, rfl, h | ⟨h, tp, p, rfl⟩, hb⟩
  · obtain ⟨v, hv, _⟩ := h
    exact absurd hv (hn v)
  · exact ⟨m, tp, p, rfl, hb⟩
set_option maxHeartbeats 1600000 in
set_option maxRecDepth 100000 in
theorem read_hash (t : ByteArray) (hs : t.size ≤ 281474976710656) (w : World) (hLW0 : LaidW w) (hp : Lib.hasPrefix t.data.toList [35] = true) (h0 : t.size ≠ 0) :
    Calls Tryd.prog 19 #[.string t] w fun e w' => e = .returned (.tuple #[.agg #[.int .i64 (readR t).1, .int .i64 (readR t).2.1, .string (readR t).2.2.1], .int .i64 (readR t).2.2.2]) ∧ Below w.heap.size w w' := by
  have hemp : t.toList.isEmpty = false := by
    rw [← decide_eq_emptyBytes]
    exact decide_eq_false (fun h => h0 (by rw [h]; rfl))
  have HLW := Aside0.mk hLW0
  clear hLW0
  have hcut := Tryd.strings_CutPrefix t ⟨#[35]⟩
  rw [show (⟨#[35]⟩ : ByteArray).data.toList = [35] from rfl, hp] at hcut
  have HC := Aside0.mk hcut
  clear hcut
  have hcand : candR t = (2, wrap64 (num16 (Lib.trimPrefix t.data.toList [35]) : Int), ⟨#[]⟩) := by unfold candR; rw [if_pos hp]
  have HR : Aside0 (-9223372036854775808 ≤ wrap64 (num16 (Lib.trimPrefix t.data.toList [35]) : Int) ∧ wrap64 (num16 (Lib.trimPrefix t.data.toList [35]) : Int) ≤ 9223372036854775807) := ⟨by unfold wrap64; omega⟩
  clear hp
  go_enter Tryd.func19, Tryd.ntmps19
  go_wp2_with fail
  refine (HC.out _).mono ?_
  rintro e w1 ⟨rfl, rfl⟩
  go_wp2_with fail
  have HB0 := Aside0.mk (below_two w (.cells #[.int .i64 0, .int .i64 0, .string ⟨#[]⟩] 23) (.cells #[.int .i64 3, .int .i64 0, .string t] 23))
  have K00 := Aside0.mk (two_0 w #[.int .i64 0, .int .i64 0, .string ⟨#[]⟩] #[.int .i64 3, .int .i64 0, .string t] 23 23)
  have K01 := Aside0.mk (two_1 w #[.int .i64 0, .int .i64 0, .string ⟨#[]⟩] #[.int .i64 3, .int .i64 0, .string t] 23 23)
  refine (parseUint16 _ (by have := trim_le t; omega) _ ((HLW.out.alloc _).alloc _)).mono ?_
  rintro e w1 ⟨er, rfl, hb1⟩
  have K0 := Aside0.mk (blk_below (g := w.heap.size) K00.out hb1)
  have K1 := Aside0.mk (blk_below (g := w.heap.size + 1) K01.out hb1)
  have HB := Aside0.mk (below_then HB0.out HB0.out.size hb1)
  clear hb1 HB0 K00 K01
  have hz0 : w1.cell? ⟨w.heap.size + 1, 0, none⟩ = some (.int .i64 3) := (blk_cell K1.out 0).trans rfl
  have hz1 : w1.cell? ⟨w.heap.size + 1, 1, none⟩ = some (.int .i64 0) := (blk_cell K1.out 1).trans rfl
  have hz2 : w1.cell? ⟨w.heap.size + 1, 2, none⟩ = some (.string t) := (blk_cell K1.out 2).trans rfl
  have hzf0 := blk_frozen K1.out 0
  have hzf1 := blk_frozen K1.out 1
  have hzf2 := blk_frozen K1.out 2
  go_wp2_with fail
  clear hz0 hz1 hz2 hzf0 hzf1 hzf2
  have HBs : Aside0 (Below w.heap.size w (((w1.setCell ⟨w.heap.size + 1, 0, none⟩ (.int .i64 2)).setCell ⟨w.heap.size + 1, 1, none⟩ (.int .i64 (wrap64 (num16 (Lib.trimPrefix t.data.toList [35]) : Int)))).setCell ⟨w.heap.size + 1, 2, none⟩ (.string ⟨#[]⟩))) := ⟨below_set (below_set (below_set HB.out (by omega)) (by omega)) (by omega)⟩
  have K1s : Aside0 ((((w1.setCell ⟨w.heap.size + 1, 0, none⟩ (.int .i64 2)).setCell ⟨w.heap.size + 1, 1, none⟩ (.int .i64 (wrap64 (num16 (Lib.trimPrefix t.data.toList [35]) : Int)))).setCell ⟨w.heap.size + 1, 2, none⟩ (.string ⟨#[]⟩)).heap[w.heap.size + 1]? = some (.cells #[.int .i64 2, .int .i64 (wrap64 (num16 (Lib.trimPrefix t.data.toList [35]) : Int)), .string ⟨#[]⟩] 23 (0, 0))) := ⟨blk_put (cs := #[.int .i64 2, .int .i64 (wrap64 (num16 (Lib.trimPrefix t.data.toList [35]) : Int)), .string t]) (blk_put (cs := #[.int .i64 2, .int .i64 0, .string t]) (blk_put (cs := #[.int .i64 3, .int .i64 0, .string t]) K1.out 0 _ rfl) 1 _ rfl) 2 _ rfl⟩
  have K0s : Aside0 ((((w1.setCell ⟨w.heap.size + 1, 0, none⟩ (.int .i64 2)).setCell ⟨w.heap.size + 1, 1, none⟩ (.int .i64 (wrap64 (num16 (Lib.trimPrefix t.data.toList [35]) : Int)))).setCell ⟨w.heap.size + 1, 2, none⟩ (.string ⟨#[]⟩)).heap[w.heap.size]? = some (.cells #[.int .i64 0, .int .i64 0, .string ⟨#[]⟩] 23 (0, 0))) := ⟨blk_far (blk_far (blk_far K0.out (by show w.heap.size ≠ w.heap.size + 1; omega) _) (by show w.heap.size ≠ w.heap.size + 1; omega) _) (by show w.heap.size ≠ w.heap.size + 1; omega) _⟩
  have HLs := HLW.out.below HBs.out
  refine (value_Text.calls (2) (wrap64 (num16 (Lib.trimPrefix t.data.toList [35]) : Int)) (⟨#[]⟩) _ _ HLs (by unfold value_Text.f; rw [if_pos HR.out])).mono ?_
  rintro e w2 ⟨rfl, hb2⟩
  have K0' := Aside0.mk (blk_below (g := w.heap.size) K0s.out hb2)
  have K1' := Aside0.mk (blk_below (g := w.heap.size + 1) K1s.out hb2)
  have HB2 := Aside0.mk (below_then HBs.out HBs.out.size hb2)
  clear hb2 HBs K0s K1s HLs
  have ha0 : w2.cell? ⟨w.heap.size, 0, none⟩ = some (.int .i64 0) := (blk_cell K0'.out 0).trans rfl
  have ha1 : w2.cell? ⟨w.heap.size, 1, none⟩ = some (.int .i64 0) := (blk_cell K0'.out 1).trans rfl
  have ha2 : w2.cell? ⟨w.heap.size, 2, none⟩ = some (.string ⟨#[]⟩) := (blk_cell K0'.out 2).trans rfl
  have haf0 := blk_frozen K0'.out 0
  have haf1 := blk_frozen K0'.out 1
  have haf2 := blk_frozen K0'.out 2
  have hb0 : w2.cell? ⟨w.heap.size + 1, 0, none⟩ = some (.int .i64 2) := (blk_cell K1'.out 0).trans rfl
  have hb1 : w2.cell? ⟨w.heap.size + 1, 1, none⟩ = some (.int .i64 (wrap64 (num16 (Lib.trimPrefix t.data.toList [35]) : Int))) := (blk_cell K1'.out 1).trans rfl
  have hb2 : w2.cell? ⟨w.heap.size + 1, 2, none⟩ = some (.string ⟨#[]⟩) := (blk_cell K1'.out 2).trans rfl
  have hbf0 := blk_frozen K1'.out 0
  have hbf1 := blk_frozen K1'.out 1
  have hbf2 := blk_frozen K1'.out 2
  have hn1 : w.heap.size ≠ w.heap.size + 1 := by omega
  have hn2 : w.heap.size + 1 ≠ w.heap.size := by omega
  by_cases hT : textL (2) (wrap64 (num16 (Lib.trimPrefix t.data.toList [35]) : Int)) (⟨#[]⟩) = t.data.toList
  · have hR : readR t = (2, wrap64 (num16 (Lib.trimPrefix t.data.toList [35]) : Int), ⟨#[]⟩, 0) := by unfold readR; rw [hcand, if_neg (by rintro (h | h); exact h0 h; exact h hT)]
    have hne : (textL (2) (wrap64 (num16 (Lib.trimPrefix t.data.toList [35]) : Int)) (⟨#[]⟩) == t.toList) = true := by rw [toList_data, hT]; simp
    go_wp2
    refine bodyPost_ret (results_ct rfl _ _ w.heap.size 23 #[.int .i64 2, .int .i64 (wrap64 (num16 (Lib.trimPrefix t.data.toList [35]) : Int)), .string ⟨#[]⟩] (0, 0) _ rfl (blk_put (cs := #[.int .i64 2, .int .i64 (wrap64 (num16 (Lib.trimPrefix t.data.toList [35]) : Int)), .string ⟨#[]⟩]) (blk_put (cs := #[.int .i64 2, .int .i64 0, .string ⟨#[]⟩]) (blk_put (cs := #[.int .i64 0, .int .i64 0, .string ⟨#[]⟩]) K0'.out 0 _ rfl) 1 _ rfl) 2 _ rfl) Tryd.underlying23 rfl (by kernel_rfl)) rfl ?_
    exact ⟨(by rw [hR]; try rfl), below_set (below_set (below_set HB2.out (Nat.le_refl _)) (Nat.le_refl _)) (Nat.le_refl _)⟩
  · have hR : readR t = (0, 0, ⟨#[]⟩, 2) := by unfold readR; rw [hcand, if_pos (Or.inr hT)]
    have hne : (textL (2) (wrap64 (num16 (Lib.trimPrefix t.data.toList [35]) : Int)) (⟨#[]⟩) == t.toList) = false := by rw [toList_data, beq_eq_false_iff_ne]; exact hT
    go_wp2
    refine bodyPost_ret (results_ct rfl _ _ w.heap.size 23 #[.int .i64 0, .int .i64 0, .string ⟨#[]⟩] (0, 0) _ rfl (blk_put (cs := #[.int .i64 0, .int .i64 0, .string ⟨#[]⟩]) (blk_put (cs := #[.int .i64 0, .int .i64 0, .string ⟨#[]⟩]) (blk_put (cs := #[.int .i64 0, .int .i64 0, .string ⟨#[]⟩]) K0'.out 0 _ rfl) 1 _ rfl) 2 _ rfl) Tryd.underlying23 rfl (by kernel_rfl)) rfl ?_
    exact ⟨(by rw [hR]; try rfl), below_set (below_set (below_set HB2.out (Nat.le_refl _)) (Nat.le_refl _)) (Nat.le_refl _)⟩
set_option maxHeartbeats 1600000 in
set_option maxRecDepth 100000 in
theorem read_int (t : ByteArray) (hs : t.size ≤ 281474976710656) (w : World) (hLW0 : LaidW w) (hp : Lib.hasPrefix t.data.toList [35] = false) (n : Int) (hn : Lib.parseIntB 64 t.data.toList = .ok n) (h0 : t.size ≠ 0) :
    Calls Tryd.prog 19 #[.string t] w fun e w' => e = .returned (.tuple #[.agg #[.int .i64 (readR t).1, .int .i64 (readR t).2.1, .string (readR t).2.2.1], .int .i64 (readR t).2.2.2]) ∧ Below w.heap.size w w' := by
  have hemp : t.toList.isEmpty = false := by
    rw [← decide_eq_emptyBytes]
    exact decide_eq_false (fun h => h0 (by rw [h]; rfl))
  have HLW := Aside0.mk hLW0
  clear hLW0
  have hcut := Tryd.strings_CutPrefix t ⟨#[35]⟩
  rw [show (⟨#[35]⟩ : ByteArray).data.toList = [35] from rfl, hp] at hcut
  have HC := Aside0.mk hcut
  clear hcut
  have hcand : candR t = (1, n, ⟨#[]⟩) := by unfold candR; rw [if_neg (by simp [hp]), hn]
  have HR : Aside0 (-9223372036854775808 ≤ n ∧ n ≤ 9223372036854775807) := ⟨by have := Lib.parseIntB_bounds hn; have e : ((2 ^ (64 - 1) : Nat) : Int) = 9223372036854775808 := (by decide); rw [e] at this; omega⟩
  have HI : Aside0 (∀ w, Calls Tryd.prog 35 #[.string t, .int .i64 10, .int .i64 64] w fun e w' => e = .returned (.tuple #[.int .i64 n, .nilIface]) ∧ Below w.heap.size w w') := ⟨fun w => int_ok t hs w n hn⟩
  clear hp hn
  go_enter Tryd.func19, Tryd.ntmps19
  go_wp2_with fail
  refine (HC.out _).mono ?_
  rintro e w1 ⟨rfl, rfl⟩
  go_wp2_with fail
  have HB0 := Aside0.mk (below_two w (.cells #[.int .i64 0, .int .i64 0, .string ⟨#[]⟩] 23) (.cells #[.int .i64 3, .int .i64 0, .string t] 23))
  have K00 := Aside0.mk (two_0 w #[.int .i64 0, .int .i64 0, .string ⟨#[]⟩] #[.int .i64 3, .int .i64 0, .string t] 23 23)
  have K01 := Aside0.mk (two_1 w #[.int .i64 0, .int .i64 0, .string ⟨#[]⟩] #[.int .i64 3, .int .i64 0, .string t] 23 23)
  refine (HI.out _).mono ?_
  rintro e w1 ⟨rfl, hb1⟩
  have K0 := Aside0.mk (blk_below (g := w.heap.size) K00.out hb1)
  have K1 := Aside0.mk (blk_below (g := w.heap.size + 1) K01.out hb1)
  have HB := Aside0.mk (below_then HB0.out HB0.out.size hb1)
  clear hb1 HB0 K00 K01
  have hz0 : w1.cell? ⟨w.heap.size + 1, 0, none⟩ = some (.int .i64 3) := (blk_cell K1.out 0).trans rfl
  have hz1 : w1.cell? ⟨w.heap.size + 1, 1, none⟩ = some (.int .i64 0) := (blk_cell K1.out 1).trans rfl
  have hz2 : w1.cell? ⟨w.heap.size + 1, 2, none⟩ = some (.string t) := (blk_cell K1.out 2).trans rfl
  have hzf0 := blk_frozen K1.out 0
  have hzf1 := blk_frozen K1.out 1
  have hzf2 := blk_frozen K1.out 2
  go_wp2_with fail
  clear hz0 hz1 hz2 hzf0 hzf1 hzf2
  have HBs : Aside0 (Below w.heap.size w (((w1.setCell ⟨w.heap.size + 1, 0, none⟩ (.int .i64 1)).setCell ⟨w.heap.size + 1, 1, none⟩ (.int .i64 n)).setCell ⟨w.heap.size + 1, 2, none⟩ (.string ⟨#[]⟩))) := ⟨below_set (below_set (below_set HB.out (by omega)) (by omega)) (by omega)⟩
  have K1s : Aside0 ((((w1.setCell ⟨w.heap.size + 1, 0, none⟩ (.int .i64 1)).setCell ⟨w.heap.size + 1, 1, none⟩ (.int .i64 n)).setCell ⟨w.heap.size + 1, 2, none⟩ (.string ⟨#[]⟩)).heap[w.heap.size + 1]? = some (.cells #[.int .i64 1, .int .i64 n, .string ⟨#[]⟩] 23 (0, 0))) := ⟨blk_put (cs := #[.int .i64 1, .int .i64 n, .string t]) (blk_put (cs := #[.int .i64 1, .int .i64 0, .string t]) (blk_put (cs := #[.int .i64 3, .int .i64 0, .string t]) K1.out 0 _ rfl) 1 _ rfl) 2 _ rfl⟩
  have K0s : Aside0 ((((w1.setCell ⟨w.heap.size + 1, 0, none⟩ (.int .i64 1)).setCell ⟨w.heap.size + 1, 1, none⟩ (.int .i64 n)).setCell ⟨w.heap.size + 1, 2, none⟩ (.string ⟨#[]⟩)).heap[w.heap.size]? = some (.cells #[.int .i64 0, .int .i64 0, .string ⟨#[]⟩] 23 (0, 0))) := ⟨blk_far (blk_far (blk_far K0.out (by show w.heap.size ≠ w.heap.size + 1; omega) _) (by show w.heap.size ≠ w.heap.size + 1; omega) _) (by show w.heap.size ≠ w.heap.size + 1; omega) _⟩
  have HLs := HLW.out.below HBs.out
  refine (value_Text.calls (1) (n) (⟨#[]⟩) _ _ HLs (by unfold value_Text.f; rw [if_pos HR.out])).mono ?_
  rintro e w2 ⟨rfl, hb2⟩
  have K0' := Aside0.mk (blk_below (g := w.heap.size) K0s.out hb2)
  have K1' := Aside0.mk (blk_below (g := w.heap.size + 1) K1s.out hb2)
  have HB2 := Aside0.mk (below_then HBs.out HBs.out.size hb2)
  clear hb2 HBs K0s K1s HLs
  have ha0 : w2.cell? ⟨w.heap.size, 0, none⟩ = some (.int .i64 0) := (blk_cell K0'.out 0).trans rfl
  have ha1 : w2.cell? ⟨w.heap.size, 1, none⟩ = some (.int .i64 0) := (blk_cell K0'.out 1).trans rfl
  have ha2 : w2.cell? ⟨w.heap.size, 2, none⟩ = some (.string ⟨#[]⟩) := (blk_cell K0'.out 2).trans rfl
  have haf0 := blk_frozen K0'.out 0
  have haf1 := blk_frozen K0'.out 1
  have haf2 := blk_frozen K0'.out 2
  have hb0 : w2.cell? ⟨w.heap.size + 1, 0, none⟩ = some (.int .i64 1) := (blk_cell K1'.out 0).trans rfl
  have hb1 : w2.cell? ⟨w.heap.size + 1, 1, none⟩ = some (.int .i64 n) := (blk_cell K1'.out 1).trans rfl
  have hb2 : w2.cell? ⟨w.heap.size + 1, 2, none⟩ = some (.string ⟨#[]⟩) := (blk_cell K1'.out 2).trans rfl
  have hbf0 := blk_frozen K1'.out 0
  have hbf1 := blk_frozen K1'.out 1
  have hbf2 := blk_frozen K1'.out 2
  have hn1 : w.heap.size ≠ w.heap.size + 1 := by omega
  have hn2 : w.heap.size + 1 ≠ w.heap.size := by omega
  by_cases hT : textL (1) (n) (⟨#[]⟩) = t.data.toList
  · have hR : readR t = (1, n, ⟨#[]⟩, 0) := by unfold readR; rw [hcand, if_neg (by rintro (h | h); exact h0 h; exact h hT)]
    have hne : (textL (1) (n) (⟨#[]⟩) == t.toList) = true := by rw [toList_data, hT]; simp
    go_wp2
    refine bodyPost_ret (results_ct rfl _ _ w.heap.size 23 #[.int .i64 1, .int .i64 n, .string ⟨#[]⟩] (0, 0) _ rfl (blk_put (cs := #[.int .i64 1, .int .i64 n, .string ⟨#[]⟩]) (blk_put (cs := #[.int .i64 1, .int .i64 0, .string ⟨#[]⟩]) (blk_put (cs := #[.int .i64 0, .int .i64 0, .string ⟨#[]⟩]) K0'.out 0 _ rfl) 1 _ rfl) 2 _ rfl) Tryd.underlying23 rfl (by kernel_rfl)) rfl ?_
    exact ⟨(by rw [hR]; try rfl), below_set (below_set (below_set HB2.out (Nat.le_refl _)) (Nat.le_refl _)) (Nat.le_refl _)⟩
  · have hR : readR t = (0, 0, ⟨#[]⟩, 2) := by unfold readR; rw [hcand, if_pos (Or.inr hT)]
    have hne : (textL (1) (n) (⟨#[]⟩) == t.toList) = false := by rw [toList_data, beq_eq_false_iff_ne]; exact hT
    go_wp2
    refine bodyPost_ret (results_ct rfl _ _ w.heap.size 23 #[.int .i64 0, .int .i64 0, .string ⟨#[]⟩] (0, 0) _ rfl (blk_put (cs := #[.int .i64 0, .int .i64 0, .string ⟨#[]⟩]) (blk_put (cs := #[.int .i64 0, .int .i64 0, .string ⟨#[]⟩]) (blk_put (cs := #[.int .i64 0, .int .i64 0, .string ⟨#[]⟩]) K0'.out 0 _ rfl) 1 _ rfl) 2 _ rfl) Tryd.underlying23 rfl (by kernel_rfl)) rfl ?_
    exact ⟨(by rw [hR]; try rfl), below_set (below_set (below_set HB2.out (Nat.le_refl _)) (Nat.le_refl _)) (Nat.le_refl _)⟩
set_option maxHeartbeats 1600000 in
set_option maxRecDepth 100000 in
theorem read_sym (t : ByteArray) (hs : t.size ≤ 281474976710656) (w : World) (hLW0 : LaidW w) (hp : Lib.hasPrefix t.data.toList [35] = false) (hn : ∀ n, Lib.parseIntB 64 t.data.toList ≠ .ok n) (h0 : t.size ≠ 0) :
    Calls Tryd.prog 19 #[.string t] w fun e w' => e = .returned (.tuple #[.agg #[.int .i64 (readR t).1, .int .i64 (readR t).2.1, .string (readR t).2.2.1], .int .i64 (readR t).2.2.2]) ∧ Below w.heap.size w w' := by
  have hemp : t.toList.isEmpty = false := by
    rw [← decide_eq_emptyBytes]
    exact decide_eq_false (fun h => h0 (by rw [h]; rfl))
  have HLW := Aside0.mk hLW0
  clear hLW0
  have hcut := Tryd.strings_CutPrefix t ⟨#[35]⟩
  rw [show (⟨#[35]⟩ : ByteArray).data.toList = [35] from rfl, hp] at hcut
  have HC := Aside0.mk hcut
  clear hcut
  have hcand : candR t = (3, 0, t) := by
    unfold candR
    rw [if_neg (by simp [hp])]
    cases h : Lib.parseIntB 64 t.data.toList with
    | ok n => exact absurd h (hn n)
    | «syntax» => rfl
    | range => rfl
  have HR : Aside0 (-9223372036854775808 ≤ (0 : Int) ∧ (0 : Int) ≤ 9223372036854775807) := ⟨by omega⟩
  have HI : Aside0 (∀ w, LaidW w → Calls Tryd.prog 35 #[.string t, .int .i64 10, .int .i64 64] w fun e w' => ∃ m tp p, e = .returned (.tuple #[.int .i64 m, .iface tp p]) ∧ Below w.heap.size w w') := ⟨fun w h => int_err t hs w h hn⟩
  clear hp hn
  go_enter Tryd.func19, Tryd.ntmps19
  go_wp2_with fail
  refine (HC.out _).mono ?_
  rintro e w1 ⟨rfl, rfl⟩
  go_wp2_with fail
  have HB0 := Aside0.mk (below_two w (.cells #[.int .i64 0, .int .i64 0, .string ⟨#[]⟩] 23) (.cells #[.int .i64 3, .int .i64 0, .string t] 23))
  have K00 := Aside0.mk (two_0 w #[.int .i64 0, .int .i64 0, .string ⟨#[]⟩] #[.int .i64 3, .int .i64 0, .string t] 23 23)
  have K01 := Aside0.mk (two_1 w #[.int .i64 0, .int .i64 0, .string ⟨#[]⟩] #[.int .i64 3, .int .i64 0, .string t] 23 23)
  refine (HI.out _ ((HLW.out.alloc _).alloc _)).mono ?_
  rintro e w1 ⟨m, tp, p, rfl, hb1⟩
  have K0 := Aside0.mk (blk_below (g := w.heap.size) K00.out hb1)
  have K1 := Aside0.mk (blk_below (g := w.heap.size + 1) K01.out hb1)
  have HB := Aside0.mk (below_then HB0.out HB0.out.size hb1)
  clear hb1 HB0 K00 K01
  have hz0 : w1.cell? ⟨w.heap.size + 1, 0, none⟩ = some (.int .i64 3) := (blk_cell K1.out 0).trans rfl
  have hz1 : w1.cell? ⟨w.heap.size + 1, 1, none⟩ = some (.int .i64 0) := (blk_cell K1.out 1).trans rfl
  have hz2 : w1.cell? ⟨w.heap.size + 1, 2, none⟩ = some (.string t) := (blk_cell K1.out 2).trans rfl
  have hzf0 := blk_frozen K1.out 0
  have hzf1 := blk_frozen K1.out 1
  have hzf2 := blk_frozen K1.out 2
  go_wp2_with fail
  clear hz0 hz1 hz2 hzf0 hzf1 hzf2
  have HBs := HB
  have K1s := K1
  have K0s := K0
  have HLs := HLW.out.below HBs.out
  refine (value_Text.calls (3) (0) (t) _ _ HLs (by unfold value_Text.f; rw [if_pos HR.out])).mono ?_
  rintro e w2 ⟨rfl, hb2⟩
  have K0' := Aside0.mk (blk_below (g := w.heap.size) K0s.out hb2)
  have K1' := Aside0.mk (blk_below (g := w.heap.size + 1) K1s.out hb2)
  have HB2 := Aside0.mk (below_then HBs.out HBs.out.size hb2)
  clear hb2 HBs K0s K1s HLs
  have ha0 : w2.cell? ⟨w.heap.size, 0, none⟩ = some (.int .i64 0) := (blk_cell K0'.out 0).trans rfl
  have ha1 : w2.cell? ⟨w.heap.size, 1, none⟩ = some (.int .i64 0) := (blk_cell K0'.out 1).trans rfl
  have ha2 : w2.cell? ⟨w.heap.size, 2, none⟩ = some (.string ⟨#[]⟩) := (blk_cell K0'.out 2).trans rfl
  have haf0 := blk_frozen K0'.out 0
  have haf1 := blk_frozen K0'.out 1
  have haf2 := blk_frozen K0'.out 2
  have hb0 : w2.cell? ⟨w.heap.size + 1, 0, none⟩ = some (.int .i64 3) := (blk_cell K1'.out 0).trans rfl
  have hb1 : w2.cell? ⟨w.heap.size + 1, 1, none⟩ = some (.int .i64 0) := (blk_cell K1'.out 1).trans rfl
  have hb2 : w2.cell? ⟨w.heap.size + 1, 2, none⟩ = some (.string t) := (blk_cell K1'.out 2).trans rfl
  have hbf0 := blk_frozen K1'.out 0
  have hbf1 := blk_frozen K1'.out 1
  have hbf2 := blk_frozen K1'.out 2
  have hn1 : w.heap.size ≠ w.heap.size + 1 := by omega
  have hn2 : w.heap.size + 1 ≠ w.heap.size := by omega
  by_cases hT : textL (3) (0) (t) = t.data.toList
  · have hR : readR t = (3, 0, t, 0) := by unfold readR; rw [hcand, if_neg (by rintro (h | h); exact h0 h; exact h hT)]
    have hne : (textL (3) (0) (t) == t.toList) = true := by rw [toList_data, hT]; simp
    go_wp2
    refine bodyPost_ret (results_ct rfl _ _ w.heap.size 23 #[.int .i64 3, .int .i64 0, .string t] (0, 0) _ rfl (blk_put (cs := #[.int .i64 3, .int .i64 0, .string ⟨#[]⟩]) (blk_put (cs := #[.int .i64 3, .int .i64 0, .string ⟨#[]⟩]) (blk_put (cs := #[.int .i64 0, .int .i64 0, .string ⟨#[]⟩]) K0'.out 0 _ rfl) 1 _ rfl) 2 _ rfl) Tryd.underlying23 rfl (by kernel_rfl)) rfl ?_
    exact ⟨(by rw [hR]; try rfl), below_set (below_set (below_set HB2.out (Nat.le_refl _)) (Nat.le_refl _)) (Nat.le_refl _)⟩
  · have hR : readR t = (0, 0, ⟨#[]⟩, 2) := by unfold readR; rw [hcand, if_pos (Or.inr hT)]
    have hne : (textL (3) (0) (t) == t.toList) = false := by rw [toList_data, beq_eq_false_iff_ne]; exact hT
    go_wp2
    refine bodyPost_ret (results_ct rfl _ _ w.heap.size 23 #[.int .i64 0, .int .i64 0, .string ⟨#[]⟩] (0, 0) _ rfl (blk_put (cs := #[.int .i64 0, .int .i64 0, .string ⟨#[]⟩]) (blk_put (cs := #[.int .i64 0, .int .i64 0, .string ⟨#[]⟩]) (blk_put (cs := #[.int .i64 0, .int .i64 0, .string ⟨#[]⟩]) K0'.out 0 _ rfl) 1 _ rfl) 2 _ rfl) Tryd.underlying23 rfl (by kernel_rfl)) rfl ?_
    exact ⟨(by rw [hR]; try rfl), below_set (below_set (below_set HB2.out (Nat.le_refl _)) (Nat.le_refl _)) (Nat.le_refl _)⟩
theorem readR_empty : readR ⟨#[]⟩ = (0, 0, ⟨#[]⟩, 2) := by
  have h : (⟨#[]⟩ : ByteArray).size = 0 := rfl
  unfold readR
  rw [if_pos (Or.inl h)]
set_option maxHeartbeats 1600000 in
set_option maxRecDepth 100000 in
theorem read_empty (w : World) (hLW0 : LaidW w) :
    Calls Tryd.prog 19 #[.string ⟨#[]⟩] w fun e w' => e = .returned (.tuple #[.agg #[.int .i64 0, .int .i64 0, .string ⟨#[]⟩], .int .i64 2]) ∧ Below w.heap.size w w' := by
  have HLW := Aside0.mk hLW0
  clear hLW0
  have HC : Aside0 (∀ w, Calls Tryd.prog 33 #[.string ⟨#[]⟩, .string ⟨#[35]⟩] w fun e w' => e = .returned (.tuple #[.string ⟨#[]⟩, .bool false]) ∧ w' = w) := ⟨Tryd.strings_CutPrefix ⟨#[]⟩ ⟨#[35]⟩⟩
  have HI : Aside0 (∀ w, LaidW w → Calls Tryd.prog 35 #[.string ⟨#[]⟩, .int .i64 10, .int .i64 64] w fun e w' => ∃ m tp p, e = .returned (.tuple #[.int .i64 m, .iface tp p]) ∧ Below w.heap.size w w') := ⟨fun w h => int_err ⟨#[]⟩ (by decide) w h (fun n h => by cases h)⟩
  have hemp : (⟨#[]⟩ : ByteArray).toList.isEmpty = true := by rw [toList_data]; rfl
  go_enter Tryd.func19, Tryd.ntmps19
  go_wp2_with fail
  refine (HC.out _).mono ?_
  rintro e w1 ⟨rfl, rfl⟩
  go_wp2_with fail
  have HB0 := Aside0.mk (below_two w (.cells #[.int .i64 0, .int .i64 0, .string ⟨#[]⟩] 23) (.cells #[.int .i64 3, .int .i64 0, .string ⟨#[]⟩] 23))
  have K00 := Aside0.mk (two_0 w #[.int .i64 0, .int .i64 0, .string ⟨#[]⟩] #[.int .i64 3, .int .i64 0, .string ⟨#[]⟩] 23 23)
  have K01 := Aside0.mk (two_1 w #[.int .i64 0, .int .i64 0, .string ⟨#[]⟩] #[.int .i64 3, .int .i64 0, .string ⟨#[]⟩] 23 23)
  refine (HI.out _ ((HLW.out.alloc _).alloc _)).mono ?_
  rintro e w1 ⟨m, tp, p, rfl, hb1⟩
  have K0' := Aside0.mk (blk_below (g := w.heap.size) K00.out hb1)
  have K1 := Aside0.mk (blk_below (g := w.heap.size + 1) K01.out hb1)
  have HB2 := Aside0.mk (below_then HB0.out HB0.out.size hb1)
  clear hb1 HB0 K00 K01
  have hz0 : w1.cell? ⟨w.heap.size + 1, 0, none⟩ = some (.int .i64 3) := (blk_cell K1.out 0).trans rfl
  have hz1 : w1.cell? ⟨w.heap.size + 1, 1, none⟩ = some (.int .i64 0) := (blk_cell K1.out 1).trans rfl
  have hz2 : w1.cell? ⟨w.heap.size + 1, 2, none⟩ = some (.string ⟨#[]⟩) := (blk_cell K1.out 2).trans rfl
  have ha0 : w1.cell? ⟨w.heap.size, 0, none⟩ = some (.int .i64 0) := (blk_cell K0'.out 0).trans rfl
  have ha1 : w1.cell? ⟨w.heap.size, 1, none⟩ = some (.int .i64 0) := (blk_cell K0'.out 1).trans rfl
  have ha2 : w1.cell? ⟨w.heap.size, 2, none⟩ = some (.string ⟨#[]⟩) := (blk_cell K0'.out 2).trans rfl
  have haf0 := blk_frozen K0'.out 0
  have haf1 := blk_frozen K0'.out 1
  have haf2 := blk_frozen K0'.out 2
  go_wp2
  refine bodyPost_ret (results_ct rfl _ _ w.heap.size 23 #[.int .i64 0, .int .i64 0, .string ⟨#[]⟩] (0, 0) _ rfl (blk_put (cs := #[.int .i64 0, .int .i64 0, .string ⟨#[]⟩]) (blk_put (cs := #[.int .i64 0, .int .i64 0, .string ⟨#[]⟩]) (blk_put (cs := #[.int .i64 0, .int .i64 0, .string ⟨#[]⟩]) K0'.out 0 _ rfl) 1 _ rfl) 2 _ rfl) Tryd.underlying23 rfl (by kernel_rfl)) rfl ?_
  exact ⟨rfl, below_set (below_set (below_set HB2.out (Nat.le_refl _)) (Nat.le_refl _)) (Nat.le_refl _)⟩
theorem value_Read.calls (a0 : ByteArray) (r1 : Int) (r2 : Int) (r3 : ByteArray) (r4 : Int) (w : World) (hLW : LaidW w) (h : value_Read.f a0 = some (r1, r2, r3, r4)) :
    Calls Tryd.prog 19 #[.string a0] w fun e w' => e = .returned (.tuple #[.agg #[.int .i64 r1, .int .i64 r2, .string r3], .int .i64 r4]) ∧ Below w.heap.size w w' := by
  unfold value_Read.f at h
  split at h
  · rename_i hs
    have hR := Option.some.inj h
    have e1 : (readR a0).1 = r1 := by rw [hR]
    have e2 : (readR a0).2.1 = r2 := by rw [hR]
    have e3 : (readR a0).2.2.1 = r3 := by rw [hR]
    have e4 : (readR a0).2.2.2 = r4 := by rw [hR]
    rw [← e1, ← e2, ← e3, ← e4]
    clear e1 e2 e3 e4 hR h
    by_cases h0 : a0.size = 0
    · obtain rfl := ba_zero h0
      rw [readR_empty]
      exact read_empty w hLW
    · cases hp : Lib.hasPrefix a0.data.toList [35] with
      | true => exact read_hash a0 hs w hLW hp h0
      | false =>
        cases hn : Lib.parseIntB 64 a0.data.toList with
        | ok n => exact read_int a0 hs w hLW hp n hn h0
        | «syntax» => exact read_sym a0 hs w hLW hp (fun n h => by rw [hn] at h; cases h) h0
        | range => exact read_sym a0 hs w hLW hp (fun n h => by rw [hn] at h; cases h) h0
  · cases h
end Go.Proofs.YtklpbdmmmloejaaDoor.X
