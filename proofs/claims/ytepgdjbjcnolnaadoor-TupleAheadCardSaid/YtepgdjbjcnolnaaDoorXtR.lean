/-
  WHAT COMES IN: slices of values, slices of ints, a value: opened to what the walks' contracts ask; the listed tables; a world for the witness.
-/
import Derived.Test.YtepgdjbjcnolnaaDoorXx0
import Derived.Test.YtepgdjbjcnolnaaDoorXtL
import Derived.Test.YtepgdjbjcnolnaaDoorRows
import Derived.Deep.Slices
import Derived.Deep.Fields
import Derived.ChangeSame
import Derived.ProofKit
import Derived.OpenShut
import Derived.Deep.DeepHandedRow
import Derived.Lib.LaidTab
import Derived.Lib.SmallJoins
namespace Go.Proofs.YtepgdjbjcnolnaaDoor.X
set_option linter.unusedVariables false
set_option linter.unusedSimpArgs false
open Go.ChangeShapes Go.WideShapes Go.ChangeAt Go.RowKit Go.Deep Go.Joins Go.Proofs.YtepgdjbjcnolnaaDoorW.PrintWords Go.Proofs.YtepgdjbjcnolnaaDoorW.PrintLast Go.Proofs.YtepgdjbjcnolnaaDoorW.PrintMore

section
variable {H : Type} {enc : TypeId × Value → H} {P : Program} {w : World} {base : Nat} {spare : Nat → Bool} {held : Bool}
theorem open_slice_fields {t e : TypeId} {fs : Array Field} {fuel : Nat} {cs : List Value} {x : DataW H × List MemPlace} (ht : P.underlying t = some (.slice e)) (he : P.underlying e = some (.struct fs))
    (hone : oneCellFields P fs = true) (hC : P.cellsOf e = fs.size) (h : DataW.trod enc P w base spare held fuel t cs = some x) :
    cs = [.slice none 0 0] ∨
    ∃ (a : Addr) (len cap : Nat), cs = [.slice (some a) len cap] ∧ len ≤ cap ∧ cap ≤ maxLen ∧
      ∀ i, i < len → ∀ (j : Nat) (f : Field), fs[j]? = some f → ∃ (v : Value) (y : DataW H × List MemPlace) (n : Nat), w.cell? (a.add (i * fs.size + j)) = some v ∧ DataW.trod enc P w base spare held n f.type [v] = some y := by
  rcases open_slice ht h with ⟨h0, _⟩ | ⟨a, len, cap, m, n, D, Pl, hcs, hb, hl, hm, hmm, hx, hi⟩
  · exact .inl h0
  · refine .inr ⟨a, len, cap, hcs, hl, hm, fun i him j f hj => ?_⟩
    obtain ⟨cs', hc, ht'⟩ := hi i (by rw [hmm]; split <;> omega)
    rw [hC] at hc
    obtain ⟨ys, n', hn', hy, hlen, hyl, hf⟩ := DataW.trod_struct he ht'
    obtain ⟨_, hcl, hat⟩ := World.cells?_some hc
    obtain ⟨ho, hk⟩ := hone_of hone j f hj
    have hjl : j < fs.size := (Array.getElem?_eq_some_iff.1 hj).1
    have hcell := hat j hjl
    have hv : cs'[j]? = some (cs'[j]'(by omega)) := List.getElem?_eq_getElem (by omega)
    have h1 := hf j f hj
    rw [ho, hk] at h1
    have hone' : (cs'.drop j).take 1 = [cs'[j]'(by omega)] := by
      rw [List.drop_eq_getElem_cons (by omega)]
      rfl
    rw [hone'] at h1
    have hys : ys[j]? = some (ys[j]'(by omega)) := List.getElem?_eq_getElem (by omega)
    refine ⟨_, _, n', ?_, h1.trans hys⟩
    rw [← Go.Deep.add_add, hcell, hv]
end
theorem wf_i64 {n : Int} (h : (Lit.int .i64 n).wf = true) : -9223372036854775808 ≤ n ∧ n ≤ 9223372036854775807 := by
  simp [Lit.wf] at h
  exact h
/-- a value whose numbers are an int and an int64. -/
def okS (x : S38) : Bool := decide (-9223372036854775808 ≤ x.f0 ∧ x.f0 ≤ 9223372036854775807) && decide (-9223372036854775808 ≤ x.f1 ∧ x.f1 ≤ 9223372036854775807)
theorem cellsV : Tryd.prog.cellsOf 38 = 3 := by kernel_rfl
/-- a slice of values that came in. -/
theorem open_values {H : Type} {enc : TypeId × Value → H} {W : World} {base : Nat} {spare : Nat → Bool} {held : Bool} {a : Option Addr} {len cap : Nat} {d : DataW H} {p : List MemPlace}
    (h : DataW.Trod enc Tryd.prog W base spare held 22 (.slice a len cap) d p) :
    ∃ zs : List S38, zs.length = len ∧ len ≤ cap ∧ Kd.C k38 W a zs.length zs ∧ ∀ x ∈ zs, okS x = true := by
  obtain ⟨fuel, hf⟩ := h
  rcases open_slice_fields Tryd.underlying22 Tryd.underlying38 (by kernel_rfl) cellsV hf with hcs | ⟨ad, l, c, hcs, hl, hm, hc⟩
  · simp [Value.cells] at hcs
    obtain ⟨rfl, rfl, rfl⟩ := hcs
    exact ⟨[], rfl, Nat.le_refl _, Kd.C_nil _ _, fun x hx => by cases hx⟩
  · simp [Value.cells] at hcs
    obtain ⟨rfl, rfl, rfl⟩ := hcs
    have each : ∀ i, i < len → ∃ x : S38, okS x = true ∧ W.cell? (ad.add (i * 3 + 0)) = some (.int .i64 x.f0) ∧ W.cell? (ad.add (i * 3 + 1)) = some (.int .i64 x.f1) ∧ W.cell? (ad.add (i * 3 + 2)) = some (.string x.f2) := by
      intro i hi
      obtain ⟨v0, y0, n0, c0, t0⟩ := hc i hi 0 _ rfl
      obtain ⟨v1, y1, n1, c1, t1⟩ := hc i hi 1 _ rfl
      obtain ⟨v2, y2, n2, c2, t2⟩ := hc i hi 2 _ rfl
      obtain ⟨z0, e0, _, w0⟩ := DataW.trod_int Tryd.underlying3 t0
      obtain ⟨z1, e1, _, w1⟩ := DataW.trod_int Tryd.underlying2 t1
      obtain ⟨z2, e2, _, _⟩ := DataW.trod_string Tryd.underlying9 t2
      injection e0 with e0; injection e1 with e1; injection e2 with e2
      subst e0; subst e1; subst e2
      exact ⟨⟨z0, z1, z2⟩, by unfold okS; simp [wf_i64 w0, wf_i64 w1], c0, c1, c2⟩
    obtain ⟨f, hfn⟩ := @choose_lt _ ⟨z38⟩ len _ each
    refine ⟨(List.range len).map f, by simp, hl, ?_, ?_⟩
    · refine ⟨rfl, ?_, fun hn => ⟨ad, rfl, fun j p hj => ?_⟩⟩
      · simp [maxLen] at hm ⊢; omega
      · have hj' : j < len := by have := (List.getElem?_eq_some_iff.1 hj).1; simpa using this
        rw [List.getElem?_map, List.getElem?_range hj'] at hj
        obtain rfl := Option.some.inj hj
        obtain ⟨_, h0, h1, h2⟩ := hfn j hj'
        refine ⟨_, rfl, k38_mk W (f j), fun i u hu => ?_⟩
        match i, hu with
        | 0, hu => obtain rfl := Option.some.inj hu; exact h0
        | 1, hu => obtain rfl := Option.some.inj hu; exact h1
        | 2, hu => obtain rfl := Option.some.inj hu; exact h2
    · intro x hx
      obtain ⟨j, hj, rfl⟩ := List.mem_map.1 hx
      exact (hfn j (List.mem_range.1 hj)).1
/-- a slice of ints that came in. -/
theorem open_int_row {H : Type} {enc : TypeId × Value → H} {W : World} {base : Nat} {spare : Nat → Bool} {held : Bool} {a : Option Addr} {len cap : Nat} {d : DataW H} {p : List MemPlace}
    (h : DataW.Trod enc Tryd.prog W base spare held 23 (.slice a len cap) d p) :
    ∃ zs : List Int, zs.length = len ∧ len ≤ cap ∧ Kd.C (Kd.int .i64) W a zs.length zs ∧ ∀ x ∈ zs, -9223372036854775808 ≤ x ∧ x ≤ 9223372036854775807 := by
  obtain ⟨fuel, hf⟩ := h
  rcases open_ints Tryd.underlying23 Tryd.underlying3 (by kernel_rfl) hf with ⟨hcs, _⟩ | ⟨x, l, c, zs, hcs, _, hl, hm, hz, _, hcell, hwz⟩
  · simp [Value.cells] at hcs
    obtain ⟨rfl, rfl, rfl⟩ := hcs
    exact ⟨[], rfl, Nat.le_refl _, Kd.C_nil _ _, fun x hx => by cases hx⟩
  · simp [Value.cells] at hcs
    obtain ⟨rfl, rfl, rfl⟩ := hcs
    have hzl : len ≤ zs.length := by rw [hz]; split <;> omega
    refine ⟨zs.take len, by simp [hzl], hl, ?_, fun y hy => wf_i64 (hwz y (List.mem_of_mem_take hy))⟩
    refine ⟨rfl, ?_, fun hn => ⟨x, rfl, fun j p hj => ?_⟩⟩
    · simp [maxLen] at hm ⊢; omega
    · have hj' : j < (zs.take len).length := (List.getElem?_eq_some_iff.1 hj).1
      rw [List.length_take] at hj'
      rw [List.getElem?_take, if_pos (by omega)] at hj
      refine ⟨[.int .i64 p], rfl, rfl, fun i u hu => ?_⟩
      match i, hu with
      | 0, hu =>
        obtain rfl := Option.some.inj hu
        have := hcell j (by omega)
        have e1 : j * (Kd.int .i64).sz + 0 = j := by show j * 1 + 0 = j; omega
        rw [e1, this]
        have e2 : zs.getD j 0 = p := by simp [List.getD, hj]
        rw [e2]
/-- a value that came in. -/
theorem open_value {H : Type} {enc : TypeId × Value → H} {W : World} {b0 base : Nat} {r : Reach} {spare : Nat → Bool} {held : Bool} {v : Value} {d : DataW H} {p : List MemPlace}
    (hv : Value.okWide Tryd.prog W r b0 38 v) (h : DataW.Trod enc Tryd.prog W base spare held 38 v d p) :
    ∃ x : S38, v = .agg #[.int .i64 x.f0, .int .i64 x.f1, .string x.f2] ∧ okS x = true ∧ x.f2.size ≤ maxLen := by
  obtain ⟨v0, v1, v2, y0, y1, y2, n, rfl, _, _, t0, t1, t2⟩ := open_agg3 Tryd.underlying38 (by kernel_rfl) cellsV hv h
  obtain ⟨z0, e0, _, w0⟩ := DataW.trod_int Tryd.underlying3 t0
  obtain ⟨z1, e1, _, w1⟩ := DataW.trod_int Tryd.underlying2 t1
  obtain ⟨z2, e2, _, h2⟩ := DataW.trod_string Tryd.underlying9 t2
  injection e0 with e0; injection e1 with e1; injection e2 with e2
  subst e0; subst e1; subst e2
  exact ⟨⟨z0, z1, z2⟩, rfl, by unfold okS; simp [wf_i64 w0, wf_i64 w1], h2⟩
end Go.Proofs.YtepgdjbjcnolnaaDoor.X
