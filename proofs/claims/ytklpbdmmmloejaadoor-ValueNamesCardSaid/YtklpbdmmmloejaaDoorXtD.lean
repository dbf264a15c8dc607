/-
  The reference's number: what digits tell, whatever they are, modulo 2^64.
-/
import Derived.Test.YtklpbdmmmloejaaDoorXtA
namespace Go.Proofs.YtklpbdmmmloejaaDoor.X
set_option linter.unusedVariables false
set_option linter.unusedSimpArgs false
open Go.RowKit Go.Proofs.YtklpbdmmmloejaaDoorW.PrintWords Go.Proofs.YtklpbdmmmloejaaDoorW.PrintLast Go.Proofs.YtklpbdmmmloejaaDoorW.PrintMore

def numDig (c : Int) : Int := if 97 ≤ c then c - 97 + 10 else (c - 48) % 256
def numStep (b n c : Int) : Int := IntKind.u64.wrap (IntKind.u64.wrap (n * b) + numDig c)
def numFrom (s : ByteArray) (b : Int) : Nat → Nat → Int → Int
  | 0, _, n => n
  | d + 1, pos, n => if pos < s.size then numFrom s b d (pos + (Utf8.decode s pos).2) (numStep b n (bt s (pos : Int))) else n
def antecedentref02_number.f (a0 : ByteArray) (a1 : Int) : Option Int := some (numFrom a0 a1 a0.size 0 0)
theorem numFrom_end {s : ByteArray} {b n : Int} {d pos : Nat} (h : ¬ pos < s.size) : numFrom s b d pos n = n := by
  cases d with
  | zero => rfl
  | succ d => simp only [numFrom]; rw [if_neg h]
theorem num_next {s : ByteArray} {b n T : Int} {d pos : Nat} (h : pos < s.size) (hd : s.size - pos ≤ d) (hT : numFrom s b d pos n = T) :
    ∃ d', s.size - (pos + (Utf8.decode s pos).2) ≤ d' ∧ numFrom s b d' (pos + (Utf8.decode s pos).2) (numStep b n (bt s (pos : Int))) = T := by
  obtain ⟨d, rfl⟩ : ∃ e, d = e + 1 := ⟨d - 1, by omega⟩
  simp only [numFrom] at hT
  rw [if_pos h] at hT
  have := width_pos s pos h
  exact ⟨d, by omega, hT⟩
set_option maxHeartbeats 2000000 in
set_option maxRecDepth 1000000 in
theorem antecedentref02_number.calls (a0 : ByteArray) (a1 : Int) (r : Int) (w : World) (h : antecedentref02_number.f a0 a1 = some r) :
    Calls Tryd.prog 36 #[.string a0, .int .u64 a1] w fun e w' => e = .returned (.int .u64 r) ∧ Below w.heap.size w w' := by
  have hT := Option.some.inj h
  clear h
  go_enter Tryd.func36, Tryd.ntmps36
  go_wp2
  go_loopw [5] (fun v5 wr => ∃ (pos d : Nat) (n : Int), v5 = .int .u64 n ∧ wr = w.iter a0 pos ∧ Aside0 (a0.size - pos ≤ d) ∧ Aside0 (numFrom a0 a1 d pos n = r)) (fun _ wr => a0.size - wr.iterPos w.heap.size)
  case atStart => exact ⟨0, a0.size, 0, rfl, rfl, ⟨by omega⟩, ⟨hT⟩⟩
  case round =>
    obtain ⟨pos, d, n, rfl, rfl, HD, HN⟩ := hrel
    clear hT
    by_cases hp : pos < a0.size
    · have hnx : ∀ ty, (Instr.next (.pointer (some ⟨w.heap.size, 0, none⟩)) true ty).run Tryd.prog (w.iter a0 pos) = _ := fun ty => run_next_any w a0 pos ty hp
      have hwd := width_pos a0 pos hp
      have hby := bt_nat a0 pos hp
      have hstep := num_next hp HD.out HN.out
      rw [hby] at hstep
      have HST := Aside0.mk hstep
      clear hby hstep
      obtain ⟨c, hc⟩ : ∃ c : Int, c = ((a0[pos]'hp).toNat : Int) := ⟨_, rfl⟩
      have hc0 : 0 ≤ c := by omega
      have hc1 : c < 256 := by have := (a0[pos]'hp).toNat_lt; omega
      rw [← hc] at HST
      by_cases hge : 97 ≤ c
      · have hdig : numDig c = c - 97 + 10 := by unfold numDig; rw [if_pos hge]
        go_wp2
        obtain ⟨d', h1, h2⟩ := HST.out
        unfold numStep at h2
        rw [hdig, hc] at h2
        refine ⟨⟨pos + (Utf8.decode a0 pos).2, d', _, rfl, rfl, ⟨h1⟩, ⟨h2⟩⟩, ?_⟩
        have e1 : (w.iter a0 (pos + (Utf8.decode a0 pos).snd)).iterPos w.heap.size = pos + (Utf8.decode a0 pos).snd := by simp
        have e2 : (w.iter a0 pos).iterPos w.heap.size = pos := by simp
        rw [e1, e2]
        omega
      · have hdig : numDig c = (c - 48) % 256 := by unfold numDig; rw [if_neg hge]
        go_wp2
        obtain ⟨d', h1, h2⟩ := HST.out
        unfold numStep at h2
        rw [hdig, hc] at h2
        refine ⟨⟨pos + (Utf8.decode a0 pos).2, d', _, rfl, rfl, ⟨h1⟩, ⟨h2⟩⟩, ?_⟩
        have e1 : (w.iter a0 (pos + (Utf8.decode a0 pos).snd)).iterPos w.heap.size = pos + (Utf8.decode a0 pos).snd := by simp
        have e2 : (w.iter a0 pos).iterPos w.heap.size = pos := by simp
        rw [e1, e2]
        omega
    · have hnx : ∀ ty, (Instr.next (.pointer (some ⟨w.heap.size, 0, none⟩)) true ty).run Tryd.prog (w.iter a0 pos) = _ := fun ty => run_next_end w a0 pos ty hp
      have hr : n = r := by rw [← HN.out, numFrom_end hp]
      go_wp2
      go_ret
      refine ⟨?_, below_iter w a0 pos⟩
      rw [hr]
      first | done | rfl
end Go.Proofs.YtklpbdmmmloejaaDoor.X
