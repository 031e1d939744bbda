/-
  OF ANY PITCH, COUNTER AND GAIN: the law's walk. By the prover of this repo.
-/
import Derived.Test.YtkmdhpmgbcdlmaaDoorWavC
import Derived.Test.YtkmdhpmgbcdlmaaDoorWavP
namespace Go.Proofs.YtkmdhpmgbcdlmaaDoor.Wave
open Go.RowKit Go.Proofs.YtkmdhpmgbcdlmaaDoor.Pitch Go.Proofs.YtkmdhpmgbcdlmaaDoor.PWavePitches Go.Proofs.YtkmdhpmgbcdlmaaDoorW.PrintWords Go.Proofs.YtkmdhpmgbcdlmaaDoorW.PrintLast Go.Proofs.YtkmdhpmgbcdlmaaDoorW.PrintMore
set_option linter.unusedVariables false
set_option linter.unusedSimpArgs false
theorem law_true (p c g : Int) : (p < 0 ∨ 4095 < p ∨ c < -64 ∨ 63 < c ∨ g < 0 ∨ 63 < g → ans p c g = 0) ∧ (¬ (p < 0 ∨ 4095 < p ∨ c < -64 ∨ 63 < c ∨ g < 0 ∨ 63 < g) → (c = 0 ∨ g = 0 → ans p c g = p) ∧ 0 ≤ ans p c g ∧ ans p c g ≤ 4 * p + 1) := by
  unfold ans
  constructor
  · intro h; rw [if_pos (by omega)]
  · intro h
    rw [if_neg (by omega)]
    refine ⟨fun h0 => Pit.pitch_zero p c g (by rcases h0 with h0 | h0 <;> rw [h0] <;> simp), Pit.pitch_range p c g (by omega)⟩
set_option maxHeartbeats 4000000 in
theorem pitches_walk (p c g : Int) (W : World) (hm : MS W) (hg : 0 < W.heap.size) (hp : (Lit.int .i64 p).wf = true) (hc : (Lit.int .i64 c).wf = true) (hgg : (Lit.int .i64 g).wf = true) :
    Calls Tryd.prog 4 #[.int .i64 p, .int .i64 c, .int .i64 g] W fun e W' => e = .returned (.bool true) ∧ Below W.heap.size W W' := by
  have HAW := Aside0.mk (awake_calls W hm hg)
  have HL := Aside0.mk (law_true p c g)
  have HP1 := Aside0.mk (pitch_eq 0 p c g)
  have HP2 := Aside0.mk (ref_eq 0 p c g)
  generalize ans p c g = n at *
  clear hm hg hp hc hgg
  go_enter Tryd.func4, Tryd.ntmps4
  go_wp2_with (first
    | (go_at_call 9; refine HAW.out.mono ?_; rintro e w1 ⟨rfl, hb⟩; have HB1 := Aside0.mk hb; clear hb)
    | (go_at_call 14; refine (wave_Pitch.calls _ p c g n _ HP1.out).mono ?_; rintro e w2 ⟨rfl, ⟨m2, rfl⟩⟩)
    | (go_at_call 15; refine (kotatsuref13_Pitch.calls _ p c g n _ HP2.out).mono ?_; rintro e w3 ⟨rfl, ⟨m3, rfl⟩⟩))
  all_goals
    go_ret
    have hL := HL.out
    refine ⟨?_, by first | exact pw_below_drewN HB1.out _ | exact pw_below_drewN (pw_below_drewN HB1.out _) _⟩
    show Ending.returned (Value.bool _) = _
    refine congrArg (fun b => Ending.returned (Value.bool b)) ?_
    first
      | exact beq_iff_eq.2 (hL.1 (by omega))
      | exact beq_iff_eq.2 ((hL.2 (by omega)).1 (by omega))
      | exact decide_eq_true (hL.2 (by omega)).2.2
      | exact absurd (hL.2 (by omega)).2.1 (by omega)
      | exact beq_iff_eq.2 ((hL.2 (by omega)).1 (by simpa using ‹(c == 0) = true ∨ (g == 0) = true›))
end Go.Proofs.YtkmdhpmgbcdlmaaDoor.Wave
