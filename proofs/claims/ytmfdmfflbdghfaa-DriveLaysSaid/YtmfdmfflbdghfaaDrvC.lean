/-
  A RUNNING DRIVE, cycle by cycle; the chapter's example (awake). By the prover of this repo.
-/
import Derived.Test.YtmfdmfflbdghfaaDrvB
namespace Go.Proofs.Ytmfdmfflbdghfaa.Drive
open Go.RowKit Go.Proofs.YtmfdmfflbdghfaaW.PrintWords Go.Proofs.YtmfdmfflbdghfaaW.PrintLast Go.Proofs.YtmfdmfflbdghfaaW.PrintMore
set_option linter.unusedVariables false
set_option linter.unusedSimpArgs false

/-- with the motor on, over the side p, t cycles behind its going back -/
def Runs (d : Drv.D) (p : List Int) (t : Int) : Prop := d.motor = true ∧ d.side = p ∧ p ≠ [] ∧ Drv.Stands d t
theorem Runs.fit {d : Drv.D} {p : List Int} {t : Int} (h : Runs d p t) (hp : p.length ≤ 65536) : Fit d := by
  obtain ⟨_, hs, hn, h1, h2, h3⟩ := h
  have hn0 : 0 < p.length := List.length_pos_iff.2 hn
  unfold Fit
  rw [hs] at h2 h3
  unfold Drv.goneL at h2
  unfold Drv.goneP at h3
  have a := Int.emod_nonneg t (show (4000 : Int) + 149 * p.length ≠ 0 by omega)
  have b := Int.emod_lt_of_pos t (show (0 : Int) < 4000 + 149 * p.length by omega)
  generalize t % (4000 + 149 * (p.length : Int)) = u at *
  split at h2 <;> split at h3 <;> omega
theorem Runs.next {d : Drv.D} {p : List Int} {t : Int} (h : Runs d p t) : Runs (Drv.clk d).1 p (t + 1) ∧ (Drv.clk d).2 = Drv.passes p.length t ∧ (Drv.clk d).1.passed = (if Drv.passes p.length t = true then Drv.which p.length t else -1) ∧ (Drv.clk d).1.guarded = d.guarded ∧ (Drv.clk d).1.laid = false := by
  obtain ⟨hm, hs, hn, hst⟩ := h
  obtain ⟨h1, h2, h3, h4, h5, h6, h7⟩ := Drv.clk_stands d t hm (by rw [hs]; exact hn) hst
  rw [hs] at h2 h3 h4
  exact ⟨⟨h5, h4, hn, h1⟩, h2, h3, h6, h7⟩
theorem Runs.of_back {d : Drv.D} (hm : d.motor = true) (hs : d.side ≠ []) : Runs (back d) d.side 0 := by
  refine ⟨hm, rfl, hs, ?_, ?_, ?_⟩
  · show false = _
    unfold Drv.goneR
    rw [Int.zero_emod]; rfl
  · show 4000 = _
    unfold Drv.goneL
    rw [Int.zero_emod]; rfl
  · show 0 = _
    unfold Drv.goneP
    rw [Int.zero_emod]; rfl
theorem clock_runs (base : Nat) (g : Nat) (v : Value) (d : Drv.D) (p : List Int) (t : Int) (W : World) (h : Is base W g v d) (hr : Runs d p t) (b : Bool) (hb : Drv.passes p.length t = b) :
    Calls Try.prog 13 #[.pointer (some ⟨g, 0, none⟩)] W fun e W' => e = .returned (.bool b) ∧ Is base W' g v (Drv.clk d).1 ∧ Turn base W W' (Foot g v) := by
  have hl := h.2.2.2
  rw [hr.2.1] at hl
  refine (clock_calls base g v d W h (hr.fit hl)).mono ?_
  rintro e W' ⟨rfl, h1, h2⟩
  rw [hr.next.2.1, hb]
  exact ⟨rfl, h1, h2⟩
theorem C_two (W : World) (a b : Int) : (Kd.int .u8).C (W.alloc (.cells #[.int .u8 a, .int .u8 b] 5 (0, 0))) (some ⟨W.heap.size, 0, none⟩) 2 [a, b] := by
  refine Kd.C_of_reads (d := 0) ⟨rfl, by decide, fun _ => ⟨_, rfl, fun j hj => ?_⟩⟩
  have h := heap_alloc_new W (.cells #[.int .u8 a, .int .u8 b] 5 (0, 0))
  have hA : At (W.alloc (.cells #[.int .u8 a, .int .u8 b] 5 (0, 0))) W.heap.size 5 #[.int .u8 a, .int .u8 b] := h
  rcases (show j = 0 ∨ j = 1 by omega) with rfl | rfl
  · exact hA.cell 0
  · exact hA.cell 1
set_option maxHeartbeats 1000000 in
theorem awake_calls (W : World) : Calls Try.prog 8 #[] W fun e W' => e = .returned (.bool true) ∧ Below W.heap.size W W' := by
  go_enter Try.func8, Try.ntmps8
  go_wp2_with (go_at_call 10; refine (new_calls W.heap.size W (Nat.le_refl _)).mono ?_; rintro e w1 ⟨g, rfl, hi, hb, hg⟩; have HI := Aside0.mk hi; have HB := Aside0.mk hb; have HG := Aside0.mk hg; clear hi hb hg)
  refine (insert_yes W.heap.size g _ _ (some ⟨w1.heap.size, 0, none⟩) 2 [1, 2] _ (HI.out.below (below_alloc (Below.refl _ _) _)) rfl (by decide) (by decide) (by decide) (C_two w1 1 2) (Nat.le_trans HB.out.size (Below.alloc (Below.refl w1.heap.size w1) (Nat.le_refl _) _).size)).mono ?_
  rintro e w2 ⟨rfl, v1, hi, -, ht⟩
  have HI2 := Aside0.mk hi; have HB2 := Aside0.mk ((below_alloc HB.out _).trans ht.below); clear hi ht
  go_wp2_with (go_at_call 12; refine (motor_calls W.heap.size g v1 _ true _ HI2.out).mono ?_; rintro e w3 ⟨rfl, hi, ht⟩; have HI3 := Aside0.mk hi; have HB3 := Aside0.mk (HB2.out.trans ht.below); clear hi ht)
  go_loopg [2] 4148 (fun kq v2 w' => ∃ (j : Int) (d : Drv.D), v2 = .int .i64 j ∧ Aside0 (Is W.heap.size w' g v1 d ∧ Runs d [1, 2] j ∧ j + kq = 4148 ∧ 0 ≤ j) ∧ Aside0 (Below W.heap.size W w'))
  case atStart => exact ⟨0, _, rfl, ⟨HI3.out, by exact Runs.of_back (d := ⟨[1, 2], true, false, false, 4000, 0, -1, false, 0, 0⟩) rfl (by decide), by decide, by decide⟩, HB3⟩
  case round =>
    obtain ⟨j, d, rfl, HR, HB⟩ := hrel
    obtain ⟨hi, hr, hk, hj⟩ := HR.out
    have HBB := HB
    by_cases hlt : j < 4148
    · have hp : Drv.passes (2 : Nat) j = false := by unfold Drv.passes; rw [Int.emod_eq_of_lt (by omega) (by omega)]; simp; omega
      have HC := Aside0.mk (clock_runs W.heap.size g v1 d [1, 2] j _ hi hr false hp)
      have g1 : decide (j < 5000) = true := decide_eq_true (by omega)
      have HN := Aside0.mk (And.intro hr.next.1 (And.intro hk (And.intro hj hlt)))
      have b0 := hj
      have b1 : j ≤ 5000 := by omega
      clear HR hi hr hk hj hlt hp
      go_wp2_with (go_at_call 13; refine HC.out.mono ?_; rintro e w4 ⟨rfl, hi, ht⟩; have HI4 := Aside0.mk hi; have HB4 := Aside0.mk (HB.out.trans ht.below); clear hi ht)
      go_roundg (gk - 1)
      case measure => have := HN.out; omega
      case rel =>
        have := HN.out
        exact ⟨j + 1, _, rfl, ⟨HI4.out, HN.out.1, by omega, by omega⟩, HB4⟩
    · have hj8 : j = 4148 := by omega
      subst hj8
      have hp : Drv.passes (2 : Nat) 4148 = true := by decide
      have HC := Aside0.mk (clock_runs W.heap.size g v1 d [1, 2] 4148 _ hi hr true hp)
      have hn := hr.next
      have hpass : (Drv.clk d).1.passed = 0 := by rw [hn.2.2.1]; decide
      have hside : (Drv.clk d).1.side = [1, 2] := hn.1.2.1
      have HP := Aside0.mk (And.intro hpass hside)
      clear HR hi hr hk hj hlt hp hn hpass hside
      go_wp2_with (go_at_call 13; refine HC.out.mono ?_; rintro e w4 ⟨rfl, hi, ht⟩; have HI4 := Aside0.mk hi; have HB4 := Aside0.mk (HB.out.trans ht.below); clear hi ht)
      have HG := Aside0.mk (get_calls W.heap.size g v1 _ _ HI4.out (.inr (by rw [HP.out.1, HP.out.2]; decide)))
      have hget : getI (Drv.clk d).1 = 1 := by unfold getI; rw [HP.out.1, HP.out.2]; decide
      rw [hget] at HG
      clear hget
      go_wp2_with (go_at_call 14; refine HG.out.mono ?_; rintro e w5 ⟨rfl, n, rfl⟩)
      go_ret
      exact ⟨rfl, pw_below_drewN HB4.out n⟩
end Go.Proofs.Ytmfdmfflbdghfaa.Drive
