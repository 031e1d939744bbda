-- made by a program of this repo (wip/patch_print.py); not trusted: Lean checks it
import Derived.Test.YtkmdhpmgbcdlmaaDoorPWavePitchesx0
import Derived.Test.YtkmdhpmgbcdlmaaDoorPWavePitchesx1
namespace Go.Proofs.YtkmdhpmgbcdlmaaDoor.PWavePitches
open Go.RowKit Go.Proofs.YtkmdhpmgbcdlmaaDoorW.PrintWords Go.Proofs.YtkmdhpmgbcdlmaaDoorW.PrintLast Go.Proofs.YtkmdhpmgbcdlmaaDoorW.PrintMore
attribute [local go_sem] max2_int min2_int max_two min_two max_three min_three max_four min_four   -- for this text's walks alone
set_option linter.unusedVariables false
set_option linter.unusedSimpArgs false

/-! ### kotatsuref13_Pitch: function 15 -/
mutual
def kotatsuref13_Pitch.j0 : Nat → Int → Int → Int → Bool → Option (Int)
  | 0, _, _, _, _ => none
  | k + 1, x0, x1, x2, x34 => if x34 = true then (some 0) else ((kotatsuref13_floor.f (wrap64 (x1 * x2)) 16).bind fun bt102 => ((kotatsuref13_floor.f bt102.1 256).bind fun bt104 => (if bt102.2 > 0 then (kotatsuref13_Pitch.j1 k x0 x1 bt102.1 (decide (bt104.2 < 128))) else (kotatsuref13_Pitch.j1 k x0 x1 bt102.1 false))))
def kotatsuref13_Pitch.j1 : Nat → Int → Int → Int → Bool → Option (Int)
  | 0, _, _, _, _ => none
  | k + 1, x0, x1, x7, x52 => if x52 = true then (if x1 < 0 then (kotatsuref13_Pitch.j2 k x0 (wrap64 (x7 - 1))) else (kotatsuref13_Pitch.j2 k x0 (wrap64 (x7 + 2)))) else (kotatsuref13_Pitch.j2 k x0 x7)
def kotatsuref13_Pitch.j2 : Nat → Int → Int → Option (Int)
  | 0, _, _ => none
  | k + 1, x0, x7 => (kotatsuref13_floor.f (wrap64 (x7 + 64)) 256).bind fun bt106 => ((kotatsuref13_floor.f (wrap64 (x0 * (wrap64 (bt106.2 - 64)))) 64).bind fun bt108 => (if bt108.2 > 31 then (some (wrap64 (x0 + (wrap64 (bt108.1 + 1))))) else (some (wrap64 (x0 + bt108.1)))))
end
def kotatsuref13_Pitch.f (k : Nat) (a0 : Int) (a1 : Int) (a2 : Int) : Option (Int) := if a0 < 0 then (kotatsuref13_Pitch.j0 k a0 a1 a2 true) else (if a0 > 4095 then (kotatsuref13_Pitch.j0 k a0 a1 a2 true) else (if a1 < (-64) then (kotatsuref13_Pitch.j0 k a0 a1 a2 true) else (if a1 > 63 then (kotatsuref13_Pitch.j0 k a0 a1 a2 true) else (if a2 < 0 then (kotatsuref13_Pitch.j0 k a0 a1 a2 true) else (kotatsuref13_Pitch.j0 k a0 a1 a2 (decide (a2 > 63)))))))
theorem kotatsuref13_Pitch.mono_l : ∀ k, (∀ y0 y1 y2 y3, LeO (kotatsuref13_Pitch.j0 k y0 y1 y2 y3) (kotatsuref13_Pitch.j0 (k + 1) y0 y1 y2 y3)) ∧ (∀ y0 y1 y2 y3, LeO (kotatsuref13_Pitch.j1 k y0 y1 y2 y3) (kotatsuref13_Pitch.j1 (k + 1) y0 y1 y2 y3)) ∧ (∀ y0 y1, LeO (kotatsuref13_Pitch.j2 k y0 y1) (kotatsuref13_Pitch.j2 (k + 1) y0 y1))
  | 0 => ⟨fun _ _ _ _ r h => by simp [kotatsuref13_Pitch.j0] at h, fun _ _ _ _ r h => by simp [kotatsuref13_Pitch.j1] at h, fun _ _ r h => by simp [kotatsuref13_Pitch.j2] at h⟩
  | k + 1 => by
    obtain ⟨ih0, ih1, ih2⟩ := kotatsuref13_Pitch.mono_l k
    refine ⟨?_, ?_, ?_⟩
    · intro y0 y1 y2 y3
      unfold kotatsuref13_Pitch.j0
      repeat' first
      | (with_reducible exact ih0 _ _ _ _)
      | (with_reducible exact ih1 _ _ _ _)
      | (with_reducible exact ih2 _ _)
      | (with_reducible exact LeO.refl _)
      | (with_reducible exact LeO.none _)
      | (with_reducible refine LeO.ite ?_ ?_)
      | (with_reducible refine LeO.bind ?_ (fun _ => ?_))
      | exact ih0 _ _ _ _
      | exact ih1 _ _ _ _
      | exact ih2 _ _
      | exact LeO.none _
      | refine LeO.ite ?_ ?_
      | refine LeO.bind ?_ (fun _ => ?_)
    · intro y0 y1 y2 y3
      unfold kotatsuref13_Pitch.j1
      repeat' first
      | (with_reducible exact ih0 _ _ _ _)
      | (with_reducible exact ih1 _ _ _ _)
      | (with_reducible exact ih2 _ _)
      | (with_reducible exact LeO.refl _)
      | (with_reducible exact LeO.none _)
      | (with_reducible refine LeO.ite ?_ ?_)
      | (with_reducible refine LeO.bind ?_ (fun _ => ?_))
      | exact ih0 _ _ _ _
      | exact ih1 _ _ _ _
      | exact ih2 _ _
      | exact LeO.none _
      | refine LeO.ite ?_ ?_
      | refine LeO.bind ?_ (fun _ => ?_)
    · intro y0 y1
      unfold kotatsuref13_Pitch.j2
      repeat' first
      | (with_reducible exact ih0 _ _ _ _)
      | (with_reducible exact ih1 _ _ _ _)
      | (with_reducible exact ih2 _ _)
      | (with_reducible exact LeO.refl _)
      | (with_reducible exact LeO.none _)
      | (with_reducible refine LeO.ite ?_ ?_)
      | (with_reducible refine LeO.bind ?_ (fun _ => ?_))
      | exact ih0 _ _ _ _
      | exact ih1 _ _ _ _
      | exact ih2 _ _
      | exact LeO.none _
      | refine LeO.ite ?_ ?_
      | refine LeO.bind ?_ (fun _ => ?_)
theorem kotatsuref13_Pitch.mono : ∀ a0 a1 a2 k, LeO (kotatsuref13_Pitch.f k a0 a1 a2) (kotatsuref13_Pitch.f (k + 1) a0 a1 a2) := by
  intro a0 a1 a2 k
  obtain ⟨ih0, ih1, ih2⟩ := kotatsuref13_Pitch.mono_l k
  unfold kotatsuref13_Pitch.f
  repeat' first
      | (with_reducible exact ih0 _ _ _ _)
      | (with_reducible exact ih1 _ _ _ _)
      | (with_reducible exact ih2 _ _)
      | (with_reducible exact LeO.refl _)
      | (with_reducible exact LeO.none _)
      | (with_reducible refine LeO.ite ?_ ?_)
      | (with_reducible refine LeO.bind ?_ (fun _ => ?_))
      | exact ih0 _ _ _ _
      | exact ih1 _ _ _ _
      | exact ih2 _ _
      | exact LeO.none _
      | refine LeO.ite ?_ ?_
      | refine LeO.bind ?_ (fun _ => ?_)
set_option maxHeartbeats 8000000 in
set_option maxRecDepth 100000 in
theorem kotatsuref13_Pitch.calls (k : Nat) (a0 : Int) (a1 : Int) (a2 : Int) (r : Int) (w : World) (h : kotatsuref13_Pitch.f k a0 a1 a2 = some r) :
    Calls Tryd.prog 15 #[.int .i64 a0, .int .i64 a1, .int .i64 a2] w fun e w' => e = .returned (.int .i64 r) ∧ Drawn0 w w' := by
  have H : (if a0 < 0 then (kotatsuref13_Pitch.j0 k a0 a1 a2 true) else (if a0 > 4095 then (kotatsuref13_Pitch.j0 k a0 a1 a2 true) else (if a1 < (-64) then (kotatsuref13_Pitch.j0 k a0 a1 a2 true) else (if a1 > 63 then (kotatsuref13_Pitch.j0 k a0 a1 a2 true) else (if a2 < 0 then (kotatsuref13_Pitch.j0 k a0 a1 a2 true) else (kotatsuref13_Pitch.j0 k a0 a1 a2 (decide (a2 > 63)))))))) = some r := h
  clear h
  have HC4 := Aside0.mk H
  clear H
  go_enter Tryd.func15, Tryd.ntmps15
  go_upto_region 1 with (fail)
  go_cut [34] (fun v34 wc => ∃ (kq : Nat) (x34_3 : Bool), v34 = .bool x34_3 ∧ Aside0 (kotatsuref13_Pitch.j0 kq a0 a1 a2 x34_3 = some r) ∧ Aside0 (kq ≤ k) ∧ Drawn0 w wc)
  case first =>
    have H := HC4.out
    clear HC4
    by_cases c5 : a0 < 0
    · rw [if_pos c5] at H
      have c5b0 : decide (a0 < 0) = true := decide_eq_true c5
      clear c5
      (first | rw [c5b0] | (simp only [i64_w, i32_w]; rw [c5b0]) | skip)
      have H' := Aside0.mk H
      clear H
      go_wp2
      go_meet
      case rel => exact ⟨_, (true), (by first | rfl | (simp; done) | (simp [*]; done)), H', ⟨by first | omega | exact Nat.le_refl _⟩, by repeat (first | exact Drawn0.refl _ | apply Drawn0.step)⟩
    · rw [if_neg c5] at H
      have c5b0 : decide (a0 < 0) = false := decide_eq_false c5
      clear c5
      (first | rw [c5b0] | (simp only [i64_w, i32_w]; rw [c5b0]) | skip)
      by_cases c6 : a0 > 4095
      · rw [if_pos c6] at H
        have c6b0 : decide (4095 < a0) = true := decide_eq_true c6
        clear c6
        have H' := Aside0.mk H
        clear H
        go_wp2
        go_meet
        case rel => exact ⟨_, (true), (by first | rfl | (simp; done) | (simp [*]; done)), H', ⟨by first | omega | exact Nat.le_refl _⟩, by repeat (first | exact Drawn0.refl _ | apply Drawn0.step)⟩
      · rw [if_neg c6] at H
        have c6b0 : decide (4095 < a0) = false := decide_eq_false c6
        clear c6
        by_cases c7 : a1 < (-64)
        · rw [if_pos c7] at H
          have c7b0 : decide (a1 < (-64)) = true := decide_eq_true c7
          clear c7
          have H' := Aside0.mk H
          clear H
          go_wp2
          go_meet
          case rel => exact ⟨_, (true), (by first | rfl | (simp; done) | (simp [*]; done)), H', ⟨by first | omega | exact Nat.le_refl _⟩, by repeat (first | exact Drawn0.refl _ | apply Drawn0.step)⟩
        · rw [if_neg c7] at H
          have c7b0 : decide (a1 < (-64)) = false := decide_eq_false c7
          clear c7
          by_cases c8 : a1 > 63
          · rw [if_pos c8] at H
            have c8b0 : decide (63 < a1) = true := decide_eq_true c8
            clear c8
            have H' := Aside0.mk H
            clear H
            go_wp2
            go_meet
            case rel => exact ⟨_, (true), (by first | rfl | (simp; done) | (simp [*]; done)), H', ⟨by first | omega | exact Nat.le_refl _⟩, by repeat (first | exact Drawn0.refl _ | apply Drawn0.step)⟩
          · rw [if_neg c8] at H
            have c8b0 : decide (63 < a1) = false := decide_eq_false c8
            clear c8
            by_cases c9 : a2 < 0
            · rw [if_pos c9] at H
              have c9b0 : decide (a2 < 0) = true := decide_eq_true c9
              clear c9
              have H' := Aside0.mk H
              clear H
              go_wp2
              go_meet
              case rel => exact ⟨_, (true), (by first | rfl | (simp; done) | (simp [*]; done)), H', ⟨by first | omega | exact Nat.le_refl _⟩, by repeat (first | exact Drawn0.refl _ | apply Drawn0.step)⟩
            · rw [if_neg c9] at H
              have c9b0 : decide (a2 < 0) = false := decide_eq_false c9
              clear c9
              have H' := Aside0.mk H
              clear H
              go_wp2
              go_meet
              case rel => exact ⟨_, (decide (a2 > 63)), (by first | rfl | (simp; done) | (simp [*]; done)), H', ⟨by first | omega | exact Nat.le_refl _⟩, by repeat (first | exact Drawn0.refl _ | apply Drawn0.step)⟩
  case rest =>
    clear HC4
    try clear c1
    try clear p2
    try clear c5
    try clear c5b0
    try clear c6
    try clear c6b0
    try clear c7
    try clear c7b0
    try clear c8
    try clear c8b0
    try clear c9
    try clear c9b0
    obtain ⟨kq, x34_3, rfl, HA, HJ3, ⟨mc3, rfl⟩⟩ := hcut
    cases kq with
    | zero => exact absurd HA.out (by simp [kotatsuref13_Pitch.j0])
    | succ kj3 =>
      have H := HA.out
      clear HA
      simp only [kotatsuref13_Pitch.j0] at H
      by_cases c10 : x34_3 = true
      · subst c10
        have H1 : (some 0) = some r := by rw [if_pos rfl] at H; exact H
        clear H
        have H := H1
        clear H1
        obtain rfl := Option.some.inj H
        go_wp2
        go_ret
        exact ⟨by first | rfl | (simp; done) | (simp [*]; done), by repeat (first | exact Drawn0.refl _ | apply Drawn0.step)⟩
      · replace c10 := Bool.eq_false_iff.mpr c10
        subst c10
        have H1 : ((kotatsuref13_floor.f (wrap64 (a1 * a2)) 16).bind fun bt102 => ((kotatsuref13_floor.f bt102.1 256).bind fun bt104 => (if bt102.2 > 0 then (kotatsuref13_Pitch.j1 kj3 a0 a1 bt102.1 (decide (bt104.2 < 128))) else (kotatsuref13_Pitch.j1 kj3 a0 a1 bt102.1 false)))) = some r := by rw [if_neg (show ¬ (false = true) by decide)] at H; exact H
        clear H
        have H := H1
        clear H1
        replace H := Option.bind_eq_some_iff.mp H
        obtain ⟨⟨t102, t103⟩, A110, H⟩ := H
        replace H : ((kotatsuref13_floor.f t102 256).bind fun bt104 => (if t103 > 0 then (kotatsuref13_Pitch.j1 kj3 a0 a1 t102 (decide (bt104.2 < 128))) else (kotatsuref13_Pitch.j1 kj3 a0 a1 t102 false))) = some r := H
        have A11 := Aside0.mk A110
        clear A110
        replace H := Option.bind_eq_some_iff.mp H
        obtain ⟨⟨t104, t105⟩, A120, H⟩ := H
        replace H : (if t103 > 0 then (kotatsuref13_Pitch.j1 kj3 a0 a1 t102 (decide (t105 < 128))) else (kotatsuref13_Pitch.j1 kj3 a0 a1 t102 false)) = some r := H
        have A12 := Aside0.mk A120
        clear A120
        have HC13 := Aside0.mk H
        clear H
        go_upto_region 5 with (first | ((with_reducible refine gate_callee (f := 24) rfl ?_); refine goesL_ (some 39) rfl rfl Tryd.func24 (by kernel_rfl) rfl #[.int .i64 (wrap64 (a1 * a2)), .int .i64 16] rfl (by (try simp only [List.map_toArray, List.map_cons, List.map_nil]); first | done | rfl | (simp only [List.length_drop, List.length_take]; rfl)) ?_; (with_reducible refine (kotatsuref13_floor.calls (wrap64 (a1 * a2)) 16 t102 t103 _ A11.out).mono ?_); rintro e w' ⟨rfl, ⟨nd, rfl⟩⟩; refine ⟨_, rfl, ?_⟩) | ((with_reducible refine gate_callee (f := 24) rfl ?_); refine goesL_ (some 44) rfl rfl Tryd.func24 (by kernel_rfl) rfl #[.int .i64 t102, .int .i64 256] rfl (by (try simp only [List.map_toArray, List.map_cons, List.map_nil]); first | done | rfl | (simp only [List.length_drop, List.length_take]; rfl)) ?_; (with_reducible refine (kotatsuref13_floor.calls t102 256 t104 t105 _ A12.out).mono ?_); rintro e w' ⟨rfl, ⟨nd, rfl⟩⟩; refine ⟨_, rfl, ?_⟩))
        (try simp only [Act.put, List.setIfInBounds_toArray, List.set_cons_zero, List.set_cons_succ])
        go_cut [52] (fun v52 wc => ∃ (kq : Nat) (x52_12 : Bool), v52 = .bool x52_12 ∧ Aside0 (kotatsuref13_Pitch.j1 kq a0 a1 t102 x52_12 = some r) ∧ Aside0 (kq ≤ kj3) ∧ Drawn0 w wc)
        case first =>
          have H := HC13.out
          clear HC13
          by_cases c14 : t103 > 0
          · rw [if_pos c14] at H
            have c14b0 : decide (0 < t103) = true := decide_eq_true c14
            clear c14
            (first | rw [c14b0] | (simp only [i64_w, i32_w]; rw [c14b0]) | skip)
            have H' := Aside0.mk H
            clear H
            go_wp2
            go_meet
            case rel => exact ⟨_, (decide (t105 < 128)), (by first | rfl | (simp; done) | (simp [*]; done)), H', ⟨by have := HJ3.out; first | omega | exact Nat.le_refl _⟩, by repeat (first | exact Drawn0.refl _ | apply Drawn0.step)⟩
          · rw [if_neg c14] at H
            have c14b0 : decide (0 < t103) = false := decide_eq_false c14
            clear c14
            (first | rw [c14b0] | (simp only [i64_w, i32_w]; rw [c14b0]) | skip)
            have H' := Aside0.mk H
            clear H
            go_wp2
            go_meet
            case rel => exact ⟨_, (false), (by first | rfl | (simp; done) | (simp [*]; done)), H', ⟨by have := HJ3.out; first | omega | exact Nat.le_refl _⟩, by repeat (first | exact Drawn0.refl _ | apply Drawn0.step)⟩
        case rest =>
          clear HC13
          try clear c1
          try clear c2
          try clear p2
          try clear c3
          try clear c5
          try clear c5b0
          try clear c6
          try clear c6b0
          try clear p6
          try clear c7
          try clear c7b0
          try clear c8
          try clear c8b0
          try clear c9
          try clear c9b0
          try clear c10
          try clear c14
          try clear c14b0
          try clear p2
          obtain ⟨kq, x52_12, rfl, HA, HJ12, ⟨mc12, rfl⟩⟩ := hcut
          cases kq with
          | zero => exact absurd HA.out (by simp [kotatsuref13_Pitch.j1])
          | succ kj12 =>
            have H := HA.out
            clear HA
            simp only [kotatsuref13_Pitch.j1] at H
            have HC15 := Aside0.mk H
            clear H
            go_upto_if 52 with (fail)
            go_cut [7] (fun v7 wc => ∃ (kq : Nat) (x7_14 : Int), v7 = .int .i64 x7_14 ∧ Aside0 (kotatsuref13_Pitch.j2 kq a0 x7_14 = some r) ∧ Aside0 (kq ≤ kj12) ∧ Drawn0 w wc)
            case first =>
              have H := HC15.out
              clear HC15
              by_cases c16 : x52_12 = true
              · subst c16
                have H1 : (if a1 < 0 then (kotatsuref13_Pitch.j2 kj12 a0 (wrap64 (t102 - 1))) else (kotatsuref13_Pitch.j2 kj12 a0 (wrap64 (t102 + 2)))) = some r := by rw [if_pos rfl] at H; exact H
                clear H
                have H := H1
                clear H1
                by_cases c17 : a1 < 0
                · rw [if_pos c17] at H
                  have c17b0 : decide (a1 < 0) = true := decide_eq_true c17
                  clear c17
                  (first | rw [c17b0] | (simp only [i64_w, i32_w]; rw [c17b0]) | skip)
                  have H' := Aside0.mk H
                  clear H
                  go_wp2
                  go_meet
                  case rel => exact ⟨_, (wrap64 (t102 - 1)), (by first | rfl | (simp; done) | (simp [*]; done)), H', ⟨by have := HJ3.out; have := HJ12.out; first | omega | exact Nat.le_refl _⟩, by repeat (first | exact Drawn0.refl _ | apply Drawn0.step)⟩
                · rw [if_neg c17] at H
                  have c17b0 : decide (a1 < 0) = false := decide_eq_false c17
                  clear c17
                  (first | rw [c17b0] | (simp only [i64_w, i32_w]; rw [c17b0]) | skip)
                  have H' := Aside0.mk H
                  clear H
                  go_wp2
                  go_meet
                  case rel => exact ⟨_, (wrap64 (t102 + 2)), (by first | rfl | (simp; done) | (simp [*]; done)), H', ⟨by have := HJ3.out; have := HJ12.out; first | omega | exact Nat.le_refl _⟩, by repeat (first | exact Drawn0.refl _ | apply Drawn0.step)⟩
              · replace c16 := Bool.eq_false_iff.mpr c16
                subst c16
                have H1 : (kotatsuref13_Pitch.j2 kj12 a0 t102) = some r := by rw [if_neg (show ¬ (false = true) by decide)] at H; exact H
                clear H
                have H := H1
                clear H1
                have H' := Aside0.mk H
                clear H
                go_wp2
                go_meet
                case rel => exact ⟨_, (t102), (by first | rfl | (simp; done) | (simp [*]; done)), H', ⟨by have := HJ3.out; have := HJ12.out; first | omega | exact Nat.le_refl _⟩, by repeat (first | exact Drawn0.refl _ | apply Drawn0.step)⟩
            case rest =>
              clear HC15
              try clear c1
              try clear c2
              try clear p2
              try clear c3
              try clear c5
              try clear c5b0
              try clear c6
              try clear c6b0
              try clear p6
              try clear c7
              try clear c7b0
              try clear c8
              try clear c8b0
              try clear c9
              try clear c9b0
              try clear c10
              try clear c12
              try clear c14
              try clear c14b0
              try clear c15
              try clear c16
              try clear c17
              try clear c17b0
              try clear p2
              try clear p6
              obtain ⟨kq, x7_14, rfl, HA, HJ14, ⟨mc14, rfl⟩⟩ := hcut
              cases kq with
              | zero => exact absurd HA.out (by simp [kotatsuref13_Pitch.j2])
              | succ kj14 =>
                have H := HA.out
                clear HA
                simp only [kotatsuref13_Pitch.j2] at H
                replace H := Option.bind_eq_some_iff.mp H
                obtain ⟨⟨t106, t107⟩, A180, H⟩ := H
                replace H : ((kotatsuref13_floor.f (wrap64 (a0 * (wrap64 (t107 - 64)))) 64).bind fun bt108 => (if bt108.2 > 31 then (some (wrap64 (a0 + (wrap64 (bt108.1 + 1))))) else (some (wrap64 (a0 + bt108.1))))) = some r := H
                have A18 := Aside0.mk A180
                clear A180
                replace H := Option.bind_eq_some_iff.mp H
                obtain ⟨⟨t108, t109⟩, A190, H⟩ := H
                replace H : (if t109 > 31 then (some (wrap64 (a0 + (wrap64 (t108 + 1))))) else (some (wrap64 (a0 + t108)))) = some r := H
                have A19 := Aside0.mk A190
                clear A190
                by_cases c20 : t109 > 31
                · rw [if_pos c20] at H
                  have c20b0 : decide (31 < t109) = true := decide_eq_true c20
                  clear c20
                  obtain rfl := Option.some.inj H
                  go_wp2_with (first | ((with_reducible refine gate_callee (f := 24) rfl ?_); refine goesL_ (some 62) rfl rfl Tryd.func24 (by kernel_rfl) rfl #[.int .i64 (wrap64 (x7_14 + 64)), .int .i64 256] rfl (by (try simp only [List.map_toArray, List.map_cons, List.map_nil]); first | done | rfl | (simp only [List.length_drop, List.length_take]; rfl)) ?_; (with_reducible refine (kotatsuref13_floor.calls (wrap64 (x7_14 + 64)) 256 t106 t107 _ A18.out).mono ?_); rintro e w' ⟨rfl, ⟨nd, rfl⟩⟩; refine ⟨_, rfl, ?_⟩) | ((with_reducible refine gate_callee (f := 24) rfl ?_); refine goesL_ (some 71) rfl rfl Tryd.func24 (by kernel_rfl) rfl #[.int .i64 (wrap64 (a0 * (wrap64 (t107 - 64)))), .int .i64 64] rfl (by (try simp only [List.map_toArray, List.map_cons, List.map_nil]); first | done | rfl | (simp only [List.length_drop, List.length_take]; rfl)) ?_; (with_reducible refine (kotatsuref13_floor.calls (wrap64 (a0 * (wrap64 (t107 - 64)))) 64 t108 t109 _ A19.out).mono ?_); rintro e w' ⟨rfl, ⟨nd, rfl⟩⟩; refine ⟨_, rfl, ?_⟩))
                  go_ret
                  exact ⟨by first | rfl | (simp; done) | (simp [*]; done), by repeat (first | exact Drawn0.refl _ | apply Drawn0.step)⟩
                · rw [if_neg c20] at H
                  have c20b0 : decide (31 < t109) = false := decide_eq_false c20
                  clear c20
                  obtain rfl := Option.some.inj H
                  go_wp2_with (first | ((with_reducible refine gate_callee (f := 24) rfl ?_); refine goesL_ (some 62) rfl rfl Tryd.func24 (by kernel_rfl) rfl #[.int .i64 (wrap64 (x7_14 + 64)), .int .i64 256] rfl (by (try simp only [List.map_toArray, List.map_cons, List.map_nil]); first | done | rfl | (simp only [List.length_drop, List.length_take]; rfl)) ?_; (with_reducible refine (kotatsuref13_floor.calls (wrap64 (x7_14 + 64)) 256 t106 t107 _ A18.out).mono ?_); rintro e w' ⟨rfl, ⟨nd, rfl⟩⟩; refine ⟨_, rfl, ?_⟩) | ((with_reducible refine gate_callee (f := 24) rfl ?_); refine goesL_ (some 71) rfl rfl Tryd.func24 (by kernel_rfl) rfl #[.int .i64 (wrap64 (a0 * (wrap64 (t107 - 64)))), .int .i64 64] rfl (by (try simp only [List.map_toArray, List.map_cons, List.map_nil]); first | done | rfl | (simp only [List.length_drop, List.length_take]; rfl)) ?_; (with_reducible refine (kotatsuref13_floor.calls (wrap64 (a0 * (wrap64 (t107 - 64)))) 64 t108 t109 _ A19.out).mono ?_); rintro e w' ⟨rfl, ⟨nd, rfl⟩⟩; refine ⟨_, rfl, ?_⟩))
                  go_ret
                  exact ⟨by first | rfl | (simp; done) | (simp [*]; done), by repeat (first | exact Drawn0.refl _ | apply Drawn0.step)⟩

-- NOT PRINTED: function 4 (kotatsulaw13_WavePitches)

end Go.Proofs.YtkmdhpmgbcdlmaaDoor.PWavePitches
