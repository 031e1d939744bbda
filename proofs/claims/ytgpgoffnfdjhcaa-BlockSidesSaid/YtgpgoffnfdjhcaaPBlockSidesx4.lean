-- made by a program of this repo (wip/patch_print.py); not trusted: Lean checks it
import Derived.Test.YtgpgoffnfdjhcaaPBlockSidesx0
import Derived.Test.YtgpgoffnfdjhcaaPBlockSidesx2
namespace Go.Proofs.Ytgpgoffnfdjhcaa.PBlockSides
open Go.RowKit Go.Proofs.YtgpgoffnfdjhcaaW.PrintWords Go.Proofs.YtgpgoffnfdjhcaaW.PrintLast Go.Proofs.YtgpgoffnfdjhcaaW.PrintMore
attribute [local go_sem] max2_int min2_int max_two min_two max_three min_three max_four min_four   -- for this text's walks alone
set_option linter.unusedVariables false
set_option linter.unusedSimpArgs false

/-! ### kotatsuref01_Same: function 24 -/
def kotatsuref01_Same.l0 : Nat → List Int → List Int → Int → Int → Option (Bool)
  | 0, _, _, _, _ => none
  | k + 1, x0, x1, x12, x13 => if x13 < x12 then (if 0 ≤ x13 then (if x13 < (x0.length : Int) then (if x13 < (x1.length : Int) then (if (rd x0 x13) = (rd x1 x13) then (kotatsuref01_Same.l0 k x0 x1 x12 (wrap64 (x13 + 1))) else (some false)) else (none)) else (none)) else (none)) else (some true)
def kotatsuref01_Same.f (k : Nat) (l0 : List Int) (l1 : List Int) : Option (Bool) := if (l0.length : Int) = (l1.length : Int) then (kotatsuref01_Same.l0 k l0 l1 (l0.length : Int) 0) else (some false)
theorem kotatsuref01_Same.mono_l : ∀ k, (∀ y0 y1 y2 y3, LeO (kotatsuref01_Same.l0 k y0 y1 y2 y3) (kotatsuref01_Same.l0 (k + 1) y0 y1 y2 y3))
  | 0 => fun _ _ _ _ r h => by simp [kotatsuref01_Same.l0] at h
  | k + 1 => by
    have ih0 := kotatsuref01_Same.mono_l k
    · intro y0 y1 y2 y3
      unfold kotatsuref01_Same.l0
      repeat' first
      | (with_reducible exact ih0 _ _ _ _)
      | (with_reducible exact LeO.refl _)
      | (with_reducible exact LeO.none _)
      | (with_reducible refine LeO.ite ?_ ?_)
      | (with_reducible refine LeO.bind ?_ (fun _ => ?_))
      | exact ih0 _ _ _ _
      | exact LeO.none _
      | refine LeO.ite ?_ ?_
      | refine LeO.bind ?_ (fun _ => ?_)
theorem kotatsuref01_Same.mono : ∀ a0 a1 k, LeO (kotatsuref01_Same.f k a0 a1) (kotatsuref01_Same.f (k + 1) a0 a1) := by
  intro a0 a1 k
  have ih0 := kotatsuref01_Same.mono_l k
  unfold kotatsuref01_Same.f
  repeat' first
      | (with_reducible exact ih0 _ _ _ _)
      | (with_reducible exact LeO.refl _)
      | (with_reducible exact LeO.none _)
      | (with_reducible refine LeO.ite ?_ ?_)
      | (with_reducible refine LeO.bind ?_ (fun _ => ?_))
      | exact ih0 _ _ _ _
      | exact LeO.none _
      | refine LeO.ite ?_ ?_
      | refine LeO.bind ?_ (fun _ => ?_)
set_option maxHeartbeats 8000000 in
set_option maxRecDepth 100000 in
theorem kotatsuref01_Same.calls (k : Nat) (A0 : Option Addr) (c0 : Nat) (l0 : List Int) (A1 : Option Addr) (c1 : Nat) (l1 : List Int) (r : Bool) (w : World) (hr0 : Kd.C (Kd.int .u8) w A0 l0.length l0) (hc0 : l0.length ≤ c0) (hr1 : Kd.C (Kd.int .u8) w A1 l1.length l1) (hc1 : l1.length ≤ c1) (h : kotatsuref01_Same.f k l0 l1 = some r) :
    Calls Try.prog 24 #[.slice A0 l0.length c0, .slice A1 l1.length c1] w fun e w' => e = .returned (.bool r) ∧ Drawn0 w w' := by
  have HR0 := Aside0.mk hr0
  have HC0 := Aside0.mk hc0
  clear hr0 hc0
  have HR1 := Aside0.mk hr1
  have HC1 := Aside0.mk hc1
  clear hr1 hc1
  have H : (if (l0.length : Int) = (l1.length : Int) then (kotatsuref01_Same.l0 k l0 l1 (l0.length : Int) 0) else (some false)) = some r := h
  clear h
  by_cases c3 : (l0.length : Int) = (l1.length : Int)
  · rw [if_pos c3] at H
    have c3b0 : ((l0.length : Int) == (l1.length : Int)) = true := beq_iff_eq.mpr c3
    have c3b1 : ((l0.length : Int) != (l1.length : Int)) = false := bne_eq_false_iff_eq.mpr c3
    have c3b2 : (l0.length == l1.length) = true := by first | simpa using c3 | (simp at c3 ⊢; omega)
    clear c3
    have H' := Aside0.mk H
    clear H
    go_enter Try.func24, Try.ntmps24
    go_wp2
    repeat (go_quiet (fail); try go_wp2)
    go_loopg [13] k (fun kq v13 w' => ∃ (x13_1 : Int), v13 = .int .i64 x13_1 ∧ Aside0 (kotatsuref01_Same.l0 kq l0 l1 (l0.length : Int) x13_1 = some r) ∧ Aside0 (kq ≤ k) ∧ Drawn0 w w')
    case atStart => exact ⟨(0), (by first | rfl | (simp; done) | (simp [*]; done)), H', ⟨Nat.le_refl _⟩, by repeat (first | exact Drawn0.refl _ | apply Drawn0.step)⟩
    case round =>
      clear H'
      try clear c1
      try clear c2
      try clear p2
      try clear c3
      try clear c3b0
      try clear c3b1
      try clear c3b2
      obtain ⟨x13_1, rfl, HA, HK1, ⟨m1, rfl⟩⟩ := hrel
      cases gk with
      | zero => exact absurd HA.out (by simp [kotatsuref01_Same.l0])
      | succ k1 =>
        have H := HA.out
        clear HA
        simp only [kotatsuref01_Same.l0] at H
        by_cases c4 : x13_1 < (l0.length : Int)
        · rw [if_pos c4] at H
          have c4b0 : decide (x13_1 < (l0.length : Int)) = true := decide_eq_true c4
          clear c4
          by_cases c5 : 0 ≤ x13_1
          · rw [if_pos c5] at H
            have c5b0 : decide (0 ≤ x13_1) = true := decide_eq_true c5
            clear c5
            by_cases c6 : x13_1 < (l0.length : Int)
            · rw [if_pos c6] at H
              have c6b0 : decide (x13_1 < (l0.length : Int)) = true := decide_eq_true c6
              clear c6
              by_cases c7 : x13_1 < (l1.length : Int)
              · rw [if_pos c7] at H
                have c7b0 : decide (x13_1 < (l1.length : Int)) = true := decide_eq_true c7
                clear c7
                by_cases c8 : (rd l0 x13_1) = (rd l1 x13_1)
                · rw [if_pos c8] at H
                  have c8b0 : ((rd l0 x13_1) == (rd l1 x13_1)) = true := beq_iff_eq.mpr c8
                  have c8b1 : ((rd l0 x13_1) != (rd l1 x13_1)) = false := bne_eq_false_iff_eq.mpr c8
                  clear c8
                  have H' := Aside0.mk H
                  clear H
                  have p192 : 0 ≤ (x13_1 : Int) := of_decide_eq_true (by first | (with_reducible assumption) | assumption)
                  have q192 : x13_1 < (l0.length : Int) := of_decide_eq_true (by first | (with_reducible assumption) | assumption)
                  obtain ⟨ad192, e192, hx192_0⟩ := Kd.at_int HR0.out x13_1 p192 q192
                  cases e192
                  replace p192 := eq_true p192
                  replace q192 := eq_true q192
                  have p193 : 0 ≤ (x13_1 : Int) := of_decide_eq_true (by first | (with_reducible assumption) | assumption)
                  have q193 : x13_1 < (l1.length : Int) := of_decide_eq_true (by first | (with_reducible assumption) | assumption)
                  obtain ⟨ad193, e193, hx193_0⟩ := Kd.at_int HR1.out x13_1 p193 q193
                  cases e193
                  replace p193 := eq_true p193
                  replace q193 := eq_true q193
                  go_wp2
                  repeat (go_quiet (fail); try go_wp2)
                  go_roundg k1
                  case measure => have := HK1.out; omega
                  case rel => exact ⟨(wrap64 (x13_1 + 1)), (by first | rfl | (simp; done) | (simp [*]; done)), H', ⟨by have := HK1.out; omega⟩, by repeat (first | exact Drawn0.refl _ | apply Drawn0.step)⟩
                · rw [if_neg c8] at H
                  have c8b0 : ((rd l0 x13_1) == (rd l1 x13_1)) = false := beq_eq_false_iff_ne.mpr c8
                  have c8b1 : ((rd l0 x13_1) != (rd l1 x13_1)) = true := bne_iff_ne.mpr c8
                  obtain rfl := Option.some.inj H
                  have p192 : 0 ≤ (x13_1 : Int) := of_decide_eq_true (by first | (with_reducible assumption) | assumption)
                  have q192 : x13_1 < (l0.length : Int) := of_decide_eq_true (by first | (with_reducible assumption) | assumption)
                  obtain ⟨ad192, e192, hx192_0⟩ := Kd.at_int HR0.out x13_1 p192 q192
                  cases e192
                  replace p192 := eq_true p192
                  replace q192 := eq_true q192
                  have p193 : 0 ≤ (x13_1 : Int) := of_decide_eq_true (by first | (with_reducible assumption) | assumption)
                  have q193 : x13_1 < (l1.length : Int) := of_decide_eq_true (by first | (with_reducible assumption) | assumption)
                  obtain ⟨ad193, e193, hx193_0⟩ := Kd.at_int HR1.out x13_1 p193 q193
                  cases e193
                  replace p193 := eq_true p193
                  replace q193 := eq_true q193
                  go_wp2
                  repeat (go_quiet (fail); try go_wp2)
                  go_ret
                  exact ⟨by first | rfl | (simp; done) | (simp [*]; done), by repeat (first | exact Drawn0.refl _ | apply Drawn0.step)⟩
              · rw [if_neg c7] at H
                exact absurd H (by simp)
            · rw [if_neg c6] at H
              exact absurd H (by simp)
          · rw [if_neg c5] at H
            exact absurd H (by simp)
        · rw [if_neg c4] at H
          have c4b0 : decide (x13_1 < (l0.length : Int)) = false := decide_eq_false c4
          clear c4
          obtain rfl := Option.some.inj H
          go_wp2
          repeat (go_quiet (fail); try go_wp2)
          go_ret
          exact ⟨by first | rfl | (simp; done) | (simp [*]; done), by repeat (first | exact Drawn0.refl _ | apply Drawn0.step)⟩
  · rw [if_neg c3] at H
    have c3b0 : ((l0.length : Int) == (l1.length : Int)) = false := beq_eq_false_iff_ne.mpr c3
    have c3b1 : ((l0.length : Int) != (l1.length : Int)) = true := bne_iff_ne.mpr c3
    have c3b2 : (l0.length == l1.length) = false := by first | simpa using c3 | (simp at c3 ⊢; omega)
    obtain rfl := Option.some.inj H
    go_enter Try.func24, Try.ntmps24
    go_wp2
    repeat (go_quiet (fail); try go_wp2)
    go_ret
    exact ⟨by first | rfl | (simp; done) | (simp [*]; done), by repeat (first | exact Drawn0.refl _ | apply Drawn0.step)⟩

/-! ### kotatsuref05_Same: function 16 -/
def kotatsuref05_Same.l0 : Nat → List (S61) → List (S61) → Int → Int → Option (Bool)
  | 0, _, _, _, _ => none
  | k + 1, x0, x1, x12, x13 => if x13 < x12 then (if 0 ≤ x13 then (if x13 < (x0.length : Int) then (if x13 < (x1.length : Int) then (if ((rd_T61 x0 x13).f0) = ((rd_T61 x1 x13).f0) then ((kotatsuref01_Same.f k ((rd_T61 x0 x13).f1) ((rd_T61 x1 x13).f1)).bind fun t198 => (if t198 = true then (kotatsuref05_Same.l0 k x0 x1 x12 (wrap64 (x13 + 1))) else (some false))) else (some false)) else (none)) else (none)) else (none)) else (some true)
def kotatsuref05_Same.f (k : Nat) (l0 : List (S61)) (l1 : List (S61)) : Option (Bool) := if (l0.length : Int) = (l1.length : Int) then (kotatsuref05_Same.l0 k l0 l1 (l0.length : Int) 0) else (some false)
theorem kotatsuref05_Same.mono_l : ∀ k, (∀ y0 y1 y2 y3, LeO (kotatsuref05_Same.l0 k y0 y1 y2 y3) (kotatsuref05_Same.l0 (k + 1) y0 y1 y2 y3))
  | 0 => fun _ _ _ _ r h => by simp [kotatsuref05_Same.l0] at h
  | k + 1 => by
    have ih0 := kotatsuref05_Same.mono_l k
    · intro y0 y1 y2 y3
      unfold kotatsuref05_Same.l0
      repeat' first
      | (with_reducible exact ih0 _ _ _ _)
      | (with_reducible exact kotatsuref01_Same.mono _ _ _)
      | (with_reducible exact LeO.refl _)
      | (with_reducible exact LeO.none _)
      | (with_reducible refine LeO.ite ?_ ?_)
      | (with_reducible refine LeO.bind ?_ (fun _ => ?_))
      | exact ih0 _ _ _ _
      | exact kotatsuref01_Same.mono _ _ _
      | exact LeO.none _
      | refine LeO.ite ?_ ?_
      | refine LeO.bind ?_ (fun _ => ?_)
theorem kotatsuref05_Same.mono : ∀ a0 a1 k, LeO (kotatsuref05_Same.f k a0 a1) (kotatsuref05_Same.f (k + 1) a0 a1) := by
  intro a0 a1 k
  have ih0 := kotatsuref05_Same.mono_l k
  unfold kotatsuref05_Same.f
  repeat' first
      | (with_reducible exact ih0 _ _ _ _)
      | (with_reducible exact kotatsuref01_Same.mono _ _ _)
      | (with_reducible exact LeO.refl _)
      | (with_reducible exact LeO.none _)
      | (with_reducible refine LeO.ite ?_ ?_)
      | (with_reducible refine LeO.bind ?_ (fun _ => ?_))
      | exact ih0 _ _ _ _
      | exact kotatsuref01_Same.mono _ _ _
      | exact LeO.none _
      | refine LeO.ite ?_ ?_
      | refine LeO.bind ?_ (fun _ => ?_)
set_option maxHeartbeats 8000000 in
set_option maxRecDepth 100000 in
theorem kotatsuref05_Same.calls (k : Nat) (A0 : Option Addr) (c0 : Nat) (l0 : List (S61)) (A1 : Option Addr) (c1 : Nat) (l1 : List (S61)) (r : Bool) (w : World) (hr0 : Kd.C k61 w A0 l0.length l0) (hc0 : l0.length ≤ c0) (hr1 : Kd.C k61 w A1 l1.length l1) (hc1 : l1.length ≤ c1) (h : kotatsuref05_Same.f k l0 l1 = some r) :
    Calls Try.prog 16 #[.slice A0 l0.length c0, .slice A1 l1.length c1] w fun e w' => e = .returned (.bool r) ∧ Drawn0 w w' := by
  have HR0 := Aside0.mk hr0
  have HC0 := Aside0.mk hc0
  clear hr0 hc0
  have HR1 := Aside0.mk hr1
  have HC1 := Aside0.mk hc1
  clear hr1 hc1
  have H : (if (l0.length : Int) = (l1.length : Int) then (kotatsuref05_Same.l0 k l0 l1 (l0.length : Int) 0) else (some false)) = some r := h
  clear h
  by_cases c3 : (l0.length : Int) = (l1.length : Int)
  · rw [if_pos c3] at H
    have c3b0 : ((l0.length : Int) == (l1.length : Int)) = true := beq_iff_eq.mpr c3
    have c3b1 : ((l0.length : Int) != (l1.length : Int)) = false := bne_eq_false_iff_eq.mpr c3
    have c3b2 : (l0.length == l1.length) = true := by first | simpa using c3 | (simp at c3 ⊢; omega)
    clear c3
    have H' := Aside0.mk H
    clear H
    go_enter Try.func16, Try.ntmps16
    go_wp2
    repeat (go_quiet (fail); try go_wp2)
    go_loopg [13] k (fun kq v13 w' => ∃ (x13_1 : Int), v13 = .int .i64 x13_1 ∧ Aside0 (kotatsuref05_Same.l0 kq l0 l1 (l0.length : Int) x13_1 = some r) ∧ Aside0 (kq ≤ k) ∧ Drawn0 w w')
    case atStart => exact ⟨(0), (by first | rfl | (simp; done) | (simp [*]; done)), H', ⟨Nat.le_refl _⟩, by repeat (first | exact Drawn0.refl _ | apply Drawn0.step)⟩
    case round =>
      clear H'
      try clear c1
      try clear p2
      try clear c3
      try clear c3b0
      try clear c3b1
      try clear c3b2
      obtain ⟨x13_1, rfl, HA, HK1, ⟨m1, rfl⟩⟩ := hrel
      cases gk with
      | zero => exact absurd HA.out (by simp [kotatsuref05_Same.l0])
      | succ k1 =>
        have H := HA.out
        clear HA
        simp only [kotatsuref05_Same.l0] at H
        by_cases c4 : x13_1 < (l0.length : Int)
        · rw [if_pos c4] at H
          have c4b0 : decide (x13_1 < (l0.length : Int)) = true := decide_eq_true c4
          clear c4
          by_cases c5 : 0 ≤ x13_1
          · rw [if_pos c5] at H
            have c5b0 : decide (0 ≤ x13_1) = true := decide_eq_true c5
            clear c5
            by_cases c6 : x13_1 < (l0.length : Int)
            · rw [if_pos c6] at H
              have c6b0 : decide (x13_1 < (l0.length : Int)) = true := decide_eq_true c6
              clear c6
              by_cases c7 : x13_1 < (l1.length : Int)
              · rw [if_pos c7] at H
                have c7b0 : decide (x13_1 < (l1.length : Int)) = true := decide_eq_true c7
                clear c7
                by_cases c8 : ((rd_T61 l0 x13_1).f0) = ((rd_T61 l1 x13_1).f0)
                · rw [if_pos c8] at H
                  have c8b0 : (((rd_T61 l0 x13_1).f0) == ((rd_T61 l1 x13_1).f0)) = true := beq_iff_eq.mpr c8
                  have c8b1 : (((rd_T61 l0 x13_1).f0) != ((rd_T61 l1 x13_1).f0)) = false := bne_eq_false_iff_eq.mpr c8
                  clear c8
                  replace H := Option.bind_eq_some_iff.mp H
                  obtain ⟨t198, A90, H⟩ := H
                  replace H : (if t198 = true then (kotatsuref05_Same.l0 k1 l0 l1 (l0.length : Int) (wrap64 (x13_1 + 1))) else (some false)) = some r := H
                  have A9 := Aside0.mk A90
                  clear A90
                  by_cases c10 : t198 = true
                  · subst c10
                    have H1 : (kotatsuref05_Same.l0 k1 l0 l1 (l0.length : Int) (wrap64 (x13_1 + 1))) = some r := by rw [if_pos rfl] at H; exact H
                    clear H
                    have H := H1
                    clear H1
                    have H' := Aside0.mk H
                    clear H
                    have p194 : 0 ≤ (x13_1 : Int) := of_decide_eq_true (by first | (with_reducible assumption) | assumption)
                    have q194 : x13_1 < (l0.length : Int) := of_decide_eq_true (by first | (with_reducible assumption) | assumption)
                    obtain ⟨ad194, A194_1, c194_1, e194, hx194_0, hx194_1, hl194_1, hi194_1⟩ := at_T61 HR0.out x13_1 p194 q194
                    cases e194
                    have HR194_1 := Aside0.mk hi194_1
                    have HC194_1 := Aside0.mk hl194_1
                    clear hi194_1 hl194_1
                    replace p194 := eq_true p194
                    replace q194 := eq_true q194
                    have p195 : 0 ≤ (x13_1 : Int) := of_decide_eq_true (by first | (with_reducible assumption) | assumption)
                    have q195 : x13_1 < (l1.length : Int) := of_decide_eq_true (by first | (with_reducible assumption) | assumption)
                    obtain ⟨ad195, A195_1, c195_1, e195, hx195_0, hx195_1, hl195_1, hi195_1⟩ := at_T61 HR1.out x13_1 p195 q195
                    cases e195
                    have HR195_1 := Aside0.mk hi195_1
                    have HC195_1 := Aside0.mk hl195_1
                    clear hi195_1 hl195_1
                    replace p195 := eq_true p195
                    replace q195 := eq_true q195
                    have p196 : 0 ≤ (x13_1 : Int) := of_decide_eq_true (by first | (with_reducible assumption) | assumption)
                    have q196 : x13_1 < (l0.length : Int) := of_decide_eq_true (by first | (with_reducible assumption) | assumption)
                    obtain ⟨ad196, A196_1, c196_1, e196, hx196_0, hx196_1, hl196_1, hi196_1⟩ := at_T61 HR0.out x13_1 p196 q196
                    obtain rfl : ad194 = ad196 := (by injection e196)
                    have HR196_1 := Aside0.mk hi196_1
                    have HC196_1 := Aside0.mk hl196_1
                    clear hi196_1 hl196_1
                    replace p196 := eq_true p196
                    replace q196 := eq_true q196
                    have ea_ := Option.some.inj (hx194_1.symm.trans hx196_1)
                    injection ea_ with ea_ en_ ec_
                    subst ea_
                    subst ec_
                    clear en_
                    have p197 : 0 ≤ (x13_1 : Int) := of_decide_eq_true (by first | (with_reducible assumption) | assumption)
                    have q197 : x13_1 < (l1.length : Int) := of_decide_eq_true (by first | (with_reducible assumption) | assumption)
                    obtain ⟨ad197, A197_1, c197_1, e197, hx197_0, hx197_1, hl197_1, hi197_1⟩ := at_T61 HR1.out x13_1 p197 q197
                    obtain rfl : ad195 = ad197 := (by injection e197)
                    have HR197_1 := Aside0.mk hi197_1
                    have HC197_1 := Aside0.mk hl197_1
                    clear hi197_1 hl197_1
                    replace p197 := eq_true p197
                    replace q197 := eq_true q197
                    have ea_ := Option.some.inj (hx195_1.symm.trans hx197_1)
                    injection ea_ with ea_ en_ ec_
                    subst ea_
                    subst ec_
                    clear en_
                    go_wp2_with (first | (go_at_call 24; (with_reducible refine (kotatsuref01_Same.calls k1 _ _ ((rd_T61 l0 x13_1).f1) _ _ ((rd_T61 l1 x13_1).f1) true _ ?side1 ?side2 ?side3 ?side4 A9.out).mono ?_); (case side1 => repeat (first | exact HR196_1.out | (with_reducible refine Kd.C_alloc ?_ _) | (with_reducible refine Kd.C_drewN ?_ _) | (with_reducible refine Kd.C_drew ?_))); (case side2 => exact HC196_1.out); (case side3 => repeat (first | exact HR197_1.out | (with_reducible refine Kd.C_alloc ?_ _) | (with_reducible refine Kd.C_drewN ?_ _) | (with_reducible refine Kd.C_drew ?_))); (case side4 => exact HC197_1.out); rintro e w' ⟨rfl, ⟨nd, rfl⟩⟩; (try first | exact ⟨rfl, _, World.drewN_drewN _ _ _⟩ | exact ⟨rfl, _, Eq.trans (World.drewN_drewN _ _ _) (congrArg (World.drewN _) (Nat.add_assoc _ _ _))⟩)))
                    repeat (go_quiet (first | (go_at_call 24; (with_reducible refine (kotatsuref01_Same.calls k1 _ _ ((rd_T61 l0 x13_1).f1) _ _ ((rd_T61 l1 x13_1).f1) true _ ?side1 ?side2 ?side3 ?side4 A9.out).mono ?_); (case side1 => repeat (first | exact HR196_1.out | (with_reducible refine Kd.C_alloc ?_ _) | (with_reducible refine Kd.C_drewN ?_ _) | (with_reducible refine Kd.C_drew ?_))); (case side2 => exact HC196_1.out); (case side3 => repeat (first | exact HR197_1.out | (with_reducible refine Kd.C_alloc ?_ _) | (with_reducible refine Kd.C_drewN ?_ _) | (with_reducible refine Kd.C_drew ?_))); (case side4 => exact HC197_1.out); rintro e w' ⟨rfl, ⟨nd, rfl⟩⟩; (try first | exact ⟨rfl, _, World.drewN_drewN _ _ _⟩ | exact ⟨rfl, _, Eq.trans (World.drewN_drewN _ _ _) (congrArg (World.drewN _) (Nat.add_assoc _ _ _))⟩))); try go_wp2_with (first | (go_at_call 24; (with_reducible refine (kotatsuref01_Same.calls k1 _ _ ((rd_T61 l0 x13_1).f1) _ _ ((rd_T61 l1 x13_1).f1) true _ ?side1 ?side2 ?side3 ?side4 A9.out).mono ?_); (case side1 => repeat (first | exact HR196_1.out | (with_reducible refine Kd.C_alloc ?_ _) | (with_reducible refine Kd.C_drewN ?_ _) | (with_reducible refine Kd.C_drew ?_))); (case side2 => exact HC196_1.out); (case side3 => repeat (first | exact HR197_1.out | (with_reducible refine Kd.C_alloc ?_ _) | (with_reducible refine Kd.C_drewN ?_ _) | (with_reducible refine Kd.C_drew ?_))); (case side4 => exact HC197_1.out); rintro e w' ⟨rfl, ⟨nd, rfl⟩⟩; (try first | exact ⟨rfl, _, World.drewN_drewN _ _ _⟩ | exact ⟨rfl, _, Eq.trans (World.drewN_drewN _ _ _) (congrArg (World.drewN _) (Nat.add_assoc _ _ _))⟩))))
                    go_roundg k1
                    case measure => have := HK1.out; omega
                    case rel => exact ⟨(wrap64 (x13_1 + 1)), (by first | rfl | (simp; done) | (simp [*]; done)), H', ⟨by have := HK1.out; omega⟩, by repeat (first | exact Drawn0.refl _ | apply Drawn0.step)⟩
                  · replace c10 := Bool.eq_false_iff.mpr c10
                    subst c10
                    have H1 : (some false) = some r := by rw [if_neg (show ¬ (false = true) by decide)] at H; exact H
                    clear H
                    have H := H1
                    clear H1
                    obtain rfl := Option.some.inj H
                    have p194 : 0 ≤ (x13_1 : Int) := of_decide_eq_true (by first | (with_reducible assumption) | assumption)
                    have q194 : x13_1 < (l0.length : Int) := of_decide_eq_true (by first | (with_reducible assumption) | assumption)
                    obtain ⟨ad194, A194_1, c194_1, e194, hx194_0, hx194_1, hl194_1, hi194_1⟩ := at_T61 HR0.out x13_1 p194 q194
                    cases e194
                    have HR194_1 := Aside0.mk hi194_1
                    have HC194_1 := Aside0.mk hl194_1
                    clear hi194_1 hl194_1
                    replace p194 := eq_true p194
                    replace q194 := eq_true q194
                    have p195 : 0 ≤ (x13_1 : Int) := of_decide_eq_true (by first | (with_reducible assumption) | assumption)
                    have q195 : x13_1 < (l1.length : Int) := of_decide_eq_true (by first | (with_reducible assumption) | assumption)
                    obtain ⟨ad195, A195_1, c195_1, e195, hx195_0, hx195_1, hl195_1, hi195_1⟩ := at_T61 HR1.out x13_1 p195 q195
                    cases e195
                    have HR195_1 := Aside0.mk hi195_1
                    have HC195_1 := Aside0.mk hl195_1
                    clear hi195_1 hl195_1
                    replace p195 := eq_true p195
                    replace q195 := eq_true q195
                    have p196 : 0 ≤ (x13_1 : Int) := of_decide_eq_true (by first | (with_reducible assumption) | assumption)
                    have q196 : x13_1 < (l0.length : Int) := of_decide_eq_true (by first | (with_reducible assumption) | assumption)
                    obtain ⟨ad196, A196_1, c196_1, e196, hx196_0, hx196_1, hl196_1, hi196_1⟩ := at_T61 HR0.out x13_1 p196 q196
                    obtain rfl : ad194 = ad196 := (by injection e196)
                    have HR196_1 := Aside0.mk hi196_1
                    have HC196_1 := Aside0.mk hl196_1
                    clear hi196_1 hl196_1
                    replace p196 := eq_true p196
                    replace q196 := eq_true q196
                    have ea_ := Option.some.inj (hx194_1.symm.trans hx196_1)
                    injection ea_ with ea_ en_ ec_
                    subst ea_
                    subst ec_
                    clear en_
                    have p197 : 0 ≤ (x13_1 : Int) := of_decide_eq_true (by first | (with_reducible assumption) | assumption)
                    have q197 : x13_1 < (l1.length : Int) := of_decide_eq_true (by first | (with_reducible assumption) | assumption)
                    obtain ⟨ad197, A197_1, c197_1, e197, hx197_0, hx197_1, hl197_1, hi197_1⟩ := at_T61 HR1.out x13_1 p197 q197
                    obtain rfl : ad195 = ad197 := (by injection e197)
                    have HR197_1 := Aside0.mk hi197_1
                    have HC197_1 := Aside0.mk hl197_1
                    clear hi197_1 hl197_1
                    replace p197 := eq_true p197
                    replace q197 := eq_true q197
                    have ea_ := Option.some.inj (hx195_1.symm.trans hx197_1)
                    injection ea_ with ea_ en_ ec_
                    subst ea_
                    subst ec_
                    clear en_
                    go_wp2_with (first | (go_at_call 24; (with_reducible refine (kotatsuref01_Same.calls k1 _ _ ((rd_T61 l0 x13_1).f1) _ _ ((rd_T61 l1 x13_1).f1) false _ ?side1 ?side2 ?side3 ?side4 A9.out).mono ?_); (case side1 => repeat (first | exact HR196_1.out | (with_reducible refine Kd.C_alloc ?_ _) | (with_reducible refine Kd.C_drewN ?_ _) | (with_reducible refine Kd.C_drew ?_))); (case side2 => exact HC196_1.out); (case side3 => repeat (first | exact HR197_1.out | (with_reducible refine Kd.C_alloc ?_ _) | (with_reducible refine Kd.C_drewN ?_ _) | (with_reducible refine Kd.C_drew ?_))); (case side4 => exact HC197_1.out); rintro e w' ⟨rfl, ⟨nd, rfl⟩⟩; (try first | exact ⟨rfl, _, World.drewN_drewN _ _ _⟩ | exact ⟨rfl, _, Eq.trans (World.drewN_drewN _ _ _) (congrArg (World.drewN _) (Nat.add_assoc _ _ _))⟩)))
                    repeat (go_quiet (first | (go_at_call 24; (with_reducible refine (kotatsuref01_Same.calls k1 _ _ ((rd_T61 l0 x13_1).f1) _ _ ((rd_T61 l1 x13_1).f1) false _ ?side1 ?side2 ?side3 ?side4 A9.out).mono ?_); (case side1 => repeat (first | exact HR196_1.out | (with_reducible refine Kd.C_alloc ?_ _) | (with_reducible refine Kd.C_drewN ?_ _) | (with_reducible refine Kd.C_drew ?_))); (case side2 => exact HC196_1.out); (case side3 => repeat (first | exact HR197_1.out | (with_reducible refine Kd.C_alloc ?_ _) | (with_reducible refine Kd.C_drewN ?_ _) | (with_reducible refine Kd.C_drew ?_))); (case side4 => exact HC197_1.out); rintro e w' ⟨rfl, ⟨nd, rfl⟩⟩; (try first | exact ⟨rfl, _, World.drewN_drewN _ _ _⟩ | exact ⟨rfl, _, Eq.trans (World.drewN_drewN _ _ _) (congrArg (World.drewN _) (Nat.add_assoc _ _ _))⟩))); try go_wp2_with (first | (go_at_call 24; (with_reducible refine (kotatsuref01_Same.calls k1 _ _ ((rd_T61 l0 x13_1).f1) _ _ ((rd_T61 l1 x13_1).f1) false _ ?side1 ?side2 ?side3 ?side4 A9.out).mono ?_); (case side1 => repeat (first | exact HR196_1.out | (with_reducible refine Kd.C_alloc ?_ _) | (with_reducible refine Kd.C_drewN ?_ _) | (with_reducible refine Kd.C_drew ?_))); (case side2 => exact HC196_1.out); (case side3 => repeat (first | exact HR197_1.out | (with_reducible refine Kd.C_alloc ?_ _) | (with_reducible refine Kd.C_drewN ?_ _) | (with_reducible refine Kd.C_drew ?_))); (case side4 => exact HC197_1.out); rintro e w' ⟨rfl, ⟨nd, rfl⟩⟩; (try first | exact ⟨rfl, _, World.drewN_drewN _ _ _⟩ | exact ⟨rfl, _, Eq.trans (World.drewN_drewN _ _ _) (congrArg (World.drewN _) (Nat.add_assoc _ _ _))⟩))))
                    go_ret
                    exact ⟨by first | rfl | (simp; done) | (simp [*]; done), by repeat (first | exact Drawn0.refl _ | apply Drawn0.step)⟩
                · rw [if_neg c8] at H
                  have c8b0 : (((rd_T61 l0 x13_1).f0) == ((rd_T61 l1 x13_1).f0)) = false := beq_eq_false_iff_ne.mpr c8
                  have c8b1 : (((rd_T61 l0 x13_1).f0) != ((rd_T61 l1 x13_1).f0)) = true := bne_iff_ne.mpr c8
                  obtain rfl := Option.some.inj H
                  have p194 : 0 ≤ (x13_1 : Int) := of_decide_eq_true (by first | (with_reducible assumption) | assumption)
                  have q194 : x13_1 < (l0.length : Int) := of_decide_eq_true (by first | (with_reducible assumption) | assumption)
                  obtain ⟨ad194, A194_1, c194_1, e194, hx194_0, hx194_1, hl194_1, hi194_1⟩ := at_T61 HR0.out x13_1 p194 q194
                  cases e194
                  have HR194_1 := Aside0.mk hi194_1
                  have HC194_1 := Aside0.mk hl194_1
                  clear hi194_1 hl194_1
                  replace p194 := eq_true p194
                  replace q194 := eq_true q194
                  have p195 : 0 ≤ (x13_1 : Int) := of_decide_eq_true (by first | (with_reducible assumption) | assumption)
                  have q195 : x13_1 < (l1.length : Int) := of_decide_eq_true (by first | (with_reducible assumption) | assumption)
                  obtain ⟨ad195, A195_1, c195_1, e195, hx195_0, hx195_1, hl195_1, hi195_1⟩ := at_T61 HR1.out x13_1 p195 q195
                  cases e195
                  have HR195_1 := Aside0.mk hi195_1
                  have HC195_1 := Aside0.mk hl195_1
                  clear hi195_1 hl195_1
                  replace p195 := eq_true p195
                  replace q195 := eq_true q195
                  go_wp2
                  repeat (go_quiet (fail); try go_wp2)
                  go_ret
                  exact ⟨by first | rfl | (simp; done) | (simp [*]; done), by repeat (first | exact Drawn0.refl _ | apply Drawn0.step)⟩
              · rw [if_neg c7] at H
                exact absurd H (by simp)
            · rw [if_neg c6] at H
              exact absurd H (by simp)
          · rw [if_neg c5] at H
            exact absurd H (by simp)
        · rw [if_neg c4] at H
          have c4b0 : decide (x13_1 < (l0.length : Int)) = false := decide_eq_false c4
          clear c4
          obtain rfl := Option.some.inj H
          go_wp2
          repeat (go_quiet (fail); try go_wp2)
          go_ret
          exact ⟨by first | rfl | (simp; done) | (simp [*]; done), by repeat (first | exact Drawn0.refl _ | apply Drawn0.step)⟩
  · rw [if_neg c3] at H
    have c3b0 : ((l0.length : Int) == (l1.length : Int)) = false := beq_eq_false_iff_ne.mpr c3
    have c3b1 : ((l0.length : Int) != (l1.length : Int)) = true := bne_iff_ne.mpr c3
    have c3b2 : (l0.length == l1.length) = false := by first | simpa using c3 | (simp at c3 ⊢; omega)
    obtain rfl := Option.some.inj H
    go_enter Try.func16, Try.ntmps16
    go_wp2
    repeat (go_quiet (fail); try go_wp2)
    go_ret
    exact ⟨by first | rfl | (simp; done) | (simp [*]; done), by repeat (first | exact Drawn0.refl _ | apply Drawn0.step)⟩

/-! ### kotatsuref01_Text: function 22 -/
def kotatsuref01_Text.f (a0 : ByteArray) (a1 : Int) : Option (ByteArray) := if 0 ≤ (mn (a0.size : Int) a1) then (if (mn (a0.size : Int) a1) ≤ (a0.size : Int) then (some (a0.extract 0 ((mn (a0.size : Int) a1) : Int).toNat)) else (none)) else (none)
set_option maxHeartbeats 8000000 in
set_option maxRecDepth 100000 in
theorem kotatsuref01_Text.calls (a0 : ByteArray) (a1 : Int) (r : ByteArray) (w : World) (h : kotatsuref01_Text.f a0 a1 = some r) :
    Calls Try.prog 22 #[.string a0, .int .i64 a1] w fun e w' => e = .returned (.string r) ∧ Below w.heap.size w w' := by
  have HB := Aside0.mk (Below.refl w.heap.size w)
  have H : (if 0 ≤ (mn (a0.size : Int) a1) then (if (mn (a0.size : Int) a1) ≤ (a0.size : Int) then (some (a0.extract 0 ((mn (a0.size : Int) a1) : Int).toNat)) else (none)) else (none)) = some r := h
  clear h
  obtain ⟨ji3, hji3⟩ : ∃ j_ : Int, (mn (a0.size : Int) a1) = j_ := ⟨_, rfl⟩
  replace H : (if 0 ≤ (ji3) then (if (ji3) ≤ (a0.size : Int) then (some (a0.extract 0 ((ji3) : Int).toNat)) else (none)) else (none)) = some r := by first | (rw [hji3] at H; exact H) | (simp only [hji3] at H ⊢; exact H)
  have hji3_ : (if a1 < (a0.size : Int) then a1 else (a0.size : Int)) = ji3 := hji3
  by_cases c4 : 0 ≤ (ji3)
  · rw [if_pos c4] at H
    have c4b0 := eq_true c4
    have c4b1 : decide (0 ≤ (ji3)) = true := decide_eq_true c4
    clear c4
    by_cases c5 : (ji3) ≤ (a0.size : Int)
    · rw [if_pos c5] at H
      have c5b0 := eq_true c5
      have c5b1 : decide ((ji3) ≤ (a0.size : Int)) = true := decide_eq_true c5
      clear c5
      obtain rfl := Option.some.inj H
      go_enter Try.func22, Try.ntmps22
      go_wp2
      go_ret
      exact ⟨by first | rfl | (simp [errW_none, errW_some] <;> rfl) | (simp only [← hji3]; first | rfl | (simp [errW_none, errW_some] <;> rfl)) | (simp [*, errW_none, errW_some] <;> rfl), by repeat (first | (with_reducible first | exact HB.out | apply below_alloc | apply pw_below_drewN | apply below_drew1) | exact HB.out)⟩
    · rw [if_neg c5] at H
      exact absurd H (by simp)
  · rw [if_neg c4] at H
    exact absurd H (by simp)

/-! ### block_File: function 23, by hand -/
def block_File.head (a0 a1 : Int) (a2 : ByteArray) (a3 a4 n : Int) : List Int := [a0, a1] ++ H.spl (List.replicate 8 0) 0 ((bytesOf a2).take 8) ++ [a3 % 256, a3 / 256 % 256, n % 256, n / 256, a4]
def block_File.f (a0 a1 : Int) (a2 : ByteArray) (a3 a4 : Int) (l5 : List Int) : Option (List (S43)) :=
  if (l5.length : Int) > 65535 then some [] else some [⟨3, block_File.head a0 a1 a2 a3 a4 (l5.length : Int)⟩, ⟨4, l5⟩]
theorem block_File.spl_at (ys : List Int) (hl : ys.length ≤ 8) (a0 a1 a10 a11 a12 a13 a14 : Int) :
    (((((H.spl ((((List.replicate 15 0).set 0 a0)).set 1 a1) 2 ys).set 10 a10).set 11 a11).set 12 a12).set 13 a13).set 14 a14 = [a0, a1] ++ H.spl (List.replicate 8 0) 0 ys ++ [a10, a11, a12, a13, a14] := by
  rcases (show ys.length = 0 ∨ ys.length = 1 ∨ ys.length = 2 ∨ ys.length = 3 ∨ ys.length = 4 ∨ ys.length = 5 ∨ ys.length = 6 ∨ ys.length = 7 ∨ ys.length = 8 by omega) with h | h | h | h | h | h | h | h | h
  all_goals
    rcases ys with _ | ⟨y0, _ | ⟨y1, _ | ⟨y2, _ | ⟨y3, _ | ⟨y4, _ | ⟨y5, _ | ⟨y6, _ | ⟨y7, _ | ⟨y8, ys⟩⟩⟩⟩⟩⟩⟩⟩⟩ <;> first | rfl | (simp at h)
set_option maxHeartbeats 400000 in
set_option maxRecDepth 100000 in
theorem block_File.calls (a0 a1 : Int) (a2 : ByteArray) (a3 a4 : Int) (A5 : Option Addr) (c5 : Nat) (l5 : List Int) (r : List (S43)) (w : World) (hr5 : Kd.C (Kd.int .u8) w A5 l5.length l5) (hc5 : l5.length ≤ c5) (h : block_File.f a0 a1 a2 a3 a4 l5 = some r) :
    Calls Try.prog 23 #[.int .u8 a0, .int .u8 a1, .string a2, .int .u16 a3, .int .u8 a4, .slice A5 l5.length c5] w fun e w' => ∃ v0_ : Value, e = .returned (v0_) ∧ Kd.N k43 43 w' w.heap.size (fun k_ => (w.heap.size ≤ k_)) v0_ r ∧ Below w.heap.size w w' := by
  unfold block_File.f at h
  by_cases hl : (l5.length : Int) > 65535
  · rw [if_pos hl] at h
    obtain rfl := Option.some.inj h
    have t1 : decide ((65535 : Int) < (l5.length : Int)) = true := decide_eq_true hl
    clear hr5 hc5 h
    go_enter Try.func23, Try.ntmps23
    go_wp2
    go_ret
    exact ⟨_, rfl, Kd.N_nil _ _ _ _ _, Below.refl _ _⟩
  · rw [if_neg hl] at h
    obtain rfl := Option.some.inj h
    have t1 : decide ((65535 : Int) < (l5.length : Int)) = false := decide_eq_false hl
    have HR := Aside0.mk hr5
    have HC := Aside0.mk hc5
    have HL := Aside0.mk hl
    have hl2 : (l5.length : Int) ≤ 65535 := by omega
    clear hr5 hc5 h hl
    go_enter Try.func23, Try.ntmps23
    have HSZ5 := Aside0.mk (show (Try.prog.info? 5).map (·.size) = some 1 by kernel_rfl)
    go_wp2_with (first
      | ((with_reducible refine gate_dst (N := 17) rfl ?_); refine H.makeRow rfl 22 5 _ _ rfl 15 rfl rfl Try.underlying22 info5 (by decide) ?_; intro w1 hrow hb hsz; have ROW := Aside0.mk hrow; have HB := Aside0.mk hb; have HSZ := Aside0.mk hsz; have c0 := hrow.cell 0 (by decide); have c1 := hrow.cell 1 (by decide); have f0 := hrow.frozen 0; have f1 := hrow.frozen 1; clear hrow hb hsz)
      | ((with_reducible refine gate_dst (N := 27) rfl ?_); have HROWX := (ROW.out.set_ 0 a0).set_ 1 a1; have HBX : Below w.heap.size w ((w1.setCell ⟨w.heap.size, 0, none⟩ (.int .u8 a0)).setCell ⟨w.heap.size, 1, none⟩ (.int .u8 a1)) := (HB.out.setCell (p := ⟨w.heap.size, 0, none⟩) (Nat.le_refl _) _).setCell (p := ⟨w.heap.size, 1, none⟩) (Nat.le_refl _) _; refine H.copyStr rfl (.tmp 25) (.tmp 26) 22 9 rfl 5 Try.underlying22 HSZ5.out w.heap.size 2 8 13 a2 rfl rfl 5 _ HROWX (by simp) w.heap.size w HBX (Nat.le_refl _) ?_; clear HROWX HBX; intro w2 hrow hb hk hz; have HSZ2 := Aside0.mk (show w2.heap.size = w.heap.size + 1 by rw [hz]; simp [HSZ.out]); have ROW2 := Aside0.mk hrow; have HB2 := Aside0.mk hb; have hsl := H.spl_length (((List.replicate 15 0).set 0 a0).set 1 a1) ((bytesOf a2).take 8) 2 (by simp; omega); rw [show (((List.replicate 15 (0 : Int)).set 0 a0).set 1 a1).length = 15 by simp] at hsl; have d10 := hrow.cell 10 (by rw [hsl]; decide); have d11 := hrow.cell 11 (by rw [hsl]; decide); have d12 := hrow.cell 12 (by rw [hsl]; decide); have d13 := hrow.cell 13 (by rw [hsl]; decide); have d14 := hrow.cell 14 (by rw [hsl]; decide); have e10 := hrow.frozen 10; have e11 := hrow.frozen 11; have e12 := hrow.frozen 12; have e13 := hrow.frozen 13; have e14 := hrow.frozen 14; clear hrow hb hk hz hsl; clear c0 c1 f0 f1; generalize (H.spl (((List.replicate 15 0).set 0 a0).set 1 a1) 2 ((bytesOf a2).take 8)).getD 10 0 = x10 at *; generalize (H.spl (((List.replicate 15 0).set 0 a0).set 1 a1) 2 ((bytesOf a2).take 8)).getD 11 0 = x11 at *; generalize (H.spl (((List.replicate 15 0).set 0 a0).set 1 a1) 2 ((bytesOf a2).take 8)).getD 12 0 = x12 at *; generalize (H.spl (((List.replicate 15 0).set 0 a0).set 1 a1) 2 ((bytesOf a2).take 8)).getD 13 0 = x13 at *; generalize (H.spl (((List.replicate 15 0).set 0 a0).set 1 a1) 2 ((bytesOf a2).take 8)).getD 14 0 = x14 at *))
    have HT := Aside0.mk (block_File.spl_at ((bytesOf a2).take 8) (List.length_take_le _ _) a0 a1 (a3 % 256) (a3 / 256 % 256) ((l5.length : Int) % 256) ((l5.length : Int) / 256) a4)
    have ROW6 := Aside0.mk (((((ROW2.out.set_ 10 (a3 % 256)).set_ 11 (a3 / 256 % 256)).set_ 12 ((l5.length : Int) % 256)).set_ 13 ((l5.length : Int) / 256)).set_ 14 a4)
    rw [HT.out] at ROW6
    have HB6 := Aside0.mk (((((HB2.out.setCell (p := ⟨w.heap.size, 10, none⟩) (Nat.le_refl _) (.int .u8 (a3 % 256))).setCell (p := ⟨w.heap.size, 11, none⟩) (Nat.le_refl _) (.int .u8 (a3 / 256 % 256))).setCell (p := ⟨w.heap.size, 12, none⟩) (Nat.le_refl _) (.int .u8 ((l5.length : Int) % 256))).setCell (p := ⟨w.heap.size, 13, none⟩) (Nat.le_refl _) (.int .u8 ((l5.length : Int) / 256))).setCell (p := ⟨w.heap.size, 14, none⟩) (Nat.le_refl _) (.int .u8 a4))
    refine (bytes_Clone.calls A5 c5 l5 l5 _ (Kd.C_below HR.out HB6.out) HC.out (by unfold bytes_Clone.f; rw [if_pos (by omega)])).mono ?_
    rintro e w3 ⟨v3, rfl, ho, hb⟩
    have ROW7 := Aside0.mk (ROW6.out.below hb)
    have HB7 := Aside0.mk (HB6.out.trans (hb.mono (below_size HB6.out)))
    have HO := Aside0.mk (Kd.V_mono (ok' := fun k => w.heap.size ≤ k) ho (fun k hk => Nat.le_trans (below_size HB6.out) hk))
    clear ho hb ROW6 HB6 HT ROW2 HB2 ROW HB d10 d11 d12 d13 d14 e10 e11 e12 e13 e14
    obtain ⟨A3, c3, e3⟩ := Kd.V_slice HO.out
    subst e3
    have hhl : (block_File.head a0 a1 a2 a3 a4 (l5.length : Int)).length = 15 := by unfold block_File.head; simp [H.spl]; omega
    have HF1 := Aside0.mk (show Kd.F (Kd.int .u8) w3 (fun k => w.heap.size ≤ k) (some ⟨w.heap.size, 0, none⟩) (block_File.head a0 a1 a2 a3 a4 (l5.length : Int)).length (block_File.head a0 a1 a2 a3 a4 (l5.length : Int)) from Kd.F_mono (Kd.V_F (ROW7.out.V 0 (by rw [show ([a0, a1] ++ H.spl (List.replicate 8 0) 0 ((bytesOf a2).take 8) ++ [a3 % 256, a3 / 256 % 256, (l5.length : Int) % 256, (l5.length : Int) / 256, a4]).length = 15 from hhl]; decide))) (fun k hk => Nat.le_of_eq hk.symm))
    have HHL := Aside0.mk hhl
    clear ROW7 hhl
    have hrep := ((Reps.none (Kd.FK k43 w3 (fun k => w.heap.size ≤ k)) k43.sz).snoc (p := (⟨3, block_File.head a0 a1 a2 a3 a4 (l5.length : Int)⟩ : S43)) (k43_mkF w3 _ (⟨3, block_File.head a0 a1 a2 a3 a4 (l5.length : Int)⟩ : S43) (Nat.le_of_eq HHL.out) HF1.out) rfl).snoc (p := (⟨4, l5⟩ : S43)) (k43_mkF w3 _ (⟨4, l5⟩ : S43) (Kd.V_reads' HO.out).2.1 (Kd.V_F HO.out)) rfl
    simp only [List.nil_append, List.cons_append] at hrep
    rw [HHL.out] at hrep
    have HREP := Aside0.mk hrep
    clear hrep
    go_wp2
    go_ret
    exact ⟨_, rfl, H.litN k43 w.heap.size 43 HREP.out (fun _ h => h) (below_size HB7.out) (below_size HB7.out) (by simp), below_alloc HB7.out _⟩

end Go.Proofs.Ytgpgoffnfdjhcaa.PBlockSides
