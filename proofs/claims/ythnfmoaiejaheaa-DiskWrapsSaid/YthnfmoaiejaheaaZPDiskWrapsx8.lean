-- made by a program of this repo (wip/patch_print.py); not trusted: Lean checks it
import Derived.Test.YthnfmoaiejaheaaZPDiskWrapsx0
import Derived.Test.YthnfmoaiejaheaaZPDiskWrapsx3
import Derived.Test.YthnfmoaiejaheaaZPDiskWrapsx5
import Derived.Test.YthnfmoaiejaheaaZPDiskWrapsx6
-- squeezed
namespace Go.Proofs.Ythnfmoaiejaheaa.PDiskWraps
open Go.RowKit Go.Proofs.YthnfmoaiejaheaaW.PrintWords Go.Proofs.YthnfmoaiejaheaaW.PrintLast Go.Proofs.YthnfmoaiejaheaaW.PrintMore
attribute [local go_sem] max2_int min2_int max_two min_two max_three min_three max_four min_four   -- for this text's walks alone
set_option linter.unusedVariables false
set_option linter.unusedSimpArgs false

/-! ### kotatsuref05_Same: function 23 -/
def kotatsuref05_Same.l0 : Nat → List (S69) → List (S69) → Int → Int → Option (Bool)
 | 0, _, _, _, _ => none
 | k + 1, x0, x1, x12, x13 => if x13 < x12 then (if 0 ≤ x13 then (if x13 < (x0.length : Int) then (if x13 < (x1.length : Int) then (if ((rd_T69 x0 x13).f0) = ((rd_T69 x1 x13).f0) then ((kotatsuref01_Same.f k ((rd_T69 x0 x13).f1) ((rd_T69 x1 x13).f1)).bind fun t312 => (if t312 = true then (kotatsuref05_Same.l0 k x0 x1 x12 (wrap64 (x13 + 1))) else (some false))) else (some false)) else (none)) else (none)) else (none)) else (some true)
def kotatsuref05_Same.f (k : Nat) (l0 : List (S69)) (l1 : List (S69)) : Option (Bool) := if (l0.length : Int) = (l1.length : Int) then (kotatsuref05_Same.l0 k l0 l1 (l0.length : Int) 0) else (some false)
set_option maxHeartbeats 8000000 in
set_option maxRecDepth 100000 in
theorem kotatsuref05_Same.calls (k : Nat) (A0 : Option Addr) (c0 : Nat) (l0 : List (S69)) (A1 : Option Addr) (c1 : Nat) (l1 : List (S69)) (r : Bool) (w : World) (hr0 : Kd.C k69 w A0 l0.length l0) (hc0 : l0.length ≤ c0) (hr1 : Kd.C k69 w A1 l1.length l1) (hc1 : l1.length ≤ c1) (h : kotatsuref05_Same.f k l0 l1 = some r) :
  Calls Try.prog 23 #[.slice A0 l0.length c0, .slice A1 l1.length c1] w fun e w' => e = .returned (.bool r) ∧ Drawn0 w w' := by
 have HR0 := Aside0.mk hr0
 have HC0 := Aside0.mk hc0
 clear hr0 hc0
 have HR1 := Aside0.mk hr1
 have HC1 := Aside0.mk hc1
 clear hr1 hc1
 have H : (if (l0.length : Int) = (l1.length : Int) then (kotatsuref05_Same.l0 k l0 l1 (l0.length : Int) 0) else (some false)) = some r := h
 clear h
 by_cases c3 : (l0.length : Int) = (l1.length : Int)
 ·rw [if_pos c3] at H
  have c3b0 : ((l0.length : Int) == (l1.length : Int)) = true := beq_iff_eq.mpr c3
  have c3b1 : ((l0.length : Int) != (l1.length : Int)) = false := bne_eq_false_iff_eq.mpr c3
  have c3b2 : (l0.length == l1.length) = true := by first | simpa using c3 | (simp at c3 ⊢; omega)
  clear c3
  have H' := Aside0.mk H
  clear H
  go_enter Try.func23, Try.ntmps23
  go_wp2
  repeat (go_quiet (fail); try go_wp2)
  go_loopg [13] k (fun kq v13 w' => ∃ (x13_1 : Int), v13 = .int .i64 x13_1 ∧ Aside0 (kotatsuref05_Same.l0 kq l0 l1 (l0.length : Int) x13_1 = some r) ∧ Aside0 (kq ≤ k) ∧ Drawn0 w w')
  case atStart => exact ⟨(0), (by first | rfl | (simp; done) | (simp [*]; done)), H', ⟨Nat.le_refl _⟩, by repeat (first | exact Drawn0.refl _ | apply Drawn0.step)⟩
  case round =>
   clear H'
   try clear c1
   try clear c2
   try clear p2
   try clear c3
   try clear c3b0
   try clear c3b1
   try clear c3b2
   obtain ⟨x13_1, rfl, HA, HK1, ⟨m1, rfl⟩⟩ := hrel
   cases gk with
   | zero => exact absurd HA.out (by simp [kotatsuref05_Same.l0])
   | succ k1 =>
    have H := HA.out
    clear HA
    simp only [kotatsuref05_Same.l0] at H
    by_cases c4 : x13_1 < (l0.length : Int)
    ·rw [if_pos c4] at H
     have c4b0 : decide (x13_1 < (l0.length : Int)) = true := decide_eq_true c4
     clear c4
     by_cases c5 : 0 ≤ x13_1
     ·rw [if_pos c5] at H
      have c5b0 : decide (0 ≤ x13_1) = true := decide_eq_true c5
      clear c5
      by_cases c6 : x13_1 < (l0.length : Int)
      ·rw [if_pos c6] at H
       have c6b0 : decide (x13_1 < (l0.length : Int)) = true := decide_eq_true c6
       clear c6
       by_cases c7 : x13_1 < (l1.length : Int)
       ·rw [if_pos c7] at H
        have c7b0 : decide (x13_1 < (l1.length : Int)) = true := decide_eq_true c7
        clear c7
        by_cases c8 : ((rd_T69 l0 x13_1).f0) = ((rd_T69 l1 x13_1).f0)
        ·rw [if_pos c8] at H
         have c8b0 : (((rd_T69 l0 x13_1).f0) == ((rd_T69 l1 x13_1).f0)) = true := beq_iff_eq.mpr c8
         have c8b1 : (((rd_T69 l0 x13_1).f0) != ((rd_T69 l1 x13_1).f0)) = false := bne_eq_false_iff_eq.mpr c8
         clear c8
         replace H := Option.bind_eq_some_iff.mp H
         obtain ⟨t312, A90, H⟩ := H
         replace H : (if t312 = true then (kotatsuref05_Same.l0 k1 l0 l1 (l0.length : Int) (wrap64 (x13_1 + 1))) else (some false)) = some r := H
         have A9 := Aside0.mk A90
         clear A90
         by_cases c10 : t312 = true
         ·subst c10
          have H1 : (kotatsuref05_Same.l0 k1 l0 l1 (l0.length : Int) (wrap64 (x13_1 + 1))) = some r := by rw [if_pos rfl] at H; exact H
          clear H
          have H := H1
          clear H1
          have H' := Aside0.mk H
          clear H
          have p308 : 0 ≤ (x13_1 : Int) := of_decide_eq_true (by first | (with_reducible assumption) | assumption)
          have q308 : x13_1 < (l0.length : Int) := of_decide_eq_true (by first | (with_reducible assumption) | assumption)
          obtain ⟨ad308, A308_1, c308_1, e308, hx308_0, hx308_1, hl308_1, hi308_1⟩ := at_T69 HR0.out x13_1 p308 q308
          cases e308
          have HR308_1 := Aside0.mk hi308_1
          have HC308_1 := Aside0.mk hl308_1
          clear hi308_1 hl308_1
          replace p308 := eq_true p308
          replace q308 := eq_true q308
          have p309 : 0 ≤ (x13_1 : Int) := of_decide_eq_true (by first | (with_reducible assumption) | assumption)
          have q309 : x13_1 < (l1.length : Int) := of_decide_eq_true (by first | (with_reducible assumption) | assumption)
          obtain ⟨ad309, A309_1, c309_1, e309, hx309_0, hx309_1, hl309_1, hi309_1⟩ := at_T69 HR1.out x13_1 p309 q309
          cases e309
          have HR309_1 := Aside0.mk hi309_1
          have HC309_1 := Aside0.mk hl309_1
          clear hi309_1 hl309_1
          replace p309 := eq_true p309
          replace q309 := eq_true q309
          have p310 : 0 ≤ (x13_1 : Int) := of_decide_eq_true (by first | (with_reducible assumption) | assumption)
          have q310 : x13_1 < (l0.length : Int) := of_decide_eq_true (by first | (with_reducible assumption) | assumption)
          obtain ⟨ad310, A310_1, c310_1, e310, hx310_0, hx310_1, hl310_1, hi310_1⟩ := at_T69 HR0.out x13_1 p310 q310
          obtain rfl : ad308 = ad310 := (by injection e310)
          have HR310_1 := Aside0.mk hi310_1
          have HC310_1 := Aside0.mk hl310_1
          clear hi310_1 hl310_1
          replace p310 := eq_true p310
          replace q310 := eq_true q310
          have ea_ := Option.some.inj (hx308_1.symm.trans hx310_1)
          injection ea_ with ea_ en_ ec_
          subst ea_
          subst ec_
          clear en_
          have p311 : 0 ≤ (x13_1 : Int) := of_decide_eq_true (by first | (with_reducible assumption) | assumption)
          have q311 : x13_1 < (l1.length : Int) := of_decide_eq_true (by first | (with_reducible assumption) | assumption)
          obtain ⟨ad311, A311_1, c311_1, e311, hx311_0, hx311_1, hl311_1, hi311_1⟩ := at_T69 HR1.out x13_1 p311 q311
          obtain rfl : ad309 = ad311 := (by injection e311)
          have HR311_1 := Aside0.mk hi311_1
          have HC311_1 := Aside0.mk hl311_1
          clear hi311_1 hl311_1
          replace p311 := eq_true p311
          replace q311 := eq_true q311
          have ea_ := Option.some.inj (hx309_1.symm.trans hx311_1)
          injection ea_ with ea_ en_ ec_
          subst ea_
          subst ec_
          clear en_
          go_wp2_with (first | (go_at_call 14; (with_reducible refine (kotatsuref01_Same.calls k1 _ _ ((rd_T69 l0 x13_1).f1) _ _ ((rd_T69 l1 x13_1).f1) true _ ?side1 ?side2 ?side3 ?side4 A9.out).mono ?_); (case side1 => repeat (first | exact HR310_1.out | (with_reducible refine Kd.C_alloc ?_ _) | (with_reducible refine Kd.C_drewN ?_ _) | (with_reducible refine Kd.C_drew ?_))); (case side2 => exact HC310_1.out); (case side3 => repeat (first | exact HR311_1.out | (with_reducible refine Kd.C_alloc ?_ _) | (with_reducible refine Kd.C_drewN ?_ _) | (with_reducible refine Kd.C_drew ?_))); (case side4 => exact HC311_1.out); rintro e w' ⟨rfl, ⟨nd, rfl⟩⟩; (try first | exact ⟨rfl, _, World.drewN_drewN _ _ _⟩ | exact ⟨rfl, _, Eq.trans (World.drewN_drewN _ _ _) (congrArg (World.drewN _) (Nat.add_assoc _ _ _))⟩)))
          repeat (go_quiet (first | (go_at_call 14; (with_reducible refine (kotatsuref01_Same.calls k1 _ _ ((rd_T69 l0 x13_1).f1) _ _ ((rd_T69 l1 x13_1).f1) true _ ?side1 ?side2 ?side3 ?side4 A9.out).mono ?_); (case side1 => repeat (first | exact HR310_1.out | (with_reducible refine Kd.C_alloc ?_ _) | (with_reducible refine Kd.C_drewN ?_ _) | (with_reducible refine Kd.C_drew ?_))); (case side2 => exact HC310_1.out); (case side3 => repeat (first | exact HR311_1.out | (with_reducible refine Kd.C_alloc ?_ _) | (with_reducible refine Kd.C_drewN ?_ _) | (with_reducible refine Kd.C_drew ?_))); (case side4 => exact HC311_1.out); rintro e w' ⟨rfl, ⟨nd, rfl⟩⟩; (try first | exact ⟨rfl, _, World.drewN_drewN _ _ _⟩ | exact ⟨rfl, _, Eq.trans (World.drewN_drewN _ _ _) (congrArg (World.drewN _) (Nat.add_assoc _ _ _))⟩))); try go_wp2_with (first | (go_at_call 14; (with_reducible refine (kotatsuref01_Same.calls k1 _ _ ((rd_T69 l0 x13_1).f1) _ _ ((rd_T69 l1 x13_1).f1) true _ ?side1 ?side2 ?side3 ?side4 A9.out).mono ?_); (case side1 => repeat (first | exact HR310_1.out | (with_reducible refine Kd.C_alloc ?_ _) | (with_reducible refine Kd.C_drewN ?_ _) | (with_reducible refine Kd.C_drew ?_))); (case side2 => exact HC310_1.out); (case side3 => repeat (first | exact HR311_1.out | (with_reducible refine Kd.C_alloc ?_ _) | (with_reducible refine Kd.C_drewN ?_ _) | (with_reducible refine Kd.C_drew ?_))); (case side4 => exact HC311_1.out); rintro e w' ⟨rfl, ⟨nd, rfl⟩⟩; (try first | exact ⟨rfl, _, World.drewN_drewN _ _ _⟩ | exact ⟨rfl, _, Eq.trans (World.drewN_drewN _ _ _) (congrArg (World.drewN _) (Nat.add_assoc _ _ _))⟩))))
          go_roundg k1
          case measure => have := HK1.out; omega
          case rel => exact ⟨(wrap64 (x13_1 + 1)), (by first | rfl | (simp; done) | (simp [*]; done)), H', ⟨by have := HK1.out; omega⟩, by repeat (first | exact Drawn0.refl _ | apply Drawn0.step)⟩
         ·replace c10 := Bool.eq_false_iff.mpr c10
          subst c10
          have H1 : (some false) = some r := by rw [if_neg (show ¬ (false = true) by decide)] at H; exact H
          clear H
          have H := H1
          clear H1
          obtain rfl := Option.some.inj H
          have p308 : 0 ≤ (x13_1 : Int) := of_decide_eq_true (by first | (with_reducible assumption) | assumption)
          have q308 : x13_1 < (l0.length : Int) := of_decide_eq_true (by first | (with_reducible assumption) | assumption)
          obtain ⟨ad308, A308_1, c308_1, e308, hx308_0, hx308_1, hl308_1, hi308_1⟩ := at_T69 HR0.out x13_1 p308 q308
          cases e308
          have HR308_1 := Aside0.mk hi308_1
          have HC308_1 := Aside0.mk hl308_1
          clear hi308_1 hl308_1
          replace p308 := eq_true p308
          replace q308 := eq_true q308
          have p309 : 0 ≤ (x13_1 : Int) := of_decide_eq_true (by first | (with_reducible assumption) | assumption)
          have q309 : x13_1 < (l1.length : Int) := of_decide_eq_true (by first | (with_reducible assumption) | assumption)
          obtain ⟨ad309, A309_1, c309_1, e309, hx309_0, hx309_1, hl309_1, hi309_1⟩ := at_T69 HR1.out x13_1 p309 q309
          cases e309
          have HR309_1 := Aside0.mk hi309_1
          have HC309_1 := Aside0.mk hl309_1
          clear hi309_1 hl309_1
          replace p309 := eq_true p309
          replace q309 := eq_true q309
          have p310 : 0 ≤ (x13_1 : Int) := of_decide_eq_true (by first | (with_reducible assumption) | assumption)
          have q310 : x13_1 < (l0.length : Int) := of_decide_eq_true (by first | (with_reducible assumption) | assumption)
          obtain ⟨ad310, A310_1, c310_1, e310, hx310_0, hx310_1, hl310_1, hi310_1⟩ := at_T69 HR0.out x13_1 p310 q310
          obtain rfl : ad308 = ad310 := (by injection e310)
          have HR310_1 := Aside0.mk hi310_1
          have HC310_1 := Aside0.mk hl310_1
          clear hi310_1 hl310_1
          replace p310 := eq_true p310
          replace q310 := eq_true q310
          have ea_ := Option.some.inj (hx308_1.symm.trans hx310_1)
          injection ea_ with ea_ en_ ec_
          subst ea_
          subst ec_
          clear en_
          have p311 : 0 ≤ (x13_1 : Int) := of_decide_eq_true (by first | (with_reducible assumption) | assumption)
          have q311 : x13_1 < (l1.length : Int) := of_decide_eq_true (by first | (with_reducible assumption) | assumption)
          obtain ⟨ad311, A311_1, c311_1, e311, hx311_0, hx311_1, hl311_1, hi311_1⟩ := at_T69 HR1.out x13_1 p311 q311
          obtain rfl : ad309 = ad311 := (by injection e311)
          have HR311_1 := Aside0.mk hi311_1
          have HC311_1 := Aside0.mk hl311_1
          clear hi311_1 hl311_1
          replace p311 := eq_true p311
          replace q311 := eq_true q311
          have ea_ := Option.some.inj (hx309_1.symm.trans hx311_1)
          injection ea_ with ea_ en_ ec_
          subst ea_
          subst ec_
          clear en_
          go_wp2_with (first | (go_at_call 14; (with_reducible refine (kotatsuref01_Same.calls k1 _ _ ((rd_T69 l0 x13_1).f1) _ _ ((rd_T69 l1 x13_1).f1) false _ ?side1 ?side2 ?side3 ?side4 A9.out).mono ?_); (case side1 => repeat (first | exact HR310_1.out | (with_reducible refine Kd.C_alloc ?_ _) | (with_reducible refine Kd.C_drewN ?_ _) | (with_reducible refine Kd.C_drew ?_))); (case side2 => exact HC310_1.out); (case side3 => repeat (first | exact HR311_1.out | (with_reducible refine Kd.C_alloc ?_ _) | (with_reducible refine Kd.C_drewN ?_ _) | (with_reducible refine Kd.C_drew ?_))); (case side4 => exact HC311_1.out); rintro e w' ⟨rfl, ⟨nd, rfl⟩⟩; (try first | exact ⟨rfl, _, World.drewN_drewN _ _ _⟩ | exact ⟨rfl, _, Eq.trans (World.drewN_drewN _ _ _) (congrArg (World.drewN _) (Nat.add_assoc _ _ _))⟩)))
          repeat (go_quiet (first | (go_at_call 14; (with_reducible refine (kotatsuref01_Same.calls k1 _ _ ((rd_T69 l0 x13_1).f1) _ _ ((rd_T69 l1 x13_1).f1) false _ ?side1 ?side2 ?side3 ?side4 A9.out).mono ?_); (case side1 => repeat (first | exact HR310_1.out | (with_reducible refine Kd.C_alloc ?_ _) | (with_reducible refine Kd.C_drewN ?_ _) | (with_reducible refine Kd.C_drew ?_))); (case side2 => exact HC310_1.out); (case side3 => repeat (first | exact HR311_1.out | (with_reducible refine Kd.C_alloc ?_ _) | (with_reducible refine Kd.C_drewN ?_ _) | (with_reducible refine Kd.C_drew ?_))); (case side4 => exact HC311_1.out); rintro e w' ⟨rfl, ⟨nd, rfl⟩⟩; (try first | exact ⟨rfl, _, World.drewN_drewN _ _ _⟩ | exact ⟨rfl, _, Eq.trans (World.drewN_drewN _ _ _) (congrArg (World.drewN _) (Nat.add_assoc _ _ _))⟩))); try go_wp2_with (first | (go_at_call 14; (with_reducible refine (kotatsuref01_Same.calls k1 _ _ ((rd_T69 l0 x13_1).f1) _ _ ((rd_T69 l1 x13_1).f1) false _ ?side1 ?side2 ?side3 ?side4 A9.out).mono ?_); (case side1 => repeat (first | exact HR310_1.out | (with_reducible refine Kd.C_alloc ?_ _) | (with_reducible refine Kd.C_drewN ?_ _) | (with_reducible refine Kd.C_drew ?_))); (case side2 => exact HC310_1.out); (case side3 => repeat (first | exact HR311_1.out | (with_reducible refine Kd.C_alloc ?_ _) | (with_reducible refine Kd.C_drewN ?_ _) | (with_reducible refine Kd.C_drew ?_))); (case side4 => exact HC311_1.out); rintro e w' ⟨rfl, ⟨nd, rfl⟩⟩; (try first | exact ⟨rfl, _, World.drewN_drewN _ _ _⟩ | exact ⟨rfl, _, Eq.trans (World.drewN_drewN _ _ _) (congrArg (World.drewN _) (Nat.add_assoc _ _ _))⟩))))
          go_ret
          exact ⟨by first | rfl | (simp; done) | (simp [*]; done), by repeat (first | exact Drawn0.refl _ | apply Drawn0.step)⟩
        ·rw [if_neg c8] at H
         have c8b0 : (((rd_T69 l0 x13_1).f0) == ((rd_T69 l1 x13_1).f0)) = false := beq_eq_false_iff_ne.mpr c8
         have c8b1 : (((rd_T69 l0 x13_1).f0) != ((rd_T69 l1 x13_1).f0)) = true := bne_iff_ne.mpr c8
         obtain rfl := Option.some.inj H
         have p308 : 0 ≤ (x13_1 : Int) := of_decide_eq_true (by first | (with_reducible assumption) | assumption)
         have q308 : x13_1 < (l0.length : Int) := of_decide_eq_true (by first | (with_reducible assumption) | assumption)
         obtain ⟨ad308, A308_1, c308_1, e308, hx308_0, hx308_1, hl308_1, hi308_1⟩ := at_T69 HR0.out x13_1 p308 q308
         cases e308
         have HR308_1 := Aside0.mk hi308_1
         have HC308_1 := Aside0.mk hl308_1
         clear hi308_1 hl308_1
         replace p308 := eq_true p308
         replace q308 := eq_true q308
         have p309 : 0 ≤ (x13_1 : Int) := of_decide_eq_true (by first | (with_reducible assumption) | assumption)
         have q309 : x13_1 < (l1.length : Int) := of_decide_eq_true (by first | (with_reducible assumption) | assumption)
         obtain ⟨ad309, A309_1, c309_1, e309, hx309_0, hx309_1, hl309_1, hi309_1⟩ := at_T69 HR1.out x13_1 p309 q309
         cases e309
         have HR309_1 := Aside0.mk hi309_1
         have HC309_1 := Aside0.mk hl309_1
         clear hi309_1 hl309_1
         replace p309 := eq_true p309
         replace q309 := eq_true q309
         go_wp2
         repeat (go_quiet (fail); try go_wp2)
         go_ret
         exact ⟨by first | rfl | (simp; done) | (simp [*]; done), by repeat (first | exact Drawn0.refl _ | apply Drawn0.step)⟩
       ·rw [if_neg c7] at H
        exact absurd H (by simp)
      ·rw [if_neg c6] at H
       exact absurd H (by simp)
     ·rw [if_neg c5] at H
      exact absurd H (by simp)
    ·rw [if_neg c4] at H
     have c4b0 : decide (x13_1 < (l0.length : Int)) = false := decide_eq_false c4
     clear c4
     obtain rfl := Option.some.inj H
     go_wp2
     repeat (go_quiet (fail); try go_wp2)
     go_ret
     exact ⟨by first | rfl | (simp; done) | (simp [*]; done), by repeat (first | exact Drawn0.refl _ | apply Drawn0.step)⟩
 ·rw [if_neg c3] at H
  have c3b0 : ((l0.length : Int) == (l1.length : Int)) = false := beq_eq_false_iff_ne.mpr c3
  have c3b1 : ((l0.length : Int) != (l1.length : Int)) = true := bne_iff_ne.mpr c3
  have c3b2 : (l0.length == l1.length) = false := by first | simpa using c3 | (simp at c3 ⊢; omega)
  obtain rfl := Option.some.inj H
  go_enter Try.func23, Try.ntmps23
  go_wp2
  repeat (go_quiet (fail); try go_wp2)
  go_ret
  exact ⟨by first | rfl | (simp; done) | (simp [*]; done), by repeat (first | exact Drawn0.refl _ | apply Drawn0.step)⟩

/-! ### block_Size: function 46 -/
def block_Size.l0 : Nat → Int → List (S73) → Int → Int → Option (Int)
 | 0, _, _, _, _ => none
 | k + 1, x3, x6, x7, x8 => if x8 < x7 then (if 0 ≤ x8 then (if x8 < (x6.length : Int) then (block_Size.l0 k (wrap64 (x3 + (wrap64 (1 + (((rd_T73 x6 x8).f1).length : Int))))) x6 x7 (wrap64 (x8 + 1))) else (none)) else (none)) else (some x3)
def block_Size.f (k : Nat) (l0 : List (S73)) : Option (Int) := block_Size.l0 k 0 l0 (l0.length : Int) 0
set_option maxHeartbeats 8000000 in
set_option maxRecDepth 100000 in
theorem block_Size.calls (k : Nat) (A0 : Option Addr) (c0 : Nat) (l0 : List (S73)) (r : Int) (w : World) (hr0 : Kd.C k73 w A0 l0.length l0) (hc0 : l0.length ≤ c0) (h : block_Size.f k l0 = some r) :
  Calls Try.prog 46 #[.slice A0 l0.length c0] w fun e w' => e = .returned (.int .i64 r) ∧ Below w.heap.size w w' := by
 have hu73 := Try.underlying73
 have HR0 := Aside0.mk hr0
 have HC0 := Aside0.mk hc0
 clear hr0 hc0
 have HB := Aside0.mk (Below.refl w.heap.size w)
 have H : (block_Size.l0 k 0 l0 (l0.length : Int) 0) = some r := h
 clear h
 have H' := Aside0.mk H
 clear H
 go_enter Try.func46, Try.ntmps46
 go_wp2
 go_loopg [3, 8] k (fun kq v3 v8 w' => ∃ (x3_1 : Int) (x8_1 : Int), v3 = .int .i64 x3_1 ∧ v8 = .int .i64 x8_1 ∧ Aside0 (block_Size.l0 kq x3_1 l0 (l0.length : Int) x8_1 = some r) ∧ Aside0 (kq ≤ k) ∧ Aside0 (Below w.heap.size w w'))
 case atStart => exact ⟨(0), (0), (by first | rfl | (simp; done) | (simp [*]; done)), (by first | rfl | (simp; done) | (simp [*]; done)), H', ⟨Nat.le_refl _⟩, ⟨by repeat (first | (with_reducible first | exact HB.out | apply below_alloc | apply pw_below_drewN | apply below_drew1) | exact HB.out)⟩⟩
 case round =>
  clear H'
  obtain ⟨x3_1, x8_1, rfl, rfl, HA, HK1, HB⟩ := hrel
  cases gk with
  | zero => exact absurd HA.out (by simp [block_Size.l0])
  | succ k1 =>
   have H := HA.out
   clear HA
   simp only [block_Size.l0] at H
   by_cases c2 : x8_1 < (l0.length : Int)
   ·rw [if_pos c2] at H
    have c2b0 : decide (x8_1 < (l0.length : Int)) = true := decide_eq_true c2
    clear c2
    by_cases c3 : 0 ≤ x8_1
    ·rw [if_pos c3] at H
     have c3b0 : decide (0 ≤ x8_1) = true := decide_eq_true c3
     clear c3
     by_cases c4 : x8_1 < (l0.length : Int)
     ·rw [if_pos c4] at H
      have c4b0 : decide (x8_1 < (l0.length : Int)) = true := decide_eq_true c4
      clear c4
      have H' := Aside0.mk H
      clear H
      have p313 : 0 ≤ (x8_1 : Int) := of_decide_eq_true (by first | (with_reducible assumption) | assumption)
      have q313 : x8_1 < (l0.length : Int) := of_decide_eq_true (by first | (with_reducible assumption) | assumption)
      obtain ⟨ad313, A313_1, c313_1, e313, hx313_0, hx313_1, hl313_1, hi313_1⟩ := at_T73 HR0.out x8_1 p313 q313
      cases e313
      replace hx313_0 := (HB.out.cell (World.block_lt_of_cell? w _ hx313_0)).trans hx313_0
      replace hx313_1 := (HB.out.cell (World.block_lt_of_cell? w _ hx313_1)).trans hx313_1
      have HR313_1 := Aside0.mk hi313_1
      have HC313_1 := Aside0.mk hl313_1
      clear hi313_1 hl313_1
      replace p313 := eq_true p313
      replace q313 := eq_true q313
      go_wp2_with (first | ((with_reducible refine gate_dst (N := 5) rfl ?_); refine box_event ?hg (N := 5) ?hd (cs := #[.int .u8 0, .slice none 0 0]) (t := 73) ?hr ?_; (case hd => rfl); (case hg => rfl); (case hr => first | (go_simp; done) | (go_simp; rfl)); intro gb314 hg w5 hbox hb; have n0_ := Aside0.mk (below_step (by repeat (first | (with_reducible first | exact HB.out | apply below_alloc | apply pw_below_drewN | apply below_drew1) | exact HB.out)) hb); have n1_ := Aside0.mk (hbox); have n2_ := Aside0.mk ((by rw [hg]; exact (below_size (by repeat (first | (with_reducible first | exact HB.out | apply below_alloc | apply pw_below_drewN | apply below_drew1) | exact HB.out))) : w.heap.size ≤ gb314)); have n3_ := Aside0.mk ((by rw [hg]; exact (below_size (by repeat (first | (with_reducible first | exact HB.out | apply below_alloc | apply pw_below_drewN | apply below_drew1) | exact HB.out))) : w.heap.size ≤ gb314)); clear HB; have HB := n0_; have BK314 := n1_; have GW314 := n2_; have GE314 := n3_; clear n0_ n1_ n2_ n3_; clear hb hbox hg; have hcz6_0 : w5.cell? ⟨gb314, 0, none⟩ = some (.int .u8 0) := (blk_cell BK314.out 0).trans rfl; have hcz6_1 : w5.cell? ⟨gb314, 1, none⟩ = some (.slice none 0 0) := (blk_cell BK314.out 1).trans rfl; have hfz6_0 := blk_frozen BK314.out 0; have hfz6_1 := blk_frozen BK314.out 1))
      go_roundg k1
      case measure => have := HK1.out; omega
      case rel => exact ⟨(wrap64 (x3_1 + (wrap64 (1 + (((rd_T73 l0 x8_1).f1).length : Int))))), (wrap64 (x8_1 + 1)), (by first | rfl | (simp; done) | (simp [*]; done)), (by first | rfl | (simp; done) | (simp [*]; done)), H', ⟨by have := HK1.out; omega⟩, ⟨by repeat (first | (with_reducible first | exact HB.out | apply below_alloc | apply pw_below_drewN | apply below_drew1 | refine below_set ?_ GE314.out) | exact HB.out)⟩⟩
     ·rw [if_neg c4] at H
      exact absurd H (by simp)
    ·rw [if_neg c3] at H
     exact absurd H (by simp)
   ·rw [if_neg c2] at H
    have c2b0 : decide (x8_1 < (l0.length : Int)) = false := decide_eq_false c2
    clear c2
    obtain rfl := Option.some.inj H
    go_wp2
    go_ret
    exact ⟨by first | rfl | (simp [errW_none, errW_some] <;> rfl) | (simp [*, errW_none, errW_some] <;> rfl), by repeat (first | (with_reducible first | exact HB.out | apply below_alloc | apply pw_below_drewN | apply below_drew1) | exact HB.out)⟩

/-! ### disk_Wrap: function 24 -/
mutual
def disk_Wrap.j0 : Nat → List (S73) → Bool → Option (List Int × Bool)
 | 0, _, _ => none
 | k + 1, x0, x20 => if x20 = true then (some (([] : List Int), false)) else (disk_Wrap.l0 k ([] : List Int) x0 (x0.length : Int) 0)
def disk_Wrap.l0 : Nat → List Int → List (S73) → Int → Int → Option (List Int × Bool)
 | 0, _, _, _, _ => none
 | k + 1, x4, x21, x22, x23 => if x23 < x22 then (if 0 ≤ x23 then (if x23 < (x21.length : Int) then ((some (([(rd_T73 x21 x23).f0] : List Int) : List Int)).bind fun y319 => (if y319.length + ((rd_T73 x21 x23).f1).length < 140737488355328 then ((some (y319 ++ ((rd_T73 x21 x23).f1) : List Int)).bind fun y322 => ((seal_Short.f k y322).bind fun t325 => (if x4.length + y322.length < 140737488355328 then ((some (x4 ++ y322 : List Int)).bind fun y326 => ((some (([(t325) % 256, (t325 / 256) % 256] : List Int) : List Int)).bind fun y329 => (if y326.length + y329.length < 140737488355328 then (disk_Wrap.l0 k (y326 ++ y329) x21 x22 (wrap64 (x23 + 1))) else (none)))) else (none)))) else (none))) else (none)) else (none)) else (if 0 ≤ (wrap64 (65536 - (x4.length : Int))) then (if x4.length + (wrap64 (65536 - (x4.length : Int)) : Int).toNat < 140737488355328 then (some ((x4 ++ List.replicate (wrap64 (65536 - (x4.length : Int)) : Int).toNat 0), true)) else (none)) else (none))
end
def disk_Wrap.f (k : Nat) (l0 : List (S73)) : Option (List Int × Bool) := (block_Right.f k l0).bind fun t315 => (if t315 = true then ((block_Size.f k l0).bind fun t316 => (disk_Wrap.j0 k l0 (decide ((wrap64 (t316 + (wrap64 (2 * (l0.length : Int))))) > 65536)))) else (disk_Wrap.j0 k l0 true))
set_option maxHeartbeats 8000000 in
set_option maxRecDepth 100000 in
theorem disk_Wrap.calls (k : Nat) (A0 : Option Addr) (c0 : Nat) (l0 : List (S73)) (r1 : List Int) (r2 : Bool) (w : World) (hr0 : Kd.C k73 w A0 l0.length l0) (hc0 : l0.length ≤ c0) (h : disk_Wrap.f k l0 = some (r1, r2)) :
  Calls Try.prog 24 #[.slice A0 l0.length c0] w fun e w' => ∃ v0_ : Value, e = .returned (.tuple #[v0_, .bool r2]) ∧ Kd.R (Kd.int .u8) 5 w' w.heap.size (fun _ => True) v0_ r1 ∧ Below w.heap.size w w' := by
 have hu73 := Try.underlying73
 have HR0 := Aside0.mk hr0
 have HC0 := Aside0.mk hc0
 clear hr0 hc0
 have HB := Aside0.mk (Below.refl w.heap.size w)
 have H : ((block_Right.f k l0).bind fun t315 => (if t315 = true then ((block_Size.f k l0).bind fun t316 => (disk_Wrap.j0 k l0 (decide ((wrap64 (t316 + (wrap64 (2 * (l0.length : Int))))) > 65536)))) else (disk_Wrap.j0 k l0 true))) = some (r1, r2) := h
 clear h
 have HC2 := Aside0.mk H
 clear H
 go_enter Try.func24, Try.ntmps24
 go_upto_region 1 with (fail)
 go_cut [20] (fun v20 wc => ∃ (kq : Nat) (x20_1 : Bool), v20 = .bool x20_1 ∧ Aside0 (disk_Wrap.j0 kq l0 x20_1 = some (r1, r2)) ∧ Aside0 (kq ≤ k) ∧ Aside0 (Below w.heap.size w wc))
 case first =>
  have H := HC2.out
  clear HC2
  replace H := Option.bind_eq_some_iff.mp H
  obtain ⟨t315, A30, H⟩ := H
  replace H : (if t315 = true then ((block_Size.f k l0).bind fun t316 => (disk_Wrap.j0 k l0 (decide ((wrap64 (t316 + (wrap64 (2 * (l0.length : Int))))) > 65536)))) else (disk_Wrap.j0 k l0 true)) = some (r1, r2) := H
  have A3 := Aside0.mk A30
  clear A30
  by_cases c4 : t315 = true
  ·subst c4
   have H1 : ((block_Size.f k l0).bind fun t316 => (disk_Wrap.j0 k l0 (decide ((wrap64 (t316 + (wrap64 (2 * (l0.length : Int))))) > 65536)))) = some (r1, r2) := by rw [if_pos rfl] at H; exact H
   clear H
   have H := H1
   clear H1
   replace H := Option.bind_eq_some_iff.mp H
   obtain ⟨t316, A50, H⟩ := H
   replace H : (disk_Wrap.j0 k l0 (decide ((wrap64 (t316 + (wrap64 (2 * (l0.length : Int))))) > 65536))) = some (r1, r2) := H
   have A5 := Aside0.mk A50
   clear A50
   have H' := Aside0.mk H
   clear H
   go_wp2_with (first | ((with_reducible refine gate_callee (f := 45) rfl ?_); refine goesL_ (some 10) rfl rfl Try.func45 (by kernel_rfl) rfl #[.slice A0 l0.length c0] rfl (by (try simp only [List.map_toArray, List.map_cons, List.map_nil]); first | done | rfl | (simp only [List.length_drop, List.length_take]; rfl)) ?_; (with_reducible refine (block_Right.calls k (fun k_ => k_ < w.heap.size) _ _ l0 true _ ?side1 A3.out).mono ?_); (case side1 => exact Kd.V_mk HC0.out (Kd.F_below (Kd.C_F k73_heap HR0.out) (by repeat (first | (with_reducible first | exact HB.out | apply below_alloc | apply pw_below_drewN | apply below_drew1) | exact HB.out)))); rintro e w6 ⟨rfl, hb⟩; refine ⟨_, rfl, ?_⟩; have n0_ := Aside0.mk (below_step (by repeat (first | (with_reducible first | exact HB.out | apply below_alloc | apply pw_below_drewN | apply below_drew1) | exact HB.out)) hb); clear HB; have HB := n0_; clear n0_; (try clear hb); (try clear hb2); (try clear hk); (try clear hi)) | (go_at_call 46; (with_reducible refine (block_Size.calls k _ _ l0 t316 _ ?side1 ?side2 A5.out).mono ?_); (case side1 => repeat (first | exact (Kd.C_below HR0.out HB.out) | (with_reducible refine Kd.C_alloc ?_ _) | (with_reducible refine Kd.C_drewN ?_ _) | (with_reducible refine Kd.C_drew ?_))); (case side2 => exact HC0.out); rintro e w7 ⟨rfl, hb⟩; have n0_ := Aside0.mk (below_step (by repeat (first | (with_reducible first | exact HB.out | apply below_alloc | apply pw_below_drewN | apply below_drew1) | exact HB.out)) hb); clear HB; have HB := n0_; clear n0_; (try clear hb); (try clear hb2); (try clear hk); (try clear hi)))
   go_meet
   case rel => exact ⟨_, (decide ((wrap64 (t316 + (wrap64 (2 * (l0.length : Int))))) > 65536)), (by first | rfl | (simp; done) | (simp [*]; done)), H', ⟨by first | omega | exact Nat.le_refl _⟩, ⟨by repeat (first | (with_reducible first | exact HB.out | apply below_alloc | apply pw_below_drewN | apply below_drew1) | exact HB.out)⟩⟩
  ·replace c4 := Bool.eq_false_iff.mpr c4
   subst c4
   have H1 : (disk_Wrap.j0 k l0 true) = some (r1, r2) := by rw [if_neg (show ¬ (false = true) by decide)] at H; exact H
   clear H
   have H := H1
   clear H1
   have H' := Aside0.mk H
   clear H
   go_wp2_with (first | ((with_reducible refine gate_callee (f := 45) rfl ?_); refine goesL_ (some 10) rfl rfl Try.func45 (by kernel_rfl) rfl #[.slice A0 l0.length c0] rfl (by (try simp only [List.map_toArray, List.map_cons, List.map_nil]); first | done | rfl | (simp only [List.length_drop, List.length_take]; rfl)) ?_; (with_reducible refine (block_Right.calls k (fun k_ => k_ < w.heap.size) _ _ l0 false _ ?side1 A3.out).mono ?_); (case side1 => exact Kd.V_mk HC0.out (Kd.F_below (Kd.C_F k73_heap HR0.out) (by repeat (first | (with_reducible first | exact HB.out | apply below_alloc | apply pw_below_drewN | apply below_drew1) | exact HB.out)))); rintro e w8 ⟨rfl, hb⟩; refine ⟨_, rfl, ?_⟩; have n0_ := Aside0.mk (below_step (by repeat (first | (with_reducible first | exact HB.out | apply below_alloc | apply pw_below_drewN | apply below_drew1) | exact HB.out)) hb); clear HB; have HB := n0_; clear n0_; (try clear hb); (try clear hb2); (try clear hk); (try clear hi)))
   go_meet
   case rel => exact ⟨_, (true), (by first | rfl | (simp; done) | (simp [*]; done)), H', ⟨by first | omega | exact Nat.le_refl _⟩, ⟨by repeat (first | (with_reducible first | exact HB.out | apply below_alloc | apply pw_below_drewN | apply below_drew1) | exact HB.out)⟩⟩
 case rest =>
  clear HC2
  try clear c2
  try clear p2
  try clear c4
  try clear p6
  obtain ⟨kq, x20_1, rfl, HA, HJ1, HB⟩ := hcut
  cases kq with
  | zero => exact absurd HA.out (by simp [disk_Wrap.j0])
  | succ kj1 =>
   have H := HA.out
   clear HA
   simp only [disk_Wrap.j0] at H
   by_cases c9 : x20_1 = true
   ·subst c9
    have H1 : (some (([] : List Int), false)) = some (r1, r2) := by rw [if_pos rfl] at H; exact H
    clear H
    have H := H1
    clear H1
    simp only [Option.some.injEq, Prod.mk.injEq] at H
    obtain ⟨rfl, rfl⟩ := H
    go_wp2
    go_ret2
    exact ⟨_, by first | rfl | (simp [errW_none, errW_some] <;> rfl) | (simp [*, errW_none, errW_some] <;> rfl), by first | exact Kd.R_nil _ _ _ _ _ | exact Kd.N_nil _ _ _ _ _ | exact Kd.V_nil _ _ _ _ _ | exact Kd.Q_nil _ _ _ _ _ | exact Kd.S_nil _ _ _ _ _, by repeat (first | (with_reducible first | exact HB.out | apply below_alloc | apply pw_below_drewN | apply below_drew1) | exact HB.out)⟩
   ·replace c9 := Bool.eq_false_iff.mpr c9
    subst c9
    have H1 : (disk_Wrap.l0 kj1 ([] : List Int) l0 (l0.length : Int) 0) = some (r1, r2) := by rw [if_neg (show ¬ (false = true) by decide)] at H; exact H
    clear H
    have H := H1
    clear H1
    have H' := Aside0.mk H
    clear H
    go_wp2
    go_loopg [4, 23] kj1 (fun kq v4 v23 w' => ∃ (x4_2 : List Int) (x23_2 : Int), v23 = .int .i64 x23_2 ∧ Aside0 (disk_Wrap.l0 kq x4_2 l0 (l0.length : Int) x23_2 = some (r1, r2)) ∧ Aside0 (kq ≤ kj1) ∧ Aside0 (Kd.R (Kd.int .u8) 5 w' w.heap.size (fun _ => True) v4 x4_2) ∧ Aside0 (Below w.heap.size w w'))
    case atStart => exact ⟨(([] : List Int)), (0), (by first | rfl | (simp; done) | (simp [*]; done)), H', ⟨Nat.le_refl _⟩, ⟨by first | exact Kd.R_nil _ _ _ _ _ | exact Kd.N_nil _ _ _ _ _ | exact Kd.V_nil _ _ _ _ _ | exact Kd.Q_nil _ _ _ _ _ | exact Kd.S_nil _ _ _ _ _⟩, ⟨by repeat (first | (with_reducible first | exact HB.out | apply below_alloc | apply pw_below_drewN | apply below_drew1) | exact HB.out)⟩⟩
    case round =>
     clear H'
     try clear c2
     try clear p2
     try clear c4
     try clear p6
     try clear c9
     try clear p2
     try clear p6
     obtain ⟨x4_2, x23_2, rfl, HA, HK2, HO_4, HB⟩ := hrel
     cases gk with
     | zero => exact absurd HA.out (by simp [disk_Wrap.l0])
     | succ k2 =>
      have H := HA.out
      clear HA
      simp only [disk_Wrap.l0] at H
      by_cases c10 : x23_2 < (l0.length : Int)
      ·rw [if_pos c10] at H
       have c10b0 : decide (x23_2 < (l0.length : Int)) = true := decide_eq_true c10
       clear c10
       by_cases c11 : 0 ≤ x23_2
       ·rw [if_pos c11] at H
        have c11b0 : decide (0 ≤ x23_2) = true := decide_eq_true c11
        clear c11
        by_cases c12 : x23_2 < (l0.length : Int)
        ·rw [if_pos c12] at H
         have c12b0 : decide (x23_2 < (l0.length : Int)) = true := decide_eq_true c12
         clear c12
         obtain ⟨y319, hy319⟩ : ∃ y_ : List Int, y_ = (([(rd_T73 l0 x23_2).f0] : List Int)) := ⟨_, rfl⟩
         replace H : (if y319.length + ((rd_T73 l0 x23_2).f1).length < 140737488355328 then ((some (y319 ++ ((rd_T73 l0 x23_2).f1) : List Int)).bind fun y322 => ((seal_Short.f k2 y322).bind fun t325 => (if x4_2.length + y322.length < 140737488355328 then ((some (x4_2 ++ y322 : List Int)).bind fun y326 => ((some (([(t325) % 256, (t325 / 256) % 256] : List Int) : List Int)).bind fun y329 => (if y326.length + y329.length < 140737488355328 then (disk_Wrap.l0 k2 (y326 ++ y329) l0 (l0.length : Int) (wrap64 (x23_2 + 1))) else (none)))) else (none)))) else (none)) = some (r1, r2) := by first | (rw [hy319]; with_reducible exact H) | (have H2_ := (Option.bind_some _ _).symm.trans H; rw [hy319]; with_reducible exact H2_) | (have H2_ := (Option.bind_some _ _).symm.trans H; with_reducible exact H2_) | with_reducible exact H | (rw [hy319]; exact H) | exact H
         have Ny319 := Aside0.mk hy319
         clear hy319
         by_cases c13 : y319.length + ((rd_T73 l0 x23_2).f1).length < 140737488355328
         ·rw [if_pos c13] at H
          have LMc13 := Aside0.mk c13
          clear c13
          obtain ⟨y322, hy322⟩ : ∃ y_ : List Int, y_ = (y319 ++ ((rd_T73 l0 x23_2).f1)) := ⟨_, rfl⟩
          replace H : ((seal_Short.f k2 y322).bind fun t325 => (if x4_2.length + y322.length < 140737488355328 then ((some (x4_2 ++ y322 : List Int)).bind fun y326 => ((some (([(t325) % 256, (t325 / 256) % 256] : List Int) : List Int)).bind fun y329 => (if y326.length + y329.length < 140737488355328 then (disk_Wrap.l0 k2 (y326 ++ y329) l0 (l0.length : Int) (wrap64 (x23_2 + 1))) else (none)))) else (none))) = some (r1, r2) := by first | (rw [hy322]; with_reducible exact H) | (have H2_ := (Option.bind_some _ _).symm.trans H; rw [hy322]; with_reducible exact H2_) | (have H2_ := (Option.bind_some _ _).symm.trans H; with_reducible exact H2_) | with_reducible exact H | (rw [hy322]; exact H) | exact H
          have Ny322 := Aside0.mk hy322
          clear hy322
          replace H := Option.bind_eq_some_iff.mp H
          obtain ⟨t325, A140, H⟩ := H
          replace H : (if x4_2.length + y322.length < 140737488355328 then ((some (x4_2 ++ y322 : List Int)).bind fun y326 => ((some (([(t325) % 256, (t325 / 256) % 256] : List Int) : List Int)).bind fun y329 => (if y326.length + y329.length < 140737488355328 then (disk_Wrap.l0 k2 (y326 ++ y329) l0 (l0.length : Int) (wrap64 (x23_2 + 1))) else (none)))) else (none)) = some (r1, r2) := H
          have A14 := Aside0.mk A140
          clear A140
          by_cases c15 : x4_2.length + y322.length < 140737488355328
          ·rw [if_pos c15] at H
           have LMc15 := Aside0.mk c15
           clear c15
           obtain ⟨y326, hy326⟩ : ∃ y_ : List Int, y_ = (x4_2 ++ y322) := ⟨_, rfl⟩
           replace H : ((some (([(t325) % 256, (t325 / 256) % 256] : List Int) : List Int)).bind fun y329 => (if y326.length + y329.length < 140737488355328 then (disk_Wrap.l0 k2 (y326 ++ y329) l0 (l0.length : Int) (wrap64 (x23_2 + 1))) else (none))) = some (r1, r2) := by first | (rw [hy326]; with_reducible exact H) | (have H2_ := (Option.bind_some _ _).symm.trans H; rw [hy326]; with_reducible exact H2_) | (have H2_ := (Option.bind_some _ _).symm.trans H; with_reducible exact H2_) | with_reducible exact H | (rw [hy326]; exact H) | exact H
           have Ny326 := Aside0.mk hy326
           clear hy326
           obtain ⟨y329, hy329⟩ : ∃ y_ : List Int, y_ = (([(t325) % 256, (t325 / 256) % 256] : List Int)) := ⟨_, rfl⟩
           replace H : (if y326.length + y329.length < 140737488355328 then (disk_Wrap.l0 k2 (y326 ++ y329) l0 (l0.length : Int) (wrap64 (x23_2 + 1))) else (none)) = some (r1, r2) := by first | (rw [hy329]; with_reducible exact H) | (have H2_ := (Option.bind_some _ _).symm.trans H; rw [hy329]; with_reducible exact H2_) | (have H2_ := (Option.bind_some _ _).symm.trans H; with_reducible exact H2_) | with_reducible exact H | (rw [hy329]; exact H) | exact H
           have Ny329 := Aside0.mk hy329
           clear hy329
           by_cases c16 : y326.length + y329.length < 140737488355328
           ·rw [if_pos c16] at H
            have LMc16 := Aside0.mk c16
            clear c16
            obtain ⟨y332, hy332⟩ : ∃ y_ : List Int, y_ = (y326 ++ y329) := ⟨_, rfl⟩
            replace H : (disk_Wrap.l0 k2 y332 l0 (l0.length : Int) (wrap64 (x23_2 + 1))) = some (r1, r2) := by first | (rw [hy332]; with_reducible exact H) | (have H2_ := (Option.bind_some _ _).symm.trans H; rw [hy332]; with_reducible exact H2_) | (have H2_ := (Option.bind_some _ _).symm.trans H; with_reducible exact H2_) | with_reducible exact H | (rw [hy332]; exact H) | exact H
            have Ny332 := Aside0.mk hy332
            clear hy332
            have H' := Aside0.mk H
            clear H
            have p317 : 0 ≤ (x23_2 : Int) := of_decide_eq_true (by first | (with_reducible assumption) | assumption)
            have q317 : x23_2 < (l0.length : Int) := of_decide_eq_true (by first | (with_reducible assumption) | assumption)
            obtain ⟨ad317, A317_1, c317_1, e317, hx317_0, hx317_1, hl317_1, hi317_1⟩ := at_T73 HR0.out x23_2 p317 q317
            cases e317
            replace hx317_0 := (HB.out.cell (World.block_lt_of_cell? w _ hx317_0)).trans hx317_0
            replace hx317_1 := (HB.out.cell (World.block_lt_of_cell? w _ hx317_1)).trans hx317_1
            have HR317_1 := Aside0.mk hi317_1
            have HC317_1 := Aside0.mk hl317_1
            clear hi317_1 hl317_1
            replace p317 := eq_true p317
            replace q317 := eq_true q317
            go_wp2_with (first | ((with_reducible refine gate_dst (N := 6) rfl ?_); (try (refine gate_guard (by rfl) ?_; dsimp only)); refine box_event ?hg (N := 6) ?hd (cs := #[.int .u8 0, .slice none 0 0]) (t := 73) ?hr ?_; (case hd => rfl); (case hg => rfl); (case hr => first | (go_simp; done) | (go_simp; rfl)); intro gb318 hg w17 hbox hb; have n0_ := Aside0.mk (Kd.R_below (by (with_reducible repeat (first | apply Kd.R_alloc | apply Kd.R_drewN | apply Kd.R_drew)); exact HO_4.out) hb); have n1_ := Aside0.mk (below_step (by repeat (first | (with_reducible first | exact HB.out | apply below_alloc | apply pw_below_drewN | apply below_drew1) | exact HB.out)) hb); have n2_ := Aside0.mk (hbox); have n3_ := Aside0.mk ((by rw [hg]; exact (below_size (by repeat (first | (with_reducible first | exact HB.out | apply below_alloc | apply pw_below_drewN | apply below_drew1) | exact HB.out))) : w.heap.size ≤ gb318)); have n4_ := Aside0.mk ((by rw [hg]; exact (below_size (by repeat (first | (with_reducible first | exact HB.out | apply below_alloc | apply pw_below_drewN | apply below_drew1) | exact HB.out))) : w.heap.size ≤ gb318)); clear HO_4; clear HB; have HO_4 := n0_; have HB := n1_; have BK318 := n2_; have GW318 := n3_; have GE318 := n4_; clear n0_ n1_ n2_ n3_ n4_; clear hb hbox hg; have hcz18_0 : w17.cell? ⟨gb318, 0, none⟩ = some (.int .u8 0) := (blk_cell BK318.out 0).trans rfl; have hcz18_1 : w17.cell? ⟨gb318, 1, none⟩ = some (.slice none 0 0) := (blk_cell BK318.out 1).trans rfl; have hfz18_0 := blk_frozen BK318.out 0; have hfz18_1 := blk_frozen BK318.out 1) | ((with_reducible refine gate_dst (N := 29) rfl ?_); (try (refine gate_guard (by rfl) ?_; dsimp only)); refine Kd.R_lit (Kd.int .u8) _ 5 ?hg (N := 29) ?hd (xs := ([(rd_T73 l0 x23_2).f0] : List Int)) (inner := [.int .u8 ((rd_T73 l0 x23_2).f0)]) (ok := fun _ => True) (okp := fun _ => True) ?hr ?hp (fun _ hk => hk) trivial (Below.refl _ _) (Nat.le_refl _) (by simp) ?_; (case hd => rfl); (case hg => rfl); (case hr => first | (go_simp; done) | (go_simp; rfl)); (case hp => exact (Reps.one (show Kd.M (Kd.int .u8) _ _ _ ((rd_T73 l0 x23_2).f0) [.int .u8 ((rd_T73 l0 x23_2).f0)] from rfl) (Reps.none _ _))); intro v320 w19 ho20 hb hg_ hnew_; clear hg_ hnew_; (first | rw [← Ny319.out] at ho20 | (simp only [Int.reduceToNat] at ho20; rw [← Ny319.out] at ho20)); have n0_ := Aside0.mk (Kd.R_elder' (by (with_reducible repeat (first | apply Kd.R_alloc | apply Kd.R_drewN | apply Kd.R_drew)); exact (Kd.R_mono (Kd.R_far (p := ⟨gb318, 1, none⟩) (Kd.R_far (p := ⟨gb318, 0, none⟩) (Kd.R_types HO_4.out BK318.out (by decide)) (fun _ hk => hk.2) (.int .u8 ((rd_T73 l0 x23_2).f0))) (fun _ hk => hk.2) (.slice A317_1 ((rd_T73 l0 x23_2).f1).length c317_1)) (fun _ h_ => h_.1))) (Kd.R_base ho20) hb); have n1_ := Aside0.mk (Kd.R_lower (Kd.R_new' ho20 (Kd.R_lt (by (with_reducible repeat (first | apply Kd.R_alloc | apply Kd.R_drewN | apply Kd.R_drew)); exact (Kd.R_mono (Kd.R_far (p := ⟨gb318, 1, none⟩) (Kd.R_far (p := ⟨gb318, 0, none⟩) (Kd.R_types HO_4.out BK318.out (by decide)) (fun _ hk => hk.2) (.int .u8 ((rd_T73 l0 x23_2).f0))) (fun _ hk => hk.2) (.slice A317_1 ((rd_T73 l0 x23_2).f1).length c317_1)) (fun _ h_ => h_.1))))) (below_size (by repeat (first | (with_reducible first | exact HB.out | apply below_alloc | apply pw_below_drewN | apply below_drew1 | refine below_set ?_ GE318.out) | exact HB.out)))); have n2_ := Aside0.mk (blk_below (g := gb318) (o := .cells #[.int .u8 ((rd_T73 l0 x23_2).f0), .slice A317_1 ((rd_T73 l0 x23_2).f1).length c317_1] 73 (0, 0)) (by (with_reducible repeat (first | refine blk_drewN ?_ _ | refine blk_drew ?_ | refine blk_alloc ?_ _)); refine blk_put (cs := #[.int .u8 ((rd_T73 l0 x23_2).f0), .slice none 0 0]) ?_ 1 _ rfl; (with_reducible repeat (first | refine blk_drewN ?_ _ | refine blk_drew ?_ | refine blk_alloc ?_ _)); refine blk_put (cs := #[.int .u8 0, .slice none 0 0]) ?_ 0 _ rfl; (with_reducible repeat (first | refine blk_drewN ?_ _ | refine blk_drew ?_ | refine blk_alloc ?_ _)); exact BK318.out) hb); have n3_ := Aside0.mk (below_step (by repeat (first | (with_reducible first | exact HB.out | apply below_alloc | apply pw_below_drewN | apply below_drew1 | refine below_set ?_ GE318.out) | exact HB.out)) hb); clear HO_4; clear BK318; clear HB; have HO_4 := n0_; have HO321 := n1_; have BK318 := n2_; have HB := n3_; clear n0_ n1_ n2_ n3_; clear hb ho20; have hcz21_0 : w19.cell? ⟨gb318, 0, none⟩ = some (.int .u8 ((rd_T73 l0 x23_2).f0)) := (blk_cell BK318.out 0).trans rfl; have hcz21_1 : w19.cell? ⟨gb318, 1, none⟩ = some (.slice A317_1 ((rd_T73 l0 x23_2).f1).length c317_1) := (blk_cell BK318.out 1).trans rfl; have hfz21_0 := blk_frozen BK318.out 0; have hfz21_1 := blk_frozen BK318.out 1) | ((with_reducible refine gate_builtin (b := .append) (xs := #[.tmp 29, .tmp 31]) rfl ?_); (try (refine gate_guard (by rfl) ?_; dsimp only)); at_builtin; refine Kd.R_append_rows (Kd.int .u8) (w0 := w) w.heap.size rfl (.tmp 29) (.tmp 31) 22 5 (.int .u8 0) 1 rfl Try.underlying22 info5 rfl (by decide) (by omega) v320 y319 ((rd_T73 l0 x23_2).f1) _ _ _ (fun k_ => some k_ ≠ (u4 : Value).ownBlock) (fun _ => False) rfl rfl ?aO ?aR (fun _ _ h => h) (fun _ h => h.elim) ?aF ?aB ?aS ?aL ?_; (case aR => repeat (first | exact (Kd.C_below HR317_1.out HB.out) | (with_reducible refine Kd.C_alloc ?_ _) | (with_reducible refine Kd.C_drewN ?_ _) | (with_reducible refine Kd.C_drew ?_))); (case aB => exact (by repeat (first | (with_reducible first | exact HB.out | apply below_alloc | apply pw_below_drewN | apply below_drew1 | refine below_set ?_ GE318.out) | exact HB.out))); (case aF => exact (fun k_ hk => Kd.fresh' (Kd.R_lt (by (with_reducible repeat (first | apply Kd.R_alloc | apply Kd.R_drewN | apply Kd.R_drew)); exact HO_4.out)) k_ hk)); (case aO => exact (by (with_reducible repeat (first | apply Kd.R_alloc | apply Kd.R_drewN | apply Kd.R_drew)); exact Kd.R_mono HO321.out (fun _ hk => hk.2))); (case aS => exact (below_size (by repeat (first | (with_reducible first | exact HB.out | apply below_alloc | apply pw_below_drewN | apply below_drew1 | refine below_set ?_ GE318.out) | exact HB.out)))); (case aL => have := LMc13.out; omega); intro v323 w22 ho hb hg hat; (first | rw [← Ny322.out] at ho | (simp only [Int.reduceToNat] at ho; rw [← Ny322.out] at ho)); have n0_ := Aside0.mk (Kd.R_after (ok := (fun _ => True)) (by (with_reducible repeat (first | apply Kd.R_alloc | apply Kd.R_drewN | apply Kd.R_drew)); exact HO_4.out) hg hat); have n1_ := Aside0.mk (blk_grown (g := gb318) (o := .cells #[.int .u8 ((rd_T73 l0 x23_2).f0), .slice A317_1 ((rd_T73 l0 x23_2).f1).length c317_1] 73 (0, 0)) (by (with_reducible repeat (first | refine blk_drewN ?_ _ | refine blk_drew ?_ | refine blk_alloc ?_ _)); exact BK318.out) hg (Kd.R_ne HO321.out BK318.out (by decide))); have n2_ := Aside0.mk (hb); have n3_ := Aside0.mk (ho); clear HO_4; clear BK318; clear HB; clear HO321; have HO_4 := n0_; have BK318 := n1_; have HB := n2_; have HO324 := n3_; clear n0_ n1_ n2_ n3_; clear ho hb hg hat; obtain ⟨Ao23, co23, eo23⟩ := Kd.R_slice HO324.out; subst eo23) | ((with_reducible refine gate_callee (f := 40) rfl ?_); refine goesL_ (some 34) rfl rfl Try.func40 (by kernel_rfl) rfl #[.slice Ao23 y322.length co23] rfl (by (try simp only [List.map_toArray, List.map_cons, List.map_nil]); first | done | rfl | (simp only [List.length_drop, List.length_take]; rfl)) ?_; (with_reducible refine (seal_Short.calls k2 _ _ y322 t325 _ ?side1 ?side2 A14.out).mono ?_); (case side1 => repeat (first | exact (Kd.R_reads' HO324.out).2.2 | (with_reducible refine Kd.C_alloc ?_ _) | (with_reducible refine Kd.C_drewN ?_ _) | (with_reducible refine Kd.C_drew ?_))); (case side2 => exact (Kd.R_reads' HO324.out).2.1); rintro e w' ⟨rfl, ⟨nd, rfl⟩⟩; refine ⟨_, rfl, ?_⟩) | ((with_reducible refine gate_builtin (b := .append) (xs := #[.tmp 35, .tmp 36]) rfl ?_); (try (refine gate_guard (by rfl) ?_; dsimp only)); at_builtin; refine Kd.R_append_rows (Kd.int .u8) (w0 := w) w.heap.size rfl (.tmp 35) (.tmp 36) 22 5 (.int .u8 0) 1 rfl Try.underlying22 info5 rfl (by decide) (by omega) u4 x4_2 y322 _ _ _ (fun k_ => some k_ ≠ (.slice Ao23 y322.length co23 : Value).ownBlock) (fun _ => False) rfl rfl ?aO ?aR (fun _ _ h => h) (fun _ h => h.elim) ?aF ?aB ?aS ?aL ?_; (case aR => repeat (first | exact (Kd.R_reads' HO324.out).2.2 | (with_reducible refine Kd.C_alloc ?_ _) | (with_reducible refine Kd.C_drewN ?_ _) | (with_reducible refine Kd.C_drew ?_))); (case aB => exact (by repeat (first | (with_reducible first | exact HB.out | apply below_alloc | apply pw_below_drewN | apply below_drew1 | refine below_set ?_ GE318.out) | exact HB.out))); (case aF => exact (fun k_ hk => Kd.fresh' (Kd.R_lt (by (with_reducible repeat (first | apply Kd.R_alloc | apply Kd.R_drewN | apply Kd.R_drew)); exact HO324.out)) k_ hk)); (case aO => exact (by (with_reducible repeat (first | apply Kd.R_alloc | apply Kd.R_drewN | apply Kd.R_drew)); exact Kd.R_mono HO_4.out (fun _ hk => hk.2))); (case aS => exact (below_size (by repeat (first | (with_reducible first | exact HB.out | apply below_alloc | apply pw_below_drewN | apply below_drew1 | refine below_set ?_ GE318.out) | exact HB.out)))); (case aL => have := LMc15.out; omega); intro v327 w24 ho hb hg hat; (first | rw [← Ny326.out] at ho | (simp only [Int.reduceToNat] at ho; rw [← Ny326.out] at ho)); have n0_ := Aside0.mk (blk_grown (g := gb318) (o := .cells #[.int .u8 ((rd_T73 l0 x23_2).f0), .slice A317_1 ((rd_T73 l0 x23_2).f1).length c317_1] 73 (0, 0)) (by (with_reducible repeat (first | refine blk_drewN ?_ _ | refine blk_drew ?_ | refine blk_alloc ?_ _)); exact BK318.out) hg (Kd.R_ne HO_4.out BK318.out (by decide))); have n1_ := Aside0.mk (Kd.R_after (ok := (fun _ => True)) (by (with_reducible repeat (first | apply Kd.R_alloc | apply Kd.R_drewN | apply Kd.R_drew)); exact Kd.R_mono HO324.out (fun _ hk => ⟨trivial, hk⟩)) hg hat); have n2_ := Aside0.mk (hb); have n3_ := Aside0.mk (ho); clear BK318; clear HO324; clear HB; clear HO_4; have BK318 := n0_; have HO324 := n1_; have HB := n2_; have HO328 := n3_; clear n0_ n1_ n2_ n3_; clear ho hb hg hat) | ((with_reducible refine gate_dst (N := 43) rfl ?_); (try (refine gate_guard (by rfl) ?_; dsimp only)); refine Kd.R_lit (Kd.int .u8) _ 5 ?hg (N := 43) ?hd (xs := ([(t325) % 256, (t325 / 256) % 256] : List Int)) (inner := [.int .u8 ((t325) % 256), .int .u8 ((t325 / 256) % 256)]) (ok := fun _ => True) (okp := fun _ => True) ?hr ?hp (fun _ hk => hk) trivial (Below.refl _ _) (Nat.le_refl _) (by simp) ?_; (case hd => rfl); (case hg => rfl); (case hr => first | (go_simp; done) | (go_simp; rfl)); (case hp => exact (Reps.one (show Kd.M (Kd.int .u8) _ _ _ ((t325) % 256) [.int .u8 ((t325) % 256)] from rfl) (Reps.one (show Kd.M (Kd.int .u8) _ _ _ ((t325 / 256) % 256) [.int .u8 ((t325 / 256) % 256)] from rfl) (Reps.none _ _)))); intro v330 w25 ho26 hb hg_ hnew_; clear hg_ hnew_; (first | rw [← Ny329.out] at ho26 | (simp only [Int.reduceToNat] at ho26; rw [← Ny329.out] at ho26)); have n0_ := Aside0.mk (Kd.R_elder' (by (with_reducible repeat (first | apply Kd.R_alloc | apply Kd.R_drewN | apply Kd.R_drew)); exact HO324.out) (Kd.R_base ho26) hb); have n1_ := Aside0.mk (Kd.R_elder' (by (with_reducible repeat (first | apply Kd.R_alloc | apply Kd.R_drewN | apply Kd.R_drew)); exact HO328.out) (Kd.R_base ho26) hb); have n2_ := Aside0.mk (Kd.R_lower (Kd.R_new' (Kd.R_new' ho26 (Kd.R_lt (by (with_reducible repeat (first | apply Kd.R_alloc | apply Kd.R_drewN | apply Kd.R_drew)); exact HO324.out))) (Kd.R_lt (by (with_reducible repeat (first | apply Kd.R_alloc | apply Kd.R_drewN | apply Kd.R_drew)); exact HO328.out))) (below_size (by repeat (first | (with_reducible first | exact HB.out | apply below_alloc | apply pw_below_drewN | apply below_drew1 | refine below_set ?_ GE318.out) | exact HB.out)))); have n3_ := Aside0.mk (blk_below (g := gb318) (o := .cells #[.int .u8 ((rd_T73 l0 x23_2).f0), .slice A317_1 ((rd_T73 l0 x23_2).f1).length c317_1] 73 (0, 0)) (by (with_reducible repeat (first | refine blk_drewN ?_ _ | refine blk_drew ?_ | refine blk_alloc ?_ _)); exact BK318.out) hb); have n4_ := Aside0.mk (below_step (by repeat (first | (with_reducible first | exact HB.out | apply below_alloc | apply pw_below_drewN | apply below_drew1 | refine below_set ?_ GE318.out) | exact HB.out)) hb); clear HO324; clear HO328; clear BK318; clear HB; have HO324 := n0_; have HO328 := n1_; have HO331 := n2_; have BK318 := n3_; have HB := n4_; clear n0_ n1_ n2_ n3_ n4_; clear hb ho26; obtain ⟨Ao28, co28, eo28⟩ := Kd.R_slice HO331.out; subst eo28) | ((with_reducible refine gate_builtin (b := .append) (xs := #[.tmp 37, .tmp 43]) rfl ?_); (try (refine gate_guard (by rfl) ?_; dsimp only)); at_builtin; refine Kd.R_append_rows (Kd.int .u8) (w0 := w) w.heap.size rfl (.tmp 37) (.tmp 43) 22 5 (.int .u8 0) 1 rfl Try.underlying22 info5 rfl (by decide) (by omega) v327 y326 y329 _ _ _ (fun k_ => some k_ ≠ (.slice Ao23 y322.length co23 : Value).ownBlock ∧ some k_ ≠ (.slice Ao28 y329.length co28 : Value).ownBlock) (fun _ => False) rfl rfl ?aO ?aR (fun _ _ h => h) (fun _ h => h.elim) ?aF ?aB ?aS ?aL ?_; (case aR => repeat (first | exact (Kd.R_reads' HO331.out).2.2 | (with_reducible refine Kd.C_alloc ?_ _) | (with_reducible refine Kd.C_drewN ?_ _) | (with_reducible refine Kd.C_drew ?_))); (case aB => exact (by repeat (first | (with_reducible first | exact HB.out | apply below_alloc | apply pw_below_drewN | apply below_drew1 | refine below_set ?_ GE318.out) | exact HB.out))); (case aF => exact (fun k_ hk => ⟨Kd.fresh' (Kd.R_lt (by (with_reducible repeat (first | apply Kd.R_alloc | apply Kd.R_drewN | apply Kd.R_drew)); exact HO324.out)) k_ hk, Kd.fresh' (Kd.R_lt (by (with_reducible repeat (first | apply Kd.R_alloc | apply Kd.R_drewN | apply Kd.R_drew)); exact HO331.out)) k_ hk⟩)); (case aO => exact (by (with_reducible repeat (first | apply Kd.R_alloc | apply Kd.R_drewN | apply Kd.R_drew)); exact HO328.out)); (case aS => exact (below_size (by repeat (first | (with_reducible first | exact HB.out | apply below_alloc | apply pw_below_drewN | apply below_drew1 | refine below_set ?_ GE318.out) | exact HB.out)))); (case aL => have := LMc16.out; omega); intro v333 w27 ho hb hg hat; (first | rw [← Ny332.out] at ho | (simp only [Int.reduceToNat] at ho; rw [← Ny332.out] at ho)); have n0_ := Aside0.mk (blk_grown (g := gb318) (o := .cells #[.int .u8 ((rd_T73 l0 x23_2).f0), .slice A317_1 ((rd_T73 l0 x23_2).f1).length c317_1] 73 (0, 0)) (by (with_reducible repeat (first | refine blk_drewN ?_ _ | refine blk_drew ?_ | refine blk_alloc ?_ _)); exact BK318.out) hg (Kd.R_ne HO328.out BK318.out (by decide))); have n1_ := Aside0.mk (Kd.R_after (ok := (fun k_ => some k_ ≠ (.slice Ao28 y329.length co28 : Value).ownBlock)) (by (with_reducible repeat (first | apply Kd.R_alloc | apply Kd.R_drewN | apply Kd.R_drew)); exact Kd.R_mono HO324.out (fun _ hk => ⟨hk.2, hk.1.2⟩)) hg hat); have n2_ := Aside0.mk (Kd.R_after (ok := (fun k_ => some k_ ≠ (.slice Ao23 y322.length co23 : Value).ownBlock)) (by (with_reducible repeat (first | apply Kd.R_alloc | apply Kd.R_drewN | apply Kd.R_drew)); exact Kd.R_mono HO331.out (fun _ hk => ⟨hk.1.2, hk.2⟩)) hg hat); have n3_ := Aside0.mk (hb); have n4_ := Aside0.mk (ho); clear BK318; clear HO324; clear HO331; clear HB; clear HO328; have BK318 := n0_; have HO324 := n1_; have HO331 := n2_; have HB := n3_; have HO334 := n4_; clear n0_ n1_ n2_ n3_ n4_; clear ho hb hg hat))
            go_roundg k2
            case measure => have := HJ1.out; have := HK2.out; omega
            case rel => exact ⟨(y332), (wrap64 (x23_2 + 1)), (by first | rfl | (simp; done) | (simp [*]; done)), H', ⟨by have := HJ1.out; have := HK2.out; omega⟩, ⟨by (with_reducible repeat (first | apply Kd.R_alloc | apply Kd.R_drewN | apply Kd.R_drew)); exact Kd.R_mono HO334.out (fun _ hk => trivial)⟩, ⟨by repeat (first | (with_reducible first | exact HB.out | apply below_alloc | apply pw_below_drewN | apply below_drew1 | refine below_set ?_ GE318.out) | exact HB.out)⟩⟩
           ·rw [if_neg c16] at H
            exact absurd H (by simp)
          ·rw [if_neg c15] at H
           exact absurd H (by simp)
         ·rw [if_neg c13] at H
          exact absurd H (by simp)
        ·rw [if_neg c12] at H
         exact absurd H (by simp)
       ·rw [if_neg c11] at H
        exact absurd H (by simp)
      ·rw [if_neg c10] at H
       have c10b0 : decide (x23_2 < (l0.length : Int)) = false := decide_eq_false c10
       clear c10
       obtain ⟨ji29, hji29⟩ : ∃ j_ : Int, (wrap64 (65536 - (x4_2.length : Int))) = j_ := ⟨_, rfl⟩
       replace H : (if 0 ≤ (ji29) then (if x4_2.length + (ji29 : Int).toNat < 140737488355328 then (some ((x4_2 ++ List.replicate (ji29 : Int).toNat 0), true)) else (none)) else (none)) = some (r1, r2) := by first | (rw [hji29] at H; exact H) | (simp only [hji29] at H ⊢; exact H)
       have hji29w : (IntKind.i64.wrap (65536 - (x4_2.length : Int))) = ji29 := (i64_w _).trans hji29
       by_cases c30 : 0 ≤ (ji29)
       ·rw [if_pos c30] at H
        have c30b0 := eq_true c30
        have c30b1 : decide (0 ≤ (ji29)) = true := decide_eq_true c30
        clear c30
        by_cases c31 : x4_2.length + (ji29 : Int).toNat < 140737488355328
        ·rw [if_pos c31] at H
         have LMc31 := Aside0.mk c31
         clear c31
         obtain ⟨y335, hy335⟩ : ∃ y_ : List Int, y_ = (x4_2 ++ List.replicate (ji29 : Int).toNat 0) := ⟨_, rfl⟩
         replace H : (some (y335, true)) = some (r1, r2) := by first | (rw [hy335]; with_reducible exact H) | (have H2_ := (Option.bind_some _ _).symm.trans H; rw [hy335]; with_reducible exact H2_) | (have H2_ := (Option.bind_some _ _).symm.trans H; with_reducible exact H2_) | with_reducible exact H | (rw [hy335]; exact H) | exact H
         have Ny335 := Aside0.mk hy335
         clear hy335
         simp only [Option.some.injEq, Prod.mk.injEq] at H
         obtain ⟨rfl, rfl⟩ := H
         obtain ⟨Ao32, co32, eo32⟩ := Kd.R_slice HO_4.out
         subst eo32
         go_wp2_with (first | (at_builtin; refine Kd.R_append_zeros (Kd.int .u8) (w0 := w) w.heap.size rfl (.tmp 46) (.tmp 49) 22 3 5 (.int .u8 0) 1 rfl Try.underlying22 Try.underlying3 info5 rfl (by decide) (by omega) (.slice Ao32 x4_2.length co32) x4_2 0 (ji29 : Int) (fun _ => True) rfl rfl rfl ?aF ?aO (of_decide_eq_true (by first | (with_reducible assumption) | assumption)) ?aB ?aS ?aL ?_; (case aB => exact (by repeat (first | (with_reducible first | exact HB.out | apply below_alloc | apply pw_below_drewN | apply below_drew1) | exact HB.out))); (case aF => exact (fun _ _ => trivial)); (case aO => exact (by (with_reducible repeat (first | apply Kd.R_alloc | apply Kd.R_drewN | apply Kd.R_drew)); exact HO_4.out)); (case aS => exact (below_size (by repeat (first | (with_reducible first | exact HB.out | apply below_alloc | apply pw_below_drewN | apply below_drew1) | exact HB.out)))); (case aL => have := LMc31.out; omega); intro v336 w33 ho hb hg hat; (first | rw [← Ny335.out] at ho | (simp only [Int.reduceToNat] at ho; rw [← Ny335.out] at ho)); have n0_ := Aside0.mk (hb); have n1_ := Aside0.mk (ho); clear HB; clear HO_4; have HB := n0_; have HO337 := n1_; clear n0_ n1_; clear ho hb hg hat))
         go_ret2
         exact ⟨_, by first | rfl | (simp [errW_none, errW_some] <;> rfl) | (simp only [← hji29]; first | rfl | (simp [errW_none, errW_some] <;> rfl)) | (simp [*, errW_none, errW_some] <;> rfl), by (with_reducible repeat (first | apply Kd.R_alloc | apply Kd.R_drewN | apply Kd.R_drew)); exact HO337.out, by repeat (first | (with_reducible first | exact HB.out | apply below_alloc | apply pw_below_drewN | apply below_drew1) | exact HB.out)⟩
        ·rw [if_neg c31] at H
         exact absurd H (by simp)
       ·rw [if_neg c30] at H
        exact absurd H (by simp)

-- NOT PRINTED: function 47 (block_Block_47)

/-! ### block_Same: function 25, by hand -/
def block_Same.eqB (x y : S73) : Bool := (x.f0 == y.f0) && (x.f1 == y.f1)
def block_Same.sm : List (S73) → List (S73) → Bool
 | [], [] => true
 | x :: xs, y :: ys => block_Same.eqB x y && block_Same.sm xs ys
 | _, _ => false
def block_Same.fine (l : List (S73)) : Prop := ∀ x ∈ l, ∀ b ∈ x.f1, 0 ≤ b ∧ b < 256
instance (l : List (S73)) : Decidable (block_Same.fine l) := by unfold block_Same.fine; exact inferInstance
def block_Same.f (l0 l1 : List (S73)) : Option Bool := if block_Same.fine l0 ∧ block_Same.fine l1 then some (block_Same.sm l0 l1) else none
theorem block_Same.bytes_eq (xs ys : List Int) (hx : ∀ b ∈ xs, 0 ≤ b ∧ b < 256) (hy : ∀ b ∈ ys, 0 ≤ b ∧ b < 256) : (Lib.bytesOf xs == Lib.bytesOf ys) = (xs == ys) := by
 rw [Bool.eq_iff_iff, beq_iff_eq, beq_iff_eq]
 refine ⟨fun h => ?_, fun h => by rw [h]⟩
 have hl : xs.length = ys.length := by have := congrArg List.length h; simpa [Lib.bytesOf] using this
 apply List.ext_getElem hl
 intro i h1 h2
 have e : (Lib.bytesOf xs)[i]? = (Lib.bytesOf ys)[i]? := by rw [h]
 simp only [Lib.bytesOf, List.getElem?_map, List.getElem?_eq_getElem h1, List.getElem?_eq_getElem h2, Option.map_some, Option.some.injEq] at e
 have e2 := congrArg UInt8.toNat e
 have bx := hx _ (List.getElem_mem h1)
 have by_ := hy _ (List.getElem_mem h2)
 rw [UInt8.toNat_ofNat_of_lt' (by simp [UInt8.size]; omega), UInt8.toNat_ofNat_of_lt' (by simp [UInt8.size]; omega)] at e2
 omega
theorem block_Same.bytes_in {w : World} {A : Option Addr} {xs : List Int} (h : Kd.C (Kd.int .u8) w A xs.length xs) : Lib.BytesIn w A xs.length xs := by
 cases A with
 | none =>
  intro hn
  obtain ⟨ad, he, _⟩ := Kd.at_int h 0 (by omega) (by omega)
  cases he
 | some a =>
  refine Lib.BytesIn.of_cells (fun i hi => ?_)
  obtain ⟨ad, he, hc⟩ := Kd.at_int h (i : Int) (by omega) (by omega)
  cases he
  simpa [rd] using hc
set_option maxHeartbeats 400000 in
theorem block_Same.one (x y : S73) (A0 A1 : Option Addr) (c0 c1 : Nat) (w : World) (hx : ∀ b ∈ x.f1, 0 ≤ b ∧ b < 256) (hy : ∀ b ∈ y.f1, 0 ≤ b ∧ b < 256) (h0 : Kd.C (Kd.int .u8) w A0 x.f1.length x.f1) (h1 : Kd.C (Kd.int .u8) w A1 y.f1.length y.f1) :
  Calls Try.prog 48 #[.agg #[.int .u8 x.f0, .slice A0 x.f1.length c0], .agg #[.int .u8 y.f0, .slice A1 y.f1.length c1]] w fun e w' => e = .returned (.bool (block_Same.eqB x y)) ∧ Below w.heap.size w w' := by
 obtain ⟨k, d⟩ := x
 obtain ⟨k2, d2⟩ := y
 unfold block_Same.eqB
 dsimp only at *
 have H0 := Aside0.mk h0
 have H1 := Aside0.mk h1
 have HE := Aside0.mk (block_Same.bytes_eq d d2 hx hy)
 clear hx hy h0 h1
 by_cases hk : k = k2
 ·have t1 : (k == k2) = true := by simpa using hk
  rw [t1, Bool.true_and]
  clear hk
  go_enter Try.func48, Try.ntmps48
  go_wp2_with (go_at_call 32; refine (Try.bytes_Equal_all A0 A1 d.length c0 d2.length c1 d d2 _ rfl rfl (block_Same.bytes_in (Kd.C_below H0.out (below_alloc (below_alloc (Below.refl _ _) _) _))) (block_Same.bytes_in (Kd.C_below H1.out (below_alloc (below_alloc (Below.refl _ _) _) _)))).mono ?_; rintro e w' ⟨rfl, rfl⟩)
  go_ret
  exact ⟨congrArg (fun b => Ending.returned (.bool b)) HE.out, below_alloc (below_alloc (Below.refl _ _) _) _⟩
 ·have t1 : (k == k2) = false := by simpa using hk
  rw [t1, Bool.false_and]
  clear hk
  go_enter Try.func48, Try.ntmps48
  go_wp2
  go_ret
  exact ⟨rfl, below_alloc (below_alloc (Below.refl _ _) _) _⟩
theorem block_Same.sm_len : ∀ (l0 l1 : List (S73)), l0.length ≠ l1.length → block_Same.sm l0 l1 = false
 | [], [], h => absurd rfl h
 | [], _ :: _, _ => rfl
 | _ :: _, [], _ => rfl
 | x :: xs, y :: ys, h => by
  unfold block_Same.sm
  rw [block_Same.sm_len xs ys (fun e => h (by simp [e])), Bool.and_false]
theorem block_Same.sm_at (z : S73) : ∀ (l0 l1 : List (S73)) (i : Nat), i < l0.length → i < l1.length → block_Same.sm (l0.take (i + 1)) (l1.take (i + 1)) = (block_Same.sm (l0.take i) (l1.take i) && block_Same.eqB (l0.getD i z) (l1.getD i z))
 | [], _, _, h, _ => absurd h (Nat.not_lt_zero _)
 | _ :: _, [], _, _, h => absurd h (Nat.not_lt_zero _)
 | x :: xs, y :: ys, 0, _, _ => by simp only [List.take_succ_cons, List.take_zero, block_Same.sm, List.getD_cons_zero, Bool.and_true, Bool.true_and]
 | x :: xs, y :: ys, i + 1, h0, h1 => by
  simp only [List.take_succ_cons, block_Same.sm, List.getD_cons_succ]
  have ih := block_Same.sm_at z xs ys i (by simpa using h0) (by simpa using h1)
  rw [ih, Bool.and_assoc]
theorem block_Same.sm_no (z : S73) : ∀ (l0 l1 : List (S73)) (i : Nat), i < l0.length → i < l1.length → block_Same.eqB (l0.getD i z) (l1.getD i z) = false → block_Same.sm l0 l1 = false
 | [], _, _, h, _, _ => absurd h (Nat.not_lt_zero _)
 | _ :: _, [], _, _, h, _ => absurd h (Nat.not_lt_zero _)
 | x :: xs, y :: ys, 0, _, _, h => by simp only [List.getD_cons_zero] at h; rw [block_Same.sm, h, Bool.false_and]
 | x :: xs, y :: ys, i + 1, h0, h1, h => by
  simp only [List.getD_cons_succ] at h
  rw [block_Same.sm, block_Same.sm_no z xs ys i (by simpa using h0) (by simpa using h1) h, Bool.and_false]
theorem block_Same.fine_at {l : List (S73)} (h : block_Same.fine l) (i : Int) : ∀ b ∈ (rd_T73 l i).f1, 0 ≤ b ∧ b < 256 := by
 unfold rd_T73
 rw [List.getD_eq_getElem?_getD]
 cases hx : l[i.toNat]? with
 | none => intro b hb; cases hb
 | some x => exact h x (List.mem_of_getElem? hx)
set_option maxHeartbeats 400000 in
set_option maxRecDepth 100000 in
theorem block_Same.func (A0 : Option Addr) (c0 : Nat) (l0 : List (S73)) (A1 : Option Addr) (c1 : Nat) (l1 : List (S73)) (w : World) (hr0 : Kd.C k73 w A0 l0.length l0) (hr1 : Kd.C k73 w A1 l1.length l1) (hf0 : block_Same.fine l0) (hf1 : block_Same.fine l1) :
  Calls Try.prog 47 #[.slice A0 l0.length c0, .slice A1 l1.length c1, .func (.func 48) #[] #[]] w fun e w' => e = .returned (.bool (block_Same.sm l0 l1)) ∧ Below w.heap.size w w' := by
 by_cases hl : l0.length = l1.length
 ·have H0 := Aside0.mk hr0
  have H1 := Aside0.mk hr1
  have HF := Aside0.mk (And.intro hf0 hf1)
  have HL := Aside0.mk hl
  have hm0 := hr0.2.1
  have t1 : ((l0.length : Int) != (l1.length : Int)) = false := by rw [bne_eq_false_iff_eq]; omega
  have HSM := Aside0.mk (block_Same.sm_at z73 l0 l1)
  have HNO := Aside0.mk (block_Same.sm_no z73 l0 l1)
  clear hr0 hr1 hf0 hf1 hl
  go_enter Try.func47, Try.ntmps47
  go_wp2
  go_loopg [17] l0.length (fun kq v17 w' => ∃ i : Int, v17 = .int .i64 i ∧ Aside0 (0 ≤ i ∧ i + kq = l0.length) ∧ Aside0 (block_Same.sm (l0.take i.toNat) (l1.take i.toNat) = true) ∧ Aside0 (Below w.heap.size w w'))
  case atStart => exact ⟨0, rfl, ⟨by omega⟩, ⟨rfl⟩, ⟨Below.refl _ _⟩⟩
  case round =>
   obtain ⟨i, rfl, HI, HS, HB⟩ := hrel
   by_cases hi : i < (l0.length : Int)
   ·have hI := HI.out
    have hLL := HL.out
    obtain ⟨ad0, B0, d0, e0, x00, x01, xl0, xc0⟩ := at_T73 H0.out i (by omega) hi
    obtain ⟨ad1, B1, d1, e1, x10, x11, xl1, xc1⟩ := at_T73 H1.out i (by omega) (by omega)
    subst e0 e1
    replace x00 := pw_cell_below HB.out x00
    replace x01 := pw_cell_below HB.out x01
    replace x10 := pw_cell_below HB.out x10
    replace x11 := pw_cell_below HB.out x11
    have K0 := Aside0.mk (Kd.C_below xc0 HB.out)
    have K1 := Aside0.mk (Kd.C_below xc1 HB.out)
    have y10 := pw_cell_below (below_alloc (Below.refl wr.heap.size wr) (.cells #[Value.int .u8 (rd_T73 l0 i).f0, .slice B0 (rd_T73 l0 i).f1.length d0] 73)) x10
    have y11 := pw_cell_below (below_alloc (Below.refl wr.heap.size wr) (.cells #[Value.int .u8 (rd_T73 l0 i).f0, .slice B0 (rd_T73 l0 i).f1.length d0] 73)) x11
    have q0 := eq_true (show 0 ≤ i by omega)
    have q1 := eq_true hi
    have q2 := eq_true (show i < (l1.length : Int) by omega)
    have s1 : decide (i < (l0.length : Int)) = true := decide_eq_true hi
    have WW := Aside0.mk (show wrap64 (i + 1) = i + 1 by unfold wrap64; omega)
    have hN : i.toNat < l0.length ∧ i.toNat < l1.length := by omega
    have HN := Aside0.mk hN
    have hE : block_Same.sm (l0.take (i + 1).toNat) (l1.take (i + 1).toNat) = block_Same.eqB (rd_T73 l0 i) (rd_T73 l1 i) := by
     rw [show (i + 1).toNat = i.toNat + 1 by omega, HSM.out i.toNat hN.1 hN.2, HS.out, Bool.true_and]; rfl
    have HE := Aside0.mk hE
    have HI2 := Aside0.mk (show (0 ≤ i + 1 ∧ (i + 1) + ((gk - 1 : Nat) : Int) = l0.length) ∧ gk - 1 < gk by omega)
    have FN := Aside0.mk (And.intro (block_Same.fine_at HF.out.1 i) (block_Same.fine_at HF.out.2 i))
    clear xl0 xl1 xc0 xc1 hE hI hLL hN hi
    go_wp2_with fail
    have hbb := below_alloc (below_alloc (Below.refl wr.heap.size wr) (.cells #[Value.int .u8 (rd_T73 l0 i).f0, .slice B0 (rd_T73 l0 i).f1.length d0] 73)) (.cells #[Value.int .u8 (rd_T73 l1 i).f0, .slice B1 (rd_T73 l1 i).f1.length d1] 73)
    have HBB := Aside0.mk (HB.out.trans (hbb.mono (below_size HB.out)))
    refine (block_Same.one (rd_T73 l0 i) (rd_T73 l1 i) B0 B1 d0 d1 _ FN.out.1 FN.out.2 (Kd.C_below K0.out hbb) (Kd.C_below K1.out hbb)).mono ?_
    clear hbb x00 x01 x10 x11 y10 y11
    rintro e w2 ⟨rfl, hb⟩
    have HB2 := Aside0.mk (HBB.out.trans (hb.mono (below_size HBB.out)))
    clear hb
    cases hq : block_Same.eqB (rd_T73 l0 i) (rd_T73 l1 i) with
    | true =>
     rw [hq] at HE
     clear hq
     go_wp2_with fail
     go_roundg (gk - 1)
     case measure => have := HI2.out.2; omega
     case rel => exact ⟨i + 1, by rw [WW.out], ⟨HI2.out.1⟩, HE, HB2⟩
    | false =>
     have HR := Aside0.mk (HNO.out i.toNat HN.out.1 HN.out.2 hq)
     clear hq
     go_wp2_with fail
     go_ret
     exact ⟨congrArg (fun b => Ending.returned (.bool b)) HR.out.symm, HB2.out⟩
   ·have hI := HI.out
    have hin : i = (l0.length : Int) := by omega
    subst hin
    have hLL := HL.out
    have hS := HS.out
    rw [Int.toNat_natCast, List.take_length, hLL, List.take_length] at hS
    have HR := Aside0.mk hS
    have s1 : decide ((l0.length : Int) < (l0.length : Int)) = false := decide_eq_false (by omega)
    clear hS hLL hI hi HI HS
    go_wp2_with fail
    go_ret
    exact ⟨congrArg (fun b => Ending.returned (.bool b)) HR.out.symm, HB.out⟩
 ·have t1 : ((l0.length : Int) != (l1.length : Int)) = true := by rw [bne_iff_ne]; omega
  have HE := Aside0.mk (block_Same.sm_len l0 l1 hl)
  clear hr0 hr1 hf0 hf1 hl
  go_enter Try.func47, Try.ntmps47
  go_wp2
  go_ret
  exact ⟨congrArg (fun b => Ending.returned (.bool b)) HE.out.symm, Below.refl _ _⟩
set_option maxHeartbeats 400000 in
theorem block_Same.calls (A0 : Option Addr) (c0 : Nat) (l0 : List (S73)) (A1 : Option Addr) (c1 : Nat) (l1 : List (S73)) (r : Bool) (w : World) (hr0 : Kd.C k73 w A0 l0.length l0) (hc0 : l0.length ≤ c0) (hr1 : Kd.C k73 w A1 l1.length l1) (hc1 : l1.length ≤ c1) (h : block_Same.f l0 l1 = some r) :
  Calls Try.prog 25 #[.slice A0 l0.length c0, .slice A1 l1.length c1] w fun e w' => e = .returned (.bool r) ∧ Below w.heap.size w w' := by
 unfold block_Same.f at h
 by_cases hf : block_Same.fine l0 ∧ block_Same.fine l1
 ·rw [if_pos hf] at h
  obtain rfl := Option.some.inj h
  have HC := Aside0.mk (block_Same.func A0 c0 l0 A1 c1 l1 w hr0 hr1 hf.1 hf.2)
  clear h hr0 hr1 hc0 hc1 hf
  go_enter Try.func25, Try.ntmps25
  go_wp2_with fail
  refine HC.out.mono ?_
  rintro e w' ⟨rfl, hb⟩
  have HB := Aside0.mk hb
  clear hb
  go_wp2_with fail
  go_ret
  exact ⟨rfl, HB.out⟩
 ·rw [if_neg hf] at h
  cases h

end Go.Proofs.Ythnfmoaiejaheaa.PDiskWraps
