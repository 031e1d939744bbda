-- made by a program of this repo (wip/patch_print.py); not trusted: Lean checks it
import Derived.Test.YtaiaapjlpbhlbaaDoorZPAdapterReadsx0
-- squeezed
namespace Go.Proofs.YtaiaapjlpbhlbaaDoor.PAdapterReads
open Go.RowKit Go.Proofs.YtaiaapjlpbhlbaaDoorW.PrintWords Go.Proofs.YtaiaapjlpbhlbaaDoorW.PrintLast Go.Proofs.YtaiaapjlpbhlbaaDoorW.PrintMore
attribute [local go_sem] max2_int min2_int max_two min_two max_three min_three max_four min_four   -- for this text's walks alone
set_option linter.unusedVariables false
set_option linter.unusedSimpArgs false

/-! ### kotatsuref01_Same: function 23 -/
def kotatsuref01_Same.l0 : Nat → List Int → List Int → Int → Int → Option (Bool)
 | 0, _, _, _, _ => none
 | k + 1, x0, x1, x12, x13 => if x13 < x12 then (if 0 ≤ x13 then (if x13 < (x0.length : Int) then (if x13 < (x1.length : Int) then (if (rd x0 x13) = (rd x1 x13) then (kotatsuref01_Same.l0 k x0 x1 x12 (wrap64 (x13 + 1))) else (some false)) else (none)) else (none)) else (none)) else (some true)
def kotatsuref01_Same.f (k : Nat) (l0 : List Int) (l1 : List Int) : Option (Bool) := if (l0.length : Int) = (l1.length : Int) then (kotatsuref01_Same.l0 k l0 l1 (l0.length : Int) 0) else (some false)
set_option maxHeartbeats 8000000 in
set_option maxRecDepth 100000 in
theorem kotatsuref01_Same.calls (k : Nat) (A0 : Option Addr) (c0 : Nat) (l0 : List Int) (A1 : Option Addr) (c1 : Nat) (l1 : List Int) (r : Bool) (w : World) (hr0 : Kd.C (Kd.int .u8) w A0 l0.length l0) (hc0 : l0.length ≤ c0) (hr1 : Kd.C (Kd.int .u8) w A1 l1.length l1) (hc1 : l1.length ≤ c1) (h : kotatsuref01_Same.f k l0 l1 = some r) :
  Calls Tryd.prog 23 #[.slice A0 l0.length c0, .slice A1 l1.length c1] w fun e w' => e = .returned (.bool r) ∧ Drawn0 w w' := by
 have HR0 := Aside0.mk hr0
 have HC0 := Aside0.mk hc0
 clear hr0 hc0
 have HR1 := Aside0.mk hr1
 have HC1 := Aside0.mk hc1
 clear hr1 hc1
 have H : (if (l0.length : Int) = (l1.length : Int) then (kotatsuref01_Same.l0 k l0 l1 (l0.length : Int) 0) else (some false)) = some r := h
 clear h
 by_cases c3 : (l0.length : Int) = (l1.length : Int)
 ·rw [if_pos c3] at H
  have c3b0 : ((l0.length : Int) == (l1.length : Int)) = true := beq_iff_eq.mpr c3
  have c3b1 : ((l0.length : Int) != (l1.length : Int)) = false := bne_eq_false_iff_eq.mpr c3
  have c3b2 : (l0.length == l1.length) = true := by first | simpa using c3 | (simp at c3 ⊢; omega)
  clear c3
  have H' := Aside0.mk H
  clear H
  go_enter Tryd.func23, Tryd.ntmps23
  go_wp2
  repeat (go_quiet (fail); try go_wp2)
  go_loopg [13] k (fun kq v13 w' => ∃ (x13_1 : Int), v13 = .int .i64 x13_1 ∧ Aside0 (kotatsuref01_Same.l0 kq l0 l1 (l0.length : Int) x13_1 = some r) ∧ Aside0 (kq ≤ k) ∧ Drawn0 w w')
  case atStart => exact ⟨(0), (by first | rfl | (simp; done) | (simp [*]; done)), H', ⟨Nat.le_refl _⟩, by repeat (first | exact Drawn0.refl _ | apply Drawn0.step)⟩
  case round =>
   clear H'
   try clear c1
   try clear c2
   try clear p2
   try clear c3
   try clear c3b0
   try clear c3b1
   try clear c3b2
   obtain ⟨x13_1, rfl, HA, HK1, ⟨m1, rfl⟩⟩ := hrel
   cases gk with
   | zero => exact absurd HA.out (by simp [kotatsuref01_Same.l0])
   | succ k1 =>
    have H := HA.out
    clear HA
    simp only [kotatsuref01_Same.l0] at H
    by_cases c4 : x13_1 < (l0.length : Int)
    ·rw [if_pos c4] at H
     have c4b0 : decide (x13_1 < (l0.length : Int)) = true := decide_eq_true c4
     clear c4
     by_cases c5 : 0 ≤ x13_1
     ·rw [if_pos c5] at H
      have c5b0 : decide (0 ≤ x13_1) = true := decide_eq_true c5
      clear c5
      by_cases c6 : x13_1 < (l0.length : Int)
      ·rw [if_pos c6] at H
       have c6b0 : decide (x13_1 < (l0.length : Int)) = true := decide_eq_true c6
       clear c6
       by_cases c7 : x13_1 < (l1.length : Int)
       ·rw [if_pos c7] at H
        have c7b0 : decide (x13_1 < (l1.length : Int)) = true := decide_eq_true c7
        clear c7
        by_cases c8 : (rd l0 x13_1) = (rd l1 x13_1)
        ·rw [if_pos c8] at H
         have c8b0 : ((rd l0 x13_1) == (rd l1 x13_1)) = true := beq_iff_eq.mpr c8
         have c8b1 : ((rd l0 x13_1) != (rd l1 x13_1)) = false := bne_eq_false_iff_eq.mpr c8
         clear c8
         have H' := Aside0.mk H
         clear H
         have p103 : 0 ≤ (x13_1 : Int) := of_decide_eq_true (by first | (with_reducible assumption) | assumption)
         have q103 : x13_1 < (l0.length : Int) := of_decide_eq_true (by first | (with_reducible assumption) | assumption)
         obtain ⟨ad103, e103, hx103_0⟩ := Kd.at_int HR0.out x13_1 p103 q103
         cases e103
         replace p103 := eq_true p103
         replace q103 := eq_true q103
         have p104 : 0 ≤ (x13_1 : Int) := of_decide_eq_true (by first | (with_reducible assumption) | assumption)
         have q104 : x13_1 < (l1.length : Int) := of_decide_eq_true (by first | (with_reducible assumption) | assumption)
         obtain ⟨ad104, e104, hx104_0⟩ := Kd.at_int HR1.out x13_1 p104 q104
         cases e104
         replace p104 := eq_true p104
         replace q104 := eq_true q104
         go_wp2
         repeat (go_quiet (fail); try go_wp2)
         go_roundg k1
         case measure => have := HK1.out; omega
         case rel => exact ⟨(wrap64 (x13_1 + 1)), (by first | rfl | (simp; done) | (simp [*]; done)), H', ⟨by have := HK1.out; omega⟩, by repeat (first | exact Drawn0.refl _ | apply Drawn0.step)⟩
        ·rw [if_neg c8] at H
         have c8b0 : ((rd l0 x13_1) == (rd l1 x13_1)) = false := beq_eq_false_iff_ne.mpr c8
         have c8b1 : ((rd l0 x13_1) != (rd l1 x13_1)) = true := bne_iff_ne.mpr c8
         obtain rfl := Option.some.inj H
         have p103 : 0 ≤ (x13_1 : Int) := of_decide_eq_true (by first | (with_reducible assumption) | assumption)
         have q103 : x13_1 < (l0.length : Int) := of_decide_eq_true (by first | (with_reducible assumption) | assumption)
         obtain ⟨ad103, e103, hx103_0⟩ := Kd.at_int HR0.out x13_1 p103 q103
         cases e103
         replace p103 := eq_true p103
         replace q103 := eq_true q103
         have p104 : 0 ≤ (x13_1 : Int) := of_decide_eq_true (by first | (with_reducible assumption) | assumption)
         have q104 : x13_1 < (l1.length : Int) := of_decide_eq_true (by first | (with_reducible assumption) | assumption)
         obtain ⟨ad104, e104, hx104_0⟩ := Kd.at_int HR1.out x13_1 p104 q104
         cases e104
         replace p104 := eq_true p104
         replace q104 := eq_true q104
         go_wp2
         repeat (go_quiet (fail); try go_wp2)
         go_ret
         exact ⟨by first | rfl | (simp; done) | (simp [*]; done), by repeat (first | exact Drawn0.refl _ | apply Drawn0.step)⟩
       ·rw [if_neg c7] at H
        exact absurd H (by simp)
      ·rw [if_neg c6] at H
       exact absurd H (by simp)
     ·rw [if_neg c5] at H
      exact absurd H (by simp)
    ·rw [if_neg c4] at H
     have c4b0 : decide (x13_1 < (l0.length : Int)) = false := decide_eq_false c4
     clear c4
     obtain rfl := Option.some.inj H
     go_wp2
     repeat (go_quiet (fail); try go_wp2)
     go_ret
     exact ⟨by first | rfl | (simp; done) | (simp [*]; done), by repeat (first | exact Drawn0.refl _ | apply Drawn0.step)⟩
 ·rw [if_neg c3] at H
  have c3b0 : ((l0.length : Int) == (l1.length : Int)) = false := beq_eq_false_iff_ne.mpr c3
  have c3b1 : ((l0.length : Int) != (l1.length : Int)) = true := bne_iff_ne.mpr c3
  have c3b2 : (l0.length == l1.length) = false := by first | simpa using c3 | (simp at c3 ⊢; omega)
  obtain rfl := Option.some.inj H
  go_enter Tryd.func23, Tryd.ntmps23
  go_wp2
  repeat (go_quiet (fail); try go_wp2)
  go_ret
  exact ⟨by first | rfl | (simp; done) | (simp [*]; done), by repeat (first | exact Drawn0.refl _ | apply Drawn0.step)⟩

-- NOT PRINTED: function 20 (adapter_Adapter_Drive)

/-! ### bytes_Clone: function 60, by hand -/
def bytes_Clone.f (l0 : List Int) : Option (List Int) := if l0.length ≤ 140737488355328 then some l0 else none
theorem bytes_Clone.calls (A0 : Option Addr) (c0 : Nat) (l0 : List Int) (r : List Int) (w : World) (hr0 : Kd.C (Kd.int .u8) w A0 l0.length l0) (hc0 : l0.length ≤ c0) (h : bytes_Clone.f l0 = some r) :
  Calls Tryd.prog 60 #[.slice A0 l0.length c0] w fun e w' => ∃ v0_ : Value, e = .returned (v0_) ∧ Kd.V (Kd.int .u8) 5 w' w.heap.size (fun k_ => (w.heap.size ≤ k_)) v0_ r ∧ Below w.heap.size w w' := by
 unfold bytes_Clone.f at h
 by_cases hl : l0.length ≤ 140737488355328
 ·rw [if_pos hl] at h
  obtain rfl := Option.some.inj h
  cases A0 with
  | none =>
   have h0 : l0 = [] := by
    rcases Nat.eq_zero_or_pos l0.length with hz | hp
    ·exact List.length_eq_zero_iff.1 hz
    ·obtain ⟨ad, he, _⟩ := Kd.at_int hr0 0 (by omega) (by omega)
     cases he
   subst h0
   refine (Tryd.bytes_Clone_nil _ c0 w).mono ?_
   rintro e w' ⟨rfl, rfl⟩
   exact ⟨_, rfl, Kd.V_nil _ _ _ _ _, Below.refl _ _⟩
  | some a =>
   refine (Tryd.bytes_Clone_at a l0.length c0 l0 w rfl hl ?_).mono ?_
   ·intro i hi
    obtain ⟨ad, he, hc⟩ := Kd.at_int hr0 (i : Int) (by omega) (by omega)
    cases he
    exact hc
   ·rintro e w' ⟨v', rfl, hown, _, hb⟩
    exact ⟨v', rfl, Kd.V_mono (Kd.N_V (Kd.R_N (Kd.R_bound (Kd.R_of_own (enc := Value.int .u8) hown (fun _ _ => trivial))))) (fun _ hk => hk.2.1), hb⟩
 ·rw [if_neg hl] at h
  cases h

-- NOT PRINTED: function 21 (drive_Drive_Insert)

-- NOT PRINTED: function 31 (kotatsulaw18_open)

/-! ### kotatsuref01_Cut: function 19 -/
def kotatsuref01_Cut.l0 : Nat → Int → List Int → List Int → Int → Int → Option (List Int)
 | 0, _, _, _, _, _ => none
 | k + 1, x1, x5, x8, x9, x10 => if x10 < x9 then (if 0 ≤ x10 then (if x10 < (x8.length : Int) then (if x10 < x1 then (if x5.length < 140737488355328 then (kotatsuref01_Cut.l0 k x1 (x5 ++ [rd x8 x10]) x8 x9 (wrap64 (x10 + 1))) else (none)) else (kotatsuref01_Cut.l0 k x1 x5 x8 x9 (wrap64 (x10 + 1)))) else (none)) else (none)) else (some x5)
def kotatsuref01_Cut.f (k : Nat) (l0 : List Int) (a1 : Int) : Option (List Int) := kotatsuref01_Cut.l0 k a1 ([] : List Int) l0 (l0.length : Int) 0
set_option maxHeartbeats 8000000 in
set_option maxRecDepth 100000 in
theorem kotatsuref01_Cut.callsR (k : Nat) (A0 : Option Addr) (c0 : Nat) (l0 : List Int) (a1 : Int) (r : List Int) (w : World) (hr0 : Kd.C (Kd.int .u8) w A0 l0.length l0) (hc0 : l0.length ≤ c0) (h : kotatsuref01_Cut.f k l0 a1 = some r) :
  Calls Tryd.prog 19 #[.slice A0 l0.length c0, .int .i64 a1] w fun e w' => ∃ v0_ : Value, e = .returned (v0_) ∧ Kd.R (Kd.int .u8) 5 w' w.heap.size (fun _ => True) v0_ r ∧ Below w.heap.size w w' := by
 have HR0 := Aside0.mk hr0
 have HC0 := Aside0.mk hc0
 clear hr0 hc0
 have HB := Aside0.mk (Below.refl w.heap.size w)
 have H : (kotatsuref01_Cut.l0 k a1 ([] : List Int) l0 (l0.length : Int) 0) = some r := h
 clear h
 have H' := Aside0.mk H
 clear H
 go_enter Tryd.func19, Tryd.ntmps19
 go_wp2
 go_loopg [5, 10] k (fun kq v5 v10 w' => ∃ (x5_1 : List Int) (x10_1 : Int), v10 = .int .i64 x10_1 ∧ Aside0 (kotatsuref01_Cut.l0 kq a1 x5_1 l0 (l0.length : Int) x10_1 = some r) ∧ Aside0 (kq ≤ k) ∧ Aside0 (Kd.R (Kd.int .u8) 5 w' w.heap.size (fun _ => True) v5 x5_1) ∧ Aside0 (Below w.heap.size w w'))
 case atStart => exact ⟨(([] : List Int)), (0), (by first | rfl | (simp; done) | (simp [*]; done)), H', ⟨Nat.le_refl _⟩, ⟨by first | exact Kd.R_nil _ _ _ _ _ | exact Kd.N_nil _ _ _ _ _ | exact Kd.V_nil _ _ _ _ _ | exact Kd.Q_nil _ _ _ _ _ | exact Kd.S_nil _ _ _ _ _⟩, ⟨by repeat (first | (with_reducible first | exact HB.out | apply below_alloc | apply pw_below_drewN | apply below_drew1) | exact HB.out)⟩⟩
 case round =>
  clear H'
  try clear c1
  try clear p2
  obtain ⟨x5_1, x10_1, rfl, HA, HK1, HO_5, HB⟩ := hrel
  cases gk with
  | zero => exact absurd HA.out (by simp [kotatsuref01_Cut.l0])
  | succ k1 =>
   have H := HA.out
   clear HA
   simp only [kotatsuref01_Cut.l0] at H
   by_cases c3 : x10_1 < (l0.length : Int)
   ·rw [if_pos c3] at H
    have c3b0 : decide (x10_1 < (l0.length : Int)) = true := decide_eq_true c3
    clear c3
    by_cases c4 : 0 ≤ x10_1
    ·rw [if_pos c4] at H
     have c4b0 : decide (0 ≤ x10_1) = true := decide_eq_true c4
     clear c4
     by_cases c5 : x10_1 < (l0.length : Int)
     ·rw [if_pos c5] at H
      have c5b0 : decide (x10_1 < (l0.length : Int)) = true := decide_eq_true c5
      clear c5
      by_cases c6 : x10_1 < a1
      ·rw [if_pos c6] at H
       have c6b0 : decide (x10_1 < a1) = true := decide_eq_true c6
       clear c6
       by_cases c7 : x5_1.length < 140737488355328
       ·rw [if_pos c7] at H
        have LMc7 := Aside0.mk c7
        clear c7
        obtain ⟨y106, hy106⟩ : ∃ y_ : List Int, y_ = (x5_1 ++ [rd l0 x10_1]) := ⟨_, rfl⟩
        replace H : (kotatsuref01_Cut.l0 k1 a1 y106 l0 (l0.length : Int) (wrap64 (x10_1 + 1))) = some r := by first | (rw [hy106]; with_reducible exact H) | (have H2_ := (Option.bind_some _ _).symm.trans H; rw [hy106]; with_reducible exact H2_) | (have H2_ := (Option.bind_some _ _).symm.trans H; with_reducible exact H2_) | with_reducible exact H | (rw [hy106]; exact H) | exact H
        have Ny106 := Aside0.mk hy106
        clear hy106
        have H' := Aside0.mk H
        clear H
        have p105 : 0 ≤ (x10_1 : Int) := of_decide_eq_true (by first | (with_reducible assumption) | assumption)
        have q105 : x10_1 < (l0.length : Int) := of_decide_eq_true (by first | (with_reducible assumption) | assumption)
        obtain ⟨ad105, e105, hx105_0⟩ := Kd.at_int HR0.out x10_1 p105 q105
        cases e105
        replace hx105_0 := (HB.out.cell (World.block_lt_of_cell? w _ hx105_0)).trans hx105_0
        replace p105 := eq_true p105
        replace q105 := eq_true q105
        go_wp2_with (first | ((with_reducible refine gate_builtin (b := .append) (xs := #[.tmp 18, .tmp 20]) rfl ?_); at_builtin; refine Kd.R_append (Kd.int .u8) (w0 := w) w.heap.size rfl (.tmp 18) (.tmp 20) 36 5 (.int .u8 0) 1 rfl Tryd.underlying36 info5 rfl (by decide) (by omega) u5 x5_1 (rd l0 x10_1) [.int .u8 (rd l0 x10_1)] (fun _ => True) (fun _ => False) rfl rfl ?aP (fun _ hk => hk.elim) ?aF ?aO ?aB ?aS ?aL ?_; (case aP => exact rfl); (case aB => exact (by repeat (first | (with_reducible first | exact HB.out | apply below_alloc | apply pw_below_drewN | apply below_drew1) | exact HB.out))); (case aF => exact (fun _ _ => trivial)); (case aO => exact (by (with_reducible repeat (first | apply Kd.R_alloc | apply Kd.R_drewN | apply Kd.R_drew)); exact HO_5.out)); (case aS => exact (below_size (by repeat (first | (with_reducible first | exact HB.out | apply below_alloc | apply pw_below_drewN | apply below_drew1) | exact HB.out)))); (case aL => have := LMc7.out; omega); intro v107 w8 ho hb hg hat; rw [← Ny106.out] at ho; have n0_ := Aside0.mk (hb); have n1_ := Aside0.mk (ho); clear HB; clear HO_5; have HB := n0_; have HO108 := n1_; clear n0_ n1_; clear ho hb hg hat))
        go_roundg k1
        case measure => have := HK1.out; omega
        case rel => exact ⟨(y106), (wrap64 (x10_1 + 1)), (by first | rfl | (simp; done) | (simp [*]; done)), H', ⟨by have := HK1.out; omega⟩, ⟨by (with_reducible repeat (first | apply Kd.R_alloc | apply Kd.R_drewN | apply Kd.R_drew)); exact HO108.out⟩, ⟨by repeat (first | (with_reducible first | exact HB.out | apply below_alloc | apply pw_below_drewN | apply below_drew1) | exact HB.out)⟩⟩
       ·rw [if_neg c7] at H
        exact absurd H (by simp)
      ·rw [if_neg c6] at H
       have c6b0 : decide (x10_1 < a1) = false := decide_eq_false c6
       clear c6
       have H' := Aside0.mk H
       clear H
       have p105 : 0 ≤ (x10_1 : Int) := of_decide_eq_true (by first | (with_reducible assumption) | assumption)
       have q105 : x10_1 < (l0.length : Int) := of_decide_eq_true (by first | (with_reducible assumption) | assumption)
       obtain ⟨ad105, e105, hx105_0⟩ := Kd.at_int HR0.out x10_1 p105 q105
       cases e105
       replace hx105_0 := (HB.out.cell (World.block_lt_of_cell? w _ hx105_0)).trans hx105_0
       replace p105 := eq_true p105
       replace q105 := eq_true q105
       go_wp2
       go_roundg k1
       case measure => have := HK1.out; omega
       case rel => exact ⟨(x5_1), (wrap64 (x10_1 + 1)), (by first | rfl | (simp; done) | (simp [*]; done)), H', ⟨by have := HK1.out; omega⟩, ⟨by (with_reducible repeat (first | apply Kd.R_alloc | apply Kd.R_drewN | apply Kd.R_drew)); exact HO_5.out⟩, ⟨by repeat (first | (with_reducible first | exact HB.out | apply below_alloc | apply pw_below_drewN | apply below_drew1) | exact HB.out)⟩⟩
     ·rw [if_neg c5] at H
      exact absurd H (by simp)
    ·rw [if_neg c4] at H
     exact absurd H (by simp)
   ·rw [if_neg c3] at H
    have c3b0 : decide (x10_1 < (l0.length : Int)) = false := decide_eq_false c3
    clear c3
    obtain rfl := Option.some.inj H
    go_wp2
    go_ret
    exact ⟨_, by first | rfl | (simp [errW_none, errW_some] <;> rfl) | (simp [*, errW_none, errW_some] <;> rfl), by (with_reducible repeat (first | apply Kd.R_alloc | apply Kd.R_drewN | apply Kd.R_drew)); exact HO_5.out, by repeat (first | (with_reducible first | exact HB.out | apply below_alloc | apply pw_below_drewN | apply below_drew1) | exact HB.out)⟩
theorem kotatsuref01_Cut.calls (k : Nat) (A0 : Option Addr) (c0 : Nat) (l0 : List Int) (a1 : Int) (r : List Int) (w : World) (hr0 : Kd.C (Kd.int .u8) w A0 l0.length l0) (hc0 : l0.length ≤ c0) (h : kotatsuref01_Cut.f k l0 a1 = some r) :
  Calls Tryd.prog 19 #[.slice A0 l0.length c0, .int .i64 a1] w fun e w' => ∃ v0_ : Value, e = .returned (v0_) ∧ Kd.V (Kd.int .u8) 5 w' w.heap.size (fun k_ => (w.heap.size ≤ k_)) v0_ r ∧ Below w.heap.size w w' := by
 refine (kotatsuref01_Cut.callsR k A0 c0 l0 a1 r w hr0 hc0 h).mono ?_
 rintro e w' ⟨v0_, rfl, ho, hb⟩
 exact ⟨v0_, rfl, Kd.V_mono (Kd.N_V (Kd.R_N (Kd.R_bound ho))) (fun _ hk => hk.2.1), hb⟩

/-! ### block_File: function 71, by hand -/
def block_File.head (a0 a1 : Int) (a2 : ByteArray) (a3 a4 n : Int) : List Int := [a0, a1] ++ H.spl (List.replicate 8 0) 0 ((bytesOf a2).take 8) ++ [a3 % 256, a3 / 256 % 256, n % 256, n / 256, a4]
def block_File.f (a0 a1 : Int) (a2 : ByteArray) (a3 a4 : Int) (l5 : List Int) : Option (List (S67)) :=
 if (l5.length : Int) > 65535 then some [] else some [⟨3, block_File.head a0 a1 a2 a3 a4 (l5.length : Int)⟩, ⟨4, l5⟩]
theorem block_File.spl_at (ys : List Int) (hl : ys.length ≤ 8) (a0 a1 a10 a11 a12 a13 a14 : Int) :
  (((((H.spl ((((List.replicate 15 0).set 0 a0)).set 1 a1) 2 ys).set 10 a10).set 11 a11).set 12 a12).set 13 a13).set 14 a14 = [a0, a1] ++ H.spl (List.replicate 8 0) 0 ys ++ [a10, a11, a12, a13, a14] := by
 rcases (show ys.length = 0 ∨ ys.length = 1 ∨ ys.length = 2 ∨ ys.length = 3 ∨ ys.length = 4 ∨ ys.length = 5 ∨ ys.length = 6 ∨ ys.length = 7 ∨ ys.length = 8 by omega) with h | h | h | h | h | h | h | h | h
 all_goals
  rcases ys with _ | ⟨y0, _ | ⟨y1, _ | ⟨y2, _ | ⟨y3, _ | ⟨y4, _ | ⟨y5, _ | ⟨y6, _ | ⟨y7, _ | ⟨y8, ys⟩⟩⟩⟩⟩⟩⟩⟩⟩ <;> first | rfl | (simp at h)
set_option maxHeartbeats 400000 in
set_option maxRecDepth 100000 in
theorem block_File.calls (a0 a1 : Int) (a2 : ByteArray) (a3 a4 : Int) (A5 : Option Addr) (c5 : Nat) (l5 : List Int) (r : List (S67)) (w : World) (hr5 : Kd.C (Kd.int .u8) w A5 l5.length l5) (hc5 : l5.length ≤ c5) (h : block_File.f a0 a1 a2 a3 a4 l5 = some r) :
  Calls Tryd.prog 71 #[.int .u8 a0, .int .u8 a1, .string a2, .int .u16 a3, .int .u8 a4, .slice A5 l5.length c5] w fun e w' => ∃ v0_ : Value, e = .returned (v0_) ∧ Kd.N k67 67 w' w.heap.size (fun k_ => (w.heap.size ≤ k_)) v0_ r ∧ Below w.heap.size w w' := by
 unfold block_File.f at h
 by_cases hl : (l5.length : Int) > 65535
 ·rw [if_pos hl] at h
  obtain rfl := Option.some.inj h
  have t1 : decide ((65535 : Int) < (l5.length : Int)) = true := decide_eq_true hl
  clear hr5 hc5 h
  go_enter Tryd.func71, Tryd.ntmps71
  go_wp2
  go_ret
  exact ⟨_, rfl, Kd.N_nil _ _ _ _ _, Below.refl _ _⟩
 ·rw [if_neg hl] at h
  obtain rfl := Option.some.inj h
  have t1 : decide ((65535 : Int) < (l5.length : Int)) = false := decide_eq_false hl
  have HR := Aside0.mk hr5
  have HC := Aside0.mk hc5
  have HL := Aside0.mk hl
  have hl2 : (l5.length : Int) ≤ 65535 := by omega
  clear hr5 hc5 h hl
  go_enter Tryd.func71, Tryd.ntmps71
  have HSZ5 := Aside0.mk (show (Tryd.prog.info? 5).map (·.size) = some 1 by kernel_rfl)
  go_wp2_with (first
   | ((with_reducible refine gate_dst (N := 17) rfl ?_); refine H.makeRow rfl 36 5 _ _ rfl 15 rfl rfl Tryd.underlying36 info5 (by decide) ?_; intro w1 hrow hb hsz; have ROW := Aside0.mk hrow; have HB := Aside0.mk hb; have HSZ := Aside0.mk hsz; have c0 := hrow.cell 0 (by decide); have c1 := hrow.cell 1 (by decide); have f0 := hrow.frozen 0; have f1 := hrow.frozen 1; clear hrow hb hsz)
   | ((with_reducible refine gate_dst (N := 27) rfl ?_); have HROWX := (ROW.out.set_ 0 a0).set_ 1 a1; have HBX : Below w.heap.size w ((w1.setCell ⟨w.heap.size, 0, none⟩ (.int .u8 a0)).setCell ⟨w.heap.size, 1, none⟩ (.int .u8 a1)) := (HB.out.setCell (p := ⟨w.heap.size, 0, none⟩) (Nat.le_refl _) _).setCell (p := ⟨w.heap.size, 1, none⟩) (Nat.le_refl _) _; refine H.copyStr rfl (.tmp 25) (.tmp 26) 36 9 rfl 5 Tryd.underlying36 HSZ5.out w.heap.size 2 8 13 a2 rfl rfl 5 _ HROWX (by simp) w.heap.size w HBX (Nat.le_refl _) ?_; clear HROWX HBX; intro w2 hrow hb hk hz; have HSZ2 := Aside0.mk (show w2.heap.size = w.heap.size + 1 by rw [hz]; simp [HSZ.out]); have ROW2 := Aside0.mk hrow; have HB2 := Aside0.mk hb; have hsl := H.spl_length (((List.replicate 15 0).set 0 a0).set 1 a1) ((bytesOf a2).take 8) 2 (by simp; omega); rw [show (((List.replicate 15 (0 : Int)).set 0 a0).set 1 a1).length = 15 by simp] at hsl; have d10 := hrow.cell 10 (by rw [hsl]; decide); have d11 := hrow.cell 11 (by rw [hsl]; decide); have d12 := hrow.cell 12 (by rw [hsl]; decide); have d13 := hrow.cell 13 (by rw [hsl]; decide); have d14 := hrow.cell 14 (by rw [hsl]; decide); have e10 := hrow.frozen 10; have e11 := hrow.frozen 11; have e12 := hrow.frozen 12; have e13 := hrow.frozen 13; have e14 := hrow.frozen 14; clear hrow hb hk hz hsl; clear c0 c1 f0 f1; generalize (H.spl (((List.replicate 15 0).set 0 a0).set 1 a1) 2 ((bytesOf a2).take 8)).getD 10 0 = x10 at *; generalize (H.spl (((List.replicate 15 0).set 0 a0).set 1 a1) 2 ((bytesOf a2).take 8)).getD 11 0 = x11 at *; generalize (H.spl (((List.replicate 15 0).set 0 a0).set 1 a1) 2 ((bytesOf a2).take 8)).getD 12 0 = x12 at *; generalize (H.spl (((List.replicate 15 0).set 0 a0).set 1 a1) 2 ((bytesOf a2).take 8)).getD 13 0 = x13 at *; generalize (H.spl (((List.replicate 15 0).set 0 a0).set 1 a1) 2 ((bytesOf a2).take 8)).getD 14 0 = x14 at *))
  have HT := Aside0.mk (block_File.spl_at ((bytesOf a2).take 8) (List.length_take_le _ _) a0 a1 (a3 % 256) (a3 / 256 % 256) ((l5.length : Int) % 256) ((l5.length : Int) / 256) a4)
  have ROW6 := Aside0.mk (((((ROW2.out.set_ 10 (a3 % 256)).set_ 11 (a3 / 256 % 256)).set_ 12 ((l5.length : Int) % 256)).set_ 13 ((l5.length : Int) / 256)).set_ 14 a4)
  rw [HT.out] at ROW6
  have HB6 := Aside0.mk (((((HB2.out.setCell (p := ⟨w.heap.size, 10, none⟩) (Nat.le_refl _) (.int .u8 (a3 % 256))).setCell (p := ⟨w.heap.size, 11, none⟩) (Nat.le_refl _) (.int .u8 (a3 / 256 % 256))).setCell (p := ⟨w.heap.size, 12, none⟩) (Nat.le_refl _) (.int .u8 ((l5.length : Int) % 256))).setCell (p := ⟨w.heap.size, 13, none⟩) (Nat.le_refl _) (.int .u8 ((l5.length : Int) / 256))).setCell (p := ⟨w.heap.size, 14, none⟩) (Nat.le_refl _) (.int .u8 a4))
  refine (bytes_Clone.calls A5 c5 l5 l5 _ (Kd.C_below HR.out HB6.out) HC.out (by unfold bytes_Clone.f; rw [if_pos (by omega)])).mono ?_
  rintro e w3 ⟨v3, rfl, ho, hb⟩
  have ROW7 := Aside0.mk (ROW6.out.below hb)
  have HB7 := Aside0.mk (HB6.out.trans (hb.mono (below_size HB6.out)))
  have HO := Aside0.mk (Kd.V_mono (ok' := fun k => w.heap.size ≤ k) ho (fun k hk => Nat.le_trans (below_size HB6.out) hk))
  clear ho hb ROW6 HB6 HT ROW2 HB2 ROW HB d10 d11 d12 d13 d14 e10 e11 e12 e13 e14
  obtain ⟨A3, c3, e3⟩ := Kd.V_slice HO.out
  subst e3
  have hhl : (block_File.head a0 a1 a2 a3 a4 (l5.length : Int)).length = 15 := by unfold block_File.head; simp [H.spl]; omega
  have HF1 := Aside0.mk (show Kd.F (Kd.int .u8) w3 (fun k => w.heap.size ≤ k) (some ⟨w.heap.size, 0, none⟩) (block_File.head a0 a1 a2 a3 a4 (l5.length : Int)).length (block_File.head a0 a1 a2 a3 a4 (l5.length : Int)) from Kd.F_mono (Kd.V_F (ROW7.out.V 0 (by rw [show ([a0, a1] ++ H.spl (List.replicate 8 0) 0 ((bytesOf a2).take 8) ++ [a3 % 256, a3 / 256 % 256, (l5.length : Int) % 256, (l5.length : Int) / 256, a4]).length = 15 from hhl]; decide))) (fun k hk => Nat.le_of_eq hk.symm))
  have HHL := Aside0.mk hhl
  clear ROW7 hhl
  have hrep := ((Reps.none (Kd.FK k67 w3 (fun k => w.heap.size ≤ k)) k67.sz).snoc (p := (⟨3, block_File.head a0 a1 a2 a3 a4 (l5.length : Int)⟩ : S67)) (k67_mkF w3 _ (⟨3, block_File.head a0 a1 a2 a3 a4 (l5.length : Int)⟩ : S67) (Nat.le_of_eq HHL.out) HF1.out) rfl).snoc (p := (⟨4, l5⟩ : S67)) (k67_mkF w3 _ (⟨4, l5⟩ : S67) (Kd.V_reads' HO.out).2.1 (Kd.V_F HO.out)) rfl
  simp only [List.nil_append, List.cons_append] at hrep
  rw [HHL.out] at hrep
  have HREP := Aside0.mk hrep
  clear hrep
  go_wp2
  go_ret
  exact ⟨_, rfl, H.litN k67 w.heap.size 67 HREP.out (fun _ h => h) (below_size HB7.out) (below_size HB7.out) (by simp), below_alloc HB7.out _⟩

-- NOT PRINTED: function 100 (block_Block_100)

/-! ### block_Block_92: function 92, by hand -/
def block_Block_92.f (l0 : List (List (S67))) : Option (List (S67)) := if (l0.map List.length).sum ≤ 4398046511104 ∧ l0.length ≤ 4398046511104 then some l0.flatten else none
theorem block_Block_92.getD_take {α : Type} (l : List (List α)) (i : Nat) (h : i < l.length) : l.take (i + 1) = l.take i ++ [l.getD i []] := by
 rw [List.take_succ_eq_append_getElem h, List.getD_eq_getElem?_getD, List.getElem?_eq_getElem h]; rfl
theorem block_Block_92.sum_take {α : Type} (l : List (List α)) (i : Nat) (h : i < l.length) : ((l.take (i + 1)).map List.length).sum = ((l.take i).map List.length).sum + (l.getD i []).length := by
 rw [block_Block_92.getD_take l i h]; simp
theorem block_Block_92.sum_le {α : Type} (l : List (List α)) (i : Nat) : ((l.take i).map List.length).sum ≤ (l.map List.length).sum := by
 have h : (l.map List.length).sum = ((l.take i).map List.length).sum + ((l.drop i).map List.length).sum := by rw [← List.sum_append, ← List.map_append, List.take_append_drop]
 omega
theorem block_Block_92.flat_take {α : Type} (l : List (List α)) (i : Nat) (h : i < l.length) : (l.take (i + 1)).flatten = (l.take i).flatten ++ l.getD i [] := by
 rw [block_Block_92.getD_take l i h]; simp
theorem block_Block_92.flat_len {α : Type} (l : List (List α)) : l.flatten.length = (l.map List.length).sum := by simp
set_option maxHeartbeats 4000000 in
theorem block_Block_92.grow (n : Int) (w : World) (h0 : 0 ≤ n) (hl : n ≤ 4398046511104) :
  Calls Tryd.prog 100 #[.slice none 0 0, .int .i64 n] w fun e w' => ∃ v, e = .returned v ∧ Kd.N k67 67 w' w.heap.size (fun k => w.heap.size ≤ k) v [] ∧ Below w.heap.size w w' := by
 by_cases hn : n = 0
 ·subst hn
  go_enter Tryd.func100, Tryd.ntmps100
  go_wp2
  go_ret
  exact ⟨_, rfl, Kd.N_nil _ _ _ _ _, Below.refl _ _⟩
 ·have t1 : decide (n < 0) = false := decide_eq_false (by omega)
  have t2 : decide (0 < n) = true := decide_eq_true (by omega)
  have HN := Aside0.mk (show 0 < n by omega)
  clear hn
  go_enter Tryd.func100, Tryd.ntmps100
  go_wp2_with ((with_reducible refine gate_dst (N := 22) rfl ?_); (try (refine gate_guard (by rfl) ?_; dsimp only)); refine Kd.N_append_zeros k67 (w0 := w) w.heap.size rfl (.tmp 20) (.tmp 21) 63 3 67 (.agg #[(.int .u8 0), (.slice none 0 0)]) 32 rfl Tryd.underlying63 Tryd.underlying3 info67 rfl (by decide) (by omega) (.slice none 0 0) [] (⟨0, []⟩ : S67) n (fun k => w.heap.size ≤ k) rfl rfl ?aZ ?aF ?aO h0 ?aB ?aS ?aL ?_; (case aZ => exact k67_mkF _ _ (⟨0, []⟩ : S67) (Nat.le_refl _) (Kd.F_nil _ _ _)); (case aF => exact fun k hk => hk); (case aO => exact Kd.N_nil _ _ _ _ _); (case aB => exact Below.refl _ _); (case aS => exact Nat.le_refl _); (case aL => simp; omega); intro v1 w1 ho hb hg hat; have HO := Aside0.mk ho; have HB := Aside0.mk hb; clear ho hb hg hat; obtain ⟨A1, c1, e1⟩ := Kd.N_slice HO.out; subst e1; have q1 : (List.replicate n.toNat (⟨0, []⟩ : S67)).length = n.toNat := List.length_replicate)
  go_ret
  exact ⟨_, rfl, Kd.N_take HO.out (m := 0) (Nat.zero_le _), HB.out⟩
set_option maxHeartbeats 8000000 in
set_option maxRecDepth 100000 in
theorem block_Block_92.calls (P0_ : Nat → Prop) (A0 : Option Addr) (c0 : Nat) (l0 : List (List (S67))) (r : List (S67)) (w : World) (hs0 : Kd.V (Kd.slice 67 k67) 63 w w.heap.size (fun k_ => P0_ k_) (.slice A0 l0.length c0) l0) (h : block_Block_92.f l0 = some r) :
  Calls Tryd.prog 92 #[.slice A0 l0.length c0] w fun e w' => ∃ v0_ : Value, e = .returned (v0_) ∧ Kd.N k67 67 w' w.heap.size (fun k_ => (P0_ k_ ∨ w.heap.size ≤ k_)) v0_ r ∧ Below w.heap.size w w' := by
 unfold block_Block_92.f at h
 by_cases hs : (l0.map List.length).sum ≤ 4398046511104 ∧ l0.length ≤ 4398046511104
 ·rw [if_pos hs] at h
  obtain rfl := Option.some.inj h
  clear h
  have HS := Aside0.mk hs
  have HV := Aside0.mk (Kd.V_bound hs0)
  have HL := Aside0.mk (fun i => block_Block_92.sum_le l0 i)
  have hl0 : (l0.length : Int) ≤ 4398046511104 := by omega
  clear hs hs0
  go_enter Tryd.func92, Tryd.ntmps92
  go_wp2
  go_loopg [3, 11] l0.length (fun kq v3 v11 w' => ∃ i : Nat, v3 = .int .i64 (((l0.take i).map List.length).sum : Nat) ∧ v11 = .int .i64 (i : Int) ∧ Aside0 (i + kq = l0.length) ∧ w = w')
  case atStart => exact ⟨0, rfl, rfl, ⟨by omega⟩, rfl⟩
  case round =>
   obtain ⟨i, rfl, rfl, HI, rfl⟩ := hrel
   by_cases hi : i < l0.length
   ·obtain ⟨ad, cs, eA, hcl, hK, hcc, _⟩ := Kd.F_get (Kd.V_F HV.out) [] (i : Int) (by omega) (by omega)
    obtain ⟨A1, c1, rfl, hl1, hF1⟩ := Kd.FK_slice_open hK
    subst eA
    have hx : w.cell? (ad.add i) = some (.slice A1 (l0.getD i []).length c1) := by
     have := hcc 0 _ rfl
     simpa [Kd.slice] using this
    have hsum := block_Block_92.sum_take l0 i hi
    have hle := HL.out (i + 1)
    have hS := HS.out
    have HI2 := Aside0.mk (show (i + 1) + (gk - 1) = l0.length ∧ gk - 1 < gk by have := HI.out; omega)
    have HSUM := Aside0.mk hsum
    have hb : (((l0.take i).map List.length).sum : Int) + ((l0.getD i []).length : Int) ≤ 4398046511104 := by omega
    have hb0 : 0 ≤ (((l0.take i).map List.length).sum : Int) + ((l0.getD i []).length : Int) := by omega
    have d1 : decide ((i : Int) < (l0.length : Int)) = true := decide_eq_true (by omega)
    have d2 : decide ((((l0.take i).map List.length).sum : Int) + ((l0.getD i []).length : Int) < 0) = false := decide_eq_false (by omega)
    have p1 := eq_true (show (0 : Int) ≤ (i : Int) by omega)
    have p2 := eq_true (show (i : Int) < (l0.length : Int) by omega)
    clear hsum hle hS hcc hK hcl hF1 hl1
    generalize hg1 : ((l0.take i).map List.length).sum = sm at *
    generalize hg2 : (l0.getD i []).length = ln at *
    go_wp2
    go_roundg (gk - 1)
    case measure => have := HI2.out.2; omega
    case rel =>
     exact ⟨i + 1, by rw [HSUM.out]; first | rfl | (push_cast; rfl) | (congr 1; push_cast; omega), by first | rfl | (push_cast; rfl), ⟨HI2.out.1⟩, rfl⟩
   ·have hin : i = l0.length := by have := HI.out; omega
    subst hin
    rw [List.take_length]
    have hS := HS.out
    have d1 : decide ((l0.length : Int) < (l0.length : Int)) = false := decide_eq_false (by omega)
    have n0 : (0 : Int) ≤ ((l0.map List.length).sum : Nat) := by omega
    have HG := Aside0.mk (block_Block_92.grow (((l0.map List.length).sum : Nat) : Int) w n0 (by omega))
    have HFL := Aside0.mk (block_Block_92.flat_len l0)
    clear hi HI hS
    generalize hsm : (l0.map List.length).sum = sm at *
    go_wp2_with (go_at_call 100; refine HG.out.mono ?_; rintro e w1 ⟨v1, rfl, ho, hb⟩; have HO := Aside0.mk ho; have HB := Aside0.mk hb; clear ho hb)
    go_loopg [6, 27] l0.length (fun kq v6 v27 w' => ∃ i : Nat, v27 = .int .i64 (i : Int) ∧ Aside0 (i + kq = l0.length) ∧ Aside0 (Kd.N k67 67 w' w.heap.size (fun k_ => (P0_ k_ ∨ w.heap.size ≤ k_)) v6 (l0.take i).flatten) ∧ Aside0 (Below w.heap.size w w'))
    case atStart => exact ⟨0, rfl, ⟨by omega⟩, ⟨Kd.N_mono HO.out (fun k hk => .inr hk)⟩, HB⟩
    case round =>
     obtain ⟨i, rfl, HI, HO2, HB2⟩ := hrel
     by_cases hi : i < l0.length
     ·obtain ⟨ad, cs, eA, hcl, hK, hcc, _⟩ := Kd.F_get (Kd.V_F HV.out) [] (i : Int) (by omega) (by omega)
      obtain ⟨A1, c1, rfl, hl1, hF1⟩ := Kd.FK_slice_open hK
      subst eA
      have hx : wr.cell? (ad.add i) = some (.slice A1 (l0.getD i []).length c1) := by
       have := hcc 0 _ rfl
       refine pw_cell_below HB2.out ?_
       simpa [Kd.slice] using this
      have hF2 := Aside0.mk (Kd.F_below hF1 HB2.out)
      have hle := HL.out (i + 1)
      have hsum := block_Block_92.sum_take l0 i hi
      have HT := Aside0.mk (block_Block_92.flat_take l0 i hi)
      have hS := HS.out
      have hfl := block_Block_92.flat_len (l0.take i)
      have HLEN := Aside0.mk (show ((l0.take i).flatten.length + (l0.getD i []).length) * 32 ≤ 140737488355328 by rw [hfl]; omega)
      have HI2 := Aside0.mk (show (i + 1) + (gk - 1) = l0.length ∧ gk - 1 < gk by have := HI.out; omega)
      have d1 : decide ((i : Int) < (l0.length : Int)) = true := decide_eq_true (by omega)
      have p1 := eq_true (show (0 : Int) ≤ (i : Int) by omega)
      have p2 := eq_true (show (i : Int) < (l0.length : Int) by omega)
      clear hsum hle hS hcc hK hcl hF1 hl1 hfl
      simp only [Int.toNat_natCast] at hF2
      generalize hg2 : l0.getD i [] = ys at *
      go_wp2_with ((with_reducible refine gate_dst (N := 33) rfl ?_); (try (refine gate_guard (by rfl) ?_; dsimp only)); refine Kd.N_append_rows k67 (w0 := w) w.heap.size rfl (.tmp 31) (.tmp 32) 63 67 (.agg #[(.int .u8 0), (.slice none 0 0)]) 32 rfl Tryd.underlying63 info67 rfl (by decide) (by omega) u6 (l0.take i).flatten ys A1 ys.length c1 (fun k_ => (P0_ k_ ∨ w.heap.size ≤ k_)) (fun k => P0_ k ∧ k < w.heap.size) rfl rfl HO2.out hF2.out ?aK ?aF HB2.out ?aS HLEN.out ?_; (case aK => exact fun k hk => ⟨.inl hk.1, fun he => by have := Kd.N_base HO2.out k he.symm; have := hk.2; omega⟩); (case aF => exact fun k hk => .inr (Nat.le_trans (below_size HB2.out) hk)); (case aS => exact below_size HB2.out); intro v1 w2 ho hb hg hat; rw [← HT.out] at ho; have HO3 := Aside0.mk ho; have HB3 := Aside0.mk hb; clear ho hb hg hat)
      go_roundg (gk - 1)
      case measure => have := HI2.out.2; omega
      case rel => exact ⟨i + 1, by first | rfl | (push_cast; rfl), ⟨HI2.out.1⟩, HO3, HB3⟩
     ·have hin : i = l0.length := by have := HI.out; omega
      subst hin
      have d1 : decide ((l0.length : Int) < (l0.length : Int)) = false := decide_eq_false (by omega)
      rw [List.take_length] at HO2
      clear hi HI
      go_wp2
      go_ret
      exact ⟨_, rfl, HO2.out, HB2.out⟩
 ·rw [if_neg hs] at h
  cases h

/-! ### block_Disk: function 72, by hand -/
def block_Disk.head (a0 : ByteArray) (a1 : Int) : List Int := (H.spl (List.replicate 55 0) 0 ((bytesOf a0).take 14)).set 20 a1
theorem block_Disk.head_len (a0 : ByteArray) (a1 : Int) : (block_Disk.head a0 a1).length = 55 := by
 have hl := H.spl_length (List.replicate 55 (0 : Int)) ((bytesOf a0).take 14) 0 (by simp; omega)
 unfold block_Disk.head
 rw [List.length_set, hl]; simp
def block_Disk.f (a0 : ByteArray) (a1 : Int) (l2 : List (List (S67))) : Option (List (S67)) :=
 if (l2.map List.length).sum ≤ 1000000000 ∧ l2.length ≤ 1000000000 then some ([⟨1, block_Disk.head a0 a1⟩, ⟨2, [(l2.length : Int) % 256]⟩] ++ l2.flatten) else none
set_option maxHeartbeats 400000 in
set_option maxRecDepth 100000 in
theorem block_Disk.calls (a0 : ByteArray) (a1 : Int) (P2_ : Nat → Prop) (A2 : Option Addr) (c2 : Nat) (l2 : List (List (S67))) (r : List (S67)) (w : World) (hs2 : Kd.V (Kd.slice 67 k67) 63 w w.heap.size (fun k_ => P2_ k_) (.slice A2 l2.length c2) l2) (h : block_Disk.f a0 a1 l2 = some r) :
  Calls Tryd.prog 72 #[.string a0, .int .u8 a1, .slice A2 l2.length c2] w fun e w' => ∃ v0_ : Value, e = .returned (v0_) ∧ Kd.N k67 67 w' w.heap.size (fun k_ => (P2_ k_ ∨ w.heap.size ≤ k_)) v0_ r ∧ Below w.heap.size w w' := by
 unfold block_Disk.f at h
 by_cases hl : (l2.map List.length).sum ≤ 1000000000 ∧ l2.length ≤ 1000000000
 ·rw [if_pos hl] at h
  obtain rfl := Option.some.inj h
  have HV := Aside0.mk (Kd.V_bound hs2)
  have HL := Aside0.mk hl
  have hl2 : (l2.length : Int) ≤ 1000000000 := by omega
  have HSZ5 := Aside0.mk (show (Tryd.prog.info? 5).map (·.size) = some 1 by kernel_rfl)
  clear hs2 h hl
  go_enter Tryd.func72, Tryd.ntmps72
  go_wp2_with (first
   | ((with_reducible refine gate_dst (N := 8) rfl ?_); refine H.makeRow rfl 36 5 _ _ rfl 55 rfl rfl Tryd.underlying36 info5 (by decide) ?_; intro w1 hrow hb hsz; have ROW := Aside0.mk hrow; have HB := Aside0.mk hb; have HSZ := Aside0.mk hsz; clear hrow hb hsz)
   | ((with_reducible refine gate_dst (N := 12) rfl ?_); refine H.copyStr rfl (.tmp 10) (.tmp 11) 36 9 rfl 5 Tryd.underlying36 HSZ5.out w.heap.size 0 14 55 a0 rfl rfl 5 _ ROW.out (by simp) w.heap.size w HB.out (Nat.le_refl _) ?_; intro w2 hrow hb hk hz; have ROW2 := Aside0.mk hrow; have HB2 := Aside0.mk hb; have hsl := H.spl_length (List.replicate 55 0) ((bytesOf a0).take 14) 0 (by simp; omega); rw [show (List.replicate 55 (0 : Int)).length = 55 by simp] at hsl; have d20 := hrow.cell 20 (by rw [hsl]; decide); have e20 := hrow.frozen 20; clear hrow hb hk hz hsl; generalize (H.spl (List.replicate 55 0) 0 ((bytesOf a0).take 14)).getD 20 0 = x20 at *))
  have ROW3 := Aside0.mk (show H.Row 5 (w2.setCell ⟨w.heap.size, 20, none⟩ (.int .u8 a1)) w.heap.size (block_Disk.head a0 a1) from ROW2.out.set_ 20 a1)
  have HB3 := Aside0.mk (HB2.out.setCell (p := ⟨w.heap.size, 20, none⟩) (Nat.le_refl _) (.int .u8 a1))
  have HZ3 := Aside0.mk (show w2.heap.size = (w2.setCell ⟨w.heap.size, 20, none⟩ (.int .u8 a1)).heap.size by simp)
  clear ROW2 HB2 ROW HB HSZ d20 e20
  generalize w2.setCell ⟨w.heap.size, 20, none⟩ (.int .u8 a1) = Wa at *
  rw [HZ3.out]
  have HSa := Aside0.mk (below_size HB3.out)
  -- the row of one byte
  have ROWn := Aside0.mk (H.Row.alloc_new Wa 5 [(l2.length : Int) % 256] #[Value.int .u8 ((l2.length : Int) % 256)] rfl)
  have hb4 := below_alloc (Below.refl Wa.heap.size Wa) (.cells #[Value.int .u8 ((l2.length : Int) % 256)] 5)
  have HZ4 := Aside0.mk (show (Wa.alloc (.cells #[Value.int .u8 ((l2.length : Int) % 256)] 5)).heap.size = Wa.heap.size + 1 by simp)
  have ROW4 := Aside0.mk (ROW3.out.below hb4)
  have HB4 := Aside0.mk (HB3.out.trans (hb4.mono HSa.out))
  clear hb4 ROW3
  generalize Wa.alloc (.cells #[Value.int .u8 ((l2.length : Int) % 256)] 5) = Wb at *
  have hl1 := block_Disk.head_len a0 a1
  have HF1 := Aside0.mk (show Kd.F (Kd.int .u8) Wb (fun k => w.heap.size ≤ k) (some ⟨w.heap.size, 0, none⟩) (block_Disk.head a0 a1).length (block_Disk.head a0 a1) from Kd.F_mono (Kd.V_F (ROW4.out.V 0 (by rw [hl1]; decide))) (fun k hk => Nat.le_of_eq hk.symm))
  have HF2 := Aside0.mk (show Kd.F (Kd.int .u8) Wb (fun k => w.heap.size ≤ k) (some ⟨Wa.heap.size, 0, none⟩) [(l2.length : Int) % 256].length [(l2.length : Int) % 256] from Kd.F_mono (Kd.V_F (ROWn.out.V 0 (by simp))) (fun k hk => by rw [hk]; exact HSa.out))
  have hrep := ((Reps.none (Kd.FK k67 Wb (fun k => w.heap.size ≤ k)) k67.sz).snoc (p := (⟨1, block_Disk.head a0 a1⟩ : S67)) (k67_mkF Wb _ (⟨1, block_Disk.head a0 a1⟩ : S67) (Nat.le_refl _) HF1.out) rfl).snoc (p := (⟨2, [(l2.length : Int) % 256]⟩ : S67)) (k67_mkF Wb _ (⟨2, [(l2.length : Int) % 256]⟩ : S67) (Nat.le_refl _) HF2.out) rfl
  simp only [List.nil_append, List.cons_append] at hrep
  have hN := H.litN k67 w.heap.size 67 hrep (fun _ h => h) (below_size HB4.out) (below_size HB4.out) (by simp)
  rw [HZ4.out, hl1] at hN
  have HN := Aside0.mk hN
  have hb5 := below_alloc (Below.refl Wb.heap.size Wb) (.cells #[Value.int .u8 1, Value.slice (some ⟨w.heap.size, 0, none⟩) 55 55, Value.int .u8 2, Value.slice (some ⟨Wa.heap.size, 0, none⟩) 1 1] 67)
  have HB5 := Aside0.mk (HB4.out.trans (hb5.mono (below_size HB4.out)))
  clear hrep hN hb5 HF1 HF2 ROW4 ROWn hl1
  have HN2 := Aside0.mk (show Kd.N k67 67 (Wb.alloc (.cells #[Value.int .u8 1, Value.slice (some ⟨w.heap.size, 0, none⟩) 55 55, Value.int .u8 2, Value.slice (some ⟨Wa.heap.size, 0, none⟩) 1 1] 67)) w.heap.size (fun k => w.heap.size ≤ k) (.slice (some ⟨Wa.heap.size + 1, 0, none⟩) 2 2) [⟨1, block_Disk.head a0 a1⟩, ⟨2, [(l2.length : Int) % 256]⟩] from HN.out)
  clear HN
  generalize Wb.alloc (.cells #[Value.int .u8 1, Value.slice (some ⟨w.heap.size, 0, none⟩) 55 55, Value.int .u8 2, Value.slice (some ⟨Wa.heap.size, 0, none⟩) 1 1] 67) = Wc at *
  obtain ⟨fl, hfl⟩ : ∃ fl, fl = l2.flatten := ⟨_, rfl⟩
  have HFL := Aside0.mk hfl
  have HFN := Aside0.mk (show fl.length ≤ 1000000000 by rw [hfl]; have := HL.out; simp; omega)
  refine (block_Block_92.calls _ A2 c2 l2 fl Wc (Kd.V_below HV.out HB5.out) (by unfold block_Block_92.f; rw [if_pos (by have := HL.out; omega), hfl])).mono ?_
  clear hfl
  rintro e w3 ⟨v3, rfl, hn, hb⟩
  have HN3 := Aside0.mk (Kd.N_below HN2.out hb)
  have HS5 := Aside0.mk (below_size HB5.out)
  have HB6 := Aside0.mk (HB5.out.trans (hb.mono HS5.out))
  have HM := Aside0.mk (Kd.N_mono (ok' := fun k => P2_ k ∧ k < w.heap.size ∨ w.heap.size ≤ k) hn (fun k hk => hk.elim (fun h => .inl h) (fun h => .inr (Nat.le_trans HS5.out h))))
  clear hn hb HN2
  obtain ⟨A3, c3, e3⟩ := Kd.N_slice HM.out
  subst e3
  have hrep := ((Reps.none (Kd.FK (Kd.slice 67 k67) w3 (fun k => P2_ k ∧ k < w.heap.size ∨ w.heap.size ≤ k)) (Kd.slice 67 k67).sz).snoc (p := ([⟨1, block_Disk.head a0 a1⟩, ⟨2, [(l2.length : Int) % 256]⟩] : List (S67))) (Kd.FK_slice_mk (c := 2) (by simp) (Kd.F_mono (Kd.N_F HN3.out) (fun k hk => .inr hk))) rfl).snoc (p := fl) (Kd.FK_slice_mk (Kd.N_reads' HM.out).2.1 (Kd.N_F HM.out)) rfl
  simp only [List.nil_append, List.cons_append] at hrep
  have HR2 := Aside0.mk (Kd.N_V (base' := 0) (H.litN (Kd.slice 67 k67) w.heap.size 63 hrep (fun _ h => h) (.inr (below_size HB6.out)) (below_size HB6.out) (by simp)))
  clear hrep
  have hb7 := below_alloc (Below.refl w3.heap.size w3) (.cells #[Value.slice (some ⟨Wa.heap.size + 1, 0, none⟩) 2 2, Value.slice A3 fl.length c3] 63)
  have HB7 := Aside0.mk (HB6.out.trans (hb7.mono (below_size HB6.out)))
  clear hb7
  go_wp2_with fail
  have HV7 := Aside0.mk (show Kd.V (Kd.slice 67 k67) 63 (w3.alloc (.cells #[Value.slice (some ⟨Wa.heap.size + 1, 0, none⟩) 2 2, Value.slice A3 fl.length c3] 63)) 0 (fun k => P2_ k ∧ k < w.heap.size ∨ w.heap.size ≤ k) (.slice (some ⟨w3.heap.size, 0, none⟩) [[(⟨1, block_Disk.head a0 a1⟩ : S67), ⟨2, [(l2.length : Int) % 256]⟩], fl].length 2) [[⟨1, block_Disk.head a0 a1⟩, ⟨2, [(l2.length : Int) % 256]⟩], fl] from HR2.out)
  refine (block_Block_92.calls _ (some ⟨w3.heap.size, 0, none⟩) 2 [[⟨1, block_Disk.head a0 a1⟩, ⟨2, [(l2.length : Int) % 256]⟩], fl] ([⟨1, block_Disk.head a0 a1⟩, ⟨2, [(l2.length : Int) % 256]⟩] ++ fl) _ HV7.out (by unfold block_Block_92.f; rw [if_pos (by have := HFN.out; simp; omega)]; simp)).mono ?_
  rintro e w4 ⟨v4, rfl, hn, hb⟩
  have HZ7 := Aside0.mk (below_size HB7.out)
  have HB8 := Aside0.mk (HB7.out.trans (hb.mono HZ7.out))
  have HE := Aside0.mk (Kd.N_mono (ok' := fun k => P2_ k ∨ w.heap.size ≤ k) (Kd.N_lower hn HZ7.out) (fun k hk => hk.elim (fun h => h.elim (fun h => .inl h.1) .inr) (fun h => .inr (Nat.le_trans HZ7.out h))))
  clear hn hb HV7 HM HN3 HR2
  go_wp2_with fail
  go_ret
  exact ⟨_, rfl, by rw [← HFL.out]; exact HE.out, HB8.out⟩
 ·rw [if_neg hl] at h
  cases h

/-! ### block_expects: function 101 -/
def block_expects.f (a0 : Int) (l1 : List Int) : Option (Int × Int) := if a0 ≥ 512 then (some (0, 0)) else (if a0 = 0 then (some (1, 55)) else (if a0 = 1 then (some (2, 1)) else (if (Int.tmod a0 2) = 0 then (some (3, 15)) else (if 12 < (l1.length : Int) then (if 13 < (l1.length : Int) then (some (4, Go.bits .or .i64 (wrap64 (rd l1 12)) (wrap64 ((wrap64 (rd l1 13)) * 256)))) else (none)) else (none)))))
set_option maxHeartbeats 8000000 in
set_option maxRecDepth 100000 in
theorem block_expects.calls (a0 : Int) (A1 : Option Addr) (c1 : Nat) (l1 : List Int) (r1 : Int) (r2 : Int) (w : World) (hr1 : Kd.C (Kd.int .u8) w A1 l1.length l1) (hc1 : l1.length ≤ c1) (h : block_expects.f a0 l1 = some (r1, r2)) :
  Calls Tryd.prog 101 #[.int .i64 a0, .slice A1 l1.length c1] w fun e w' => e = .returned (.tuple #[.int .u8 r1, .int .i64 r2]) ∧ Drawn0 w w' := by
 have HR1 := Aside0.mk hr1
 have HC1 := Aside0.mk hc1
 clear hr1 hc1
 have H : (if a0 ≥ 512 then (some (0, 0)) else (if a0 = 0 then (some (1, 55)) else (if a0 = 1 then (some (2, 1)) else (if (Int.tmod a0 2) = 0 then (some (3, 15)) else (if 12 < (l1.length : Int) then (if 13 < (l1.length : Int) then (some (4, Go.bits .or .i64 (wrap64 (rd l1 12)) (wrap64 ((wrap64 (rd l1 13)) * 256)))) else (none)) else (none)))))) = some (r1, r2) := h
 clear h
 by_cases c3 : a0 ≥ 512
 ·rw [if_pos c3] at H
  have c3b0 : decide (512 ≤ a0) = true := decide_eq_true c3
  clear c3
  simp only [Option.some.injEq, Prod.mk.injEq] at H
  obtain ⟨rfl, rfl⟩ := H
  go_enter Tryd.func101, Tryd.ntmps101
  go_wp2
  repeat (go_quiet (fail); try go_wp2)
  go_ret2
  exact ⟨by first | rfl | (simp; done) | (simp [*]; done), by repeat (first | exact Drawn0.refl _ | apply Drawn0.step)⟩
 ·rw [if_neg c3] at H
  have c3b0 : decide (512 ≤ a0) = false := decide_eq_false c3
  clear c3
  by_cases c4 : a0 = 0
  ·rw [if_pos c4] at H
   have c4b0 : (a0 == 0) = true := beq_iff_eq.mpr c4
   have c4b1 : (a0 != 0) = false := bne_eq_false_iff_eq.mpr c4
   clear c4
   simp only [Option.some.injEq, Prod.mk.injEq] at H
   obtain ⟨rfl, rfl⟩ := H
   go_enter Tryd.func101, Tryd.ntmps101
   go_wp2
   repeat (go_quiet (fail); try go_wp2)
   go_ret2
   exact ⟨by first | rfl | (simp; done) | (simp [*]; done), by repeat (first | exact Drawn0.refl _ | apply Drawn0.step)⟩
  ·rw [if_neg c4] at H
   have c4b0 : (a0 == 0) = false := beq_eq_false_iff_ne.mpr c4
   have c4b1 : (a0 != 0) = true := bne_iff_ne.mpr c4
   by_cases c5 : a0 = 1
   ·rw [if_pos c5] at H
    have c5b0 : (a0 == 1) = true := beq_iff_eq.mpr c5
    have c5b1 : (a0 != 1) = false := bne_eq_false_iff_eq.mpr c5
    clear c5
    simp only [Option.some.injEq, Prod.mk.injEq] at H
    obtain ⟨rfl, rfl⟩ := H
    go_enter Tryd.func101, Tryd.ntmps101
    go_wp2
    repeat (go_quiet (fail); try go_wp2)
    go_ret2
    exact ⟨by first | rfl | (simp; done) | (simp [*]; done), by repeat (first | exact Drawn0.refl _ | apply Drawn0.step)⟩
   ·rw [if_neg c5] at H
    have c5b0 : (a0 == 1) = false := beq_eq_false_iff_ne.mpr c5
    have c5b1 : (a0 != 1) = true := bne_iff_ne.mpr c5
    by_cases c6 : (Int.tmod a0 2) = 0
    ·rw [if_pos c6] at H
     have c6b0 : ((Int.tmod a0 2) == 0) = true := beq_iff_eq.mpr c6
     have c6b1 : ((Int.tmod a0 2) != 0) = false := bne_eq_false_iff_eq.mpr c6
     clear c6
     simp only [Option.some.injEq, Prod.mk.injEq] at H
     obtain ⟨rfl, rfl⟩ := H
     go_enter Tryd.func101, Tryd.ntmps101
     go_wp2
     repeat (go_quiet (fail); try go_wp2)
     go_ret2
     exact ⟨by first | rfl | (simp; done) | (simp [*]; done), by repeat (first | exact Drawn0.refl _ | apply Drawn0.step)⟩
    ·rw [if_neg c6] at H
     have c6b0 : ((Int.tmod a0 2) == 0) = false := beq_eq_false_iff_ne.mpr c6
     have c6b1 : ((Int.tmod a0 2) != 0) = true := bne_iff_ne.mpr c6
     by_cases c7 : 12 < (l1.length : Int)
     ·rw [if_pos c7] at H
      have c7b0 : decide (12 < (l1.length : Int)) = true := decide_eq_true c7
      have c7b1 : decide (12 < l1.length) = true := decide_eq_true (by omega)
      clear c7
      by_cases c8 : 13 < (l1.length : Int)
      ·rw [if_pos c8] at H
       have c8b0 : decide (13 < (l1.length : Int)) = true := decide_eq_true c8
       have c8b1 : decide (13 < l1.length) = true := decide_eq_true (by omega)
       clear c8
       simp only [Option.some.injEq, Prod.mk.injEq] at H
       obtain ⟨rfl, rfl⟩ := H
       have p109 : 0 ≤ (12 : Int) := (by omega)
       have q109 : 12 < (l1.length : Int) := of_decide_eq_true (by first | (with_reducible assumption) | assumption)
       obtain ⟨ad109, e109, hx109_0⟩ := Kd.at_int HR1.out 12 p109 q109
       cases e109
       (try simp only [show (12 : Int).toNat = 12 from rfl, Nat.reduceMul, Nat.reduceEqDiff, Go.Addr.add, ↓reduceIte] at hx109_0)
       have qi109 : (12 < l1.length) = True := eq_true (by omega)
       (try rw [show ((12 : Int)).toNat = 12 from rfl] at hx109_0)
       replace p109 := eq_true p109
       replace q109 := eq_true q109
       have p110 : 0 ≤ (13 : Int) := (by omega)
       have q110 : 13 < (l1.length : Int) := of_decide_eq_true (by first | (with_reducible assumption) | assumption)
       obtain ⟨ad110, e110, hx110_0⟩ := Kd.at_int HR1.out 13 p110 q110
       obtain rfl : ad109 = ad110 := (by injection e110)
       (try simp only [show (13 : Int).toNat = 13 from rfl, Nat.reduceMul, Nat.reduceEqDiff, Go.Addr.add, ↓reduceIte] at hx110_0)
       have qi110 : (13 < l1.length) = True := eq_true (by omega)
       (try rw [show ((13 : Int)).toNat = 13 from rfl] at hx110_0)
       replace p110 := eq_true p110
       replace q110 := eq_true q110
       go_enter Tryd.func101, Tryd.ntmps101
       go_wp2
       repeat (go_quiet (fail); try go_wp2)
       go_ret2
       exact ⟨by first | rfl | (simp; done) | (simp [*]; done), by repeat (first | exact Drawn0.refl _ | apply Drawn0.step)⟩
      ·rw [if_neg c8] at H
       exact absurd H (by simp)
     ·rw [if_neg c7] at H
      exact absurd H (by simp)

end Go.Proofs.YtaiaapjlpbhlbaaDoor.PAdapterReads
