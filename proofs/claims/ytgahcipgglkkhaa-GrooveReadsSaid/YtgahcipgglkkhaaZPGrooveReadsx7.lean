-- made by a program of this repo (wip/patch_print.py); not trusted: Lean checks it
import Derived.Test.YtgahcipgglkkhaaZPGrooveReadsx0
import Derived.Test.YtgahcipgglkkhaaZPGrooveReadsx2
import Derived.Test.YtgahcipgglkkhaaZPGrooveReadsx3
import Derived.Test.YtgahcipgglkkhaaZPGrooveReadsx6
-- squeezed twice
namespace Go.Proofs.Ytgahcipgglkkhaa.PGrooveReads
open Go.RowKit Go.Proofs.YtgahcipgglkkhaaW.PrintWords Go.Proofs.YtgahcipgglkkhaaW.PrintLast Go.Proofs.YtgahcipgglkkhaaW.PrintMore
private abbrev ty := true
private abbrev fy := false
open List renaming setIfInBounds_toArray → qa, set_cons_zero → qb, set_cons_succ → qc
attribute [local go_sem] max2_int min2_int max_two min_two max_three min_three max_four min_four   -- for this text's walks alone
set_option linter.unusedVariables false
set_option linter.unusedSimpArgs false
/-! ### kotatsuref07_Read: function 16 -/
mutual
def kotatsuref07_Read.l0 : Nat → List (S56) → List Int → Option ((List (S56)) × Int)
 | 0, _, _ => none
 | k + 1, x4, x5 => kotatsuref07_Read.l1 k x4 x5
def kotatsuref07_Read.j2 : Nat → List (S56) → List Int → Option ((List (S56)) × Int)
 | 0, _, _ => none
 | k + 1, x4, x5 => if (x5.length : Int) = 0 then (kotatsuref07_Read.j3 k x4 x5 true) else (kotatsuref07_Read.j3 k x4 x5 ((x4.length : Int) == 512))
def kotatsuref07_Read.j3 : Nat → List (S56) → List Int → Bool → Option ((List (S56)) × Int)
 | 0, _, _, _ => none
 | k + 1, x4, x5, x27 => if x27 = true then (some (x4, 0)) else (if (x4.length : Int) > 0 then (if 0 ≤ (wrap64 ((x4.length : Int) - 1)) then (if (wrap64 ((x4.length : Int) - 1)) < (x4.length : Int) then ((kotatsuref05_Bytes.f (x4.length : Int) ((rd_T56 x4 (wrap64 ((x4.length : Int) - 1))).f1)).bind fun t273 => (if 0 < (x5.length : Int) then (if (rd x5 0) = 128 then (if (x5.length : Int) < (wrap64 (t273 + 4)) then (some (([] : List (S56)), 2)) else (if 1 < (x5.length : Int) then ((kotatsuref05_Kind.f (x4.length : Int)).bind fun t276 => (if (rd x5 1) = t276 then (if 0 ≤ (wrap64 (t273 + 2)) then (if (wrap64 (t273 + 2)) ≤ (x5.length : Int) then ((kotatsuref02_Short.f k (x5.take ((wrap64 (t273 + 2)) : Int).toNat)).bind fun t282 => (if (wrap64 (t273 + 2)) ≤ (wrap64 (t273 + 4)) then (if (wrap64 (t273 + 4)) ≤ (x5.length : Int) then ((kotatsuref02_Take.f k ((x5.take ((wrap64 (t273 + 4)) : Int).toNat).drop ((wrap64 (t273 + 2)) : Int).toNat)).bind fun t288 => (if (IntKind.u64.wrap (t282)) = t288 then (if 2 ≤ (wrap64 (t273 + 2)) then ((kotatsuref01_Join.f k (([((x5.take ((wrap64 (t273 + 2)) : Int).toNat).drop 2)] : List (List Int)))).bind fun t298 => (if x4.length < 4398046511104 then (if 0 ≤ (wrap64 (t273 + 4)) then (kotatsuref07_Read.l0 k (x4 ++ [(⟨rd x5 1, t298⟩ : S56)]) (x5.drop ((wrap64 (t273 + 4)) : Int).toNat)) else (none)) else (none))) else (none)) else (some (([] : List (S56)), 3)))) else (none)) else (none))) else (none)) else (none)) else (some (([] : List (S56)), 2)))) else (none))) else (some (([] : List (S56)), 2))) else (none))) else (none)) else (none)) else ((kotatsuref05_Bytes.f (x4.length : Int) ([] : List Int)).bind fun t309 => (if 0 < (x5.length : Int) then (if (rd x5 0) = 128 then (if (x5.length : Int) < (wrap64 (t309 + 4)) then (some (([] : List (S56)), 2)) else (if 1 < (x5.length : Int) then ((kotatsuref05_Kind.f (x4.length : Int)).bind fun t312 => (if (rd x5 1) = t312 then (if 0 ≤ (wrap64 (t309 + 2)) then (if (wrap64 (t309 + 2)) ≤ (x5.length : Int) then ((kotatsuref02_Short.f k (x5.take ((wrap64 (t309 + 2)) : Int).toNat)).bind fun t318 => (if (wrap64 (t309 + 2)) ≤ (wrap64 (t309 + 4)) then (if (wrap64 (t309 + 4)) ≤ (x5.length : Int) then ((kotatsuref02_Take.f k ((x5.take ((wrap64 (t309 + 4)) : Int).toNat).drop ((wrap64 (t309 + 2)) : Int).toNat)).bind fun t324 => (if (IntKind.u64.wrap (t318)) = t324 then (if 2 ≤ (wrap64 (t309 + 2)) then ((kotatsuref01_Join.f k (([((x5.take ((wrap64 (t309 + 2)) : Int).toNat).drop 2)] : List (List Int)))).bind fun t334 => (if x4.length < 4398046511104 then (if 0 ≤ (wrap64 (t309 + 4)) then (kotatsuref07_Read.l0 k (x4 ++ [(⟨rd x5 1, t334⟩ : S56)]) (x5.drop ((wrap64 (t309 + 4)) : Int).toNat)) else (none)) else (none))) else (none)) else (some (([] : List (S56)), 3)))) else (none)) else (none))) else (none)) else (none)) else (some (([] : List (S56)), 2)))) else (none))) else (some (([] : List (S56)), 2))) else (none))))
def kotatsuref07_Read.l1 : Nat → List (S56) → List Int → Option ((List (S56)) × Int)
 | 0, _, _ => none
 | k + 1, x4, x5 => if (x5.length : Int) > 0 then (if 0 < (x5.length : Int) then (if (rd x5 0) = 0 then (if 1 ≤ (x5.length : Int) then (kotatsuref07_Read.l1 k x4 (x5.drop 1)) else (none)) else (kotatsuref07_Read.j2 k x4 x5)) else (none)) else (kotatsuref07_Read.j2 k x4 x5)
end
def kotatsuref07_Read.f (k : Nat) (l0 : List Int) : Option ((List (S56)) × Int) := kotatsuref07_Read.l0 k ([] : List (S56)) l0
def kotatsuref07_Read.T11 : Bool × List (List Nat × List Nat) := (true, [([], []), ([0], [0]), ([1], [1]), ([2], [2]), ([3], [3]), ([4], [4]), ([5, 4], [4, 5]), ([4], [4]), ([7, 4], [4, 7]), ([6, 8, 4], [4, 6, 8]), ([4, 9], [4, 9]), ([10, 4], [10]), ([11], [11]), ([12, 11], [11, 12]), ([13, 11], [11, 13]), ([11], [11]), ([15, 11], [11, 15]), ([16, 11, 11], [11, 16]), ([14, 17, 11], [11, 14, 17]), ([11, 18], [11, 18])])
def kotatsuref07_Read.B11 : List Nat := [0, 1, 3, 7, 15, 31, 63, 31, 159, 511, 1023, 2047, 4095, 8191, 16383, 4095, 36863, 102399, 262143, 524287]
theorem kotatsuref07_Read.tab11 : rtab .any (opsOf Try.f16 11) = kotatsuref07_Read.T11 := by kernel_rfl
theorem kotatsuref07_Read.bits11 : waitsOk kotatsuref07_Read.T11.2 kotatsuref07_Read.B11 = true := by kernel_rfl
def kotatsuref07_Read.T13 : Bool × List (List Nat × List Nat) := (true, [([], []), ([], []), ([1], [1]), ([0, 2], [0, 2]), ([3], [3]), ([4], [4]), ([], []), ([], []), ([7], [7]), ([], []), ([9], [9]), ([6, 8, 10], [6, 8, 10]), ([11, 4], [11]), ([5, 12], [5, 12])])
def kotatsuref07_Read.B13 : List Nat := [0, 0, 2, 7, 15, 31, 0, 0, 128, 0, 512, 1984, 4063, 8191]
theorem kotatsuref07_Read.tab13 : rtab .any (opsOf Try.f16 13) = kotatsuref07_Read.T13 := by kernel_rfl
theorem kotatsuref07_Read.bits13 : waitsOk kotatsuref07_Read.T13.2 kotatsuref07_Read.B13 = true := by kernel_rfl
def kotatsuref07_Read.T15 : Bool × List (List Nat × List Nat) := (true, [([], []), ([], []), ([1], [1]), ([2], [2]), ([], []), ([], []), ([5], [5]), ([4, 6], [4, 6]), ([7], [7]), ([8], [8]), ([3, 9], [3, 9]), ([10], [10]), ([0, 11, 9], [0, 11]), ([12, 12, 0, 1, 2, 3, 4, 5, 6, 7, 8, 9, 10, 11, 12], [0, 12])])
def kotatsuref07_Read.B15 : List Nat := [0, 0, 2, 6, 0, 0, 32, 112, 240, 496, 1022, 2046, 4095, 8191]
theorem kotatsuref07_Read.tab15 : rtab .any (opsOf Try.f16 15) = kotatsuref07_Read.T15 := by kernel_rfl
theorem kotatsuref07_Read.bits15 : waitsOk kotatsuref07_Read.T15.2 kotatsuref07_Read.B15 = true := by kernel_rfl
set_option maxHeartbeats 8000000 in
set_option maxRecDepth 100000 in
theorem kotatsuref07_Read.calls (k : Nat) (P0_ : Nat → Prop) (A0 : Option Addr) (c0 : Nat) (l0 : List Int) (r1 : List (S56)) (r2 : Int) (w : World) (hs0 : Kd.V (Kd.int .u8) 5 w w.heap.size (fun k_ => P0_ k_) (.slice A0 l0.length c0) l0) (h : kotatsuref07_Read.f k l0 = some (r1, r2)) :
  Calls Try.prog 16 #[.slice A0 l0.length c0] w fun e w' => ∃ v0_ : Value, e = .returned (.tuple #[v0_, .int .i64 r2]) ∧ Kd.N k56 56 w' w.heap.size (fun k_ => (P0_ k_ ∨ w.heap.size ≤ k_)) v0_ r1 ∧ Below w.heap.size w w' := by
 have hu56 := Try.underlying56
 have HO0 := Aside0.mk (show Kd.V (Kd.int .u8) 5 w w.heap.size (fun k_ => (P0_ k_ ∨ w.heap.size ≤ k_)) (.slice A0 l0.length c0) l0 from Kd.V_mono hs0 (fun k_ hk => .inl hk))
 have HB := Aside0.mk (Below.refl w.heap.size w)
 have H : (kotatsuref07_Read.l0 k ([] : List (S56)) l0) = some (r1, r2) := h
 clear h
 have H' := Aside0.mk H
 clear H
 go_enter Try.func16, Try.ntmps16
 go_wp2
 go_loopg [4, 5] k (fun kq v4 v5 w' => ∃ (x4_1 : List (S56)) (x5_1 : List Int), Aside0 (kotatsuref07_Read.l0 kq x4_1 x5_1 = some (r1, r2)) ∧ Aside0 (kq ≤ k) ∧ Aside0 (Kd.N k56 56 w' w.heap.size (fun k_ => (P0_ k_ ∨ w.heap.size ≤ k_)) v4 x4_1) ∧ Aside0 (Kd.V (Kd.int .u8) 5 w' w.heap.size (fun k_ => (P0_ k_ ∨ w.heap.size ≤ k_) ∧ some k_ ≠ (v4 : Value).ownBlock) v5 x5_1) ∧ Aside0 (Below w.heap.size w w'))
 case atStart => exact ⟨(([] : List (S56))), (l0), H', ⟨Nat.le_refl _⟩, ⟨by first | exact Kd.S_nil _ _ _ _ _ | exact Kd.N_nil _ _ _ _ _ | exact Kd.V_nil _ _ _ _ _ | exact Kd.Q_nil _ _ _ _ _ | exact Kd.R_nil _ _ _ _ _⟩, ⟨by (with_reducible repeat (first | apply Kd.V_alloc | apply Kd.V_drewN | apply Kd.V_drew)); exact Kd.V_mono HO0.out (fun _ hk => ⟨hk, (by simp [Value.ownBlock])⟩)⟩, ⟨by repeat (first | (with_reducible first | exact HB.out | apply below_alloc | apply pw_below_drewN | apply below_drew1) | exact HB.out)⟩⟩
 clear H'
 try clear c1
 obtain ⟨x4_1, x5_1, HA, HK1, HO_4, HO_5, HB⟩ := hrel
 cases gk with
 | zero => exact absurd HA.out (by simp [kotatsuref07_Read.l0])
 | succ k1 =>
  have H := HA.out
  clear HA
  simp only [kotatsuref07_Read.l0] at H
  have HC2 := Aside0.mk H
  clear H
  go_upto_block 2 with (fail)
  go_cut [5] (fun v5 wc => ∃ (kq : Nat) (x5_1 : List Int), Aside0 (kotatsuref07_Read.j2 kq x4_1 x5_1 = some (r1, r2)) ∧ Aside0 (kq ≤ k1) ∧ Aside0 (Kd.N k56 56 wc w.heap.size (fun k_ => (P0_ k_ ∨ w.heap.size ≤ k_)) u4 x4_1) ∧ Aside0 (Kd.V (Kd.int .u8) 5 wc w.heap.size (fun k_ => (P0_ k_ ∨ w.heap.size ≤ k_) ∧ some k_ ≠ (u4 : Value).ownBlock) v5 x5_1) ∧ Aside0 (Below w.heap.size w wc))
  case first =>
   have H := HC2.out
   clear HC2
   have H' := Aside0.mk H
   clear H
   go_wp2
   go_loopg [5] k1 (fun kq v5 w' => ∃ (x5_2 : List Int), Aside0 (kotatsuref07_Read.l1 kq x4_1 x5_2 = some (r1, r2)) ∧ Aside0 (kq ≤ k1) ∧ Aside0 (Kd.N k56 56 w' w.heap.size (fun k_ => (P0_ k_ ∨ w.heap.size ≤ k_)) u4 x4_1) ∧ Aside0 (Kd.V (Kd.int .u8) 5 w' w.heap.size (fun k_ => (P0_ k_ ∨ w.heap.size ≤ k_) ∧ some k_ ≠ (u4 : Value).ownBlock) v5 x5_2) ∧ Aside0 (Below w.heap.size w w'))
   case atStart => exact ⟨(x5_1), H', ⟨Nat.le_refl _⟩, ⟨by (with_reducible repeat (first | apply Kd.N_alloc | apply Kd.N_drewN | apply Kd.N_drew)); exact HO_4.out⟩, ⟨by (with_reducible repeat (first | apply Kd.V_alloc | apply Kd.V_drewN | apply Kd.V_drew)); exact HO_5.out⟩, ⟨by repeat (first | (with_reducible first | exact HB.out | apply below_alloc | apply pw_below_drewN | apply below_drew1) | exact HB.out)⟩⟩
   clear H'
   try clear c1
   try clear p2
   obtain ⟨x5_2, HA, HK2, HO_4, HO_5, HB⟩ := hrel
   cases gk with
   | zero => exact absurd HA.out (by simp [kotatsuref07_Read.l1])
   | succ k2 =>
    have H := HA.out
    clear HA
    simp only [kotatsuref07_Read.l1] at H
    by_cases c3 : (x5_2.length : Int) > 0
    rotate_left
    ·rw [if_neg c3] at H
     have c3b0 : decide (0 < (x5_2.length : Int)) = false := decide_eq_false c3
     have c3b1 : decide (0 < x5_2.length) = false := decide_eq_false (by omega)
     clear c3
     (first | rw [c3b0] | (simp only [i64_w, i32_w]; rw [c3b0]) | skip)
     have H' := Aside0.mk H
     clear H
     obtain ⟨Ao10, co10, eo10⟩ := Kd.V_slice HO_5.out
     subst eo10
     go_wp2
     go_meet
     case rel => exact ⟨_, (x5_2), H', ⟨by have := HK1.out; have := HK2.out; first | omega | exact Nat.le_refl _⟩, ⟨by (with_reducible repeat (first | apply Kd.N_alloc | apply Kd.N_drewN | apply Kd.N_drew)); exact HO_4.out⟩, ⟨by (with_reducible repeat (first | apply Kd.V_alloc | apply Kd.V_drewN | apply Kd.V_drew)); exact HO_5.out⟩, ⟨by repeat (first | (with_reducible first | exact HB.out | apply below_alloc | apply pw_below_drewN | apply below_drew1) | exact HB.out)⟩⟩
    rw [if_pos c3] at H
    have c3b0 : decide (0 < (x5_2.length : Int)) = true := decide_eq_true c3
    have c3b1 : decide (0 < x5_2.length) = true := decide_eq_true (by omega)
    clear c3
    (first | rw [c3b0] | (simp only [i64_w, i32_w]; rw [c3b0]) | skip)
    by_cases c4 : 0 < (x5_2.length : Int)
    rotate_left
    ·rw [if_neg c4] at H
     exact absurd H (by simp)
    rw [if_pos c4] at H
    have c4b0 : decide (0 < (x5_2.length : Int)) = true := decide_eq_true c4
    have c4b1 : decide (0 < x5_2.length) = true := decide_eq_true (by omega)
    clear c4
    by_cases c5 : (rd x5_2 0) = 0
    rotate_left
    ·rw [if_neg c5] at H
     have c5b0 : ((rd x5_2 0) == 0) = false := beq_eq_false_iff_ne.mpr c5
     have c5b1 : ((rd x5_2 0) != 0) = true := bne_iff_ne.mpr c5
     have H' := Aside0.mk H
     clear H
     obtain ⟨Ao9, co9, eo9⟩ := Kd.V_slice HO_5.out
     subst eo9
     have p266 : 0 ≤ (0 : Int) := (by omega)
     have q266 : 0 < (x5_2.length : Int) := of_decide_eq_true (by first | (with_reducible assumption) | assumption)
     obtain ⟨ad266, e266, hx266_0⟩ := Kd.at_int (Kd.V_reads' HO_5.out).2.2 0 p266 q266
     cases e266
     have qi266 : (0 < x5_2.length) = True := eq_true (by omega)
     (try rw [show ((0 : Int)).toNat = 0 from rfl] at hx266_0)
     (try rw [Addr.add_zero'] at hx266_0)
     replace p266 := eq_true p266
     replace q266 := eq_true q266
     go_wp2
     go_meet
     case rel => exact ⟨_, (x5_2), H', ⟨by have := HK1.out; have := HK2.out; first | omega | exact Nat.le_refl _⟩, ⟨by (with_reducible repeat (first | apply Kd.N_alloc | apply Kd.N_drewN | apply Kd.N_drew)); exact HO_4.out⟩, ⟨by (with_reducible repeat (first | apply Kd.V_alloc | apply Kd.V_drewN | apply Kd.V_drew)); exact HO_5.out⟩, ⟨by repeat (first | (with_reducible first | exact HB.out | apply below_alloc | apply pw_below_drewN | apply below_drew1) | exact HB.out)⟩⟩
    rw [if_pos c5] at H
    have c5b0 : ((rd x5_2 0) == 0) = true := beq_iff_eq.mpr c5
    have c5b1 : ((rd x5_2 0) != 0) = false := bne_eq_false_iff_eq.mpr c5
    clear c5
    by_cases c6 : 1 ≤ (x5_2.length : Int)
    rotate_left
    ·rw [if_neg c6] at H
     exact absurd H (by simp)
    rw [if_pos c6] at H
    have c6b0 := eq_true c6
    have c6b1 : decide (1 ≤ (x5_2.length : Int)) = true := decide_eq_true c6
    clear c6
    obtain ⟨y267, hy267⟩ : ∃ y_ : List Int, y_ = (x5_2.drop 1) := ⟨_, rfl⟩
    replace H : (kotatsuref07_Read.l1 k2 x4_1 y267) = some (r1, r2) := by first | (rw [hy267]; with_reducible exact H) | (have H2_ := (Option.bind_some _ _).symm.trans H; rw [hy267]; with_reducible exact H2_) | (have H2_ := (Option.bind_some _ _).symm.trans H; with_reducible exact H2_) | with_reducible exact H | (rw [hy267]; exact H) | exact H
    have Ny267 := Aside0.mk hy267
    clear hy267
    have H' := Aside0.mk H
    clear H
    obtain ⟨Ao7, co7, eo7⟩ := Kd.V_slice HO_5.out
    subst eo7
    have p266 : 0 ≤ (0 : Int) := (by omega)
    have q266 : 0 < (x5_2.length : Int) := of_decide_eq_true (by first | (with_reducible assumption) | assumption)
    obtain ⟨ad266, e266, hx266_0⟩ := Kd.at_int (Kd.V_reads' HO_5.out).2.2 0 p266 q266
    cases e266
    have qi266 : (0 < x5_2.length) = True := eq_true (by omega)
    (try rw [show ((0 : Int)).toNat = 0 from rfl] at hx266_0)
    (try rw [Addr.add_zero'] at hx266_0)
    replace p266 := eq_true p266
    replace q266 := eq_true q266
    have q8 : (1 : Int) ≤ ((x5_2.length : Int) : Int) := of_decide_eq_true (by first | (with_reducible assumption) | assumption)
    obtain ⟨i08, hi08, _, hsz8, _⟩ := info_parts info5
    have hroom8 : x5_2.length ≤ co7 := (Kd.V_reads' HO_5.out).2.1
    have hC8 : Kd.F (Kd.int .u8) _ _ (some ad266) x5_2.length x5_2 := (Kd.V_at (base := w.heap.size) HO_5.out).2.2
    have hcut8 := cut_from (P := Try.prog) 22 5 .i64 Try.underlying22 hi08 1 hsz8 (some ad266) x5_2.length co7 1 (by omega) q8
    have hr8 := Kd.F_cut (m := (1 : Int).toNat) (c := co7) hC8 (by omega) hroom8
    obtain ⟨A8, hA8⟩ : ∃ A1, A1 = (if co7 = (1 : Int).toNat then (some ad266) else ((some ad266) : Option Addr).map (·.add ((1 : Int).toNat * 1))) := ⟨_, rfl⟩
    obtain ⟨c8, hc8⟩ : ∃ c1, c1 = co7 - (1 : Int).toNat := ⟨_, rfl⟩
    have hy8 : y267.length = x5_2.length - (1 : Int).toNat := (by rw [Ny267.out, List.length_drop] <;> omega)
    rw [show (x5_2).drop (1 : Int).toNat = y267 from Ny267.out.symm] at hr8
    replace hr8 : Kd.F (Kd.int .u8) _ _ A8 y267.length y267 := (by rw [hA8]; exact hr8)
    rw [← hy8, ← hA8, ← hc8] at hcut8
    have HO271 := Aside0.mk (show Kd.V (Kd.int .u8) 5 _ w.heap.size _ (.slice A8 y267.length c8) y267 from Kd.V_mk (by rw [hy8, hc8]; exact Nat.sub_le_sub_right hroom8 _) hr8)
    have HC271 := Aside0.mk (show y267.length ≤ c8 from by rw [hy8, hc8]; exact Nat.sub_le_sub_right hroom8 _)
    clear hr8 hC8 hroom8 hi08 hsz8 hc8
    have KY8 := Aside0.mk hy8
    have KA8 := Aside0.mk hA8
    clear hy8 hA8
    replace q8 := eq_true q8
    go_wp2
    go_roundg k2
    case measure => have := HK1.out; have := HK2.out; omega
    case rel => exact ⟨(y267), H', ⟨by have := HK1.out; have := HK2.out; omega⟩, ⟨by (with_reducible repeat (first | apply Kd.N_alloc | apply Kd.N_drewN | apply Kd.N_drew)); exact HO_4.out⟩, ⟨by (with_reducible repeat (first | apply Kd.V_alloc | apply Kd.V_drewN | apply Kd.V_drew)); exact HO271.out⟩, ⟨by repeat (first | (with_reducible first | exact HB.out | apply below_alloc | apply pw_below_drewN | apply below_drew1) | exact HB.out)⟩⟩
  clear HC2
  try clear c1
  try clear p2
  try clear q2
  try clear hx2
  try clear qi2
  try clear c3
  try clear c3b0
  try clear c3b1
  try clear c4
  try clear c4b0
  try clear c4b1
  try clear c5
  try clear c5b0
  try clear c5b1
  try clear c6
  try clear c6b0
  try clear c6b1
  try clear c8
  try clear q8
  try clear hx266_0
  try clear p2
  try clear p266
  try clear q266
  try clear q8
  obtain ⟨kq, x5_1, HA, HJ1, HO_4, HO_5, HB⟩ := hcut
  cases kq with
  | zero => exact absurd HA.out (by simp [kotatsuref07_Read.j2])
  | succ kj1 =>
   have H := HA.out
   clear HA
   simp only [kotatsuref07_Read.j2] at H
   have HC11 := Aside0.mk H
   clear H
   go_upto_region 5 with (fail)
   go_cut [27] (fun v27 wc => ∃ (kq : Nat) (x27_10 : Bool), v27 = .bool x27_10 ∧ Aside0 (kotatsuref07_Read.j3 kq x4_1 x5_1 x27_10 = some (r1, r2)) ∧ Aside0 (kq ≤ kj1) ∧ Aside0 (Kd.N k56 56 wc w.heap.size (fun k_ => (P0_ k_ ∨ w.heap.size ≤ k_)) u4 x4_1) ∧ Aside0 (Kd.V (Kd.int .u8) 5 wc w.heap.size (fun k_ => (P0_ k_ ∨ w.heap.size ≤ k_) ∧ some k_ ≠ (u4 : Value).ownBlock) u5 x5_1) ∧ Aside0 (Below w.heap.size w wc))
   case first =>
    have H := HC11.out
    clear HC11
    by_cases c12 : (x5_1.length : Int) = 0
    ·rw [if_pos c12] at H
     have c12b0 : ((x5_1.length : Int) == 0) = true := beq_iff_eq.mpr c12
     have c12b1 : ((x5_1.length : Int) != 0) = false := bne_eq_false_iff_eq.mpr c12
     clear c12
     (first | rw [c12b0] | (simp only [i64_w, i32_w]; rw [c12b0]) | skip)
     have H' := Aside0.mk H
     clear H
     obtain ⟨Ao13, co13, eo13⟩ := Kd.V_slice HO_5.out
     subst eo13
     go_wp2
     go_meet
     case rel => exact ⟨_, (true), (by first | rfl | (simp; done) | (simp [*]; done)), H', ⟨by have := HK1.out; have := HJ1.out; first | omega | exact Nat.le_refl _⟩, ⟨by (with_reducible repeat (first | apply Kd.N_alloc | apply Kd.N_drewN | apply Kd.N_drew)); exact HO_4.out⟩, ⟨by (with_reducible repeat (first | apply Kd.V_alloc | apply Kd.V_drewN | apply Kd.V_drew)); exact HO_5.out⟩, ⟨by repeat (first | (with_reducible first | exact HB.out | apply below_alloc | apply pw_below_drewN | apply below_drew1) | exact HB.out)⟩⟩
    rw [if_neg c12] at H
    have c12b0 : ((x5_1.length : Int) == 0) = false := beq_eq_false_iff_ne.mpr c12
    have c12b1 : ((x5_1.length : Int) != 0) = true := bne_iff_ne.mpr c12
    have c12b2 : ¬ (x5_1 = []) := fun h_ => c12 (by rw [h_]; rfl)
    (first | rw [c12b0] | (simp only [i64_w, i32_w]; rw [c12b0]) | skip)
    have H' := Aside0.mk H
    clear H
    obtain ⟨Ao14, co14, eo14⟩ := Kd.V_slice HO_5.out
    subst eo14
    obtain ⟨Ao15, co15, eo15⟩ := Kd.N_slice HO_4.out
    subst eo15
    go_wp2
    go_meet
    case rel => exact ⟨_, (((x4_1.length : Int) == 512)), (by first | rfl | (simp; done) | (simp [*]; done)), H', ⟨by have := HK1.out; have := HJ1.out; first | omega | exact Nat.le_refl _⟩, ⟨by (with_reducible repeat (first | apply Kd.N_alloc | apply Kd.N_drewN | apply Kd.N_drew)); exact HO_4.out⟩, ⟨by (with_reducible repeat (first | apply Kd.V_alloc | apply Kd.V_drewN | apply Kd.V_drew)); exact HO_5.out⟩, ⟨by repeat (first | (with_reducible first | exact HB.out | apply below_alloc | apply pw_below_drewN | apply below_drew1) | exact HB.out)⟩⟩
   clear HC11
   try clear c1
   try clear p2
   try clear q2
   try clear hx2
   try clear qi2
   try clear c3
   try clear c3b0
   try clear c3b1
   try clear c4
   try clear c4b0
   try clear c4b1
   try clear c5
   try clear c5b0
   try clear c5b1
   try clear c6
   try clear c6b0
   try clear c6b1
   try clear c8
   try clear q8
   try clear c12
   try clear c12b0
   try clear c12b1
   try clear c12b2
   try clear hx266_0
   try clear p2
   try clear p266
   try clear q2
   try clear q266
   try clear q8
   obtain ⟨kq, x27_10, rfl, HA, HJ10, HO_4, HO_5, HB⟩ := hcut
   cases kq with
   | zero => exact absurd HA.out (by simp [kotatsuref07_Read.j3])
   | succ kj10 =>
    have H := HA.out
    clear HA
    simp only [kotatsuref07_Read.j3] at H
    by_cases c16 : x27_10 = true
    ·subst c16
     have H1 : (some (x4_1, 0)) = some (r1, r2) := by rw [if_pos rfl] at H; exact H
     clear H
     have H := H1
     clear H1
     simp only [Option.some.injEq, Prod.mk.injEq] at H
     obtain ⟨rfl, rfl⟩ := H
     go_wp2
     go_ret2
     exact ⟨_, by first | rfl | (simp [errW_none, errW_some] <;> rfl) | (simp [*, errW_none, errW_some] <;> rfl), by (with_reducible repeat (first | apply Kd.N_alloc | apply Kd.N_drewN | apply Kd.N_drew)); exact HO_4.out, by repeat (first | (with_reducible first | exact HB.out | apply below_alloc | apply pw_below_drewN | apply below_drew1) | exact HB.out)⟩
    replace c16 := Bool.eq_false_iff.mpr c16
    subst c16
    have H1 : (if (x4_1.length : Int) > 0 then (if 0 ≤ (wrap64 ((x4_1.length : Int) - 1)) then (if (wrap64 ((x4_1.length : Int) - 1)) < (x4_1.length : Int) then ((kotatsuref05_Bytes.f (x4_1.length : Int) ((rd_T56 x4_1 (wrap64 ((x4_1.length : Int) - 1))).f1)).bind fun t273 => (if 0 < (x5_1.length : Int) then (if (rd x5_1 0) = 128 then (if (x5_1.length : Int) < (wrap64 (t273 + 4)) then (some (([] : List (S56)), 2)) else (if 1 < (x5_1.length : Int) then ((kotatsuref05_Kind.f (x4_1.length : Int)).bind fun t276 => (if (rd x5_1 1) = t276 then (if 0 ≤ (wrap64 (t273 + 2)) then (if (wrap64 (t273 + 2)) ≤ (x5_1.length : Int) then ((kotatsuref02_Short.f kj10 (x5_1.take ((wrap64 (t273 + 2)) : Int).toNat)).bind fun t282 => (if (wrap64 (t273 + 2)) ≤ (wrap64 (t273 + 4)) then (if (wrap64 (t273 + 4)) ≤ (x5_1.length : Int) then ((kotatsuref02_Take.f kj10 ((x5_1.take ((wrap64 (t273 + 4)) : Int).toNat).drop ((wrap64 (t273 + 2)) : Int).toNat)).bind fun t288 => (if (IntKind.u64.wrap (t282)) = t288 then (if 2 ≤ (wrap64 (t273 + 2)) then ((kotatsuref01_Join.f kj10 (([((x5_1.take ((wrap64 (t273 + 2)) : Int).toNat).drop 2)] : List (List Int)))).bind fun t298 => (if x4_1.length < 4398046511104 then (if 0 ≤ (wrap64 (t273 + 4)) then (kotatsuref07_Read.l0 kj10 (x4_1 ++ [(⟨rd x5_1 1, t298⟩ : S56)]) (x5_1.drop ((wrap64 (t273 + 4)) : Int).toNat)) else (none)) else (none))) else (none)) else (some (([] : List (S56)), 3)))) else (none)) else (none))) else (none)) else (none)) else (some (([] : List (S56)), 2)))) else (none))) else (some (([] : List (S56)), 2))) else (none))) else (none)) else (none)) else ((kotatsuref05_Bytes.f (x4_1.length : Int) ([] : List Int)).bind fun t309 => (if 0 < (x5_1.length : Int) then (if (rd x5_1 0) = 128 then (if (x5_1.length : Int) < (wrap64 (t309 + 4)) then (some (([] : List (S56)), 2)) else (if 1 < (x5_1.length : Int) then ((kotatsuref05_Kind.f (x4_1.length : Int)).bind fun t312 => (if (rd x5_1 1) = t312 then (if 0 ≤ (wrap64 (t309 + 2)) then (if (wrap64 (t309 + 2)) ≤ (x5_1.length : Int) then ((kotatsuref02_Short.f kj10 (x5_1.take ((wrap64 (t309 + 2)) : Int).toNat)).bind fun t318 => (if (wrap64 (t309 + 2)) ≤ (wrap64 (t309 + 4)) then (if (wrap64 (t309 + 4)) ≤ (x5_1.length : Int) then ((kotatsuref02_Take.f kj10 ((x5_1.take ((wrap64 (t309 + 4)) : Int).toNat).drop ((wrap64 (t309 + 2)) : Int).toNat)).bind fun t324 => (if (IntKind.u64.wrap (t318)) = t324 then (if 2 ≤ (wrap64 (t309 + 2)) then ((kotatsuref01_Join.f kj10 (([((x5_1.take ((wrap64 (t309 + 2)) : Int).toNat).drop 2)] : List (List Int)))).bind fun t334 => (if x4_1.length < 4398046511104 then (if 0 ≤ (wrap64 (t309 + 4)) then (kotatsuref07_Read.l0 kj10 (x4_1 ++ [(⟨rd x5_1 1, t334⟩ : S56)]) (x5_1.drop ((wrap64 (t309 + 4)) : Int).toNat)) else (none)) else (none))) else (none)) else (some (([] : List (S56)), 3)))) else (none)) else (none))) else (none)) else (none)) else (some (([] : List (S56)), 2)))) else (none))) else (some (([] : List (S56)), 2))) else (none)))) = some (r1, r2) := by rw [if_neg (show ¬ (false = true) by decide)] at H; exact H
    clear H
    have H := H1
    clear H1
    by_cases c17 : (x4_1.length : Int) > 0
    rotate_left
    ·rw [if_neg c17] at H
     have c17b0 : decide (0 < (x4_1.length : Int)) = false := decide_eq_false c17
     have c17b1 : decide (0 < x4_1.length) = false := decide_eq_false (by omega)
     clear c17
     replace H := Option.bind_eq_some_iff.mp H
     obtain ⟨t309, A760, H⟩ := H
     replace H : (if 0 < (x5_1.length : Int) then (if (rd x5_1 0) = 128 then (if (x5_1.length : Int) < (wrap64 (t309 + 4)) then (some (([] : List (S56)), 2)) else (if 1 < (x5_1.length : Int) then ((kotatsuref05_Kind.f (x4_1.length : Int)).bind fun t312 => (if (rd x5_1 1) = t312 then (if 0 ≤ (wrap64 (t309 + 2)) then (if (wrap64 (t309 + 2)) ≤ (x5_1.length : Int) then ((kotatsuref02_Short.f kj10 (x5_1.take ((wrap64 (t309 + 2)) : Int).toNat)).bind fun t318 => (if (wrap64 (t309 + 2)) ≤ (wrap64 (t309 + 4)) then (if (wrap64 (t309 + 4)) ≤ (x5_1.length : Int) then ((kotatsuref02_Take.f kj10 ((x5_1.take ((wrap64 (t309 + 4)) : Int).toNat).drop ((wrap64 (t309 + 2)) : Int).toNat)).bind fun t324 => (if (IntKind.u64.wrap (t318)) = t324 then (if 2 ≤ (wrap64 (t309 + 2)) then ((kotatsuref01_Join.f kj10 (([((x5_1.take ((wrap64 (t309 + 2)) : Int).toNat).drop 2)] : List (List Int)))).bind fun t334 => (if x4_1.length < 4398046511104 then (if 0 ≤ (wrap64 (t309 + 4)) then (kotatsuref07_Read.l0 kj10 (x4_1 ++ [(⟨rd x5_1 1, t334⟩ : S56)]) (x5_1.drop ((wrap64 (t309 + 4)) : Int).toNat)) else (none)) else (none))) else (none)) else (some (([] : List (S56)), 3)))) else (none)) else (none))) else (none)) else (none)) else (some (([] : List (S56)), 2)))) else (none))) else (some (([] : List (S56)), 2))) else (none)) = some (r1, r2) := H
     have A76 := Aside0.mk A760
     clear A760
     by_cases c77 : 0 < (x5_1.length : Int)
     rotate_left
     ·rw [if_neg c77] at H
      exact absurd H (by simp)
     rw [if_pos c77] at H
     have c77b0 : decide (0 < (x5_1.length : Int)) = true := decide_eq_true c77
     have c77b1 : decide (0 < x5_1.length) = true := decide_eq_true (by omega)
     clear c77
     by_cases c78 : (rd x5_1 0) = 128
     rotate_left
     ·rw [if_neg c78] at H
      have c78b0 : ((rd x5_1 0) == 128) = false := beq_eq_false_iff_ne.mpr c78
      have c78b1 : ((rd x5_1 0) != 128) = true := bne_iff_ne.mpr c78
      simp only [Option.some.injEq, Prod.mk.injEq] at H
      obtain ⟨rfl, rfl⟩ := H
      obtain ⟨Ao128, co128, eo128⟩ := Kd.N_slice HO_4.out
      subst eo128
      try go_wp2_with (first | ((with_reducible refine gate_callee (f := 28) rfl ?_); refine goesL_ (some 42) rfl rfl Try.func28 (by kernel_rfl) rfl #[.int .i64 (x4_1.length : Int), .slice none 0 0] rfl (by (try simp only [List.map_toArray, List.map_cons, List.map_nil]); first | done | rfl | (simp only [List.length_drop, List.length_take]; rfl)) ?_; (refine (kotatsuref05_Bytes.calls (x4_1.length : Int) _ _ ([] : List Int) t309 _ ?side1 ?side2 A76.out).mono ?_); (case side1 => exact Kd.C_nil _ _); (case side2 => exact Nat.le_refl _); rintro e w' ⟨rfl, ⟨nd, rfl⟩⟩; refine ⟨_, rfl, ?_⟩))
      (try (rw [drewN_self wc]; generalize hq_ : World.drewN wc _ = wc; have n0_ : Aside0 (Kd.N k56 56 wc w.heap.size (fun k_ => (P0_ k_ ∨ w.heap.size ≤ k_)) (.slice Ao128 x4_1.length co128) x4_1) := ⟨by rw [← hq_]; exact (by (with_reducible repeat (first | apply Kd.N_alloc | apply Kd.N_drewN | apply Kd.N_drew)); exact HO_4.out)⟩; have n1_ : Aside0 (Kd.V (Kd.int .u8) 5 wc w.heap.size (fun k_ => (P0_ k_ ∨ w.heap.size ≤ k_) ∧ some k_ ≠ (.slice Ao128 x4_1.length co128 : Value).ownBlock) u5 x5_1) := ⟨by rw [← hq_]; exact (by (with_reducible repeat (first | apply Kd.V_alloc | apply Kd.V_drewN | apply Kd.V_drew)); exact HO_5.out)⟩; have n2_ : Aside0 (Below w.heap.size w wc) := ⟨by rw [← hq_]; exact (by repeat (first | (with_reducible first | exact HB.out | apply below_alloc | apply pw_below_drewN | apply below_drew1) | exact HB.out))⟩; clear HO_4 HO_5 HB hq_; have HO_4 := n0_; have HO_5 := n1_; have HB := n2_; clear n0_ n1_ n2_))
      have n0_ := Aside0.mk (Kd.N_drew HO_4.out)
      have n1_ := Aside0.mk (Kd.V_drew HO_5.out)
      have n2_ := Aside0.mk (below_drew1 HB.out)
      clear HO_4
      clear HO_5
      clear HB
      have HO_4 := n0_
      have HO_5 := n1_
      have HB := n2_
      clear n0_ n1_ n2_
      obtain ⟨Ao130, co130, eo130⟩ := Kd.V_slice HO_5.out
      (first | subst eo130 | (injection eo130 with f1_ f2_ f3_; have f4_ := f1_.symm; have f5_ := f3_.symm; clear f1_ f2_ f3_; subst f4_; subst f5_))
      have p310 : 0 ≤ (0 : Int) := (by omega)
      have q310 : 0 < (x5_1.length : Int) := of_decide_eq_true (by first | (with_reducible assumption) | assumption)
      obtain ⟨ad310, e310, hx310_0⟩ := Kd.at_int (Kd.V_reads' HO_5.out).2.2 0 p310 q310
      cases e310
      have qi310 : (0 < x5_1.length) = True := eq_true (by omega)
      (try rw [show ((0 : Int)).toNat = 0 from rfl] at hx310_0)
      (try rw [Addr.add_zero'] at hx310_0)
      replace p310 := eq_true p310
      replace q310 := eq_true q310
      refine start_ (n := 20) (S := fun w' => w'.cell? ad310 = some (.int .u8 (rd x5_1 0))) (ds := []) #[fy,fy,fy,fy,fy,fy,fy,fy,fy,fy,fy,fy,fy,fy,fy,fy,fy,fy,fy,fy] (by kernel_rfl) rfl rfl (hx310_0) (fun hHeld => ?_); refine with_tabW kotatsuref07_Read.tab11 kotatsuref07_Read.bits11 (fun HT_ HW_ => ?_)
      generalize wc.drew = w129 at HO_4 HO_5 HB hx310_0 hHeld ⊢
      refine pure_ (i := 0) (N := some 43) (v := ?_) (a' := ?_) #[ty,fy,fy,fy,fy,fy,fy,fy,fy,fy,fy,fy,fy,fy,fy,fy,fy,fy,fy,fy] rfl rfl (any_of HT_.out (by kernel_rfl)) (fun _ _ _ h => h) (Or.inl ⟨by rfl, ?_⟩) ?_ ?_
      rotate_left
      ·intro w'
       go_simp
       with_reducible rfl
      rotate_left
      ·simp only [Act.put, qa, qb, qc, i64_w, i32_w]
       rfl
      refine pure_ (i := 1) (N := some 44) (v := ?_) (a' := ?_) #[ty,ty,fy,fy,fy,fy,fy,fy,fy,fy,fy,fy,fy,fy,fy,fy,fy,fy,fy,fy] rfl rfl (any_of HT_.out (by kernel_rfl)) (fun _ _ _ h => h) (Or.inl ⟨by rfl, ?_⟩) ?_ ?_
      rotate_left
      ·intro w'
       go_simp
       with_reducible rfl
      rotate_left
      ·simp only [Act.put, qa, qb, qc, i64_w, i32_w]
       rfl
      refine take_ (i := 2) (N := some 45) (v := ?_) (a' := ?_) #[ty,ty,ty,fy,fy,fy,fy,fy,fy,fy,fy,fy,fy,fy,fy,fy,fy,fy,fy,fy] rfl rfl (take_ofW HT_.out HW_.out (by kernel_rfl)) (fun _ _ _ h => h) (Or.inl ⟨by rfl, ?_⟩) hHeld ?_ ?_
      rotate_left
      ·intro w' s0
       go_simp
       with_reducible rfl
      rotate_left
      ·simp only [Act.put, qa, qb, qc, i64_w, i32_w]
       rfl
      refine pure_ (i := 3) (N := some 46) (v := ?_) (a' := ?_) #[ty,ty,ty,ty,fy,fy,fy,fy,fy,fy,fy,fy,fy,fy,fy,fy,fy,fy,fy,fy] rfl rfl (any_of HT_.out (by kernel_rfl)) (fun _ _ _ h => h) (Or.inl ⟨by rfl, ?_⟩) ?_ ?_
      rotate_left
      ·intro w'
       go_simp
       with_reducible rfl
      rotate_left
      ·simp only [Act.put, qa, qb, qc, i64_w, i32_w]
       rfl
      refine pure_ (i := 4) (N := some 47) (v := ?_) (a' := ?_) #[ty,ty,ty,ty,ty,fy,fy,fy,fy,fy,fy,fy,fy,fy,fy,fy,fy,fy,fy,fy] rfl rfl (any_of HT_.out (by kernel_rfl)) (fun _ _ _ h => h) (Or.inl ⟨by rfl, ?_⟩) ?_ ?_
      rotate_left
      ·intro w'
       go_simp
       with_reducible rfl
      rotate_left
      ·simp only [Act.put, qa, qb, qc, i64_w, i32_w]
       rfl
      refine pure_ (i := 5) (N := some 48) (v := undef) (a' := ?_) #[ty,ty,ty,ty,ty,ty,fy,fy,fy,fy,fy,fy,fy,fy,fy,fy,fy,fy,fy,fy] rfl rfl (any_of HT_.out (by kernel_rfl)) (fun _ _ _ h => h) (Or.inr ⟨by rfl, rfl⟩) ?_ ?_
      rotate_left
      ·simp only [Act.put, qa, qb, qc, i64_w, i32_w]
       rfl
      refine pure_ (i := 6) (N := some 49) (v := undef) (a' := ?_) #[ty,ty,ty,ty,ty,ty,ty,fy,fy,fy,fy,fy,fy,fy,fy,fy,fy,fy,fy,fy] rfl rfl (any_of HT_.out (by kernel_rfl)) (fun _ _ _ h => h) (Or.inr ⟨by rfl, rfl⟩) ?_ ?_
      rotate_left
      ·simp only [Act.put, qa, qb, qc, i64_w, i32_w]
       rfl
      refine pure_ (i := 7) (N := some 50) (v := undef) (a' := ?_) #[ty,ty,ty,ty,ty,ty,ty,ty,fy,fy,fy,fy,fy,fy,fy,fy,fy,fy,fy,fy] rfl rfl (any_of HT_.out (by kernel_rfl)) (fun _ _ _ h => h) (Or.inr ⟨by rfl, rfl⟩) ?_ ?_
      rotate_left
      ·simp only [Act.put, qa, qb, qc, i64_w, i32_w]
       rfl
      refine pure_ (i := 8) (N := some 51) (v := undef) (a' := ?_) #[ty,ty,ty,ty,ty,ty,ty,ty,ty,fy,fy,fy,fy,fy,fy,fy,fy,fy,fy,fy] rfl rfl (any_of HT_.out (by kernel_rfl)) (fun _ _ _ h => h) (Or.inr ⟨by rfl, rfl⟩) ?_ ?_
      rotate_left
      ·simp only [Act.put, qa, qb, qc, i64_w, i32_w]
       rfl
      refine pure_ (i := 9) (N := some 52) (v := undef) (a' := ?_) #[ty,ty,ty,ty,ty,ty,ty,ty,ty,ty,fy,fy,fy,fy,fy,fy,fy,fy,fy,fy] rfl rfl (any_of HT_.out (by kernel_rfl)) (fun _ _ _ h => h) (Or.inr ⟨by rfl, rfl⟩) ?_ ?_
      rotate_left
      ·simp only [Act.put, qa, qb, qc, i64_w, i32_w]
       rfl
      refine pure_ (i := 10) (N := some 53) (v := ?_) (a' := ?_) #[ty,ty,ty,ty,ty,ty,ty,ty,ty,ty,ty,fy,fy,fy,fy,fy,fy,fy,fy,fy] rfl rfl (any_of HT_.out (by kernel_rfl)) (fun _ _ _ h => h) (Or.inl ⟨by rfl, ?_⟩) ?_ ?_
      rotate_left
      ·intro w'
       go_simp
       with_reducible rfl
      rotate_left
      ·simp only [Act.put, qa, qb, qc, i64_w, i32_w]
       rfl
      refine pure_ (i := 11) (N := some 54) (v := ?_) (a' := ?_) #[ty,ty,ty,ty,ty,ty,ty,ty,ty,ty,ty,ty,fy,fy,fy,fy,fy,fy,fy,fy] rfl rfl (any_of HT_.out (by kernel_rfl)) (fun _ _ _ h => h) (Or.inl ⟨by rfl, ?_⟩) ?_ ?_
      rotate_left
      ·intro w'
       go_simp
       with_reducible rfl
      rotate_left
      ·simp only [Act.put, qa, qb, qc, i64_w, i32_w]
       rfl
      refine pure_ (i := 12) (N := some 55) (v := undef) (a' := ?_) #[ty,ty,ty,ty,ty,ty,ty,ty,ty,ty,ty,ty,ty,fy,fy,fy,fy,fy,fy,fy] rfl rfl (any_of HT_.out (by kernel_rfl)) (fun _ _ _ h => h) (Or.inr ⟨by rfl, rfl⟩) ?_ ?_
      rotate_left
      ·simp only [Act.put, qa, qb, qc, i64_w, i32_w]
       rfl
      refine pure_ (i := 13) (N := some 56) (v := undef) (a' := ?_) #[ty,ty,ty,ty,ty,ty,ty,ty,ty,ty,ty,ty,ty,ty,fy,fy,fy,fy,fy,fy] rfl rfl (any_of HT_.out (by kernel_rfl)) (fun _ _ _ h => h) (Or.inr ⟨by rfl, rfl⟩) ?_ ?_
      rotate_left
      ·simp only [Act.put, qa, qb, qc, i64_w, i32_w]
       rfl
      refine pure_ (i := 14) (N := some 57) (v := undef) (a' := ?_) #[ty,ty,ty,ty,ty,ty,ty,ty,ty,ty,ty,ty,ty,ty,ty,fy,fy,fy,fy,fy] rfl rfl (any_of HT_.out (by kernel_rfl)) (fun _ _ _ h => h) (Or.inr ⟨by rfl, rfl⟩) ?_ ?_
      rotate_left
      ·simp only [Act.put, qa, qb, qc, i64_w, i32_w]
       rfl
      refine pure_ (i := 15) (N := some 58) (v := undef) (a' := ?_) #[ty,ty,ty,ty,ty,ty,ty,ty,ty,ty,ty,ty,ty,ty,ty,ty,fy,fy,fy,fy] rfl rfl (any_of HT_.out (by kernel_rfl)) (fun _ _ _ h => h) (Or.inr ⟨by rfl, rfl⟩) ?_ ?_
      rotate_left
      ·simp only [Act.put, qa, qb, qc, i64_w, i32_w]
       rfl
      refine pure_ (i := 16) (N := some 59) (v := undef) (a' := ?_) #[ty,ty,ty,ty,ty,ty,ty,ty,ty,ty,ty,ty,ty,ty,ty,ty,ty,fy,fy,fy] rfl rfl (any_of HT_.out (by kernel_rfl)) (fun _ _ _ h => h) (Or.inr ⟨by rfl, rfl⟩) ?_ ?_
      rotate_left
      ·simp only [Act.put, qa, qb, qc, i64_w, i32_w]
       rfl
      refine pure_ (i := 17) (N := some 60) (v := undef) (a' := ?_) #[ty,ty,ty,ty,ty,ty,ty,ty,ty,ty,ty,ty,ty,ty,ty,ty,ty,ty,fy,fy] rfl rfl (any_of HT_.out (by kernel_rfl)) (fun _ _ _ h => h) (Or.inr ⟨by rfl, rfl⟩) ?_ ?_
      rotate_left
      ·simp only [Act.put, qa, qb, qc, i64_w, i32_w]
       rfl
      refine pure_ (i := 18) (N := some 61) (v := undef) (a' := ?_) #[ty,ty,ty,ty,ty,ty,ty,ty,ty,ty,ty,ty,ty,ty,ty,ty,ty,ty,ty,fy] rfl rfl (any_of HT_.out (by kernel_rfl)) (fun _ _ _ h => h) (Or.inr ⟨by rfl, rfl⟩) ?_ ?_
      rotate_left
      ·simp only [Act.put, qa, qb, qc, i64_w, i32_w]
       rfl
      refine pure_ (i := 19) (N := some 62) (v := ?_) (a' := ?_) #[ty,ty,ty,ty,ty,ty,ty,ty,ty,ty,ty,ty,ty,ty,ty,ty,ty,ty,ty,ty] rfl rfl (any_of HT_.out (by kernel_rfl)) (fun _ _ _ h => h) (Or.inl ⟨by rfl, ?_⟩) ?_ ?_
      rotate_left
      ·intro w'
       go_simp
       with_reducible rfl
      rotate_left
      ·simp only [Act.put, qa, qb, qc, i64_w, i32_w]
       rfl
      refine done_ (done_of HT_.out (by kernel_rfl)) ?_
      try go_wp2
      go_ret2
      exact ⟨_, by first | rfl | (simp [errW_none, errW_some] <;> rfl) | (simp [*, errW_none, errW_some] <;> rfl), by first | exact Kd.S_nil _ _ _ _ _ | exact Kd.N_nil _ _ _ _ _ | exact Kd.V_nil _ _ _ _ _ | exact Kd.Q_nil _ _ _ _ _ | exact Kd.R_nil _ _ _ _ _, by repeat (first | (with_reducible first | exact HB.out | apply below_alloc | apply pw_below_drewN | apply below_drew1) | exact HB.out)⟩
     rw [if_pos c78] at H
     have c78b0 : ((rd x5_1 0) == 128) = true := beq_iff_eq.mpr c78
     have c78b1 : ((rd x5_1 0) != 128) = false := bne_eq_false_iff_eq.mpr c78
     clear c78
     by_cases c79 : (x5_1.length : Int) < (wrap64 (t309 + 4))
     ·rw [if_pos c79] at H
      have c79b0 : decide ((x5_1.length : Int) < (wrap64 (t309 + 4))) = true := decide_eq_true c79
      clear c79
      simp only [Option.some.injEq, Prod.mk.injEq] at H
      obtain ⟨rfl, rfl⟩ := H
      obtain ⟨Ao80, co80, eo80⟩ := Kd.N_slice HO_4.out
      subst eo80
      try go_wp2_with (first | ((with_reducible refine gate_callee (f := 28) rfl ?_); refine goesL_ (some 42) rfl rfl Try.func28 (by kernel_rfl) rfl #[.int .i64 (x4_1.length : Int), .slice none 0 0] rfl (by (try simp only [List.map_toArray, List.map_cons, List.map_nil]); first | done | rfl | (simp only [List.length_drop, List.length_take]; rfl)) ?_; (refine (kotatsuref05_Bytes.calls (x4_1.length : Int) _ _ ([] : List Int) t309 _ ?side1 ?side2 A76.out).mono ?_); (case side1 => exact Kd.C_nil _ _); (case side2 => exact Nat.le_refl _); rintro e w' ⟨rfl, ⟨nd, rfl⟩⟩; refine ⟨_, rfl, ?_⟩))
      (try (rw [drewN_self wc]; generalize hq_ : World.drewN wc _ = wc; have n0_ : Aside0 (Kd.N k56 56 wc w.heap.size (fun k_ => (P0_ k_ ∨ w.heap.size ≤ k_)) (.slice Ao80 x4_1.length co80) x4_1) := ⟨by rw [← hq_]; exact (by (with_reducible repeat (first | apply Kd.N_alloc | apply Kd.N_drewN | apply Kd.N_drew)); exact HO_4.out)⟩; have n1_ : Aside0 (Kd.V (Kd.int .u8) 5 wc w.heap.size (fun k_ => (P0_ k_ ∨ w.heap.size ≤ k_) ∧ some k_ ≠ (.slice Ao80 x4_1.length co80 : Value).ownBlock) u5 x5_1) := ⟨by rw [← hq_]; exact (by (with_reducible repeat (first | apply Kd.V_alloc | apply Kd.V_drewN | apply Kd.V_drew)); exact HO_5.out)⟩; have n2_ : Aside0 (Below w.heap.size w wc) := ⟨by rw [← hq_]; exact (by repeat (first | (with_reducible first | exact HB.out | apply below_alloc | apply pw_below_drewN | apply below_drew1) | exact HB.out))⟩; clear HO_4 HO_5 HB hq_; have HO_4 := n0_; have HO_5 := n1_; have HB := n2_; clear n0_ n1_ n2_))
      have n0_ := Aside0.mk (Kd.N_drew HO_4.out)
      have n1_ := Aside0.mk (Kd.V_drew HO_5.out)
      have n2_ := Aside0.mk (below_drew1 HB.out)
      clear HO_4
      clear HO_5
      clear HB
      have HO_4 := n0_
      have HO_5 := n1_
      have HB := n2_
      clear n0_ n1_ n2_
      obtain ⟨Ao82, co82, eo82⟩ := Kd.V_slice HO_5.out
      (first | subst eo82 | (injection eo82 with f1_ f2_ f3_; have f4_ := f1_.symm; have f5_ := f3_.symm; clear f1_ f2_ f3_; subst f4_; subst f5_))
      have p310 : 0 ≤ (0 : Int) := (by omega)
      have q310 : 0 < (x5_1.length : Int) := of_decide_eq_true (by first | (with_reducible assumption) | assumption)
      obtain ⟨ad310, e310, hx310_0⟩ := Kd.at_int (Kd.V_reads' HO_5.out).2.2 0 p310 q310
      cases e310
      have qi310 : (0 < x5_1.length) = True := eq_true (by omega)
      (try rw [show ((0 : Int)).toNat = 0 from rfl] at hx310_0)
      (try rw [Addr.add_zero'] at hx310_0)
      replace p310 := eq_true p310
      replace q310 := eq_true q310
      refine start_ (n := 20) (S := fun w' => w'.cell? ad310 = some (.int .u8 (rd x5_1 0))) (ds := []) #[fy,fy,fy,fy,fy,fy,fy,fy,fy,fy,fy,fy,fy,fy,fy,fy,fy,fy,fy,fy] (by kernel_rfl) rfl rfl (hx310_0) (fun hHeld => ?_); refine with_tabW kotatsuref07_Read.tab11 kotatsuref07_Read.bits11 (fun HT_ HW_ => ?_)
      generalize wc.drew = w81 at HO_4 HO_5 HB hx310_0 hHeld ⊢
      refine pure_ (i := 0) (N := some 43) (v := ?_) (a' := ?_) #[ty,fy,fy,fy,fy,fy,fy,fy,fy,fy,fy,fy,fy,fy,fy,fy,fy,fy,fy,fy] rfl rfl (any_of HT_.out (by kernel_rfl)) (fun _ _ _ h => h) (Or.inl ⟨by rfl, ?_⟩) ?_ ?_
      rotate_left
      ·intro w'
       go_simp
       with_reducible rfl
      rotate_left
      ·simp only [Act.put, qa, qb, qc, i64_w, i32_w]
       rfl
      refine pure_ (i := 1) (N := some 44) (v := ?_) (a' := ?_) #[ty,ty,fy,fy,fy,fy,fy,fy,fy,fy,fy,fy,fy,fy,fy,fy,fy,fy,fy,fy] rfl rfl (any_of HT_.out (by kernel_rfl)) (fun _ _ _ h => h) (Or.inl ⟨by rfl, ?_⟩) ?_ ?_
      rotate_left
      ·intro w'
       go_simp
       with_reducible rfl
      rotate_left
      ·simp only [Act.put, qa, qb, qc, i64_w, i32_w]
       rfl
      refine take_ (i := 2) (N := some 45) (v := ?_) (a' := ?_) #[ty,ty,ty,fy,fy,fy,fy,fy,fy,fy,fy,fy,fy,fy,fy,fy,fy,fy,fy,fy] rfl rfl (take_ofW HT_.out HW_.out (by kernel_rfl)) (fun _ _ _ h => h) (Or.inl ⟨by rfl, ?_⟩) hHeld ?_ ?_
      rotate_left
      ·intro w' s0
       go_simp
       with_reducible rfl
      rotate_left
      ·simp only [Act.put, qa, qb, qc, i64_w, i32_w]
       rfl
      refine pure_ (i := 3) (N := some 46) (v := ?_) (a' := ?_) #[ty,ty,ty,ty,fy,fy,fy,fy,fy,fy,fy,fy,fy,fy,fy,fy,fy,fy,fy,fy] rfl rfl (any_of HT_.out (by kernel_rfl)) (fun _ _ _ h => h) (Or.inl ⟨by rfl, ?_⟩) ?_ ?_
      rotate_left
      ·intro w'
       go_simp
       with_reducible rfl
      rotate_left
      ·simp only [Act.put, qa, qb, qc, i64_w, i32_w]
       rfl
      refine pure_ (i := 4) (N := some 47) (v := ?_) (a' := ?_) #[ty,ty,ty,ty,ty,fy,fy,fy,fy,fy,fy,fy,fy,fy,fy,fy,fy,fy,fy,fy] rfl rfl (any_of HT_.out (by kernel_rfl)) (fun _ _ _ h => h) (Or.inl ⟨by rfl, ?_⟩) ?_ ?_
      rotate_left
      ·intro w'
       go_simp
       with_reducible rfl
      rotate_left
      ·simp only [Act.put, qa, qb, qc, i64_w, i32_w]
       rfl
      refine pure_ (i := 5) (N := some 48) (v := ?_) (a' := ?_) #[ty,ty,ty,ty,ty,ty,fy,fy,fy,fy,fy,fy,fy,fy,fy,fy,fy,fy,fy,fy] rfl rfl (any_of HT_.out (by kernel_rfl)) (fun _ _ _ h => h) (Or.inl ⟨by rfl, ?_⟩) ?_ ?_
      rotate_left
      ·intro w'
       go_simp
       with_reducible rfl
      rotate_left
      ·simp only [Act.put, qa, qb, qc, i64_w, i32_w]
       rfl
      refine pure_ (i := 6) (N := some 49) (v := ?_) (a' := ?_) #[ty,ty,ty,ty,ty,ty,ty,fy,fy,fy,fy,fy,fy,fy,fy,fy,fy,fy,fy,fy] rfl rfl (any_of HT_.out (by kernel_rfl)) (fun _ _ _ h => h) (Or.inl ⟨by rfl, ?_⟩) ?_ ?_
      rotate_left
      ·intro w'
       go_simp
       with_reducible rfl
      rotate_left
      ·simp only [Act.put, qa, qb, qc, i64_w, i32_w]
       rfl
      refine pure_ (i := 7) (N := some 50) (v := ?_) (a' := ?_) #[ty,ty,ty,ty,ty,ty,ty,ty,fy,fy,fy,fy,fy,fy,fy,fy,fy,fy,fy,fy] rfl rfl (any_of HT_.out (by kernel_rfl)) (fun _ _ _ h => h) (Or.inl ⟨by rfl, ?_⟩) ?_ ?_
      rotate_left
      ·intro w'
       go_simp
       with_reducible rfl
      rotate_left
      ·simp only [Act.put, qa, qb, qc, i64_w, i32_w]
       rfl
      refine pure_ (i := 8) (N := some 51) (v := ?_) (a' := ?_) #[ty,ty,ty,ty,ty,ty,ty,ty,ty,fy,fy,fy,fy,fy,fy,fy,fy,fy,fy,fy] rfl rfl (any_of HT_.out (by kernel_rfl)) (fun _ _ _ h => h) (Or.inl ⟨by rfl, ?_⟩) ?_ ?_
      rotate_left
      ·intro w'
       go_simp
       with_reducible rfl
      rotate_left
      ·simp only [Act.put, qa, qb, qc, i64_w, i32_w]
       rfl
      refine pure_ (i := 9) (N := some 52) (v := ?_) (a' := ?_) #[ty,ty,ty,ty,ty,ty,ty,ty,ty,ty,fy,fy,fy,fy,fy,fy,fy,fy,fy,fy] rfl rfl (any_of HT_.out (by kernel_rfl)) (fun _ _ _ h => h) (Or.inl ⟨by rfl, ?_⟩) ?_ ?_
      rotate_left
      ·intro w'
       go_simp
       with_reducible rfl
      rotate_left
      ·simp only [Act.put, qa, qb, qc, i64_w, i32_w]
       rfl
      refine pure_ (i := 10) (N := some 53) (v := ?_) (a' := ?_) #[ty,ty,ty,ty,ty,ty,ty,ty,ty,ty,ty,fy,fy,fy,fy,fy,fy,fy,fy,fy] rfl rfl (any_of HT_.out (by kernel_rfl)) (fun _ _ _ h => h) (Or.inl ⟨by rfl, ?_⟩) ?_ ?_
      rotate_left
      ·intro w'
       go_simp
       with_reducible rfl
      rotate_left
      ·simp only [Act.put, qa, qb, qc, i64_w, i32_w]
       rfl
      refine pure_ (i := 11) (N := some 54) (v := ?_) (a' := ?_) #[ty,ty,ty,ty,ty,ty,ty,ty,ty,ty,ty,ty,fy,fy,fy,fy,fy,fy,fy,fy] rfl rfl (any_of HT_.out (by kernel_rfl)) (fun _ _ _ h => h) (Or.inl ⟨by rfl, ?_⟩) ?_ ?_
      rotate_left
      ·intro w'
       go_simp
       with_reducible rfl
      rotate_left
      ·simp only [Act.put, qa, qb, qc, i64_w, i32_w]
       rfl
      refine pure_ (i := 12) (N := some 55) (v := undef) (a' := ?_) #[ty,ty,ty,ty,ty,ty,ty,ty,ty,ty,ty,ty,ty,fy,fy,fy,fy,fy,fy,fy] rfl rfl (any_of HT_.out (by kernel_rfl)) (fun _ _ _ h => h) (Or.inr ⟨by rfl, rfl⟩) ?_ ?_
      rotate_left
      ·simp only [Act.put, qa, qb, qc, i64_w, i32_w]
       rfl
      refine pure_ (i := 13) (N := some 56) (v := undef) (a' := ?_) #[ty,ty,ty,ty,ty,ty,ty,ty,ty,ty,ty,ty,ty,ty,fy,fy,fy,fy,fy,fy] rfl rfl (any_of HT_.out (by kernel_rfl)) (fun _ _ _ h => h) (Or.inr ⟨by rfl, rfl⟩) ?_ ?_
      rotate_left
      ·simp only [Act.put, qa, qb, qc, i64_w, i32_w]
       rfl
      refine pure_ (i := 14) (N := some 57) (v := undef) (a' := ?_) #[ty,ty,ty,ty,ty,ty,ty,ty,ty,ty,ty,ty,ty,ty,ty,fy,fy,fy,fy,fy] rfl rfl (any_of HT_.out (by kernel_rfl)) (fun _ _ _ h => h) (Or.inr ⟨by rfl, rfl⟩) ?_ ?_
      rotate_left
      ·simp only [Act.put, qa, qb, qc, i64_w, i32_w]
       rfl
      refine pure_ (i := 15) (N := some 58) (v := undef) (a' := ?_) #[ty,ty,ty,ty,ty,ty,ty,ty,ty,ty,ty,ty,ty,ty,ty,ty,fy,fy,fy,fy] rfl rfl (any_of HT_.out (by kernel_rfl)) (fun _ _ _ h => h) (Or.inr ⟨by rfl, rfl⟩) ?_ ?_
      rotate_left
      ·simp only [Act.put, qa, qb, qc, i64_w, i32_w]
       rfl
      refine pure_ (i := 16) (N := some 59) (v := undef) (a' := ?_) #[ty,ty,ty,ty,ty,ty,ty,ty,ty,ty,ty,ty,ty,ty,ty,ty,ty,fy,fy,fy] rfl rfl (any_of HT_.out (by kernel_rfl)) (fun _ _ _ h => h) (Or.inr ⟨by rfl, rfl⟩) ?_ ?_
      rotate_left
      ·simp only [Act.put, qa, qb, qc, i64_w, i32_w]
       rfl
      refine pure_ (i := 17) (N := some 60) (v := undef) (a' := ?_) #[ty,ty,ty,ty,ty,ty,ty,ty,ty,ty,ty,ty,ty,ty,ty,ty,ty,ty,fy,fy] rfl rfl (any_of HT_.out (by kernel_rfl)) (fun _ _ _ h => h) (Or.inr ⟨by rfl, rfl⟩) ?_ ?_
      rotate_left
      ·simp only [Act.put, qa, qb, qc, i64_w, i32_w]
       rfl
      refine pure_ (i := 18) (N := some 61) (v := undef) (a' := ?_) #[ty,ty,ty,ty,ty,ty,ty,ty,ty,ty,ty,ty,ty,ty,ty,ty,ty,ty,ty,fy] rfl rfl (any_of HT_.out (by kernel_rfl)) (fun _ _ _ h => h) (Or.inr ⟨by rfl, rfl⟩) ?_ ?_
      rotate_left
      ·simp only [Act.put, qa, qb, qc, i64_w, i32_w]
       rfl
      refine pure_ (i := 19) (N := some 62) (v := ?_) (a' := ?_) #[ty,ty,ty,ty,ty,ty,ty,ty,ty,ty,ty,ty,ty,ty,ty,ty,ty,ty,ty,ty] rfl rfl (any_of HT_.out (by kernel_rfl)) (fun _ _ _ h => h) (Or.inl ⟨by rfl, ?_⟩) ?_ ?_
      rotate_left
      ·intro w'
       go_simp
       with_reducible rfl
      rotate_left
      ·simp only [Act.put, qa, qb, qc, i64_w, i32_w]
       rfl
      refine done_ (done_of HT_.out (by kernel_rfl)) ?_
      try go_wp2
      go_ret2
      exact ⟨_, by first | rfl | (simp [errW_none, errW_some] <;> rfl) | (simp [*, errW_none, errW_some] <;> rfl), by first | exact Kd.S_nil _ _ _ _ _ | exact Kd.N_nil _ _ _ _ _ | exact Kd.V_nil _ _ _ _ _ | exact Kd.Q_nil _ _ _ _ _ | exact Kd.R_nil _ _ _ _ _, by repeat (first | (with_reducible first | exact HB.out | apply below_alloc | apply pw_below_drewN | apply below_drew1) | exact HB.out)⟩
     rw [if_neg c79] at H
     have c79b0 : decide ((x5_1.length : Int) < (wrap64 (t309 + 4))) = false := decide_eq_false c79
     clear c79
     by_cases c83 : 1 < (x5_1.length : Int)
     rotate_left
     ·rw [if_neg c83] at H
      exact absurd H (by simp)
     rw [if_pos c83] at H
     have c83b0 : decide (1 < (x5_1.length : Int)) = true := decide_eq_true c83
     have c83b1 : decide (1 < x5_1.length) = true := decide_eq_true (by omega)
     clear c83
     replace H := Option.bind_eq_some_iff.mp H
     obtain ⟨t312, A840, H⟩ := H
     replace H : (if (rd x5_1 1) = t312 then (if 0 ≤ (wrap64 (t309 + 2)) then (if (wrap64 (t309 + 2)) ≤ (x5_1.length : Int) then ((kotatsuref02_Short.f kj10 (x5_1.take ((wrap64 (t309 + 2)) : Int).toNat)).bind fun t318 => (if (wrap64 (t309 + 2)) ≤ (wrap64 (t309 + 4)) then (if (wrap64 (t309 + 4)) ≤ (x5_1.length : Int) then ((kotatsuref02_Take.f kj10 ((x5_1.take ((wrap64 (t309 + 4)) : Int).toNat).drop ((wrap64 (t309 + 2)) : Int).toNat)).bind fun t324 => (if (IntKind.u64.wrap (t318)) = t324 then (if 2 ≤ (wrap64 (t309 + 2)) then ((kotatsuref01_Join.f kj10 (([((x5_1.take ((wrap64 (t309 + 2)) : Int).toNat).drop 2)] : List (List Int)))).bind fun t334 => (if x4_1.length < 4398046511104 then (if 0 ≤ (wrap64 (t309 + 4)) then (kotatsuref07_Read.l0 kj10 (x4_1 ++ [(⟨rd x5_1 1, t334⟩ : S56)]) (x5_1.drop ((wrap64 (t309 + 4)) : Int).toNat)) else (none)) else (none))) else (none)) else (some (([] : List (S56)), 3)))) else (none)) else (none))) else (none)) else (none)) else (some (([] : List (S56)), 2))) = some (r1, r2) := H
     have A84 := Aside0.mk A840
     clear A840
     by_cases c85 : (rd x5_1 1) = t312
     rotate_left
     ·rw [if_neg c85] at H
      have c85b0 : ((rd x5_1 1) == t312) = false := beq_eq_false_iff_ne.mpr c85
      have c85b1 : ((rd x5_1 1) != t312) = true := bne_iff_ne.mpr c85
      simp only [Option.some.injEq, Prod.mk.injEq] at H
      obtain ⟨rfl, rfl⟩ := H
      obtain ⟨Ao125, co125, eo125⟩ := Kd.N_slice HO_4.out
      subst eo125
      try go_wp2_with (first | ((with_reducible refine gate_callee (f := 28) rfl ?_); refine goesL_ (some 42) rfl rfl Try.func28 (by kernel_rfl) rfl #[.int .i64 (x4_1.length : Int), .slice none 0 0] rfl (by (try simp only [List.map_toArray, List.map_cons, List.map_nil]); first | done | rfl | (simp only [List.length_drop, List.length_take]; rfl)) ?_; (refine (kotatsuref05_Bytes.calls (x4_1.length : Int) _ _ ([] : List Int) t309 _ ?side1 ?side2 A76.out).mono ?_); (case side1 => exact Kd.C_nil _ _); (case side2 => exact Nat.le_refl _); rintro e w' ⟨rfl, ⟨nd, rfl⟩⟩; refine ⟨_, rfl, ?_⟩))
      (try (rw [drewN_self wc]; generalize hq_ : World.drewN wc _ = wc; have n0_ : Aside0 (Kd.N k56 56 wc w.heap.size (fun k_ => (P0_ k_ ∨ w.heap.size ≤ k_)) (.slice Ao125 x4_1.length co125) x4_1) := ⟨by rw [← hq_]; exact (by (with_reducible repeat (first | apply Kd.N_alloc | apply Kd.N_drewN | apply Kd.N_drew)); exact HO_4.out)⟩; have n1_ : Aside0 (Kd.V (Kd.int .u8) 5 wc w.heap.size (fun k_ => (P0_ k_ ∨ w.heap.size ≤ k_) ∧ some k_ ≠ (.slice Ao125 x4_1.length co125 : Value).ownBlock) u5 x5_1) := ⟨by rw [← hq_]; exact (by (with_reducible repeat (first | apply Kd.V_alloc | apply Kd.V_drewN | apply Kd.V_drew)); exact HO_5.out)⟩; have n2_ : Aside0 (Below w.heap.size w wc) := ⟨by rw [← hq_]; exact (by repeat (first | (with_reducible first | exact HB.out | apply below_alloc | apply pw_below_drewN | apply below_drew1) | exact HB.out))⟩; clear HO_4 HO_5 HB hq_; have HO_4 := n0_; have HO_5 := n1_; have HB := n2_; clear n0_ n1_ n2_))
      have n0_ := Aside0.mk (Kd.N_drew HO_4.out)
      have n1_ := Aside0.mk (Kd.V_drew HO_5.out)
      have n2_ := Aside0.mk (below_drew1 HB.out)
      clear HO_4
      clear HO_5
      clear HB
      have HO_4 := n0_
      have HO_5 := n1_
      have HB := n2_
      clear n0_ n1_ n2_
      obtain ⟨Ao127, co127, eo127⟩ := Kd.V_slice HO_5.out
      (first | subst eo127 | (injection eo127 with f1_ f2_ f3_; have f4_ := f1_.symm; have f5_ := f3_.symm; clear f1_ f2_ f3_; subst f4_; subst f5_))
      have p310 : 0 ≤ (0 : Int) := (by omega)
      have q310 : 0 < (x5_1.length : Int) := of_decide_eq_true (by first | (with_reducible assumption) | assumption)
      obtain ⟨ad310, e310, hx310_0⟩ := Kd.at_int (Kd.V_reads' HO_5.out).2.2 0 p310 q310
      cases e310
      have qi310 : (0 < x5_1.length) = True := eq_true (by omega)
      (try rw [show ((0 : Int)).toNat = 0 from rfl] at hx310_0)
      (try rw [Addr.add_zero'] at hx310_0)
      replace p310 := eq_true p310
      replace q310 := eq_true q310
      have p311 : 0 ≤ (1 : Int) := (by omega)
      have q311 : 1 < (x5_1.length : Int) := of_decide_eq_true (by first | (with_reducible assumption) | assumption)
      obtain ⟨ad311, e311, hx311_0⟩ := Kd.at_int (Kd.V_reads' HO_5.out).2.2 1 p311 q311
      obtain rfl : ad310 = ad311 := (by injection e311)
      (try simp only [show (1 : Int).toNat = 1 from rfl, Nat.reduceMul, Nat.reduceEqDiff, Go.Addr.add, ↓reduceIte] at hx311_0)
      have qi311 : (1 < x5_1.length) = True := eq_true (by omega)
      (try rw [show ((1 : Int)).toNat = 1 from rfl] at hx311_0)
      replace p311 := eq_true p311
      replace q311 := eq_true q311
      refine start_ (n := 20) (S := fun w' => w'.cell? ad310 = some (.int .u8 (rd x5_1 0)) ∧ w'.cell? ⟨ad310.block, ad310.off + 1, none⟩ = some (.int .u8 (rd x5_1 1))) (ds := []) #[fy,fy,fy,fy,fy,fy,fy,fy,fy,fy,fy,fy,fy,fy,fy,fy,fy,fy,fy,fy] (by kernel_rfl) rfl rfl ⟨hx310_0, hx311_0⟩ (fun hHeld => ?_); refine with_tabW kotatsuref07_Read.tab11 kotatsuref07_Read.bits11 (fun HT_ HW_ => ?_)
      generalize wc.drew = w126 at HO_4 HO_5 HB hx310_0 hx311_0 hHeld ⊢
      refine pure_ (i := 0) (N := some 43) (v := ?_) (a' := ?_) #[ty,fy,fy,fy,fy,fy,fy,fy,fy,fy,fy,fy,fy,fy,fy,fy,fy,fy,fy,fy] rfl rfl (any_of HT_.out (by kernel_rfl)) (fun _ _ _ h => h) (Or.inl ⟨by rfl, ?_⟩) ?_ ?_
      rotate_left
      ·intro w'
       go_simp
       with_reducible rfl
      rotate_left
      ·simp only [Act.put, qa, qb, qc, i64_w, i32_w]
       rfl
      refine pure_ (i := 1) (N := some 44) (v := ?_) (a' := ?_) #[ty,ty,fy,fy,fy,fy,fy,fy,fy,fy,fy,fy,fy,fy,fy,fy,fy,fy,fy,fy] rfl rfl (any_of HT_.out (by kernel_rfl)) (fun _ _ _ h => h) (Or.inl ⟨by rfl, ?_⟩) ?_ ?_
      rotate_left
      ·intro w'
       go_simp
       with_reducible rfl
      rotate_left
      ·simp only [Act.put, qa, qb, qc, i64_w, i32_w]
       rfl
      refine take_ (i := 2) (N := some 45) (v := ?_) (a' := ?_) #[ty,ty,ty,fy,fy,fy,fy,fy,fy,fy,fy,fy,fy,fy,fy,fy,fy,fy,fy,fy] rfl rfl (take_ofW HT_.out HW_.out (by kernel_rfl)) (fun _ _ _ h => h) (Or.inl ⟨by rfl, ?_⟩) hHeld ?_ ?_
      rotate_left
      ·rintro w' ⟨s0, s1⟩
       go_simp
       with_reducible rfl
      rotate_left
      ·simp only [Act.put, qa, qb, qc, i64_w, i32_w]
       rfl
      refine pure_ (i := 3) (N := some 46) (v := ?_) (a' := ?_) #[ty,ty,ty,ty,fy,fy,fy,fy,fy,fy,fy,fy,fy,fy,fy,fy,fy,fy,fy,fy] rfl rfl (any_of HT_.out (by kernel_rfl)) (fun _ _ _ h => h) (Or.inl ⟨by rfl, ?_⟩) ?_ ?_
      rotate_left
      ·intro w'
       go_simp
       with_reducible rfl
      rotate_left
      ·simp only [Act.put, qa, qb, qc, i64_w, i32_w]
       rfl
      refine pure_ (i := 4) (N := some 47) (v := ?_) (a' := ?_) #[ty,ty,ty,ty,ty,fy,fy,fy,fy,fy,fy,fy,fy,fy,fy,fy,fy,fy,fy,fy] rfl rfl (any_of HT_.out (by kernel_rfl)) (fun _ _ _ h => h) (Or.inl ⟨by rfl, ?_⟩) ?_ ?_
      rotate_left
      ·intro w'
       go_simp
       with_reducible rfl
      rotate_left
      ·simp only [Act.put, qa, qb, qc, i64_w, i32_w]
       rfl
      refine pure_ (i := 5) (N := some 48) (v := ?_) (a' := ?_) #[ty,ty,ty,ty,ty,ty,fy,fy,fy,fy,fy,fy,fy,fy,fy,fy,fy,fy,fy,fy] rfl rfl (any_of HT_.out (by kernel_rfl)) (fun _ _ _ h => h) (Or.inl ⟨by rfl, ?_⟩) ?_ ?_
      rotate_left
      ·intro w'
       go_simp
       with_reducible rfl
      rotate_left
      ·simp only [Act.put, qa, qb, qc, i64_w, i32_w]
       rfl
      refine pure_ (i := 6) (N := some 49) (v := ?_) (a' := ?_) #[ty,ty,ty,ty,ty,ty,ty,fy,fy,fy,fy,fy,fy,fy,fy,fy,fy,fy,fy,fy] rfl rfl (any_of HT_.out (by kernel_rfl)) (fun _ _ _ h => h) (Or.inl ⟨by rfl, ?_⟩) ?_ ?_
      rotate_left
      ·intro w'
       go_simp
       with_reducible rfl
      rotate_left
      ·simp only [Act.put, qa, qb, qc, i64_w, i32_w]
       rfl
      refine pure_ (i := 7) (N := some 50) (v := ?_) (a' := ?_) #[ty,ty,ty,ty,ty,ty,ty,ty,fy,fy,fy,fy,fy,fy,fy,fy,fy,fy,fy,fy] rfl rfl (any_of HT_.out (by kernel_rfl)) (fun _ _ _ h => h) (Or.inl ⟨by rfl, ?_⟩) ?_ ?_
      rotate_left
      ·intro w'
       go_simp
       with_reducible rfl
      rotate_left
      ·simp only [Act.put, qa, qb, qc, i64_w, i32_w]
       rfl
      refine pure_ (i := 8) (N := some 51) (v := ?_) (a' := ?_) #[ty,ty,ty,ty,ty,ty,ty,ty,ty,fy,fy,fy,fy,fy,fy,fy,fy,fy,fy,fy] rfl rfl (any_of HT_.out (by kernel_rfl)) (fun _ _ _ h => h) (Or.inl ⟨by rfl, ?_⟩) ?_ ?_
      rotate_left
      ·intro w'
       go_simp
       with_reducible rfl
      rotate_left
      ·simp only [Act.put, qa, qb, qc, i64_w, i32_w]
       rfl
      refine pure_ (i := 9) (N := some 52) (v := ?_) (a' := ?_) #[ty,ty,ty,ty,ty,ty,ty,ty,ty,ty,fy,fy,fy,fy,fy,fy,fy,fy,fy,fy] rfl rfl (any_of HT_.out (by kernel_rfl)) (fun _ _ _ h => h) (Or.inl ⟨by rfl, ?_⟩) ?_ ?_
      rotate_left
      ·intro w'
       go_simp
       with_reducible rfl
      rotate_left
      ·simp only [Act.put, qa, qb, qc, i64_w, i32_w]
       rfl
      refine pure_ (i := 10) (N := some 53) (v := ?_) (a' := ?_) #[ty,ty,ty,ty,ty,ty,ty,ty,ty,ty,ty,fy,fy,fy,fy,fy,fy,fy,fy,fy] rfl rfl (any_of HT_.out (by kernel_rfl)) (fun _ _ _ h => h) (Or.inl ⟨by rfl, ?_⟩) ?_ ?_
      rotate_left
      ·intro w'
       go_simp
       with_reducible rfl
      rotate_left
      ·simp only [Act.put, qa, qb, qc, i64_w, i32_w]
       rfl
      refine pure_ (i := 11) (N := some 54) (v := ?_) (a' := ?_) #[ty,ty,ty,ty,ty,ty,ty,ty,ty,ty,ty,ty,fy,fy,fy,fy,fy,fy,fy,fy] rfl rfl (any_of HT_.out (by kernel_rfl)) (fun _ _ _ h => h) (Or.inl ⟨by rfl, ?_⟩) ?_ ?_
      rotate_left
      ·intro w'
       go_simp
       with_reducible rfl
      rotate_left
      ·simp only [Act.put, qa, qb, qc, i64_w, i32_w]
       rfl
      refine pure_ (i := 12) (N := some 55) (v := ?_) (a' := ?_) #[ty,ty,ty,ty,ty,ty,ty,ty,ty,ty,ty,ty,ty,fy,fy,fy,fy,fy,fy,fy] rfl rfl (any_of HT_.out (by kernel_rfl)) (fun _ _ _ h => h) (Or.inl ⟨by rfl, ?_⟩) ?_ ?_
      rotate_left
      ·intro w'
       go_simp
       with_reducible rfl
      rotate_left
      ·simp only [Act.put, qa, qb, qc, i64_w, i32_w]
       rfl
      refine pure_ (i := 13) (N := some 56) (v := ?_) (a' := ?_) #[ty,ty,ty,ty,ty,ty,ty,ty,ty,ty,ty,ty,ty,ty,fy,fy,fy,fy,fy,fy] rfl rfl (any_of HT_.out (by kernel_rfl)) (fun _ _ _ h => h) (Or.inl ⟨by rfl, ?_⟩) ?_ ?_
      rotate_left
      ·intro w'
       go_simp
       with_reducible rfl
      rotate_left
      ·simp only [Act.put, qa, qb, qc, i64_w, i32_w]
       rfl
      refine pure_ (i := 15) (N := some 58) (v := ?_) (a' := ?_) #[ty,ty,ty,ty,ty,ty,ty,ty,ty,ty,ty,ty,ty,ty,fy,ty,fy,fy,fy,fy] rfl rfl (any_of HT_.out (by kernel_rfl)) (fun _ _ _ h => h) (Or.inl ⟨by rfl, ?_⟩) ?_ ?_
      rotate_left
      ·intro w'
       go_simp
       with_reducible rfl
      rotate_left
      ·simp only [Act.put, qa, qb, qc, i64_w, i32_w]
       rfl
      refine pure_ (i := 16) (N := some 59) (v := ?_) (a' := ?_) #[ty,ty,ty,ty,ty,ty,ty,ty,ty,ty,ty,ty,ty,ty,fy,ty,ty,fy,fy,fy] rfl rfl (any_of HT_.out (by kernel_rfl)) (fun _ _ _ h => h) (Or.inl ⟨by rfl, ?_⟩) ?_ ?_
      rotate_left
      ·intro w'
       go_simp
       with_reducible rfl
      rotate_left
      ·simp only [Act.put, qa, qb, qc, i64_w, i32_w]
       rfl
      refine take_ (i := 14) (N := some 57) (v := ?_) (a' := ?_) #[ty,ty,ty,ty,ty,ty,ty,ty,ty,ty,ty,ty,ty,ty,ty,ty,ty,fy,fy,fy] rfl rfl (take_ofW HT_.out HW_.out (by kernel_rfl)) (fun _ _ _ h => h) (Or.inl ⟨by rfl, ?_⟩) hHeld ?_ ?_
      rotate_left
      ·rintro w' ⟨s0, s1⟩
       go_simp
       with_reducible rfl
      rotate_left
      ·simp only [Act.put, qa, qb, qc, i64_w, i32_w]
       rfl
      refine one_ (i := 17) (N := some 60) #[ty,ty,ty,ty,ty,ty,ty,ty,ty,ty,ty,ty,ty,ty,ty,ty,ty,ty,fy,fy] rfl rfl (one_of HT_.out (by kernel_rfl)) (by decide) (fun K hK => ?_)
      refine goes_ Try.func29 (by kernel_rfl) rfl #[.int .i64 (x4_1.length : Int)] (by rfl) rfl rfl (by (try simp only [List.map_toArray, List.map_cons, List.map_nil]); first | done | rfl | (simp only [List.length_drop, List.length_take]; rfl)) ?_
      with_reducible refine (kotatsuref05_Kind.calls (x4_1.length : Int) t312 _ A84.out).mono ?_
      rintro e w' ⟨rfl, ⟨nd, rfl⟩⟩
      refine ⟨_, rfl, ?_⟩
      refine hK.out _ _ ⟨hHeld.1, hHeld.2⟩ (fun hHeld => ?_)
      clear hK K
      refine norm_ (a' := ?_) ?_ ?_
      rotate_left
      ·show Act.put _ (some 60) _ = _
       simp only [Act.put, qa, qb, qc, i64_w, i32_w]
       rfl
      refine pure_ (i := 18) (N := some 61) (v := ?_) (a' := ?_) #[ty,ty,ty,ty,ty,ty,ty,ty,ty,ty,ty,ty,ty,ty,ty,ty,ty,ty,ty,fy] rfl rfl (any_of HT_.out (by kernel_rfl)) (fun _ _ _ h => h) (Or.inl ⟨by rfl, ?_⟩) ?_ ?_
      rotate_left
      ·intro w'
       go_simp
       with_reducible rfl
      rotate_left
      ·simp only [Act.put, qa, qb, qc, i64_w, i32_w]
       rfl
      refine pure_ (i := 19) (N := some 62) (v := ?_) (a' := ?_) #[ty,ty,ty,ty,ty,ty,ty,ty,ty,ty,ty,ty,ty,ty,ty,ty,ty,ty,ty,ty] rfl rfl (any_of HT_.out (by kernel_rfl)) (fun _ _ _ h => h) (Or.inl ⟨by rfl, ?_⟩) ?_ ?_
      rotate_left
      ·intro w'
       go_simp
       with_reducible rfl
      rotate_left
      ·simp only [Act.put, qa, qb, qc, i64_w, i32_w]
       rfl
      refine done_ (done_of HT_.out (by kernel_rfl)) ?_
      try go_wp2
      go_ret2
      exact ⟨_, by first | rfl | (simp [errW_none, errW_some] <;> rfl) | (simp [*, errW_none, errW_some] <;> rfl), by first | exact Kd.S_nil _ _ _ _ _ | exact Kd.N_nil _ _ _ _ _ | exact Kd.V_nil _ _ _ _ _ | exact Kd.Q_nil _ _ _ _ _ | exact Kd.R_nil _ _ _ _ _, by repeat (first | (with_reducible first | exact HB.out | apply below_alloc | apply pw_below_drewN | apply below_drew1) | exact HB.out)⟩
     rw [if_pos c85] at H
     have c85b0 : ((rd x5_1 1) == t312) = true := beq_iff_eq.mpr c85
     have c85b1 : ((rd x5_1 1) != t312) = false := bne_eq_false_iff_eq.mpr c85
     clear c85
     obtain ⟨ji86, hji86⟩ : ∃ j_ : Int, (wrap64 (t309 + 2)) = j_ := ⟨_, rfl⟩
     replace H : (if 0 ≤ (ji86) then (if (ji86) ≤ (x5_1.length : Int) then ((kotatsuref02_Short.f kj10 (x5_1.take ((ji86) : Int).toNat)).bind fun t318 => (if (ji86) ≤ (wrap64 (t309 + 4)) then (if (wrap64 (t309 + 4)) ≤ (x5_1.length : Int) then ((kotatsuref02_Take.f kj10 ((x5_1.take ((wrap64 (t309 + 4)) : Int).toNat).drop ((ji86) : Int).toNat)).bind fun t324 => (if (IntKind.u64.wrap (t318)) = t324 then (if 2 ≤ (ji86) then ((kotatsuref01_Join.f kj10 (([((x5_1.take ((ji86) : Int).toNat).drop 2)] : List (List Int)))).bind fun t334 => (if x4_1.length < 4398046511104 then (if 0 ≤ (wrap64 (t309 + 4)) then (kotatsuref07_Read.l0 kj10 (x4_1 ++ [(⟨rd x5_1 1, t334⟩ : S56)]) (x5_1.drop ((wrap64 (t309 + 4)) : Int).toNat)) else (none)) else (none))) else (none)) else (some (([] : List (S56)), 3)))) else (none)) else (none))) else (none)) else (none)) = some (r1, r2) := by first | (rw [hji86] at H; exact H) | (simp only [hji86] at H ⊢; exact H)
     (try rw [hji86] at A76)
     (try rw [hji86] at A84)
     have hji86w : (IntKind.i64.wrap (t309 + 2)) = ji86 := (i64_w _).trans hji86
     by_cases c87 : 0 ≤ (ji86)
     rotate_left
     ·rw [if_neg c87] at H
      exact absurd H (by simp)
     rw [if_pos c87] at H
     have c87b0 := eq_true c87
     have c87b1 : decide (0 ≤ (ji86)) = true := decide_eq_true c87
     clear c87
     by_cases c88 : (ji86) ≤ (x5_1.length : Int)
     rotate_left
     ·rw [if_neg c88] at H
      exact absurd H (by simp)
     rw [if_pos c88] at H
     have c88b0 := eq_true c88
     have c88b1 : decide ((ji86) ≤ (x5_1.length : Int)) = true := decide_eq_true c88
     clear c88
     obtain ⟨y313, hy313⟩ : ∃ y_ : List Int, y_ = (x5_1.take ((ji86) : Int).toNat) := ⟨_, rfl⟩
     replace H : ((kotatsuref02_Short.f kj10 y313).bind fun t318 => (if (ji86) ≤ (wrap64 (t309 + 4)) then (if (wrap64 (t309 + 4)) ≤ (x5_1.length : Int) then ((kotatsuref02_Take.f kj10 ((x5_1.take ((wrap64 (t309 + 4)) : Int).toNat).drop ((ji86) : Int).toNat)).bind fun t324 => (if (IntKind.u64.wrap (t318)) = t324 then (if 2 ≤ (ji86) then ((kotatsuref01_Join.f kj10 (([((x5_1.take ((ji86) : Int).toNat).drop 2)] : List (List Int)))).bind fun t334 => (if x4_1.length < 4398046511104 then (if 0 ≤ (wrap64 (t309 + 4)) then (kotatsuref07_Read.l0 kj10 (x4_1 ++ [(⟨rd x5_1 1, t334⟩ : S56)]) (x5_1.drop ((wrap64 (t309 + 4)) : Int).toNat)) else (none)) else (none))) else (none)) else (some (([] : List (S56)), 3)))) else (none)) else (none))) = some (r1, r2) := by first | (rw [hy313]; with_reducible exact H) | (have H2_ := (Option.bind_some _ _).symm.trans H; rw [hy313]; with_reducible exact H2_) | (have H2_ := (Option.bind_some _ _).symm.trans H; with_reducible exact H2_) | with_reducible exact H | (rw [hy313]; exact H) | exact H
     have Ny313 := Aside0.mk hy313
     clear hy313
     replace H := Option.bind_eq_some_iff.mp H
     obtain ⟨t318, A890, H⟩ := H
     replace H : (if (ji86) ≤ (wrap64 (t309 + 4)) then (if (wrap64 (t309 + 4)) ≤ (x5_1.length : Int) then ((kotatsuref02_Take.f kj10 ((x5_1.take ((wrap64 (t309 + 4)) : Int).toNat).drop ((ji86) : Int).toNat)).bind fun t324 => (if (IntKind.u64.wrap (t318)) = t324 then (if 2 ≤ (ji86) then ((kotatsuref01_Join.f kj10 (([((x5_1.take ((ji86) : Int).toNat).drop 2)] : List (List Int)))).bind fun t334 => (if x4_1.length < 4398046511104 then (if 0 ≤ (wrap64 (t309 + 4)) then (kotatsuref07_Read.l0 kj10 (x4_1 ++ [(⟨rd x5_1 1, t334⟩ : S56)]) (x5_1.drop ((wrap64 (t309 + 4)) : Int).toNat)) else (none)) else (none))) else (none)) else (some (([] : List (S56)), 3)))) else (none)) else (none)) = some (r1, r2) := H
     have A89 := Aside0.mk A890
     clear A890
     have c90b0 := eq_true (of_decide_eq_true (by first | (with_reducible assumption) | assumption) : 0 ≤ (ji86))
     by_cases c91 : (ji86) ≤ (wrap64 (t309 + 4))
     rotate_left
     ·rw [if_neg c91] at H
      exact absurd H (by simp)
     rw [if_pos c91] at H
     have c91b0 := eq_true c91
     have c91b1 : decide ((ji86) ≤ (wrap64 (t309 + 4))) = true := decide_eq_true c91
     by_cases c92 : (wrap64 (t309 + 4)) ≤ (x5_1.length : Int)
     rotate_left
     ·rw [if_neg c92] at H
      exact absurd H (by simp)
     rw [if_pos c92] at H
     have c92b0 := eq_true c92
     have c92b1 : decide ((wrap64 (t309 + 4)) ≤ (x5_1.length : Int)) = true := decide_eq_true c92
     obtain ⟨y319, hy319⟩ : ∃ y_ : List Int, y_ = ((x5_1.take ((wrap64 (t309 + 4)) : Int).toNat).drop ((ji86) : Int).toNat) := ⟨_, rfl⟩
     replace H : ((kotatsuref02_Take.f kj10 y319).bind fun t324 => (if (IntKind.u64.wrap (t318)) = t324 then (if 2 ≤ (ji86) then ((kotatsuref01_Join.f kj10 (([((x5_1.take ((ji86) : Int).toNat).drop 2)] : List (List Int)))).bind fun t334 => (if x4_1.length < 4398046511104 then (if 0 ≤ (wrap64 (t309 + 4)) then (kotatsuref07_Read.l0 kj10 (x4_1 ++ [(⟨rd x5_1 1, t334⟩ : S56)]) (x5_1.drop ((wrap64 (t309 + 4)) : Int).toNat)) else (none)) else (none))) else (none)) else (some (([] : List (S56)), 3)))) = some (r1, r2) := by first | (rw [hy319]; with_reducible exact H) | (have H2_ := (Option.bind_some _ _).symm.trans H; rw [hy319]; with_reducible exact H2_) | (have H2_ := (Option.bind_some _ _).symm.trans H; with_reducible exact H2_) | with_reducible exact H | (rw [hy319]; exact H) | exact H
     have Ny319 := Aside0.mk hy319
     clear hy319
     replace H := Option.bind_eq_some_iff.mp H
     obtain ⟨t324, A930, H⟩ := H
     replace H : (if (IntKind.u64.wrap (t318)) = t324 then (if 2 ≤ (ji86) then ((kotatsuref01_Join.f kj10 (([((x5_1.take ((ji86) : Int).toNat).drop 2)] : List (List Int)))).bind fun t334 => (if x4_1.length < 4398046511104 then (if 0 ≤ (wrap64 (t309 + 4)) then (kotatsuref07_Read.l0 kj10 (x4_1 ++ [(⟨rd x5_1 1, t334⟩ : S56)]) (x5_1.drop ((wrap64 (t309 + 4)) : Int).toNat)) else (none)) else (none))) else (none)) else (some (([] : List (S56)), 3))) = some (r1, r2) := H
     have A93 := Aside0.mk A930
     clear A930
     by_cases c94 : (IntKind.u64.wrap (t318)) = t324
     rotate_left
     ·rw [if_neg c94] at H
      have c94b0 : ((IntKind.u64.wrap (t318)) == t324) = false := beq_eq_false_iff_ne.mpr c94
      have c94b1 : ((IntKind.u64.wrap (t318)) != t324) = true := bne_iff_ne.mpr c94
      simp only [Option.some.injEq, Prod.mk.injEq] at H
      obtain ⟨rfl, rfl⟩ := H
      obtain ⟨Ao118, co118, eo118⟩ := Kd.N_slice HO_4.out
      subst eo118
      try go_wp2_with (first | ((with_reducible refine gate_callee (f := 28) rfl ?_); refine goesL_ (some 42) rfl rfl Try.func28 (by kernel_rfl) rfl #[.int .i64 (x4_1.length : Int), .slice none 0 0] rfl (by (try simp only [List.map_toArray, List.map_cons, List.map_nil]); first | done | rfl | (simp only [List.length_drop, List.length_take]; rfl)) ?_; (refine (kotatsuref05_Bytes.calls (x4_1.length : Int) _ _ ([] : List Int) t309 _ ?side1 ?side2 A76.out).mono ?_); (case side1 => exact Kd.C_nil _ _); (case side2 => exact Nat.le_refl _); rintro e w' ⟨rfl, ⟨nd, rfl⟩⟩; refine ⟨_, rfl, ?_⟩))
      (try (rw [drewN_self wc]; generalize hq_ : World.drewN wc _ = wc; have n0_ : Aside0 (Kd.N k56 56 wc w.heap.size (fun k_ => (P0_ k_ ∨ w.heap.size ≤ k_)) (.slice Ao118 x4_1.length co118) x4_1) := ⟨by rw [← hq_]; exact (by (with_reducible repeat (first | apply Kd.N_alloc | apply Kd.N_drewN | apply Kd.N_drew)); exact HO_4.out)⟩; have n1_ : Aside0 (Kd.V (Kd.int .u8) 5 wc w.heap.size (fun k_ => (P0_ k_ ∨ w.heap.size ≤ k_) ∧ some k_ ≠ (.slice Ao118 x4_1.length co118 : Value).ownBlock) u5 x5_1) := ⟨by rw [← hq_]; exact (by (with_reducible repeat (first | apply Kd.V_alloc | apply Kd.V_drewN | apply Kd.V_drew)); exact HO_5.out)⟩; have n2_ : Aside0 (Below w.heap.size w wc) := ⟨by rw [← hq_]; exact (by repeat (first | (with_reducible first | exact HB.out | apply below_alloc | apply pw_below_drewN | apply below_drew1) | exact HB.out))⟩; clear HO_4 HO_5 HB hq_; have HO_4 := n0_; have HO_5 := n1_; have HB := n2_; clear n0_ n1_ n2_))
      have n0_ := Aside0.mk (Kd.N_drew HO_4.out)
      have n1_ := Aside0.mk (Kd.V_drew HO_5.out)
      have n2_ := Aside0.mk (below_drew1 HB.out)
      clear HO_4
      clear HO_5
      clear HB
      have HO_4 := n0_
      have HO_5 := n1_
      have HB := n2_
      clear n0_ n1_ n2_
      obtain ⟨Ao120, co120, eo120⟩ := Kd.V_slice HO_5.out
      (first | subst eo120 | (injection eo120 with f1_ f2_ f3_; have f4_ := f1_.symm; have f5_ := f3_.symm; clear f1_ f2_ f3_; subst f4_; subst f5_))
      have p310 : 0 ≤ (0 : Int) := (by omega)
      have q310 : 0 < (x5_1.length : Int) := of_decide_eq_true (by first | (with_reducible assumption) | assumption)
      obtain ⟨ad310, e310, hx310_0⟩ := Kd.at_int (Kd.V_reads' HO_5.out).2.2 0 p310 q310
      cases e310
      have qi310 : (0 < x5_1.length) = True := eq_true (by omega)
      (try rw [show ((0 : Int)).toNat = 0 from rfl] at hx310_0)
      (try rw [Addr.add_zero'] at hx310_0)
      replace p310 := eq_true p310
      replace q310 := eq_true q310
      have p311 : 0 ≤ (1 : Int) := (by omega)
      have q311 : 1 < (x5_1.length : Int) := of_decide_eq_true (by first | (with_reducible assumption) | assumption)
      obtain ⟨ad311, e311, hx311_0⟩ := Kd.at_int (Kd.V_reads' HO_5.out).2.2 1 p311 q311
      obtain rfl : ad310 = ad311 := (by injection e311)
      (try simp only [show (1 : Int).toNat = 1 from rfl, Nat.reduceMul, Nat.reduceEqDiff, Go.Addr.add, ↓reduceIte] at hx311_0)
      have qi311 : (1 < x5_1.length) = True := eq_true (by omega)
      (try rw [show ((1 : Int)).toNat = 1 from rfl] at hx311_0)
      replace p311 := eq_true p311
      replace q311 := eq_true q311
      refine start_ (n := 20) (S := fun w' => w'.cell? ad310 = some (.int .u8 (rd x5_1 0)) ∧ w'.cell? ⟨ad310.block, ad310.off + 1, none⟩ = some (.int .u8 (rd x5_1 1))) (ds := []) #[fy,fy,fy,fy,fy,fy,fy,fy,fy,fy,fy,fy,fy,fy,fy,fy,fy,fy,fy,fy] (by kernel_rfl) rfl rfl ⟨hx310_0, hx311_0⟩ (fun hHeld => ?_); refine with_tabW kotatsuref07_Read.tab11 kotatsuref07_Read.bits11 (fun HT_ HW_ => ?_)
      generalize wc.drew = w119 at HO_4 HO_5 HB hx310_0 hx311_0 hHeld ⊢
      refine pure_ (i := 0) (N := some 43) (v := ?_) (a' := ?_) #[ty,fy,fy,fy,fy,fy,fy,fy,fy,fy,fy,fy,fy,fy,fy,fy,fy,fy,fy,fy] rfl rfl (any_of HT_.out (by kernel_rfl)) (fun _ _ _ h => h) (Or.inl ⟨by rfl, ?_⟩) ?_ ?_
      rotate_left
      ·intro w'
       go_simp
       with_reducible rfl
      rotate_left
      ·simp only [Act.put, qa, qb, qc, i64_w, i32_w]
       rfl
      refine pure_ (i := 1) (N := some 44) (v := ?_) (a' := ?_) #[ty,ty,fy,fy,fy,fy,fy,fy,fy,fy,fy,fy,fy,fy,fy,fy,fy,fy,fy,fy] rfl rfl (any_of HT_.out (by kernel_rfl)) (fun _ _ _ h => h) (Or.inl ⟨by rfl, ?_⟩) ?_ ?_
      rotate_left
      ·intro w'
       go_simp
       with_reducible rfl
      rotate_left
      ·simp only [Act.put, qa, qb, qc, i64_w, i32_w]
       rfl
      refine take_ (i := 2) (N := some 45) (v := ?_) (a' := ?_) #[ty,ty,ty,fy,fy,fy,fy,fy,fy,fy,fy,fy,fy,fy,fy,fy,fy,fy,fy,fy] rfl rfl (take_ofW HT_.out HW_.out (by kernel_rfl)) (fun _ _ _ h => h) (Or.inl ⟨by rfl, ?_⟩) hHeld ?_ ?_
      rotate_left
      ·rintro w' ⟨s0, s1⟩
       go_simp
       with_reducible rfl
      rotate_left
      ·simp only [Act.put, qa, qb, qc, i64_w, i32_w]
       rfl
      refine pure_ (i := 3) (N := some 46) (v := ?_) (a' := ?_) #[ty,ty,ty,ty,fy,fy,fy,fy,fy,fy,fy,fy,fy,fy,fy,fy,fy,fy,fy,fy] rfl rfl (any_of HT_.out (by kernel_rfl)) (fun _ _ _ h => h) (Or.inl ⟨by rfl, ?_⟩) ?_ ?_
      rotate_left
      ·intro w'
       go_simp
       with_reducible rfl
      rotate_left
      ·simp only [Act.put, qa, qb, qc, i64_w, i32_w]
       rfl
      refine pure_ (i := 4) (N := some 47) (v := ?_) (a' := ?_) #[ty,ty,ty,ty,ty,fy,fy,fy,fy,fy,fy,fy,fy,fy,fy,fy,fy,fy,fy,fy] rfl rfl (any_of HT_.out (by kernel_rfl)) (fun _ _ _ h => h) (Or.inl ⟨by rfl, ?_⟩) ?_ ?_
      rotate_left
      ·intro w'
       go_simp
       with_reducible rfl
      rotate_left
      ·simp only [Act.put, qa, qb, qc, i64_w, i32_w]
       rfl
      refine pure_ (i := 5) (N := some 48) (v := ?_) (a' := ?_) #[ty,ty,ty,ty,ty,ty,fy,fy,fy,fy,fy,fy,fy,fy,fy,fy,fy,fy,fy,fy] rfl rfl (any_of HT_.out (by kernel_rfl)) (fun _ _ _ h => h) (Or.inl ⟨by rfl, ?_⟩) ?_ ?_
      rotate_left
      ·intro w'
       go_simp
       with_reducible rfl
      rotate_left
      ·simp only [Act.put, qa, qb, qc, i64_w, i32_w]
       rfl
      refine pure_ (i := 6) (N := some 49) (v := ?_) (a' := ?_) #[ty,ty,ty,ty,ty,ty,ty,fy,fy,fy,fy,fy,fy,fy,fy,fy,fy,fy,fy,fy] rfl rfl (any_of HT_.out (by kernel_rfl)) (fun _ _ _ h => h) (Or.inl ⟨by rfl, ?_⟩) ?_ ?_
      rotate_left
      ·intro w'
       go_simp
       with_reducible rfl
      rotate_left
      ·simp only [Act.put, qa, qb, qc, i64_w, i32_w]
       rfl
      refine pure_ (i := 7) (N := some 50) (v := ?_) (a' := ?_) #[ty,ty,ty,ty,ty,ty,ty,ty,fy,fy,fy,fy,fy,fy,fy,fy,fy,fy,fy,fy] rfl rfl (any_of HT_.out (by kernel_rfl)) (fun _ _ _ h => h) (Or.inl ⟨by rfl, ?_⟩) ?_ ?_
      rotate_left
      ·intro w'
       go_simp
       with_reducible rfl
      rotate_left
      ·simp only [Act.put, qa, qb, qc, i64_w, i32_w]
       rfl
      refine pure_ (i := 8) (N := some 51) (v := ?_) (a' := ?_) #[ty,ty,ty,ty,ty,ty,ty,ty,ty,fy,fy,fy,fy,fy,fy,fy,fy,fy,fy,fy] rfl rfl (any_of HT_.out (by kernel_rfl)) (fun _ _ _ h => h) (Or.inl ⟨by rfl, ?_⟩) ?_ ?_
      rotate_left
      ·intro w'
       go_simp
       with_reducible rfl
      rotate_left
      ·simp only [Act.put, qa, qb, qc, i64_w, i32_w]
       rfl
      refine pure_ (i := 9) (N := some 52) (v := ?_) (a' := ?_) #[ty,ty,ty,ty,ty,ty,ty,ty,ty,ty,fy,fy,fy,fy,fy,fy,fy,fy,fy,fy] rfl rfl (any_of HT_.out (by kernel_rfl)) (fun _ _ _ h => h) (Or.inl ⟨by rfl, ?_⟩) ?_ ?_
      rotate_left
      ·intro w'
       go_simp
       with_reducible rfl
      rotate_left
      ·simp only [Act.put, qa, qb, qc, i64_w, i32_w]
       rfl
      refine pure_ (i := 10) (N := some 53) (v := ?_) (a' := ?_) #[ty,ty,ty,ty,ty,ty,ty,ty,ty,ty,ty,fy,fy,fy,fy,fy,fy,fy,fy,fy] rfl rfl (any_of HT_.out (by kernel_rfl)) (fun _ _ _ h => h) (Or.inl ⟨by rfl, ?_⟩) ?_ ?_
      rotate_left
      ·intro w'
       go_simp
       with_reducible rfl
      rotate_left
      ·simp only [Act.put, qa, qb, qc, i64_w, i32_w]
       rfl
      refine pure_ (i := 11) (N := some 54) (v := ?_) (a' := ?_) #[ty,ty,ty,ty,ty,ty,ty,ty,ty,ty,ty,ty,fy,fy,fy,fy,fy,fy,fy,fy] rfl rfl (any_of HT_.out (by kernel_rfl)) (fun _ _ _ h => h) (Or.inl ⟨by rfl, ?_⟩) ?_ ?_
      rotate_left
      ·intro w'
       go_simp
       with_reducible rfl
      rotate_left
      ·simp only [Act.put, qa, qb, qc, i64_w, i32_w]
       rfl
      refine pure_ (i := 12) (N := some 55) (v := ?_) (a' := ?_) #[ty,ty,ty,ty,ty,ty,ty,ty,ty,ty,ty,ty,ty,fy,fy,fy,fy,fy,fy,fy] rfl rfl (any_of HT_.out (by kernel_rfl)) (fun _ _ _ h => h) (Or.inl ⟨by rfl, ?_⟩) ?_ ?_
      rotate_left
      ·intro w'
       go_simp
       with_reducible rfl
      rotate_left
      ·simp only [Act.put, qa, qb, qc, i64_w, i32_w]
       rfl
      refine pure_ (i := 13) (N := some 56) (v := ?_) (a' := ?_) #[ty,ty,ty,ty,ty,ty,ty,ty,ty,ty,ty,ty,ty,ty,fy,fy,fy,fy,fy,fy] rfl rfl (any_of HT_.out (by kernel_rfl)) (fun _ _ _ h => h) (Or.inl ⟨by rfl, ?_⟩) ?_ ?_
      rotate_left
      ·intro w'
       go_simp
       with_reducible rfl
      rotate_left
      ·simp only [Act.put, qa, qb, qc, i64_w, i32_w]
       rfl
      refine pure_ (i := 15) (N := some 58) (v := ?_) (a' := ?_) #[ty,ty,ty,ty,ty,ty,ty,ty,ty,ty,ty,ty,ty,ty,fy,ty,fy,fy,fy,fy] rfl rfl (any_of HT_.out (by kernel_rfl)) (fun _ _ _ h => h) (Or.inl ⟨by rfl, ?_⟩) ?_ ?_
      rotate_left
      ·intro w'
       go_simp
       with_reducible rfl
      rotate_left
      ·simp only [Act.put, qa, qb, qc, i64_w, i32_w]
       rfl
      refine pure_ (i := 16) (N := some 59) (v := ?_) (a' := ?_) #[ty,ty,ty,ty,ty,ty,ty,ty,ty,ty,ty,ty,ty,ty,fy,ty,ty,fy,fy,fy] rfl rfl (any_of HT_.out (by kernel_rfl)) (fun _ _ _ h => h) (Or.inl ⟨by rfl, ?_⟩) ?_ ?_
      rotate_left
      ·intro w'
       go_simp
       with_reducible rfl
      rotate_left
      ·simp only [Act.put, qa, qb, qc, i64_w, i32_w]
       rfl
      refine take_ (i := 14) (N := some 57) (v := ?_) (a' := ?_) #[ty,ty,ty,ty,ty,ty,ty,ty,ty,ty,ty,ty,ty,ty,ty,ty,ty,fy,fy,fy] rfl rfl (take_ofW HT_.out HW_.out (by kernel_rfl)) (fun _ _ _ h => h) (Or.inl ⟨by rfl, ?_⟩) hHeld ?_ ?_
      rotate_left
      ·rintro w' ⟨s0, s1⟩
       go_simp
       with_reducible rfl
      rotate_left
      ·simp only [Act.put, qa, qb, qc, i64_w, i32_w]
       rfl
      refine one_ (i := 17) (N := some 60) #[ty,ty,ty,ty,ty,ty,ty,ty,ty,ty,ty,ty,ty,ty,ty,ty,ty,ty,fy,fy] rfl rfl (one_of HT_.out (by kernel_rfl)) (by decide) (fun K hK => ?_)
      refine goes_ Try.func29 (by kernel_rfl) rfl #[.int .i64 (x4_1.length : Int)] (by rfl) rfl rfl (by (try simp only [List.map_toArray, List.map_cons, List.map_nil]); first | done | rfl | (simp only [List.length_drop, List.length_take]; rfl)) ?_
      with_reducible refine (kotatsuref05_Kind.calls (x4_1.length : Int) t312 _ A84.out).mono ?_
      rintro e w' ⟨rfl, ⟨nd, rfl⟩⟩
      refine ⟨_, rfl, ?_⟩
      refine hK.out _ _ ⟨hHeld.1, hHeld.2⟩ (fun hHeld => ?_)
      clear hK K
      refine norm_ (a' := ?_) ?_ ?_
      rotate_left
      ·show Act.put _ (some 60) _ = _
       simp only [Act.put, qa, qb, qc, i64_w, i32_w]
       rfl
      refine pure_ (i := 18) (N := some 61) (v := ?_) (a' := ?_) #[ty,ty,ty,ty,ty,ty,ty,ty,ty,ty,ty,ty,ty,ty,ty,ty,ty,ty,ty,fy] rfl rfl (any_of HT_.out (by kernel_rfl)) (fun _ _ _ h => h) (Or.inl ⟨by rfl, ?_⟩) ?_ ?_
      rotate_left
      ·intro w'
       go_simp
       with_reducible rfl
      rotate_left
      ·simp only [Act.put, qa, qb, qc, i64_w, i32_w]
       rfl
      refine pure_ (i := 19) (N := some 62) (v := ?_) (a' := ?_) #[ty,ty,ty,ty,ty,ty,ty,ty,ty,ty,ty,ty,ty,ty,ty,ty,ty,ty,ty,ty] rfl rfl (any_of HT_.out (by kernel_rfl)) (fun _ _ _ h => h) (Or.inl ⟨by rfl, ?_⟩) ?_ ?_
      rotate_left
      ·intro w'
       go_simp
       with_reducible rfl
      rotate_left
      ·simp only [Act.put, qa, qb, qc, i64_w, i32_w]
       rfl
      refine done_ (done_of HT_.out (by kernel_rfl)) ?_
      try go_wp2
      (try (rw [drewN_self w119]; generalize hq_ : World.drewN w119 _ = w119; have n0_ : Aside0 (Kd.N k56 56 w119 w.heap.size (fun k_ => (P0_ k_ ∨ w.heap.size ≤ k_)) (.slice Ao118 x4_1.length co118) x4_1) := ⟨by rw [← hq_]; exact (by (with_reducible repeat (first | apply Kd.N_alloc | apply Kd.N_drewN | apply Kd.N_drew)); exact HO_4.out)⟩; have n1_ : Aside0 (Kd.V (Kd.int .u8) 5 w119 w.heap.size (fun k_ => (P0_ k_ ∨ w.heap.size ≤ k_) ∧ some k_ ≠ (.slice Ao118 x4_1.length co118 : Value).ownBlock) (.slice (some ad310) x5_1.length co120) x5_1) := ⟨by rw [← hq_]; exact (by (with_reducible repeat (first | apply Kd.V_alloc | apply Kd.V_drewN | apply Kd.V_drew)); exact HO_5.out)⟩; have n2_ : Aside0 (Below w.heap.size w w119) := ⟨by rw [← hq_]; exact (by repeat (first | (with_reducible first | exact HB.out | apply below_alloc | apply pw_below_drewN | apply below_drew1) | exact HB.out))⟩; clear HO_4 HO_5 HB hq_; have HO_4 := n0_; have HO_5 := n1_; have HB := n2_; clear n0_ n1_ n2_))
      have n0_ := Aside0.mk (Kd.N_drew HO_4.out)
      have n1_ := Aside0.mk (Kd.V_drew HO_5.out)
      have n2_ := Aside0.mk (below_drew1 HB.out)
      clear HO_4
      clear HO_5
      clear HB
      have HO_4 := n0_
      have HO_5 := n1_
      have HB := n2_
      clear n0_ n1_ n2_
      have q122 : ((ji86) : Int) ≤ ((x5_1.length : Int) : Int) := of_decide_eq_true (by first | (with_reducible assumption) | assumption)
      obtain ⟨i0122, hi0122, _, hsz122, _⟩ := info_parts info5
      have hroom122 : x5_1.length ≤ co120 := (Kd.V_reads' HO_5.out).2.1
      have hC122 : Kd.F (Kd.int .u8) _ _ (some ad310) x5_1.length x5_1 := (Kd.V_at (base := w.heap.size) HO_5.out).2.2
      have hcut122 := cut_to (P := Try.prog) 22 5 .i64 Try.underlying22 hi0122 (some ad310) x5_1.length co120 (ji86) (of_decide_eq_true (by first | (with_reducible assumption) | assumption)) q122 hroom122
      have hr122 := Kd.F_take (m := ((ji86) : Int).toNat) hC122 (by omega)
      have hy122 : y313.length = ((ji86) : Int).toNat := (by rw [Ny313.out, List.length_take]; omega)
      rw [← Ny313.out] at hr122
      rw [← hy122] at hcut122
      have HO317 := Aside0.mk (show Kd.V (Kd.int .u8) 5 _ w.heap.size _ (.slice (some ad310) y313.length co120) y313 from Kd.V_mk (by omega) hr122)
      have HC317 := Aside0.mk (show y313.length ≤ co120 from by omega)
      clear hr122 hC122 hroom122 hi0122 hsz122
      have KY122 := Aside0.mk hy122
      clear hy122
      replace q122 := eq_true q122
      have q123 : ((wrap64 (t309 + 4)) : Int) ≤ ((x5_1.length : Int) : Int) := of_decide_eq_true (by first | (with_reducible assumption) | assumption)
      obtain ⟨i0123, hi0123, _, hsz123, _⟩ := info_parts info5
      have hroom123 : x5_1.length ≤ co120 := (Kd.V_reads' HO_5.out).2.1
      have hC123 : Kd.F (Kd.int .u8) _ _ (some ad310) x5_1.length x5_1 := (Kd.V_at (base := w.heap.size) HO_5.out).2.2
      have ql123 : ((ji86) : Int) ≤ ((wrap64 (t309 + 4)) : Int) := of_decide_eq_true (by first | (with_reducible assumption) | assumption)
      have q0123 : (0 : Int) ≤ ((ji86) : Int) := of_decide_eq_true (by first | (with_reducible assumption) | assumption)
      have hcut123 := cut_mid (P := Try.prog) 22 5 .i64 .i64 Try.underlying22 hi0123 1 hsz123 (some ad310) x5_1.length co120 (ji86) (wrap64 (t309 + 4)) q0123 ql123 q123 hroom123
      have hr123 := Kd.F_mid (lo := ((ji86) : Int).toNat) (hi := ((wrap64 (t309 + 4)) : Int).toNat) (c := co120) hC123 (by omega) (by omega) hroom123
      obtain ⟨A123, hA123⟩ : ∃ A1, A1 = (if co120 = ((ji86) : Int).toNat then (some ad310) else ((some ad310) : Option Addr).map (·.add (((ji86) : Int).toNat * 1))) := ⟨_, rfl⟩
      obtain ⟨c123, hc123⟩ : ∃ c1, c1 = co120 - ((ji86) : Int).toNat := ⟨_, rfl⟩
      have hy123 : y319.length = ((wrap64 (t309 + 4)) : Int).toNat - ((ji86) : Int).toNat := (by rw [Ny319.out, List.length_drop, List.length_take] <;> omega)
      rw [show ((x5_1).take ((wrap64 (t309 + 4)) : Int).toNat).drop ((ji86) : Int).toNat = y319 from Ny319.out.symm] at hr123
      replace hr123 : Kd.F (Kd.int .u8) _ _ A123 y319.length y319 := (by rw [hA123]; exact hr123)
      rw [← hy123, ← hA123, ← hc123] at hcut123
      have HO323 := Aside0.mk (show Kd.V (Kd.int .u8) 5 _ w.heap.size _ (.slice A123 y319.length c123) y319 from Kd.V_mk (by rw [hy123, hc123]; exact Nat.sub_le_sub_right (Nat.le_trans (by omega) hroom123) _) hr123)
      have HC323 := Aside0.mk (show y319.length ≤ c123 from by rw [hy123, hc123]; exact Nat.sub_le_sub_right (Nat.le_trans (by omega) hroom123) _)
      clear hr123 hC123 hroom123 hi0123 hsz123 hc123
      have KY123 := Aside0.mk hy123
      have KA123 := Aside0.mk hA123
      clear hy123 hA123
      replace q123 := eq_true q123
      refine start_ (n := 14) (S := fun w' => True) (ds := []) #[fy,fy,fy,fy,fy,fy,fy,fy,fy,fy,fy,fy,fy,fy] (by kernel_rfl) rfl rfl trivial (fun hHeld => ?_); refine with_tabW kotatsuref07_Read.tab13 kotatsuref07_Read.bits13 (fun HT_ HW_ => ?_)
      generalize w119.drew = w121 at HO_4 HO_5 HB HO317 HO323 hHeld ⊢
      refine pure_ (i := 0) (N := some 63) (v := ?_) (a' := ?_) #[ty,fy,fy,fy,fy,fy,fy,fy,fy,fy,fy,fy,fy,fy] rfl rfl (any_of HT_.out (by kernel_rfl)) (fun _ _ _ h => h) (Or.inl ⟨by rfl, ?_⟩) ?_ ?_
      rotate_left
      ·intro w'
       go_simp
       with_reducible rfl
      rotate_left
      ·simp only [Act.put, qa, qb, qc, i64_w, i32_w]
       rfl
      refine pure_ (i := 1) (N := some 64) (v := ?_) (a' := ?_) #[ty,ty,fy,fy,fy,fy,fy,fy,fy,fy,fy,fy,fy,fy] rfl rfl (any_of HT_.out (by kernel_rfl)) (fun _ _ _ h => h) (Or.inl ⟨by rfl, ?_⟩) ?_ ?_
      rotate_left
      ·intro w'
       go_simp
       with_reducible rfl
      rotate_left
      ·simp only [Act.put, qa, qb, qc, i64_w, i32_w]
       rfl
      refine pure_ (i := 2) (N := some 65) (v := ?_) (a' := ?_) #[ty,ty,ty,fy,fy,fy,fy,fy,fy,fy,fy,fy,fy,fy] rfl rfl (any_of HT_.out (by kernel_rfl)) (fun _ _ _ h => h) (Or.inl ⟨by rfl, ?_⟩) ?_ ?_
      rotate_left
      ·intro w'
       go_simp
       with_reducible rfl
      rotate_left
      ·simp only [Act.put, qa, qb, qc, i64_w, i32_w]
       rfl
      refine pure_ (i := 3) (N := some 66) (v := ?_) (a' := ?_) #[ty,ty,ty,ty,fy,fy,fy,fy,fy,fy,fy,fy,fy,fy] rfl rfl (any_of HT_.out (by kernel_rfl)) (fun _ _ _ h => h) (Or.inl ⟨by rfl, ?_⟩) ?_ ?_
      rotate_left
      ·intro w'
       go_simp
       with_reducible rfl
      rotate_left
      ·simp only [Act.put, qa, qb, qc, i64_w, i32_w]
       rfl
      refine pure_ (i := 6) (N := some 69) (v := ?_) (a' := ?_) #[ty,ty,ty,ty,fy,fy,ty,fy,fy,fy,fy,fy,fy,fy] rfl rfl (any_of HT_.out (by kernel_rfl)) (fun _ _ _ h => h) (Or.inl ⟨by rfl, ?_⟩) ?_ ?_
      rotate_left
      ·intro w'
       go_simp
       with_reducible rfl
      rotate_left
      ·simp only [Act.put, qa, qb, qc, i64_w, i32_w]
       rfl
      refine pure_ (i := 7) (N := some 70) (v := ?_) (a' := ?_) #[ty,ty,ty,ty,fy,fy,ty,ty,fy,fy,fy,fy,fy,fy] rfl rfl (any_of HT_.out (by kernel_rfl)) (fun _ _ _ h => h) (Or.inl ⟨by rfl, ?_⟩) ?_ ?_
      rotate_left
      ·intro w'
       go_simp
       with_reducible rfl
      rotate_left
      ·simp only [Act.put, qa, qb, qc, i64_w, i32_w]
       rfl
      refine pure_ (i := 8) (N := some 71) (v := ?_) (a' := ?_) #[ty,ty,ty,ty,fy,fy,ty,ty,ty,fy,fy,fy,fy,fy] rfl rfl (any_of HT_.out (by kernel_rfl)) (fun _ _ _ h => h) (Or.inl ⟨by rfl, ?_⟩) ?_ ?_
      rotate_left
      ·intro w'
       go_simp
       with_reducible rfl
      rotate_left
      ·simp only [Act.put, qa, qb, qc, i64_w, i32_w]
       rfl
      refine pure_ (i := 9) (N := some 72) (v := ?_) (a' := ?_) #[ty,ty,ty,ty,fy,fy,ty,ty,ty,ty,fy,fy,fy,fy] rfl rfl (any_of HT_.out (by kernel_rfl)) (fun _ _ _ h => h) (Or.inl ⟨by rfl, ?_⟩) ?_ ?_
      rotate_left
      ·intro w'
       go_simp
       with_reducible rfl
      rotate_left
      ·simp only [Act.put, qa, qb, qc, i64_w, i32_w]
       rfl
      refine pure_ (i := 10) (N := some 73) (v := ?_) (a' := ?_) #[ty,ty,ty,ty,fy,fy,ty,ty,ty,ty,ty,fy,fy,fy] rfl rfl (any_of HT_.out (by kernel_rfl)) (fun _ _ _ h => h) (Or.inl ⟨by rfl, ?_⟩) ?_ ?_
      rotate_left
      ·intro w'
       go_simp
       with_reducible rfl
      rotate_left
      ·simp only [Act.put, qa, qb, qc, i64_w, i32_w]
       rfl
      refine pure_ (i := 11) (N := some 74) (v := ?_) (a' := ?_) #[ty,ty,ty,ty,fy,fy,ty,ty,ty,ty,ty,ty,fy,fy] rfl rfl (any_of HT_.out (by kernel_rfl)) (fun _ _ _ h => h) (Or.inl ⟨by rfl, ?_⟩) ?_ ?_
      rotate_left
      ·intro w'
       go_simp
       with_reducible rfl
      rotate_left
      ·simp only [Act.put, qa, qb, qc, i64_w, i32_w]
       rfl
      refine one_ (i := 4) (N := some 67) #[ty,ty,ty,ty,ty,fy,ty,ty,ty,ty,ty,ty,fy,fy] rfl rfl (one_of HT_.out (by kernel_rfl)) (by decide) (fun K hK => ?_)
      refine goes_ Try.func26 (by kernel_rfl) rfl #[.slice (some ad310) y313.length co120] (by rfl) rfl rfl (by (try simp only [List.map_toArray, List.map_cons, List.map_nil]); first | done | rfl | (simp only [List.length_drop, List.length_take]; rfl)) ?_
      with_reducible refine (kotatsuref02_Short.calls kj10 (fun k_ => ((P0_ k_ ∨ w.heap.size ≤ k_) ∧ some k_ ≠ (.slice Ao118 x4_1.length co118 : Value).ownBlock)) _ _ y313 t318 _ ?side1 A89.out).mono ?_
      (case side1 => exact HO317.out)
      rintro e w124 ⟨rfl, hb⟩
      refine ⟨_, rfl, ?_⟩
      have n0_ := Aside0.mk (Kd.N_below (by (with_reducible repeat (first | apply Kd.N_alloc | apply Kd.N_drewN | apply Kd.N_drew)); exact HO_4.out) hb)
      have n1_ := Aside0.mk (Kd.V_below (by (with_reducible repeat (first | apply Kd.V_alloc | apply Kd.V_drewN | apply Kd.V_drew)); exact HO_5.out) hb)
      have n2_ := Aside0.mk (Kd.V_below (by (with_reducible repeat (first | apply Kd.V_alloc | apply Kd.V_drewN | apply Kd.V_drew)); exact HO317.out) hb)
      have n3_ := Aside0.mk (Kd.V_below (by (with_reducible repeat (first | apply Kd.V_alloc | apply Kd.V_drewN | apply Kd.V_drew)); exact HO323.out) hb)
      have n4_ := Aside0.mk (below_step (by repeat (first | (with_reducible first | exact HB.out | apply below_alloc | apply pw_below_drewN | apply below_drew1) | exact HB.out)) hb)
      clear HO_4
      clear HO_5
      clear HO317
      clear HO323
      clear HB
      have HO_4 := n0_
      have HO_5 := n1_
      have HO317 := n2_
      have HO323 := n3_
      have HB := n4_
      clear n0_ n1_ n2_ n3_ n4_
      (try clear hb)
      (try clear hb2)
      (try clear hk)
      (try clear hi)
      refine hK.out _ _ trivial (fun hHeld => ?_)
      clear hK K
      refine norm_ (a' := ?_) ?_ ?_
      rotate_left
      ·show Act.put _ (some 67) _ = _
       simp only [Act.put, qa, qb, qc, i64_w, i32_w]
       rfl
      refine pure_ (i := 5) (N := some 68) (v := ?_) (a' := ?_) #[ty,ty,ty,ty,ty,ty,ty,ty,ty,ty,ty,ty,fy,fy] rfl rfl (any_of HT_.out (by kernel_rfl)) (fun _ _ _ h => h) (Or.inl ⟨by rfl, ?_⟩) ?_ ?_
      rotate_left
      ·intro w'
       go_simp
       with_reducible rfl
      rotate_left
      ·simp only [Act.put, qa, qb, qc, i64_w, i32_w]
       rfl
      refine one_ (i := 12) (N := some 75) #[ty,ty,ty,ty,ty,ty,ty,ty,ty,ty,ty,ty,ty,fy] rfl rfl (one_of HT_.out (by kernel_rfl)) (by decide) (fun K hK => ?_)
      refine goes_ Try.func30 (by kernel_rfl) rfl #[.slice A123 y319.length c123] (by rfl) rfl rfl (by (try simp only [List.map_toArray, List.map_cons, List.map_nil]); first | done | rfl | (simp only [List.length_drop, List.length_take]; rfl)) ?_
      with_reducible refine (kotatsuref02_Take.calls kj10 _ _ y319 t324 _ ?side1 ?side2 A93.out).mono ?_
      (case side1 => repeat (first | exact (Kd.V_reads' HO323.out).2.2 | (with_reducible refine Kd.C_alloc ?_ _) | (with_reducible refine Kd.C_drewN ?_ _) | (with_reducible refine Kd.C_drew ?_)))
      (case side2 => exact (Kd.V_reads' HO323.out).2.1)
      rintro e w' ⟨rfl, ⟨nd, rfl⟩⟩
      refine ⟨_, rfl, ?_⟩
      refine hK.out _ _ trivial (fun hHeld => ?_)
      clear hK K
      refine norm_ (a' := ?_) ?_ ?_
      rotate_left
      ·show Act.put _ (some 75) _ = _
       simp only [Act.put, qa, qb, qc, i64_w, i32_w]
       rfl
      refine pure_ (i := 13) (N := some 76) (v := ?_) (a' := ?_) #[ty,ty,ty,ty,ty,ty,ty,ty,ty,ty,ty,ty,ty,ty] rfl rfl (any_of HT_.out (by kernel_rfl)) (fun _ _ _ h => h) (Or.inl ⟨by rfl, ?_⟩) ?_ ?_
      rotate_left
      ·intro w'
       go_simp
       with_reducible rfl
      rotate_left
      ·simp only [Act.put, qa, qb, qc, i64_w, i32_w]
       rfl
      refine done_ (done_of HT_.out (by kernel_rfl)) ?_
      try go_wp2
      go_ret2
      exact ⟨_, by first | rfl | (simp [errW_none, errW_some] <;> rfl) | (simp only [← hji86]; first | rfl | (simp [errW_none, errW_some] <;> rfl)) | (simp [*, errW_none, errW_some] <;> rfl), by first | exact Kd.S_nil _ _ _ _ _ | exact Kd.N_nil _ _ _ _ _ | exact Kd.V_nil _ _ _ _ _ | exact Kd.Q_nil _ _ _ _ _ | exact Kd.R_nil _ _ _ _ _, by repeat (first | (with_reducible first | exact HB.out | apply below_alloc | apply pw_below_drewN | apply below_drew1) | exact HB.out)⟩
     rw [if_pos c94] at H
     have c94b0 : ((IntKind.u64.wrap (t318)) == t324) = true := beq_iff_eq.mpr c94
     have c94b1 : ((IntKind.u64.wrap (t318)) != t324) = false := bne_eq_false_iff_eq.mpr c94
     clear c94
     by_cases c95 : 2 ≤ (ji86)
     rotate_left
     ·rw [if_neg c95] at H
      exact absurd H (by simp)
     rw [if_pos c95] at H
     have c95b0 := eq_true c95
     have c95b1 : decide (2 ≤ (ji86)) = true := decide_eq_true c95
     clear c95
     have c96b0 := eq_true (of_decide_eq_true (by first | (with_reducible assumption) | assumption) : (ji86) ≤ (x5_1.length : Int))
     obtain ⟨y326, hy326⟩ : ∃ y_ : List Int, y_ = ((x5_1.take ((ji86) : Int).toNat).drop 2) := ⟨_, rfl⟩
     replace H : ((kotatsuref01_Join.f kj10 (([y326] : List (List Int)))).bind fun t334 => (if x4_1.length < 4398046511104 then (if 0 ≤ (wrap64 (t309 + 4)) then (kotatsuref07_Read.l0 kj10 (x4_1 ++ [(⟨rd x5_1 1, t334⟩ : S56)]) (x5_1.drop ((wrap64 (t309 + 4)) : Int).toNat)) else (none)) else (none))) = some (r1, r2) := by first | (rw [hy326]; with_reducible exact H) | (have H2_ := (Option.bind_some _ _).symm.trans H; rw [hy326]; with_reducible exact H2_) | (have H2_ := (Option.bind_some _ _).symm.trans H; with_reducible exact H2_) | with_reducible exact H | (rw [hy326]; exact H) | exact H
     have Ny326 := Aside0.mk hy326
     clear hy326
     obtain ⟨y331, hy331⟩ : ∃ y_ : List (List Int), y_ = (([y326] : List (List Int))) := ⟨_, rfl⟩
     replace H : ((kotatsuref01_Join.f kj10 y331).bind fun t334 => (if x4_1.length < 4398046511104 then (if 0 ≤ (wrap64 (t309 + 4)) then (kotatsuref07_Read.l0 kj10 (x4_1 ++ [(⟨rd x5_1 1, t334⟩ : S56)]) (x5_1.drop ((wrap64 (t309 + 4)) : Int).toNat)) else (none)) else (none))) = some (r1, r2) := by first | (rw [hy331]; with_reducible exact H) | (have H2_ := (Option.bind_some _ _).symm.trans H; rw [hy331]; with_reducible exact H2_) | (have H2_ := (Option.bind_some _ _).symm.trans H; with_reducible exact H2_) | with_reducible exact H | (rw [hy331]; exact H) | exact H
     have Ny331 := Aside0.mk hy331
     clear hy331
     replace H := Option.bind_eq_some_iff.mp H
     obtain ⟨t334, A970, H⟩ := H
     replace H : (if x4_1.length < 4398046511104 then (if 0 ≤ (wrap64 (t309 + 4)) then (kotatsuref07_Read.l0 kj10 (x4_1 ++ [(⟨rd x5_1 1, t334⟩ : S56)]) (x5_1.drop ((wrap64 (t309 + 4)) : Int).toNat)) else (none)) else (none)) = some (r1, r2) := H
     have A97 := Aside0.mk A970
     clear A970
     by_cases c98 : x4_1.length < 4398046511104
     rotate_left
     ·rw [if_neg c98] at H
      exact absurd H (by simp)
     rw [if_pos c98] at H
     have LMc98 := Aside0.mk c98
     clear c98
     obtain ⟨y337, hy337⟩ : ∃ y_ : List (S56), y_ = (x4_1 ++ [(⟨rd x5_1 1, t334⟩ : S56)]) := ⟨_, rfl⟩
     replace H : (if 0 ≤ (wrap64 (t309 + 4)) then (kotatsuref07_Read.l0 kj10 y337 (x5_1.drop ((wrap64 (t309 + 4)) : Int).toNat)) else (none)) = some (r1, r2) := by first | (rw [hy337]; with_reducible exact H) | (have H2_ := (Option.bind_some _ _).symm.trans H; rw [hy337]; with_reducible exact H2_) | (have H2_ := (Option.bind_some _ _).symm.trans H; with_reducible exact H2_) | with_reducible exact H | (rw [hy337]; exact H) | exact H
     have Ny337 := Aside0.mk hy337
     clear hy337
     obtain ⟨ji99, hji99⟩ : ∃ j_ : Int, (wrap64 (t309 + 4)) = j_ := ⟨_, rfl⟩
     replace H : (if 0 ≤ (ji99) then (kotatsuref07_Read.l0 kj10 y337 (x5_1.drop ((ji99) : Int).toNat)) else (none)) = some (r1, r2) := by first | (rw [hji99] at H; exact H) | (simp only [hji99] at H ⊢; exact H)
     (try rw [hji99] at c79b0)
     (try rw [hji99] at c91b0)
     (try rw [hji99] at c91b1)
     (try rw [hji99] at c91)
     (try rw [hji99] at c92b0)
     (try rw [hji99] at c92b1)
     (try rw [hji99] at c92)
     (try rw [hji99] at A76)
     (try rw [hji99] at A84)
     (try rw [hji99] at A89)
     (try rw [hji99] at Ny319)
     (try rw [hji99] at A93)
     (try rw [hji99] at A97)
     have hji99w : (IntKind.i64.wrap (t309 + 4)) = ji99 := (i64_w _).trans hji99
     by_cases c100 : 0 ≤ (ji99)
     rotate_left
     ·rw [if_neg c100] at H
      exact absurd H (by simp)
     rw [if_pos c100] at H
     have c100b0 := eq_true c100
     have c100b1 : decide (0 ≤ (ji99)) = true := decide_eq_true c100
     clear c100
     have c101b0 := eq_true (of_decide_eq_true (by first | (with_reducible assumption) | assumption) : (ji99) ≤ (x5_1.length : Int))
     obtain ⟨y340, hy340⟩ : ∃ y_ : List Int, y_ = (x5_1.drop ((ji99) : Int).toNat) := ⟨_, rfl⟩
     replace H : (kotatsuref07_Read.l0 kj10 y337 y340) = some (r1, r2) := by first | (rw [hy340]; with_reducible exact H) | (have H2_ := (Option.bind_some _ _).symm.trans H; rw [hy340]; with_reducible exact H2_) | (have H2_ := (Option.bind_some _ _).symm.trans H; with_reducible exact H2_) | with_reducible exact H | (rw [hy340]; exact H) | exact H
     have Ny340 := Aside0.mk hy340
     clear hy340
     have H' := Aside0.mk H
     clear H
     obtain ⟨Ao102, co102, eo102⟩ := Kd.N_slice HO_4.out
     subst eo102
     try go_wp2_with (first | ((with_reducible refine gate_callee (f := 28) rfl ?_); refine goesL_ (some 42) rfl rfl Try.func28 (by kernel_rfl) rfl #[.int .i64 (x4_1.length : Int), .slice none 0 0] rfl (by (try simp only [List.map_toArray, List.map_cons, List.map_nil]); first | done | rfl | (simp only [List.length_drop, List.length_take]; rfl)) ?_; (refine (kotatsuref05_Bytes.calls (x4_1.length : Int) _ _ ([] : List Int) t309 _ ?side1 ?side2 A76.out).mono ?_); (case side1 => exact Kd.C_nil _ _); (case side2 => exact Nat.le_refl _); rintro e w' ⟨rfl, ⟨nd, rfl⟩⟩; refine ⟨_, rfl, ?_⟩))
     (try (rw [drewN_self wc]; generalize hq_ : World.drewN wc _ = wc; have n0_ : Aside0 (Kd.N k56 56 wc w.heap.size (fun k_ => (P0_ k_ ∨ w.heap.size ≤ k_)) (.slice Ao102 x4_1.length co102) x4_1) := ⟨by rw [← hq_]; exact (by (with_reducible repeat (first | apply Kd.N_alloc | apply Kd.N_drewN | apply Kd.N_drew)); exact HO_4.out)⟩; have n1_ : Aside0 (Kd.V (Kd.int .u8) 5 wc w.heap.size (fun k_ => (P0_ k_ ∨ w.heap.size ≤ k_) ∧ some k_ ≠ (.slice Ao102 x4_1.length co102 : Value).ownBlock) u5 x5_1) := ⟨by rw [← hq_]; exact (by (with_reducible repeat (first | apply Kd.V_alloc | apply Kd.V_drewN | apply Kd.V_drew)); exact HO_5.out)⟩; have n2_ : Aside0 (Below w.heap.size w wc) := ⟨by rw [← hq_]; exact (by repeat (first | (with_reducible first | exact HB.out | apply below_alloc | apply pw_below_drewN | apply below_drew1) | exact HB.out))⟩; clear HO_4 HO_5 HB hq_; have HO_4 := n0_; have HO_5 := n1_; have HB := n2_; clear n0_ n1_ n2_))
     have n0_ := Aside0.mk (Kd.N_drew HO_4.out)
     have n1_ := Aside0.mk (Kd.V_drew HO_5.out)
     have n2_ := Aside0.mk (below_drew1 HB.out)
     clear HO_4
     clear HO_5
     clear HB
     have HO_4 := n0_
     have HO_5 := n1_
     have HB := n2_
     clear n0_ n1_ n2_
     obtain ⟨Ao104, co104, eo104⟩ := Kd.V_slice HO_5.out
     (first | subst eo104 | (injection eo104 with f1_ f2_ f3_; have f4_ := f1_.symm; have f5_ := f3_.symm; clear f1_ f2_ f3_; subst f4_; subst f5_))
     have p310 : 0 ≤ (0 : Int) := (by omega)
     have q310 : 0 < (x5_1.length : Int) := of_decide_eq_true (by first | (with_reducible assumption) | assumption)
     obtain ⟨ad310, e310, hx310_0⟩ := Kd.at_int (Kd.V_reads' HO_5.out).2.2 0 p310 q310
     cases e310
     have qi310 : (0 < x5_1.length) = True := eq_true (by omega)
     (try rw [show ((0 : Int)).toNat = 0 from rfl] at hx310_0)
     (try rw [Addr.add_zero'] at hx310_0)
     replace p310 := eq_true p310
     replace q310 := eq_true q310
     have p311 : 0 ≤ (1 : Int) := (by omega)
     have q311 : 1 < (x5_1.length : Int) := of_decide_eq_true (by first | (with_reducible assumption) | assumption)
     obtain ⟨ad311, e311, hx311_0⟩ := Kd.at_int (Kd.V_reads' HO_5.out).2.2 1 p311 q311
     obtain rfl : ad310 = ad311 := (by injection e311)
     (try simp only [show (1 : Int).toNat = 1 from rfl, Nat.reduceMul, Nat.reduceEqDiff, Go.Addr.add, ↓reduceIte] at hx311_0)
     have qi311 : (1 < x5_1.length) = True := eq_true (by omega)
     (try rw [show ((1 : Int)).toNat = 1 from rfl] at hx311_0)
     replace p311 := eq_true p311
     replace q311 := eq_true q311
     refine start_ (n := 20) (S := fun w' => w'.cell? ad310 = some (.int .u8 (rd x5_1 0)) ∧ w'.cell? ⟨ad310.block, ad310.off + 1, none⟩ = some (.int .u8 (rd x5_1 1))) (ds := []) #[fy,fy,fy,fy,fy,fy,fy,fy,fy,fy,fy,fy,fy,fy,fy,fy,fy,fy,fy,fy] (by kernel_rfl) rfl rfl ⟨hx310_0, hx311_0⟩ (fun hHeld => ?_); refine with_tabW kotatsuref07_Read.tab11 kotatsuref07_Read.bits11 (fun HT_ HW_ => ?_)
     generalize wc.drew = w103 at HO_4 HO_5 HB hx310_0 hx311_0 hHeld ⊢
     refine pure_ (i := 0) (N := some 43) (v := ?_) (a' := ?_) #[ty,fy,fy,fy,fy,fy,fy,fy,fy,fy,fy,fy,fy,fy,fy,fy,fy,fy,fy,fy] rfl rfl (any_of HT_.out (by kernel_rfl)) (fun _ _ _ h => h) (Or.inl ⟨by rfl, ?_⟩) ?_ ?_
     rotate_left
     ·intro w'
      go_simp
      with_reducible rfl
     rotate_left
     ·simp only [Act.put, qa, qb, qc, i64_w, i32_w]
      rfl
     refine pure_ (i := 1) (N := some 44) (v := ?_) (a' := ?_) #[ty,ty,fy,fy,fy,fy,fy,fy,fy,fy,fy,fy,fy,fy,fy,fy,fy,fy,fy,fy] rfl rfl (any_of HT_.out (by kernel_rfl)) (fun _ _ _ h => h) (Or.inl ⟨by rfl, ?_⟩) ?_ ?_
     rotate_left
     ·intro w'
      go_simp
      with_reducible rfl
     rotate_left
     ·simp only [Act.put, qa, qb, qc, i64_w, i32_w]
      rfl
     refine take_ (i := 2) (N := some 45) (v := ?_) (a' := ?_) #[ty,ty,ty,fy,fy,fy,fy,fy,fy,fy,fy,fy,fy,fy,fy,fy,fy,fy,fy,fy] rfl rfl (take_ofW HT_.out HW_.out (by kernel_rfl)) (fun _ _ _ h => h) (Or.inl ⟨by rfl, ?_⟩) hHeld ?_ ?_
     rotate_left
     ·rintro w' ⟨s0, s1⟩
      go_simp
      with_reducible rfl
     rotate_left
     ·simp only [Act.put, qa, qb, qc, i64_w, i32_w]
      rfl
     refine pure_ (i := 3) (N := some 46) (v := ?_) (a' := ?_) #[ty,ty,ty,ty,fy,fy,fy,fy,fy,fy,fy,fy,fy,fy,fy,fy,fy,fy,fy,fy] rfl rfl (any_of HT_.out (by kernel_rfl)) (fun _ _ _ h => h) (Or.inl ⟨by rfl, ?_⟩) ?_ ?_
     rotate_left
     ·intro w'
      go_simp
      with_reducible rfl
     rotate_left
     ·simp only [Act.put, qa, qb, qc, i64_w, i32_w]
      rfl
     refine pure_ (i := 4) (N := some 47) (v := ?_) (a' := ?_) #[ty,ty,ty,ty,ty,fy,fy,fy,fy,fy,fy,fy,fy,fy,fy,fy,fy,fy,fy,fy] rfl rfl (any_of HT_.out (by kernel_rfl)) (fun _ _ _ h => h) (Or.inl ⟨by rfl, ?_⟩) ?_ ?_
     rotate_left
     ·intro w'
      go_simp
      with_reducible rfl
     rotate_left
     ·simp only [Act.put, qa, qb, qc, i64_w, i32_w]
      rfl
     refine pure_ (i := 5) (N := some 48) (v := ?_) (a' := ?_) #[ty,ty,ty,ty,ty,ty,fy,fy,fy,fy,fy,fy,fy,fy,fy,fy,fy,fy,fy,fy] rfl rfl (any_of HT_.out (by kernel_rfl)) (fun _ _ _ h => h) (Or.inl ⟨by rfl, ?_⟩) ?_ ?_
     rotate_left
     ·intro w'
      go_simp
      with_reducible rfl
     rotate_left
     ·simp only [Act.put, qa, qb, qc, i64_w, i32_w]
      rfl
     refine pure_ (i := 6) (N := some 49) (v := ?_) (a' := ?_) #[ty,ty,ty,ty,ty,ty,ty,fy,fy,fy,fy,fy,fy,fy,fy,fy,fy,fy,fy,fy] rfl rfl (any_of HT_.out (by kernel_rfl)) (fun _ _ _ h => h) (Or.inl ⟨by rfl, ?_⟩) ?_ ?_
     rotate_left
     ·intro w'
      go_simp
      with_reducible rfl
     rotate_left
     ·simp only [Act.put, qa, qb, qc, i64_w, i32_w]
      rfl
     refine pure_ (i := 7) (N := some 50) (v := ?_) (a' := ?_) #[ty,ty,ty,ty,ty,ty,ty,ty,fy,fy,fy,fy,fy,fy,fy,fy,fy,fy,fy,fy] rfl rfl (any_of HT_.out (by kernel_rfl)) (fun _ _ _ h => h) (Or.inl ⟨by rfl, ?_⟩) ?_ ?_
     rotate_left
     ·intro w'
      go_simp
      with_reducible rfl
     rotate_left
     ·simp only [Act.put, qa, qb, qc, i64_w, i32_w]
      rfl
     refine pure_ (i := 8) (N := some 51) (v := ?_) (a' := ?_) #[ty,ty,ty,ty,ty,ty,ty,ty,ty,fy,fy,fy,fy,fy,fy,fy,fy,fy,fy,fy] rfl rfl (any_of HT_.out (by kernel_rfl)) (fun _ _ _ h => h) (Or.inl ⟨by rfl, ?_⟩) ?_ ?_
     rotate_left
     ·intro w'
      go_simp
      with_reducible rfl
     rotate_left
     ·simp only [Act.put, qa, qb, qc, i64_w, i32_w]
      rfl
     refine pure_ (i := 9) (N := some 52) (v := ?_) (a' := ?_) #[ty,ty,ty,ty,ty,ty,ty,ty,ty,ty,fy,fy,fy,fy,fy,fy,fy,fy,fy,fy] rfl rfl (any_of HT_.out (by kernel_rfl)) (fun _ _ _ h => h) (Or.inl ⟨by rfl, ?_⟩) ?_ ?_
     rotate_left
     ·intro w'
      go_simp
      with_reducible rfl
     rotate_left
     ·simp only [Act.put, qa, qb, qc, i64_w, i32_w]
      rfl
     refine pure_ (i := 10) (N := some 53) (v := ?_) (a' := ?_) #[ty,ty,ty,ty,ty,ty,ty,ty,ty,ty,ty,fy,fy,fy,fy,fy,fy,fy,fy,fy] rfl rfl (any_of HT_.out (by kernel_rfl)) (fun _ _ _ h => h) (Or.inl ⟨by rfl, ?_⟩) ?_ ?_
     rotate_left
     ·intro w'
      go_simp
      with_reducible rfl
     rotate_left
     ·simp only [Act.put, qa, qb, qc, i64_w, i32_w]
      rfl
     refine pure_ (i := 11) (N := some 54) (v := ?_) (a' := ?_) #[ty,ty,ty,ty,ty,ty,ty,ty,ty,ty,ty,ty,fy,fy,fy,fy,fy,fy,fy,fy] rfl rfl (any_of HT_.out (by kernel_rfl)) (fun _ _ _ h => h) (Or.inl ⟨by rfl, ?_⟩) ?_ ?_
     rotate_left
     ·intro w'
      go_simp
      with_reducible rfl
     rotate_left
     ·simp only [Act.put, qa, qb, qc, i64_w, i32_w]
      rfl
     refine pure_ (i := 12) (N := some 55) (v := ?_) (a' := ?_) #[ty,ty,ty,ty,ty,ty,ty,ty,ty,ty,ty,ty,ty,fy,fy,fy,fy,fy,fy,fy] rfl rfl (any_of HT_.out (by kernel_rfl)) (fun _ _ _ h => h) (Or.inl ⟨by rfl, ?_⟩) ?_ ?_
     rotate_left
     ·intro w'
      go_simp
      with_reducible rfl
     rotate_left
     ·simp only [Act.put, qa, qb, qc, i64_w, i32_w]
      rfl
     refine pure_ (i := 13) (N := some 56) (v := ?_) (a' := ?_) #[ty,ty,ty,ty,ty,ty,ty,ty,ty,ty,ty,ty,ty,ty,fy,fy,fy,fy,fy,fy] rfl rfl (any_of HT_.out (by kernel_rfl)) (fun _ _ _ h => h) (Or.inl ⟨by rfl, ?_⟩) ?_ ?_
     rotate_left
     ·intro w'
      go_simp
      with_reducible rfl
     rotate_left
     ·simp only [Act.put, qa, qb, qc, i64_w, i32_w]
      rfl
     refine pure_ (i := 15) (N := some 58) (v := ?_) (a' := ?_) #[ty,ty,ty,ty,ty,ty,ty,ty,ty,ty,ty,ty,ty,ty,fy,ty,fy,fy,fy,fy] rfl rfl (any_of HT_.out (by kernel_rfl)) (fun _ _ _ h => h) (Or.inl ⟨by rfl, ?_⟩) ?_ ?_
     rotate_left
     ·intro w'
      go_simp
      with_reducible rfl
     rotate_left
     ·simp only [Act.put, qa, qb, qc, i64_w, i32_w]
      rfl
     refine pure_ (i := 16) (N := some 59) (v := ?_) (a' := ?_) #[ty,ty,ty,ty,ty,ty,ty,ty,ty,ty,ty,ty,ty,ty,fy,ty,ty,fy,fy,fy] rfl rfl (any_of HT_.out (by kernel_rfl)) (fun _ _ _ h => h) (Or.inl ⟨by rfl, ?_⟩) ?_ ?_
     rotate_left
     ·intro w'
      go_simp
      with_reducible rfl
     rotate_left
     ·simp only [Act.put, qa, qb, qc, i64_w, i32_w]
      rfl
     refine take_ (i := 14) (N := some 57) (v := ?_) (a' := ?_) #[ty,ty,ty,ty,ty,ty,ty,ty,ty,ty,ty,ty,ty,ty,ty,ty,ty,fy,fy,fy] rfl rfl (take_ofW HT_.out HW_.out (by kernel_rfl)) (fun _ _ _ h => h) (Or.inl ⟨by rfl, ?_⟩) hHeld ?_ ?_
     rotate_left
     ·rintro w' ⟨s0, s1⟩
      go_simp
      with_reducible rfl
     rotate_left
     ·simp only [Act.put, qa, qb, qc, i64_w, i32_w]
      rfl
     refine one_ (i := 17) (N := some 60) #[ty,ty,ty,ty,ty,ty,ty,ty,ty,ty,ty,ty,ty,ty,ty,ty,ty,ty,fy,fy] rfl rfl (one_of HT_.out (by kernel_rfl)) (by decide) (fun K hK => ?_)
     refine goes_ Try.func29 (by kernel_rfl) rfl #[.int .i64 (x4_1.length : Int)] (by rfl) rfl rfl (by (try simp only [List.map_toArray, List.map_cons, List.map_nil]); first | done | rfl | (simp only [List.length_drop, List.length_take]; rfl)) ?_
     with_reducible refine (kotatsuref05_Kind.calls (x4_1.length : Int) t312 _ A84.out).mono ?_
     rintro e w' ⟨rfl, ⟨nd, rfl⟩⟩
     refine ⟨_, rfl, ?_⟩
     refine hK.out _ _ ⟨hHeld.1, hHeld.2⟩ (fun hHeld => ?_)
     clear hK K
     refine norm_ (a' := ?_) ?_ ?_
     rotate_left
     ·show Act.put _ (some 60) _ = _
      simp only [Act.put, qa, qb, qc, i64_w, i32_w]
      rfl
     refine pure_ (i := 18) (N := some 61) (v := ?_) (a' := ?_) #[ty,ty,ty,ty,ty,ty,ty,ty,ty,ty,ty,ty,ty,ty,ty,ty,ty,ty,ty,fy] rfl rfl (any_of HT_.out (by kernel_rfl)) (fun _ _ _ h => h) (Or.inl ⟨by rfl, ?_⟩) ?_ ?_
     rotate_left
     ·intro w'
      go_simp
      with_reducible rfl
     rotate_left
     ·simp only [Act.put, qa, qb, qc, i64_w, i32_w]
      rfl
     refine pure_ (i := 19) (N := some 62) (v := ?_) (a' := ?_) #[ty,ty,ty,ty,ty,ty,ty,ty,ty,ty,ty,ty,ty,ty,ty,ty,ty,ty,ty,ty] rfl rfl (any_of HT_.out (by kernel_rfl)) (fun _ _ _ h => h) (Or.inl ⟨by rfl, ?_⟩) ?_ ?_
     rotate_left
     ·intro w'
      go_simp
      with_reducible rfl
     rotate_left
     ·simp only [Act.put, qa, qb, qc, i64_w, i32_w]
      rfl
     refine done_ (done_of HT_.out (by kernel_rfl)) ?_
     try go_wp2
     (try (rw [drewN_self w103]; generalize hq_ : World.drewN w103 _ = w103; have n0_ : Aside0 (Kd.N k56 56 w103 w.heap.size (fun k_ => (P0_ k_ ∨ w.heap.size ≤ k_)) (.slice Ao102 x4_1.length co102) x4_1) := ⟨by rw [← hq_]; exact (by (with_reducible repeat (first | apply Kd.N_alloc | apply Kd.N_drewN | apply Kd.N_drew)); exact HO_4.out)⟩; have n1_ : Aside0 (Kd.V (Kd.int .u8) 5 w103 w.heap.size (fun k_ => (P0_ k_ ∨ w.heap.size ≤ k_) ∧ some k_ ≠ (.slice Ao102 x4_1.length co102 : Value).ownBlock) (.slice (some ad310) x5_1.length co104) x5_1) := ⟨by rw [← hq_]; exact (by (with_reducible repeat (first | apply Kd.V_alloc | apply Kd.V_drewN | apply Kd.V_drew)); exact HO_5.out)⟩; have n2_ : Aside0 (Below w.heap.size w w103) := ⟨by rw [← hq_]; exact (by repeat (first | (with_reducible first | exact HB.out | apply below_alloc | apply pw_below_drewN | apply below_drew1) | exact HB.out))⟩; clear HO_4 HO_5 HB hq_; have HO_4 := n0_; have HO_5 := n1_; have HB := n2_; clear n0_ n1_ n2_))
     have n0_ := Aside0.mk (Kd.N_drew HO_4.out)
     have n1_ := Aside0.mk (Kd.V_drew HO_5.out)
     have n2_ := Aside0.mk (below_drew1 HB.out)
     clear HO_4
     clear HO_5
     clear HB
     have HO_4 := n0_
     have HO_5 := n1_
     have HB := n2_
     clear n0_ n1_ n2_
     have q106 : ((ji86) : Int) ≤ ((x5_1.length : Int) : Int) := of_decide_eq_true (by first | (with_reducible assumption) | assumption)
     obtain ⟨i0106, hi0106, _, hsz106, _⟩ := info_parts info5
     have hroom106 : x5_1.length ≤ co104 := (Kd.V_reads' HO_5.out).2.1
     have hC106 : Kd.F (Kd.int .u8) _ _ (some ad310) x5_1.length x5_1 := (Kd.V_at (base := w.heap.size) HO_5.out).2.2
     have hcut106 := cut_to (P := Try.prog) 22 5 .i64 Try.underlying22 hi0106 (some ad310) x5_1.length co104 (ji86) (of_decide_eq_true (by first | (with_reducible assumption) | assumption)) q106 hroom106
     have hr106 := Kd.F_take (m := ((ji86) : Int).toNat) hC106 (by omega)
     have hy106 : y313.length = ((ji86) : Int).toNat := (by rw [Ny313.out, List.length_take]; omega)
     rw [← Ny313.out] at hr106
     rw [← hy106] at hcut106
     have HO317 := Aside0.mk (show Kd.V (Kd.int .u8) 5 _ w.heap.size _ (.slice (some ad310) y313.length co104) y313 from Kd.V_mk (by omega) hr106)
     have HC317 := Aside0.mk (show y313.length ≤ co104 from by omega)
     clear hr106 hC106 hroom106 hi0106 hsz106
     have KY106 := Aside0.mk hy106
     clear hy106
     replace q106 := eq_true q106
     have q107 : ((ji99) : Int) ≤ ((x5_1.length : Int) : Int) := of_decide_eq_true (by first | (with_reducible assumption) | assumption)
     obtain ⟨i0107, hi0107, _, hsz107, _⟩ := info_parts info5
     have hroom107 : x5_1.length ≤ co104 := (Kd.V_reads' HO_5.out).2.1
     have hC107 : Kd.F (Kd.int .u8) _ _ (some ad310) x5_1.length x5_1 := (Kd.V_at (base := w.heap.size) HO_5.out).2.2
     have ql107 : ((ji86) : Int) ≤ ((ji99) : Int) := of_decide_eq_true (by first | (with_reducible assumption) | assumption)
     have q0107 : (0 : Int) ≤ ((ji86) : Int) := of_decide_eq_true (by first | (with_reducible assumption) | assumption)
     have hcut107 := cut_mid (P := Try.prog) 22 5 .i64 .i64 Try.underlying22 hi0107 1 hsz107 (some ad310) x5_1.length co104 (ji86) (ji99) q0107 ql107 q107 hroom107
     have hr107 := Kd.F_mid (lo := ((ji86) : Int).toNat) (hi := ((ji99) : Int).toNat) (c := co104) hC107 (by omega) (by omega) hroom107
     obtain ⟨A107, hA107⟩ : ∃ A1, A1 = (if co104 = ((ji86) : Int).toNat then (some ad310) else ((some ad310) : Option Addr).map (·.add (((ji86) : Int).toNat * 1))) := ⟨_, rfl⟩
     obtain ⟨c107, hc107⟩ : ∃ c1, c1 = co104 - ((ji86) : Int).toNat := ⟨_, rfl⟩
     have hy107 : y319.length = ((ji99) : Int).toNat - ((ji86) : Int).toNat := (by rw [Ny319.out, List.length_drop, List.length_take] <;> omega)
     rw [show ((x5_1).take ((ji99) : Int).toNat).drop ((ji86) : Int).toNat = y319 from Ny319.out.symm] at hr107
     replace hr107 : Kd.F (Kd.int .u8) _ _ A107 y319.length y319 := (by rw [hA107]; exact hr107)
     rw [← hy107, ← hA107, ← hc107] at hcut107
     have HO323 := Aside0.mk (show Kd.V (Kd.int .u8) 5 _ w.heap.size _ (.slice A107 y319.length c107) y319 from Kd.V_mk (by rw [hy107, hc107]; exact Nat.sub_le_sub_right (Nat.le_trans (by omega) hroom107) _) hr107)
     have HC323 := Aside0.mk (show y319.length ≤ c107 from by rw [hy107, hc107]; exact Nat.sub_le_sub_right (Nat.le_trans (by omega) hroom107) _)
     clear hr107 hC107 hroom107 hi0107 hsz107 hc107
     have KY107 := Aside0.mk hy107
     have KA107 := Aside0.mk hA107
     clear hy107 hA107
     replace q107 := eq_true q107
     refine start_ (n := 14) (S := fun w' => True) (ds := []) #[fy,fy,fy,fy,fy,fy,fy,fy,fy,fy,fy,fy,fy,fy] (by kernel_rfl) rfl rfl trivial (fun hHeld => ?_); refine with_tabW kotatsuref07_Read.tab13 kotatsuref07_Read.bits13 (fun HT_ HW_ => ?_)
     generalize w103.drew = w105 at HO_4 HO_5 HB HO317 HO323 hHeld ⊢
     refine pure_ (i := 0) (N := some 63) (v := ?_) (a' := ?_) #[ty,fy,fy,fy,fy,fy,fy,fy,fy,fy,fy,fy,fy,fy] rfl rfl (any_of HT_.out (by kernel_rfl)) (fun _ _ _ h => h) (Or.inl ⟨by rfl, ?_⟩) ?_ ?_
     rotate_left
     ·intro w'
      go_simp
      with_reducible rfl
     rotate_left
     ·simp only [Act.put, qa, qb, qc, i64_w, i32_w]
      rfl
     refine pure_ (i := 1) (N := some 64) (v := ?_) (a' := ?_) #[ty,ty,fy,fy,fy,fy,fy,fy,fy,fy,fy,fy,fy,fy] rfl rfl (any_of HT_.out (by kernel_rfl)) (fun _ _ _ h => h) (Or.inl ⟨by rfl, ?_⟩) ?_ ?_
     rotate_left
     ·intro w'
      go_simp
      with_reducible rfl
     rotate_left
     ·simp only [Act.put, qa, qb, qc, i64_w, i32_w]
      rfl
     refine pure_ (i := 2) (N := some 65) (v := ?_) (a' := ?_) #[ty,ty,ty,fy,fy,fy,fy,fy,fy,fy,fy,fy,fy,fy] rfl rfl (any_of HT_.out (by kernel_rfl)) (fun _ _ _ h => h) (Or.inl ⟨by rfl, ?_⟩) ?_ ?_
     rotate_left
     ·intro w'
      go_simp
      with_reducible rfl
     rotate_left
     ·simp only [Act.put, qa, qb, qc, i64_w, i32_w]
      rfl
     refine pure_ (i := 3) (N := some 66) (v := ?_) (a' := ?_) #[ty,ty,ty,ty,fy,fy,fy,fy,fy,fy,fy,fy,fy,fy] rfl rfl (any_of HT_.out (by kernel_rfl)) (fun _ _ _ h => h) (Or.inl ⟨by rfl, ?_⟩) ?_ ?_
     rotate_left
     ·intro w'
      go_simp
      with_reducible rfl
     rotate_left
     ·simp only [Act.put, qa, qb, qc, i64_w, i32_w]
      rfl
     refine pure_ (i := 6) (N := some 69) (v := ?_) (a' := ?_) #[ty,ty,ty,ty,fy,fy,ty,fy,fy,fy,fy,fy,fy,fy] rfl rfl (any_of HT_.out (by kernel_rfl)) (fun _ _ _ h => h) (Or.inl ⟨by rfl, ?_⟩) ?_ ?_
     rotate_left
     ·intro w'
      go_simp
      with_reducible rfl
     rotate_left
     ·simp only [Act.put, qa, qb, qc, i64_w, i32_w]
      rfl
     refine pure_ (i := 7) (N := some 70) (v := ?_) (a' := ?_) #[ty,ty,ty,ty,fy,fy,ty,ty,fy,fy,fy,fy,fy,fy] rfl rfl (any_of HT_.out (by kernel_rfl)) (fun _ _ _ h => h) (Or.inl ⟨by rfl, ?_⟩) ?_ ?_
     rotate_left
     ·intro w'
      go_simp
      with_reducible rfl
     rotate_left
     ·simp only [Act.put, qa, qb, qc, i64_w, i32_w]
      rfl
     refine pure_ (i := 8) (N := some 71) (v := ?_) (a' := ?_) #[ty,ty,ty,ty,fy,fy,ty,ty,ty,fy,fy,fy,fy,fy] rfl rfl (any_of HT_.out (by kernel_rfl)) (fun _ _ _ h => h) (Or.inl ⟨by rfl, ?_⟩) ?_ ?_
     rotate_left
     ·intro w'
      go_simp
      with_reducible rfl
     rotate_left
     ·simp only [Act.put, qa, qb, qc, i64_w, i32_w]
      rfl
     refine pure_ (i := 9) (N := some 72) (v := ?_) (a' := ?_) #[ty,ty,ty,ty,fy,fy,ty,ty,ty,ty,fy,fy,fy,fy] rfl rfl (any_of HT_.out (by kernel_rfl)) (fun _ _ _ h => h) (Or.inl ⟨by rfl, ?_⟩) ?_ ?_
     rotate_left
     ·intro w'
      go_simp
      with_reducible rfl
     rotate_left
     ·simp only [Act.put, qa, qb, qc, i64_w, i32_w]
      rfl
     refine pure_ (i := 10) (N := some 73) (v := ?_) (a' := ?_) #[ty,ty,ty,ty,fy,fy,ty,ty,ty,ty,ty,fy,fy,fy] rfl rfl (any_of HT_.out (by kernel_rfl)) (fun _ _ _ h => h) (Or.inl ⟨by rfl, ?_⟩) ?_ ?_
     rotate_left
     ·intro w'
      go_simp
      with_reducible rfl
     rotate_left
     ·simp only [Act.put, qa, qb, qc, i64_w, i32_w]
      rfl
     refine pure_ (i := 11) (N := some 74) (v := ?_) (a' := ?_) #[ty,ty,ty,ty,fy,fy,ty,ty,ty,ty,ty,ty,fy,fy] rfl rfl (any_of HT_.out (by kernel_rfl)) (fun _ _ _ h => h) (Or.inl ⟨by rfl, ?_⟩) ?_ ?_
     rotate_left
     ·intro w'
      go_simp
      with_reducible rfl
     rotate_left
     ·simp only [Act.put, qa, qb, qc, i64_w, i32_w]
      rfl
     refine one_ (i := 4) (N := some 67) #[ty,ty,ty,ty,ty,fy,ty,ty,ty,ty,ty,ty,fy,fy] rfl rfl (one_of HT_.out (by kernel_rfl)) (by decide) (fun K hK => ?_)
     refine goes_ Try.func26 (by kernel_rfl) rfl #[.slice (some ad310) y313.length co104] (by rfl) rfl rfl (by (try simp only [List.map_toArray, List.map_cons, List.map_nil]); first | done | rfl | (simp only [List.length_drop, List.length_take]; rfl)) ?_
     with_reducible refine (kotatsuref02_Short.calls kj10 (fun k_ => ((P0_ k_ ∨ w.heap.size ≤ k_) ∧ some k_ ≠ (.slice Ao102 x4_1.length co102 : Value).ownBlock)) _ _ y313 t318 _ ?side1 A89.out).mono ?_
     (case side1 => exact HO317.out)
     rintro e w108 ⟨rfl, hb⟩
     refine ⟨_, rfl, ?_⟩
     have n0_ := Aside0.mk (Kd.N_below (by (with_reducible repeat (first | apply Kd.N_alloc | apply Kd.N_drewN | apply Kd.N_drew)); exact HO_4.out) hb)
     have n1_ := Aside0.mk (Kd.V_below (by (with_reducible repeat (first | apply Kd.V_alloc | apply Kd.V_drewN | apply Kd.V_drew)); exact HO_5.out) hb)
     have n2_ := Aside0.mk (Kd.V_below (by (with_reducible repeat (first | apply Kd.V_alloc | apply Kd.V_drewN | apply Kd.V_drew)); exact HO317.out) hb)
     have n3_ := Aside0.mk (Kd.V_below (by (with_reducible repeat (first | apply Kd.V_alloc | apply Kd.V_drewN | apply Kd.V_drew)); exact HO323.out) hb)
     have n4_ := Aside0.mk (below_step (by repeat (first | (with_reducible first | exact HB.out | apply below_alloc | apply pw_below_drewN | apply below_drew1) | exact HB.out)) hb)
     clear HO_4
     clear HO_5
     clear HO317
     clear HO323
     clear HB
     have HO_4 := n0_
     have HO_5 := n1_
     have HO317 := n2_
     have HO323 := n3_
     have HB := n4_
     clear n0_ n1_ n2_ n3_ n4_
     (try clear hb)
     (try clear hb2)
     (try clear hk)
     (try clear hi)
     refine hK.out _ _ trivial (fun hHeld => ?_)
     clear hK K
     refine norm_ (a' := ?_) ?_ ?_
     rotate_left
     ·show Act.put _ (some 67) _ = _
      simp only [Act.put, qa, qb, qc, i64_w, i32_w]
      rfl
     refine pure_ (i := 5) (N := some 68) (v := ?_) (a' := ?_) #[ty,ty,ty,ty,ty,ty,ty,ty,ty,ty,ty,ty,fy,fy] rfl rfl (any_of HT_.out (by kernel_rfl)) (fun _ _ _ h => h) (Or.inl ⟨by rfl, ?_⟩) ?_ ?_
     rotate_left
     ·intro w'
      go_simp
      with_reducible rfl
     rotate_left
     ·simp only [Act.put, qa, qb, qc, i64_w, i32_w]
      rfl
     refine one_ (i := 12) (N := some 75) #[ty,ty,ty,ty,ty,ty,ty,ty,ty,ty,ty,ty,ty,fy] rfl rfl (one_of HT_.out (by kernel_rfl)) (by decide) (fun K hK => ?_)
     refine goes_ Try.func30 (by kernel_rfl) rfl #[.slice A107 y319.length c107] (by rfl) rfl rfl (by (try simp only [List.map_toArray, List.map_cons, List.map_nil]); first | done | rfl | (simp only [List.length_drop, List.length_take]; rfl)) ?_
     with_reducible refine (kotatsuref02_Take.calls kj10 _ _ y319 t324 _ ?side1 ?side2 A93.out).mono ?_
     (case side1 => repeat (first | exact (Kd.V_reads' HO323.out).2.2 | (with_reducible refine Kd.C_alloc ?_ _) | (with_reducible refine Kd.C_drewN ?_ _) | (with_reducible refine Kd.C_drew ?_)))
     (case side2 => exact (Kd.V_reads' HO323.out).2.1)
     rintro e w' ⟨rfl, ⟨nd, rfl⟩⟩
     refine ⟨_, rfl, ?_⟩
     refine hK.out _ _ trivial (fun hHeld => ?_)
     clear hK K
     refine norm_ (a' := ?_) ?_ ?_
     rotate_left
     ·show Act.put _ (some 75) _ = _
      simp only [Act.put, qa, qb, qc, i64_w, i32_w]
      rfl
     refine pure_ (i := 13) (N := some 76) (v := ?_) (a' := ?_) #[ty,ty,ty,ty,ty,ty,ty,ty,ty,ty,ty,ty,ty,ty] rfl rfl (any_of HT_.out (by kernel_rfl)) (fun _ _ _ h => h) (Or.inl ⟨by rfl, ?_⟩) ?_ ?_
     rotate_left
     ·intro w'
      go_simp
      with_reducible rfl
     rotate_left
     ·simp only [Act.put, qa, qb, qc, i64_w, i32_w]
      rfl
     refine done_ (done_of HT_.out (by kernel_rfl)) ?_
     try go_wp2
     (try (rw [drewN_self w108]; generalize hq_ : World.drewN w108 _ = w108; have n0_ : Aside0 (Kd.V (Kd.int .u8) 5 w108 w.heap.size (fun k_ => (P0_ k_ ∨ w.heap.size ≤ k_) ∧ some k_ ≠ (.slice Ao102 x4_1.length co102 : Value).ownBlock) (.slice (some ad310) y313.length co104) y313) := ⟨by rw [← hq_]; exact (by (with_reducible repeat (first | apply Kd.V_alloc | apply Kd.V_drewN | apply Kd.V_drew)); exact HO317.out)⟩; have n1_ : Aside0 (Kd.V (Kd.int .u8) 5 w108 w.heap.size (fun k_ => (P0_ k_ ∨ w.heap.size ≤ k_) ∧ some k_ ≠ (.slice Ao102 x4_1.length co102 : Value).ownBlock) (.slice A107 y319.length c107) y319) := ⟨by rw [← hq_]; exact (by (with_reducible repeat (first | apply Kd.V_alloc | apply Kd.V_drewN | apply Kd.V_drew)); exact HO323.out)⟩; have n2_ : Aside0 (Kd.N k56 56 w108 w.heap.size (fun k_ => (P0_ k_ ∨ w.heap.size ≤ k_)) (.slice Ao102 x4_1.length co102) x4_1) := ⟨by rw [← hq_]; exact (by (with_reducible repeat (first | apply Kd.N_alloc | apply Kd.N_drewN | apply Kd.N_drew)); exact HO_4.out)⟩; have n3_ : Aside0 (Kd.V (Kd.int .u8) 5 w108 w.heap.size (fun k_ => (P0_ k_ ∨ w.heap.size ≤ k_) ∧ some k_ ≠ (.slice Ao102 x4_1.length co102 : Value).ownBlock) (.slice (some ad310) x5_1.length co104) x5_1) := ⟨by rw [← hq_]; exact (by (with_reducible repeat (first | apply Kd.V_alloc | apply Kd.V_drewN | apply Kd.V_drew)); exact HO_5.out)⟩; have n4_ : Aside0 (Below w.heap.size w w108) := ⟨by rw [← hq_]; exact (by repeat (first | (with_reducible first | exact HB.out | apply below_alloc | apply pw_below_drewN | apply below_drew1) | exact HB.out))⟩; clear HO317 HO323 HO_4 HO_5 HB hq_; have HO317 := n0_; have HO323 := n1_; have HO_4 := n2_; have HO_5 := n3_; have HB := n4_; clear n0_ n1_ n2_ n3_ n4_))
     have n0_ := Aside0.mk (Kd.N_drew HO_4.out)
     have n1_ := Aside0.mk (Kd.V_drew HO_5.out)
     have n2_ := Aside0.mk (Kd.V_drew HO317.out)
     have n3_ := Aside0.mk (Kd.V_drew HO323.out)
     have n4_ := Aside0.mk (below_drew1 HB.out)
     clear HO_4
     clear HO_5
     clear HO317
     clear HO323
     clear HB
     have HO_4 := n0_
     have HO_5 := n1_
     have HO317 := n2_
     have HO323 := n3_
     have HB := n4_
     clear n0_ n1_ n2_ n3_ n4_
     have p325 : 0 ≤ (1 : Int) := (by omega)
     have q325 : 1 < (x5_1.length : Int) := of_decide_eq_true (by first | (with_reducible assumption) | assumption)
     obtain ⟨ad325, e325, hx325_0⟩ := Kd.at_int (Kd.V_reads' HO_5.out).2.2 1 p325 q325
     obtain rfl : ad310 = ad325 := (by injection e325)
     (try simp only [show (1 : Int).toNat = 1 from rfl, Nat.reduceMul, Nat.reduceEqDiff, Go.Addr.add, ↓reduceIte] at hx325_0)
     have qi325 : (1 < x5_1.length) = True := eq_true (by omega)
     (try rw [show ((1 : Int)).toNat = 1 from rfl] at hx325_0)
     replace p325 := eq_true p325
     replace q325 := eq_true q325
     have q110 : ((ji86) : Int) ≤ ((x5_1.length : Int) : Int) := of_decide_eq_true (by first | (with_reducible assumption) | assumption)
     obtain ⟨i0110, hi0110, _, hsz110, _⟩ := info_parts info5
     have hroom110 : x5_1.length ≤ co104 := (Kd.V_reads' HO_5.out).2.1
     have hC110 : Kd.F (Kd.int .u8) _ _ (some ad310) x5_1.length x5_1 := (Kd.V_at (base := w.heap.size) HO_5.out).2.2
     have ql110 : (2 : Int) ≤ ((ji86) : Int) := of_decide_eq_true (by first | (with_reducible assumption) | assumption)
     have hcut110 := cut_mid (P := Try.prog) 22 5 .i64 .i64 Try.underlying22 hi0110 1 hsz110 (some ad310) x5_1.length co104 2 (ji86) (by omega) ql110 q110 hroom110
     have hr110 := Kd.F_mid (lo := (2 : Int).toNat) (hi := ((ji86) : Int).toNat) (c := co104) hC110 (by omega) (by omega) hroom110
     obtain ⟨A110, hA110⟩ : ∃ A1, A1 = (if co104 = (2 : Int).toNat then (some ad310) else ((some ad310) : Option Addr).map (·.add ((2 : Int).toNat * 1))) := ⟨_, rfl⟩
     obtain ⟨c110, hc110⟩ : ∃ c1, c1 = co104 - (2 : Int).toNat := ⟨_, rfl⟩
     have hy110 : y326.length = ((ji86) : Int).toNat - (2 : Int).toNat := (by rw [Ny326.out, List.length_drop, List.length_take] <;> omega)
     rw [show ((x5_1).take ((ji86) : Int).toNat).drop (2 : Int).toNat = y326 from Ny326.out.symm] at hr110
     replace hr110 : Kd.F (Kd.int .u8) _ _ A110 y326.length y326 := (by rw [hA110]; exact hr110)
     rw [← hy110, ← hA110, ← hc110] at hcut110
     have HO330 := Aside0.mk (show Kd.V (Kd.int .u8) 5 _ w.heap.size _ (.slice A110 y326.length c110) y326 from Kd.V_mk (by rw [hy110, hc110]; exact Nat.sub_le_sub_right (Nat.le_trans (by omega) hroom110) _) hr110)
     have HC330 := Aside0.mk (show y326.length ≤ c110 from by rw [hy110, hc110]; exact Nat.sub_le_sub_right (Nat.le_trans (by omega) hroom110) _)
     clear hr110 hC110 hroom110 hi0110 hsz110 hc110
     have KY110 := Aside0.mk hy110
     have KA110 := Aside0.mk hA110
     clear hy110 hA110
     replace q110 := eq_true q110
     refine start_ (n := 14) (S := fun w' => w'.cell? ⟨ad310.block, ad310.off + 1, none⟩ = some (.int .u8 (rd x5_1 1))) (ds := [11, 12]) #[fy,fy,fy,fy,fy,fy,fy,fy,fy,fy,fy,fy,fy,fy] (by kernel_rfl) rfl rfl (hx325_0) (fun hHeld => ?_); refine with_tabW kotatsuref07_Read.tab15 kotatsuref07_Read.bits15 (fun HT_ HW_ => ?_)
     generalize w108.drew = w109 at HO_4 HO_5 HO317 HO323 HB HO330 hx325_0 hHeld ⊢
     refine pure_ (i := 0) (N := some 77) (v := ?_) (a' := ?_) #[ty,fy,fy,fy,fy,fy,fy,fy,fy,fy,fy,fy,fy,fy] rfl rfl (any_of HT_.out (by kernel_rfl)) (fun _ _ _ h => h) (Or.inl ⟨by rfl, ?_⟩) ?_ ?_
     rotate_left
     ·intro w'
      go_simp
      with_reducible rfl
     rotate_left
     ·simp only [Act.put, qa, qb, qc, i64_w, i32_w]
      rfl
     refine pure_ (i := 1) (N := some 78) (v := ?_) (a' := ?_) #[ty,ty,fy,fy,fy,fy,fy,fy,fy,fy,fy,fy,fy,fy] rfl rfl (any_of HT_.out (by kernel_rfl)) (fun _ _ _ h => h) (Or.inl ⟨by rfl, ?_⟩) ?_ ?_
     rotate_left
     ·intro w'
      go_simp
      with_reducible rfl
     rotate_left
     ·simp only [Act.put, qa, qb, qc, i64_w, i32_w]
      rfl
     refine pure_ (i := 2) (N := some 79) (v := ?_) (a' := ?_) #[ty,ty,ty,fy,fy,fy,fy,fy,fy,fy,fy,fy,fy,fy] rfl rfl (any_of HT_.out (by kernel_rfl)) (fun _ _ _ h => h) (Or.inl ⟨by rfl, ?_⟩) ?_ ?_
     rotate_left
     ·intro w'
      go_simp
      with_reducible rfl
     rotate_left
     ·simp only [Act.put, qa, qb, qc, i64_w, i32_w]
      rfl
     refine pure_ (i := 4) (N := some 81) (v := ?_) (a' := ?_) #[ty,ty,ty,fy,ty,fy,fy,fy,fy,fy,fy,fy,fy,fy] rfl rfl (any_of HT_.out (by kernel_rfl)) (fun _ _ _ h => h) (Or.inl ⟨by rfl, ?_⟩) ?_ ?_
     rotate_left
     ·intro w'
      go_simp
      with_reducible rfl
     rotate_left
     ·simp only [Act.put, qa, qb, qc, i64_w, i32_w]
      rfl
     refine pure_ (i := 5) (N := some 82) (v := ?_) (a' := ?_) #[ty,ty,ty,fy,ty,ty,fy,fy,fy,fy,fy,fy,fy,fy] rfl rfl (any_of HT_.out (by kernel_rfl)) (fun _ _ _ h => h) (Or.inl ⟨by rfl, ?_⟩) ?_ ?_
     rotate_left
     ·intro w'
      go_simp
      with_reducible rfl
     rotate_left
     ·simp only [Act.put, qa, qb, qc, i64_w, i32_w]
      rfl
     refine pure_ (i := 6) (N := some 83) (v := ?_) (a' := ?_) #[ty,ty,ty,fy,ty,ty,ty,fy,fy,fy,fy,fy,fy,fy] rfl rfl (any_of HT_.out (by kernel_rfl)) (fun _ _ _ h => h) (Or.inl ⟨by rfl, ?_⟩) ?_ ?_
     rotate_left
     ·intro w'
      go_simp
      with_reducible rfl
     rotate_left
     ·simp only [Act.put, qa, qb, qc, i64_w, i32_w]
      rfl
     refine pure_ (i := 7) (N := some 84) (v := ?_) (a' := ?_) #[ty,ty,ty,fy,ty,ty,ty,ty,fy,fy,fy,fy,fy,fy] rfl rfl (any_of HT_.out (by kernel_rfl)) (fun _ _ _ h => h) (Or.inl ⟨by rfl, ?_⟩) ?_ ?_
     rotate_left
     ·intro w'
      go_simp
      with_reducible rfl
     rotate_left
     ·simp only [Act.put, qa, qb, qc, i64_w, i32_w]
      rfl
     refine take_ (i := 3) (N := some 80) (v := ?_) (a' := ?_) #[ty,ty,ty,ty,ty,ty,ty,ty,fy,fy,fy,fy,fy,fy] rfl rfl (take_ofW HT_.out HW_.out (by kernel_rfl)) (fun _ _ _ h => h) (Or.inl ⟨by rfl, ?_⟩) hHeld ?_ ?_
     rotate_left
     ·intro w' s0
      go_simp
      with_reducible rfl
     rotate_left
     ·simp only [Act.put, qa, qb, qc, i64_w, i32_w]
      rfl
     refine one_ (i := 8) (N := some 85) #[ty,ty,ty,ty,ty,ty,ty,ty,ty,fy,fy,fy,fy,fy] rfl rfl (one_of HT_.out (by kernel_rfl)) (by decide) (fun K hK => ?_)
     refine Kd.N_lit_step (Kd.slice 5 (Kd.int .u8)) _ 22 ?hg (N' := 85) ?hd (xs := ([y326] : List (List Int))) (inner := [.slice A110 y326.length c110]) (ok := (fun k_ => (P0_ k_ ∨ w.heap.size ≤ k_) ∧ some k_ ≠ (.slice Ao102 x4_1.length co102 : Value).ownBlock)) (okp := (fun k_ => (P0_ k_ ∨ w.heap.size ≤ k_) ∧ some k_ ≠ (.slice Ao102 x4_1.length co102 : Value).ownBlock)) ?hr ?hp (fun _ hk => hk) ((show ∀ k_, w109.heap.size ≤ k_ → (fun k_ => (P0_ k_ ∨ w.heap.size ≤ k_) ∧ some k_ ≠ (.slice Ao102 x4_1.length co102 : Value).ownBlock) k_ from fun k_ hk => ⟨(.inr (Nat.le_trans (below_size (by repeat (first | (with_reducible first | exact HB.out | apply below_alloc | apply pw_below_drewN | apply below_drew1) | exact HB.out))) hk)), Kd.fresh' (Kd.N_lt (by (with_reducible repeat (first | apply Kd.N_alloc | apply Kd.N_drewN | apply Kd.N_drew)); exact HO_4.out)) k_ hk⟩) _ (Nat.le_refl _)) (Below.refl _ _) (Nat.le_refl _) (by simp) ?_; (case hd => rfl); (case hg => rfl); (case hr => first | (go_simp; done) | (go_simp; rfl)); (case hp => exact (Reps.one (show Kd.FK (Kd.slice 5 (Kd.int .u8)) _ _ y326 [.slice A110 y326.length c110] from (Kd.FK_slice_mk (Kd.V_reads' (e := 5) (base := w.heap.size) (Kd.V_mono (e := 5) (base := w.heap.size) (ok' := (fun k_ => (P0_ k_ ∨ w.heap.size ≤ k_) ∧ some k_ ≠ (.slice Ao102 x4_1.length co102 : Value).ownBlock)) (HO330.out) (fun k_ hk => ⟨hk.1, hk.2⟩))).2.1 (Kd.V_F (e := 5) (base := w.heap.size) (Kd.V_mono (e := 5) (base := w.heap.size) (ok' := (fun k_ => (P0_ k_ ∨ w.heap.size ≤ k_) ∧ some k_ ≠ (.slice Ao102 x4_1.length co102 : Value).ownBlock)) (HO330.out) (fun k_ hk => ⟨hk.1, hk.2⟩))))) (Reps.none _ _)))
     intro v332 w111 ho112 hb hg_ hnew_
     have HS0_ := (hb.cell (World.block_lt_of_cell? _ _ (hHeld))).trans (hHeld)
     clear hg_ hnew_
     (first | rw [← Ny331.out] at ho112 | (simp only [Int.reduceToNat] at ho112; rw [← Ny331.out] at ho112))
     have n0_ := Aside0.mk (Kd.N_elder' (by (with_reducible repeat (first | apply Kd.N_alloc | apply Kd.N_drewN | apply Kd.N_drew)); exact HO_4.out) (Kd.N_base ho112) hb)
     have n1_ := Aside0.mk (Kd.V_elder' (by (with_reducible repeat (first | apply Kd.V_alloc | apply Kd.V_drewN | apply Kd.V_drew)); exact HO_5.out) (Kd.N_base ho112) hb)
     have n2_ := Aside0.mk (Kd.V_elder' (by (with_reducible repeat (first | apply Kd.V_alloc | apply Kd.V_drewN | apply Kd.V_drew)); exact HO317.out) (Kd.N_base ho112) hb)
     have n3_ := Aside0.mk (Kd.V_elder' (by (with_reducible repeat (first | apply Kd.V_alloc | apply Kd.V_drewN | apply Kd.V_drew)); exact HO323.out) (Kd.N_base ho112) hb)
     have n4_ := Aside0.mk (Kd.V_elder' (by (with_reducible repeat (first | apply Kd.V_alloc | apply Kd.V_drewN | apply Kd.V_drew)); exact HO330.out) (Kd.N_base ho112) hb)
     have n5_ := Aside0.mk (Kd.N_lower ho112 (below_size (by repeat (first | (with_reducible first | exact HB.out | apply below_alloc | apply pw_below_drewN | apply below_drew1) | exact HB.out))))
     have n6_ := Aside0.mk (below_step (by repeat (first | (with_reducible first | exact HB.out | apply below_alloc | apply pw_below_drewN | apply below_drew1) | exact HB.out)) hb)
     clear HO_4
     clear HO_5
     clear HO317
     clear HO323
     clear HO330
     clear HB
     have HO_4 := n0_
     have HO_5 := n1_
     have HO317 := n2_
     have HO323 := n3_
     have HO330 := n4_
     have HO333 := n5_
     have HB := n6_
     clear n0_ n1_ n2_ n3_ n4_ n5_ n6_
     clear hb ho112
     obtain ⟨Ao113, co113, eo113⟩ := Kd.N_slice HO333.out
     (first | subst eo113 | (injection eo113 with f1_ f2_ f3_; have f4_ := f1_.symm; have f5_ := f3_.symm; clear f1_ f2_ f3_; subst f4_; subst f5_))
     refine hK.out _ _ (HS0_) (fun hHeld => ?_)
     clear hK K
     refine norm_ (a' := ?_) ?_ ?_
     rotate_left
     ·show Act.put _ (some 85) _ = _
      simp only [Act.put, qa, qb, qc, i64_w, i32_w]
      rfl
     refine one_ (i := 9) (N := some 86) #[ty,ty,ty,ty,ty,ty,ty,ty,ty,ty,fy,fy,fy,fy] rfl rfl (one_of HT_.out (by kernel_rfl)) (by decide) (fun K hK => ?_)
     refine goes_ Try.func9 (by kernel_rfl) rfl #[.slice Ao113 y331.length co113] (by rfl) rfl rfl (by (try simp only [List.map_toArray, List.map_cons, List.map_nil]); first | done | rfl | (simp only [List.length_drop, List.length_take]; rfl)) ?_
     with_reducible refine (kotatsuref01_Join.calls kj10 _ _ y331 t334 _ ?side1 ?side2 A97.out).mono ?_
     (case side1 => repeat (first | exact (Kd.N_reads' HO333.out).2.2 | (with_reducible refine Kd.C_alloc ?_ _) | (with_reducible refine Kd.C_drewN ?_ _) | (with_reducible refine Kd.C_drew ?_)))
     (case side2 => exact (Kd.N_reads' HO333.out).2.1)
     rintro e w114 ⟨v335, rfl, ho0, hb⟩
     have HS0_ := (hb.cell (World.block_lt_of_cell? _ _ (hHeld))).trans (hHeld)
     refine ⟨_, rfl, ?_⟩
     have n0_ := Aside0.mk (Kd.N_elder' (by (with_reducible repeat (first | apply Kd.N_alloc | apply Kd.N_drewN | apply Kd.N_drew)); exact HO_4.out) (Kd.R_base ho0) hb)
     have n1_ := Aside0.mk (Kd.V_elder' (by (with_reducible repeat (first | apply Kd.V_alloc | apply Kd.V_drewN | apply Kd.V_drew)); exact HO_5.out) (Kd.R_base ho0) hb)
     have n2_ := Aside0.mk (Kd.V_elder' (by (with_reducible repeat (first | apply Kd.V_alloc | apply Kd.V_drewN | apply Kd.V_drew)); exact HO317.out) (Kd.R_base ho0) hb)
     have n3_ := Aside0.mk (Kd.V_elder' (by (with_reducible repeat (first | apply Kd.V_alloc | apply Kd.V_drewN | apply Kd.V_drew)); exact HO323.out) (Kd.R_base ho0) hb)
     have n4_ := Aside0.mk (Kd.V_elder' (by (with_reducible repeat (first | apply Kd.V_alloc | apply Kd.V_drewN | apply Kd.V_drew)); exact HO330.out) (Kd.R_base ho0) hb)
     have n5_ := Aside0.mk (Kd.N_elder' (by (with_reducible repeat (first | apply Kd.N_alloc | apply Kd.N_drewN | apply Kd.N_drew)); exact HO333.out) (Kd.R_base ho0) hb)
     have n6_ := Aside0.mk (Kd.R_lower (Kd.R_newM (M := fun k_ => (w.heap.size ≤ k_)) ho0 (below_size (by repeat (first | (with_reducible first | exact HB.out | apply below_alloc | apply pw_below_drewN | apply below_drew1) | exact HB.out))) (fun k_ h_ => h_)) (below_size (by repeat (first | (with_reducible first | exact HB.out | apply below_alloc | apply pw_below_drewN | apply below_drew1) | exact HB.out))))
     have n7_ := Aside0.mk (below_step (by repeat (first | (with_reducible first | exact HB.out | apply below_alloc | apply pw_below_drewN | apply below_drew1) | exact HB.out)) hb)
     clear HO_4
     clear HO_5
     clear HO317
     clear HO323
     clear HO330
     clear HO333
     clear HB
     have HO_4 := n0_
     have HO_5 := n1_
     have HO317 := n2_
     have HO323 := n3_
     have HO330 := n4_
     have HO333 := n5_
     have HO336 := n6_
     have HB := n7_
     clear n0_ n1_ n2_ n3_ n4_ n5_ n6_ n7_
     (try clear hb)
     (try clear hb2)
     (try clear hk)
     (try clear hi)
     (try clear ho0)
     obtain ⟨Ao115, co115, eo115⟩ := Kd.R_slice HO336.out
     (first | subst eo115 | (injection eo115 with f1_ f2_ f3_; have f4_ := f1_.symm; have f5_ := f3_.symm; clear f1_ f2_ f3_; subst f4_; subst f5_))
     refine hK.out _ _ (HS0_) (fun hHeld => ?_)
     clear hK K
     refine norm_ (a' := ?_) ?_ ?_
     rotate_left
     ·show Act.put _ (some 86) _ = _
      simp only [Act.put, qa, qb, qc, i64_w, i32_w]
      rfl
     refine pure_ (i := 10) (N := some 87) (v := ?_) (a' := ?_) #[ty,ty,ty,ty,ty,ty,ty,ty,ty,ty,ty,fy,fy,fy] rfl rfl (any_of HT_.out (by kernel_rfl)) (fun _ _ _ h => h) (Or.inl ⟨by rfl, ?_⟩) ?_ ?_
     rotate_left
     ·intro w'
      go_simp
      with_reducible rfl
     rotate_left
     ·simp only [Act.put, qa, qb, qc, i64_w, i32_w]
      rfl
     refine last_ (i := 11) (N := some 88) #[ty,ty,ty,ty,ty,ty,ty,ty,ty,ty,ty,ty,fy,fy] rfl rfl (one_of HT_.out (by kernel_rfl)) (by decide) (fun K hK => ?_)
     refine value_ (w1 := ?_) (v := ?_) (by rfl) rfl ?_ ?_
     rotate_left 2
     ·go_simp
      constructor
      ·rfl
      rfl
     refine hK.out _ _ ?_
     clear hK K
     refine norm_ (a' := ?_) ?_ ?_
     rotate_left
     ·show Act.put _ (some 88) _ = _
      simp only [Act.put, qa, qb, qc, i64_w, i32_w]
      rfl
     refine last_ (i := 12) (N := some 89) #[ty,ty,ty,ty,ty,ty,ty,ty,ty,ty,ty,ty,ty,fy] rfl rfl (one_of HT_.out (by kernel_rfl)) (by decide) (fun K hK => ?_)
     refine Kd.N_append_step k56 (w0 := w) w.heap.size (by rfl) (.tmp 77) (.tmp 88) 33 56 (.agg #[(.int .u8 0), (.slice none 0 0)]) 32 rfl Try.underlying33 info56 rfl (by decide) (by omega) (.slice Ao102 x4_1.length co102) x4_1 (⟨rd x5_1 1, t334⟩ : S56) [.int .u8 (rd x5_1 1), .slice Ao115 t334.length co115] (fun k_ => (P0_ k_ ∨ w.heap.size ≤ k_) ∧ some k_ ≠ (.slice Ao113 y331.length co113 : Value).ownBlock) (fun k_ => ((fun k_ => (P0_ k_ ∨ w.heap.size ≤ k_) ∧ some k_ ≠ (.slice Ao113 y331.length co113 : Value).ownBlock)) k_ ∧ some k_ ≠ (.slice Ao102 x4_1.length co102 : Value).ownBlock) rfl rfl ?aP (fun _ hk => hk) ?aF ?aO ?aB ?aS ?aL ?_
     (case aP => exact (k56_mkF _ _ (⟨rd x5_1 1, t334⟩ : S56) (Kd.R_reads' (Kd.R_mono (ok' := (fun k_ => ((fun k_ => (P0_ k_ ∨ w.heap.size ≤ k_) ∧ some k_ ≠ (.slice Ao113 y331.length co113 : Value).ownBlock)) k_ ∧ some k_ ≠ (.slice Ao102 x4_1.length co102 : Value).ownBlock)) (Kd.R_apart' (Kd.R_apart' (HO336.out) (Kd.N_typed HO333.out) (by decide)) (Kd.N_typed HO_4.out) (by decide)) (fun k_ hk => ⟨⟨(.inr (hk.1.1.1)), hk.1.2⟩, hk.2⟩))).2.1 (Kd.R_F (Kd.R_mono (ok' := (fun k_ => ((fun k_ => (P0_ k_ ∨ w.heap.size ≤ k_) ∧ some k_ ≠ (.slice Ao113 y331.length co113 : Value).ownBlock)) k_ ∧ some k_ ≠ (.slice Ao102 x4_1.length co102 : Value).ownBlock)) (Kd.R_apart' (Kd.R_apart' (HO336.out) (Kd.N_typed HO333.out) (by decide)) (Kd.N_typed HO_4.out) (by decide)) (fun k_ hk => ⟨⟨(.inr (hk.1.1.1)), hk.1.2⟩, hk.2⟩)))))
     (case aB => exact (by repeat (first | (with_reducible first | exact HB.out | apply below_alloc | apply pw_below_drewN | apply below_drew1) | exact HB.out)))
     (case aF => exact (fun k_ hk => ⟨(.inr (Nat.le_trans (below_size (by repeat (first | (with_reducible first | exact HB.out | apply below_alloc | apply pw_below_drewN | apply below_drew1) | exact HB.out))) hk)), Kd.fresh' (Kd.N_lt (by (with_reducible repeat (first | apply Kd.N_alloc | apply Kd.N_drewN | apply Kd.N_drew)); exact HO333.out)) k_ hk⟩))
     (case aO => exact (by (with_reducible repeat (first | apply Kd.N_alloc | apply Kd.N_drewN | apply Kd.N_drew)); exact Kd.N_mono HO_4.out (fun _ hk => ⟨hk.1.1, hk.1.2⟩)))
     (case aS => exact (below_size (by repeat (first | (with_reducible first | exact HB.out | apply below_alloc | apply pw_below_drewN | apply below_drew1) | exact HB.out))))
     (case aL => have := LMc98.out; omega)
     intro v338 w116 ho hb hg hat
     rw [← Ny337.out] at ho
     have n0_ := Aside0.mk (Kd.V_afterv (ok := (fun k_ => (P0_ k_ ∨ w.heap.size ≤ k_) ∧ some k_ ≠ (.slice Ao113 y331.length co113 : Value).ownBlock ∧ some k_ ≠ (.slice Ao115 t334.length co115 : Value).ownBlock)) (by (with_reducible repeat (first | apply Kd.V_alloc | apply Kd.V_drewN | apply Kd.V_drew)); exact Kd.V_mono HO_5.out (fun _ hk => ⟨⟨hk.1.1.1, ⟨hk.1.2, hk.2⟩⟩, hk.1.1.2⟩)) hg hat)
     have n1_ := Aside0.mk (Kd.V_afterv (ok := (fun k_ => (P0_ k_ ∨ w.heap.size ≤ k_) ∧ some k_ ≠ (.slice Ao113 y331.length co113 : Value).ownBlock ∧ some k_ ≠ (.slice Ao115 t334.length co115 : Value).ownBlock)) (by (with_reducible repeat (first | apply Kd.V_alloc | apply Kd.V_drewN | apply Kd.V_drew)); exact Kd.V_mono HO317.out (fun _ hk => ⟨⟨hk.1.1.1, ⟨hk.1.2, hk.2⟩⟩, hk.1.1.2⟩)) hg hat)
     have n2_ := Aside0.mk (Kd.V_afterv (ok := (fun k_ => (P0_ k_ ∨ w.heap.size ≤ k_) ∧ some k_ ≠ (.slice Ao113 y331.length co113 : Value).ownBlock ∧ some k_ ≠ (.slice Ao115 t334.length co115 : Value).ownBlock)) (by (with_reducible repeat (first | apply Kd.V_alloc | apply Kd.V_drewN | apply Kd.V_drew)); exact Kd.V_mono HO323.out (fun _ hk => ⟨⟨hk.1.1.1, ⟨hk.1.2, hk.2⟩⟩, hk.1.1.2⟩)) hg hat)
     have n3_ := Aside0.mk (Kd.V_afterv (ok := (fun k_ => (P0_ k_ ∨ w.heap.size ≤ k_) ∧ some k_ ≠ (.slice Ao113 y331.length co113 : Value).ownBlock ∧ some k_ ≠ (.slice Ao115 t334.length co115 : Value).ownBlock)) (by (with_reducible repeat (first | apply Kd.V_alloc | apply Kd.V_drewN | apply Kd.V_drew)); exact Kd.V_mono HO330.out (fun _ hk => ⟨⟨hk.1.1.1, ⟨hk.1.2, hk.2⟩⟩, hk.1.1.2⟩)) hg hat)
     have n4_ := Aside0.mk (Kd.N_afterv (ok := (fun k_ => (P0_ k_ ∨ w.heap.size ≤ k_) ∧ some k_ ≠ (.slice Ao115 t334.length co115 : Value).ownBlock)) (by (with_reducible repeat (first | apply Kd.N_alloc | apply Kd.N_drewN | apply Kd.N_drew)); exact Kd.N_mono HO333.out (fun _ hk => ⟨⟨hk.1.1, hk.2⟩, hk.1.2⟩)) hg hat)
     have n5_ := Aside0.mk (hb)
     have n6_ := Aside0.mk (ho)
     clear HO_5
     clear HO317
     clear HO323
     clear HO330
     clear HO333
     clear HB
     clear HO_4
     clear HO336
     have HO_5 := n0_
     have HO317 := n1_
     have HO323 := n2_
     have HO330 := n3_
     have HO333 := n4_
     have HB := n5_
     have HO339 := n6_
     clear n0_ n1_ n2_ n3_ n4_ n5_ n6_
     clear ho hb hg hat
     refine hK.out _ _ ?_
     clear hK K
     refine norm_ (a' := ?_) ?_ ?_
     rotate_left
     ·show Act.put _ (some 89) _ = _
      simp only [Act.put, qa, qb, qc, i64_w, i32_w]
      rfl
     refine pure_ (i := 13) (N := some 4) (v := ?_) (a' := ?_) #[ty,ty,ty,ty,ty,ty,ty,ty,ty,ty,ty,ty,ty,ty] rfl rfl (any_of HT_.out (by kernel_rfl)) (fun _ _ _ h => h) (Or.inl ⟨by rfl, ?_⟩) ?_ ?_
     rotate_left
     ·intro w'
      go_simp
      with_reducible rfl
     rotate_left
     ·simp only [Act.put, qa, qb, qc, i64_w, i32_w]
      rfl
     refine done_ (done_of HT_.out (by kernel_rfl)) ?_
     have q117 : ((ji99) : Int) ≤ ((x5_1.length : Int) : Int) := of_decide_eq_true (by first | (with_reducible assumption) | assumption)
     obtain ⟨i0117, hi0117, _, hsz117, _⟩ := info_parts info5
     have hroom117 : x5_1.length ≤ co104 := (Kd.V_reads' HO_5.out).2.1
     have hC117 : Kd.F (Kd.int .u8) _ _ (some ad310) x5_1.length x5_1 := (Kd.V_at (base := w.heap.size) HO_5.out).2.2
     have q0117 : (0 : Int) ≤ ((ji99) : Int) := of_decide_eq_true (by first | (with_reducible assumption) | assumption)
     have hcut117 := cut_from (P := Try.prog) 22 5 .i64 Try.underlying22 hi0117 1 hsz117 (some ad310) x5_1.length co104 (ji99) q0117 q117
     have hr117 := Kd.F_cut (m := ((ji99) : Int).toNat) (c := co104) hC117 (by omega) hroom117
     obtain ⟨A117, hA117⟩ : ∃ A1, A1 = (if co104 = ((ji99) : Int).toNat then (some ad310) else ((some ad310) : Option Addr).map (·.add (((ji99) : Int).toNat * 1))) := ⟨_, rfl⟩
     obtain ⟨c117, hc117⟩ : ∃ c1, c1 = co104 - ((ji99) : Int).toNat := ⟨_, rfl⟩
     have hy117 : y340.length = x5_1.length - ((ji99) : Int).toNat := (by rw [Ny340.out, List.length_drop] <;> omega)
     rw [show (x5_1).drop ((ji99) : Int).toNat = y340 from Ny340.out.symm] at hr117
     replace hr117 : Kd.F (Kd.int .u8) _ _ A117 y340.length y340 := (by rw [hA117]; exact hr117)
     rw [← hy117, ← hA117, ← hc117] at hcut117
     have HO344 := Aside0.mk (show Kd.V (Kd.int .u8) 5 _ w.heap.size _ (.slice A117 y340.length c117) y340 from Kd.V_mk (by rw [hy117, hc117]; exact Nat.sub_le_sub_right hroom117 _) hr117)
     have HC344 := Aside0.mk (show y340.length ≤ c117 from by rw [hy117, hc117]; exact Nat.sub_le_sub_right hroom117 _)
     clear hr117 hC117 hroom117 hi0117 hsz117 hc117
     have KY117 := Aside0.mk hy117
     have KA117 := Aside0.mk hA117
     clear hy117 hA117
     replace q117 := eq_true q117
     try go_wp2
     go_roundg kj10
     case measure => have := HK1.out; have := HJ1.out; have := HJ10.out; omega
     case rel => exact ⟨(y337), (y340), H', ⟨by have := HK1.out; have := HJ1.out; have := HJ10.out; omega⟩, ⟨by (with_reducible repeat (first | apply Kd.N_alloc | apply Kd.N_drewN | apply Kd.N_drew)); exact Kd.N_mono HO339.out (fun _ hk => hk.1)⟩, ⟨by (with_reducible repeat (first | apply Kd.V_alloc | apply Kd.V_drewN | apply Kd.V_drew)); exact Kd.V_mono HO344.out (fun _ hk => ⟨hk.1.1, hk.2⟩)⟩, ⟨by repeat (first | (with_reducible first | exact HB.out | apply below_alloc | apply pw_below_drewN | apply below_drew1) | exact HB.out)⟩⟩
    rw [if_pos c17] at H
    have c17b0 : decide (0 < (x4_1.length : Int)) = true := decide_eq_true c17
    have c17b1 : decide (0 < x4_1.length) = true := decide_eq_true (by omega)
    clear c17
    obtain ⟨ji18, hji18⟩ : ∃ j_ : Int, (wrap64 ((x4_1.length : Int) - 1)) = j_ := ⟨_, rfl⟩
    replace H : (if 0 ≤ (ji18) then (if (ji18) < (x4_1.length : Int) then ((kotatsuref05_Bytes.f (x4_1.length : Int) ((rd_T56 x4_1 (ji18)).f1)).bind fun t273 => (if 0 < (x5_1.length : Int) then (if (rd x5_1 0) = 128 then (if (x5_1.length : Int) < (wrap64 (t273 + 4)) then (some (([] : List (S56)), 2)) else (if 1 < (x5_1.length : Int) then ((kotatsuref05_Kind.f (x4_1.length : Int)).bind fun t276 => (if (rd x5_1 1) = t276 then (if 0 ≤ (wrap64 (t273 + 2)) then (if (wrap64 (t273 + 2)) ≤ (x5_1.length : Int) then ((kotatsuref02_Short.f kj10 (x5_1.take ((wrap64 (t273 + 2)) : Int).toNat)).bind fun t282 => (if (wrap64 (t273 + 2)) ≤ (wrap64 (t273 + 4)) then (if (wrap64 (t273 + 4)) ≤ (x5_1.length : Int) then ((kotatsuref02_Take.f kj10 ((x5_1.take ((wrap64 (t273 + 4)) : Int).toNat).drop ((wrap64 (t273 + 2)) : Int).toNat)).bind fun t288 => (if (IntKind.u64.wrap (t282)) = t288 then (if 2 ≤ (wrap64 (t273 + 2)) then ((kotatsuref01_Join.f kj10 (([((x5_1.take ((wrap64 (t273 + 2)) : Int).toNat).drop 2)] : List (List Int)))).bind fun t298 => (if x4_1.length < 4398046511104 then (if 0 ≤ (wrap64 (t273 + 4)) then (kotatsuref07_Read.l0 kj10 (x4_1 ++ [(⟨rd x5_1 1, t298⟩ : S56)]) (x5_1.drop ((wrap64 (t273 + 4)) : Int).toNat)) else (none)) else (none))) else (none)) else (some (([] : List (S56)), 3)))) else (none)) else (none))) else (none)) else (none)) else (some (([] : List (S56)), 2)))) else (none))) else (some (([] : List (S56)), 2))) else (none))) else (none)) else (none)) = some (r1, r2) := by first | (rw [hji18] at H; exact H) | (simp only [hji18] at H ⊢; exact H)
    have hji18w : (IntKind.i64.wrap ((x4_1.length : Int) - 1)) = ji18 := (i64_w _).trans hji18
    by_cases c19 : 0 ≤ (ji18)
    rotate_left
    ·rw [if_neg c19] at H
     exact absurd H (by simp)
    rw [if_pos c19] at H
    have c19b0 : decide (0 ≤ (ji18)) = true := decide_eq_true c19
    clear c19
    by_cases c20 : (ji18) < (x4_1.length : Int)
    rotate_left
    ·rw [if_neg c20] at H
     exact absurd H (by simp)
    rw [if_pos c20] at H
    have c20b0 : decide ((ji18) < (x4_1.length : Int)) = true := decide_eq_true c20
    clear c20
    replace H := Option.bind_eq_some_iff.mp H
    obtain ⟨t273, A210, H⟩ := H
    replace H : (if 0 < (x5_1.length : Int) then (if (rd x5_1 0) = 128 then (if (x5_1.length : Int) < (wrap64 (t273 + 4)) then (some (([] : List (S56)), 2)) else (if 1 < (x5_1.length : Int) then ((kotatsuref05_Kind.f (x4_1.length : Int)).bind fun t276 => (if (rd x5_1 1) = t276 then (if 0 ≤ (wrap64 (t273 + 2)) then (if (wrap64 (t273 + 2)) ≤ (x5_1.length : Int) then ((kotatsuref02_Short.f kj10 (x5_1.take ((wrap64 (t273 + 2)) : Int).toNat)).bind fun t282 => (if (wrap64 (t273 + 2)) ≤ (wrap64 (t273 + 4)) then (if (wrap64 (t273 + 4)) ≤ (x5_1.length : Int) then ((kotatsuref02_Take.f kj10 ((x5_1.take ((wrap64 (t273 + 4)) : Int).toNat).drop ((wrap64 (t273 + 2)) : Int).toNat)).bind fun t288 => (if (IntKind.u64.wrap (t282)) = t288 then (if 2 ≤ (wrap64 (t273 + 2)) then ((kotatsuref01_Join.f kj10 (([((x5_1.take ((wrap64 (t273 + 2)) : Int).toNat).drop 2)] : List (List Int)))).bind fun t298 => (if x4_1.length < 4398046511104 then (if 0 ≤ (wrap64 (t273 + 4)) then (kotatsuref07_Read.l0 kj10 (x4_1 ++ [(⟨rd x5_1 1, t298⟩ : S56)]) (x5_1.drop ((wrap64 (t273 + 4)) : Int).toNat)) else (none)) else (none))) else (none)) else (some (([] : List (S56)), 3)))) else (none)) else (none))) else (none)) else (none)) else (some (([] : List (S56)), 2)))) else (none))) else (some (([] : List (S56)), 2))) else (none)) = some (r1, r2) := H
    have A21 := Aside0.mk A210
    clear A210
    by_cases c22 : 0 < (x5_1.length : Int)
    rotate_left
    ·rw [if_neg c22] at H
     exact absurd H (by simp)
    rw [if_pos c22] at H
    have c22b0 : decide (0 < (x5_1.length : Int)) = true := decide_eq_true c22
    have c22b1 : decide (0 < x5_1.length) = true := decide_eq_true (by omega)
    clear c22
    by_cases c23 : (rd x5_1 0) = 128
    rotate_left
    ·rw [if_neg c23] at H
     have c23b0 : ((rd x5_1 0) == 128) = false := beq_eq_false_iff_ne.mpr c23
     have c23b1 : ((rd x5_1 0) != 128) = true := bne_iff_ne.mpr c23
     simp only [Option.some.injEq, Prod.mk.injEq] at H
     obtain ⟨rfl, rfl⟩ := H
     obtain ⟨Ao73, co73, eo73⟩ := Kd.N_slice HO_4.out
     subst eo73
     have p272 : 0 ≤ ((ji18) : Int) := of_decide_eq_true (by first | (with_reducible assumption) | assumption)
     have q272 : (ji18) < (x4_1.length : Int) := of_decide_eq_true (by first | (with_reducible assumption) | assumption)
     obtain ⟨ad272, A272_1, c272_1, e272, hx272_0, hx272_1, hl272_1, hi272_1⟩ := at_T56 (Kd.N_reads' HO_4.out).2.2 (ji18) p272 q272
     cases e272
     obtain ⟨ce272, hce272, hMe272, hcc272⟩ := Kd.N_get HO_4.out z56 (ji18) p272 (by first | exact q272 | exact of_decide_eq_true (by first | (with_reducible assumption) | assumption) | (have e_ := (Kd.N_reads' HO_4.out).1; omega))
     obtain ⟨ua272_1, uc272_1, rfl, ul272_1, ge272_1⟩ := k56_openF hMe272
     have hv272_1 := hcc272 1 _ rfl
     rw [add_field _ _ 1 (by omega)] at hv272_1
     replace hv272_1 := Option.some.inj (hv272_1.symm.trans hx272_1)
     injection hv272_1 with hva_ hvn_ hvc_
     rw [hva_] at ge272_1
     rw [hvc_] at ul272_1
     have HL272_1 := Aside0.mk (show Kd.V (Kd.int .u8) 5 _ w.heap.size _ _ ((rd_T56 x4_1 (ji18)).f1) from Kd.V_mk ul272_1 ge272_1)
     clear hva_ hvn_ hvc_ ge272_1 ul272_1
     clear hcc272 hce272
     have HR272_1 := Aside0.mk hi272_1
     have HC272_1 := Aside0.mk hl272_1
     clear hi272_1 hl272_1
     replace p272 := eq_true p272
     replace q272 := eq_true q272
     try go_wp2_with (first | ((with_reducible refine gate_callee (f := 28) rfl ?_); refine goesL_ (some 42) rfl rfl Try.func28 (by kernel_rfl) rfl #[.int .i64 (x4_1.length : Int), .slice A272_1 ((rd_T56 x4_1 (ji18)).f1).length c272_1] rfl (by (try simp only [List.map_toArray, List.map_cons, List.map_nil]); first | done | (simp only [hji18]; rfl) | rfl | (simp only [List.length_drop, List.length_take]; rfl)) ?_; (with_reducible refine (kotatsuref05_Bytes.calls (x4_1.length : Int) _ _ ((rd_T56 x4_1 (ji18)).f1) t273 _ ?side1 ?side2 A21.out).mono ?_); (case side1 => repeat (first | exact (by repeat (first | (with_reducible exact HR272_1.out) | (with_reducible refine Kd.C_alloc ?_ _) | (with_reducible refine Kd.C_drewN ?_ _) | (with_reducible refine Kd.C_drew ?_) | exact HR272_1.out)) | (with_reducible refine Kd.C_alloc ?_ _) | (with_reducible refine Kd.C_drewN ?_ _) | (with_reducible refine Kd.C_drew ?_))); (case side2 => exact HC272_1.out); rintro e w' ⟨rfl, ⟨nd, rfl⟩⟩; refine ⟨_, rfl, ?_⟩))
     (try (rw [drewN_self wc]; generalize hq_ : World.drewN wc _ = wc; have n0_ : Aside0 (Kd.V (Kd.int .u8) 5 wc w.heap.size (fun k_ => (P0_ k_ ∨ w.heap.size ≤ k_) ∧ some k_ ≠ (.slice (some ad272) x4_1.length co73 : Value).ownBlock) (.slice A272_1 ((rd_T56 x4_1 (ji18)).f1).length c272_1) ((rd_T56 x4_1 (ji18)).f1)) := ⟨by rw [← hq_]; exact (by (with_reducible repeat (first | apply Kd.V_alloc | apply Kd.V_drewN | apply Kd.V_drew)); exact HL272_1.out)⟩; have n1_ : Aside0 (Kd.N k56 56 wc w.heap.size (fun k_ => (P0_ k_ ∨ w.heap.size ≤ k_)) (.slice (some ad272) x4_1.length co73) x4_1) := ⟨by rw [← hq_]; exact (by (with_reducible repeat (first | apply Kd.N_alloc | apply Kd.N_drewN | apply Kd.N_drew)); exact HO_4.out)⟩; have n2_ : Aside0 (Kd.V (Kd.int .u8) 5 wc w.heap.size (fun k_ => (P0_ k_ ∨ w.heap.size ≤ k_) ∧ some k_ ≠ (.slice (some ad272) x4_1.length co73 : Value).ownBlock) u5 x5_1) := ⟨by rw [← hq_]; exact (by (with_reducible repeat (first | apply Kd.V_alloc | apply Kd.V_drewN | apply Kd.V_drew)); exact HO_5.out)⟩; have n3_ : Aside0 (Below w.heap.size w wc) := ⟨by rw [← hq_]; exact (by repeat (first | (with_reducible first | exact HB.out | apply below_alloc | apply pw_below_drewN | apply below_drew1) | exact HB.out))⟩; have n4_ : Aside0 (Kd.C (Kd.int .u8) wc A272_1 ((rd_T56 x4_1 (ji18)).f1).length ((rd_T56 x4_1 (ji18)).f1)) := ⟨by rw [← hq_]; exact (by repeat (first | (with_reducible exact HR272_1.out) | (with_reducible refine Kd.C_alloc ?_ _) | (with_reducible refine Kd.C_drewN ?_ _) | (with_reducible refine Kd.C_drew ?_) | exact HR272_1.out))⟩; clear HL272_1 HO_4 HO_5 HB HR272_1 hq_; have HL272_1 := n0_; have HO_4 := n1_; have HO_5 := n2_; have HB := n3_; have HR272_1 := n4_; clear n0_ n1_ n2_ n3_ n4_))
     have n0_ := Aside0.mk (Kd.N_drew HO_4.out)
     have n1_ := Aside0.mk (Kd.V_drew HO_5.out)
     have n2_ := Aside0.mk (Kd.V_drew HL272_1.out)
     have n3_ := Aside0.mk (Kd.C_drew HR272_1.out)
     have n4_ := Aside0.mk (below_drew1 HB.out)
     clear HO_4
     clear HO_5
     clear HL272_1
     clear HR272_1
     clear HB
     have HO_4 := n0_
     have HO_5 := n1_
     have HL272_1 := n2_
     have HR272_1 := n3_
     have HB := n4_
     clear n0_ n1_ n2_ n3_ n4_
     obtain ⟨Ao75, co75, eo75⟩ := Kd.V_slice HO_5.out
     (first | subst eo75 | (injection eo75 with f1_ f2_ f3_; have f4_ := f1_.symm; have f5_ := f3_.symm; clear f1_ f2_ f3_; subst f4_; subst f5_))
     have p274 : 0 ≤ (0 : Int) := (by omega)
     have q274 : 0 < (x5_1.length : Int) := of_decide_eq_true (by first | (with_reducible assumption) | assumption)
     obtain ⟨ad274, e274, hx274_0⟩ := Kd.at_int (Kd.V_reads' HO_5.out).2.2 0 p274 q274
     cases e274
     have qi274 : (0 < x5_1.length) = True := eq_true (by omega)
     (try rw [show ((0 : Int)).toNat = 0 from rfl] at hx274_0)
     (try rw [Addr.add_zero'] at hx274_0)
     replace p274 := eq_true p274
     replace q274 := eq_true q274
     refine start_ (n := 20) (S := fun w' => w'.cell? ad274 = some (.int .u8 (rd x5_1 0))) (ds := []) #[fy,fy,fy,fy,fy,fy,fy,fy,fy,fy,fy,fy,fy,fy,fy,fy,fy,fy,fy,fy] (by kernel_rfl) rfl rfl (hx274_0) (fun hHeld => ?_); refine with_tabW kotatsuref07_Read.tab11 kotatsuref07_Read.bits11 (fun HT_ HW_ => ?_)
     generalize wc.drew = w74 at HO_4 HO_5 HL272_1 HR272_1 HB hx274_0 hHeld ⊢
     refine pure_ (i := 0) (N := some 43) (v := ?_) (a' := ?_) #[ty,fy,fy,fy,fy,fy,fy,fy,fy,fy,fy,fy,fy,fy,fy,fy,fy,fy,fy,fy] rfl rfl (any_of HT_.out (by kernel_rfl)) (fun _ _ _ h => h) (Or.inl ⟨by rfl, ?_⟩) ?_ ?_
     rotate_left
     ·intro w'
      go_simp
      with_reducible rfl
     rotate_left
     ·simp only [Act.put, qa, qb, qc, i64_w, i32_w]
      rfl
     refine pure_ (i := 1) (N := some 44) (v := ?_) (a' := ?_) #[ty,ty,fy,fy,fy,fy,fy,fy,fy,fy,fy,fy,fy,fy,fy,fy,fy,fy,fy,fy] rfl rfl (any_of HT_.out (by kernel_rfl)) (fun _ _ _ h => h) (Or.inl ⟨by rfl, ?_⟩) ?_ ?_
     rotate_left
     ·intro w'
      go_simp
      with_reducible rfl
     rotate_left
     ·simp only [Act.put, qa, qb, qc, i64_w, i32_w]
      rfl
     refine take_ (i := 2) (N := some 45) (v := ?_) (a' := ?_) #[ty,ty,ty,fy,fy,fy,fy,fy,fy,fy,fy,fy,fy,fy,fy,fy,fy,fy,fy,fy] rfl rfl (take_ofW HT_.out HW_.out (by kernel_rfl)) (fun _ _ _ h => h) (Or.inl ⟨by rfl, ?_⟩) hHeld ?_ ?_
     rotate_left
     ·intro w' s0
      go_simp
      with_reducible rfl
     rotate_left
     ·simp only [Act.put, qa, qb, qc, i64_w, i32_w]
      rfl
     refine pure_ (i := 3) (N := some 46) (v := ?_) (a' := ?_) #[ty,ty,ty,ty,fy,fy,fy,fy,fy,fy,fy,fy,fy,fy,fy,fy,fy,fy,fy,fy] rfl rfl (any_of HT_.out (by kernel_rfl)) (fun _ _ _ h => h) (Or.inl ⟨by rfl, ?_⟩) ?_ ?_
     rotate_left
     ·intro w'
      go_simp
      with_reducible rfl
     rotate_left
     ·simp only [Act.put, qa, qb, qc, i64_w, i32_w]
      rfl
     refine pure_ (i := 4) (N := some 47) (v := ?_) (a' := ?_) #[ty,ty,ty,ty,ty,fy,fy,fy,fy,fy,fy,fy,fy,fy,fy,fy,fy,fy,fy,fy] rfl rfl (any_of HT_.out (by kernel_rfl)) (fun _ _ _ h => h) (Or.inl ⟨by rfl, ?_⟩) ?_ ?_
     rotate_left
     ·intro w'
      go_simp
      with_reducible rfl
     rotate_left
     ·simp only [Act.put, qa, qb, qc, i64_w, i32_w]
      rfl
     refine pure_ (i := 5) (N := some 48) (v := undef) (a' := ?_) #[ty,ty,ty,ty,ty,ty,fy,fy,fy,fy,fy,fy,fy,fy,fy,fy,fy,fy,fy,fy] rfl rfl (any_of HT_.out (by kernel_rfl)) (fun _ _ _ h => h) (Or.inr ⟨by rfl, rfl⟩) ?_ ?_
     rotate_left
     ·simp only [Act.put, qa, qb, qc, i64_w, i32_w]
      rfl
     refine pure_ (i := 6) (N := some 49) (v := undef) (a' := ?_) #[ty,ty,ty,ty,ty,ty,ty,fy,fy,fy,fy,fy,fy,fy,fy,fy,fy,fy,fy,fy] rfl rfl (any_of HT_.out (by kernel_rfl)) (fun _ _ _ h => h) (Or.inr ⟨by rfl, rfl⟩) ?_ ?_
     rotate_left
     ·simp only [Act.put, qa, qb, qc, i64_w, i32_w]
      rfl
     refine pure_ (i := 7) (N := some 50) (v := undef) (a' := ?_) #[ty,ty,ty,ty,ty,ty,ty,ty,fy,fy,fy,fy,fy,fy,fy,fy,fy,fy,fy,fy] rfl rfl (any_of HT_.out (by kernel_rfl)) (fun _ _ _ h => h) (Or.inr ⟨by rfl, rfl⟩) ?_ ?_
     rotate_left
     ·simp only [Act.put, qa, qb, qc, i64_w, i32_w]
      rfl
     refine pure_ (i := 8) (N := some 51) (v := undef) (a' := ?_) #[ty,ty,ty,ty,ty,ty,ty,ty,ty,fy,fy,fy,fy,fy,fy,fy,fy,fy,fy,fy] rfl rfl (any_of HT_.out (by kernel_rfl)) (fun _ _ _ h => h) (Or.inr ⟨by rfl, rfl⟩) ?_ ?_
     rotate_left
     ·simp only [Act.put, qa, qb, qc, i64_w, i32_w]
      rfl
     refine pure_ (i := 9) (N := some 52) (v := undef) (a' := ?_) #[ty,ty,ty,ty,ty,ty,ty,ty,ty,ty,fy,fy,fy,fy,fy,fy,fy,fy,fy,fy] rfl rfl (any_of HT_.out (by kernel_rfl)) (fun _ _ _ h => h) (Or.inr ⟨by rfl, rfl⟩) ?_ ?_
     rotate_left
     ·simp only [Act.put, qa, qb, qc, i64_w, i32_w]
      rfl
     refine pure_ (i := 10) (N := some 53) (v := ?_) (a' := ?_) #[ty,ty,ty,ty,ty,ty,ty,ty,ty,ty,ty,fy,fy,fy,fy,fy,fy,fy,fy,fy] rfl rfl (any_of HT_.out (by kernel_rfl)) (fun _ _ _ h => h) (Or.inl ⟨by rfl, ?_⟩) ?_ ?_
     rotate_left
     ·intro w'
      go_simp
      with_reducible rfl
     rotate_left
     ·simp only [Act.put, qa, qb, qc, i64_w, i32_w]
      rfl
     refine pure_ (i := 11) (N := some 54) (v := ?_) (a' := ?_) #[ty,ty,ty,ty,ty,ty,ty,ty,ty,ty,ty,ty,fy,fy,fy,fy,fy,fy,fy,fy] rfl rfl (any_of HT_.out (by kernel_rfl)) (fun _ _ _ h => h) (Or.inl ⟨by rfl, ?_⟩) ?_ ?_
     rotate_left
     ·intro w'
      go_simp
      with_reducible rfl
     rotate_left
     ·simp only [Act.put, qa, qb, qc, i64_w, i32_w]
      rfl
     refine pure_ (i := 12) (N := some 55) (v := undef) (a' := ?_) #[ty,ty,ty,ty,ty,ty,ty,ty,ty,ty,ty,ty,ty,fy,fy,fy,fy,fy,fy,fy] rfl rfl (any_of HT_.out (by kernel_rfl)) (fun _ _ _ h => h) (Or.inr ⟨by rfl, rfl⟩) ?_ ?_
     rotate_left
     ·simp only [Act.put, qa, qb, qc, i64_w, i32_w]
      rfl
     refine pure_ (i := 13) (N := some 56) (v := undef) (a' := ?_) #[ty,ty,ty,ty,ty,ty,ty,ty,ty,ty,ty,ty,ty,ty,fy,fy,fy,fy,fy,fy] rfl rfl (any_of HT_.out (by kernel_rfl)) (fun _ _ _ h => h) (Or.inr ⟨by rfl, rfl⟩) ?_ ?_
     rotate_left
     ·simp only [Act.put, qa, qb, qc, i64_w, i32_w]
      rfl
     refine pure_ (i := 14) (N := some 57) (v := undef) (a' := ?_) #[ty,ty,ty,ty,ty,ty,ty,ty,ty,ty,ty,ty,ty,ty,ty,fy,fy,fy,fy,fy] rfl rfl (any_of HT_.out (by kernel_rfl)) (fun _ _ _ h => h) (Or.inr ⟨by rfl, rfl⟩) ?_ ?_
     rotate_left
     ·simp only [Act.put, qa, qb, qc, i64_w, i32_w]
      rfl
     refine pure_ (i := 15) (N := some 58) (v := undef) (a' := ?_) #[ty,ty,ty,ty,ty,ty,ty,ty,ty,ty,ty,ty,ty,ty,ty,ty,fy,fy,fy,fy] rfl rfl (any_of HT_.out (by kernel_rfl)) (fun _ _ _ h => h) (Or.inr ⟨by rfl, rfl⟩) ?_ ?_
     rotate_left
     ·simp only [Act.put, qa, qb, qc, i64_w, i32_w]
      rfl
     refine pure_ (i := 16) (N := some 59) (v := undef) (a' := ?_) #[ty,ty,ty,ty,ty,ty,ty,ty,ty,ty,ty,ty,ty,ty,ty,ty,ty,fy,fy,fy] rfl rfl (any_of HT_.out (by kernel_rfl)) (fun _ _ _ h => h) (Or.inr ⟨by rfl, rfl⟩) ?_ ?_
     rotate_left
     ·simp only [Act.put, qa, qb, qc, i64_w, i32_w]
      rfl
     refine pure_ (i := 17) (N := some 60) (v := undef) (a' := ?_) #[ty,ty,ty,ty,ty,ty,ty,ty,ty,ty,ty,ty,ty,ty,ty,ty,ty,ty,fy,fy] rfl rfl (any_of HT_.out (by kernel_rfl)) (fun _ _ _ h => h) (Or.inr ⟨by rfl, rfl⟩) ?_ ?_
     rotate_left
     ·simp only [Act.put, qa, qb, qc, i64_w, i32_w]
      rfl
     refine pure_ (i := 18) (N := some 61) (v := undef) (a' := ?_) #[ty,ty,ty,ty,ty,ty,ty,ty,ty,ty,ty,ty,ty,ty,ty,ty,ty,ty,ty,fy] rfl rfl (any_of HT_.out (by kernel_rfl)) (fun _ _ _ h => h) (Or.inr ⟨by rfl, rfl⟩) ?_ ?_
     rotate_left
     ·simp only [Act.put, qa, qb, qc, i64_w, i32_w]
      rfl
     refine pure_ (i := 19) (N := some 62) (v := ?_) (a' := ?_) #[ty,ty,ty,ty,ty,ty,ty,ty,ty,ty,ty,ty,ty,ty,ty,ty,ty,ty,ty,ty] rfl rfl (any_of HT_.out (by kernel_rfl)) (fun _ _ _ h => h) (Or.inl ⟨by rfl, ?_⟩) ?_ ?_
     rotate_left
     ·intro w'
      go_simp
      with_reducible rfl
     rotate_left
     ·simp only [Act.put, qa, qb, qc, i64_w, i32_w]
      rfl
     refine done_ (done_of HT_.out (by kernel_rfl)) ?_
     try go_wp2
     go_ret2
     exact ⟨_, by first | rfl | (simp [errW_none, errW_some] <;> rfl) | (simp only [← hji18]; first | rfl | (simp [errW_none, errW_some] <;> rfl)) | (simp [*, errW_none, errW_some] <;> rfl), by first | exact Kd.S_nil _ _ _ _ _ | exact Kd.N_nil _ _ _ _ _ | exact Kd.V_nil _ _ _ _ _ | exact Kd.Q_nil _ _ _ _ _ | exact Kd.R_nil _ _ _ _ _, by repeat (first | (with_reducible first | exact HB.out | apply below_alloc | apply pw_below_drewN | apply below_drew1) | exact HB.out)⟩
    rw [if_pos c23] at H
    have c23b0 : ((rd x5_1 0) == 128) = true := beq_iff_eq.mpr c23
    have c23b1 : ((rd x5_1 0) != 128) = false := bne_eq_false_iff_eq.mpr c23
    clear c23
    by_cases c24 : (x5_1.length : Int) < (wrap64 (t273 + 4))
    ·rw [if_pos c24] at H
     have c24b0 : decide ((x5_1.length : Int) < (wrap64 (t273 + 4))) = true := decide_eq_true c24
     clear c24
     simp only [Option.some.injEq, Prod.mk.injEq] at H
     obtain ⟨rfl, rfl⟩ := H
     obtain ⟨Ao25, co25, eo25⟩ := Kd.N_slice HO_4.out
     subst eo25
     have p272 : 0 ≤ ((ji18) : Int) := of_decide_eq_true (by first | (with_reducible assumption) | assumption)
     have q272 : (ji18) < (x4_1.length : Int) := of_decide_eq_true (by first | (with_reducible assumption) | assumption)
     obtain ⟨ad272, A272_1, c272_1, e272, hx272_0, hx272_1, hl272_1, hi272_1⟩ := at_T56 (Kd.N_reads' HO_4.out).2.2 (ji18) p272 q272
     cases e272
     obtain ⟨ce272, hce272, hMe272, hcc272⟩ := Kd.N_get HO_4.out z56 (ji18) p272 (by first | exact q272 | exact of_decide_eq_true (by first | (with_reducible assumption) | assumption) | (have e_ := (Kd.N_reads' HO_4.out).1; omega))
     obtain ⟨ua272_1, uc272_1, rfl, ul272_1, ge272_1⟩ := k56_openF hMe272
     have hv272_1 := hcc272 1 _ rfl
     rw [add_field _ _ 1 (by omega)] at hv272_1
     replace hv272_1 := Option.some.inj (hv272_1.symm.trans hx272_1)
     injection hv272_1 with hva_ hvn_ hvc_
     rw [hva_] at ge272_1
     rw [hvc_] at ul272_1
     have HL272_1 := Aside0.mk (show Kd.V (Kd.int .u8) 5 _ w.heap.size _ _ ((rd_T56 x4_1 (ji18)).f1) from Kd.V_mk ul272_1 ge272_1)
     clear hva_ hvn_ hvc_ ge272_1 ul272_1
     clear hcc272 hce272
     have HR272_1 := Aside0.mk hi272_1
     have HC272_1 := Aside0.mk hl272_1
     clear hi272_1 hl272_1
     replace p272 := eq_true p272
     replace q272 := eq_true q272
     try go_wp2_with (first | ((with_reducible refine gate_callee (f := 28) rfl ?_); refine goesL_ (some 42) rfl rfl Try.func28 (by kernel_rfl) rfl #[.int .i64 (x4_1.length : Int), .slice A272_1 ((rd_T56 x4_1 (ji18)).f1).length c272_1] rfl (by (try simp only [List.map_toArray, List.map_cons, List.map_nil]); first | done | (simp only [hji18]; rfl) | rfl | (simp only [List.length_drop, List.length_take]; rfl)) ?_; (with_reducible refine (kotatsuref05_Bytes.calls (x4_1.length : Int) _ _ ((rd_T56 x4_1 (ji18)).f1) t273 _ ?side1 ?side2 A21.out).mono ?_); (case side1 => repeat (first | exact (by repeat (first | (with_reducible exact HR272_1.out) | (with_reducible refine Kd.C_alloc ?_ _) | (with_reducible refine Kd.C_drewN ?_ _) | (with_reducible refine Kd.C_drew ?_) | exact HR272_1.out)) | (with_reducible refine Kd.C_alloc ?_ _) | (with_reducible refine Kd.C_drewN ?_ _) | (with_reducible refine Kd.C_drew ?_))); (case side2 => exact HC272_1.out); rintro e w' ⟨rfl, ⟨nd, rfl⟩⟩; refine ⟨_, rfl, ?_⟩))
     (try (rw [drewN_self wc]; generalize hq_ : World.drewN wc _ = wc; have n0_ : Aside0 (Kd.V (Kd.int .u8) 5 wc w.heap.size (fun k_ => (P0_ k_ ∨ w.heap.size ≤ k_) ∧ some k_ ≠ (.slice (some ad272) x4_1.length co25 : Value).ownBlock) (.slice A272_1 ((rd_T56 x4_1 (ji18)).f1).length c272_1) ((rd_T56 x4_1 (ji18)).f1)) := ⟨by rw [← hq_]; exact (by (with_reducible repeat (first | apply Kd.V_alloc | apply Kd.V_drewN | apply Kd.V_drew)); exact HL272_1.out)⟩; have n1_ : Aside0 (Kd.N k56 56 wc w.heap.size (fun k_ => (P0_ k_ ∨ w.heap.size ≤ k_)) (.slice (some ad272) x4_1.length co25) x4_1) := ⟨by rw [← hq_]; exact (by (with_reducible repeat (first | apply Kd.N_alloc | apply Kd.N_drewN | apply Kd.N_drew)); exact HO_4.out)⟩; have n2_ : Aside0 (Kd.V (Kd.int .u8) 5 wc w.heap.size (fun k_ => (P0_ k_ ∨ w.heap.size ≤ k_) ∧ some k_ ≠ (.slice (some ad272) x4_1.length co25 : Value).ownBlock) u5 x5_1) := ⟨by rw [← hq_]; exact (by (with_reducible repeat (first | apply Kd.V_alloc | apply Kd.V_drewN | apply Kd.V_drew)); exact HO_5.out)⟩; have n3_ : Aside0 (Below w.heap.size w wc) := ⟨by rw [← hq_]; exact (by repeat (first | (with_reducible first | exact HB.out | apply below_alloc | apply pw_below_drewN | apply below_drew1) | exact HB.out))⟩; have n4_ : Aside0 (Kd.C (Kd.int .u8) wc A272_1 ((rd_T56 x4_1 (ji18)).f1).length ((rd_T56 x4_1 (ji18)).f1)) := ⟨by rw [← hq_]; exact (by repeat (first | (with_reducible exact HR272_1.out) | (with_reducible refine Kd.C_alloc ?_ _) | (with_reducible refine Kd.C_drewN ?_ _) | (with_reducible refine Kd.C_drew ?_) | exact HR272_1.out))⟩; clear HL272_1 HO_4 HO_5 HB HR272_1 hq_; have HL272_1 := n0_; have HO_4 := n1_; have HO_5 := n2_; have HB := n3_; have HR272_1 := n4_; clear n0_ n1_ n2_ n3_ n4_))
     have n0_ := Aside0.mk (Kd.N_drew HO_4.out)
     have n1_ := Aside0.mk (Kd.V_drew HO_5.out)
     have n2_ := Aside0.mk (Kd.V_drew HL272_1.out)
     have n3_ := Aside0.mk (Kd.C_drew HR272_1.out)
     have n4_ := Aside0.mk (below_drew1 HB.out)
     clear HO_4
     clear HO_5
     clear HL272_1
     clear HR272_1
     clear HB
     have HO_4 := n0_
     have HO_5 := n1_
     have HL272_1 := n2_
     have HR272_1 := n3_
     have HB := n4_
     clear n0_ n1_ n2_ n3_ n4_
     obtain ⟨Ao27, co27, eo27⟩ := Kd.V_slice HO_5.out
     (first | subst eo27 | (injection eo27 with f1_ f2_ f3_; have f4_ := f1_.symm; have f5_ := f3_.symm; clear f1_ f2_ f3_; subst f4_; subst f5_))
     have p274 : 0 ≤ (0 : Int) := (by omega)
     have q274 : 0 < (x5_1.length : Int) := of_decide_eq_true (by first | (with_reducible assumption) | assumption)
     obtain ⟨ad274, e274, hx274_0⟩ := Kd.at_int (Kd.V_reads' HO_5.out).2.2 0 p274 q274
     cases e274
     have qi274 : (0 < x5_1.length) = True := eq_true (by omega)
     (try rw [show ((0 : Int)).toNat = 0 from rfl] at hx274_0)
     (try rw [Addr.add_zero'] at hx274_0)
     replace p274 := eq_true p274
     replace q274 := eq_true q274
     refine start_ (n := 20) (S := fun w' => w'.cell? ad274 = some (.int .u8 (rd x5_1 0))) (ds := []) #[fy,fy,fy,fy,fy,fy,fy,fy,fy,fy,fy,fy,fy,fy,fy,fy,fy,fy,fy,fy] (by kernel_rfl) rfl rfl (hx274_0) (fun hHeld => ?_); refine with_tabW kotatsuref07_Read.tab11 kotatsuref07_Read.bits11 (fun HT_ HW_ => ?_)
     generalize wc.drew = w26 at HO_4 HO_5 HL272_1 HR272_1 HB hx274_0 hHeld ⊢
     refine pure_ (i := 0) (N := some 43) (v := ?_) (a' := ?_) #[ty,fy,fy,fy,fy,fy,fy,fy,fy,fy,fy,fy,fy,fy,fy,fy,fy,fy,fy,fy] rfl rfl (any_of HT_.out (by kernel_rfl)) (fun _ _ _ h => h) (Or.inl ⟨by rfl, ?_⟩) ?_ ?_
     rotate_left
     ·intro w'
      go_simp
      with_reducible rfl
     rotate_left
     ·simp only [Act.put, qa, qb, qc, i64_w, i32_w]
      rfl
     refine pure_ (i := 1) (N := some 44) (v := ?_) (a' := ?_) #[ty,ty,fy,fy,fy,fy,fy,fy,fy,fy,fy,fy,fy,fy,fy,fy,fy,fy,fy,fy] rfl rfl (any_of HT_.out (by kernel_rfl)) (fun _ _ _ h => h) (Or.inl ⟨by rfl, ?_⟩) ?_ ?_
     rotate_left
     ·intro w'
      go_simp
      with_reducible rfl
     rotate_left
     ·simp only [Act.put, qa, qb, qc, i64_w, i32_w]
      rfl
     refine take_ (i := 2) (N := some 45) (v := ?_) (a' := ?_) #[ty,ty,ty,fy,fy,fy,fy,fy,fy,fy,fy,fy,fy,fy,fy,fy,fy,fy,fy,fy] rfl rfl (take_ofW HT_.out HW_.out (by kernel_rfl)) (fun _ _ _ h => h) (Or.inl ⟨by rfl, ?_⟩) hHeld ?_ ?_
     rotate_left
     ·intro w' s0
      go_simp
      with_reducible rfl
     rotate_left
     ·simp only [Act.put, qa, qb, qc, i64_w, i32_w]
      rfl
     refine pure_ (i := 3) (N := some 46) (v := ?_) (a' := ?_) #[ty,ty,ty,ty,fy,fy,fy,fy,fy,fy,fy,fy,fy,fy,fy,fy,fy,fy,fy,fy] rfl rfl (any_of HT_.out (by kernel_rfl)) (fun _ _ _ h => h) (Or.inl ⟨by rfl, ?_⟩) ?_ ?_
     rotate_left
     ·intro w'
      go_simp
      with_reducible rfl
     rotate_left
     ·simp only [Act.put, qa, qb, qc, i64_w, i32_w]
      rfl
     refine pure_ (i := 4) (N := some 47) (v := ?_) (a' := ?_) #[ty,ty,ty,ty,ty,fy,fy,fy,fy,fy,fy,fy,fy,fy,fy,fy,fy,fy,fy,fy] rfl rfl (any_of HT_.out (by kernel_rfl)) (fun _ _ _ h => h) (Or.inl ⟨by rfl, ?_⟩) ?_ ?_
     rotate_left
     ·intro w'
      go_simp
      with_reducible rfl
     rotate_left
     ·simp only [Act.put, qa, qb, qc, i64_w, i32_w]
      rfl
     refine pure_ (i := 5) (N := some 48) (v := ?_) (a' := ?_) #[ty,ty,ty,ty,ty,ty,fy,fy,fy,fy,fy,fy,fy,fy,fy,fy,fy,fy,fy,fy] rfl rfl (any_of HT_.out (by kernel_rfl)) (fun _ _ _ h => h) (Or.inl ⟨by rfl, ?_⟩) ?_ ?_
     rotate_left
     ·intro w'
      go_simp
      with_reducible rfl
     rotate_left
     ·simp only [Act.put, qa, qb, qc, i64_w, i32_w]
      rfl
     refine pure_ (i := 6) (N := some 49) (v := ?_) (a' := ?_) #[ty,ty,ty,ty,ty,ty,ty,fy,fy,fy,fy,fy,fy,fy,fy,fy,fy,fy,fy,fy] rfl rfl (any_of HT_.out (by kernel_rfl)) (fun _ _ _ h => h) (Or.inl ⟨by rfl, ?_⟩) ?_ ?_
     rotate_left
     ·intro w'
      go_simp
      with_reducible rfl
     rotate_left
     ·simp only [Act.put, qa, qb, qc, i64_w, i32_w]
      rfl
     refine pure_ (i := 7) (N := some 50) (v := ?_) (a' := ?_) #[ty,ty,ty,ty,ty,ty,ty,ty,fy,fy,fy,fy,fy,fy,fy,fy,fy,fy,fy,fy] rfl rfl (any_of HT_.out (by kernel_rfl)) (fun _ _ _ h => h) (Or.inl ⟨by rfl, ?_⟩) ?_ ?_
     rotate_left
     ·intro w'
      go_simp
      with_reducible rfl
     rotate_left
     ·simp only [Act.put, qa, qb, qc, i64_w, i32_w]
      rfl
     refine pure_ (i := 8) (N := some 51) (v := ?_) (a' := ?_) #[ty,ty,ty,ty,ty,ty,ty,ty,ty,fy,fy,fy,fy,fy,fy,fy,fy,fy,fy,fy] rfl rfl (any_of HT_.out (by kernel_rfl)) (fun _ _ _ h => h) (Or.inl ⟨by rfl, ?_⟩) ?_ ?_
     rotate_left
     ·intro w'
      go_simp
      with_reducible rfl
     rotate_left
     ·simp only [Act.put, qa, qb, qc, i64_w, i32_w]
      rfl
     refine pure_ (i := 9) (N := some 52) (v := ?_) (a' := ?_) #[ty,ty,ty,ty,ty,ty,ty,ty,ty,ty,fy,fy,fy,fy,fy,fy,fy,fy,fy,fy] rfl rfl (any_of HT_.out (by kernel_rfl)) (fun _ _ _ h => h) (Or.inl ⟨by rfl, ?_⟩) ?_ ?_
     rotate_left
     ·intro w'
      go_simp
      with_reducible rfl
     rotate_left
     ·simp only [Act.put, qa, qb, qc, i64_w, i32_w]
      rfl
     refine pure_ (i := 10) (N := some 53) (v := ?_) (a' := ?_) #[ty,ty,ty,ty,ty,ty,ty,ty,ty,ty,ty,fy,fy,fy,fy,fy,fy,fy,fy,fy] rfl rfl (any_of HT_.out (by kernel_rfl)) (fun _ _ _ h => h) (Or.inl ⟨by rfl, ?_⟩) ?_ ?_
     rotate_left
     ·intro w'
      go_simp
      with_reducible rfl
     rotate_left
     ·simp only [Act.put, qa, qb, qc, i64_w, i32_w]
      rfl
     refine pure_ (i := 11) (N := some 54) (v := ?_) (a' := ?_) #[ty,ty,ty,ty,ty,ty,ty,ty,ty,ty,ty,ty,fy,fy,fy,fy,fy,fy,fy,fy] rfl rfl (any_of HT_.out (by kernel_rfl)) (fun _ _ _ h => h) (Or.inl ⟨by rfl, ?_⟩) ?_ ?_
     rotate_left
     ·intro w'
      go_simp
      with_reducible rfl
     rotate_left
     ·simp only [Act.put, qa, qb, qc, i64_w, i32_w]
      rfl
     refine pure_ (i := 12) (N := some 55) (v := undef) (a' := ?_) #[ty,ty,ty,ty,ty,ty,ty,ty,ty,ty,ty,ty,ty,fy,fy,fy,fy,fy,fy,fy] rfl rfl (any_of HT_.out (by kernel_rfl)) (fun _ _ _ h => h) (Or.inr ⟨by rfl, rfl⟩) ?_ ?_
     rotate_left
     ·simp only [Act.put, qa, qb, qc, i64_w, i32_w]
      rfl
     refine pure_ (i := 13) (N := some 56) (v := undef) (a' := ?_) #[ty,ty,ty,ty,ty,ty,ty,ty,ty,ty,ty,ty,ty,ty,fy,fy,fy,fy,fy,fy] rfl rfl (any_of HT_.out (by kernel_rfl)) (fun _ _ _ h => h) (Or.inr ⟨by rfl, rfl⟩) ?_ ?_
     rotate_left
     ·simp only [Act.put, qa, qb, qc, i64_w, i32_w]
      rfl
     refine pure_ (i := 14) (N := some 57) (v := undef) (a' := ?_) #[ty,ty,ty,ty,ty,ty,ty,ty,ty,ty,ty,ty,ty,ty,ty,fy,fy,fy,fy,fy] rfl rfl (any_of HT_.out (by kernel_rfl)) (fun _ _ _ h => h) (Or.inr ⟨by rfl, rfl⟩) ?_ ?_
     rotate_left
     ·simp only [Act.put, qa, qb, qc, i64_w, i32_w]
      rfl
     refine pure_ (i := 15) (N := some 58) (v := undef) (a' := ?_) #[ty,ty,ty,ty,ty,ty,ty,ty,ty,ty,ty,ty,ty,ty,ty,ty,fy,fy,fy,fy] rfl rfl (any_of HT_.out (by kernel_rfl)) (fun _ _ _ h => h) (Or.inr ⟨by rfl, rfl⟩) ?_ ?_
     rotate_left
     ·simp only [Act.put, qa, qb, qc, i64_w, i32_w]
      rfl
     refine pure_ (i := 16) (N := some 59) (v := undef) (a' := ?_) #[ty,ty,ty,ty,ty,ty,ty,ty,ty,ty,ty,ty,ty,ty,ty,ty,ty,fy,fy,fy] rfl rfl (any_of HT_.out (by kernel_rfl)) (fun _ _ _ h => h) (Or.inr ⟨by rfl, rfl⟩) ?_ ?_
     rotate_left
     ·simp only [Act.put, qa, qb, qc, i64_w, i32_w]
      rfl
     refine pure_ (i := 17) (N := some 60) (v := undef) (a' := ?_) #[ty,ty,ty,ty,ty,ty,ty,ty,ty,ty,ty,ty,ty,ty,ty,ty,ty,ty,fy,fy] rfl rfl (any_of HT_.out (by kernel_rfl)) (fun _ _ _ h => h) (Or.inr ⟨by rfl, rfl⟩) ?_ ?_
     rotate_left
     ·simp only [Act.put, qa, qb, qc, i64_w, i32_w]
      rfl
     refine pure_ (i := 18) (N := some 61) (v := undef) (a' := ?_) #[ty,ty,ty,ty,ty,ty,ty,ty,ty,ty,ty,ty,ty,ty,ty,ty,ty,ty,ty,fy] rfl rfl (any_of HT_.out (by kernel_rfl)) (fun _ _ _ h => h) (Or.inr ⟨by rfl, rfl⟩) ?_ ?_
     rotate_left
     ·simp only [Act.put, qa, qb, qc, i64_w, i32_w]
      rfl
     refine pure_ (i := 19) (N := some 62) (v := ?_) (a' := ?_) #[ty,ty,ty,ty,ty,ty,ty,ty,ty,ty,ty,ty,ty,ty,ty,ty,ty,ty,ty,ty] rfl rfl (any_of HT_.out (by kernel_rfl)) (fun _ _ _ h => h) (Or.inl ⟨by rfl, ?_⟩) ?_ ?_
     rotate_left
     ·intro w'
      go_simp
      with_reducible rfl
     rotate_left
     ·simp only [Act.put, qa, qb, qc, i64_w, i32_w]
      rfl
     refine done_ (done_of HT_.out (by kernel_rfl)) ?_
     try go_wp2
     go_ret2
     exact ⟨_, by first | rfl | (simp [errW_none, errW_some] <;> rfl) | (simp only [← hji18]; first | rfl | (simp [errW_none, errW_some] <;> rfl)) | (simp [*, errW_none, errW_some] <;> rfl), by first | exact Kd.S_nil _ _ _ _ _ | exact Kd.N_nil _ _ _ _ _ | exact Kd.V_nil _ _ _ _ _ | exact Kd.Q_nil _ _ _ _ _ | exact Kd.R_nil _ _ _ _ _, by repeat (first | (with_reducible first | exact HB.out | apply below_alloc | apply pw_below_drewN | apply below_drew1) | exact HB.out)⟩
    rw [if_neg c24] at H
    have c24b0 : decide ((x5_1.length : Int) < (wrap64 (t273 + 4))) = false := decide_eq_false c24
    clear c24
    by_cases c28 : 1 < (x5_1.length : Int)
    rotate_left
    ·rw [if_neg c28] at H
     exact absurd H (by simp)
    rw [if_pos c28] at H
    have c28b0 : decide (1 < (x5_1.length : Int)) = true := decide_eq_true c28
    have c28b1 : decide (1 < x5_1.length) = true := decide_eq_true (by omega)
    clear c28
    replace H := Option.bind_eq_some_iff.mp H
    obtain ⟨t276, A290, H⟩ := H
    replace H : (if (rd x5_1 1) = t276 then (if 0 ≤ (wrap64 (t273 + 2)) then (if (wrap64 (t273 + 2)) ≤ (x5_1.length : Int) then ((kotatsuref02_Short.f kj10 (x5_1.take ((wrap64 (t273 + 2)) : Int).toNat)).bind fun t282 => (if (wrap64 (t273 + 2)) ≤ (wrap64 (t273 + 4)) then (if (wrap64 (t273 + 4)) ≤ (x5_1.length : Int) then ((kotatsuref02_Take.f kj10 ((x5_1.take ((wrap64 (t273 + 4)) : Int).toNat).drop ((wrap64 (t273 + 2)) : Int).toNat)).bind fun t288 => (if (IntKind.u64.wrap (t282)) = t288 then (if 2 ≤ (wrap64 (t273 + 2)) then ((kotatsuref01_Join.f kj10 (([((x5_1.take ((wrap64 (t273 + 2)) : Int).toNat).drop 2)] : List (List Int)))).bind fun t298 => (if x4_1.length < 4398046511104 then (if 0 ≤ (wrap64 (t273 + 4)) then (kotatsuref07_Read.l0 kj10 (x4_1 ++ [(⟨rd x5_1 1, t298⟩ : S56)]) (x5_1.drop ((wrap64 (t273 + 4)) : Int).toNat)) else (none)) else (none))) else (none)) else (some (([] : List (S56)), 3)))) else (none)) else (none))) else (none)) else (none)) else (some (([] : List (S56)), 2))) = some (r1, r2) := H
    have A29 := Aside0.mk A290
    clear A290
    by_cases c30 : (rd x5_1 1) = t276
    rotate_left
    ·rw [if_neg c30] at H
     have c30b0 : ((rd x5_1 1) == t276) = false := beq_eq_false_iff_ne.mpr c30
     have c30b1 : ((rd x5_1 1) != t276) = true := bne_iff_ne.mpr c30
     simp only [Option.some.injEq, Prod.mk.injEq] at H
     obtain ⟨rfl, rfl⟩ := H
     obtain ⟨Ao70, co70, eo70⟩ := Kd.N_slice HO_4.out
     subst eo70
     have p272 : 0 ≤ ((ji18) : Int) := of_decide_eq_true (by first | (with_reducible assumption) | assumption)
     have q272 : (ji18) < (x4_1.length : Int) := of_decide_eq_true (by first | (with_reducible assumption) | assumption)
     obtain ⟨ad272, A272_1, c272_1, e272, hx272_0, hx272_1, hl272_1, hi272_1⟩ := at_T56 (Kd.N_reads' HO_4.out).2.2 (ji18) p272 q272
     cases e272
     obtain ⟨ce272, hce272, hMe272, hcc272⟩ := Kd.N_get HO_4.out z56 (ji18) p272 (by first | exact q272 | exact of_decide_eq_true (by first | (with_reducible assumption) | assumption) | (have e_ := (Kd.N_reads' HO_4.out).1; omega))
     obtain ⟨ua272_1, uc272_1, rfl, ul272_1, ge272_1⟩ := k56_openF hMe272
     have hv272_1 := hcc272 1 _ rfl
     rw [add_field _ _ 1 (by omega)] at hv272_1
     replace hv272_1 := Option.some.inj (hv272_1.symm.trans hx272_1)
     injection hv272_1 with hva_ hvn_ hvc_
     rw [hva_] at ge272_1
     rw [hvc_] at ul272_1
     have HL272_1 := Aside0.mk (show Kd.V (Kd.int .u8) 5 _ w.heap.size _ _ ((rd_T56 x4_1 (ji18)).f1) from Kd.V_mk ul272_1 ge272_1)
     clear hva_ hvn_ hvc_ ge272_1 ul272_1
     clear hcc272 hce272
     have HR272_1 := Aside0.mk hi272_1
     have HC272_1 := Aside0.mk hl272_1
     clear hi272_1 hl272_1
     replace p272 := eq_true p272
     replace q272 := eq_true q272
     try go_wp2_with (first | ((with_reducible refine gate_callee (f := 28) rfl ?_); refine goesL_ (some 42) rfl rfl Try.func28 (by kernel_rfl) rfl #[.int .i64 (x4_1.length : Int), .slice A272_1 ((rd_T56 x4_1 (ji18)).f1).length c272_1] rfl (by (try simp only [List.map_toArray, List.map_cons, List.map_nil]); first | done | (simp only [hji18]; rfl) | rfl | (simp only [List.length_drop, List.length_take]; rfl)) ?_; (with_reducible refine (kotatsuref05_Bytes.calls (x4_1.length : Int) _ _ ((rd_T56 x4_1 (ji18)).f1) t273 _ ?side1 ?side2 A21.out).mono ?_); (case side1 => repeat (first | exact (by repeat (first | (with_reducible exact HR272_1.out) | (with_reducible refine Kd.C_alloc ?_ _) | (with_reducible refine Kd.C_drewN ?_ _) | (with_reducible refine Kd.C_drew ?_) | exact HR272_1.out)) | (with_reducible refine Kd.C_alloc ?_ _) | (with_reducible refine Kd.C_drewN ?_ _) | (with_reducible refine Kd.C_drew ?_))); (case side2 => exact HC272_1.out); rintro e w' ⟨rfl, ⟨nd, rfl⟩⟩; refine ⟨_, rfl, ?_⟩))
     (try (rw [drewN_self wc]; generalize hq_ : World.drewN wc _ = wc; have n0_ : Aside0 (Kd.V (Kd.int .u8) 5 wc w.heap.size (fun k_ => (P0_ k_ ∨ w.heap.size ≤ k_) ∧ some k_ ≠ (.slice (some ad272) x4_1.length co70 : Value).ownBlock) (.slice A272_1 ((rd_T56 x4_1 (ji18)).f1).length c272_1) ((rd_T56 x4_1 (ji18)).f1)) := ⟨by rw [← hq_]; exact (by (with_reducible repeat (first | apply Kd.V_alloc | apply Kd.V_drewN | apply Kd.V_drew)); exact HL272_1.out)⟩; have n1_ : Aside0 (Kd.N k56 56 wc w.heap.size (fun k_ => (P0_ k_ ∨ w.heap.size ≤ k_)) (.slice (some ad272) x4_1.length co70) x4_1) := ⟨by rw [← hq_]; exact (by (with_reducible repeat (first | apply Kd.N_alloc | apply Kd.N_drewN | apply Kd.N_drew)); exact HO_4.out)⟩; have n2_ : Aside0 (Kd.V (Kd.int .u8) 5 wc w.heap.size (fun k_ => (P0_ k_ ∨ w.heap.size ≤ k_) ∧ some k_ ≠ (.slice (some ad272) x4_1.length co70 : Value).ownBlock) u5 x5_1) := ⟨by rw [← hq_]; exact (by (with_reducible repeat (first | apply Kd.V_alloc | apply Kd.V_drewN | apply Kd.V_drew)); exact HO_5.out)⟩; have n3_ : Aside0 (Below w.heap.size w wc) := ⟨by rw [← hq_]; exact (by repeat (first | (with_reducible first | exact HB.out | apply below_alloc | apply pw_below_drewN | apply below_drew1) | exact HB.out))⟩; have n4_ : Aside0 (Kd.C (Kd.int .u8) wc A272_1 ((rd_T56 x4_1 (ji18)).f1).length ((rd_T56 x4_1 (ji18)).f1)) := ⟨by rw [← hq_]; exact (by repeat (first | (with_reducible exact HR272_1.out) | (with_reducible refine Kd.C_alloc ?_ _) | (with_reducible refine Kd.C_drewN ?_ _) | (with_reducible refine Kd.C_drew ?_) | exact HR272_1.out))⟩; clear HL272_1 HO_4 HO_5 HB HR272_1 hq_; have HL272_1 := n0_; have HO_4 := n1_; have HO_5 := n2_; have HB := n3_; have HR272_1 := n4_; clear n0_ n1_ n2_ n3_ n4_))
     have n0_ := Aside0.mk (Kd.N_drew HO_4.out)
     have n1_ := Aside0.mk (Kd.V_drew HO_5.out)
     have n2_ := Aside0.mk (Kd.V_drew HL272_1.out)
     have n3_ := Aside0.mk (Kd.C_drew HR272_1.out)
     have n4_ := Aside0.mk (below_drew1 HB.out)
     clear HO_4
     clear HO_5
     clear HL272_1
     clear HR272_1
     clear HB
     have HO_4 := n0_
     have HO_5 := n1_
     have HL272_1 := n2_
     have HR272_1 := n3_
     have HB := n4_
     clear n0_ n1_ n2_ n3_ n4_
     obtain ⟨Ao72, co72, eo72⟩ := Kd.V_slice HO_5.out
     (first | subst eo72 | (injection eo72 with f1_ f2_ f3_; have f4_ := f1_.symm; have f5_ := f3_.symm; clear f1_ f2_ f3_; subst f4_; subst f5_))
     have p274 : 0 ≤ (0 : Int) := (by omega)
     have q274 : 0 < (x5_1.length : Int) := of_decide_eq_true (by first | (with_reducible assumption) | assumption)
     obtain ⟨ad274, e274, hx274_0⟩ := Kd.at_int (Kd.V_reads' HO_5.out).2.2 0 p274 q274
     cases e274
     have qi274 : (0 < x5_1.length) = True := eq_true (by omega)
     (try rw [show ((0 : Int)).toNat = 0 from rfl] at hx274_0)
     (try rw [Addr.add_zero'] at hx274_0)
     replace p274 := eq_true p274
     replace q274 := eq_true q274
     have p275 : 0 ≤ (1 : Int) := (by omega)
     have q275 : 1 < (x5_1.length : Int) := of_decide_eq_true (by first | (with_reducible assumption) | assumption)
     obtain ⟨ad275, e275, hx275_0⟩ := Kd.at_int (Kd.V_reads' HO_5.out).2.2 1 p275 q275
     obtain rfl : ad274 = ad275 := (by injection e275)
     (try simp only [show (1 : Int).toNat = 1 from rfl, Nat.reduceMul, Nat.reduceEqDiff, Go.Addr.add, ↓reduceIte] at hx275_0)
     have qi275 : (1 < x5_1.length) = True := eq_true (by omega)
     (try rw [show ((1 : Int)).toNat = 1 from rfl] at hx275_0)
     replace p275 := eq_true p275
     replace q275 := eq_true q275
     refine start_ (n := 20) (S := fun w' => w'.cell? ad274 = some (.int .u8 (rd x5_1 0)) ∧ w'.cell? ⟨ad274.block, ad274.off + 1, none⟩ = some (.int .u8 (rd x5_1 1))) (ds := []) #[fy,fy,fy,fy,fy,fy,fy,fy,fy,fy,fy,fy,fy,fy,fy,fy,fy,fy,fy,fy] (by kernel_rfl) rfl rfl ⟨hx274_0, hx275_0⟩ (fun hHeld => ?_); refine with_tabW kotatsuref07_Read.tab11 kotatsuref07_Read.bits11 (fun HT_ HW_ => ?_)
     generalize wc.drew = w71 at HO_4 HO_5 HL272_1 HR272_1 HB hx274_0 hx275_0 hHeld ⊢
     refine pure_ (i := 0) (N := some 43) (v := ?_) (a' := ?_) #[ty,fy,fy,fy,fy,fy,fy,fy,fy,fy,fy,fy,fy,fy,fy,fy,fy,fy,fy,fy] rfl rfl (any_of HT_.out (by kernel_rfl)) (fun _ _ _ h => h) (Or.inl ⟨by rfl, ?_⟩) ?_ ?_
     rotate_left
     ·intro w'
      go_simp
      with_reducible rfl
     rotate_left
     ·simp only [Act.put, qa, qb, qc, i64_w, i32_w]
      rfl
     refine pure_ (i := 1) (N := some 44) (v := ?_) (a' := ?_) #[ty,ty,fy,fy,fy,fy,fy,fy,fy,fy,fy,fy,fy,fy,fy,fy,fy,fy,fy,fy] rfl rfl (any_of HT_.out (by kernel_rfl)) (fun _ _ _ h => h) (Or.inl ⟨by rfl, ?_⟩) ?_ ?_
     rotate_left
     ·intro w'
      go_simp
      with_reducible rfl
     rotate_left
     ·simp only [Act.put, qa, qb, qc, i64_w, i32_w]
      rfl
     refine take_ (i := 2) (N := some 45) (v := ?_) (a' := ?_) #[ty,ty,ty,fy,fy,fy,fy,fy,fy,fy,fy,fy,fy,fy,fy,fy,fy,fy,fy,fy] rfl rfl (take_ofW HT_.out HW_.out (by kernel_rfl)) (fun _ _ _ h => h) (Or.inl ⟨by rfl, ?_⟩) hHeld ?_ ?_
     rotate_left
     ·rintro w' ⟨s0, s1⟩
      go_simp
      with_reducible rfl
     rotate_left
     ·simp only [Act.put, qa, qb, qc, i64_w, i32_w]
      rfl
     refine pure_ (i := 3) (N := some 46) (v := ?_) (a' := ?_) #[ty,ty,ty,ty,fy,fy,fy,fy,fy,fy,fy,fy,fy,fy,fy,fy,fy,fy,fy,fy] rfl rfl (any_of HT_.out (by kernel_rfl)) (fun _ _ _ h => h) (Or.inl ⟨by rfl, ?_⟩) ?_ ?_
     rotate_left
     ·intro w'
      go_simp
      with_reducible rfl
     rotate_left
     ·simp only [Act.put, qa, qb, qc, i64_w, i32_w]
      rfl
     refine pure_ (i := 4) (N := some 47) (v := ?_) (a' := ?_) #[ty,ty,ty,ty,ty,fy,fy,fy,fy,fy,fy,fy,fy,fy,fy,fy,fy,fy,fy,fy] rfl rfl (any_of HT_.out (by kernel_rfl)) (fun _ _ _ h => h) (Or.inl ⟨by rfl, ?_⟩) ?_ ?_
     rotate_left
     ·intro w'
      go_simp
      with_reducible rfl
     rotate_left
     ·simp only [Act.put, qa, qb, qc, i64_w, i32_w]
      rfl
     refine pure_ (i := 5) (N := some 48) (v := ?_) (a' := ?_) #[ty,ty,ty,ty,ty,ty,fy,fy,fy,fy,fy,fy,fy,fy,fy,fy,fy,fy,fy,fy] rfl rfl (any_of HT_.out (by kernel_rfl)) (fun _ _ _ h => h) (Or.inl ⟨by rfl, ?_⟩) ?_ ?_
     rotate_left
     ·intro w'
      go_simp
      with_reducible rfl
     rotate_left
     ·simp only [Act.put, qa, qb, qc, i64_w, i32_w]
      rfl
     refine pure_ (i := 6) (N := some 49) (v := ?_) (a' := ?_) #[ty,ty,ty,ty,ty,ty,ty,fy,fy,fy,fy,fy,fy,fy,fy,fy,fy,fy,fy,fy] rfl rfl (any_of HT_.out (by kernel_rfl)) (fun _ _ _ h => h) (Or.inl ⟨by rfl, ?_⟩) ?_ ?_
     rotate_left
     ·intro w'
      go_simp
      with_reducible rfl
     rotate_left
     ·simp only [Act.put, qa, qb, qc, i64_w, i32_w]
      rfl
     refine pure_ (i := 7) (N := some 50) (v := ?_) (a' := ?_) #[ty,ty,ty,ty,ty,ty,ty,ty,fy,fy,fy,fy,fy,fy,fy,fy,fy,fy,fy,fy] rfl rfl (any_of HT_.out (by kernel_rfl)) (fun _ _ _ h => h) (Or.inl ⟨by rfl, ?_⟩) ?_ ?_
     rotate_left
     ·intro w'
      go_simp
      with_reducible rfl
     rotate_left
     ·simp only [Act.put, qa, qb, qc, i64_w, i32_w]
      rfl
     refine pure_ (i := 8) (N := some 51) (v := ?_) (a' := ?_) #[ty,ty,ty,ty,ty,ty,ty,ty,ty,fy,fy,fy,fy,fy,fy,fy,fy,fy,fy,fy] rfl rfl (any_of HT_.out (by kernel_rfl)) (fun _ _ _ h => h) (Or.inl ⟨by rfl, ?_⟩) ?_ ?_
     rotate_left
     ·intro w'
      go_simp
      with_reducible rfl
     rotate_left
     ·simp only [Act.put, qa, qb, qc, i64_w, i32_w]
      rfl
     refine pure_ (i := 9) (N := some 52) (v := ?_) (a' := ?_) #[ty,ty,ty,ty,ty,ty,ty,ty,ty,ty,fy,fy,fy,fy,fy,fy,fy,fy,fy,fy] rfl rfl (any_of HT_.out (by kernel_rfl)) (fun _ _ _ h => h) (Or.inl ⟨by rfl, ?_⟩) ?_ ?_
     rotate_left
     ·intro w'
      go_simp
      with_reducible rfl
     rotate_left
     ·simp only [Act.put, qa, qb, qc, i64_w, i32_w]
      rfl
     refine pure_ (i := 10) (N := some 53) (v := ?_) (a' := ?_) #[ty,ty,ty,ty,ty,ty,ty,ty,ty,ty,ty,fy,fy,fy,fy,fy,fy,fy,fy,fy] rfl rfl (any_of HT_.out (by kernel_rfl)) (fun _ _ _ h => h) (Or.inl ⟨by rfl, ?_⟩) ?_ ?_
     rotate_left
     ·intro w'
      go_simp
      with_reducible rfl
     rotate_left
     ·simp only [Act.put, qa, qb, qc, i64_w, i32_w]
      rfl
     refine pure_ (i := 11) (N := some 54) (v := ?_) (a' := ?_) #[ty,ty,ty,ty,ty,ty,ty,ty,ty,ty,ty,ty,fy,fy,fy,fy,fy,fy,fy,fy] rfl rfl (any_of HT_.out (by kernel_rfl)) (fun _ _ _ h => h) (Or.inl ⟨by rfl, ?_⟩) ?_ ?_
     rotate_left
     ·intro w'
      go_simp
      with_reducible rfl
     rotate_left
     ·simp only [Act.put, qa, qb, qc, i64_w, i32_w]
      rfl
     refine pure_ (i := 12) (N := some 55) (v := ?_) (a' := ?_) #[ty,ty,ty,ty,ty,ty,ty,ty,ty,ty,ty,ty,ty,fy,fy,fy,fy,fy,fy,fy] rfl rfl (any_of HT_.out (by kernel_rfl)) (fun _ _ _ h => h) (Or.inl ⟨by rfl, ?_⟩) ?_ ?_
     rotate_left
     ·intro w'
      go_simp
      with_reducible rfl
     rotate_left
     ·simp only [Act.put, qa, qb, qc, i64_w, i32_w]
      rfl
     refine pure_ (i := 13) (N := some 56) (v := ?_) (a' := ?_) #[ty,ty,ty,ty,ty,ty,ty,ty,ty,ty,ty,ty,ty,ty,fy,fy,fy,fy,fy,fy] rfl rfl (any_of HT_.out (by kernel_rfl)) (fun _ _ _ h => h) (Or.inl ⟨by rfl, ?_⟩) ?_ ?_
     rotate_left
     ·intro w'
      go_simp
      with_reducible rfl
     rotate_left
     ·simp only [Act.put, qa, qb, qc, i64_w, i32_w]
      rfl
     refine pure_ (i := 15) (N := some 58) (v := ?_) (a' := ?_) #[ty,ty,ty,ty,ty,ty,ty,ty,ty,ty,ty,ty,ty,ty,fy,ty,fy,fy,fy,fy] rfl rfl (any_of HT_.out (by kernel_rfl)) (fun _ _ _ h => h) (Or.inl ⟨by rfl, ?_⟩) ?_ ?_
     rotate_left
     ·intro w'
      go_simp
      with_reducible rfl
     rotate_left
     ·simp only [Act.put, qa, qb, qc, i64_w, i32_w]
      rfl
     refine pure_ (i := 16) (N := some 59) (v := ?_) (a' := ?_) #[ty,ty,ty,ty,ty,ty,ty,ty,ty,ty,ty,ty,ty,ty,fy,ty,ty,fy,fy,fy] rfl rfl (any_of HT_.out (by kernel_rfl)) (fun _ _ _ h => h) (Or.inl ⟨by rfl, ?_⟩) ?_ ?_
     rotate_left
     ·intro w'
      go_simp
      with_reducible rfl
     rotate_left
     ·simp only [Act.put, qa, qb, qc, i64_w, i32_w]
      rfl
     refine take_ (i := 14) (N := some 57) (v := ?_) (a' := ?_) #[ty,ty,ty,ty,ty,ty,ty,ty,ty,ty,ty,ty,ty,ty,ty,ty,ty,fy,fy,fy] rfl rfl (take_ofW HT_.out HW_.out (by kernel_rfl)) (fun _ _ _ h => h) (Or.inl ⟨by rfl, ?_⟩) hHeld ?_ ?_
     rotate_left
     ·rintro w' ⟨s0, s1⟩
      go_simp
      with_reducible rfl
     rotate_left
     ·simp only [Act.put, qa, qb, qc, i64_w, i32_w]
      rfl
     refine one_ (i := 17) (N := some 60) #[ty,ty,ty,ty,ty,ty,ty,ty,ty,ty,ty,ty,ty,ty,ty,ty,ty,ty,fy,fy] rfl rfl (one_of HT_.out (by kernel_rfl)) (by decide) (fun K hK => ?_)
     refine goes_ Try.func29 (by kernel_rfl) rfl #[.int .i64 (x4_1.length : Int)] (by rfl) rfl rfl (by (try simp only [List.map_toArray, List.map_cons, List.map_nil]); first | done | rfl | (simp only [List.length_drop, List.length_take]; rfl)) ?_
     with_reducible refine (kotatsuref05_Kind.calls (x4_1.length : Int) t276 _ A29.out).mono ?_
     rintro e w' ⟨rfl, ⟨nd, rfl⟩⟩
     refine ⟨_, rfl, ?_⟩
     refine hK.out _ _ ⟨hHeld.1, hHeld.2⟩ (fun hHeld => ?_)
     clear hK K
     refine norm_ (a' := ?_) ?_ ?_
     rotate_left
     ·show Act.put _ (some 60) _ = _
      simp only [Act.put, qa, qb, qc, i64_w, i32_w]
      rfl
     refine pure_ (i := 18) (N := some 61) (v := ?_) (a' := ?_) #[ty,ty,ty,ty,ty,ty,ty,ty,ty,ty,ty,ty,ty,ty,ty,ty,ty,ty,ty,fy] rfl rfl (any_of HT_.out (by kernel_rfl)) (fun _ _ _ h => h) (Or.inl ⟨by rfl, ?_⟩) ?_ ?_
     rotate_left
     ·intro w'
      go_simp
      with_reducible rfl
     rotate_left
     ·simp only [Act.put, qa, qb, qc, i64_w, i32_w]
      rfl
     refine pure_ (i := 19) (N := some 62) (v := ?_) (a' := ?_) #[ty,ty,ty,ty,ty,ty,ty,ty,ty,ty,ty,ty,ty,ty,ty,ty,ty,ty,ty,ty] rfl rfl (any_of HT_.out (by kernel_rfl)) (fun _ _ _ h => h) (Or.inl ⟨by rfl, ?_⟩) ?_ ?_
     rotate_left
     ·intro w'
      go_simp
      with_reducible rfl
     rotate_left
     ·simp only [Act.put, qa, qb, qc, i64_w, i32_w]
      rfl
     refine done_ (done_of HT_.out (by kernel_rfl)) ?_
     try go_wp2
     go_ret2
     exact ⟨_, by first | rfl | (simp [errW_none, errW_some] <;> rfl) | (simp only [← hji18]; first | rfl | (simp [errW_none, errW_some] <;> rfl)) | (simp [*, errW_none, errW_some] <;> rfl), by first | exact Kd.S_nil _ _ _ _ _ | exact Kd.N_nil _ _ _ _ _ | exact Kd.V_nil _ _ _ _ _ | exact Kd.Q_nil _ _ _ _ _ | exact Kd.R_nil _ _ _ _ _, by repeat (first | (with_reducible first | exact HB.out | apply below_alloc | apply pw_below_drewN | apply below_drew1) | exact HB.out)⟩
    rw [if_pos c30] at H
    have c30b0 : ((rd x5_1 1) == t276) = true := beq_iff_eq.mpr c30
    have c30b1 : ((rd x5_1 1) != t276) = false := bne_eq_false_iff_eq.mpr c30
    clear c30
    obtain ⟨ji31, hji31⟩ : ∃ j_ : Int, (wrap64 (t273 + 2)) = j_ := ⟨_, rfl⟩
    replace H : (if 0 ≤ (ji31) then (if (ji31) ≤ (x5_1.length : Int) then ((kotatsuref02_Short.f kj10 (x5_1.take ((ji31) : Int).toNat)).bind fun t282 => (if (ji31) ≤ (wrap64 (t273 + 4)) then (if (wrap64 (t273 + 4)) ≤ (x5_1.length : Int) then ((kotatsuref02_Take.f kj10 ((x5_1.take ((wrap64 (t273 + 4)) : Int).toNat).drop ((ji31) : Int).toNat)).bind fun t288 => (if (IntKind.u64.wrap (t282)) = t288 then (if 2 ≤ (ji31) then ((kotatsuref01_Join.f kj10 (([((x5_1.take ((ji31) : Int).toNat).drop 2)] : List (List Int)))).bind fun t298 => (if x4_1.length < 4398046511104 then (if 0 ≤ (wrap64 (t273 + 4)) then (kotatsuref07_Read.l0 kj10 (x4_1 ++ [(⟨rd x5_1 1, t298⟩ : S56)]) (x5_1.drop ((wrap64 (t273 + 4)) : Int).toNat)) else (none)) else (none))) else (none)) else (some (([] : List (S56)), 3)))) else (none)) else (none))) else (none)) else (none)) = some (r1, r2) := by first | (rw [hji31] at H; exact H) | (simp only [hji31] at H ⊢; exact H)
    (try rw [hji31] at A21)
    (try rw [hji31] at A29)
    have hji31w : (IntKind.i64.wrap (t273 + 2)) = ji31 := (i64_w _).trans hji31
    by_cases c32 : 0 ≤ (ji31)
    rotate_left
    ·rw [if_neg c32] at H
     exact absurd H (by simp)
    rw [if_pos c32] at H
    have c32b0 := eq_true c32
    have c32b1 : decide (0 ≤ (ji31)) = true := decide_eq_true c32
    clear c32
    by_cases c33 : (ji31) ≤ (x5_1.length : Int)
    rotate_left
    ·rw [if_neg c33] at H
     exact absurd H (by simp)
    rw [if_pos c33] at H
    have c33b0 := eq_true c33
    have c33b1 : decide ((ji31) ≤ (x5_1.length : Int)) = true := decide_eq_true c33
    clear c33
    obtain ⟨y277, hy277⟩ : ∃ y_ : List Int, y_ = (x5_1.take ((ji31) : Int).toNat) := ⟨_, rfl⟩
    replace H : ((kotatsuref02_Short.f kj10 y277).bind fun t282 => (if (ji31) ≤ (wrap64 (t273 + 4)) then (if (wrap64 (t273 + 4)) ≤ (x5_1.length : Int) then ((kotatsuref02_Take.f kj10 ((x5_1.take ((wrap64 (t273 + 4)) : Int).toNat).drop ((ji31) : Int).toNat)).bind fun t288 => (if (IntKind.u64.wrap (t282)) = t288 then (if 2 ≤ (ji31) then ((kotatsuref01_Join.f kj10 (([((x5_1.take ((ji31) : Int).toNat).drop 2)] : List (List Int)))).bind fun t298 => (if x4_1.length < 4398046511104 then (if 0 ≤ (wrap64 (t273 + 4)) then (kotatsuref07_Read.l0 kj10 (x4_1 ++ [(⟨rd x5_1 1, t298⟩ : S56)]) (x5_1.drop ((wrap64 (t273 + 4)) : Int).toNat)) else (none)) else (none))) else (none)) else (some (([] : List (S56)), 3)))) else (none)) else (none))) = some (r1, r2) := by first | (rw [hy277]; with_reducible exact H) | (have H2_ := (Option.bind_some _ _).symm.trans H; rw [hy277]; with_reducible exact H2_) | (have H2_ := (Option.bind_some _ _).symm.trans H; with_reducible exact H2_) | with_reducible exact H | (rw [hy277]; exact H) | exact H
    have Ny277 := Aside0.mk hy277
    clear hy277
    replace H := Option.bind_eq_some_iff.mp H
    obtain ⟨t282, A340, H⟩ := H
    replace H : (if (ji31) ≤ (wrap64 (t273 + 4)) then (if (wrap64 (t273 + 4)) ≤ (x5_1.length : Int) then ((kotatsuref02_Take.f kj10 ((x5_1.take ((wrap64 (t273 + 4)) : Int).toNat).drop ((ji31) : Int).toNat)).bind fun t288 => (if (IntKind.u64.wrap (t282)) = t288 then (if 2 ≤ (ji31) then ((kotatsuref01_Join.f kj10 (([((x5_1.take ((ji31) : Int).toNat).drop 2)] : List (List Int)))).bind fun t298 => (if x4_1.length < 4398046511104 then (if 0 ≤ (wrap64 (t273 + 4)) then (kotatsuref07_Read.l0 kj10 (x4_1 ++ [(⟨rd x5_1 1, t298⟩ : S56)]) (x5_1.drop ((wrap64 (t273 + 4)) : Int).toNat)) else (none)) else (none))) else (none)) else (some (([] : List (S56)), 3)))) else (none)) else (none)) = some (r1, r2) := H
    have A34 := Aside0.mk A340
    clear A340
    have c35b0 := eq_true (of_decide_eq_true (by first | (with_reducible assumption) | assumption) : 0 ≤ (ji31))
    by_cases c36 : (ji31) ≤ (wrap64 (t273 + 4))
    rotate_left
    ·rw [if_neg c36] at H
     exact absurd H (by simp)
    rw [if_pos c36] at H
    have c36b0 := eq_true c36
    have c36b1 : decide ((ji31) ≤ (wrap64 (t273 + 4))) = true := decide_eq_true c36
    by_cases c37 : (wrap64 (t273 + 4)) ≤ (x5_1.length : Int)
    rotate_left
    ·rw [if_neg c37] at H
     exact absurd H (by simp)
    rw [if_pos c37] at H
    have c37b0 := eq_true c37
    have c37b1 : decide ((wrap64 (t273 + 4)) ≤ (x5_1.length : Int)) = true := decide_eq_true c37
    obtain ⟨y283, hy283⟩ : ∃ y_ : List Int, y_ = ((x5_1.take ((wrap64 (t273 + 4)) : Int).toNat).drop ((ji31) : Int).toNat) := ⟨_, rfl⟩
    replace H : ((kotatsuref02_Take.f kj10 y283).bind fun t288 => (if (IntKind.u64.wrap (t282)) = t288 then (if 2 ≤ (ji31) then ((kotatsuref01_Join.f kj10 (([((x5_1.take ((ji31) : Int).toNat).drop 2)] : List (List Int)))).bind fun t298 => (if x4_1.length < 4398046511104 then (if 0 ≤ (wrap64 (t273 + 4)) then (kotatsuref07_Read.l0 kj10 (x4_1 ++ [(⟨rd x5_1 1, t298⟩ : S56)]) (x5_1.drop ((wrap64 (t273 + 4)) : Int).toNat)) else (none)) else (none))) else (none)) else (some (([] : List (S56)), 3)))) = some (r1, r2) := by first | (rw [hy283]; with_reducible exact H) | (have H2_ := (Option.bind_some _ _).symm.trans H; rw [hy283]; with_reducible exact H2_) | (have H2_ := (Option.bind_some _ _).symm.trans H; with_reducible exact H2_) | with_reducible exact H | (rw [hy283]; exact H) | exact H
    have Ny283 := Aside0.mk hy283
    clear hy283
    replace H := Option.bind_eq_some_iff.mp H
    obtain ⟨t288, A380, H⟩ := H
    replace H : (if (IntKind.u64.wrap (t282)) = t288 then (if 2 ≤ (ji31) then ((kotatsuref01_Join.f kj10 (([((x5_1.take ((ji31) : Int).toNat).drop 2)] : List (List Int)))).bind fun t298 => (if x4_1.length < 4398046511104 then (if 0 ≤ (wrap64 (t273 + 4)) then (kotatsuref07_Read.l0 kj10 (x4_1 ++ [(⟨rd x5_1 1, t298⟩ : S56)]) (x5_1.drop ((wrap64 (t273 + 4)) : Int).toNat)) else (none)) else (none))) else (none)) else (some (([] : List (S56)), 3))) = some (r1, r2) := H
    have A38 := Aside0.mk A380
    clear A380
    by_cases c39 : (IntKind.u64.wrap (t282)) = t288
    rotate_left
    ·rw [if_neg c39] at H
     have c39b0 : ((IntKind.u64.wrap (t282)) == t288) = false := beq_eq_false_iff_ne.mpr c39
     have c39b1 : ((IntKind.u64.wrap (t282)) != t288) = true := bne_iff_ne.mpr c39
     simp only [Option.some.injEq, Prod.mk.injEq] at H
     obtain ⟨rfl, rfl⟩ := H
     obtain ⟨Ao63, co63, eo63⟩ := Kd.N_slice HO_4.out
     subst eo63
     have p272 : 0 ≤ ((ji18) : Int) := of_decide_eq_true (by first | (with_reducible assumption) | assumption)
     have q272 : (ji18) < (x4_1.length : Int) := of_decide_eq_true (by first | (with_reducible assumption) | assumption)
     obtain ⟨ad272, A272_1, c272_1, e272, hx272_0, hx272_1, hl272_1, hi272_1⟩ := at_T56 (Kd.N_reads' HO_4.out).2.2 (ji18) p272 q272
     cases e272
     obtain ⟨ce272, hce272, hMe272, hcc272⟩ := Kd.N_get HO_4.out z56 (ji18) p272 (by first | exact q272 | exact of_decide_eq_true (by first | (with_reducible assumption) | assumption) | (have e_ := (Kd.N_reads' HO_4.out).1; omega))
     obtain ⟨ua272_1, uc272_1, rfl, ul272_1, ge272_1⟩ := k56_openF hMe272
     have hv272_1 := hcc272 1 _ rfl
     rw [add_field _ _ 1 (by omega)] at hv272_1
     replace hv272_1 := Option.some.inj (hv272_1.symm.trans hx272_1)
     injection hv272_1 with hva_ hvn_ hvc_
     rw [hva_] at ge272_1
     rw [hvc_] at ul272_1
     have HL272_1 := Aside0.mk (show Kd.V (Kd.int .u8) 5 _ w.heap.size _ _ ((rd_T56 x4_1 (ji18)).f1) from Kd.V_mk ul272_1 ge272_1)
     clear hva_ hvn_ hvc_ ge272_1 ul272_1
     clear hcc272 hce272
     have HR272_1 := Aside0.mk hi272_1
     have HC272_1 := Aside0.mk hl272_1
     clear hi272_1 hl272_1
     replace p272 := eq_true p272
     replace q272 := eq_true q272
     try go_wp2_with (first | ((with_reducible refine gate_callee (f := 28) rfl ?_); refine goesL_ (some 42) rfl rfl Try.func28 (by kernel_rfl) rfl #[.int .i64 (x4_1.length : Int), .slice A272_1 ((rd_T56 x4_1 (ji18)).f1).length c272_1] rfl (by (try simp only [List.map_toArray, List.map_cons, List.map_nil]); first | done | (simp only [hji18]; rfl) | rfl | (simp only [List.length_drop, List.length_take]; rfl)) ?_; (with_reducible refine (kotatsuref05_Bytes.calls (x4_1.length : Int) _ _ ((rd_T56 x4_1 (ji18)).f1) t273 _ ?side1 ?side2 A21.out).mono ?_); (case side1 => repeat (first | exact (by repeat (first | (with_reducible exact HR272_1.out) | (with_reducible refine Kd.C_alloc ?_ _) | (with_reducible refine Kd.C_drewN ?_ _) | (with_reducible refine Kd.C_drew ?_) | exact HR272_1.out)) | (with_reducible refine Kd.C_alloc ?_ _) | (with_reducible refine Kd.C_drewN ?_ _) | (with_reducible refine Kd.C_drew ?_))); (case side2 => exact HC272_1.out); rintro e w' ⟨rfl, ⟨nd, rfl⟩⟩; refine ⟨_, rfl, ?_⟩))
     (try (rw [drewN_self wc]; generalize hq_ : World.drewN wc _ = wc; have n0_ : Aside0 (Kd.V (Kd.int .u8) 5 wc w.heap.size (fun k_ => (P0_ k_ ∨ w.heap.size ≤ k_) ∧ some k_ ≠ (.slice (some ad272) x4_1.length co63 : Value).ownBlock) (.slice A272_1 ((rd_T56 x4_1 (ji18)).f1).length c272_1) ((rd_T56 x4_1 (ji18)).f1)) := ⟨by rw [← hq_]; exact (by (with_reducible repeat (first | apply Kd.V_alloc | apply Kd.V_drewN | apply Kd.V_drew)); exact HL272_1.out)⟩; have n1_ : Aside0 (Kd.N k56 56 wc w.heap.size (fun k_ => (P0_ k_ ∨ w.heap.size ≤ k_)) (.slice (some ad272) x4_1.length co63) x4_1) := ⟨by rw [← hq_]; exact (by (with_reducible repeat (first | apply Kd.N_alloc | apply Kd.N_drewN | apply Kd.N_drew)); exact HO_4.out)⟩; have n2_ : Aside0 (Kd.V (Kd.int .u8) 5 wc w.heap.size (fun k_ => (P0_ k_ ∨ w.heap.size ≤ k_) ∧ some k_ ≠ (.slice (some ad272) x4_1.length co63 : Value).ownBlock) u5 x5_1) := ⟨by rw [← hq_]; exact (by (with_reducible repeat (first | apply Kd.V_alloc | apply Kd.V_drewN | apply Kd.V_drew)); exact HO_5.out)⟩; have n3_ : Aside0 (Below w.heap.size w wc) := ⟨by rw [← hq_]; exact (by repeat (first | (with_reducible first | exact HB.out | apply below_alloc | apply pw_below_drewN | apply below_drew1) | exact HB.out))⟩; have n4_ : Aside0 (Kd.C (Kd.int .u8) wc A272_1 ((rd_T56 x4_1 (ji18)).f1).length ((rd_T56 x4_1 (ji18)).f1)) := ⟨by rw [← hq_]; exact (by repeat (first | (with_reducible exact HR272_1.out) | (with_reducible refine Kd.C_alloc ?_ _) | (with_reducible refine Kd.C_drewN ?_ _) | (with_reducible refine Kd.C_drew ?_) | exact HR272_1.out))⟩; clear HL272_1 HO_4 HO_5 HB HR272_1 hq_; have HL272_1 := n0_; have HO_4 := n1_; have HO_5 := n2_; have HB := n3_; have HR272_1 := n4_; clear n0_ n1_ n2_ n3_ n4_))
     have n0_ := Aside0.mk (Kd.N_drew HO_4.out)
     have n1_ := Aside0.mk (Kd.V_drew HO_5.out)
     have n2_ := Aside0.mk (Kd.V_drew HL272_1.out)
     have n3_ := Aside0.mk (Kd.C_drew HR272_1.out)
     have n4_ := Aside0.mk (below_drew1 HB.out)
     clear HO_4
     clear HO_5
     clear HL272_1
     clear HR272_1
     clear HB
     have HO_4 := n0_
     have HO_5 := n1_
     have HL272_1 := n2_
     have HR272_1 := n3_
     have HB := n4_
     clear n0_ n1_ n2_ n3_ n4_
     obtain ⟨Ao65, co65, eo65⟩ := Kd.V_slice HO_5.out
     (first | subst eo65 | (injection eo65 with f1_ f2_ f3_; have f4_ := f1_.symm; have f5_ := f3_.symm; clear f1_ f2_ f3_; subst f4_; subst f5_))
     have p274 : 0 ≤ (0 : Int) := (by omega)
     have q274 : 0 < (x5_1.length : Int) := of_decide_eq_true (by first | (with_reducible assumption) | assumption)
     obtain ⟨ad274, e274, hx274_0⟩ := Kd.at_int (Kd.V_reads' HO_5.out).2.2 0 p274 q274
     cases e274
     have qi274 : (0 < x5_1.length) = True := eq_true (by omega)
     (try rw [show ((0 : Int)).toNat = 0 from rfl] at hx274_0)
     (try rw [Addr.add_zero'] at hx274_0)
     replace p274 := eq_true p274
     replace q274 := eq_true q274
     have p275 : 0 ≤ (1 : Int) := (by omega)
     have q275 : 1 < (x5_1.length : Int) := of_decide_eq_true (by first | (with_reducible assumption) | assumption)
     obtain ⟨ad275, e275, hx275_0⟩ := Kd.at_int (Kd.V_reads' HO_5.out).2.2 1 p275 q275
     obtain rfl : ad274 = ad275 := (by injection e275)
     (try simp only [show (1 : Int).toNat = 1 from rfl, Nat.reduceMul, Nat.reduceEqDiff, Go.Addr.add, ↓reduceIte] at hx275_0)
     have qi275 : (1 < x5_1.length) = True := eq_true (by omega)
     (try rw [show ((1 : Int)).toNat = 1 from rfl] at hx275_0)
     replace p275 := eq_true p275
     replace q275 := eq_true q275
     refine start_ (n := 20) (S := fun w' => w'.cell? ad274 = some (.int .u8 (rd x5_1 0)) ∧ w'.cell? ⟨ad274.block, ad274.off + 1, none⟩ = some (.int .u8 (rd x5_1 1))) (ds := []) #[fy,fy,fy,fy,fy,fy,fy,fy,fy,fy,fy,fy,fy,fy,fy,fy,fy,fy,fy,fy] (by kernel_rfl) rfl rfl ⟨hx274_0, hx275_0⟩ (fun hHeld => ?_); refine with_tabW kotatsuref07_Read.tab11 kotatsuref07_Read.bits11 (fun HT_ HW_ => ?_)
     generalize wc.drew = w64 at HO_4 HO_5 HL272_1 HR272_1 HB hx274_0 hx275_0 hHeld ⊢
     refine pure_ (i := 0) (N := some 43) (v := ?_) (a' := ?_) #[ty,fy,fy,fy,fy,fy,fy,fy,fy,fy,fy,fy,fy,fy,fy,fy,fy,fy,fy,fy] rfl rfl (any_of HT_.out (by kernel_rfl)) (fun _ _ _ h => h) (Or.inl ⟨by rfl, ?_⟩) ?_ ?_
     rotate_left
     ·intro w'
      go_simp
      with_reducible rfl
     rotate_left
     ·simp only [Act.put, qa, qb, qc, i64_w, i32_w]
      rfl
     refine pure_ (i := 1) (N := some 44) (v := ?_) (a' := ?_) #[ty,ty,fy,fy,fy,fy,fy,fy,fy,fy,fy,fy,fy,fy,fy,fy,fy,fy,fy,fy] rfl rfl (any_of HT_.out (by kernel_rfl)) (fun _ _ _ h => h) (Or.inl ⟨by rfl, ?_⟩) ?_ ?_
     rotate_left
     ·intro w'
      go_simp
      with_reducible rfl
     rotate_left
     ·simp only [Act.put, qa, qb, qc, i64_w, i32_w]
      rfl
     refine take_ (i := 2) (N := some 45) (v := ?_) (a' := ?_) #[ty,ty,ty,fy,fy,fy,fy,fy,fy,fy,fy,fy,fy,fy,fy,fy,fy,fy,fy,fy] rfl rfl (take_ofW HT_.out HW_.out (by kernel_rfl)) (fun _ _ _ h => h) (Or.inl ⟨by rfl, ?_⟩) hHeld ?_ ?_
     rotate_left
     ·rintro w' ⟨s0, s1⟩
      go_simp
      with_reducible rfl
     rotate_left
     ·simp only [Act.put, qa, qb, qc, i64_w, i32_w]
      rfl
     refine pure_ (i := 3) (N := some 46) (v := ?_) (a' := ?_) #[ty,ty,ty,ty,fy,fy,fy,fy,fy,fy,fy,fy,fy,fy,fy,fy,fy,fy,fy,fy] rfl rfl (any_of HT_.out (by kernel_rfl)) (fun _ _ _ h => h) (Or.inl ⟨by rfl, ?_⟩) ?_ ?_
     rotate_left
     ·intro w'
      go_simp
      with_reducible rfl
     rotate_left
     ·simp only [Act.put, qa, qb, qc, i64_w, i32_w]
      rfl
     refine pure_ (i := 4) (N := some 47) (v := ?_) (a' := ?_) #[ty,ty,ty,ty,ty,fy,fy,fy,fy,fy,fy,fy,fy,fy,fy,fy,fy,fy,fy,fy] rfl rfl (any_of HT_.out (by kernel_rfl)) (fun _ _ _ h => h) (Or.inl ⟨by rfl, ?_⟩) ?_ ?_
     rotate_left
     ·intro w'
      go_simp
      with_reducible rfl
     rotate_left
     ·simp only [Act.put, qa, qb, qc, i64_w, i32_w]
      rfl
     refine pure_ (i := 5) (N := some 48) (v := ?_) (a' := ?_) #[ty,ty,ty,ty,ty,ty,fy,fy,fy,fy,fy,fy,fy,fy,fy,fy,fy,fy,fy,fy] rfl rfl (any_of HT_.out (by kernel_rfl)) (fun _ _ _ h => h) (Or.inl ⟨by rfl, ?_⟩) ?_ ?_
     rotate_left
     ·intro w'
      go_simp
      with_reducible rfl
     rotate_left
     ·simp only [Act.put, qa, qb, qc, i64_w, i32_w]
      rfl
     refine pure_ (i := 6) (N := some 49) (v := ?_) (a' := ?_) #[ty,ty,ty,ty,ty,ty,ty,fy,fy,fy,fy,fy,fy,fy,fy,fy,fy,fy,fy,fy] rfl rfl (any_of HT_.out (by kernel_rfl)) (fun _ _ _ h => h) (Or.inl ⟨by rfl, ?_⟩) ?_ ?_
     rotate_left
     ·intro w'
      go_simp
      with_reducible rfl
     rotate_left
     ·simp only [Act.put, qa, qb, qc, i64_w, i32_w]
      rfl
     refine pure_ (i := 7) (N := some 50) (v := ?_) (a' := ?_) #[ty,ty,ty,ty,ty,ty,ty,ty,fy,fy,fy,fy,fy,fy,fy,fy,fy,fy,fy,fy] rfl rfl (any_of HT_.out (by kernel_rfl)) (fun _ _ _ h => h) (Or.inl ⟨by rfl, ?_⟩) ?_ ?_
     rotate_left
     ·intro w'
      go_simp
      with_reducible rfl
     rotate_left
     ·simp only [Act.put, qa, qb, qc, i64_w, i32_w]
      rfl
     refine pure_ (i := 8) (N := some 51) (v := ?_) (a' := ?_) #[ty,ty,ty,ty,ty,ty,ty,ty,ty,fy,fy,fy,fy,fy,fy,fy,fy,fy,fy,fy] rfl rfl (any_of HT_.out (by kernel_rfl)) (fun _ _ _ h => h) (Or.inl ⟨by rfl, ?_⟩) ?_ ?_
     rotate_left
     ·intro w'
      go_simp
      with_reducible rfl
     rotate_left
     ·simp only [Act.put, qa, qb, qc, i64_w, i32_w]
      rfl
     refine pure_ (i := 9) (N := some 52) (v := ?_) (a' := ?_) #[ty,ty,ty,ty,ty,ty,ty,ty,ty,ty,fy,fy,fy,fy,fy,fy,fy,fy,fy,fy] rfl rfl (any_of HT_.out (by kernel_rfl)) (fun _ _ _ h => h) (Or.inl ⟨by rfl, ?_⟩) ?_ ?_
     rotate_left
     ·intro w'
      go_simp
      with_reducible rfl
     rotate_left
     ·simp only [Act.put, qa, qb, qc, i64_w, i32_w]
      rfl
     refine pure_ (i := 10) (N := some 53) (v := ?_) (a' := ?_) #[ty,ty,ty,ty,ty,ty,ty,ty,ty,ty,ty,fy,fy,fy,fy,fy,fy,fy,fy,fy] rfl rfl (any_of HT_.out (by kernel_rfl)) (fun _ _ _ h => h) (Or.inl ⟨by rfl, ?_⟩) ?_ ?_
     rotate_left
     ·intro w'
      go_simp
      with_reducible rfl
     rotate_left
     ·simp only [Act.put, qa, qb, qc, i64_w, i32_w]
      rfl
     refine pure_ (i := 11) (N := some 54) (v := ?_) (a' := ?_) #[ty,ty,ty,ty,ty,ty,ty,ty,ty,ty,ty,ty,fy,fy,fy,fy,fy,fy,fy,fy] rfl rfl (any_of HT_.out (by kernel_rfl)) (fun _ _ _ h => h) (Or.inl ⟨by rfl, ?_⟩) ?_ ?_
     rotate_left
     ·intro w'
      go_simp
      with_reducible rfl
     rotate_left
     ·simp only [Act.put, qa, qb, qc, i64_w, i32_w]
      rfl
     refine pure_ (i := 12) (N := some 55) (v := ?_) (a' := ?_) #[ty,ty,ty,ty,ty,ty,ty,ty,ty,ty,ty,ty,ty,fy,fy,fy,fy,fy,fy,fy] rfl rfl (any_of HT_.out (by kernel_rfl)) (fun _ _ _ h => h) (Or.inl ⟨by rfl, ?_⟩) ?_ ?_
     rotate_left
     ·intro w'
      go_simp
      with_reducible rfl
     rotate_left
     ·simp only [Act.put, qa, qb, qc, i64_w, i32_w]
      rfl
     refine pure_ (i := 13) (N := some 56) (v := ?_) (a' := ?_) #[ty,ty,ty,ty,ty,ty,ty,ty,ty,ty,ty,ty,ty,ty,fy,fy,fy,fy,fy,fy] rfl rfl (any_of HT_.out (by kernel_rfl)) (fun _ _ _ h => h) (Or.inl ⟨by rfl, ?_⟩) ?_ ?_
     rotate_left
     ·intro w'
      go_simp
      with_reducible rfl
     rotate_left
     ·simp only [Act.put, qa, qb, qc, i64_w, i32_w]
      rfl
     refine pure_ (i := 15) (N := some 58) (v := ?_) (a' := ?_) #[ty,ty,ty,ty,ty,ty,ty,ty,ty,ty,ty,ty,ty,ty,fy,ty,fy,fy,fy,fy] rfl rfl (any_of HT_.out (by kernel_rfl)) (fun _ _ _ h => h) (Or.inl ⟨by rfl, ?_⟩) ?_ ?_
     rotate_left
     ·intro w'
      go_simp
      with_reducible rfl
     rotate_left
     ·simp only [Act.put, qa, qb, qc, i64_w, i32_w]
      rfl
     refine pure_ (i := 16) (N := some 59) (v := ?_) (a' := ?_) #[ty,ty,ty,ty,ty,ty,ty,ty,ty,ty,ty,ty,ty,ty,fy,ty,ty,fy,fy,fy] rfl rfl (any_of HT_.out (by kernel_rfl)) (fun _ _ _ h => h) (Or.inl ⟨by rfl, ?_⟩) ?_ ?_
     rotate_left
     ·intro w'
      go_simp
      with_reducible rfl
     rotate_left
     ·simp only [Act.put, qa, qb, qc, i64_w, i32_w]
      rfl
     refine take_ (i := 14) (N := some 57) (v := ?_) (a' := ?_) #[ty,ty,ty,ty,ty,ty,ty,ty,ty,ty,ty,ty,ty,ty,ty,ty,ty,fy,fy,fy] rfl rfl (take_ofW HT_.out HW_.out (by kernel_rfl)) (fun _ _ _ h => h) (Or.inl ⟨by rfl, ?_⟩) hHeld ?_ ?_
     rotate_left
     ·rintro w' ⟨s0, s1⟩
      go_simp
      with_reducible rfl
     rotate_left
     ·simp only [Act.put, qa, qb, qc, i64_w, i32_w]
      rfl
     refine one_ (i := 17) (N := some 60) #[ty,ty,ty,ty,ty,ty,ty,ty,ty,ty,ty,ty,ty,ty,ty,ty,ty,ty,fy,fy] rfl rfl (one_of HT_.out (by kernel_rfl)) (by decide) (fun K hK => ?_)
     refine goes_ Try.func29 (by kernel_rfl) rfl #[.int .i64 (x4_1.length : Int)] (by rfl) rfl rfl (by (try simp only [List.map_toArray, List.map_cons, List.map_nil]); first | done | rfl | (simp only [List.length_drop, List.length_take]; rfl)) ?_
     with_reducible refine (kotatsuref05_Kind.calls (x4_1.length : Int) t276 _ A29.out).mono ?_
     rintro e w' ⟨rfl, ⟨nd, rfl⟩⟩
     refine ⟨_, rfl, ?_⟩
     refine hK.out _ _ ⟨hHeld.1, hHeld.2⟩ (fun hHeld => ?_)
     clear hK K
     refine norm_ (a' := ?_) ?_ ?_
     rotate_left
     ·show Act.put _ (some 60) _ = _
      simp only [Act.put, qa, qb, qc, i64_w, i32_w]
      rfl
     refine pure_ (i := 18) (N := some 61) (v := ?_) (a' := ?_) #[ty,ty,ty,ty,ty,ty,ty,ty,ty,ty,ty,ty,ty,ty,ty,ty,ty,ty,ty,fy] rfl rfl (any_of HT_.out (by kernel_rfl)) (fun _ _ _ h => h) (Or.inl ⟨by rfl, ?_⟩) ?_ ?_
     rotate_left
     ·intro w'
      go_simp
      with_reducible rfl
     rotate_left
     ·simp only [Act.put, qa, qb, qc, i64_w, i32_w]
      rfl
     refine pure_ (i := 19) (N := some 62) (v := ?_) (a' := ?_) #[ty,ty,ty,ty,ty,ty,ty,ty,ty,ty,ty,ty,ty,ty,ty,ty,ty,ty,ty,ty] rfl rfl (any_of HT_.out (by kernel_rfl)) (fun _ _ _ h => h) (Or.inl ⟨by rfl, ?_⟩) ?_ ?_
     rotate_left
     ·intro w'
      go_simp
      with_reducible rfl
     rotate_left
     ·simp only [Act.put, qa, qb, qc, i64_w, i32_w]
      rfl
     refine done_ (done_of HT_.out (by kernel_rfl)) ?_
     try go_wp2
     (try (rw [drewN_self w64]; generalize hq_ : World.drewN w64 _ = w64; have n0_ : Aside0 (Kd.V (Kd.int .u8) 5 w64 w.heap.size (fun k_ => (P0_ k_ ∨ w.heap.size ≤ k_) ∧ some k_ ≠ (.slice (some ad272) x4_1.length co63 : Value).ownBlock) (.slice A272_1 ((rd_T56 x4_1 (ji18)).f1).length c272_1) ((rd_T56 x4_1 (ji18)).f1)) := ⟨by rw [← hq_]; exact (by (with_reducible repeat (first | apply Kd.V_alloc | apply Kd.V_drewN | apply Kd.V_drew)); exact HL272_1.out)⟩; have n1_ : Aside0 (Kd.N k56 56 w64 w.heap.size (fun k_ => (P0_ k_ ∨ w.heap.size ≤ k_)) (.slice (some ad272) x4_1.length co63) x4_1) := ⟨by rw [← hq_]; exact (by (with_reducible repeat (first | apply Kd.N_alloc | apply Kd.N_drewN | apply Kd.N_drew)); exact HO_4.out)⟩; have n2_ : Aside0 (Kd.V (Kd.int .u8) 5 w64 w.heap.size (fun k_ => (P0_ k_ ∨ w.heap.size ≤ k_) ∧ some k_ ≠ (.slice (some ad272) x4_1.length co63 : Value).ownBlock) (.slice (some ad274) x5_1.length co65) x5_1) := ⟨by rw [← hq_]; exact (by (with_reducible repeat (first | apply Kd.V_alloc | apply Kd.V_drewN | apply Kd.V_drew)); exact HO_5.out)⟩; have n3_ : Aside0 (Below w.heap.size w w64) := ⟨by rw [← hq_]; exact (by repeat (first | (with_reducible first | exact HB.out | apply below_alloc | apply pw_below_drewN | apply below_drew1) | exact HB.out))⟩; have n4_ : Aside0 (Kd.C (Kd.int .u8) w64 A272_1 ((rd_T56 x4_1 (ji18)).f1).length ((rd_T56 x4_1 (ji18)).f1)) := ⟨by rw [← hq_]; exact (by repeat (first | (with_reducible exact HR272_1.out) | (with_reducible refine Kd.C_alloc ?_ _) | (with_reducible refine Kd.C_drewN ?_ _) | (with_reducible refine Kd.C_drew ?_) | exact HR272_1.out))⟩; clear HL272_1 HO_4 HO_5 HB HR272_1 hq_; have HL272_1 := n0_; have HO_4 := n1_; have HO_5 := n2_; have HB := n3_; have HR272_1 := n4_; clear n0_ n1_ n2_ n3_ n4_))
     have n0_ := Aside0.mk (Kd.N_drew HO_4.out)
     have n1_ := Aside0.mk (Kd.V_drew HO_5.out)
     have n2_ := Aside0.mk (Kd.V_drew HL272_1.out)
     have n3_ := Aside0.mk (Kd.C_drew HR272_1.out)
     have n4_ := Aside0.mk (below_drew1 HB.out)
     clear HO_4
     clear HO_5
     clear HL272_1
     clear HR272_1
     clear HB
     have HO_4 := n0_
     have HO_5 := n1_
     have HL272_1 := n2_
     have HR272_1 := n3_
     have HB := n4_
     clear n0_ n1_ n2_ n3_ n4_
     have q67 : ((ji31) : Int) ≤ ((x5_1.length : Int) : Int) := of_decide_eq_true (by first | (with_reducible assumption) | assumption)
     obtain ⟨i067, hi067, _, hsz67, _⟩ := info_parts info5
     have hroom67 : x5_1.length ≤ co65 := (Kd.V_reads' HO_5.out).2.1
     have hC67 : Kd.F (Kd.int .u8) _ _ (some ad274) x5_1.length x5_1 := (Kd.V_at (base := w.heap.size) HO_5.out).2.2
     have hcut67 := cut_to (P := Try.prog) 22 5 .i64 Try.underlying22 hi067 (some ad274) x5_1.length co65 (ji31) (of_decide_eq_true (by first | (with_reducible assumption) | assumption)) q67 hroom67
     have hr67 := Kd.F_take (m := ((ji31) : Int).toNat) hC67 (by omega)
     have hy67 : y277.length = ((ji31) : Int).toNat := (by rw [Ny277.out, List.length_take]; omega)
     rw [← Ny277.out] at hr67
     rw [← hy67] at hcut67
     have HO281 := Aside0.mk (show Kd.V (Kd.int .u8) 5 _ w.heap.size _ (.slice (some ad274) y277.length co65) y277 from Kd.V_mk (by omega) hr67)
     have HC281 := Aside0.mk (show y277.length ≤ co65 from by omega)
     clear hr67 hC67 hroom67 hi067 hsz67
     have KY67 := Aside0.mk hy67
     clear hy67
     replace q67 := eq_true q67
     have q68 : ((wrap64 (t273 + 4)) : Int) ≤ ((x5_1.length : Int) : Int) := of_decide_eq_true (by first | (with_reducible assumption) | assumption)
     obtain ⟨i068, hi068, _, hsz68, _⟩ := info_parts info5
     have hroom68 : x5_1.length ≤ co65 := (Kd.V_reads' HO_5.out).2.1
     have hC68 : Kd.F (Kd.int .u8) _ _ (some ad274) x5_1.length x5_1 := (Kd.V_at (base := w.heap.size) HO_5.out).2.2
     have ql68 : ((ji31) : Int) ≤ ((wrap64 (t273 + 4)) : Int) := of_decide_eq_true (by first | (with_reducible assumption) | assumption)
     have q068 : (0 : Int) ≤ ((ji31) : Int) := of_decide_eq_true (by first | (with_reducible assumption) | assumption)
     have hcut68 := cut_mid (P := Try.prog) 22 5 .i64 .i64 Try.underlying22 hi068 1 hsz68 (some ad274) x5_1.length co65 (ji31) (wrap64 (t273 + 4)) q068 ql68 q68 hroom68
     have hr68 := Kd.F_mid (lo := ((ji31) : Int).toNat) (hi := ((wrap64 (t273 + 4)) : Int).toNat) (c := co65) hC68 (by omega) (by omega) hroom68
     obtain ⟨A68, hA68⟩ : ∃ A1, A1 = (if co65 = ((ji31) : Int).toNat then (some ad274) else ((some ad274) : Option Addr).map (·.add (((ji31) : Int).toNat * 1))) := ⟨_, rfl⟩
     obtain ⟨c68, hc68⟩ : ∃ c1, c1 = co65 - ((ji31) : Int).toNat := ⟨_, rfl⟩
     have hy68 : y283.length = ((wrap64 (t273 + 4)) : Int).toNat - ((ji31) : Int).toNat := (by rw [Ny283.out, List.length_drop, List.length_take] <;> omega)
     rw [show ((x5_1).take ((wrap64 (t273 + 4)) : Int).toNat).drop ((ji31) : Int).toNat = y283 from Ny283.out.symm] at hr68
     replace hr68 : Kd.F (Kd.int .u8) _ _ A68 y283.length y283 := (by rw [hA68]; exact hr68)
     rw [← hy68, ← hA68, ← hc68] at hcut68
     have HO287 := Aside0.mk (show Kd.V (Kd.int .u8) 5 _ w.heap.size _ (.slice A68 y283.length c68) y283 from Kd.V_mk (by rw [hy68, hc68]; exact Nat.sub_le_sub_right (Nat.le_trans (by omega) hroom68) _) hr68)
     have HC287 := Aside0.mk (show y283.length ≤ c68 from by rw [hy68, hc68]; exact Nat.sub_le_sub_right (Nat.le_trans (by omega) hroom68) _)
     clear hr68 hC68 hroom68 hi068 hsz68 hc68
     have KY68 := Aside0.mk hy68
     have KA68 := Aside0.mk hA68
     clear hy68 hA68
     replace q68 := eq_true q68
     refine start_ (n := 14) (S := fun w' => True) (ds := []) #[fy,fy,fy,fy,fy,fy,fy,fy,fy,fy,fy,fy,fy,fy] (by kernel_rfl) rfl rfl trivial (fun hHeld => ?_); refine with_tabW kotatsuref07_Read.tab13 kotatsuref07_Read.bits13 (fun HT_ HW_ => ?_)
     generalize w64.drew = w66 at HO_4 HO_5 HL272_1 HR272_1 HB HO281 HO287 hHeld ⊢
     refine pure_ (i := 0) (N := some 63) (v := ?_) (a' := ?_) #[ty,fy,fy,fy,fy,fy,fy,fy,fy,fy,fy,fy,fy,fy] rfl rfl (any_of HT_.out (by kernel_rfl)) (fun _ _ _ h => h) (Or.inl ⟨by rfl, ?_⟩) ?_ ?_
     rotate_left
     ·intro w'
      go_simp
      with_reducible rfl
     rotate_left
     ·simp only [Act.put, qa, qb, qc, i64_w, i32_w]
      rfl
     refine pure_ (i := 1) (N := some 64) (v := ?_) (a' := ?_) #[ty,ty,fy,fy,fy,fy,fy,fy,fy,fy,fy,fy,fy,fy] rfl rfl (any_of HT_.out (by kernel_rfl)) (fun _ _ _ h => h) (Or.inl ⟨by rfl, ?_⟩) ?_ ?_
     rotate_left
     ·intro w'
      go_simp
      with_reducible rfl
     rotate_left
     ·simp only [Act.put, qa, qb, qc, i64_w, i32_w]
      rfl
     refine pure_ (i := 2) (N := some 65) (v := ?_) (a' := ?_) #[ty,ty,ty,fy,fy,fy,fy,fy,fy,fy,fy,fy,fy,fy] rfl rfl (any_of HT_.out (by kernel_rfl)) (fun _ _ _ h => h) (Or.inl ⟨by rfl, ?_⟩) ?_ ?_
     rotate_left
     ·intro w'
      go_simp
      with_reducible rfl
     rotate_left
     ·simp only [Act.put, qa, qb, qc, i64_w, i32_w]
      rfl
     refine pure_ (i := 3) (N := some 66) (v := ?_) (a' := ?_) #[ty,ty,ty,ty,fy,fy,fy,fy,fy,fy,fy,fy,fy,fy] rfl rfl (any_of HT_.out (by kernel_rfl)) (fun _ _ _ h => h) (Or.inl ⟨by rfl, ?_⟩) ?_ ?_
     rotate_left
     ·intro w'
      go_simp
      with_reducible rfl
     rotate_left
     ·simp only [Act.put, qa, qb, qc, i64_w, i32_w]
      rfl
     refine pure_ (i := 6) (N := some 69) (v := ?_) (a' := ?_) #[ty,ty,ty,ty,fy,fy,ty,fy,fy,fy,fy,fy,fy,fy] rfl rfl (any_of HT_.out (by kernel_rfl)) (fun _ _ _ h => h) (Or.inl ⟨by rfl, ?_⟩) ?_ ?_
     rotate_left
     ·intro w'
      go_simp
      with_reducible rfl
     rotate_left
     ·simp only [Act.put, qa, qb, qc, i64_w, i32_w]
      rfl
     refine pure_ (i := 7) (N := some 70) (v := ?_) (a' := ?_) #[ty,ty,ty,ty,fy,fy,ty,ty,fy,fy,fy,fy,fy,fy] rfl rfl (any_of HT_.out (by kernel_rfl)) (fun _ _ _ h => h) (Or.inl ⟨by rfl, ?_⟩) ?_ ?_
     rotate_left
     ·intro w'
      go_simp
      with_reducible rfl
     rotate_left
     ·simp only [Act.put, qa, qb, qc, i64_w, i32_w]
      rfl
     refine pure_ (i := 8) (N := some 71) (v := ?_) (a' := ?_) #[ty,ty,ty,ty,fy,fy,ty,ty,ty,fy,fy,fy,fy,fy] rfl rfl (any_of HT_.out (by kernel_rfl)) (fun _ _ _ h => h) (Or.inl ⟨by rfl, ?_⟩) ?_ ?_
     rotate_left
     ·intro w'
      go_simp
      with_reducible rfl
     rotate_left
     ·simp only [Act.put, qa, qb, qc, i64_w, i32_w]
      rfl
     refine pure_ (i := 9) (N := some 72) (v := ?_) (a' := ?_) #[ty,ty,ty,ty,fy,fy,ty,ty,ty,ty,fy,fy,fy,fy] rfl rfl (any_of HT_.out (by kernel_rfl)) (fun _ _ _ h => h) (Or.inl ⟨by rfl, ?_⟩) ?_ ?_
     rotate_left
     ·intro w'
      go_simp
      with_reducible rfl
     rotate_left
     ·simp only [Act.put, qa, qb, qc, i64_w, i32_w]
      rfl
     refine pure_ (i := 10) (N := some 73) (v := ?_) (a' := ?_) #[ty,ty,ty,ty,fy,fy,ty,ty,ty,ty,ty,fy,fy,fy] rfl rfl (any_of HT_.out (by kernel_rfl)) (fun _ _ _ h => h) (Or.inl ⟨by rfl, ?_⟩) ?_ ?_
     rotate_left
     ·intro w'
      go_simp
      with_reducible rfl
     rotate_left
     ·simp only [Act.put, qa, qb, qc, i64_w, i32_w]
      rfl
     refine pure_ (i := 11) (N := some 74) (v := ?_) (a' := ?_) #[ty,ty,ty,ty,fy,fy,ty,ty,ty,ty,ty,ty,fy,fy] rfl rfl (any_of HT_.out (by kernel_rfl)) (fun _ _ _ h => h) (Or.inl ⟨by rfl, ?_⟩) ?_ ?_
     rotate_left
     ·intro w'
      go_simp
      with_reducible rfl
     rotate_left
     ·simp only [Act.put, qa, qb, qc, i64_w, i32_w]
      rfl
     refine one_ (i := 4) (N := some 67) #[ty,ty,ty,ty,ty,fy,ty,ty,ty,ty,ty,ty,fy,fy] rfl rfl (one_of HT_.out (by kernel_rfl)) (by decide) (fun K hK => ?_)
     refine goes_ Try.func26 (by kernel_rfl) rfl #[.slice (some ad274) y277.length co65] (by rfl) rfl rfl (by (try simp only [List.map_toArray, List.map_cons, List.map_nil]); first | done | rfl | (simp only [List.length_drop, List.length_take]; rfl)) ?_
     with_reducible refine (kotatsuref02_Short.calls kj10 (fun k_ => ((P0_ k_ ∨ w.heap.size ≤ k_) ∧ some k_ ≠ (.slice (some ad272) x4_1.length co63 : Value).ownBlock)) _ _ y277 t282 _ ?side1 A34.out).mono ?_
     (case side1 => exact HO281.out)
     rintro e w69 ⟨rfl, hb⟩
     refine ⟨_, rfl, ?_⟩
     have n0_ := Aside0.mk (Kd.N_below (by (with_reducible repeat (first | apply Kd.N_alloc | apply Kd.N_drewN | apply Kd.N_drew)); exact HO_4.out) hb)
     have n1_ := Aside0.mk (Kd.V_below (by (with_reducible repeat (first | apply Kd.V_alloc | apply Kd.V_drewN | apply Kd.V_drew)); exact HO_5.out) hb)
     have n2_ := Aside0.mk (Kd.V_below (by (with_reducible repeat (first | apply Kd.V_alloc | apply Kd.V_drewN | apply Kd.V_drew)); exact HL272_1.out) hb)
     have n3_ := Aside0.mk (Kd.V_below (by (with_reducible repeat (first | apply Kd.V_alloc | apply Kd.V_drewN | apply Kd.V_drew)); exact HO281.out) hb)
     have n4_ := Aside0.mk (Kd.V_below (by (with_reducible repeat (first | apply Kd.V_alloc | apply Kd.V_drewN | apply Kd.V_drew)); exact HO287.out) hb)
     have n5_ := Aside0.mk (Kd.C_below (by repeat (first | (with_reducible exact HR272_1.out) | (with_reducible refine Kd.C_alloc ?_ _) | (with_reducible refine Kd.C_drewN ?_ _) | (with_reducible refine Kd.C_drew ?_) | exact HR272_1.out)) hb)
     have n6_ := Aside0.mk (below_step (by repeat (first | (with_reducible first | exact HB.out | apply below_alloc | apply pw_below_drewN | apply below_drew1) | exact HB.out)) hb)
     clear HO_4
     clear HO_5
     clear HL272_1
     clear HO281
     clear HO287
     clear HR272_1
     clear HB
     have HO_4 := n0_
     have HO_5 := n1_
     have HL272_1 := n2_
     have HO281 := n3_
     have HO287 := n4_
     have HR272_1 := n5_
     have HB := n6_
     clear n0_ n1_ n2_ n3_ n4_ n5_ n6_
     (try clear hb)
     (try clear hb2)
     (try clear hk)
     (try clear hi)
     refine hK.out _ _ trivial (fun hHeld => ?_)
     clear hK K
     refine norm_ (a' := ?_) ?_ ?_
     rotate_left
     ·show Act.put _ (some 67) _ = _
      simp only [Act.put, qa, qb, qc, i64_w, i32_w]
      rfl
     refine pure_ (i := 5) (N := some 68) (v := ?_) (a' := ?_) #[ty,ty,ty,ty,ty,ty,ty,ty,ty,ty,ty,ty,fy,fy] rfl rfl (any_of HT_.out (by kernel_rfl)) (fun _ _ _ h => h) (Or.inl ⟨by rfl, ?_⟩) ?_ ?_
     rotate_left
     ·intro w'
      go_simp
      with_reducible rfl
     rotate_left
     ·simp only [Act.put, qa, qb, qc, i64_w, i32_w]
      rfl
     refine one_ (i := 12) (N := some 75) #[ty,ty,ty,ty,ty,ty,ty,ty,ty,ty,ty,ty,ty,fy] rfl rfl (one_of HT_.out (by kernel_rfl)) (by decide) (fun K hK => ?_)
     refine goes_ Try.func30 (by kernel_rfl) rfl #[.slice A68 y283.length c68] (by rfl) rfl rfl (by (try simp only [List.map_toArray, List.map_cons, List.map_nil]); first | done | rfl | (simp only [List.length_drop, List.length_take]; rfl)) ?_
     with_reducible refine (kotatsuref02_Take.calls kj10 _ _ y283 t288 _ ?side1 ?side2 A38.out).mono ?_
     (case side1 => repeat (first | exact (Kd.V_reads' HO287.out).2.2 | (with_reducible refine Kd.C_alloc ?_ _) | (with_reducible refine Kd.C_drewN ?_ _) | (with_reducible refine Kd.C_drew ?_)))
     (case side2 => exact (Kd.V_reads' HO287.out).2.1)
     rintro e w' ⟨rfl, ⟨nd, rfl⟩⟩
     refine ⟨_, rfl, ?_⟩
     refine hK.out _ _ trivial (fun hHeld => ?_)
     clear hK K
     refine norm_ (a' := ?_) ?_ ?_
     rotate_left
     ·show Act.put _ (some 75) _ = _
      simp only [Act.put, qa, qb, qc, i64_w, i32_w]
      rfl
     refine pure_ (i := 13) (N := some 76) (v := ?_) (a' := ?_) #[ty,ty,ty,ty,ty,ty,ty,ty,ty,ty,ty,ty,ty,ty] rfl rfl (any_of HT_.out (by kernel_rfl)) (fun _ _ _ h => h) (Or.inl ⟨by rfl, ?_⟩) ?_ ?_
     rotate_left
     ·intro w'
      go_simp
      with_reducible rfl
     rotate_left
     ·simp only [Act.put, qa, qb, qc, i64_w, i32_w]
      rfl
     refine done_ (done_of HT_.out (by kernel_rfl)) ?_
     try go_wp2
     go_ret2
     exact ⟨_, by first | rfl | (simp [errW_none, errW_some] <;> rfl) | (simp only [← hji18, ← hji31]; first | rfl | (simp [errW_none, errW_some] <;> rfl)) | (simp [*, errW_none, errW_some] <;> rfl), by first | exact Kd.S_nil _ _ _ _ _ | exact Kd.N_nil _ _ _ _ _ | exact Kd.V_nil _ _ _ _ _ | exact Kd.Q_nil _ _ _ _ _ | exact Kd.R_nil _ _ _ _ _, by repeat (first | (with_reducible first | exact HB.out | apply below_alloc | apply pw_below_drewN | apply below_drew1) | exact HB.out)⟩
    rw [if_pos c39] at H
    have c39b0 : ((IntKind.u64.wrap (t282)) == t288) = true := beq_iff_eq.mpr c39
    have c39b1 : ((IntKind.u64.wrap (t282)) != t288) = false := bne_eq_false_iff_eq.mpr c39
    clear c39
    by_cases c40 : 2 ≤ (ji31)
    rotate_left
    ·rw [if_neg c40] at H
     exact absurd H (by simp)
    rw [if_pos c40] at H
    have c40b0 := eq_true c40
    have c40b1 : decide (2 ≤ (ji31)) = true := decide_eq_true c40
    clear c40
    have c41b0 := eq_true (of_decide_eq_true (by first | (with_reducible assumption) | assumption) : (ji31) ≤ (x5_1.length : Int))
    obtain ⟨y290, hy290⟩ : ∃ y_ : List Int, y_ = ((x5_1.take ((ji31) : Int).toNat).drop 2) := ⟨_, rfl⟩
    replace H : ((kotatsuref01_Join.f kj10 (([y290] : List (List Int)))).bind fun t298 => (if x4_1.length < 4398046511104 then (if 0 ≤ (wrap64 (t273 + 4)) then (kotatsuref07_Read.l0 kj10 (x4_1 ++ [(⟨rd x5_1 1, t298⟩ : S56)]) (x5_1.drop ((wrap64 (t273 + 4)) : Int).toNat)) else (none)) else (none))) = some (r1, r2) := by first | (rw [hy290]; with_reducible exact H) | (have H2_ := (Option.bind_some _ _).symm.trans H; rw [hy290]; with_reducible exact H2_) | (have H2_ := (Option.bind_some _ _).symm.trans H; with_reducible exact H2_) | with_reducible exact H | (rw [hy290]; exact H) | exact H
    have Ny290 := Aside0.mk hy290
    clear hy290
    obtain ⟨y295, hy295⟩ : ∃ y_ : List (List Int), y_ = (([y290] : List (List Int))) := ⟨_, rfl⟩
    replace H : ((kotatsuref01_Join.f kj10 y295).bind fun t298 => (if x4_1.length < 4398046511104 then (if 0 ≤ (wrap64 (t273 + 4)) then (kotatsuref07_Read.l0 kj10 (x4_1 ++ [(⟨rd x5_1 1, t298⟩ : S56)]) (x5_1.drop ((wrap64 (t273 + 4)) : Int).toNat)) else (none)) else (none))) = some (r1, r2) := by first | (rw [hy295]; with_reducible exact H) | (have H2_ := (Option.bind_some _ _).symm.trans H; rw [hy295]; with_reducible exact H2_) | (have H2_ := (Option.bind_some _ _).symm.trans H; with_reducible exact H2_) | with_reducible exact H | (rw [hy295]; exact H) | exact H
    have Ny295 := Aside0.mk hy295
    clear hy295
    replace H := Option.bind_eq_some_iff.mp H
    obtain ⟨t298, A420, H⟩ := H
    replace H : (if x4_1.length < 4398046511104 then (if 0 ≤ (wrap64 (t273 + 4)) then (kotatsuref07_Read.l0 kj10 (x4_1 ++ [(⟨rd x5_1 1, t298⟩ : S56)]) (x5_1.drop ((wrap64 (t273 + 4)) : Int).toNat)) else (none)) else (none)) = some (r1, r2) := H
    have A42 := Aside0.mk A420
    clear A420
    by_cases c43 : x4_1.length < 4398046511104
    rotate_left
    ·rw [if_neg c43] at H
     exact absurd H (by simp)
    rw [if_pos c43] at H
    have LMc43 := Aside0.mk c43
    clear c43
    obtain ⟨y301, hy301⟩ : ∃ y_ : List (S56), y_ = (x4_1 ++ [(⟨rd x5_1 1, t298⟩ : S56)]) := ⟨_, rfl⟩
    replace H : (if 0 ≤ (wrap64 (t273 + 4)) then (kotatsuref07_Read.l0 kj10 y301 (x5_1.drop ((wrap64 (t273 + 4)) : Int).toNat)) else (none)) = some (r1, r2) := by first | (rw [hy301]; with_reducible exact H) | (have H2_ := (Option.bind_some _ _).symm.trans H; rw [hy301]; with_reducible exact H2_) | (have H2_ := (Option.bind_some _ _).symm.trans H; with_reducible exact H2_) | with_reducible exact H | (rw [hy301]; exact H) | exact H
    have Ny301 := Aside0.mk hy301
    clear hy301
    obtain ⟨ji44, hji44⟩ : ∃ j_ : Int, (wrap64 (t273 + 4)) = j_ := ⟨_, rfl⟩
    replace H : (if 0 ≤ (ji44) then (kotatsuref07_Read.l0 kj10 y301 (x5_1.drop ((ji44) : Int).toNat)) else (none)) = some (r1, r2) := by first | (rw [hji44] at H; exact H) | (simp only [hji44] at H ⊢; exact H)
    (try rw [hji44] at c24b0)
    (try rw [hji44] at c36b0)
    (try rw [hji44] at c36b1)
    (try rw [hji44] at c36)
    (try rw [hji44] at c37b0)
    (try rw [hji44] at c37b1)
    (try rw [hji44] at c37)
    (try rw [hji44] at A21)
    (try rw [hji44] at A29)
    (try rw [hji44] at A34)
    (try rw [hji44] at Ny283)
    (try rw [hji44] at A38)
    (try rw [hji44] at A42)
    have hji44w : (IntKind.i64.wrap (t273 + 4)) = ji44 := (i64_w _).trans hji44
    by_cases c45 : 0 ≤ (ji44)
    rotate_left
    ·rw [if_neg c45] at H
     exact absurd H (by simp)
    rw [if_pos c45] at H
    have c45b0 := eq_true c45
    have c45b1 : decide (0 ≤ (ji44)) = true := decide_eq_true c45
    clear c45
    have c46b0 := eq_true (of_decide_eq_true (by first | (with_reducible assumption) | assumption) : (ji44) ≤ (x5_1.length : Int))
    obtain ⟨y304, hy304⟩ : ∃ y_ : List Int, y_ = (x5_1.drop ((ji44) : Int).toNat) := ⟨_, rfl⟩
    replace H : (kotatsuref07_Read.l0 kj10 y301 y304) = some (r1, r2) := by first | (rw [hy304]; with_reducible exact H) | (have H2_ := (Option.bind_some _ _).symm.trans H; rw [hy304]; with_reducible exact H2_) | (have H2_ := (Option.bind_some _ _).symm.trans H; with_reducible exact H2_) | with_reducible exact H | (rw [hy304]; exact H) | exact H
    have Ny304 := Aside0.mk hy304
    clear hy304
    have H' := Aside0.mk H
    clear H
    obtain ⟨Ao47, co47, eo47⟩ := Kd.N_slice HO_4.out
    subst eo47
    have p272 : 0 ≤ ((ji18) : Int) := of_decide_eq_true (by first | (with_reducible assumption) | assumption)
    have q272 : (ji18) < (x4_1.length : Int) := of_decide_eq_true (by first | (with_reducible assumption) | assumption)
    obtain ⟨ad272, A272_1, c272_1, e272, hx272_0, hx272_1, hl272_1, hi272_1⟩ := at_T56 (Kd.N_reads' HO_4.out).2.2 (ji18) p272 q272
    cases e272
    obtain ⟨ce272, hce272, hMe272, hcc272⟩ := Kd.N_get HO_4.out z56 (ji18) p272 (by first | exact q272 | exact of_decide_eq_true (by first | (with_reducible assumption) | assumption) | (have e_ := (Kd.N_reads' HO_4.out).1; omega))
    obtain ⟨ua272_1, uc272_1, rfl, ul272_1, ge272_1⟩ := k56_openF hMe272
    have hv272_1 := hcc272 1 _ rfl
    rw [add_field _ _ 1 (by omega)] at hv272_1
    replace hv272_1 := Option.some.inj (hv272_1.symm.trans hx272_1)
    injection hv272_1 with hva_ hvn_ hvc_
    rw [hva_] at ge272_1
    rw [hvc_] at ul272_1
    have HL272_1 := Aside0.mk (show Kd.V (Kd.int .u8) 5 _ w.heap.size _ _ ((rd_T56 x4_1 (ji18)).f1) from Kd.V_mk ul272_1 ge272_1)
    clear hva_ hvn_ hvc_ ge272_1 ul272_1
    clear hcc272 hce272
    have HR272_1 := Aside0.mk hi272_1
    have HC272_1 := Aside0.mk hl272_1
    clear hi272_1 hl272_1
    replace p272 := eq_true p272
    replace q272 := eq_true q272
    try go_wp2_with (first | ((with_reducible refine gate_callee (f := 28) rfl ?_); refine goesL_ (some 42) rfl rfl Try.func28 (by kernel_rfl) rfl #[.int .i64 (x4_1.length : Int), .slice A272_1 ((rd_T56 x4_1 (ji18)).f1).length c272_1] rfl (by (try simp only [List.map_toArray, List.map_cons, List.map_nil]); first | done | (simp only [hji18]; rfl) | rfl | (simp only [List.length_drop, List.length_take]; rfl)) ?_; (with_reducible refine (kotatsuref05_Bytes.calls (x4_1.length : Int) _ _ ((rd_T56 x4_1 (ji18)).f1) t273 _ ?side1 ?side2 A21.out).mono ?_); (case side1 => repeat (first | exact (by repeat (first | (with_reducible exact HR272_1.out) | (with_reducible refine Kd.C_alloc ?_ _) | (with_reducible refine Kd.C_drewN ?_ _) | (with_reducible refine Kd.C_drew ?_) | exact HR272_1.out)) | (with_reducible refine Kd.C_alloc ?_ _) | (with_reducible refine Kd.C_drewN ?_ _) | (with_reducible refine Kd.C_drew ?_))); (case side2 => exact HC272_1.out); rintro e w' ⟨rfl, ⟨nd, rfl⟩⟩; refine ⟨_, rfl, ?_⟩))
    (try (rw [drewN_self wc]; generalize hq_ : World.drewN wc _ = wc; have n0_ : Aside0 (Kd.V (Kd.int .u8) 5 wc w.heap.size (fun k_ => (P0_ k_ ∨ w.heap.size ≤ k_) ∧ some k_ ≠ (.slice (some ad272) x4_1.length co47 : Value).ownBlock) (.slice A272_1 ((rd_T56 x4_1 (ji18)).f1).length c272_1) ((rd_T56 x4_1 (ji18)).f1)) := ⟨by rw [← hq_]; exact (by (with_reducible repeat (first | apply Kd.V_alloc | apply Kd.V_drewN | apply Kd.V_drew)); exact HL272_1.out)⟩; have n1_ : Aside0 (Kd.N k56 56 wc w.heap.size (fun k_ => (P0_ k_ ∨ w.heap.size ≤ k_)) (.slice (some ad272) x4_1.length co47) x4_1) := ⟨by rw [← hq_]; exact (by (with_reducible repeat (first | apply Kd.N_alloc | apply Kd.N_drewN | apply Kd.N_drew)); exact HO_4.out)⟩; have n2_ : Aside0 (Kd.V (Kd.int .u8) 5 wc w.heap.size (fun k_ => (P0_ k_ ∨ w.heap.size ≤ k_) ∧ some k_ ≠ (.slice (some ad272) x4_1.length co47 : Value).ownBlock) u5 x5_1) := ⟨by rw [← hq_]; exact (by (with_reducible repeat (first | apply Kd.V_alloc | apply Kd.V_drewN | apply Kd.V_drew)); exact HO_5.out)⟩; have n3_ : Aside0 (Below w.heap.size w wc) := ⟨by rw [← hq_]; exact (by repeat (first | (with_reducible first | exact HB.out | apply below_alloc | apply pw_below_drewN | apply below_drew1) | exact HB.out))⟩; have n4_ : Aside0 (Kd.C (Kd.int .u8) wc A272_1 ((rd_T56 x4_1 (ji18)).f1).length ((rd_T56 x4_1 (ji18)).f1)) := ⟨by rw [← hq_]; exact (by repeat (first | (with_reducible exact HR272_1.out) | (with_reducible refine Kd.C_alloc ?_ _) | (with_reducible refine Kd.C_drewN ?_ _) | (with_reducible refine Kd.C_drew ?_) | exact HR272_1.out))⟩; clear HL272_1 HO_4 HO_5 HB HR272_1 hq_; have HL272_1 := n0_; have HO_4 := n1_; have HO_5 := n2_; have HB := n3_; have HR272_1 := n4_; clear n0_ n1_ n2_ n3_ n4_))
    have n0_ := Aside0.mk (Kd.N_drew HO_4.out)
    have n1_ := Aside0.mk (Kd.V_drew HO_5.out)
    have n2_ := Aside0.mk (Kd.V_drew HL272_1.out)
    have n3_ := Aside0.mk (Kd.C_drew HR272_1.out)
    have n4_ := Aside0.mk (below_drew1 HB.out)
    clear HO_4
    clear HO_5
    clear HL272_1
    clear HR272_1
    clear HB
    have HO_4 := n0_
    have HO_5 := n1_
    have HL272_1 := n2_
    have HR272_1 := n3_
    have HB := n4_
    clear n0_ n1_ n2_ n3_ n4_
    obtain ⟨Ao49, co49, eo49⟩ := Kd.V_slice HO_5.out
    (first | subst eo49 | (injection eo49 with f1_ f2_ f3_; have f4_ := f1_.symm; have f5_ := f3_.symm; clear f1_ f2_ f3_; subst f4_; subst f5_))
    have p274 : 0 ≤ (0 : Int) := (by omega)
    have q274 : 0 < (x5_1.length : Int) := of_decide_eq_true (by first | (with_reducible assumption) | assumption)
    obtain ⟨ad274, e274, hx274_0⟩ := Kd.at_int (Kd.V_reads' HO_5.out).2.2 0 p274 q274
    cases e274
    have qi274 : (0 < x5_1.length) = True := eq_true (by omega)
    (try rw [show ((0 : Int)).toNat = 0 from rfl] at hx274_0)
    (try rw [Addr.add_zero'] at hx274_0)
    replace p274 := eq_true p274
    replace q274 := eq_true q274
    have p275 : 0 ≤ (1 : Int) := (by omega)
    have q275 : 1 < (x5_1.length : Int) := of_decide_eq_true (by first | (with_reducible assumption) | assumption)
    obtain ⟨ad275, e275, hx275_0⟩ := Kd.at_int (Kd.V_reads' HO_5.out).2.2 1 p275 q275
    obtain rfl : ad274 = ad275 := (by injection e275)
    (try simp only [show (1 : Int).toNat = 1 from rfl, Nat.reduceMul, Nat.reduceEqDiff, Go.Addr.add, ↓reduceIte] at hx275_0)
    have qi275 : (1 < x5_1.length) = True := eq_true (by omega)
    (try rw [show ((1 : Int)).toNat = 1 from rfl] at hx275_0)
    replace p275 := eq_true p275
    replace q275 := eq_true q275
    refine start_ (n := 20) (S := fun w' => w'.cell? ad274 = some (.int .u8 (rd x5_1 0)) ∧ w'.cell? ⟨ad274.block, ad274.off + 1, none⟩ = some (.int .u8 (rd x5_1 1))) (ds := []) #[fy,fy,fy,fy,fy,fy,fy,fy,fy,fy,fy,fy,fy,fy,fy,fy,fy,fy,fy,fy] (by kernel_rfl) rfl rfl ⟨hx274_0, hx275_0⟩ (fun hHeld => ?_); refine with_tabW kotatsuref07_Read.tab11 kotatsuref07_Read.bits11 (fun HT_ HW_ => ?_)
    generalize wc.drew = w48 at HO_4 HO_5 HL272_1 HR272_1 HB hx274_0 hx275_0 hHeld ⊢
    refine pure_ (i := 0) (N := some 43) (v := ?_) (a' := ?_) #[ty,fy,fy,fy,fy,fy,fy,fy,fy,fy,fy,fy,fy,fy,fy,fy,fy,fy,fy,fy] rfl rfl (any_of HT_.out (by kernel_rfl)) (fun _ _ _ h => h) (Or.inl ⟨by rfl, ?_⟩) ?_ ?_
    rotate_left
    ·intro w'
     go_simp
     with_reducible rfl
    rotate_left
    ·simp only [Act.put, qa, qb, qc, i64_w, i32_w]
     rfl
    refine pure_ (i := 1) (N := some 44) (v := ?_) (a' := ?_) #[ty,ty,fy,fy,fy,fy,fy,fy,fy,fy,fy,fy,fy,fy,fy,fy,fy,fy,fy,fy] rfl rfl (any_of HT_.out (by kernel_rfl)) (fun _ _ _ h => h) (Or.inl ⟨by rfl, ?_⟩) ?_ ?_
    rotate_left
    ·intro w'
     go_simp
     with_reducible rfl
    rotate_left
    ·simp only [Act.put, qa, qb, qc, i64_w, i32_w]
     rfl
    refine take_ (i := 2) (N := some 45) (v := ?_) (a' := ?_) #[ty,ty,ty,fy,fy,fy,fy,fy,fy,fy,fy,fy,fy,fy,fy,fy,fy,fy,fy,fy] rfl rfl (take_ofW HT_.out HW_.out (by kernel_rfl)) (fun _ _ _ h => h) (Or.inl ⟨by rfl, ?_⟩) hHeld ?_ ?_
    rotate_left
    ·rintro w' ⟨s0, s1⟩
     go_simp
     with_reducible rfl
    rotate_left
    ·simp only [Act.put, qa, qb, qc, i64_w, i32_w]
     rfl
    refine pure_ (i := 3) (N := some 46) (v := ?_) (a' := ?_) #[ty,ty,ty,ty,fy,fy,fy,fy,fy,fy,fy,fy,fy,fy,fy,fy,fy,fy,fy,fy] rfl rfl (any_of HT_.out (by kernel_rfl)) (fun _ _ _ h => h) (Or.inl ⟨by rfl, ?_⟩) ?_ ?_
    rotate_left
    ·intro w'
     go_simp
     with_reducible rfl
    rotate_left
    ·simp only [Act.put, qa, qb, qc, i64_w, i32_w]
     rfl
    refine pure_ (i := 4) (N := some 47) (v := ?_) (a' := ?_) #[ty,ty,ty,ty,ty,fy,fy,fy,fy,fy,fy,fy,fy,fy,fy,fy,fy,fy,fy,fy] rfl rfl (any_of HT_.out (by kernel_rfl)) (fun _ _ _ h => h) (Or.inl ⟨by rfl, ?_⟩) ?_ ?_
    rotate_left
    ·intro w'
     go_simp
     with_reducible rfl
    rotate_left
    ·simp only [Act.put, qa, qb, qc, i64_w, i32_w]
     rfl
    refine pure_ (i := 5) (N := some 48) (v := ?_) (a' := ?_) #[ty,ty,ty,ty,ty,ty,fy,fy,fy,fy,fy,fy,fy,fy,fy,fy,fy,fy,fy,fy] rfl rfl (any_of HT_.out (by kernel_rfl)) (fun _ _ _ h => h) (Or.inl ⟨by rfl, ?_⟩) ?_ ?_
    rotate_left
    ·intro w'
     go_simp
     with_reducible rfl
    rotate_left
    ·simp only [Act.put, qa, qb, qc, i64_w, i32_w]
     rfl
    refine pure_ (i := 6) (N := some 49) (v := ?_) (a' := ?_) #[ty,ty,ty,ty,ty,ty,ty,fy,fy,fy,fy,fy,fy,fy,fy,fy,fy,fy,fy,fy] rfl rfl (any_of HT_.out (by kernel_rfl)) (fun _ _ _ h => h) (Or.inl ⟨by rfl, ?_⟩) ?_ ?_
    rotate_left
    ·intro w'
     go_simp
     with_reducible rfl
    rotate_left
    ·simp only [Act.put, qa, qb, qc, i64_w, i32_w]
     rfl
    refine pure_ (i := 7) (N := some 50) (v := ?_) (a' := ?_) #[ty,ty,ty,ty,ty,ty,ty,ty,fy,fy,fy,fy,fy,fy,fy,fy,fy,fy,fy,fy] rfl rfl (any_of HT_.out (by kernel_rfl)) (fun _ _ _ h => h) (Or.inl ⟨by rfl, ?_⟩) ?_ ?_
    rotate_left
    ·intro w'
     go_simp
     with_reducible rfl
    rotate_left
    ·simp only [Act.put, qa, qb, qc, i64_w, i32_w]
     rfl
    refine pure_ (i := 8) (N := some 51) (v := ?_) (a' := ?_) #[ty,ty,ty,ty,ty,ty,ty,ty,ty,fy,fy,fy,fy,fy,fy,fy,fy,fy,fy,fy] rfl rfl (any_of HT_.out (by kernel_rfl)) (fun _ _ _ h => h) (Or.inl ⟨by rfl, ?_⟩) ?_ ?_
    rotate_left
    ·intro w'
     go_simp
     with_reducible rfl
    rotate_left
    ·simp only [Act.put, qa, qb, qc, i64_w, i32_w]
     rfl
    refine pure_ (i := 9) (N := some 52) (v := ?_) (a' := ?_) #[ty,ty,ty,ty,ty,ty,ty,ty,ty,ty,fy,fy,fy,fy,fy,fy,fy,fy,fy,fy] rfl rfl (any_of HT_.out (by kernel_rfl)) (fun _ _ _ h => h) (Or.inl ⟨by rfl, ?_⟩) ?_ ?_
    rotate_left
    ·intro w'
     go_simp
     with_reducible rfl
    rotate_left
    ·simp only [Act.put, qa, qb, qc, i64_w, i32_w]
     rfl
    refine pure_ (i := 10) (N := some 53) (v := ?_) (a' := ?_) #[ty,ty,ty,ty,ty,ty,ty,ty,ty,ty,ty,fy,fy,fy,fy,fy,fy,fy,fy,fy] rfl rfl (any_of HT_.out (by kernel_rfl)) (fun _ _ _ h => h) (Or.inl ⟨by rfl, ?_⟩) ?_ ?_
    rotate_left
    ·intro w'
     go_simp
     with_reducible rfl
    rotate_left
    ·simp only [Act.put, qa, qb, qc, i64_w, i32_w]
     rfl
    refine pure_ (i := 11) (N := some 54) (v := ?_) (a' := ?_) #[ty,ty,ty,ty,ty,ty,ty,ty,ty,ty,ty,ty,fy,fy,fy,fy,fy,fy,fy,fy] rfl rfl (any_of HT_.out (by kernel_rfl)) (fun _ _ _ h => h) (Or.inl ⟨by rfl, ?_⟩) ?_ ?_
    rotate_left
    ·intro w'
     go_simp
     with_reducible rfl
    rotate_left
    ·simp only [Act.put, qa, qb, qc, i64_w, i32_w]
     rfl
    refine pure_ (i := 12) (N := some 55) (v := ?_) (a' := ?_) #[ty,ty,ty,ty,ty,ty,ty,ty,ty,ty,ty,ty,ty,fy,fy,fy,fy,fy,fy,fy] rfl rfl (any_of HT_.out (by kernel_rfl)) (fun _ _ _ h => h) (Or.inl ⟨by rfl, ?_⟩) ?_ ?_
    rotate_left
    ·intro w'
     go_simp
     with_reducible rfl
    rotate_left
    ·simp only [Act.put, qa, qb, qc, i64_w, i32_w]
     rfl
    refine pure_ (i := 13) (N := some 56) (v := ?_) (a' := ?_) #[ty,ty,ty,ty,ty,ty,ty,ty,ty,ty,ty,ty,ty,ty,fy,fy,fy,fy,fy,fy] rfl rfl (any_of HT_.out (by kernel_rfl)) (fun _ _ _ h => h) (Or.inl ⟨by rfl, ?_⟩) ?_ ?_
    rotate_left
    ·intro w'
     go_simp
     with_reducible rfl
    rotate_left
    ·simp only [Act.put, qa, qb, qc, i64_w, i32_w]
     rfl
    refine pure_ (i := 15) (N := some 58) (v := ?_) (a' := ?_) #[ty,ty,ty,ty,ty,ty,ty,ty,ty,ty,ty,ty,ty,ty,fy,ty,fy,fy,fy,fy] rfl rfl (any_of HT_.out (by kernel_rfl)) (fun _ _ _ h => h) (Or.inl ⟨by rfl, ?_⟩) ?_ ?_
    rotate_left
    ·intro w'
     go_simp
     with_reducible rfl
    rotate_left
    ·simp only [Act.put, qa, qb, qc, i64_w, i32_w]
     rfl
    refine pure_ (i := 16) (N := some 59) (v := ?_) (a' := ?_) #[ty,ty,ty,ty,ty,ty,ty,ty,ty,ty,ty,ty,ty,ty,fy,ty,ty,fy,fy,fy] rfl rfl (any_of HT_.out (by kernel_rfl)) (fun _ _ _ h => h) (Or.inl ⟨by rfl, ?_⟩) ?_ ?_
    rotate_left
    ·intro w'
     go_simp
     with_reducible rfl
    rotate_left
    ·simp only [Act.put, qa, qb, qc, i64_w, i32_w]
     rfl
    refine take_ (i := 14) (N := some 57) (v := ?_) (a' := ?_) #[ty,ty,ty,ty,ty,ty,ty,ty,ty,ty,ty,ty,ty,ty,ty,ty,ty,fy,fy,fy] rfl rfl (take_ofW HT_.out HW_.out (by kernel_rfl)) (fun _ _ _ h => h) (Or.inl ⟨by rfl, ?_⟩) hHeld ?_ ?_
    rotate_left
    ·rintro w' ⟨s0, s1⟩
     go_simp
     with_reducible rfl
    rotate_left
    ·simp only [Act.put, qa, qb, qc, i64_w, i32_w]
     rfl
    refine one_ (i := 17) (N := some 60) #[ty,ty,ty,ty,ty,ty,ty,ty,ty,ty,ty,ty,ty,ty,ty,ty,ty,ty,fy,fy] rfl rfl (one_of HT_.out (by kernel_rfl)) (by decide) (fun K hK => ?_)
    refine goes_ Try.func29 (by kernel_rfl) rfl #[.int .i64 (x4_1.length : Int)] (by rfl) rfl rfl (by (try simp only [List.map_toArray, List.map_cons, List.map_nil]); first | done | rfl | (simp only [List.length_drop, List.length_take]; rfl)) ?_
    with_reducible refine (kotatsuref05_Kind.calls (x4_1.length : Int) t276 _ A29.out).mono ?_
    rintro e w' ⟨rfl, ⟨nd, rfl⟩⟩
    refine ⟨_, rfl, ?_⟩
    refine hK.out _ _ ⟨hHeld.1, hHeld.2⟩ (fun hHeld => ?_)
    clear hK K
    refine norm_ (a' := ?_) ?_ ?_
    rotate_left
    ·show Act.put _ (some 60) _ = _
     simp only [Act.put, qa, qb, qc, i64_w, i32_w]
     rfl
    refine pure_ (i := 18) (N := some 61) (v := ?_) (a' := ?_) #[ty,ty,ty,ty,ty,ty,ty,ty,ty,ty,ty,ty,ty,ty,ty,ty,ty,ty,ty,fy] rfl rfl (any_of HT_.out (by kernel_rfl)) (fun _ _ _ h => h) (Or.inl ⟨by rfl, ?_⟩) ?_ ?_
    rotate_left
    ·intro w'
     go_simp
     with_reducible rfl
    rotate_left
    ·simp only [Act.put, qa, qb, qc, i64_w, i32_w]
     rfl
    refine pure_ (i := 19) (N := some 62) (v := ?_) (a' := ?_) #[ty,ty,ty,ty,ty,ty,ty,ty,ty,ty,ty,ty,ty,ty,ty,ty,ty,ty,ty,ty] rfl rfl (any_of HT_.out (by kernel_rfl)) (fun _ _ _ h => h) (Or.inl ⟨by rfl, ?_⟩) ?_ ?_
    rotate_left
    ·intro w'
     go_simp
     with_reducible rfl
    rotate_left
    ·simp only [Act.put, qa, qb, qc, i64_w, i32_w]
     rfl
    refine done_ (done_of HT_.out (by kernel_rfl)) ?_
    try go_wp2
    (try (rw [drewN_self w48]; generalize hq_ : World.drewN w48 _ = w48; have n0_ : Aside0 (Kd.V (Kd.int .u8) 5 w48 w.heap.size (fun k_ => (P0_ k_ ∨ w.heap.size ≤ k_) ∧ some k_ ≠ (.slice (some ad272) x4_1.length co47 : Value).ownBlock) (.slice A272_1 ((rd_T56 x4_1 (ji18)).f1).length c272_1) ((rd_T56 x4_1 (ji18)).f1)) := ⟨by rw [← hq_]; exact (by (with_reducible repeat (first | apply Kd.V_alloc | apply Kd.V_drewN | apply Kd.V_drew)); exact HL272_1.out)⟩; have n1_ : Aside0 (Kd.N k56 56 w48 w.heap.size (fun k_ => (P0_ k_ ∨ w.heap.size ≤ k_)) (.slice (some ad272) x4_1.length co47) x4_1) := ⟨by rw [← hq_]; exact (by (with_reducible repeat (first | apply Kd.N_alloc | apply Kd.N_drewN | apply Kd.N_drew)); exact HO_4.out)⟩; have n2_ : Aside0 (Kd.V (Kd.int .u8) 5 w48 w.heap.size (fun k_ => (P0_ k_ ∨ w.heap.size ≤ k_) ∧ some k_ ≠ (.slice (some ad272) x4_1.length co47 : Value).ownBlock) (.slice (some ad274) x5_1.length co49) x5_1) := ⟨by rw [← hq_]; exact (by (with_reducible repeat (first | apply Kd.V_alloc | apply Kd.V_drewN | apply Kd.V_drew)); exact HO_5.out)⟩; have n3_ : Aside0 (Below w.heap.size w w48) := ⟨by rw [← hq_]; exact (by repeat (first | (with_reducible first | exact HB.out | apply below_alloc | apply pw_below_drewN | apply below_drew1) | exact HB.out))⟩; have n4_ : Aside0 (Kd.C (Kd.int .u8) w48 A272_1 ((rd_T56 x4_1 (ji18)).f1).length ((rd_T56 x4_1 (ji18)).f1)) := ⟨by rw [← hq_]; exact (by repeat (first | (with_reducible exact HR272_1.out) | (with_reducible refine Kd.C_alloc ?_ _) | (with_reducible refine Kd.C_drewN ?_ _) | (with_reducible refine Kd.C_drew ?_) | exact HR272_1.out))⟩; clear HL272_1 HO_4 HO_5 HB HR272_1 hq_; have HL272_1 := n0_; have HO_4 := n1_; have HO_5 := n2_; have HB := n3_; have HR272_1 := n4_; clear n0_ n1_ n2_ n3_ n4_))
    have n0_ := Aside0.mk (Kd.N_drew HO_4.out)
    have n1_ := Aside0.mk (Kd.V_drew HO_5.out)
    have n2_ := Aside0.mk (Kd.V_drew HL272_1.out)
    have n3_ := Aside0.mk (Kd.C_drew HR272_1.out)
    have n4_ := Aside0.mk (below_drew1 HB.out)
    clear HO_4
    clear HO_5
    clear HL272_1
    clear HR272_1
    clear HB
    have HO_4 := n0_
    have HO_5 := n1_
    have HL272_1 := n2_
    have HR272_1 := n3_
    have HB := n4_
    clear n0_ n1_ n2_ n3_ n4_
    have q51 : ((ji31) : Int) ≤ ((x5_1.length : Int) : Int) := of_decide_eq_true (by first | (with_reducible assumption) | assumption)
    obtain ⟨i051, hi051, _, hsz51, _⟩ := info_parts info5
    have hroom51 : x5_1.length ≤ co49 := (Kd.V_reads' HO_5.out).2.1
    have hC51 : Kd.F (Kd.int .u8) _ _ (some ad274) x5_1.length x5_1 := (Kd.V_at (base := w.heap.size) HO_5.out).2.2
    have hcut51 := cut_to (P := Try.prog) 22 5 .i64 Try.underlying22 hi051 (some ad274) x5_1.length co49 (ji31) (of_decide_eq_true (by first | (with_reducible assumption) | assumption)) q51 hroom51
    have hr51 := Kd.F_take (m := ((ji31) : Int).toNat) hC51 (by omega)
    have hy51 : y277.length = ((ji31) : Int).toNat := (by rw [Ny277.out, List.length_take]; omega)
    rw [← Ny277.out] at hr51
    rw [← hy51] at hcut51
    have HO281 := Aside0.mk (show Kd.V (Kd.int .u8) 5 _ w.heap.size _ (.slice (some ad274) y277.length co49) y277 from Kd.V_mk (by omega) hr51)
    have HC281 := Aside0.mk (show y277.length ≤ co49 from by omega)
    clear hr51 hC51 hroom51 hi051 hsz51
    have KY51 := Aside0.mk hy51
    clear hy51
    replace q51 := eq_true q51
    have q52 : ((ji44) : Int) ≤ ((x5_1.length : Int) : Int) := of_decide_eq_true (by first | (with_reducible assumption) | assumption)
    obtain ⟨i052, hi052, _, hsz52, _⟩ := info_parts info5
    have hroom52 : x5_1.length ≤ co49 := (Kd.V_reads' HO_5.out).2.1
    have hC52 : Kd.F (Kd.int .u8) _ _ (some ad274) x5_1.length x5_1 := (Kd.V_at (base := w.heap.size) HO_5.out).2.2
    have ql52 : ((ji31) : Int) ≤ ((ji44) : Int) := of_decide_eq_true (by first | (with_reducible assumption) | assumption)
    have q052 : (0 : Int) ≤ ((ji31) : Int) := of_decide_eq_true (by first | (with_reducible assumption) | assumption)
    have hcut52 := cut_mid (P := Try.prog) 22 5 .i64 .i64 Try.underlying22 hi052 1 hsz52 (some ad274) x5_1.length co49 (ji31) (ji44) q052 ql52 q52 hroom52
    have hr52 := Kd.F_mid (lo := ((ji31) : Int).toNat) (hi := ((ji44) : Int).toNat) (c := co49) hC52 (by omega) (by omega) hroom52
    obtain ⟨A52, hA52⟩ : ∃ A1, A1 = (if co49 = ((ji31) : Int).toNat then (some ad274) else ((some ad274) : Option Addr).map (·.add (((ji31) : Int).toNat * 1))) := ⟨_, rfl⟩
    obtain ⟨c52, hc52⟩ : ∃ c1, c1 = co49 - ((ji31) : Int).toNat := ⟨_, rfl⟩
    have hy52 : y283.length = ((ji44) : Int).toNat - ((ji31) : Int).toNat := (by rw [Ny283.out, List.length_drop, List.length_take] <;> omega)
    rw [show ((x5_1).take ((ji44) : Int).toNat).drop ((ji31) : Int).toNat = y283 from Ny283.out.symm] at hr52
    replace hr52 : Kd.F (Kd.int .u8) _ _ A52 y283.length y283 := (by rw [hA52]; exact hr52)
    rw [← hy52, ← hA52, ← hc52] at hcut52
    have HO287 := Aside0.mk (show Kd.V (Kd.int .u8) 5 _ w.heap.size _ (.slice A52 y283.length c52) y283 from Kd.V_mk (by rw [hy52, hc52]; exact Nat.sub_le_sub_right (Nat.le_trans (by omega) hroom52) _) hr52)
    have HC287 := Aside0.mk (show y283.length ≤ c52 from by rw [hy52, hc52]; exact Nat.sub_le_sub_right (Nat.le_trans (by omega) hroom52) _)
    clear hr52 hC52 hroom52 hi052 hsz52 hc52
    have KY52 := Aside0.mk hy52
    have KA52 := Aside0.mk hA52
    clear hy52 hA52
    replace q52 := eq_true q52
    refine start_ (n := 14) (S := fun w' => True) (ds := []) #[fy,fy,fy,fy,fy,fy,fy,fy,fy,fy,fy,fy,fy,fy] (by kernel_rfl) rfl rfl trivial (fun hHeld => ?_); refine with_tabW kotatsuref07_Read.tab13 kotatsuref07_Read.bits13 (fun HT_ HW_ => ?_)
    generalize w48.drew = w50 at HO_4 HO_5 HL272_1 HR272_1 HB HO281 HO287 hHeld ⊢
    refine pure_ (i := 0) (N := some 63) (v := ?_) (a' := ?_) #[ty,fy,fy,fy,fy,fy,fy,fy,fy,fy,fy,fy,fy,fy] rfl rfl (any_of HT_.out (by kernel_rfl)) (fun _ _ _ h => h) (Or.inl ⟨by rfl, ?_⟩) ?_ ?_
    rotate_left
    ·intro w'
     go_simp
     with_reducible rfl
    rotate_left
    ·simp only [Act.put, qa, qb, qc, i64_w, i32_w]
     rfl
    refine pure_ (i := 1) (N := some 64) (v := ?_) (a' := ?_) #[ty,ty,fy,fy,fy,fy,fy,fy,fy,fy,fy,fy,fy,fy] rfl rfl (any_of HT_.out (by kernel_rfl)) (fun _ _ _ h => h) (Or.inl ⟨by rfl, ?_⟩) ?_ ?_
    rotate_left
    ·intro w'
     go_simp
     with_reducible rfl
    rotate_left
    ·simp only [Act.put, qa, qb, qc, i64_w, i32_w]
     rfl
    refine pure_ (i := 2) (N := some 65) (v := ?_) (a' := ?_) #[ty,ty,ty,fy,fy,fy,fy,fy,fy,fy,fy,fy,fy,fy] rfl rfl (any_of HT_.out (by kernel_rfl)) (fun _ _ _ h => h) (Or.inl ⟨by rfl, ?_⟩) ?_ ?_
    rotate_left
    ·intro w'
     go_simp
     with_reducible rfl
    rotate_left
    ·simp only [Act.put, qa, qb, qc, i64_w, i32_w]
     rfl
    refine pure_ (i := 3) (N := some 66) (v := ?_) (a' := ?_) #[ty,ty,ty,ty,fy,fy,fy,fy,fy,fy,fy,fy,fy,fy] rfl rfl (any_of HT_.out (by kernel_rfl)) (fun _ _ _ h => h) (Or.inl ⟨by rfl, ?_⟩) ?_ ?_
    rotate_left
    ·intro w'
     go_simp
     with_reducible rfl
    rotate_left
    ·simp only [Act.put, qa, qb, qc, i64_w, i32_w]
     rfl
    refine pure_ (i := 6) (N := some 69) (v := ?_) (a' := ?_) #[ty,ty,ty,ty,fy,fy,ty,fy,fy,fy,fy,fy,fy,fy] rfl rfl (any_of HT_.out (by kernel_rfl)) (fun _ _ _ h => h) (Or.inl ⟨by rfl, ?_⟩) ?_ ?_
    rotate_left
    ·intro w'
     go_simp
     with_reducible rfl
    rotate_left
    ·simp only [Act.put, qa, qb, qc, i64_w, i32_w]
     rfl
    refine pure_ (i := 7) (N := some 70) (v := ?_) (a' := ?_) #[ty,ty,ty,ty,fy,fy,ty,ty,fy,fy,fy,fy,fy,fy] rfl rfl (any_of HT_.out (by kernel_rfl)) (fun _ _ _ h => h) (Or.inl ⟨by rfl, ?_⟩) ?_ ?_
    rotate_left
    ·intro w'
     go_simp
     with_reducible rfl
    rotate_left
    ·simp only [Act.put, qa, qb, qc, i64_w, i32_w]
     rfl
    refine pure_ (i := 8) (N := some 71) (v := ?_) (a' := ?_) #[ty,ty,ty,ty,fy,fy,ty,ty,ty,fy,fy,fy,fy,fy] rfl rfl (any_of HT_.out (by kernel_rfl)) (fun _ _ _ h => h) (Or.inl ⟨by rfl, ?_⟩) ?_ ?_
    rotate_left
    ·intro w'
     go_simp
     with_reducible rfl
    rotate_left
    ·simp only [Act.put, qa, qb, qc, i64_w, i32_w]
     rfl
    refine pure_ (i := 9) (N := some 72) (v := ?_) (a' := ?_) #[ty,ty,ty,ty,fy,fy,ty,ty,ty,ty,fy,fy,fy,fy] rfl rfl (any_of HT_.out (by kernel_rfl)) (fun _ _ _ h => h) (Or.inl ⟨by rfl, ?_⟩) ?_ ?_
    rotate_left
    ·intro w'
     go_simp
     with_reducible rfl
    rotate_left
    ·simp only [Act.put, qa, qb, qc, i64_w, i32_w]
     rfl
    refine pure_ (i := 10) (N := some 73) (v := ?_) (a' := ?_) #[ty,ty,ty,ty,fy,fy,ty,ty,ty,ty,ty,fy,fy,fy] rfl rfl (any_of HT_.out (by kernel_rfl)) (fun _ _ _ h => h) (Or.inl ⟨by rfl, ?_⟩) ?_ ?_
    rotate_left
    ·intro w'
     go_simp
     with_reducible rfl
    rotate_left
    ·simp only [Act.put, qa, qb, qc, i64_w, i32_w]
     rfl
    refine pure_ (i := 11) (N := some 74) (v := ?_) (a' := ?_) #[ty,ty,ty,ty,fy,fy,ty,ty,ty,ty,ty,ty,fy,fy] rfl rfl (any_of HT_.out (by kernel_rfl)) (fun _ _ _ h => h) (Or.inl ⟨by rfl, ?_⟩) ?_ ?_
    rotate_left
    ·intro w'
     go_simp
     with_reducible rfl
    rotate_left
    ·simp only [Act.put, qa, qb, qc, i64_w, i32_w]
     rfl
    refine one_ (i := 4) (N := some 67) #[ty,ty,ty,ty,ty,fy,ty,ty,ty,ty,ty,ty,fy,fy] rfl rfl (one_of HT_.out (by kernel_rfl)) (by decide) (fun K hK => ?_)
    refine goes_ Try.func26 (by kernel_rfl) rfl #[.slice (some ad274) y277.length co49] (by rfl) rfl rfl (by (try simp only [List.map_toArray, List.map_cons, List.map_nil]); first | done | rfl | (simp only [List.length_drop, List.length_take]; rfl)) ?_
    with_reducible refine (kotatsuref02_Short.calls kj10 (fun k_ => ((P0_ k_ ∨ w.heap.size ≤ k_) ∧ some k_ ≠ (.slice (some ad272) x4_1.length co47 : Value).ownBlock)) _ _ y277 t282 _ ?side1 A34.out).mono ?_
    (case side1 => exact HO281.out)
    rintro e w53 ⟨rfl, hb⟩
    refine ⟨_, rfl, ?_⟩
    have n0_ := Aside0.mk (Kd.N_below (by (with_reducible repeat (first | apply Kd.N_alloc | apply Kd.N_drewN | apply Kd.N_drew)); exact HO_4.out) hb)
    have n1_ := Aside0.mk (Kd.V_below (by (with_reducible repeat (first | apply Kd.V_alloc | apply Kd.V_drewN | apply Kd.V_drew)); exact HO_5.out) hb)
    have n2_ := Aside0.mk (Kd.V_below (by (with_reducible repeat (first | apply Kd.V_alloc | apply Kd.V_drewN | apply Kd.V_drew)); exact HL272_1.out) hb)
    have n3_ := Aside0.mk (Kd.V_below (by (with_reducible repeat (first | apply Kd.V_alloc | apply Kd.V_drewN | apply Kd.V_drew)); exact HO281.out) hb)
    have n4_ := Aside0.mk (Kd.V_below (by (with_reducible repeat (first | apply Kd.V_alloc | apply Kd.V_drewN | apply Kd.V_drew)); exact HO287.out) hb)
    have n5_ := Aside0.mk (Kd.C_below (by repeat (first | (with_reducible exact HR272_1.out) | (with_reducible refine Kd.C_alloc ?_ _) | (with_reducible refine Kd.C_drewN ?_ _) | (with_reducible refine Kd.C_drew ?_) | exact HR272_1.out)) hb)
    have n6_ := Aside0.mk (below_step (by repeat (first | (with_reducible first | exact HB.out | apply below_alloc | apply pw_below_drewN | apply below_drew1) | exact HB.out)) hb)
    clear HO_4
    clear HO_5
    clear HL272_1
    clear HO281
    clear HO287
    clear HR272_1
    clear HB
    have HO_4 := n0_
    have HO_5 := n1_
    have HL272_1 := n2_
    have HO281 := n3_
    have HO287 := n4_
    have HR272_1 := n5_
    have HB := n6_
    clear n0_ n1_ n2_ n3_ n4_ n5_ n6_
    (try clear hb)
    (try clear hb2)
    (try clear hk)
    (try clear hi)
    refine hK.out _ _ trivial (fun hHeld => ?_)
    clear hK K
    refine norm_ (a' := ?_) ?_ ?_
    rotate_left
    ·show Act.put _ (some 67) _ = _
     simp only [Act.put, qa, qb, qc, i64_w, i32_w]
     rfl
    refine pure_ (i := 5) (N := some 68) (v := ?_) (a' := ?_) #[ty,ty,ty,ty,ty,ty,ty,ty,ty,ty,ty,ty,fy,fy] rfl rfl (any_of HT_.out (by kernel_rfl)) (fun _ _ _ h => h) (Or.inl ⟨by rfl, ?_⟩) ?_ ?_
    rotate_left
    ·intro w'
     go_simp
     with_reducible rfl
    rotate_left
    ·simp only [Act.put, qa, qb, qc, i64_w, i32_w]
     rfl
    refine one_ (i := 12) (N := some 75) #[ty,ty,ty,ty,ty,ty,ty,ty,ty,ty,ty,ty,ty,fy] rfl rfl (one_of HT_.out (by kernel_rfl)) (by decide) (fun K hK => ?_)
    refine goes_ Try.func30 (by kernel_rfl) rfl #[.slice A52 y283.length c52] (by rfl) rfl rfl (by (try simp only [List.map_toArray, List.map_cons, List.map_nil]); first | done | rfl | (simp only [List.length_drop, List.length_take]; rfl)) ?_
    with_reducible refine (kotatsuref02_Take.calls kj10 _ _ y283 t288 _ ?side1 ?side2 A38.out).mono ?_
    (case side1 => repeat (first | exact (Kd.V_reads' HO287.out).2.2 | (with_reducible refine Kd.C_alloc ?_ _) | (with_reducible refine Kd.C_drewN ?_ _) | (with_reducible refine Kd.C_drew ?_)))
    (case side2 => exact (Kd.V_reads' HO287.out).2.1)
    rintro e w' ⟨rfl, ⟨nd, rfl⟩⟩
    refine ⟨_, rfl, ?_⟩
    refine hK.out _ _ trivial (fun hHeld => ?_)
    clear hK K
    refine norm_ (a' := ?_) ?_ ?_
    rotate_left
    ·show Act.put _ (some 75) _ = _
     simp only [Act.put, qa, qb, qc, i64_w, i32_w]
     rfl
    refine pure_ (i := 13) (N := some 76) (v := ?_) (a' := ?_) #[ty,ty,ty,ty,ty,ty,ty,ty,ty,ty,ty,ty,ty,ty] rfl rfl (any_of HT_.out (by kernel_rfl)) (fun _ _ _ h => h) (Or.inl ⟨by rfl, ?_⟩) ?_ ?_
    rotate_left
    ·intro w'
     go_simp
     with_reducible rfl
    rotate_left
    ·simp only [Act.put, qa, qb, qc, i64_w, i32_w]
     rfl
    refine done_ (done_of HT_.out (by kernel_rfl)) ?_
    try go_wp2
    (try (rw [drewN_self w53]; generalize hq_ : World.drewN w53 _ = w53; have n0_ : Aside0 (Kd.V (Kd.int .u8) 5 w53 w.heap.size (fun k_ => (P0_ k_ ∨ w.heap.size ≤ k_) ∧ some k_ ≠ (.slice (some ad272) x4_1.length co47 : Value).ownBlock) (.slice A272_1 ((rd_T56 x4_1 (ji18)).f1).length c272_1) ((rd_T56 x4_1 (ji18)).f1)) := ⟨by rw [← hq_]; exact (by (with_reducible repeat (first | apply Kd.V_alloc | apply Kd.V_drewN | apply Kd.V_drew)); exact HL272_1.out)⟩; have n1_ : Aside0 (Kd.V (Kd.int .u8) 5 w53 w.heap.size (fun k_ => (P0_ k_ ∨ w.heap.size ≤ k_) ∧ some k_ ≠ (.slice (some ad272) x4_1.length co47 : Value).ownBlock) (.slice (some ad274) y277.length co49) y277) := ⟨by rw [← hq_]; exact (by (with_reducible repeat (first | apply Kd.V_alloc | apply Kd.V_drewN | apply Kd.V_drew)); exact HO281.out)⟩; have n2_ : Aside0 (Kd.V (Kd.int .u8) 5 w53 w.heap.size (fun k_ => (P0_ k_ ∨ w.heap.size ≤ k_) ∧ some k_ ≠ (.slice (some ad272) x4_1.length co47 : Value).ownBlock) (.slice A52 y283.length c52) y283) := ⟨by rw [← hq_]; exact (by (with_reducible repeat (first | apply Kd.V_alloc | apply Kd.V_drewN | apply Kd.V_drew)); exact HO287.out)⟩; have n3_ : Aside0 (Kd.N k56 56 w53 w.heap.size (fun k_ => (P0_ k_ ∨ w.heap.size ≤ k_)) (.slice (some ad272) x4_1.length co47) x4_1) := ⟨by rw [← hq_]; exact (by (with_reducible repeat (first | apply Kd.N_alloc | apply Kd.N_drewN | apply Kd.N_drew)); exact HO_4.out)⟩; have n4_ : Aside0 (Kd.V (Kd.int .u8) 5 w53 w.heap.size (fun k_ => (P0_ k_ ∨ w.heap.size ≤ k_) ∧ some k_ ≠ (.slice (some ad272) x4_1.length co47 : Value).ownBlock) (.slice (some ad274) x5_1.length co49) x5_1) := ⟨by rw [← hq_]; exact (by (with_reducible repeat (first | apply Kd.V_alloc | apply Kd.V_drewN | apply Kd.V_drew)); exact HO_5.out)⟩; have n5_ : Aside0 (Below w.heap.size w w53) := ⟨by rw [← hq_]; exact (by repeat (first | (with_reducible first | exact HB.out | apply below_alloc | apply pw_below_drewN | apply below_drew1) | exact HB.out))⟩; have n6_ : Aside0 (Kd.C (Kd.int .u8) w53 A272_1 ((rd_T56 x4_1 (ji18)).f1).length ((rd_T56 x4_1 (ji18)).f1)) := ⟨by rw [← hq_]; exact (by repeat (first | (with_reducible exact HR272_1.out) | (with_reducible refine Kd.C_alloc ?_ _) | (with_reducible refine Kd.C_drewN ?_ _) | (with_reducible refine Kd.C_drew ?_) | exact HR272_1.out))⟩; clear HL272_1 HO281 HO287 HO_4 HO_5 HB HR272_1 hq_; have HL272_1 := n0_; have HO281 := n1_; have HO287 := n2_; have HO_4 := n3_; have HO_5 := n4_; have HB := n5_; have HR272_1 := n6_; clear n0_ n1_ n2_ n3_ n4_ n5_ n6_))
    have n0_ := Aside0.mk (Kd.N_drew HO_4.out)
    have n1_ := Aside0.mk (Kd.V_drew HO_5.out)
    have n2_ := Aside0.mk (Kd.V_drew HL272_1.out)
    have n3_ := Aside0.mk (Kd.V_drew HO281.out)
    have n4_ := Aside0.mk (Kd.V_drew HO287.out)
    have n5_ := Aside0.mk (Kd.C_drew HR272_1.out)
    have n6_ := Aside0.mk (below_drew1 HB.out)
    clear HO_4
    clear HO_5
    clear HL272_1
    clear HO281
    clear HO287
    clear HR272_1
    clear HB
    have HO_4 := n0_
    have HO_5 := n1_
    have HL272_1 := n2_
    have HO281 := n3_
    have HO287 := n4_
    have HR272_1 := n5_
    have HB := n6_
    clear n0_ n1_ n2_ n3_ n4_ n5_ n6_
    have p289 : 0 ≤ (1 : Int) := (by omega)
    have q289 : 1 < (x5_1.length : Int) := of_decide_eq_true (by first | (with_reducible assumption) | assumption)
    obtain ⟨ad289, e289, hx289_0⟩ := Kd.at_int (Kd.V_reads' HO_5.out).2.2 1 p289 q289
    obtain rfl : ad274 = ad289 := (by injection e289)
    (try simp only [show (1 : Int).toNat = 1 from rfl, Nat.reduceMul, Nat.reduceEqDiff, Go.Addr.add, ↓reduceIte] at hx289_0)
    have qi289 : (1 < x5_1.length) = True := eq_true (by omega)
    (try rw [show ((1 : Int)).toNat = 1 from rfl] at hx289_0)
    replace p289 := eq_true p289
    replace q289 := eq_true q289
    have q55 : ((ji31) : Int) ≤ ((x5_1.length : Int) : Int) := of_decide_eq_true (by first | (with_reducible assumption) | assumption)
    obtain ⟨i055, hi055, _, hsz55, _⟩ := info_parts info5
    have hroom55 : x5_1.length ≤ co49 := (Kd.V_reads' HO_5.out).2.1
    have hC55 : Kd.F (Kd.int .u8) _ _ (some ad274) x5_1.length x5_1 := (Kd.V_at (base := w.heap.size) HO_5.out).2.2
    have ql55 : (2 : Int) ≤ ((ji31) : Int) := of_decide_eq_true (by first | (with_reducible assumption) | assumption)
    have hcut55 := cut_mid (P := Try.prog) 22 5 .i64 .i64 Try.underlying22 hi055 1 hsz55 (some ad274) x5_1.length co49 2 (ji31) (by omega) ql55 q55 hroom55
    have hr55 := Kd.F_mid (lo := (2 : Int).toNat) (hi := ((ji31) : Int).toNat) (c := co49) hC55 (by omega) (by omega) hroom55
    obtain ⟨A55, hA55⟩ : ∃ A1, A1 = (if co49 = (2 : Int).toNat then (some ad274) else ((some ad274) : Option Addr).map (·.add ((2 : Int).toNat * 1))) := ⟨_, rfl⟩
    obtain ⟨c55, hc55⟩ : ∃ c1, c1 = co49 - (2 : Int).toNat := ⟨_, rfl⟩
    have hy55 : y290.length = ((ji31) : Int).toNat - (2 : Int).toNat := (by rw [Ny290.out, List.length_drop, List.length_take] <;> omega)
    rw [show ((x5_1).take ((ji31) : Int).toNat).drop (2 : Int).toNat = y290 from Ny290.out.symm] at hr55
    replace hr55 : Kd.F (Kd.int .u8) _ _ A55 y290.length y290 := (by rw [hA55]; exact hr55)
    rw [← hy55, ← hA55, ← hc55] at hcut55
    have HO294 := Aside0.mk (show Kd.V (Kd.int .u8) 5 _ w.heap.size _ (.slice A55 y290.length c55) y290 from Kd.V_mk (by rw [hy55, hc55]; exact Nat.sub_le_sub_right (Nat.le_trans (by omega) hroom55) _) hr55)
    have HC294 := Aside0.mk (show y290.length ≤ c55 from by rw [hy55, hc55]; exact Nat.sub_le_sub_right (Nat.le_trans (by omega) hroom55) _)
    clear hr55 hC55 hroom55 hi055 hsz55 hc55
    have KY55 := Aside0.mk hy55
    have KA55 := Aside0.mk hA55
    clear hy55 hA55
    replace q55 := eq_true q55
    refine start_ (n := 14) (S := fun w' => w'.cell? ⟨ad274.block, ad274.off + 1, none⟩ = some (.int .u8 (rd x5_1 1))) (ds := [11, 12]) #[fy,fy,fy,fy,fy,fy,fy,fy,fy,fy,fy,fy,fy,fy] (by kernel_rfl) rfl rfl (hx289_0) (fun hHeld => ?_); refine with_tabW kotatsuref07_Read.tab15 kotatsuref07_Read.bits15 (fun HT_ HW_ => ?_)
    generalize w53.drew = w54 at HO_4 HO_5 HL272_1 HO281 HO287 HR272_1 HB HO294 hx289_0 hHeld ⊢
    refine pure_ (i := 0) (N := some 77) (v := ?_) (a' := ?_) #[ty,fy,fy,fy,fy,fy,fy,fy,fy,fy,fy,fy,fy,fy] rfl rfl (any_of HT_.out (by kernel_rfl)) (fun _ _ _ h => h) (Or.inl ⟨by rfl, ?_⟩) ?_ ?_
    rotate_left
    ·intro w'
     go_simp
     with_reducible rfl
    rotate_left
    ·simp only [Act.put, qa, qb, qc, i64_w, i32_w]
     rfl
    refine pure_ (i := 1) (N := some 78) (v := ?_) (a' := ?_) #[ty,ty,fy,fy,fy,fy,fy,fy,fy,fy,fy,fy,fy,fy] rfl rfl (any_of HT_.out (by kernel_rfl)) (fun _ _ _ h => h) (Or.inl ⟨by rfl, ?_⟩) ?_ ?_
    rotate_left
    ·intro w'
     go_simp
     with_reducible rfl
    rotate_left
    ·simp only [Act.put, qa, qb, qc, i64_w, i32_w]
     rfl
    refine pure_ (i := 2) (N := some 79) (v := ?_) (a' := ?_) #[ty,ty,ty,fy,fy,fy,fy,fy,fy,fy,fy,fy,fy,fy] rfl rfl (any_of HT_.out (by kernel_rfl)) (fun _ _ _ h => h) (Or.inl ⟨by rfl, ?_⟩) ?_ ?_
    rotate_left
    ·intro w'
     go_simp
     with_reducible rfl
    rotate_left
    ·simp only [Act.put, qa, qb, qc, i64_w, i32_w]
     rfl
    refine pure_ (i := 4) (N := some 81) (v := ?_) (a' := ?_) #[ty,ty,ty,fy,ty,fy,fy,fy,fy,fy,fy,fy,fy,fy] rfl rfl (any_of HT_.out (by kernel_rfl)) (fun _ _ _ h => h) (Or.inl ⟨by rfl, ?_⟩) ?_ ?_
    rotate_left
    ·intro w'
     go_simp
     with_reducible rfl
    rotate_left
    ·simp only [Act.put, qa, qb, qc, i64_w, i32_w]
     rfl
    refine pure_ (i := 5) (N := some 82) (v := ?_) (a' := ?_) #[ty,ty,ty,fy,ty,ty,fy,fy,fy,fy,fy,fy,fy,fy] rfl rfl (any_of HT_.out (by kernel_rfl)) (fun _ _ _ h => h) (Or.inl ⟨by rfl, ?_⟩) ?_ ?_
    rotate_left
    ·intro w'
     go_simp
     with_reducible rfl
    rotate_left
    ·simp only [Act.put, qa, qb, qc, i64_w, i32_w]
     rfl
    refine pure_ (i := 6) (N := some 83) (v := ?_) (a' := ?_) #[ty,ty,ty,fy,ty,ty,ty,fy,fy,fy,fy,fy,fy,fy] rfl rfl (any_of HT_.out (by kernel_rfl)) (fun _ _ _ h => h) (Or.inl ⟨by rfl, ?_⟩) ?_ ?_
    rotate_left
    ·intro w'
     go_simp
     with_reducible rfl
    rotate_left
    ·simp only [Act.put, qa, qb, qc, i64_w, i32_w]
     rfl
    refine pure_ (i := 7) (N := some 84) (v := ?_) (a' := ?_) #[ty,ty,ty,fy,ty,ty,ty,ty,fy,fy,fy,fy,fy,fy] rfl rfl (any_of HT_.out (by kernel_rfl)) (fun _ _ _ h => h) (Or.inl ⟨by rfl, ?_⟩) ?_ ?_
    rotate_left
    ·intro w'
     go_simp
     with_reducible rfl
    rotate_left
    ·simp only [Act.put, qa, qb, qc, i64_w, i32_w]
     rfl
    refine take_ (i := 3) (N := some 80) (v := ?_) (a' := ?_) #[ty,ty,ty,ty,ty,ty,ty,ty,fy,fy,fy,fy,fy,fy] rfl rfl (take_ofW HT_.out HW_.out (by kernel_rfl)) (fun _ _ _ h => h) (Or.inl ⟨by rfl, ?_⟩) hHeld ?_ ?_
    rotate_left
    ·intro w' s0
     go_simp
     with_reducible rfl
    rotate_left
    ·simp only [Act.put, qa, qb, qc, i64_w, i32_w]
     rfl
    refine one_ (i := 8) (N := some 85) #[ty,ty,ty,ty,ty,ty,ty,ty,ty,fy,fy,fy,fy,fy] rfl rfl (one_of HT_.out (by kernel_rfl)) (by decide) (fun K hK => ?_)
    refine Kd.N_lit_step (Kd.slice 5 (Kd.int .u8)) _ 22 ?hg (N' := 85) ?hd (xs := ([y290] : List (List Int))) (inner := [.slice A55 y290.length c55]) (ok := (fun k_ => (P0_ k_ ∨ w.heap.size ≤ k_) ∧ some k_ ≠ (.slice (some ad272) x4_1.length co47 : Value).ownBlock)) (okp := (fun k_ => (P0_ k_ ∨ w.heap.size ≤ k_) ∧ some k_ ≠ (.slice (some ad272) x4_1.length co47 : Value).ownBlock)) ?hr ?hp (fun _ hk => hk) ((show ∀ k_, w54.heap.size ≤ k_ → (fun k_ => (P0_ k_ ∨ w.heap.size ≤ k_) ∧ some k_ ≠ (.slice (some ad272) x4_1.length co47 : Value).ownBlock) k_ from fun k_ hk => ⟨(.inr (Nat.le_trans (below_size (by repeat (first | (with_reducible first | exact HB.out | apply below_alloc | apply pw_below_drewN | apply below_drew1) | exact HB.out))) hk)), Kd.fresh' (Kd.N_lt (by (with_reducible repeat (first | apply Kd.N_alloc | apply Kd.N_drewN | apply Kd.N_drew)); exact HO_4.out)) k_ hk⟩) _ (Nat.le_refl _)) (Below.refl _ _) (Nat.le_refl _) (by simp) ?_; (case hd => rfl); (case hg => rfl); (case hr => first | (go_simp; done) | (go_simp; rfl)); (case hp => exact (Reps.one (show Kd.FK (Kd.slice 5 (Kd.int .u8)) _ _ y290 [.slice A55 y290.length c55] from (Kd.FK_slice_mk (Kd.V_reads' (e := 5) (base := w.heap.size) (Kd.V_mono (e := 5) (base := w.heap.size) (ok' := (fun k_ => (P0_ k_ ∨ w.heap.size ≤ k_) ∧ some k_ ≠ (.slice (some ad272) x4_1.length co47 : Value).ownBlock)) (HO294.out) (fun k_ hk => ⟨hk.1, hk.2⟩))).2.1 (Kd.V_F (e := 5) (base := w.heap.size) (Kd.V_mono (e := 5) (base := w.heap.size) (ok' := (fun k_ => (P0_ k_ ∨ w.heap.size ≤ k_) ∧ some k_ ≠ (.slice (some ad272) x4_1.length co47 : Value).ownBlock)) (HO294.out) (fun k_ hk => ⟨hk.1, hk.2⟩))))) (Reps.none _ _)))
    intro v296 w56 ho57 hb hg_ hnew_
    have HS0_ := (hb.cell (World.block_lt_of_cell? _ _ (hHeld))).trans (hHeld)
    clear hg_ hnew_
    (first | rw [← Ny295.out] at ho57 | (simp only [Int.reduceToNat] at ho57; rw [← Ny295.out] at ho57))
    have n0_ := Aside0.mk (Kd.N_elder' (by (with_reducible repeat (first | apply Kd.N_alloc | apply Kd.N_drewN | apply Kd.N_drew)); exact HO_4.out) (Kd.N_base ho57) hb)
    have n1_ := Aside0.mk (Kd.V_elder' (by (with_reducible repeat (first | apply Kd.V_alloc | apply Kd.V_drewN | apply Kd.V_drew)); exact HO_5.out) (Kd.N_base ho57) hb)
    have n2_ := Aside0.mk (Kd.V_elder' (by (with_reducible repeat (first | apply Kd.V_alloc | apply Kd.V_drewN | apply Kd.V_drew)); exact HL272_1.out) (Kd.N_base ho57) hb)
    have n3_ := Aside0.mk (Kd.V_elder' (by (with_reducible repeat (first | apply Kd.V_alloc | apply Kd.V_drewN | apply Kd.V_drew)); exact HO281.out) (Kd.N_base ho57) hb)
    have n4_ := Aside0.mk (Kd.V_elder' (by (with_reducible repeat (first | apply Kd.V_alloc | apply Kd.V_drewN | apply Kd.V_drew)); exact HO287.out) (Kd.N_base ho57) hb)
    have n5_ := Aside0.mk (Kd.V_elder' (by (with_reducible repeat (first | apply Kd.V_alloc | apply Kd.V_drewN | apply Kd.V_drew)); exact HO294.out) (Kd.N_base ho57) hb)
    have n6_ := Aside0.mk (Kd.N_lower ho57 (below_size (by repeat (first | (with_reducible first | exact HB.out | apply below_alloc | apply pw_below_drewN | apply below_drew1) | exact HB.out))))
    have n7_ := Aside0.mk (Kd.C_below (by repeat (first | (with_reducible exact HR272_1.out) | (with_reducible refine Kd.C_alloc ?_ _) | (with_reducible refine Kd.C_drewN ?_ _) | (with_reducible refine Kd.C_drew ?_) | exact HR272_1.out)) hb)
    have n8_ := Aside0.mk (below_step (by repeat (first | (with_reducible first | exact HB.out | apply below_alloc | apply pw_below_drewN | apply below_drew1) | exact HB.out)) hb)
    clear HO_4
    clear HO_5
    clear HL272_1
    clear HO281
    clear HO287
    clear HO294
    clear HR272_1
    clear HB
    have HO_4 := n0_
    have HO_5 := n1_
    have HL272_1 := n2_
    have HO281 := n3_
    have HO287 := n4_
    have HO294 := n5_
    have HO297 := n6_
    have HR272_1 := n7_
    have HB := n8_
    clear n0_ n1_ n2_ n3_ n4_ n5_ n6_ n7_ n8_
    clear hb ho57
    obtain ⟨Ao58, co58, eo58⟩ := Kd.N_slice HO297.out
    (first | subst eo58 | (injection eo58 with f1_ f2_ f3_; have f4_ := f1_.symm; have f5_ := f3_.symm; clear f1_ f2_ f3_; subst f4_; subst f5_))
    refine hK.out _ _ (HS0_) (fun hHeld => ?_)
    clear hK K
    refine norm_ (a' := ?_) ?_ ?_
    rotate_left
    ·show Act.put _ (some 85) _ = _
     simp only [Act.put, qa, qb, qc, i64_w, i32_w]
     rfl
    refine one_ (i := 9) (N := some 86) #[ty,ty,ty,ty,ty,ty,ty,ty,ty,ty,fy,fy,fy,fy] rfl rfl (one_of HT_.out (by kernel_rfl)) (by decide) (fun K hK => ?_)
    refine goes_ Try.func9 (by kernel_rfl) rfl #[.slice Ao58 y295.length co58] (by rfl) rfl rfl (by (try simp only [List.map_toArray, List.map_cons, List.map_nil]); first | done | rfl | (simp only [List.length_drop, List.length_take]; rfl)) ?_
    with_reducible refine (kotatsuref01_Join.calls kj10 _ _ y295 t298 _ ?side1 ?side2 A42.out).mono ?_
    (case side1 => repeat (first | exact (Kd.N_reads' HO297.out).2.2 | (with_reducible refine Kd.C_alloc ?_ _) | (with_reducible refine Kd.C_drewN ?_ _) | (with_reducible refine Kd.C_drew ?_)))
    (case side2 => exact (Kd.N_reads' HO297.out).2.1)
    rintro e w59 ⟨v299, rfl, ho0, hb⟩
    have HS0_ := (hb.cell (World.block_lt_of_cell? _ _ (hHeld))).trans (hHeld)
    refine ⟨_, rfl, ?_⟩
    have n0_ := Aside0.mk (Kd.N_elder' (by (with_reducible repeat (first | apply Kd.N_alloc | apply Kd.N_drewN | apply Kd.N_drew)); exact HO_4.out) (Kd.R_base ho0) hb)
    have n1_ := Aside0.mk (Kd.V_elder' (by (with_reducible repeat (first | apply Kd.V_alloc | apply Kd.V_drewN | apply Kd.V_drew)); exact HO_5.out) (Kd.R_base ho0) hb)
    have n2_ := Aside0.mk (Kd.V_elder' (by (with_reducible repeat (first | apply Kd.V_alloc | apply Kd.V_drewN | apply Kd.V_drew)); exact HL272_1.out) (Kd.R_base ho0) hb)
    have n3_ := Aside0.mk (Kd.V_elder' (by (with_reducible repeat (first | apply Kd.V_alloc | apply Kd.V_drewN | apply Kd.V_drew)); exact HO281.out) (Kd.R_base ho0) hb)
    have n4_ := Aside0.mk (Kd.V_elder' (by (with_reducible repeat (first | apply Kd.V_alloc | apply Kd.V_drewN | apply Kd.V_drew)); exact HO287.out) (Kd.R_base ho0) hb)
    have n5_ := Aside0.mk (Kd.V_elder' (by (with_reducible repeat (first | apply Kd.V_alloc | apply Kd.V_drewN | apply Kd.V_drew)); exact HO294.out) (Kd.R_base ho0) hb)
    have n6_ := Aside0.mk (Kd.N_elder' (by (with_reducible repeat (first | apply Kd.N_alloc | apply Kd.N_drewN | apply Kd.N_drew)); exact HO297.out) (Kd.R_base ho0) hb)
    have n7_ := Aside0.mk (Kd.R_lower (Kd.R_newM (M := fun k_ => (w.heap.size ≤ k_)) ho0 (below_size (by repeat (first | (with_reducible first | exact HB.out | apply below_alloc | apply pw_below_drewN | apply below_drew1) | exact HB.out))) (fun k_ h_ => h_)) (below_size (by repeat (first | (with_reducible first | exact HB.out | apply below_alloc | apply pw_below_drewN | apply below_drew1) | exact HB.out))))
    have n8_ := Aside0.mk (Kd.C_below (by repeat (first | (with_reducible exact HR272_1.out) | (with_reducible refine Kd.C_alloc ?_ _) | (with_reducible refine Kd.C_drewN ?_ _) | (with_reducible refine Kd.C_drew ?_) | exact HR272_1.out)) hb)
    have n9_ := Aside0.mk (below_step (by repeat (first | (with_reducible first | exact HB.out | apply below_alloc | apply pw_below_drewN | apply below_drew1) | exact HB.out)) hb)
    clear HO_4
    clear HO_5
    clear HL272_1
    clear HO281
    clear HO287
    clear HO294
    clear HO297
    clear HR272_1
    clear HB
    have HO_4 := n0_
    have HO_5 := n1_
    have HL272_1 := n2_
    have HO281 := n3_
    have HO287 := n4_
    have HO294 := n5_
    have HO297 := n6_
    have HO300 := n7_
    have HR272_1 := n8_
    have HB := n9_
    clear n0_ n1_ n2_ n3_ n4_ n5_ n6_ n7_ n8_ n9_
    (try clear hb)
    (try clear hb2)
    (try clear hk)
    (try clear hi)
    (try clear ho0)
    obtain ⟨Ao60, co60, eo60⟩ := Kd.R_slice HO300.out
    (first | subst eo60 | (injection eo60 with f1_ f2_ f3_; have f4_ := f1_.symm; have f5_ := f3_.symm; clear f1_ f2_ f3_; subst f4_; subst f5_))
    refine hK.out _ _ (HS0_) (fun hHeld => ?_)
    clear hK K
    refine norm_ (a' := ?_) ?_ ?_
    rotate_left
    ·show Act.put _ (some 86) _ = _
     simp only [Act.put, qa, qb, qc, i64_w, i32_w]
     rfl
    refine pure_ (i := 10) (N := some 87) (v := ?_) (a' := ?_) #[ty,ty,ty,ty,ty,ty,ty,ty,ty,ty,ty,fy,fy,fy] rfl rfl (any_of HT_.out (by kernel_rfl)) (fun _ _ _ h => h) (Or.inl ⟨by rfl, ?_⟩) ?_ ?_
    rotate_left
    ·intro w'
     go_simp
     with_reducible rfl
    rotate_left
    ·simp only [Act.put, qa, qb, qc, i64_w, i32_w]
     rfl
    refine last_ (i := 11) (N := some 88) #[ty,ty,ty,ty,ty,ty,ty,ty,ty,ty,ty,ty,fy,fy] rfl rfl (one_of HT_.out (by kernel_rfl)) (by decide) (fun K hK => ?_)
    refine value_ (w1 := ?_) (v := ?_) (by rfl) rfl ?_ ?_
    rotate_left 2
    ·go_simp
     constructor
     ·rfl
     rfl
    refine hK.out _ _ ?_
    clear hK K
    refine norm_ (a' := ?_) ?_ ?_
    rotate_left
    ·show Act.put _ (some 88) _ = _
     simp only [Act.put, qa, qb, qc, i64_w, i32_w]
     rfl
    refine last_ (i := 12) (N := some 89) #[ty,ty,ty,ty,ty,ty,ty,ty,ty,ty,ty,ty,ty,fy] rfl rfl (one_of HT_.out (by kernel_rfl)) (by decide) (fun K hK => ?_)
    refine Kd.N_append_step k56 (w0 := w) w.heap.size (by rfl) (.tmp 77) (.tmp 88) 33 56 (.agg #[(.int .u8 0), (.slice none 0 0)]) 32 rfl Try.underlying33 info56 rfl (by decide) (by omega) (.slice (some ad272) x4_1.length co47) x4_1 (⟨rd x5_1 1, t298⟩ : S56) [.int .u8 (rd x5_1 1), .slice Ao60 t298.length co60] (fun k_ => (P0_ k_ ∨ w.heap.size ≤ k_) ∧ some k_ ≠ (.slice Ao58 y295.length co58 : Value).ownBlock) (fun k_ => ((fun k_ => (P0_ k_ ∨ w.heap.size ≤ k_) ∧ some k_ ≠ (.slice Ao58 y295.length co58 : Value).ownBlock)) k_ ∧ some k_ ≠ (.slice (some ad272) x4_1.length co47 : Value).ownBlock) rfl rfl ?aP (fun _ hk => hk) ?aF ?aO ?aB ?aS ?aL ?_
    (case aP => exact (k56_mkF _ _ (⟨rd x5_1 1, t298⟩ : S56) (Kd.R_reads' (Kd.R_mono (ok' := (fun k_ => ((fun k_ => (P0_ k_ ∨ w.heap.size ≤ k_) ∧ some k_ ≠ (.slice Ao58 y295.length co58 : Value).ownBlock)) k_ ∧ some k_ ≠ (.slice (some ad272) x4_1.length co47 : Value).ownBlock)) (Kd.R_apart' (Kd.R_apart' (HO300.out) (Kd.N_typed HO297.out) (by decide)) (Kd.N_typed HO_4.out) (by decide)) (fun k_ hk => ⟨⟨(.inr (hk.1.1.1)), hk.1.2⟩, hk.2⟩))).2.1 (Kd.R_F (Kd.R_mono (ok' := (fun k_ => ((fun k_ => (P0_ k_ ∨ w.heap.size ≤ k_) ∧ some k_ ≠ (.slice Ao58 y295.length co58 : Value).ownBlock)) k_ ∧ some k_ ≠ (.slice (some ad272) x4_1.length co47 : Value).ownBlock)) (Kd.R_apart' (Kd.R_apart' (HO300.out) (Kd.N_typed HO297.out) (by decide)) (Kd.N_typed HO_4.out) (by decide)) (fun k_ hk => ⟨⟨(.inr (hk.1.1.1)), hk.1.2⟩, hk.2⟩)))))
    (case aB => exact (by repeat (first | (with_reducible first | exact HB.out | apply below_alloc | apply pw_below_drewN | apply below_drew1) | exact HB.out)))
    (case aF => exact (fun k_ hk => ⟨(.inr (Nat.le_trans (below_size (by repeat (first | (with_reducible first | exact HB.out | apply below_alloc | apply pw_below_drewN | apply below_drew1) | exact HB.out))) hk)), Kd.fresh' (Kd.N_lt (by (with_reducible repeat (first | apply Kd.N_alloc | apply Kd.N_drewN | apply Kd.N_drew)); exact HO297.out)) k_ hk⟩))
    (case aO => exact (by (with_reducible repeat (first | apply Kd.N_alloc | apply Kd.N_drewN | apply Kd.N_drew)); exact Kd.N_mono HO_4.out (fun _ hk => ⟨hk.1.1, hk.1.2⟩)))
    (case aS => exact (below_size (by repeat (first | (with_reducible first | exact HB.out | apply below_alloc | apply pw_below_drewN | apply below_drew1) | exact HB.out))))
    (case aL => have := LMc43.out; omega)
    intro v302 w61 ho hb hg hat
    rw [← Ny301.out] at ho
    have n0_ := Aside0.mk (Kd.V_afterv (ok := (fun k_ => (P0_ k_ ∨ w.heap.size ≤ k_) ∧ some k_ ≠ (.slice Ao58 y295.length co58 : Value).ownBlock ∧ some k_ ≠ (.slice Ao60 t298.length co60 : Value).ownBlock)) (by (with_reducible repeat (first | apply Kd.V_alloc | apply Kd.V_drewN | apply Kd.V_drew)); exact Kd.V_mono HO_5.out (fun _ hk => ⟨⟨hk.1.1.1, ⟨hk.1.2, hk.2⟩⟩, hk.1.1.2⟩)) hg hat)
    have n1_ := Aside0.mk (Kd.V_afterv (ok := (fun k_ => (P0_ k_ ∨ w.heap.size ≤ k_) ∧ some k_ ≠ (.slice Ao58 y295.length co58 : Value).ownBlock ∧ some k_ ≠ (.slice Ao60 t298.length co60 : Value).ownBlock)) (by (with_reducible repeat (first | apply Kd.V_alloc | apply Kd.V_drewN | apply Kd.V_drew)); exact Kd.V_mono HL272_1.out (fun _ hk => ⟨⟨hk.1.1.1, ⟨hk.1.2, hk.2⟩⟩, hk.1.1.2⟩)) hg hat)
    have n2_ := Aside0.mk (Kd.V_afterv (ok := (fun k_ => (P0_ k_ ∨ w.heap.size ≤ k_) ∧ some k_ ≠ (.slice Ao58 y295.length co58 : Value).ownBlock ∧ some k_ ≠ (.slice Ao60 t298.length co60 : Value).ownBlock)) (by (with_reducible repeat (first | apply Kd.V_alloc | apply Kd.V_drewN | apply Kd.V_drew)); exact Kd.V_mono HO281.out (fun _ hk => ⟨⟨hk.1.1.1, ⟨hk.1.2, hk.2⟩⟩, hk.1.1.2⟩)) hg hat)
    have n3_ := Aside0.mk (Kd.V_afterv (ok := (fun k_ => (P0_ k_ ∨ w.heap.size ≤ k_) ∧ some k_ ≠ (.slice Ao58 y295.length co58 : Value).ownBlock ∧ some k_ ≠ (.slice Ao60 t298.length co60 : Value).ownBlock)) (by (with_reducible repeat (first | apply Kd.V_alloc | apply Kd.V_drewN | apply Kd.V_drew)); exact Kd.V_mono HO287.out (fun _ hk => ⟨⟨hk.1.1.1, ⟨hk.1.2, hk.2⟩⟩, hk.1.1.2⟩)) hg hat)
    have n4_ := Aside0.mk (Kd.V_afterv (ok := (fun k_ => (P0_ k_ ∨ w.heap.size ≤ k_) ∧ some k_ ≠ (.slice Ao58 y295.length co58 : Value).ownBlock ∧ some k_ ≠ (.slice Ao60 t298.length co60 : Value).ownBlock)) (by (with_reducible repeat (first | apply Kd.V_alloc | apply Kd.V_drewN | apply Kd.V_drew)); exact Kd.V_mono HO294.out (fun _ hk => ⟨⟨hk.1.1.1, ⟨hk.1.2, hk.2⟩⟩, hk.1.1.2⟩)) hg hat)
    have n5_ := Aside0.mk (Kd.N_afterv (ok := (fun k_ => (P0_ k_ ∨ w.heap.size ≤ k_) ∧ some k_ ≠ (.slice Ao60 t298.length co60 : Value).ownBlock)) (by (with_reducible repeat (first | apply Kd.N_alloc | apply Kd.N_drewN | apply Kd.N_drew)); exact Kd.N_mono HO297.out (fun _ hk => ⟨⟨hk.1.1, hk.2⟩, hk.1.2⟩)) hg hat)
    have n6_ := Aside0.mk (hb)
    have n7_ := Aside0.mk (ho)
    clear HO_5
    clear HL272_1
    clear HO281
    clear HO287
    clear HO294
    clear HO297
    clear HB
    clear HO_4
    clear HO300
    have HO_5 := n0_
    have HL272_1 := n1_
    have HO281 := n2_
    have HO287 := n3_
    have HO294 := n4_
    have HO297 := n5_
    have HB := n6_
    have HO303 := n7_
    clear n0_ n1_ n2_ n3_ n4_ n5_ n6_ n7_
    clear ho hb hg hat
    refine hK.out _ _ ?_
    clear hK K
    refine norm_ (a' := ?_) ?_ ?_
    rotate_left
    ·show Act.put _ (some 89) _ = _
     simp only [Act.put, qa, qb, qc, i64_w, i32_w]
     rfl
    refine pure_ (i := 13) (N := some 4) (v := ?_) (a' := ?_) #[ty,ty,ty,ty,ty,ty,ty,ty,ty,ty,ty,ty,ty,ty] rfl rfl (any_of HT_.out (by kernel_rfl)) (fun _ _ _ h => h) (Or.inl ⟨by rfl, ?_⟩) ?_ ?_
    rotate_left
    ·intro w'
     go_simp
     with_reducible rfl
    rotate_left
    ·simp only [Act.put, qa, qb, qc, i64_w, i32_w]
     rfl
    refine done_ (done_of HT_.out (by kernel_rfl)) ?_
    have q62 : ((ji44) : Int) ≤ ((x5_1.length : Int) : Int) := of_decide_eq_true (by first | (with_reducible assumption) | assumption)
    obtain ⟨i062, hi062, _, hsz62, _⟩ := info_parts info5
    have hroom62 : x5_1.length ≤ co49 := (Kd.V_reads' HO_5.out).2.1
    have hC62 : Kd.F (Kd.int .u8) _ _ (some ad274) x5_1.length x5_1 := (Kd.V_at (base := w.heap.size) HO_5.out).2.2
    have q062 : (0 : Int) ≤ ((ji44) : Int) := of_decide_eq_true (by first | (with_reducible assumption) | assumption)
    have hcut62 := cut_from (P := Try.prog) 22 5 .i64 Try.underlying22 hi062 1 hsz62 (some ad274) x5_1.length co49 (ji44) q062 q62
    have hr62 := Kd.F_cut (m := ((ji44) : Int).toNat) (c := co49) hC62 (by omega) hroom62
    obtain ⟨A62, hA62⟩ : ∃ A1, A1 = (if co49 = ((ji44) : Int).toNat then (some ad274) else ((some ad274) : Option Addr).map (·.add (((ji44) : Int).toNat * 1))) := ⟨_, rfl⟩
    obtain ⟨c62, hc62⟩ : ∃ c1, c1 = co49 - ((ji44) : Int).toNat := ⟨_, rfl⟩
    have hy62 : y304.length = x5_1.length - ((ji44) : Int).toNat := (by rw [Ny304.out, List.length_drop] <;> omega)
    rw [show (x5_1).drop ((ji44) : Int).toNat = y304 from Ny304.out.symm] at hr62
    replace hr62 : Kd.F (Kd.int .u8) _ _ A62 y304.length y304 := (by rw [hA62]; exact hr62)
    rw [← hy62, ← hA62, ← hc62] at hcut62
    have HO308 := Aside0.mk (show Kd.V (Kd.int .u8) 5 _ w.heap.size _ (.slice A62 y304.length c62) y304 from Kd.V_mk (by rw [hy62, hc62]; exact Nat.sub_le_sub_right hroom62 _) hr62)
    have HC308 := Aside0.mk (show y304.length ≤ c62 from by rw [hy62, hc62]; exact Nat.sub_le_sub_right hroom62 _)
    clear hr62 hC62 hroom62 hi062 hsz62 hc62
    have KY62 := Aside0.mk hy62
    have KA62 := Aside0.mk hA62
    clear hy62 hA62
    replace q62 := eq_true q62
    try go_wp2
    go_roundg kj10
    case measure => have := HK1.out; have := HJ1.out; have := HJ10.out; omega
    case rel => exact ⟨(y301), (y304), H', ⟨by have := HK1.out; have := HJ1.out; have := HJ10.out; omega⟩, ⟨by (with_reducible repeat (first | apply Kd.N_alloc | apply Kd.N_drewN | apply Kd.N_drew)); exact Kd.N_mono HO303.out (fun _ hk => hk.1)⟩, ⟨by (with_reducible repeat (first | apply Kd.V_alloc | apply Kd.V_drewN | apply Kd.V_drew)); exact Kd.V_mono HO308.out (fun _ hk => ⟨hk.1.1, hk.2⟩)⟩, ⟨by repeat (first | (with_reducible first | exact HB.out | apply below_alloc | apply pw_below_drewN | apply below_drew1) | exact HB.out)⟩⟩
end Go.Proofs.Ytgahcipgglkkhaa.PGrooveReads
