-- made by a program of this repo (wip/patch_print.py); not trusted: Lean checks it
import Derived.Test.YthnfmoaiejaheaaPDiskParsesx0
import Derived.Test.YthnfmoaiejaheaaPDiskParsesx3
namespace Go.Proofs.Ythnfmoaiejaheaa.PDiskParses
open Go.RowKit Go.Proofs.YthnfmoaiejaheaaW.PrintWords Go.Proofs.YthnfmoaiejaheaaW.PrintLast Go.Proofs.YthnfmoaiejaheaaW.PrintMore
attribute [local go_sem] max2_int min2_int max_two min_two max_three min_three max_four min_four   -- for this text's walks alone
set_option linter.unusedVariables false
set_option linter.unusedSimpArgs false

/-! ### kotatsuref06_Parse: function 13 -/
mutual
def kotatsuref06_Parse.j0 : Nat → List Int → Int → Int → Int → Bool → Option (Int × (List (List Int)))
  | 0, _, _, _, _, _ => none
  | k + 1, x0, x4, x5, x6, x18 => if x18 = true then (kotatsuref06_Parse.j1 k x0 2 x5 16) else (if ((x0.length : Int) % 65536) = 0 then (kotatsuref06_Parse.j1 k x0 3 65536 x6) else (kotatsuref06_Parse.j1 k x0 x4 x5 x6))
def kotatsuref06_Parse.j1 : Nat → List Int → Int → Int → Int → Option (Int × (List (List Int)))
  | 0, _, _, _, _ => none
  | k + 1, x0, x4, x5, x6 => if x5 = 0 then (none) else (if (wrap64 (Int.tdiv (wrap64 ((x0.length : Int) - x6)) x5)) < 1 then (kotatsuref06_Parse.j2 k x0 x4 x5 x6 (wrap64 (Int.tdiv (wrap64 ((x0.length : Int) - x6)) x5)) true) else (if (wrap64 (Int.tdiv (wrap64 ((x0.length : Int) - x6)) x5)) > 8 then (kotatsuref06_Parse.j2 k x0 x4 x5 x6 (wrap64 (Int.tdiv (wrap64 ((x0.length : Int) - x6)) x5)) true) else (kotatsuref06_Parse.j2 k x0 x4 x5 x6 (wrap64 (Int.tdiv (wrap64 ((x0.length : Int) - x6)) x5)) ((x0.length : Int) != (wrap64 (x6 + (wrap64 ((wrap64 (Int.tdiv (wrap64 ((x0.length : Int) - x6)) x5)) * x5))))))))
def kotatsuref06_Parse.j2 : Nat → List Int → Int → Int → Int → Int → Bool → Option (Int × (List (List Int)))
  | 0, _, _, _, _, _, _ => none
  | k + 1, x0, x4, x5, x6, x7, x44 => if x44 = true then (some (0, ([] : List (List Int)))) else (if x4 = 2 then (if 4 ≤ 16 then (if 16 ≤ (x0.length : Int) then (if 11 ≤ 281474976710656 then ((kotatsuref01_Join.f k (([(([(x7) % 256] : List Int)), (List.replicate 11 0)] : List (List Int)))).bind fun t168 => ((kotatsuref01_Same.f k ((x0.take 16).drop 4) t168).bind fun t171 => (kotatsuref06_Parse.j3 k x0 x4 x5 x6 x7 (!t171)))) else (none)) else (none)) else (none)) else (kotatsuref06_Parse.j3 k x0 x4 x5 x6 x7 false))
def kotatsuref06_Parse.j3 : Nat → List Int → Int → Int → Int → Int → Bool → Option (Int × (List (List Int)))
  | 0, _, _, _, _, _, _ => none
  | k + 1, x0, x4, x5, x6, x7, x58 => if x58 = true then (some (0, ([] : List (List Int)))) else (kotatsuref06_Parse.l0 k x0 x4 x5 x6 x7 ([] : List (List Int)) 0)
def kotatsuref06_Parse.l0 : Nat → List Int → Int → Int → Int → Int → List (List Int) → Int → Option (Int × (List (List Int)))
  | 0, _, _, _, _, _, _, _ => none
  | k + 1, x0, x4, x5, x6, x7, x8, x9 => if x9 < x7 then (if 0 ≤ (wrap64 (x6 + (wrap64 (x9 * x5)))) then (if (wrap64 (x6 + (wrap64 (x9 * x5)))) ≤ (wrap64 ((wrap64 (x6 + (wrap64 (x9 * x5)))) + x5)) then (if (wrap64 ((wrap64 (x6 + (wrap64 (x9 * x5)))) + x5)) ≤ (x0.length : Int) then (if x8.length < 5864062014805 then (kotatsuref06_Parse.l0 k x0 x4 x5 x6 x7 (x8 ++ [((x0.take ((wrap64 ((wrap64 (x6 + (wrap64 (x9 * x5)))) + x5)) : Int).toNat).drop ((wrap64 (x6 + (wrap64 (x9 * x5)))) : Int).toNat)]) (wrap64 (x9 + 1))) else (none)) else (none)) else (none)) else (none)) else (some (x4, x8))
end
def kotatsuref06_Parse.f (k : Nat) (l0 : List Int) : Option (Int × (List (List Int))) := if (l0.length : Int) ≥ 4 then (if 4 ≤ (l0.length : Int) then (kotatsuref06_Parse.j0 k l0 1 65500 0 ((strOfNums (l0.take 4)).toList == ([70, 68, 83, 26] : List UInt8))) else (none)) else (kotatsuref06_Parse.j0 k l0 1 65500 0 false)
theorem kotatsuref06_Parse.mono_l : ∀ k, (∀ y0 y1 y2 y3 y4, LeO (kotatsuref06_Parse.j0 k y0 y1 y2 y3 y4) (kotatsuref06_Parse.j0 (k + 1) y0 y1 y2 y3 y4)) ∧ (∀ y0 y1 y2 y3, LeO (kotatsuref06_Parse.j1 k y0 y1 y2 y3) (kotatsuref06_Parse.j1 (k + 1) y0 y1 y2 y3)) ∧ (∀ y0 y1 y2 y3 y4 y5, LeO (kotatsuref06_Parse.j2 k y0 y1 y2 y3 y4 y5) (kotatsuref06_Parse.j2 (k + 1) y0 y1 y2 y3 y4 y5)) ∧ (∀ y0 y1 y2 y3 y4 y5, LeO (kotatsuref06_Parse.j3 k y0 y1 y2 y3 y4 y5) (kotatsuref06_Parse.j3 (k + 1) y0 y1 y2 y3 y4 y5)) ∧ (∀ y0 y1 y2 y3 y4 y5 y6, LeO (kotatsuref06_Parse.l0 k y0 y1 y2 y3 y4 y5 y6) (kotatsuref06_Parse.l0 (k + 1) y0 y1 y2 y3 y4 y5 y6))
  | 0 => ⟨fun _ _ _ _ _ r h => by simp [kotatsuref06_Parse.j0] at h, fun _ _ _ _ r h => by simp [kotatsuref06_Parse.j1] at h, fun _ _ _ _ _ _ r h => by simp [kotatsuref06_Parse.j2] at h, fun _ _ _ _ _ _ r h => by simp [kotatsuref06_Parse.j3] at h, fun _ _ _ _ _ _ _ r h => by simp [kotatsuref06_Parse.l0] at h⟩
  | k + 1 => by
    obtain ⟨ih0, ih1, ih2, ih3, ih4⟩ := kotatsuref06_Parse.mono_l k
    refine ⟨?_, ?_, ?_, ?_, ?_⟩
    · intro y0 y1 y2 y3 y4
      unfold kotatsuref06_Parse.j0
      repeat' first
      | (with_reducible exact ih0 _ _ _ _ _)
      | (with_reducible exact ih1 _ _ _ _)
      | (with_reducible exact ih2 _ _ _ _ _ _)
      | (with_reducible exact ih3 _ _ _ _ _ _)
      | (with_reducible exact ih4 _ _ _ _ _ _ _)
      | (with_reducible exact kotatsuref01_Join.mono _ _)
      | (with_reducible exact kotatsuref01_Same.mono _ _ _)
      | (with_reducible exact LeO.refl _)
      | (with_reducible exact LeO.none _)
      | (with_reducible refine LeO.ite ?_ ?_)
      | (with_reducible refine LeO.bind ?_ (fun _ => ?_))
      | exact ih0 _ _ _ _ _
      | exact ih1 _ _ _ _
      | exact ih2 _ _ _ _ _ _
      | exact ih3 _ _ _ _ _ _
      | exact ih4 _ _ _ _ _ _ _
      | exact kotatsuref01_Join.mono _ _
      | exact kotatsuref01_Same.mono _ _ _
      | exact LeO.none _
      | refine LeO.ite ?_ ?_
      | refine LeO.bind ?_ (fun _ => ?_)
    · intro y0 y1 y2 y3
      unfold kotatsuref06_Parse.j1
      repeat' first
      | (with_reducible exact ih0 _ _ _ _ _)
      | (with_reducible exact ih1 _ _ _ _)
      | (with_reducible exact ih2 _ _ _ _ _ _)
      | (with_reducible exact ih3 _ _ _ _ _ _)
      | (with_reducible exact ih4 _ _ _ _ _ _ _)
      | (with_reducible exact kotatsuref01_Join.mono _ _)
      | (with_reducible exact kotatsuref01_Same.mono _ _ _)
      | (with_reducible exact LeO.refl _)
      | (with_reducible exact LeO.none _)
      | (with_reducible refine LeO.ite ?_ ?_)
      | (with_reducible refine LeO.bind ?_ (fun _ => ?_))
      | exact ih0 _ _ _ _ _
      | exact ih1 _ _ _ _
      | exact ih2 _ _ _ _ _ _
      | exact ih3 _ _ _ _ _ _
      | exact ih4 _ _ _ _ _ _ _
      | exact kotatsuref01_Join.mono _ _
      | exact kotatsuref01_Same.mono _ _ _
      | exact LeO.none _
      | refine LeO.ite ?_ ?_
      | refine LeO.bind ?_ (fun _ => ?_)
    · intro y0 y1 y2 y3 y4 y5
      unfold kotatsuref06_Parse.j2
      repeat' first
      | (with_reducible exact ih0 _ _ _ _ _)
      | (with_reducible exact ih1 _ _ _ _)
      | (with_reducible exact ih2 _ _ _ _ _ _)
      | (with_reducible exact ih3 _ _ _ _ _ _)
      | (with_reducible exact ih4 _ _ _ _ _ _ _)
      | (with_reducible exact kotatsuref01_Join.mono _ _)
      | (with_reducible exact kotatsuref01_Same.mono _ _ _)
      | (with_reducible exact LeO.refl _)
      | (with_reducible exact LeO.none _)
      | (with_reducible refine LeO.ite ?_ ?_)
      | (with_reducible refine LeO.bind ?_ (fun _ => ?_))
      | exact ih0 _ _ _ _ _
      | exact ih1 _ _ _ _
      | exact ih2 _ _ _ _ _ _
      | exact ih3 _ _ _ _ _ _
      | exact ih4 _ _ _ _ _ _ _
      | exact kotatsuref01_Join.mono _ _
      | exact kotatsuref01_Same.mono _ _ _
      | exact LeO.none _
      | refine LeO.ite ?_ ?_
      | refine LeO.bind ?_ (fun _ => ?_)
    · intro y0 y1 y2 y3 y4 y5
      unfold kotatsuref06_Parse.j3
      repeat' first
      | (with_reducible exact ih0 _ _ _ _ _)
      | (with_reducible exact ih1 _ _ _ _)
      | (with_reducible exact ih2 _ _ _ _ _ _)
      | (with_reducible exact ih3 _ _ _ _ _ _)
      | (with_reducible exact ih4 _ _ _ _ _ _ _)
      | (with_reducible exact kotatsuref01_Join.mono _ _)
      | (with_reducible exact kotatsuref01_Same.mono _ _ _)
      | (with_reducible exact LeO.refl _)
      | (with_reducible exact LeO.none _)
      | (with_reducible refine LeO.ite ?_ ?_)
      | (with_reducible refine LeO.bind ?_ (fun _ => ?_))
      | exact ih0 _ _ _ _ _
      | exact ih1 _ _ _ _
      | exact ih2 _ _ _ _ _ _
      | exact ih3 _ _ _ _ _ _
      | exact ih4 _ _ _ _ _ _ _
      | exact kotatsuref01_Join.mono _ _
      | exact kotatsuref01_Same.mono _ _ _
      | exact LeO.none _
      | refine LeO.ite ?_ ?_
      | refine LeO.bind ?_ (fun _ => ?_)
    · intro y0 y1 y2 y3 y4 y5 y6
      unfold kotatsuref06_Parse.l0
      repeat' first
      | (with_reducible exact ih0 _ _ _ _ _)
      | (with_reducible exact ih1 _ _ _ _)
      | (with_reducible exact ih2 _ _ _ _ _ _)
      | (with_reducible exact ih3 _ _ _ _ _ _)
      | (with_reducible exact ih4 _ _ _ _ _ _ _)
      | (with_reducible exact kotatsuref01_Join.mono _ _)
      | (with_reducible exact kotatsuref01_Same.mono _ _ _)
      | (with_reducible exact LeO.refl _)
      | (with_reducible exact LeO.none _)
      | (with_reducible refine LeO.ite ?_ ?_)
      | (with_reducible refine LeO.bind ?_ (fun _ => ?_))
      | exact ih0 _ _ _ _ _
      | exact ih1 _ _ _ _
      | exact ih2 _ _ _ _ _ _
      | exact ih3 _ _ _ _ _ _
      | exact ih4 _ _ _ _ _ _ _
      | exact kotatsuref01_Join.mono _ _
      | exact kotatsuref01_Same.mono _ _ _
      | exact LeO.none _
      | refine LeO.ite ?_ ?_
      | refine LeO.bind ?_ (fun _ => ?_)
theorem kotatsuref06_Parse.mono : ∀ a0 k, LeO (kotatsuref06_Parse.f k a0) (kotatsuref06_Parse.f (k + 1) a0) := by
  intro a0 k
  obtain ⟨ih0, ih1, ih2, ih3, ih4⟩ := kotatsuref06_Parse.mono_l k
  unfold kotatsuref06_Parse.f
  repeat' first
      | (with_reducible exact ih0 _ _ _ _ _)
      | (with_reducible exact ih1 _ _ _ _)
      | (with_reducible exact ih2 _ _ _ _ _ _)
      | (with_reducible exact ih3 _ _ _ _ _ _)
      | (with_reducible exact ih4 _ _ _ _ _ _ _)
      | (with_reducible exact kotatsuref01_Join.mono _ _)
      | (with_reducible exact kotatsuref01_Same.mono _ _ _)
      | (with_reducible exact LeO.refl _)
      | (with_reducible exact LeO.none _)
      | (with_reducible refine LeO.ite ?_ ?_)
      | (with_reducible refine LeO.bind ?_ (fun _ => ?_))
      | exact ih0 _ _ _ _ _
      | exact ih1 _ _ _ _
      | exact ih2 _ _ _ _ _ _
      | exact ih3 _ _ _ _ _ _
      | exact ih4 _ _ _ _ _ _ _
      | exact kotatsuref01_Join.mono _ _
      | exact kotatsuref01_Same.mono _ _ _
      | exact LeO.none _
      | refine LeO.ite ?_ ?_
      | refine LeO.bind ?_ (fun _ => ?_)
def kotatsuref06_Parse.T9 : Bool × List (List Nat × List Nat) := (true, [([], []), ([0], [0]), ([1], [1]), ([2], [2]), ([3, 2], [2, 3]), ([2], [2]), ([5, 2], [2, 5]), ([6, 2], [2, 6]), ([2], [2]), ([7, 8, 2], [2, 7, 8]), ([9, 2, 2], [2, 9]), ([4, 10, 10, 2], [2, 4, 10]), ([11, 2], [2, 11]), ([2, 12], [2, 12])])
def kotatsuref06_Parse.B9 : List Nat := [0, 1, 3, 7, 15, 7, 39, 103, 7, 487, 999, 2047, 4095, 8191]
theorem kotatsuref06_Parse.tab9 : rtab .any (opsOf Try.f13 9) = kotatsuref06_Parse.T9 := by kernel_rfl
theorem kotatsuref06_Parse.bits9 : waitsOk kotatsuref06_Parse.T9.2 kotatsuref06_Parse.B9 = true := by kernel_rfl
set_option maxHeartbeats 8000000 in
set_option maxRecDepth 100000 in
theorem kotatsuref06_Parse.calls (k : Nat) (P0_ : Nat → Prop) (A0 : Option Addr) (c0 : Nat) (l0 : List Int) (r1 : Int) (r2 : List (List Int)) (w : World) (hs0 : Kd.V (Kd.int .u8) 5 w w.heap.size (fun k_ => P0_ k_) (.slice A0 l0.length c0) l0) (h : kotatsuref06_Parse.f k l0 = some (r1, r2)) :
    Calls Try.prog 13 #[.slice A0 l0.length c0] w fun e w' => ∃ v1_ : Value, e = .returned (.tuple #[.int .u8 r1, v1_]) ∧ Kd.N (Kd.slice 5 (Kd.int .u8)) 22 w' w.heap.size (fun k_ => (P0_ k_ ∨ w.heap.size ≤ k_)) v1_ r2 ∧ Below w.heap.size w w' := by
  have HO0 := Aside0.mk (show Kd.V (Kd.int .u8) 5 w w.heap.size (fun k_ => (P0_ k_ ∨ w.heap.size ≤ k_)) (.slice A0 l0.length c0) l0 from Kd.V_mono hs0 (fun k_ hk => .inl hk))
  have HB := Aside0.mk (Below.refl w.heap.size w)
  have H : (if (l0.length : Int) ≥ 4 then (if 4 ≤ (l0.length : Int) then (kotatsuref06_Parse.j0 k l0 1 65500 0 ((strOfNums (l0.take 4)).toList == ([70, 68, 83, 26] : List UInt8))) else (none)) else (kotatsuref06_Parse.j0 k l0 1 65500 0 false)) = some (r1, r2) := h
  clear h
  have HC2 := Aside0.mk H
  clear H
  go_enter Try.func13, Try.ntmps13
  go_upto_region 2 with (fail)
  go_cut [18] (fun v18 wc => ∃ (kq : Nat) (x18_1 : Bool), v18 = .bool x18_1 ∧ Aside0 (kotatsuref06_Parse.j0 kq l0 1 65500 0 x18_1 = some (r1, r2)) ∧ Aside0 (kq ≤ k) ∧ Aside0 (Kd.V (Kd.int .u8) 5 wc w.heap.size (fun k_ => (P0_ k_ ∨ w.heap.size ≤ k_)) (.slice A0 l0.length c0) l0) ∧ Aside0 (Below w.heap.size w wc))
  case first =>
    have H := HC2.out
    clear HC2
    by_cases c3 : (l0.length : Int) ≥ 4
    · rw [if_pos c3] at H
      have c3b0 : decide (4 ≤ (l0.length : Int)) = true := decide_eq_true c3
      have c3b1 : decide (4 ≤ l0.length) = true := decide_eq_true (by omega)
      clear c3
      (first | rw [c3b0] | (simp only [i64_w, i32_w]; rw [c3b0]) | skip)
      by_cases c4 : 4 ≤ (l0.length : Int)
      · rw [if_pos c4] at H
        have c4b0 := eq_true c4
        have c4b1 : decide (4 ≤ (l0.length : Int)) = true := decide_eq_true c4
        clear c4
        obtain ⟨y149, hy149⟩ : ∃ y_ : List Int, y_ = (l0.take 4) := ⟨_, rfl⟩
        replace H : (kotatsuref06_Parse.j0 k l0 1 65500 0 ((strOfNums y149).toList == ([70, 68, 83, 26] : List UInt8))) = some (r1, r2) := by first | (rw [hy149]; with_reducible exact H) | (have H2_ := (Option.bind_some _ _).symm.trans H; rw [hy149]; with_reducible exact H2_) | (have H2_ := (Option.bind_some _ _).symm.trans H; with_reducible exact H2_) | with_reducible exact H | (rw [hy149]; exact H) | exact H
        have Ny149 := Aside0.mk hy149
        clear hy149
        have H' := Aside0.mk H
        clear H
        have q5 : (4 : Int) ≤ ((l0.length : Int) : Int) := of_decide_eq_true (by first | (with_reducible assumption) | assumption)
        obtain ⟨i05, hi05, _, hsz5, _⟩ := info_parts info5
        have hroom5 : l0.length ≤ c0 := (Kd.V_reads' HO0.out).2.1
        have hC5 : Kd.F (Kd.int .u8) _ _ A0 l0.length l0 := (Kd.V_at (base := w.heap.size) HO0.out).2.2
        have hcut5 := cut_to (P := Try.prog) 22 5 .i64 Try.underlying22 hi05 A0 l0.length c0 4 (by omega) q5 hroom5
        have hr5 := Kd.F_take (m := 4) hC5 (by omega)
        have hy5 : y149.length = (4 : Int).toNat := (by rw [Ny149.out, List.length_take]; omega)
        rw [← Ny149.out] at hr5
        rw [← hy5] at hcut5
        have HO153 := Aside0.mk (show Kd.V (Kd.int .u8) 5 _ w.heap.size _ (.slice A0 y149.length c0) y149 from Kd.V_mk (by omega) hr5)
        have HC153 := Aside0.mk (show y149.length ≤ c0 from by omega)
        clear hr5 hC5 hroom5 hi05 hsz5
        have KY5 := Aside0.mk hy5
        clear hy5
        replace q5 := eq_true q5
        have hcv6 := Kd.C_string (P := Try.prog) (A := A0) (c := c0) Try.underlying22 Try.underlying5 Try.underlying9 (Kd.V_reads' HO153.out).2.2
        go_wp2
        go_meet
        case rel => exact ⟨_, (((strOfNums y149).toList == ([70, 68, 83, 26] : List UInt8))), (by first | rfl | (simp; done) | (simp [*]; done)), H', ⟨by first | omega | exact Nat.le_refl _⟩, ⟨by (with_reducible repeat (first | apply Kd.V_alloc | apply Kd.V_drewN | apply Kd.V_drew)); exact HO0.out⟩, ⟨by repeat (first | (with_reducible first | exact HB.out | apply below_alloc | apply pw_below_drewN | apply below_drew1) | exact HB.out)⟩⟩
      · rw [if_neg c4] at H
        exact absurd H (by simp)
    · rw [if_neg c3] at H
      have c3b0 : decide (4 ≤ (l0.length : Int)) = false := decide_eq_false c3
      have c3b1 : decide (4 ≤ l0.length) = false := decide_eq_false (by omega)
      clear c3
      (first | rw [c3b0] | (simp only [i64_w, i32_w]; rw [c3b0]) | skip)
      have H' := Aside0.mk H
      clear H
      go_wp2
      go_meet
      case rel => exact ⟨_, (false), (by first | rfl | (simp; done) | (simp [*]; done)), H', ⟨by first | omega | exact Nat.le_refl _⟩, ⟨by (with_reducible repeat (first | apply Kd.V_alloc | apply Kd.V_drewN | apply Kd.V_drew)); exact HO0.out⟩, ⟨by repeat (first | (with_reducible first | exact HB.out | apply below_alloc | apply pw_below_drewN | apply below_drew1) | exact HB.out)⟩⟩
  case rest =>
    clear HC2
    try clear c1
    try clear p2
    try clear c3
    try clear c3b0
    try clear c3b1
    try clear c4
    try clear c4b0
    try clear c4b1
    try clear q5
    try clear hcv6
    try clear q5
    obtain ⟨kq, x18_1, rfl, HA, HJ1, HO_0, HB⟩ := hcut
    cases kq with
    | zero => exact absurd HA.out (by simp [kotatsuref06_Parse.j0])
    | succ kj1 =>
      have H := HA.out
      clear HA
      simp only [kotatsuref06_Parse.j0] at H
      have HC7 := Aside0.mk H
      clear H
      go_upto_if 18 with (fail)
      go_cut [4, 5, 6] (fun v4 v5 v6 wc => ∃ (kq : Nat) (x4_6 : Int) (x5_6 : Int) (x6_6 : Int), v4 = .int .u8 x4_6 ∧ v5 = .int .i64 x5_6 ∧ v6 = .int .i64 x6_6 ∧ Aside0 (kotatsuref06_Parse.j1 kq l0 x4_6 x5_6 x6_6 = some (r1, r2)) ∧ Aside0 (kq ≤ kj1) ∧ Aside0 (Kd.V (Kd.int .u8) 5 wc w.heap.size (fun k_ => (P0_ k_ ∨ w.heap.size ≤ k_)) (.slice A0 l0.length c0) l0) ∧ Aside0 (Below w.heap.size w wc))
      case first =>
        have H := HC7.out
        clear HC7
        by_cases c8 : x18_1 = true
        · subst c8
          have H1 : (kotatsuref06_Parse.j1 kj1 l0 2 65500 16) = some (r1, r2) := by rw [if_pos rfl] at H; exact H
          clear H
          have H := H1
          clear H1
          have H' := Aside0.mk H
          clear H
          go_wp2
          go_meet
          case rel => exact ⟨_, (2), (65500), (16), (by first | rfl | (simp; done) | (simp [*]; done)), (by first | rfl | (simp; done) | (simp [*]; done)), (by first | rfl | (simp; done) | (simp [*]; done)), H', ⟨by have := HJ1.out; first | omega | exact Nat.le_refl _⟩, ⟨by (with_reducible repeat (first | apply Kd.V_alloc | apply Kd.V_drewN | apply Kd.V_drew)); exact HO_0.out⟩, ⟨by repeat (first | (with_reducible first | exact HB.out | apply below_alloc | apply pw_below_drewN | apply below_drew1) | exact HB.out)⟩⟩
        · replace c8 := Bool.eq_false_iff.mpr c8
          subst c8
          have H1 : (if ((l0.length : Int) % 65536) = 0 then (kotatsuref06_Parse.j1 kj1 l0 3 65536 0) else (kotatsuref06_Parse.j1 kj1 l0 1 65500 0)) = some (r1, r2) := by rw [if_neg (show ¬ (false = true) by decide)] at H; exact H
          clear H
          have H := H1
          clear H1
          by_cases c9 : ((l0.length : Int) % 65536) = 0
          · rw [if_pos c9] at H
            have c9b0 : (((l0.length : Int) % 65536) == 0) = true := beq_iff_eq.mpr c9
            have c9b1 : (((l0.length : Int) % 65536) != 0) = false := bne_eq_false_iff_eq.mpr c9
            clear c9
            (first | rw [c9b0] | (simp only [i64_w, i32_w]; rw [c9b0]) | skip)
            have H' := Aside0.mk H
            clear H
            go_wp2
            go_meet
            case rel => exact ⟨_, (3), (65536), (0), (by first | rfl | (simp; done) | (simp [*]; done)), (by first | rfl | (simp; done) | (simp [*]; done)), (by first | rfl | (simp; done) | (simp [*]; done)), H', ⟨by have := HJ1.out; first | omega | exact Nat.le_refl _⟩, ⟨by (with_reducible repeat (first | apply Kd.V_alloc | apply Kd.V_drewN | apply Kd.V_drew)); exact HO_0.out⟩, ⟨by repeat (first | (with_reducible first | exact HB.out | apply below_alloc | apply pw_below_drewN | apply below_drew1) | exact HB.out)⟩⟩
          · rw [if_neg c9] at H
            have c9b0 : (((l0.length : Int) % 65536) == 0) = false := beq_eq_false_iff_ne.mpr c9
            have c9b1 : (((l0.length : Int) % 65536) != 0) = true := bne_iff_ne.mpr c9
            (first | rw [c9b0] | (simp only [i64_w, i32_w]; rw [c9b0]) | skip)
            have H' := Aside0.mk H
            clear H
            go_wp2
            go_meet
            case rel => exact ⟨_, (1), (65500), (0), (by first | rfl | (simp; done) | (simp [*]; done)), (by first | rfl | (simp; done) | (simp [*]; done)), (by first | rfl | (simp; done) | (simp [*]; done)), H', ⟨by have := HJ1.out; first | omega | exact Nat.le_refl _⟩, ⟨by (with_reducible repeat (first | apply Kd.V_alloc | apply Kd.V_drewN | apply Kd.V_drew)); exact HO_0.out⟩, ⟨by repeat (first | (with_reducible first | exact HB.out | apply below_alloc | apply pw_below_drewN | apply below_drew1) | exact HB.out)⟩⟩
      case rest =>
        clear HC7
        try clear c1
        try clear p2
        try clear c3
        try clear c3b0
        try clear c3b1
        try clear c4
        try clear c4b0
        try clear c4b1
        try clear q5
        try clear hcv6
        try clear c8
        try clear c9
        try clear c9b0
        try clear c9b1
        try clear p2
        try clear q5
        obtain ⟨kq, x4_6, x5_6, x6_6, rfl, rfl, rfl, HA, HJ6, HO_0, HB⟩ := hcut
        cases kq with
        | zero => exact absurd HA.out (by simp [kotatsuref06_Parse.j1])
        | succ kj6 =>
          have H := HA.out
          clear HA
          simp only [kotatsuref06_Parse.j1] at H
          by_cases c10 : x5_6 = 0
          · rw [if_pos c10] at H
            exact absurd H (by simp)
          · rw [if_neg c10] at H
            have c10b0 : (x5_6 == 0) = false := beq_eq_false_iff_ne.mpr c10
            have c10b1 : (x5_6 != 0) = true := bne_iff_ne.mpr c10
            have HC11 := Aside0.mk H
            clear H
            go_upto_region 7 with (fail)
            go_cut [44] (fun v44 wc => ∃ (kq : Nat) (x44_10 : Bool), v44 = .bool x44_10 ∧ Aside0 (kotatsuref06_Parse.j2 kq l0 x4_6 x5_6 x6_6 (wrap64 (Int.tdiv (wrap64 ((l0.length : Int) - x6_6)) x5_6)) x44_10 = some (r1, r2)) ∧ Aside0 (kq ≤ kj6) ∧ Aside0 (Kd.V (Kd.int .u8) 5 wc w.heap.size (fun k_ => (P0_ k_ ∨ w.heap.size ≤ k_)) (.slice A0 l0.length c0) l0) ∧ Aside0 (Below w.heap.size w wc))
            case first =>
              have H := HC11.out
              clear HC11
              by_cases c12 : (wrap64 (Int.tdiv (wrap64 ((l0.length : Int) - x6_6)) x5_6)) < 1
              · rw [if_pos c12] at H
                have c12b0 : decide ((wrap64 (Int.tdiv (wrap64 ((l0.length : Int) - x6_6)) x5_6)) < 1) = true := decide_eq_true c12
                clear c12
                (first | rw [c12b0] | (simp only [i64_w, i32_w]; rw [c12b0]) | skip)
                have H' := Aside0.mk H
                clear H
                go_wp2
                go_meet
                case rel => exact ⟨_, (true), (by first | rfl | (simp; done) | (simp [*]; done)), H', ⟨by have := HJ1.out; have := HJ6.out; first | omega | exact Nat.le_refl _⟩, ⟨by (with_reducible repeat (first | apply Kd.V_alloc | apply Kd.V_drewN | apply Kd.V_drew)); exact HO_0.out⟩, ⟨by repeat (first | (with_reducible first | exact HB.out | apply below_alloc | apply pw_below_drewN | apply below_drew1) | exact HB.out)⟩⟩
              · rw [if_neg c12] at H
                have c12b0 : decide ((wrap64 (Int.tdiv (wrap64 ((l0.length : Int) - x6_6)) x5_6)) < 1) = false := decide_eq_false c12
                clear c12
                (first | rw [c12b0] | (simp only [i64_w, i32_w]; rw [c12b0]) | skip)
                by_cases c13 : (wrap64 (Int.tdiv (wrap64 ((l0.length : Int) - x6_6)) x5_6)) > 8
                · rw [if_pos c13] at H
                  have c13b0 : decide (8 < (wrap64 (Int.tdiv (wrap64 ((l0.length : Int) - x6_6)) x5_6))) = true := decide_eq_true c13
                  clear c13
                  have H' := Aside0.mk H
                  clear H
                  go_wp2
                  go_meet
                  case rel => exact ⟨_, (true), (by first | rfl | (simp; done) | (simp [*]; done)), H', ⟨by have := HJ1.out; have := HJ6.out; first | omega | exact Nat.le_refl _⟩, ⟨by (with_reducible repeat (first | apply Kd.V_alloc | apply Kd.V_drewN | apply Kd.V_drew)); exact HO_0.out⟩, ⟨by repeat (first | (with_reducible first | exact HB.out | apply below_alloc | apply pw_below_drewN | apply below_drew1) | exact HB.out)⟩⟩
                · rw [if_neg c13] at H
                  have c13b0 : decide (8 < (wrap64 (Int.tdiv (wrap64 ((l0.length : Int) - x6_6)) x5_6))) = false := decide_eq_false c13
                  clear c13
                  have H' := Aside0.mk H
                  clear H
                  go_wp2
                  go_meet
                  case rel => exact ⟨_, (((l0.length : Int) != (wrap64 (x6_6 + (wrap64 ((wrap64 (Int.tdiv (wrap64 ((l0.length : Int) - x6_6)) x5_6)) * x5_6)))))), (by first | rfl | (simp; done) | (simp [*]; done)), H', ⟨by have := HJ1.out; have := HJ6.out; first | omega | exact Nat.le_refl _⟩, ⟨by (with_reducible repeat (first | apply Kd.V_alloc | apply Kd.V_drewN | apply Kd.V_drew)); exact HO_0.out⟩, ⟨by repeat (first | (with_reducible first | exact HB.out | apply below_alloc | apply pw_below_drewN | apply below_drew1) | exact HB.out)⟩⟩
            case rest =>
              clear HC11
              try clear c1
              try clear p2
              try clear c3
              try clear c3b0
              try clear c3b1
              try clear c4
              try clear c4b0
              try clear c4b1
              try clear q5
              try clear p6
              try clear hcv6
              try clear c8
              try clear c9
              try clear c9b0
              try clear c9b1
              try clear c10
              try clear c10b0
              try clear c10b1
              try clear c12
              try clear c12b0
              try clear c13
              try clear c13b0
              try clear p2
              try clear q5
              obtain ⟨kq, x44_10, rfl, HA, HJ10, HO_0, HB⟩ := hcut
              cases kq with
              | zero => exact absurd HA.out (by simp [kotatsuref06_Parse.j2])
              | succ kj10 =>
                have H := HA.out
                clear HA
                simp only [kotatsuref06_Parse.j2] at H
                by_cases c14 : x44_10 = true
                · subst c14
                  have H1 : (some (0, ([] : List (List Int)))) = some (r1, r2) := by rw [if_pos rfl] at H; exact H
                  clear H
                  have H := H1
                  clear H1
                  simp only [Option.some.injEq, Prod.mk.injEq] at H
                  obtain ⟨rfl, rfl⟩ := H
                  go_wp2
                  go_ret2
                  exact ⟨_, by first | rfl | (simp [errW_none, errW_some] <;> rfl) | (simp [*, errW_none, errW_some] <;> rfl), by first | exact Kd.S_nil _ _ _ _ _ | exact Kd.N_nil _ _ _ _ _ | exact Kd.V_nil _ _ _ _ _ | exact Kd.Q_nil _ _ _ _ _ | exact Kd.R_nil _ _ _ _ _, by repeat (first | (with_reducible first | exact HB.out | apply below_alloc | apply pw_below_drewN | apply below_drew1) | exact HB.out)⟩
                · replace c14 := Bool.eq_false_iff.mpr c14
                  subst c14
                  have H1 : (if x4_6 = 2 then (if 4 ≤ 16 then (if 16 ≤ (l0.length : Int) then (if 11 ≤ 281474976710656 then ((kotatsuref01_Join.f kj10 (([(([((wrap64 (Int.tdiv (wrap64 ((l0.length : Int) - x6_6)) x5_6))) % 256] : List Int)), (List.replicate 11 0)] : List (List Int)))).bind fun t168 => ((kotatsuref01_Same.f kj10 ((l0.take 16).drop 4) t168).bind fun t171 => (kotatsuref06_Parse.j3 kj10 l0 x4_6 x5_6 x6_6 (wrap64 (Int.tdiv (wrap64 ((l0.length : Int) - x6_6)) x5_6)) (!t171)))) else (none)) else (none)) else (none)) else (kotatsuref06_Parse.j3 kj10 l0 x4_6 x5_6 x6_6 (wrap64 (Int.tdiv (wrap64 ((l0.length : Int) - x6_6)) x5_6)) false)) = some (r1, r2) := by rw [if_neg (show ¬ (false = true) by decide)] at H; exact H
                  clear H
                  have H := H1
                  clear H1
                  have HC15 := Aside0.mk H
                  clear H
                  go_upto_region 9 with (fail)
                  go_cut [58] (fun v58 wc => ∃ (kq : Nat) (x58_14 : Bool), v58 = .bool x58_14 ∧ Aside0 (kotatsuref06_Parse.j3 kq l0 x4_6 x5_6 x6_6 (wrap64 (Int.tdiv (wrap64 ((l0.length : Int) - x6_6)) x5_6)) x58_14 = some (r1, r2)) ∧ Aside0 (kq ≤ kj10) ∧ Aside0 (Kd.V (Kd.int .u8) 5 wc w.heap.size (fun k_ => (P0_ k_ ∨ w.heap.size ≤ k_)) (.slice A0 l0.length c0) l0) ∧ Aside0 (Below w.heap.size w wc))
                  case first =>
                    have H := HC15.out
                    clear HC15
                    by_cases c16 : x4_6 = 2
                    · rw [if_pos c16] at H
                      have c16b0 : (x4_6 == 2) = true := beq_iff_eq.mpr c16
                      have c16b1 : (x4_6 != 2) = false := bne_eq_false_iff_eq.mpr c16
                      clear c16
                      (first | rw [c16b0] | (simp only [i64_w, i32_w]; rw [c16b0]) | skip)
                      by_cases c17 : 4 ≤ 16
                      · rw [if_pos c17] at H
                        have c17b0 := eq_true c17
                        have c17b1 : decide (4 ≤ 16) = true := decide_eq_true c17
                        clear c17
                        by_cases c18 : 16 ≤ (l0.length : Int)
                        · rw [if_pos c18] at H
                          have c18b0 := eq_true c18
                          have c18b1 : decide (16 ≤ (l0.length : Int)) = true := decide_eq_true c18
                          clear c18
                          obtain ⟨y154, hy154⟩ : ∃ y_ : List Int, y_ = ((l0.take 16).drop 4) := ⟨_, rfl⟩
                          replace H : (if 11 ≤ 281474976710656 then ((kotatsuref01_Join.f kj10 (([(([((wrap64 (Int.tdiv (wrap64 ((l0.length : Int) - x6_6)) x5_6))) % 256] : List Int)), (List.replicate 11 0)] : List (List Int)))).bind fun t168 => ((kotatsuref01_Same.f kj10 y154 t168).bind fun t171 => (kotatsuref06_Parse.j3 kj10 l0 x4_6 x5_6 x6_6 (wrap64 (Int.tdiv (wrap64 ((l0.length : Int) - x6_6)) x5_6)) (!t171)))) else (none)) = some (r1, r2) := by first | (rw [hy154]; with_reducible exact H) | (have H2_ := (Option.bind_some _ _).symm.trans H; rw [hy154]; with_reducible exact H2_) | (have H2_ := (Option.bind_some _ _).symm.trans H; with_reducible exact H2_) | with_reducible exact H | (rw [hy154]; exact H) | exact H
                          have Ny154 := Aside0.mk hy154
                          clear hy154
                          obtain ⟨y159, hy159⟩ : ∃ y_ : List Int, y_ = (([((wrap64 (Int.tdiv (wrap64 ((l0.length : Int) - x6_6)) x5_6))) % 256] : List Int)) := ⟨_, rfl⟩
                          replace H : (if 11 ≤ 281474976710656 then ((kotatsuref01_Join.f kj10 (([y159, (List.replicate 11 0)] : List (List Int)))).bind fun t168 => ((kotatsuref01_Same.f kj10 y154 t168).bind fun t171 => (kotatsuref06_Parse.j3 kj10 l0 x4_6 x5_6 x6_6 (wrap64 (Int.tdiv (wrap64 ((l0.length : Int) - x6_6)) x5_6)) (!t171)))) else (none)) = some (r1, r2) := by first | (rw [hy159]; with_reducible exact H) | (have H2_ := (Option.bind_some _ _).symm.trans H; rw [hy159]; with_reducible exact H2_) | (have H2_ := (Option.bind_some _ _).symm.trans H; with_reducible exact H2_) | with_reducible exact H | (rw [hy159]; exact H) | exact H
                          have Ny159 := Aside0.mk hy159
                          clear hy159
                          by_cases c19 : 11 ≤ 281474976710656
                          · rw [if_pos c19] at H
                            have c19b0 := eq_true c19
                            have c19b1 : decide (11 ≤ 281474976710656) = true := decide_eq_true c19
                            clear c19
                            obtain ⟨y162, hy162⟩ : ∃ y_ : List Int, y_ = (List.replicate 11 0) := ⟨_, rfl⟩
                            replace H : ((kotatsuref01_Join.f kj10 (([y159, y162] : List (List Int)))).bind fun t168 => ((kotatsuref01_Same.f kj10 y154 t168).bind fun t171 => (kotatsuref06_Parse.j3 kj10 l0 x4_6 x5_6 x6_6 (wrap64 (Int.tdiv (wrap64 ((l0.length : Int) - x6_6)) x5_6)) (!t171)))) = some (r1, r2) := by first | (rw [hy162]; with_reducible exact H) | (have H2_ := (Option.bind_some _ _).symm.trans H; rw [hy162]; with_reducible exact H2_) | (have H2_ := (Option.bind_some _ _).symm.trans H; with_reducible exact H2_) | with_reducible exact H | (rw [hy162]; exact H) | exact H
                            have Ny162 := Aside0.mk hy162
                            clear hy162
                            obtain ⟨y165, hy165⟩ : ∃ y_ : List (List Int), y_ = (([y159, y162] : List (List Int))) := ⟨_, rfl⟩
                            replace H : ((kotatsuref01_Join.f kj10 y165).bind fun t168 => ((kotatsuref01_Same.f kj10 y154 t168).bind fun t171 => (kotatsuref06_Parse.j3 kj10 l0 x4_6 x5_6 x6_6 (wrap64 (Int.tdiv (wrap64 ((l0.length : Int) - x6_6)) x5_6)) (!t171)))) = some (r1, r2) := by first | (rw [hy165]; with_reducible exact H) | (have H2_ := (Option.bind_some _ _).symm.trans H; rw [hy165]; with_reducible exact H2_) | (have H2_ := (Option.bind_some _ _).symm.trans H; with_reducible exact H2_) | with_reducible exact H | (rw [hy165]; exact H) | exact H
                            have Ny165 := Aside0.mk hy165
                            clear hy165
                            replace H := Option.bind_eq_some_iff.mp H
                            obtain ⟨t168, A200, H⟩ := H
                            replace H : ((kotatsuref01_Same.f kj10 y154 t168).bind fun t171 => (kotatsuref06_Parse.j3 kj10 l0 x4_6 x5_6 x6_6 (wrap64 (Int.tdiv (wrap64 ((l0.length : Int) - x6_6)) x5_6)) (!t171))) = some (r1, r2) := H
                            have A20 := Aside0.mk A200
                            clear A200
                            replace H := Option.bind_eq_some_iff.mp H
                            obtain ⟨t171, A210, H⟩ := H
                            replace H : (kotatsuref06_Parse.j3 kj10 l0 x4_6 x5_6 x6_6 (wrap64 (Int.tdiv (wrap64 ((l0.length : Int) - x6_6)) x5_6)) (!t171)) = some (r1, r2) := H
                            have A21 := Aside0.mk A210
                            clear A210
                            have H' := Aside0.mk H
                            clear H
                            try go_wp2
                            have n0_ := Aside0.mk (Kd.V_drew HO_0.out)
                            have n1_ := Aside0.mk (below_drew1 HB.out)
                            clear HO_0
                            clear HB
                            have HO_0 := n0_
                            have HB := n1_
                            clear n0_ n1_
                            have q23 : (16 : Int) ≤ ((l0.length : Int) : Int) := of_decide_eq_true (by first | (with_reducible assumption) | assumption)
                            obtain ⟨i023, hi023, _, hsz23, _⟩ := info_parts info5
                            have hroom23 : l0.length ≤ c0 := (Kd.V_reads' HO_0.out).2.1
                            have hC23 : Kd.F (Kd.int .u8) _ _ A0 l0.length l0 := (Kd.V_at (base := w.heap.size) HO_0.out).2.2
                            have ql23 : (4 : Int) ≤ (16 : Int) := (by omega)
                            have hcut23 := cut_mid (P := Try.prog) 22 5 .i64 .i64 Try.underlying22 hi023 1 hsz23 A0 l0.length c0 4 16 (by omega) ql23 q23 hroom23
                            have hr23 := Kd.F_mid (lo := (4 : Int).toNat) (hi := (16 : Int).toNat) (c := c0) hC23 (by omega) (by omega) hroom23
                            obtain ⟨A23, hA23⟩ : ∃ A1, A1 = (if c0 = (4 : Int).toNat then A0 else (A0 : Option Addr).map (·.add ((4 : Int).toNat * 1))) := ⟨_, rfl⟩
                            obtain ⟨c23, hc23⟩ : ∃ c1, c1 = c0 - (4 : Int).toNat := ⟨_, rfl⟩
                            have hy23 : y154.length = (16 : Int).toNat - (4 : Int).toNat := (by rw [Ny154.out, List.length_drop, List.length_take] <;> omega)
                            rw [show ((l0).take (16 : Int).toNat).drop (4 : Int).toNat = y154 from Ny154.out.symm] at hr23
                            replace hr23 : Kd.F (Kd.int .u8) _ _ A23 y154.length y154 := (by rw [hA23]; exact hr23)
                            rw [← hy23, ← hA23, ← hc23] at hcut23
                            have HO158 := Aside0.mk (show Kd.V (Kd.int .u8) 5 _ w.heap.size _ (.slice A23 y154.length c23) y154 from Kd.V_mk (by rw [hy23, hc23]; exact Nat.sub_le_sub_right (Nat.le_trans (by omega) hroom23) _) hr23)
                            have HC158 := Aside0.mk (show y154.length ≤ c23 from by rw [hy23, hc23]; exact Nat.sub_le_sub_right (Nat.le_trans (by omega) hroom23) _)
                            clear hr23 hC23 hroom23 hi023 hsz23 hc23
                            have KY23 := Aside0.mk hy23
                            have KA23 := Aside0.mk hA23
                            clear hy23 hA23
                            replace q23 := eq_true q23
                            refine start_ (n := 14) (S := fun w' => True) (ds := []) #[false, false, false, false, false, false, false, false, false, false, false, false, false, false] (by kernel_rfl) rfl rfl trivial (fun hHeld => ?_); refine with_tabW kotatsuref06_Parse.tab9 kotatsuref06_Parse.bits9 (fun HT_ HW_ => ?_)
                            generalize wc.drew = w22 at HO_0 HB HO158 hHeld ⊢
                            refine pure_ (i := 0) (N := some 45) (v := ?_) (a' := ?_) #[true, false, false, false, false, false, false, false, false, false, false, false, false, false] rfl rfl (any_of HT_.out (by kernel_rfl)) (fun _ _ _ h => h) (Or.inl ⟨by rfl, ?_⟩) ?_ ?_
                            rotate_left
                            · intro w'
                              go_simp
                              with_reducible rfl
                            rotate_left
                            · simp only [Act.put, List.setIfInBounds_toArray, List.set_cons_zero, List.set_cons_succ, i64_w, i32_w]
                              rfl
                            refine pure_ (i := 1) (N := some 46) (v := ?_) (a' := ?_) #[true, true, false, false, false, false, false, false, false, false, false, false, false, false] rfl rfl (any_of HT_.out (by kernel_rfl)) (fun _ _ _ h => h) (Or.inl ⟨by rfl, ?_⟩) ?_ ?_
                            rotate_left
                            · intro w'
                              go_simp
                              with_reducible rfl
                            rotate_left
                            · simp only [Act.put, List.setIfInBounds_toArray, List.set_cons_zero, List.set_cons_succ, i64_w, i32_w]
                              rfl
                            refine pure_ (i := 2) (N := some 47) (v := ?_) (a' := ?_) #[true, true, true, false, false, false, false, false, false, false, false, false, false, false] rfl rfl (any_of HT_.out (by kernel_rfl)) (fun _ _ _ h => h) (Or.inl ⟨by rfl, ?_⟩) ?_ ?_
                            rotate_left
                            · intro w'
                              go_simp
                              with_reducible rfl
                            rotate_left
                            · simp only [Act.put, List.setIfInBounds_toArray, List.set_cons_zero, List.set_cons_succ, i64_w, i32_w]
                              rfl
                            refine pure_ (i := 3) (N := some 48) (v := ?_) (a' := ?_) #[true, true, true, true, false, false, false, false, false, false, false, false, false, false] rfl rfl (any_of HT_.out (by kernel_rfl)) (fun _ _ _ h => h) (Or.inl ⟨by rfl, ?_⟩) ?_ ?_
                            rotate_left
                            · intro w'
                              go_simp
                              with_reducible rfl
                            rotate_left
                            · simp only [Act.put, List.setIfInBounds_toArray, List.set_cons_zero, List.set_cons_succ, i64_w, i32_w]
                              rfl
                            refine pure_ (i := 4) (N := some 49) (v := ?_) (a' := ?_) #[true, true, true, true, true, false, false, false, false, false, false, false, false, false] rfl rfl (any_of HT_.out (by kernel_rfl)) (fun _ _ _ h => h) (Or.inl ⟨by rfl, ?_⟩) ?_ ?_
                            rotate_left
                            · intro w'
                              go_simp
                              with_reducible rfl
                            rotate_left
                            · simp only [Act.put, List.setIfInBounds_toArray, List.set_cons_zero, List.set_cons_succ, i64_w, i32_w]
                              rfl
                            refine pure_ (i := 5) (N := some 50) (v := ?_) (a' := ?_) #[true, true, true, true, true, true, false, false, false, false, false, false, false, false] rfl rfl (any_of HT_.out (by kernel_rfl)) (fun _ _ _ h => h) (Or.inl ⟨by rfl, ?_⟩) ?_ ?_
                            rotate_left
                            · intro w'
                              go_simp
                              with_reducible rfl
                            rotate_left
                            · simp only [Act.put, List.setIfInBounds_toArray, List.set_cons_zero, List.set_cons_succ, i64_w, i32_w]
                              rfl
                            refine pure_ (i := 6) (N := some 51) (v := ?_) (a' := ?_) #[true, true, true, true, true, true, true, false, false, false, false, false, false, false] rfl rfl (any_of HT_.out (by kernel_rfl)) (fun _ _ _ h => h) (Or.inl ⟨by rfl, ?_⟩) ?_ ?_
                            rotate_left
                            · intro w'
                              go_simp
                              with_reducible rfl
                            rotate_left
                            · simp only [Act.put, List.setIfInBounds_toArray, List.set_cons_zero, List.set_cons_succ, i64_w, i32_w]
                              rfl
                            refine join_ (σ := Value × Value) 5 #[true, true, true, true, true, true, true, true, true, false, false, false, false, false] (fun s_ => [(52, s_.1), (53, s_.2)]) (fun s_ w' => (Kd.V (Kd.int .u8) 5 w' w.heap.size (fun k_ => (P0_ k_ ∨ w.heap.size ≤ k_) ∧ some k_ ≠ (s_.1 : Value).ownBlock ∧ some k_ ≠ (s_.2 : Value).ownBlock) (.slice A23 y154.length c23) y154) ∧ (Kd.R (Kd.int .u8) 5 w' w.heap.size (fun k_ => (w.heap.size ≤ k_) ∧ some k_ ≠ (s_.2 : Value).ownBlock) s_.1 y159) ∧ (Kd.R (Kd.int .u8) 5 w' w.heap.size (fun k_ => (w.heap.size ≤ k_) ∧ some k_ ≠ (s_.1 : Value).ownBlock) s_.2 y162) ∧ (Kd.V (Kd.int .u8) 5 w' w.heap.size (fun k_ => (P0_ k_ ∨ w.heap.size ≤ k_) ∧ some k_ ≠ (s_.1 : Value).ownBlock ∧ some k_ ≠ (s_.2 : Value).ownBlock) (.slice A0 l0.length c0) l0) ∧ (Below w.heap.size w w')) ?_ ?_
                            rotate_left
                            · intro hCont
                              refine two_ (i := 7) (j := 8) (Ni := some 52) (Nj := some 53) #[true, true, true, true, true, true, true, true, false, false, false, false, false, false] #[true, true, true, true, true, true, true, false, true, false, false, false, false, false] rfl rfl rfl rfl (two_of HT_.out (by kernel_rfl)) (by decide) (by decide) (fun K hK => ?_) (fun K hK => ?_)
                              · skip
                                refine Kd.R_lit_step (Kd.int .u8) _ 5 ?hg (N := 52) ?hd (xs := ([((wrap64 (Int.tdiv (wrap64 ((l0.length : Int) - x6_6)) x5_6))) % 256] : List Int)) (inner := [.int .u8 (((wrap64 (Int.tdiv (wrap64 ((l0.length : Int) - x6_6)) x5_6))) % 256)]) (ok := fun _ => True) (okp := fun _ => True) ?hr ?hp (fun _ hk => hk) trivial (Below.refl _ _) (Nat.le_refl _) (by simp) ?_; (case hd => rfl); (case hg => rfl); (case hr => first | (go_simp; done) | (go_simp; rfl)); (case hp => exact (Reps.one (show Kd.M (Kd.int .u8) _ _ _ (((wrap64 (Int.tdiv (wrap64 ((l0.length : Int) - x6_6)) x5_6))) % 256) [.int .u8 (((wrap64 (Int.tdiv (wrap64 ((l0.length : Int) - x6_6)) x5_6))) % 256)] from rfl) (Reps.none _ _)))
                                intro v160 w24 ho25 hb hg_ hnew_
                                clear hg_ hnew_
                                (first | rw [← Ny159.out] at ho25 | (simp only [Int.reduceToNat] at ho25; rw [← Ny159.out] at ho25))
                                have n0_ := Aside0.mk (Kd.V_elder' (by (with_reducible repeat (first | apply Kd.V_alloc | apply Kd.V_drewN | apply Kd.V_drew)); exact HO_0.out) (Kd.R_base ho25) hb)
                                have n1_ := Aside0.mk (Kd.V_elder' (by (with_reducible repeat (first | apply Kd.V_alloc | apply Kd.V_drewN | apply Kd.V_drew)); exact HO158.out) (Kd.R_base ho25) hb)
                                have n2_ := Aside0.mk (Kd.R_lower (Kd.R_newM (M := fun k_ => (w.heap.size ≤ k_)) ho25 (below_size (by repeat (first | (with_reducible first | exact HB.out | apply below_alloc | apply pw_below_drewN | apply below_drew1) | exact HB.out))) (fun k_ h_ => h_)) (below_size (by repeat (first | (with_reducible first | exact HB.out | apply below_alloc | apply pw_below_drewN | apply below_drew1) | exact HB.out))))
                                have n3_ := Aside0.mk (below_step (by repeat (first | (with_reducible first | exact HB.out | apply below_alloc | apply pw_below_drewN | apply below_drew1) | exact HB.out)) hb)
                                clear HO_0
                                clear HO158
                                clear HB
                                have HO_0 := n0_
                                have HO158 := n1_
                                have HO161 := n2_
                                have HB := n3_
                                clear n0_ n1_ n2_ n3_
                                clear hb ho25
                                refine hK.out _ _ trivial (fun hHeld => ?_)
                                clear hK K
                                refine norm_ (a' := ?_) ?_ ?_
                                rotate_left
                                · show Act.put _ (some 52) _ = _
                                  simp only [Act.put, List.setIfInBounds_toArray, List.set_cons_zero, List.set_cons_succ, i64_w, i32_w]
                                  rfl
                                refine one_ (i := 8) (N := some 53) #[true, true, true, true, true, true, true, true, true, false, false, false, false, false] rfl rfl (one_of HT_.out (by kernel_rfl)) (by decide) (fun K hK => ?_)
                                refine Kd.R_make_step (Kd.int .u8) _ 5 (by rfl) (N := 53) rfl 22 _ _ rfl 11 rfl rfl Try.underlying22 (.int .u8 0) 1 info5 rfl (by decide) (by omega) 0 (ok := fun _ => True) (okp := fun _ => True) rfl (fun _ hk => hk) trivial (by omega) (by omega) (Below.refl _ _) (Nat.le_refl _) ?_
                                intro v163 w26 ho27 hb hg_ hnew_
                                clear hg_ hnew_
                                (first | rw [← Ny162.out] at ho27 | (simp only [Int.reduceToNat] at ho27; rw [← Ny162.out] at ho27))
                                have n0_ := Aside0.mk (Kd.V_elder' (by (with_reducible repeat (first | apply Kd.V_alloc | apply Kd.V_drewN | apply Kd.V_drew)); exact HO_0.out) (Kd.R_base ho27) hb)
                                have n1_ := Aside0.mk (Kd.V_elder' (by (with_reducible repeat (first | apply Kd.V_alloc | apply Kd.V_drewN | apply Kd.V_drew)); exact HO158.out) (Kd.R_base ho27) hb)
                                have n2_ := Aside0.mk (Kd.R_elder' (by (with_reducible repeat (first | apply Kd.R_alloc | apply Kd.R_drewN | apply Kd.R_drew)); exact HO161.out) (Kd.R_base ho27) hb)
                                have n3_ := Aside0.mk (Kd.R_lower (Kd.R_new' (Kd.R_newM (M := fun k_ => (w.heap.size ≤ k_)) ho27 (below_size (by repeat (first | (with_reducible first | exact HB.out | apply below_alloc | apply pw_below_drewN | apply below_drew1) | exact HB.out))) (fun k_ h_ => h_)) (Kd.R_lt (by (with_reducible repeat (first | apply Kd.R_alloc | apply Kd.R_drewN | apply Kd.R_drew)); exact HO161.out))) (below_size (by repeat (first | (with_reducible first | exact HB.out | apply below_alloc | apply pw_below_drewN | apply below_drew1) | exact HB.out))))
                                have n4_ := Aside0.mk (below_step (by repeat (first | (with_reducible first | exact HB.out | apply below_alloc | apply pw_below_drewN | apply below_drew1) | exact HB.out)) hb)
                                clear HO_0
                                clear HO158
                                clear HO161
                                clear HB
                                have HO_0 := n0_
                                have HO158 := n1_
                                have HO161 := n2_
                                have HO164 := n3_
                                have HB := n4_
                                clear n0_ n1_ n2_ n3_ n4_
                                clear hb ho27
                                refine hK.out _ _ trivial (fun hHeld => ?_)
                                clear hK K
                                refine norm_ (a' := ?_) ?_ ?_
                                rotate_left
                                · show Act.put _ (some 53) _ = _
                                  simp only [Act.put, List.setIfInBounds_toArray, List.set_cons_zero, List.set_cons_succ, i64_w, i32_w]
                                  rfl
                                exact norm_ (by simp only [putAll, Act.put, List.setIfInBounds_toArray, List.set_cons_zero, List.set_cons_succ]) (hCont (v160, v163) _ ⟨(by (with_reducible repeat (first | apply Kd.V_alloc | apply Kd.V_drewN | apply Kd.V_drew)); exact Kd.V_mono HO158.out (fun _ hk => ⟨hk.1.1, ⟨hk.1.2, hk.2⟩⟩)), (by (with_reducible repeat (first | apply Kd.R_alloc | apply Kd.R_drewN | apply Kd.R_drew)); exact Kd.R_mono HO161.out (fun _ hk => ⟨hk.1.1, hk.2⟩)), (by (with_reducible repeat (first | apply Kd.R_alloc | apply Kd.R_drewN | apply Kd.R_drew)); exact Kd.R_mono HO164.out (fun _ hk => ⟨hk.1.1, hk.2⟩)), (by (with_reducible repeat (first | apply Kd.V_alloc | apply Kd.V_drewN | apply Kd.V_drew)); exact Kd.V_mono HO_0.out (fun _ hk => ⟨hk.1.1, ⟨hk.1.2, hk.2⟩⟩)), (by repeat (first | (with_reducible first | exact HB.out | apply below_alloc | apply pw_below_drewN | apply below_drew1) | exact HB.out))⟩)
                              · skip
                                refine Kd.R_make_step (Kd.int .u8) _ 5 (by rfl) (N := 53) rfl 22 _ _ rfl 11 rfl rfl Try.underlying22 (.int .u8 0) 1 info5 rfl (by decide) (by omega) 0 (ok := fun _ => True) (okp := fun _ => True) rfl (fun _ hk => hk) trivial (by omega) (by omega) (Below.refl _ _) (Nat.le_refl _) ?_
                                intro v163 w24 ho25 hb hg_ hnew_
                                clear hg_ hnew_
                                (first | rw [← Ny162.out] at ho25 | (simp only [Int.reduceToNat] at ho25; rw [← Ny162.out] at ho25))
                                have n0_ := Aside0.mk (Kd.V_elder' (by (with_reducible repeat (first | apply Kd.V_alloc | apply Kd.V_drewN | apply Kd.V_drew)); exact HO_0.out) (Kd.R_base ho25) hb)
                                have n1_ := Aside0.mk (Kd.V_elder' (by (with_reducible repeat (first | apply Kd.V_alloc | apply Kd.V_drewN | apply Kd.V_drew)); exact HO158.out) (Kd.R_base ho25) hb)
                                have n2_ := Aside0.mk (Kd.R_lower (Kd.R_newM (M := fun k_ => (w.heap.size ≤ k_)) ho25 (below_size (by repeat (first | (with_reducible first | exact HB.out | apply below_alloc | apply pw_below_drewN | apply below_drew1) | exact HB.out))) (fun k_ h_ => h_)) (below_size (by repeat (first | (with_reducible first | exact HB.out | apply below_alloc | apply pw_below_drewN | apply below_drew1) | exact HB.out))))
                                have n3_ := Aside0.mk (below_step (by repeat (first | (with_reducible first | exact HB.out | apply below_alloc | apply pw_below_drewN | apply below_drew1) | exact HB.out)) hb)
                                clear HO_0
                                clear HO158
                                clear HB
                                have HO_0 := n0_
                                have HO158 := n1_
                                have HO164 := n2_
                                have HB := n3_
                                clear n0_ n1_ n2_ n3_
                                clear hb ho25
                                refine hK.out _ _ trivial (fun hHeld => ?_)
                                clear hK K
                                refine norm_ (a' := ?_) ?_ ?_
                                rotate_left
                                · show Act.put _ (some 53) _ = _
                                  simp only [Act.put, List.setIfInBounds_toArray, List.set_cons_zero, List.set_cons_succ, i64_w, i32_w]
                                  rfl
                                refine one_ (i := 7) (N := some 52) #[true, true, true, true, true, true, true, true, true, false, false, false, false, false] rfl rfl (one_of HT_.out (by kernel_rfl)) (by decide) (fun K hK => ?_)
                                refine Kd.R_lit_step (Kd.int .u8) _ 5 ?hg (N := 52) ?hd (xs := ([((wrap64 (Int.tdiv (wrap64 ((l0.length : Int) - x6_6)) x5_6))) % 256] : List Int)) (inner := [.int .u8 (((wrap64 (Int.tdiv (wrap64 ((l0.length : Int) - x6_6)) x5_6))) % 256)]) (ok := fun _ => True) (okp := fun _ => True) ?hr ?hp (fun _ hk => hk) trivial (Below.refl _ _) (Nat.le_refl _) (by simp) ?_; (case hd => rfl); (case hg => rfl); (case hr => first | (go_simp; done) | (go_simp; rfl)); (case hp => exact (Reps.one (show Kd.M (Kd.int .u8) _ _ _ (((wrap64 (Int.tdiv (wrap64 ((l0.length : Int) - x6_6)) x5_6))) % 256) [.int .u8 (((wrap64 (Int.tdiv (wrap64 ((l0.length : Int) - x6_6)) x5_6))) % 256)] from rfl) (Reps.none _ _)))
                                intro v160 w26 ho27 hb hg_ hnew_
                                clear hg_ hnew_
                                (first | rw [← Ny159.out] at ho27 | (simp only [Int.reduceToNat] at ho27; rw [← Ny159.out] at ho27))
                                have n0_ := Aside0.mk (Kd.V_elder' (by (with_reducible repeat (first | apply Kd.V_alloc | apply Kd.V_drewN | apply Kd.V_drew)); exact HO_0.out) (Kd.R_base ho27) hb)
                                have n1_ := Aside0.mk (Kd.V_elder' (by (with_reducible repeat (first | apply Kd.V_alloc | apply Kd.V_drewN | apply Kd.V_drew)); exact HO158.out) (Kd.R_base ho27) hb)
                                have n2_ := Aside0.mk (Kd.R_elder' (by (with_reducible repeat (first | apply Kd.R_alloc | apply Kd.R_drewN | apply Kd.R_drew)); exact HO164.out) (Kd.R_base ho27) hb)
                                have n3_ := Aside0.mk (Kd.R_lower (Kd.R_new' (Kd.R_newM (M := fun k_ => (w.heap.size ≤ k_)) ho27 (below_size (by repeat (first | (with_reducible first | exact HB.out | apply below_alloc | apply pw_below_drewN | apply below_drew1) | exact HB.out))) (fun k_ h_ => h_)) (Kd.R_lt (by (with_reducible repeat (first | apply Kd.R_alloc | apply Kd.R_drewN | apply Kd.R_drew)); exact HO164.out))) (below_size (by repeat (first | (with_reducible first | exact HB.out | apply below_alloc | apply pw_below_drewN | apply below_drew1) | exact HB.out))))
                                have n4_ := Aside0.mk (below_step (by repeat (first | (with_reducible first | exact HB.out | apply below_alloc | apply pw_below_drewN | apply below_drew1) | exact HB.out)) hb)
                                clear HO_0
                                clear HO158
                                clear HO164
                                clear HB
                                have HO_0 := n0_
                                have HO158 := n1_
                                have HO164 := n2_
                                have HO161 := n3_
                                have HB := n4_
                                clear n0_ n1_ n2_ n3_ n4_
                                clear hb ho27
                                refine hK.out _ _ trivial (fun hHeld => ?_)
                                clear hK K
                                refine norm_ (a' := ?_) ?_ ?_
                                rotate_left
                                · show Act.put _ (some 52) _ = _
                                  simp only [Act.put, List.setIfInBounds_toArray, List.set_cons_zero, List.set_cons_succ, i64_w, i32_w]
                                  rfl
                                exact norm_ (by simp only [putAll, Act.put, List.setIfInBounds_toArray, List.set_cons_zero, List.set_cons_succ]) (hCont (v160, v163) _ ⟨(by (with_reducible repeat (first | apply Kd.V_alloc | apply Kd.V_drewN | apply Kd.V_drew)); exact Kd.V_mono HO158.out (fun _ hk => ⟨hk.1.1, ⟨hk.2, hk.1.2⟩⟩)), (by (with_reducible repeat (first | apply Kd.R_alloc | apply Kd.R_drewN | apply Kd.R_drew)); exact Kd.R_mono HO161.out (fun _ hk => ⟨hk.1.1, hk.2⟩)), (by (with_reducible repeat (first | apply Kd.R_alloc | apply Kd.R_drewN | apply Kd.R_drew)); exact Kd.R_mono HO164.out (fun _ hk => ⟨hk.1.1, hk.2⟩)), (by (with_reducible repeat (first | apply Kd.V_alloc | apply Kd.V_drewN | apply Kd.V_drew)); exact Kd.V_mono HO_0.out (fun _ hk => ⟨hk.1.1, ⟨hk.2, hk.1.2⟩⟩)), (by repeat (first | (with_reducible first | exact HB.out | apply below_alloc | apply pw_below_drewN | apply below_drew1) | exact HB.out))⟩)
                            rintro ⟨v160, v163⟩ w28 ⟨h0_, h1_, h2_, h3_, h4_⟩
                            have n0_ : Aside0 (Kd.V (Kd.int .u8) 5 w28 w.heap.size (fun k_ => (P0_ k_ ∨ w.heap.size ≤ k_) ∧ some k_ ≠ (v160 : Value).ownBlock ∧ some k_ ≠ (v163 : Value).ownBlock) (.slice A23 y154.length c23) y154) := ⟨h0_⟩
                            have n1_ : Aside0 (Kd.R (Kd.int .u8) 5 w28 w.heap.size (fun k_ => (w.heap.size ≤ k_) ∧ some k_ ≠ (v163 : Value).ownBlock) v160 y159) := ⟨h1_⟩
                            have n2_ : Aside0 (Kd.R (Kd.int .u8) 5 w28 w.heap.size (fun k_ => (w.heap.size ≤ k_) ∧ some k_ ≠ (v160 : Value).ownBlock) v163 y162) := ⟨h2_⟩
                            have n3_ : Aside0 (Kd.V (Kd.int .u8) 5 w28 w.heap.size (fun k_ => (P0_ k_ ∨ w.heap.size ≤ k_) ∧ some k_ ≠ (v160 : Value).ownBlock ∧ some k_ ≠ (v163 : Value).ownBlock) (.slice A0 l0.length c0) l0) := ⟨h3_⟩
                            have n4_ : Aside0 (Below w.heap.size w w28) := ⟨h4_⟩
                            clear HO_0
                            clear HB
                            clear h0_ h1_ h2_ h3_ h4_
                            have HO158 := n0_
                            have HO161 := n1_
                            have HO164 := n2_
                            have HO_0 := n3_
                            have HB := n4_
                            clear n0_ n1_ n2_ n3_ n4_
                            have hHeld := trivial
                            obtain ⟨Ao29, co29, eo29⟩ := Kd.R_slice HO161.out
                            (first | subst eo29 | (injection eo29 with f1_ f2_ f3_; have f4_ := f1_.symm; have f5_ := f3_.symm; clear f1_ f2_ f3_; subst f4_; subst f5_))
                            obtain ⟨Ao30, co30, eo30⟩ := Kd.R_slice HO164.out
                            (first | subst eo30 | (injection eo30 with f1_ f2_ f3_; have f4_ := f1_.symm; have f5_ := f3_.symm; clear f1_ f2_ f3_; subst f4_; subst f5_))
                            refine norm_ (a' := ?_) ?_ ?_
                            rotate_left
                            · simp only [putAll, Act.put, List.setIfInBounds_toArray, List.set_cons_zero, List.set_cons_succ]
                              rfl
                            refine one_ (i := 9) (N := some 54) #[true, true, true, true, true, true, true, true, true, true, false, false, false, false] rfl rfl (one_of HT_.out (by kernel_rfl)) (by decide) (fun K hK => ?_)
                            refine Kd.N_lit_step (Kd.slice 5 (Kd.int .u8)) _ 22 ?hg (N' := 54) ?hd (xs := ([y159, y162] : List (List Int))) (inner := [.slice Ao29 y159.length co29, .slice Ao30 y162.length co30]) (ok := (fun k_ => (P0_ k_ ∨ w.heap.size ≤ k_))) (okp := (fun k_ => (P0_ k_ ∨ w.heap.size ≤ k_))) ?hr ?hp (fun _ hk => hk) ((show ∀ k_, w28.heap.size ≤ k_ → (fun k_ => (P0_ k_ ∨ w.heap.size ≤ k_)) k_ from fun k_ hk => (.inr (Nat.le_trans (below_size (by repeat (first | (with_reducible first | exact HB.out | apply below_alloc | apply pw_below_drewN | apply below_drew1) | exact HB.out))) hk))) _ (Nat.le_refl _)) (Below.refl _ _) (Nat.le_refl _) (by simp) ?_; (case hd => rfl); (case hg => rfl); (case hr => first | (go_simp; done) | (go_simp; rfl)); (case hp => exact (Reps.one (show Kd.FK (Kd.slice 5 (Kd.int .u8)) _ _ y159 [.slice Ao29 y159.length co29] from (Kd.FK_slice_mk (Kd.R_reads' (Kd.R_mono (ok' := (fun k_ => (P0_ k_ ∨ w.heap.size ≤ k_))) (HO161.out) (fun k_ hk => (.inr (hk.1))))).2.1 (Kd.R_F (Kd.R_mono (ok' := (fun k_ => (P0_ k_ ∨ w.heap.size ≤ k_))) (HO161.out) (fun k_ hk => (.inr (hk.1))))))) (Reps.one (show Kd.FK (Kd.slice 5 (Kd.int .u8)) _ _ y162 [.slice Ao30 y162.length co30] from (Kd.FK_slice_mk (Kd.R_reads' (Kd.R_mono (ok' := (fun k_ => (P0_ k_ ∨ w.heap.size ≤ k_))) (HO164.out) (fun k_ hk => (.inr (hk.1))))).2.1 (Kd.R_F (Kd.R_mono (ok' := (fun k_ => (P0_ k_ ∨ w.heap.size ≤ k_))) (HO164.out) (fun k_ hk => (.inr (hk.1))))))) (Reps.none _ _))))
                            intro v166 w31 ho32 hb hg_ hnew_
                            clear hg_ hnew_
                            (first | rw [← Ny165.out] at ho32 | (simp only [Int.reduceToNat] at ho32; rw [← Ny165.out] at ho32))
                            have n0_ := Aside0.mk (Kd.V_elder' (by (with_reducible repeat (first | apply Kd.V_alloc | apply Kd.V_drewN | apply Kd.V_drew)); exact HO_0.out) (Kd.N_base ho32) hb)
                            have n1_ := Aside0.mk (Kd.V_elder' (by (with_reducible repeat (first | apply Kd.V_alloc | apply Kd.V_drewN | apply Kd.V_drew)); exact HO158.out) (Kd.N_base ho32) hb)
                            have n2_ := Aside0.mk (Kd.N_lower ho32 (below_size (by repeat (first | (with_reducible first | exact HB.out | apply below_alloc | apply pw_below_drewN | apply below_drew1) | exact HB.out))))
                            have n3_ := Aside0.mk (below_step (by repeat (first | (with_reducible first | exact HB.out | apply below_alloc | apply pw_below_drewN | apply below_drew1) | exact HB.out)) hb)
                            clear HO_0
                            clear HO158
                            clear HB
                            clear HO161
                            clear HO164
                            have HO_0 := n0_
                            have HO158 := n1_
                            have HO167 := n2_
                            have HB := n3_
                            clear n0_ n1_ n2_ n3_
                            clear hb ho32
                            obtain ⟨Ao33, co33, eo33⟩ := Kd.N_slice HO167.out
                            (first | subst eo33 | (injection eo33 with f1_ f2_ f3_; have f4_ := f1_.symm; have f5_ := f3_.symm; clear f1_ f2_ f3_; subst f4_; subst f5_))
                            refine hK.out _ _ trivial (fun hHeld => ?_)
                            clear hK K
                            refine norm_ (a' := ?_) ?_ ?_
                            rotate_left
                            · show Act.put _ (some 54) _ = _
                              simp only [Act.put, List.setIfInBounds_toArray, List.set_cons_zero, List.set_cons_succ, i64_w, i32_w]
                              rfl
                            refine one_ (i := 10) (N := some 55) #[true, true, true, true, true, true, true, true, true, true, true, false, false, false] rfl rfl (one_of HT_.out (by kernel_rfl)) (by decide) (fun K hK => ?_)
                            refine goes_ Try.func11 (by kernel_rfl) rfl #[.slice Ao33 y165.length co33] (by rfl) rfl rfl (by (try simp only [List.map_toArray, List.map_cons, List.map_nil]); first | done | rfl | (simp only [List.length_drop, List.length_take]; rfl)) ?_
                            with_reducible refine (kotatsuref01_Join.calls kj10 _ _ y165 t168 _ ?side1 ?side2 A20.out).mono ?_
                            (case side1 => repeat (first | exact (Kd.N_reads' HO167.out).2.2 | (with_reducible refine Kd.C_alloc ?_ _) | (with_reducible refine Kd.C_drewN ?_ _) | (with_reducible refine Kd.C_drew ?_)))
                            (case side2 => exact (Kd.N_reads' HO167.out).2.1)
                            rintro e w34 ⟨v169, rfl, ho0, hb⟩
                            refine ⟨_, rfl, ?_⟩
                            have n0_ := Aside0.mk (Kd.V_elder' (by (with_reducible repeat (first | apply Kd.V_alloc | apply Kd.V_drewN | apply Kd.V_drew)); exact HO_0.out) (Kd.R_base ho0) hb)
                            have n1_ := Aside0.mk (Kd.V_elder' (by (with_reducible repeat (first | apply Kd.V_alloc | apply Kd.V_drewN | apply Kd.V_drew)); exact HO158.out) (Kd.R_base ho0) hb)
                            have n2_ := Aside0.mk (Kd.N_elder' (by (with_reducible repeat (first | apply Kd.N_alloc | apply Kd.N_drewN | apply Kd.N_drew)); exact HO167.out) (Kd.R_base ho0) hb)
                            have n3_ := Aside0.mk (Kd.R_lower (Kd.R_newM (M := fun k_ => (w.heap.size ≤ k_)) ho0 (below_size (by repeat (first | (with_reducible first | exact HB.out | apply below_alloc | apply pw_below_drewN | apply below_drew1) | exact HB.out))) (fun k_ h_ => h_)) (below_size (by repeat (first | (with_reducible first | exact HB.out | apply below_alloc | apply pw_below_drewN | apply below_drew1) | exact HB.out))))
                            have n4_ := Aside0.mk (below_step (by repeat (first | (with_reducible first | exact HB.out | apply below_alloc | apply pw_below_drewN | apply below_drew1) | exact HB.out)) hb)
                            clear HO_0
                            clear HO158
                            clear HO167
                            clear HB
                            have HO_0 := n0_
                            have HO158 := n1_
                            have HO167 := n2_
                            have HO170 := n3_
                            have HB := n4_
                            clear n0_ n1_ n2_ n3_ n4_
                            (try clear hb)
                            (try clear hb2)
                            (try clear hk)
                            (try clear hi)
                            (try clear ho0)
                            obtain ⟨Ao35, co35, eo35⟩ := Kd.R_slice HO170.out
                            (first | subst eo35 | (injection eo35 with f1_ f2_ f3_; have f4_ := f1_.symm; have f5_ := f3_.symm; clear f1_ f2_ f3_; subst f4_; subst f5_))
                            refine hK.out _ _ trivial (fun hHeld => ?_)
                            clear hK K
                            refine norm_ (a' := ?_) ?_ ?_
                            rotate_left
                            · show Act.put _ (some 55) _ = _
                              simp only [Act.put, List.setIfInBounds_toArray, List.set_cons_zero, List.set_cons_succ, i64_w, i32_w]
                              rfl
                            refine one_ (i := 11) (N := some 56) #[true, true, true, true, true, true, true, true, true, true, true, true, false, false] rfl rfl (one_of HT_.out (by kernel_rfl)) (by decide) (fun K hK => ?_)
                            refine goes_ Try.func14 (by kernel_rfl) rfl #[.slice A23 y154.length c23, .slice Ao35 t168.length co35] (by rfl) rfl rfl (by (try simp only [List.map_toArray, List.map_cons, List.map_nil]); first | done | rfl | (simp only [List.length_drop, List.length_take]; rfl)) ?_
                            with_reducible refine (kotatsuref01_Same.calls kj10 _ _ y154 _ _ t168 t171 _ ?side1 ?side2 ?side3 ?side4 A21.out).mono ?_
                            (case side1 => repeat (first | exact (Kd.V_reads' HO158.out).2.2 | (with_reducible refine Kd.C_alloc ?_ _) | (with_reducible refine Kd.C_drewN ?_ _) | (with_reducible refine Kd.C_drew ?_)))
                            (case side2 => exact (Kd.V_reads' HO158.out).2.1)
                            (case side3 => repeat (first | exact (Kd.R_reads' HO170.out).2.2 | (with_reducible refine Kd.C_alloc ?_ _) | (with_reducible refine Kd.C_drewN ?_ _) | (with_reducible refine Kd.C_drew ?_)))
                            (case side4 => exact (Kd.R_reads' HO170.out).2.1)
                            rintro e w' ⟨rfl, ⟨nd, rfl⟩⟩
                            refine ⟨_, rfl, ?_⟩
                            refine hK.out _ _ trivial (fun hHeld => ?_)
                            clear hK K
                            refine norm_ (a' := ?_) ?_ ?_
                            rotate_left
                            · show Act.put _ (some 56) _ = _
                              simp only [Act.put, List.setIfInBounds_toArray, List.set_cons_zero, List.set_cons_succ, i64_w, i32_w]
                              rfl
                            refine pure_ (i := 12) (N := some 57) (v := ?_) (a' := ?_) #[true, true, true, true, true, true, true, true, true, true, true, true, true, false] rfl rfl (any_of HT_.out (by kernel_rfl)) (fun _ _ _ h => h) (Or.inl ⟨by rfl, ?_⟩) ?_ ?_
                            rotate_left
                            · intro w'
                              go_simp
                              with_reducible rfl
                            rotate_left
                            · simp only [Act.put, List.setIfInBounds_toArray, List.set_cons_zero, List.set_cons_succ, i64_w, i32_w]
                              rfl
                            refine pure_ (i := 13) (N := some 58) (v := ?_) (a' := ?_) #[true, true, true, true, true, true, true, true, true, true, true, true, true, true] rfl rfl (any_of HT_.out (by kernel_rfl)) (fun _ _ _ h => h) (Or.inl ⟨by rfl, ?_⟩) ?_ ?_
                            rotate_left
                            · intro w'
                              go_simp
                              with_reducible rfl
                            rotate_left
                            · simp only [Act.put, List.setIfInBounds_toArray, List.set_cons_zero, List.set_cons_succ, i64_w, i32_w]
                              rfl
                            refine done_ (done_of HT_.out (by kernel_rfl)) ?_
                            try go_wp2
                            go_meet
                            case rel => exact ⟨_, (!t171), (by first | rfl | (simp; done) | (simp [*]; done)), H', ⟨by have := HJ1.out; have := HJ6.out; have := HJ10.out; first | omega | exact Nat.le_refl _⟩, ⟨by (with_reducible repeat (first | apply Kd.V_alloc | apply Kd.V_drewN | apply Kd.V_drew)); exact Kd.V_mono HO_0.out (fun _ hk => hk.1.1.1)⟩, ⟨by repeat (first | (with_reducible first | exact HB.out | apply below_alloc | apply pw_below_drewN | apply below_drew1) | exact HB.out)⟩⟩
                          · rw [if_neg c19] at H
                            exact absurd H (by simp)
                        · rw [if_neg c18] at H
                          exact absurd H (by simp)
                      · rw [if_neg c17] at H
                        exact absurd H (by simp)
                    · rw [if_neg c16] at H
                      have c16b0 : (x4_6 == 2) = false := beq_eq_false_iff_ne.mpr c16
                      have c16b1 : (x4_6 != 2) = true := bne_iff_ne.mpr c16
                      (first | rw [c16b0] | (simp only [i64_w, i32_w]; rw [c16b0]) | skip)
                      have H' := Aside0.mk H
                      clear H
                      try go_wp2
                      have n0_ := Aside0.mk (Kd.V_drew HO_0.out)
                      have n1_ := Aside0.mk (below_drew1 HB.out)
                      clear HO_0
                      clear HB
                      have HO_0 := n0_
                      have HB := n1_
                      clear n0_ n1_
                      refine start_ (n := 14) (S := fun w' => True) (ds := []) #[false, false, false, false, false, false, false, false, false, false, false, false, false, false] (by kernel_rfl) rfl rfl trivial (fun hHeld => ?_); refine with_tabW kotatsuref06_Parse.tab9 kotatsuref06_Parse.bits9 (fun HT_ HW_ => ?_)
                      generalize wc.drew = w36 at HO_0 HB hHeld ⊢
                      refine pure_ (i := 0) (N := some 45) (v := ?_) (a' := ?_) #[true, false, false, false, false, false, false, false, false, false, false, false, false, false] rfl rfl (any_of HT_.out (by kernel_rfl)) (fun _ _ _ h => h) (Or.inl ⟨by rfl, ?_⟩) ?_ ?_
                      rotate_left
                      · intro w'
                        go_simp
                        with_reducible rfl
                      rotate_left
                      · simp only [Act.put, List.setIfInBounds_toArray, List.set_cons_zero, List.set_cons_succ, i64_w, i32_w]
                        rfl
                      refine pure_ (i := 1) (N := some 46) (v := ?_) (a' := ?_) #[true, true, false, false, false, false, false, false, false, false, false, false, false, false] rfl rfl (any_of HT_.out (by kernel_rfl)) (fun _ _ _ h => h) (Or.inl ⟨by rfl, ?_⟩) ?_ ?_
                      rotate_left
                      · intro w'
                        go_simp
                        with_reducible rfl
                      rotate_left
                      · simp only [Act.put, List.setIfInBounds_toArray, List.set_cons_zero, List.set_cons_succ, i64_w, i32_w]
                        rfl
                      refine pure_ (i := 2) (N := some 47) (v := ?_) (a' := ?_) #[true, true, true, false, false, false, false, false, false, false, false, false, false, false] rfl rfl (any_of HT_.out (by kernel_rfl)) (fun _ _ _ h => h) (Or.inl ⟨by rfl, ?_⟩) ?_ ?_
                      rotate_left
                      · intro w'
                        go_simp
                        with_reducible rfl
                      rotate_left
                      · simp only [Act.put, List.setIfInBounds_toArray, List.set_cons_zero, List.set_cons_succ, i64_w, i32_w]
                        rfl
                      refine pure_ (i := 3) (N := some 48) (v := undef) (a' := ?_) #[true, true, true, true, false, false, false, false, false, false, false, false, false, false] rfl rfl (any_of HT_.out (by kernel_rfl)) (fun _ _ _ h => h) (Or.inr ⟨by rfl, rfl⟩) ?_ ?_
                      rotate_left
                      · simp only [Act.put, List.setIfInBounds_toArray, List.set_cons_zero, List.set_cons_succ, i64_w, i32_w]
                        rfl
                      refine pure_ (i := 4) (N := some 49) (v := undef) (a' := ?_) #[true, true, true, true, true, false, false, false, false, false, false, false, false, false] rfl rfl (any_of HT_.out (by kernel_rfl)) (fun _ _ _ h => h) (Or.inr ⟨by rfl, rfl⟩) ?_ ?_
                      rotate_left
                      · simp only [Act.put, List.setIfInBounds_toArray, List.set_cons_zero, List.set_cons_succ, i64_w, i32_w]
                        rfl
                      refine pure_ (i := 5) (N := some 50) (v := undef) (a' := ?_) #[true, true, true, true, true, true, false, false, false, false, false, false, false, false] rfl rfl (any_of HT_.out (by kernel_rfl)) (fun _ _ _ h => h) (Or.inr ⟨by rfl, rfl⟩) ?_ ?_
                      rotate_left
                      · simp only [Act.put, List.setIfInBounds_toArray, List.set_cons_zero, List.set_cons_succ, i64_w, i32_w]
                        rfl
                      refine pure_ (i := 6) (N := some 51) (v := undef) (a' := ?_) #[true, true, true, true, true, true, true, false, false, false, false, false, false, false] rfl rfl (any_of HT_.out (by kernel_rfl)) (fun _ _ _ h => h) (Or.inr ⟨by rfl, rfl⟩) ?_ ?_
                      rotate_left
                      · simp only [Act.put, List.setIfInBounds_toArray, List.set_cons_zero, List.set_cons_succ, i64_w, i32_w]
                        rfl
                      refine pure_ (i := 7) (N := some 52) (v := undef) (a' := ?_) #[true, true, true, true, true, true, true, true, false, false, false, false, false, false] rfl rfl (any_of HT_.out (by kernel_rfl)) (fun _ _ _ h => h) (Or.inr ⟨by rfl, rfl⟩) ?_ ?_
                      rotate_left
                      · simp only [Act.put, List.setIfInBounds_toArray, List.set_cons_zero, List.set_cons_succ, i64_w, i32_w]
                        rfl
                      refine pure_ (i := 8) (N := some 53) (v := undef) (a' := ?_) #[true, true, true, true, true, true, true, true, true, false, false, false, false, false] rfl rfl (any_of HT_.out (by kernel_rfl)) (fun _ _ _ h => h) (Or.inr ⟨by rfl, rfl⟩) ?_ ?_
                      rotate_left
                      · simp only [Act.put, List.setIfInBounds_toArray, List.set_cons_zero, List.set_cons_succ, i64_w, i32_w]
                        rfl
                      refine pure_ (i := 9) (N := some 54) (v := undef) (a' := ?_) #[true, true, true, true, true, true, true, true, true, true, false, false, false, false] rfl rfl (any_of HT_.out (by kernel_rfl)) (fun _ _ _ h => h) (Or.inr ⟨by rfl, rfl⟩) ?_ ?_
                      rotate_left
                      · simp only [Act.put, List.setIfInBounds_toArray, List.set_cons_zero, List.set_cons_succ, i64_w, i32_w]
                        rfl
                      refine pure_ (i := 10) (N := some 55) (v := undef) (a' := ?_) #[true, true, true, true, true, true, true, true, true, true, true, false, false, false] rfl rfl (any_of HT_.out (by kernel_rfl)) (fun _ _ _ h => h) (Or.inr ⟨by rfl, rfl⟩) ?_ ?_
                      rotate_left
                      · simp only [Act.put, List.setIfInBounds_toArray, List.set_cons_zero, List.set_cons_succ, i64_w, i32_w]
                        rfl
                      refine pure_ (i := 11) (N := some 56) (v := undef) (a' := ?_) #[true, true, true, true, true, true, true, true, true, true, true, true, false, false] rfl rfl (any_of HT_.out (by kernel_rfl)) (fun _ _ _ h => h) (Or.inr ⟨by rfl, rfl⟩) ?_ ?_
                      rotate_left
                      · simp only [Act.put, List.setIfInBounds_toArray, List.set_cons_zero, List.set_cons_succ, i64_w, i32_w]
                        rfl
                      refine pure_ (i := 12) (N := some 57) (v := undef) (a' := ?_) #[true, true, true, true, true, true, true, true, true, true, true, true, true, false] rfl rfl (any_of HT_.out (by kernel_rfl)) (fun _ _ _ h => h) (Or.inr ⟨by rfl, rfl⟩) ?_ ?_
                      rotate_left
                      · simp only [Act.put, List.setIfInBounds_toArray, List.set_cons_zero, List.set_cons_succ, i64_w, i32_w]
                        rfl
                      refine pure_ (i := 13) (N := some 58) (v := ?_) (a' := ?_) #[true, true, true, true, true, true, true, true, true, true, true, true, true, true] rfl rfl (any_of HT_.out (by kernel_rfl)) (fun _ _ _ h => h) (Or.inl ⟨by rfl, ?_⟩) ?_ ?_
                      rotate_left
                      · intro w'
                        go_simp
                        with_reducible rfl
                      rotate_left
                      · simp only [Act.put, List.setIfInBounds_toArray, List.set_cons_zero, List.set_cons_succ, i64_w, i32_w]
                        rfl
                      refine done_ (done_of HT_.out (by kernel_rfl)) ?_
                      try go_wp2
                      go_meet
                      case rel => exact ⟨_, (false), (by first | rfl | (simp; done) | (simp [*]; done)), H', ⟨by have := HJ1.out; have := HJ6.out; have := HJ10.out; first | omega | exact Nat.le_refl _⟩, ⟨by (with_reducible repeat (first | apply Kd.V_alloc | apply Kd.V_drewN | apply Kd.V_drew)); exact HO_0.out⟩, ⟨by repeat (first | (with_reducible first | exact HB.out | apply below_alloc | apply pw_below_drewN | apply below_drew1) | exact HB.out)⟩⟩
                  case rest =>
                    clear HC15
                    try clear c1
                    try clear c2
                    try clear p2
                    try clear q2
                    try clear c3
                    try clear c3b0
                    try clear c3b1
                    try clear c4
                    try clear c4b0
                    try clear c4b1
                    try clear q5
                    try clear p6
                    try clear hcv6
                    try clear c8
                    try clear c9
                    try clear c9b0
                    try clear c9b1
                    try clear c10
                    try clear c10b0
                    try clear c10b1
                    try clear c11
                    try clear c12
                    try clear c12b0
                    try clear c13
                    try clear c13b0
                    try clear c14
                    try clear c16
                    try clear c16b0
                    try clear c16b1
                    try clear c17
                    try clear c17b0
                    try clear c17b1
                    try clear c18
                    try clear c18b0
                    try clear c18b1
                    try clear c19
                    try clear c19b0
                    try clear c19b1
                    try clear c23
                    try clear q23
                    try clear p2
                    try clear p6
                    try clear q23
                    try clear q5
                    obtain ⟨kq, x58_14, rfl, HA, HJ14, HO_0, HB⟩ := hcut
                    cases kq with
                    | zero => exact absurd HA.out (by simp [kotatsuref06_Parse.j3])
                    | succ kj14 =>
                      have H := HA.out
                      clear HA
                      simp only [kotatsuref06_Parse.j3] at H
                      by_cases c37 : x58_14 = true
                      · subst c37
                        have H1 : (some (0, ([] : List (List Int)))) = some (r1, r2) := by rw [if_pos rfl] at H; exact H
                        clear H
                        have H := H1
                        clear H1
                        simp only [Option.some.injEq, Prod.mk.injEq] at H
                        obtain ⟨rfl, rfl⟩ := H
                        go_wp2
                        go_ret2
                        exact ⟨_, by first | rfl | (simp [errW_none, errW_some] <;> rfl) | (simp [*, errW_none, errW_some] <;> rfl), by first | exact Kd.S_nil _ _ _ _ _ | exact Kd.N_nil _ _ _ _ _ | exact Kd.V_nil _ _ _ _ _ | exact Kd.Q_nil _ _ _ _ _ | exact Kd.R_nil _ _ _ _ _, by repeat (first | (with_reducible first | exact HB.out | apply below_alloc | apply pw_below_drewN | apply below_drew1) | exact HB.out)⟩
                      · replace c37 := Bool.eq_false_iff.mpr c37
                        subst c37
                        have H1 : (kotatsuref06_Parse.l0 kj14 l0 x4_6 x5_6 x6_6 (wrap64 (Int.tdiv (wrap64 ((l0.length : Int) - x6_6)) x5_6)) ([] : List (List Int)) 0) = some (r1, r2) := by rw [if_neg (show ¬ (false = true) by decide)] at H; exact H
                        clear H
                        have H := H1
                        clear H1
                        have H' := Aside0.mk H
                        clear H
                        go_wp2
                        go_loopg [8, 9] kj14 (fun kq v8 v9 w' => ∃ (x8_5 : List (List Int)) (x9_5 : Int), v9 = .int .i64 x9_5 ∧ Aside0 (kotatsuref06_Parse.l0 kq l0 x4_6 x5_6 x6_6 (wrap64 (Int.tdiv (wrap64 ((l0.length : Int) - x6_6)) x5_6)) x8_5 x9_5 = some (r1, r2)) ∧ Aside0 (kq ≤ kj14) ∧ Aside0 (Kd.V (Kd.int .u8) 5 w' w.heap.size (fun k_ => (P0_ k_ ∨ w.heap.size ≤ k_) ∧ some k_ ≠ (v8 : Value).ownBlock) (.slice A0 l0.length c0) l0) ∧ Aside0 (Kd.N (Kd.slice 5 (Kd.int .u8)) 22 w' w.heap.size (fun k_ => (P0_ k_ ∨ w.heap.size ≤ k_)) v8 x8_5) ∧ Aside0 (Below w.heap.size w w'))
                        case atStart => exact ⟨(([] : List (List Int))), (0), (by first | rfl | (simp; done) | (simp [*]; done)), H', ⟨Nat.le_refl _⟩, ⟨by (with_reducible repeat (first | apply Kd.V_alloc | apply Kd.V_drewN | apply Kd.V_drew)); exact Kd.V_mono HO_0.out (fun _ hk => ⟨hk, (by simp [Value.ownBlock])⟩)⟩, ⟨by first | exact Kd.S_nil _ _ _ _ _ | exact Kd.N_nil _ _ _ _ _ | exact Kd.V_nil _ _ _ _ _ | exact Kd.Q_nil _ _ _ _ _ | exact Kd.R_nil _ _ _ _ _⟩, ⟨by repeat (first | (with_reducible first | exact HB.out | apply below_alloc | apply pw_below_drewN | apply below_drew1) | exact HB.out)⟩⟩
                        case round =>
                          clear H'
                          try clear c1
                          try clear c2
                          try clear p2
                          try clear q2
                          try clear c3
                          try clear c3b0
                          try clear c3b1
                          try clear c4
                          try clear c4b0
                          try clear c4b1
                          try clear q5
                          try clear p6
                          try clear hcv6
                          try clear c8
                          try clear c9
                          try clear c9b0
                          try clear c9b1
                          try clear c10
                          try clear c10b0
                          try clear c10b1
                          try clear c11
                          try clear c12
                          try clear c12b0
                          try clear c13
                          try clear c13b0
                          try clear c14
                          try clear c16
                          try clear c16b0
                          try clear c16b1
                          try clear c17
                          try clear c17b0
                          try clear c17b1
                          try clear c18
                          try clear c18b0
                          try clear c18b1
                          try clear c19
                          try clear c19b0
                          try clear c19b1
                          try clear c23
                          try clear q23
                          try clear c37
                          try clear p2
                          try clear p6
                          try clear q2
                          try clear q23
                          try clear q5
                          obtain ⟨x8_5, x9_5, rfl, HA, HK5, HO_0, HO_8, HB⟩ := hrel
                          cases gk with
                          | zero => exact absurd HA.out (by simp [kotatsuref06_Parse.l0])
                          | succ k5 =>
                            have H := HA.out
                            clear HA
                            simp only [kotatsuref06_Parse.l0] at H
                            by_cases c38 : x9_5 < (wrap64 (Int.tdiv (wrap64 ((l0.length : Int) - x6_6)) x5_6))
                            · rw [if_pos c38] at H
                              have c38b0 : decide (x9_5 < (wrap64 (Int.tdiv (wrap64 ((l0.length : Int) - x6_6)) x5_6))) = true := decide_eq_true c38
                              clear c38
                              obtain ⟨ji39, hji39⟩ : ∃ j_ : Int, (wrap64 (x6_6 + (wrap64 (x9_5 * x5_6)))) = j_ := ⟨_, rfl⟩
                              replace H : (if 0 ≤ (ji39) then (if (ji39) ≤ (wrap64 ((ji39) + x5_6)) then (if (wrap64 ((ji39) + x5_6)) ≤ (l0.length : Int) then (if x8_5.length < 5864062014805 then (kotatsuref06_Parse.l0 k5 l0 x4_6 x5_6 x6_6 (wrap64 (Int.tdiv (wrap64 ((l0.length : Int) - x6_6)) x5_6)) (x8_5 ++ [((l0.take ((wrap64 ((ji39) + x5_6)) : Int).toNat).drop ((ji39) : Int).toNat)]) (wrap64 (x9_5 + 1))) else (none)) else (none)) else (none)) else (none)) = some (r1, r2) := by first | (rw [hji39] at H; exact H) | (simp only [hji39] at H ⊢; exact H)
                              have hji39w : (IntKind.i64.wrap (x6_6 + (wrap64 (x9_5 * x5_6)))) = ji39 := (i64_w _).trans hji39
                              by_cases c40 : 0 ≤ (ji39)
                              · rw [if_pos c40] at H
                                have c40b0 := eq_true c40
                                have c40b1 : decide (0 ≤ (ji39)) = true := decide_eq_true c40
                                clear c40
                                by_cases c41 : (ji39) ≤ (wrap64 ((ji39) + x5_6))
                                · rw [if_pos c41] at H
                                  have c41b0 := eq_true c41
                                  have c41b1 : decide ((ji39) ≤ (wrap64 ((ji39) + x5_6))) = true := decide_eq_true c41
                                  by_cases c42 : (wrap64 ((ji39) + x5_6)) ≤ (l0.length : Int)
                                  · rw [if_pos c42] at H
                                    have c42b0 := eq_true c42
                                    have c42b1 : decide ((wrap64 ((ji39) + x5_6)) ≤ (l0.length : Int)) = true := decide_eq_true c42
                                    obtain ⟨y172, hy172⟩ : ∃ y_ : List Int, y_ = ((l0.take ((wrap64 ((ji39) + x5_6)) : Int).toNat).drop ((ji39) : Int).toNat) := ⟨_, rfl⟩
                                    replace H : (if x8_5.length < 5864062014805 then (kotatsuref06_Parse.l0 k5 l0 x4_6 x5_6 x6_6 (wrap64 (Int.tdiv (wrap64 ((l0.length : Int) - x6_6)) x5_6)) (x8_5 ++ [y172]) (wrap64 (x9_5 + 1))) else (none)) = some (r1, r2) := by first | (rw [hy172]; with_reducible exact H) | (have H2_ := (Option.bind_some _ _).symm.trans H; rw [hy172]; with_reducible exact H2_) | (have H2_ := (Option.bind_some _ _).symm.trans H; with_reducible exact H2_) | with_reducible exact H | (rw [hy172]; exact H) | exact H
                                    have Ny172 := Aside0.mk hy172
                                    clear hy172
                                    by_cases c43 : x8_5.length < 5864062014805
                                    · rw [if_pos c43] at H
                                      have LMc43 := Aside0.mk c43
                                      clear c43
                                      obtain ⟨y177, hy177⟩ : ∃ y_ : List (List Int), y_ = (x8_5 ++ [y172]) := ⟨_, rfl⟩
                                      replace H : (kotatsuref06_Parse.l0 k5 l0 x4_6 x5_6 x6_6 (wrap64 (Int.tdiv (wrap64 ((l0.length : Int) - x6_6)) x5_6)) y177 (wrap64 (x9_5 + 1))) = some (r1, r2) := by first | (rw [hy177]; with_reducible exact H) | (have H2_ := (Option.bind_some _ _).symm.trans H; rw [hy177]; with_reducible exact H2_) | (have H2_ := (Option.bind_some _ _).symm.trans H; with_reducible exact H2_) | with_reducible exact H | (rw [hy177]; exact H) | exact H
                                      have Ny177 := Aside0.mk hy177
                                      clear hy177
                                      have H' := Aside0.mk H
                                      clear H
                                      have q44 : ((wrap64 ((ji39) + x5_6)) : Int) ≤ ((l0.length : Int) : Int) := of_decide_eq_true (by first | (with_reducible assumption) | assumption)
                                      obtain ⟨i044, hi044, _, hsz44, _⟩ := info_parts info5
                                      have hroom44 : l0.length ≤ c0 := (Kd.V_reads' HO_0.out).2.1
                                      have hC44 : Kd.F (Kd.int .u8) _ _ A0 l0.length l0 := (Kd.V_at (base := w.heap.size) HO_0.out).2.2
                                      have ql44 : ((ji39) : Int) ≤ ((wrap64 ((ji39) + x5_6)) : Int) := of_decide_eq_true (by first | (with_reducible assumption) | assumption)
                                      have q044 : (0 : Int) ≤ ((ji39) : Int) := of_decide_eq_true (by first | (with_reducible assumption) | assumption)
                                      have hcut44 := cut_mid (P := Try.prog) 22 5 .i64 .i64 Try.underlying22 hi044 1 hsz44 A0 l0.length c0 (ji39) (wrap64 ((ji39) + x5_6)) q044 ql44 q44 hroom44
                                      have hr44 := Kd.F_mid (lo := ((ji39) : Int).toNat) (hi := ((wrap64 ((ji39) + x5_6)) : Int).toNat) (c := c0) hC44 (by omega) (by omega) hroom44
                                      obtain ⟨A44, hA44⟩ : ∃ A1, A1 = (if c0 = ((ji39) : Int).toNat then A0 else (A0 : Option Addr).map (·.add (((ji39) : Int).toNat * 1))) := ⟨_, rfl⟩
                                      obtain ⟨c44, hc44⟩ : ∃ c1, c1 = c0 - ((ji39) : Int).toNat := ⟨_, rfl⟩
                                      have hy44 : y172.length = ((wrap64 ((ji39) + x5_6)) : Int).toNat - ((ji39) : Int).toNat := (by rw [Ny172.out, List.length_drop, List.length_take] <;> omega)
                                      rw [show ((l0).take ((wrap64 ((ji39) + x5_6)) : Int).toNat).drop ((ji39) : Int).toNat = y172 from Ny172.out.symm] at hr44
                                      replace hr44 : Kd.F (Kd.int .u8) _ _ A44 y172.length y172 := (by rw [hA44]; exact hr44)
                                      rw [← hy44, ← hA44, ← hc44] at hcut44
                                      have HO176 := Aside0.mk (show Kd.V (Kd.int .u8) 5 _ w.heap.size _ (.slice A44 y172.length c44) y172 from Kd.V_mk (by rw [hy44, hc44]; exact Nat.sub_le_sub_right (Nat.le_trans (by omega) hroom44) _) hr44)
                                      have HC176 := Aside0.mk (show y172.length ≤ c44 from by rw [hy44, hc44]; exact Nat.sub_le_sub_right (Nat.le_trans (by omega) hroom44) _)
                                      clear hr44 hC44 hroom44 hi044 hsz44 hc44
                                      have KY44 := Aside0.mk hy44
                                      have KA44 := Aside0.mk hA44
                                      clear hy44 hA44
                                      replace q44 := eq_true q44
                                      go_wp2_with (first | ((with_reducible refine gate_builtin (b := .append) (xs := #[.tmp 64, .tmp 79]) rfl ?_); (try (refine gate_guard (by rfl) ?_; dsimp only)); at_builtin; refine Kd.N_append (Kd.slice 5 (Kd.int .u8)) (w0 := w) w.heap.size rfl (.tmp 64) (.tmp 79) 28 22 (.slice none 0 0) 24 rfl Try.underlying28 info22 rfl (by decide) (by omega) u8 x8_5 y172 [.slice A44 y172.length c44] (fun k_ => (P0_ k_ ∨ w.heap.size ≤ k_)) (fun k_ => ((fun k_ => (P0_ k_ ∨ w.heap.size ≤ k_))) k_ ∧ some k_ ≠ (u8 : Value).ownBlock) rfl rfl ?aP (fun _ hk => hk) ?aF ?aO ?aB ?aS ?aL ?_; (case aP => exact (Kd.FK_slice_mk (Kd.V_reads' (Kd.V_mono (ok' := (fun k_ => ((fun k_ => (P0_ k_ ∨ w.heap.size ≤ k_))) k_ ∧ some k_ ≠ (u8 : Value).ownBlock)) (HO176.out) (fun k_ hk => ⟨hk.1, hk.2⟩))).2.1 (Kd.V_F (Kd.V_mono (ok' := (fun k_ => ((fun k_ => (P0_ k_ ∨ w.heap.size ≤ k_))) k_ ∧ some k_ ≠ (u8 : Value).ownBlock)) (HO176.out) (fun k_ hk => ⟨hk.1, hk.2⟩))))); (case aB => exact (by repeat (first | (with_reducible first | exact HB.out | apply below_alloc | apply pw_below_drewN | apply below_drew1) | exact HB.out))); (case aF => exact (fun k_ hk => (.inr (Nat.le_trans (below_size (by repeat (first | (with_reducible first | exact HB.out | apply below_alloc | apply pw_below_drewN | apply below_drew1) | exact HB.out))) hk)))); (case aO => exact (by (with_reducible repeat (first | apply Kd.N_alloc | apply Kd.N_drewN | apply Kd.N_drew)); exact HO_8.out)); (case aS => exact (below_size (by repeat (first | (with_reducible first | exact HB.out | apply below_alloc | apply pw_below_drewN | apply below_drew1) | exact HB.out)))); (case aL => have := LMc43.out; omega); intro v178 w45 ho hb hg hat; rw [← Ny177.out] at ho; have n0_ := Aside0.mk (Kd.V_afterv (ok := (fun k_ => (P0_ k_ ∨ w.heap.size ≤ k_))) (by (with_reducible repeat (first | apply Kd.V_alloc | apply Kd.V_drewN | apply Kd.V_drew)); exact HO_0.out) hg hat); have n1_ := Aside0.mk (Kd.V_afterv (ok := (fun k_ => (P0_ k_ ∨ w.heap.size ≤ k_))) (by (with_reducible repeat (first | apply Kd.V_alloc | apply Kd.V_drewN | apply Kd.V_drew)); exact HO176.out) hg hat); have n2_ := Aside0.mk (hb); have n3_ := Aside0.mk (ho); clear HO_0; clear HO176; clear HB; clear HO_8; have HO_0 := n0_; have HO176 := n1_; have HB := n2_; have HO179 := n3_; clear n0_ n1_ n2_ n3_; clear ho hb hg hat))
                                      go_roundg k5
                                      case measure => have := HJ1.out; have := HJ6.out; have := HJ10.out; have := HJ14.out; have := HK5.out; omega
                                      case rel => exact ⟨(y177), (wrap64 (x9_5 + 1)), (by first | rfl | (simp; done) | (simp [*]; done)), H', ⟨by have := HJ1.out; have := HJ6.out; have := HJ10.out; have := HJ14.out; have := HK5.out; omega⟩, ⟨by (with_reducible repeat (first | apply Kd.V_alloc | apply Kd.V_drewN | apply Kd.V_drew)); exact HO_0.out⟩, ⟨by (with_reducible repeat (first | apply Kd.N_alloc | apply Kd.N_drewN | apply Kd.N_drew)); exact HO179.out⟩, ⟨by repeat (first | (with_reducible first | exact HB.out | apply below_alloc | apply pw_below_drewN | apply below_drew1) | exact HB.out)⟩⟩
                                    · rw [if_neg c43] at H
                                      exact absurd H (by simp)
                                  · rw [if_neg c42] at H
                                    exact absurd H (by simp)
                                · rw [if_neg c41] at H
                                  exact absurd H (by simp)
                              · rw [if_neg c40] at H
                                exact absurd H (by simp)
                            · rw [if_neg c38] at H
                              have c38b0 : decide (x9_5 < (wrap64 (Int.tdiv (wrap64 ((l0.length : Int) - x6_6)) x5_6))) = false := decide_eq_false c38
                              clear c38
                              simp only [Option.some.injEq, Prod.mk.injEq] at H
                              obtain ⟨rfl, rfl⟩ := H
                              go_wp2
                              go_ret2
                              exact ⟨_, by first | rfl | (simp [errW_none, errW_some] <;> rfl) | (simp [*, errW_none, errW_some] <;> rfl), by (with_reducible repeat (first | apply Kd.N_alloc | apply Kd.N_drewN | apply Kd.N_drew)); exact HO_8.out, by repeat (first | (with_reducible first | exact HB.out | apply below_alloc | apply pw_below_drewN | apply below_drew1) | exact HB.out)⟩

end Go.Proofs.Ythnfmoaiejaheaa.PDiskParses
