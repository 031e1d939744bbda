-- made by a program of this repo (wip/patch_print.py); not trusted: Lean checks it
import Derived.Test.YthnfmoaiejaheaaZPDiskWrapsx0
import Derived.Test.YthnfmoaiejaheaaZPDiskWrapsx1
import Derived.Test.YthnfmoaiejaheaaZPDiskWrapsx4
-- squeezed
namespace Go.Proofs.Ythnfmoaiejaheaa.PDiskWraps
open Go.RowKit Go.Proofs.YthnfmoaiejaheaaW.PrintWords Go.Proofs.YthnfmoaiejaheaaW.PrintLast Go.Proofs.YthnfmoaiejaheaaW.PrintMore
attribute [local go_sem] max2_int min2_int max_two min_two max_three min_three max_four min_four   -- for this text's walks alone
set_option linter.unusedVariables false
set_option linter.unusedSimpArgs false

/-! ### block_File: function 28, by hand -/
def block_File.head (a0 a1 : Int) (a2 : ByteArray) (a3 a4 n : Int) : List Int := [a0, a1] ++ H.spl (List.replicate 8 0) 0 ((bytesOf a2).take 8) ++ [a3 % 256, a3 / 256 % 256, n % 256, n / 256, a4]
def block_File.f (a0 a1 : Int) (a2 : ByteArray) (a3 a4 : Int) (l5 : List Int) : Option (List (S73)) :=
 if (l5.length : Int) > 65535 then some [] else some [⟨3, block_File.head a0 a1 a2 a3 a4 (l5.length : Int)⟩, ⟨4, l5⟩]
theorem block_File.spl_at (ys : List Int) (hl : ys.length ≤ 8) (a0 a1 a10 a11 a12 a13 a14 : Int) :
  (((((H.spl ((((List.replicate 15 0).set 0 a0)).set 1 a1) 2 ys).set 10 a10).set 11 a11).set 12 a12).set 13 a13).set 14 a14 = [a0, a1] ++ H.spl (List.replicate 8 0) 0 ys ++ [a10, a11, a12, a13, a14] := by
 rcases (show ys.length = 0 ∨ ys.length = 1 ∨ ys.length = 2 ∨ ys.length = 3 ∨ ys.length = 4 ∨ ys.length = 5 ∨ ys.length = 6 ∨ ys.length = 7 ∨ ys.length = 8 by omega) with h | h | h | h | h | h | h | h | h
 all_goals
  rcases ys with _ | ⟨y0, _ | ⟨y1, _ | ⟨y2, _ | ⟨y3, _ | ⟨y4, _ | ⟨y5, _ | ⟨y6, _ | ⟨y7, _ | ⟨y8, ys⟩⟩⟩⟩⟩⟩⟩⟩⟩ <;> first | rfl | (simp at h)
set_option maxHeartbeats 400000 in
set_option maxRecDepth 100000 in
theorem block_File.calls (a0 a1 : Int) (a2 : ByteArray) (a3 a4 : Int) (A5 : Option Addr) (c5 : Nat) (l5 : List Int) (r : List (S73)) (w : World) (hr5 : Kd.C (Kd.int .u8) w A5 l5.length l5) (hc5 : l5.length ≤ c5) (h : block_File.f a0 a1 a2 a3 a4 l5 = some r) :
  Calls Try.prog 28 #[.int .u8 a0, .int .u8 a1, .string a2, .int .u16 a3, .int .u8 a4, .slice A5 l5.length c5] w fun e w' => ∃ v0_ : Value, e = .returned (v0_) ∧ Kd.N k73 73 w' w.heap.size (fun k_ => (w.heap.size ≤ k_)) v0_ r ∧ Below w.heap.size w w' := by
 unfold block_File.f at h
 by_cases hl : (l5.length : Int) > 65535
 ·rw [if_pos hl] at h
  obtain rfl := Option.some.inj h
  have t1 : decide ((65535 : Int) < (l5.length : Int)) = true := decide_eq_true hl
  clear hr5 hc5 h
  go_enter Try.func28, Try.ntmps28
  go_wp2
  go_ret
  exact ⟨_, rfl, Kd.N_nil _ _ _ _ _, Below.refl _ _⟩
 ·rw [if_neg hl] at h
  obtain rfl := Option.some.inj h
  have t1 : decide ((65535 : Int) < (l5.length : Int)) = false := decide_eq_false hl
  have HR := Aside0.mk hr5
  have HC := Aside0.mk hc5
  have HL := Aside0.mk hl
  have hl2 : (l5.length : Int) ≤ 65535 := by omega
  clear hr5 hc5 h hl
  go_enter Try.func28, Try.ntmps28
  have HSZ5 := Aside0.mk (show (Try.prog.info? 5).map (·.size) = some 1 by kernel_rfl)
  go_wp2_with (first
   | ((with_reducible refine gate_dst (N := 17) rfl ?_); refine H.makeRow rfl 22 5 _ _ rfl 15 rfl rfl Try.underlying22 info5 (by decide) ?_; intro w1 hrow hb hsz; have ROW := Aside0.mk hrow; have HB := Aside0.mk hb; have HSZ := Aside0.mk hsz; have c0 := hrow.cell 0 (by decide); have c1 := hrow.cell 1 (by decide); have f0 := hrow.frozen 0; have f1 := hrow.frozen 1; clear hrow hb hsz)
   | ((with_reducible refine gate_dst (N := 27) rfl ?_); have HROWX := (ROW.out.set_ 0 a0).set_ 1 a1; have HBX : Below w.heap.size w ((w1.setCell ⟨w.heap.size, 0, none⟩ (.int .u8 a0)).setCell ⟨w.heap.size, 1, none⟩ (.int .u8 a1)) := (HB.out.setCell (p := ⟨w.heap.size, 0, none⟩) (Nat.le_refl _) _).setCell (p := ⟨w.heap.size, 1, none⟩) (Nat.le_refl _) _; refine H.copyStr rfl (.tmp 25) (.tmp 26) 22 9 rfl 5 Try.underlying22 HSZ5.out w.heap.size 2 8 13 a2 rfl rfl 5 _ HROWX (by simp) w.heap.size w HBX (Nat.le_refl _) ?_; clear HROWX HBX; intro w2 hrow hb hk hz; have HSZ2 := Aside0.mk (show w2.heap.size = w.heap.size + 1 by rw [hz]; simp [HSZ.out]); have ROW2 := Aside0.mk hrow; have HB2 := Aside0.mk hb; have hsl := H.spl_length (((List.replicate 15 0).set 0 a0).set 1 a1) ((bytesOf a2).take 8) 2 (by simp; omega); rw [show (((List.replicate 15 (0 : Int)).set 0 a0).set 1 a1).length = 15 by simp] at hsl; have d10 := hrow.cell 10 (by rw [hsl]; decide); have d11 := hrow.cell 11 (by rw [hsl]; decide); have d12 := hrow.cell 12 (by rw [hsl]; decide); have d13 := hrow.cell 13 (by rw [hsl]; decide); have d14 := hrow.cell 14 (by rw [hsl]; decide); have e10 := hrow.frozen 10; have e11 := hrow.frozen 11; have e12 := hrow.frozen 12; have e13 := hrow.frozen 13; have e14 := hrow.frozen 14; clear hrow hb hk hz hsl; clear c0 c1 f0 f1; generalize (H.spl (((List.replicate 15 0).set 0 a0).set 1 a1) 2 ((bytesOf a2).take 8)).getD 10 0 = x10 at *; generalize (H.spl (((List.replicate 15 0).set 0 a0).set 1 a1) 2 ((bytesOf a2).take 8)).getD 11 0 = x11 at *; generalize (H.spl (((List.replicate 15 0).set 0 a0).set 1 a1) 2 ((bytesOf a2).take 8)).getD 12 0 = x12 at *; generalize (H.spl (((List.replicate 15 0).set 0 a0).set 1 a1) 2 ((bytesOf a2).take 8)).getD 13 0 = x13 at *; generalize (H.spl (((List.replicate 15 0).set 0 a0).set 1 a1) 2 ((bytesOf a2).take 8)).getD 14 0 = x14 at *))
  have HT := Aside0.mk (block_File.spl_at ((bytesOf a2).take 8) (List.length_take_le _ _) a0 a1 (a3 % 256) (a3 / 256 % 256) ((l5.length : Int) % 256) ((l5.length : Int) / 256) a4)
  have ROW6 := Aside0.mk (((((ROW2.out.set_ 10 (a3 % 256)).set_ 11 (a3 / 256 % 256)).set_ 12 ((l5.length : Int) % 256)).set_ 13 ((l5.length : Int) / 256)).set_ 14 a4)
  rw [HT.out] at ROW6
  have HB6 := Aside0.mk (((((HB2.out.setCell (p := ⟨w.heap.size, 10, none⟩) (Nat.le_refl _) (.int .u8 (a3 % 256))).setCell (p := ⟨w.heap.size, 11, none⟩) (Nat.le_refl _) (.int .u8 (a3 / 256 % 256))).setCell (p := ⟨w.heap.size, 12, none⟩) (Nat.le_refl _) (.int .u8 ((l5.length : Int) % 256))).setCell (p := ⟨w.heap.size, 13, none⟩) (Nat.le_refl _) (.int .u8 ((l5.length : Int) / 256))).setCell (p := ⟨w.heap.size, 14, none⟩) (Nat.le_refl _) (.int .u8 a4))
  refine (bytes_Clone.calls A5 c5 l5 l5 _ (Kd.C_below HR.out HB6.out) HC.out (by unfold bytes_Clone.f; rw [if_pos (by omega)])).mono ?_
  rintro e w3 ⟨v3, rfl, ho, hb⟩
  have ROW7 := Aside0.mk (ROW6.out.below hb)
  have HB7 := Aside0.mk (HB6.out.trans (hb.mono (below_size HB6.out)))
  have HO := Aside0.mk (Kd.V_mono (ok' := fun k => w.heap.size ≤ k) ho (fun k hk => Nat.le_trans (below_size HB6.out) hk))
  clear ho hb ROW6 HB6 HT ROW2 HB2 ROW HB d10 d11 d12 d13 d14 e10 e11 e12 e13 e14
  obtain ⟨A3, c3, e3⟩ := Kd.V_slice HO.out
  subst e3
  have hhl : (block_File.head a0 a1 a2 a3 a4 (l5.length : Int)).length = 15 := by unfold block_File.head; simp [H.spl]; omega
  have HF1 := Aside0.mk (show Kd.F (Kd.int .u8) w3 (fun k => w.heap.size ≤ k) (some ⟨w.heap.size, 0, none⟩) (block_File.head a0 a1 a2 a3 a4 (l5.length : Int)).length (block_File.head a0 a1 a2 a3 a4 (l5.length : Int)) from Kd.F_mono (Kd.V_F (ROW7.out.V 0 (by rw [show ([a0, a1] ++ H.spl (List.replicate 8 0) 0 ((bytesOf a2).take 8) ++ [a3 % 256, a3 / 256 % 256, (l5.length : Int) % 256, (l5.length : Int) / 256, a4]).length = 15 from hhl]; decide))) (fun k hk => Nat.le_of_eq hk.symm))
  have HHL := Aside0.mk hhl
  clear ROW7 hhl
  have hrep := ((Reps.none (Kd.FK k73 w3 (fun k => w.heap.size ≤ k)) k73.sz).snoc (p := (⟨3, block_File.head a0 a1 a2 a3 a4 (l5.length : Int)⟩ : S73)) (k73_mkF w3 _ (⟨3, block_File.head a0 a1 a2 a3 a4 (l5.length : Int)⟩ : S73) (Nat.le_of_eq HHL.out) HF1.out) rfl).snoc (p := (⟨4, l5⟩ : S73)) (k73_mkF w3 _ (⟨4, l5⟩ : S73) (Kd.V_reads' HO.out).2.1 (Kd.V_F HO.out)) rfl
  simp only [List.nil_append, List.cons_append] at hrep
  rw [HHL.out] at hrep
  have HREP := Aside0.mk hrep
  clear hrep
  go_wp2
  go_ret
  exact ⟨_, rfl, H.litN k73 w.heap.size 73 HREP.out (fun _ h => h) (below_size HB7.out) (below_size HB7.out) (by simp), below_alloc HB7.out _⟩

/-! ### kotatsuref01_Text: function 38 -/
def kotatsuref01_Text.f (a0 : ByteArray) (a1 : Int) : Option (ByteArray) := if 0 ≤ (mn (a0.size : Int) a1) then (if (mn (a0.size : Int) a1) ≤ (a0.size : Int) then (some (a0.extract 0 ((mn (a0.size : Int) a1) : Int).toNat)) else (none)) else (none)
set_option maxHeartbeats 8000000 in
set_option maxRecDepth 100000 in
theorem kotatsuref01_Text.calls (a0 : ByteArray) (a1 : Int) (r : ByteArray) (w : World) (h : kotatsuref01_Text.f a0 a1 = some r) :
  Calls Try.prog 38 #[.string a0, .int .i64 a1] w fun e w' => e = .returned (.string r) ∧ Below w.heap.size w w' := by
 have HB := Aside0.mk (Below.refl w.heap.size w)
 have H : (if 0 ≤ (mn (a0.size : Int) a1) then (if (mn (a0.size : Int) a1) ≤ (a0.size : Int) then (some (a0.extract 0 ((mn (a0.size : Int) a1) : Int).toNat)) else (none)) else (none)) = some r := h
 clear h
 obtain ⟨ji3, hji3⟩ : ∃ j_ : Int, (mn (a0.size : Int) a1) = j_ := ⟨_, rfl⟩
 replace H : (if 0 ≤ (ji3) then (if (ji3) ≤ (a0.size : Int) then (some (a0.extract 0 ((ji3) : Int).toNat)) else (none)) else (none)) = some r := by first | (rw [hji3] at H; exact H) | (simp only [hji3] at H ⊢; exact H)
 have hji3_ : (if a1 < (a0.size : Int) then a1 else (a0.size : Int)) = ji3 := hji3
 by_cases c4 : 0 ≤ (ji3)
 ·rw [if_pos c4] at H
  have c4b0 := eq_true c4
  have c4b1 : decide (0 ≤ (ji3)) = true := decide_eq_true c4
  clear c4
  by_cases c5 : (ji3) ≤ (a0.size : Int)
  ·rw [if_pos c5] at H
   have c5b0 := eq_true c5
   have c5b1 : decide ((ji3) ≤ (a0.size : Int)) = true := decide_eq_true c5
   clear c5
   obtain rfl := Option.some.inj H
   go_enter Try.func38, Try.ntmps38
   go_wp2
   go_ret
   exact ⟨by first | rfl | (simp [errW_none, errW_some] <;> rfl) | (simp only [← hji3]; first | rfl | (simp [errW_none, errW_some] <;> rfl)) | (simp [*, errW_none, errW_some] <;> rfl), by repeat (first | (with_reducible first | exact HB.out | apply below_alloc | apply pw_below_drewN | apply below_drew1) | exact HB.out)⟩
  ·rw [if_neg c5] at H
   exact absurd H (by simp)
 ·rw [if_neg c4] at H
  exact absurd H (by simp)

/-! ### kotatsulaw06_made: function 20 -/
def kotatsulaw06_made.l0 : Nat → Int → List (List (S73)) → List (S76) → Int → Int → Option ((List (S73)))
 | 0, _, _, _, _, _ => none
 | k + 1, x0, x5, x8, x9, x10 => if x10 < x9 then (if 0 ≤ x10 then (if x10 < (x8.length : Int) then (if x10 < 6 then ((kotatsuref01_Text.f ((rd_T76 x8 x10).f1) 8).bind fun t205 => ((kotatsuref01_Cut.f k ((rd_T76 x8 x10).f2) 200).bind fun t206 => ((block_File.f ((rd_T76 x8 x10).f0) 0 t205 24576 0 t206).bind fun t209 => (if x5.length < 5864062014805 then (kotatsulaw06_made.l0 k x0 (x5 ++ [t209]) x8 x9 (wrap64 (x10 + 1))) else (none))))) else (kotatsulaw06_made.l0 k x0 x5 x8 x9 (wrap64 (x10 + 1)))) else (none)) else (none)) else ((block_Disk.f (⟨#[75]⟩ : ByteArray) x0 x5).bind fun t200 => (some t200))
def kotatsulaw06_made.f (k : Nat) (a0 : Int) (l1 : List (S76)) : Option ((List (S73))) := kotatsulaw06_made.l0 k a0 ([] : List (List (S73))) l1 (l1.length : Int) 0
def kotatsulaw06_made.T6 : Bool × List (List Nat × List Nat) := (true, [([], []), ([], []), ([1], [1]), ([], []), ([3], [3]), ([4], [4]), ([], []), ([6], [6]), ([7, 5], [7]), ([2, 5, 8, 8], [2, 5, 8]), ([9], [9]), ([0, 10, 9], [0, 10]), ([11, 11, 0, 1, 2, 3, 4, 5, 6, 7, 8, 9, 10, 11], [0, 11])])
def kotatsulaw06_made.B6 : List Nat := [0, 0, 2, 0, 8, 24, 0, 64, 248, 510, 1022, 2047, 4095]
theorem kotatsulaw06_made.tab6 : rtab .any (opsOf Try.f20 6) = kotatsulaw06_made.T6 := by kernel_rfl
theorem kotatsulaw06_made.bits6 : waitsOk kotatsulaw06_made.T6.2 kotatsulaw06_made.B6 = true := by kernel_rfl
set_option maxHeartbeats 8000000 in
set_option maxRecDepth 100000 in
theorem kotatsulaw06_made.calls (k : Nat) (a0 : Int) (A1 : Option Addr) (c1 : Nat) (l1 : List (S76)) (r : List (S73)) (w : World) (hr1 : Kd.C k76 w A1 l1.length l1) (hc1 : l1.length ≤ c1) (h : kotatsulaw06_made.f k a0 l1 = some r) :
  Calls Try.prog 20 #[.int .u8 a0, .slice A1 l1.length c1] w fun e w' => ∃ v0_ : Value, e = .returned (v0_) ∧ Kd.N k73 73 w' w.heap.size (fun k_ => (w.heap.size ≤ k_)) v0_ r ∧ Below w.heap.size w w' := by
 have hu76 := Try.underlying76
 have HR1 := Aside0.mk hr1
 have HC1 := Aside0.mk hc1
 clear hr1 hc1
 have HB := Aside0.mk (Below.refl w.heap.size w)
 have H : (kotatsulaw06_made.l0 k a0 ([] : List (List (S73))) l1 (l1.length : Int) 0) = some r := h
 clear h
 have H' := Aside0.mk H
 clear H
 go_enter Try.func20, Try.ntmps20
 go_wp2
 go_loopg [5, 10] k (fun kq v5 v10 w' => ∃ (x5_1 : List (List (S73))) (x10_1 : Int), v10 = .int .i64 x10_1 ∧ Aside0 (kotatsulaw06_made.l0 kq a0 x5_1 l1 (l1.length : Int) x10_1 = some r) ∧ Aside0 (kq ≤ k) ∧ Aside0 (Kd.N (Kd.slice 73 k73) 45 w' w.heap.size (fun k_ => (w.heap.size ≤ k_)) v5 x5_1) ∧ Aside0 (Below w.heap.size w w'))
 case atStart => exact ⟨(([] : List (List (S73)))), (0), (by first | rfl | (simp; done) | (simp [*]; done)), H', ⟨Nat.le_refl _⟩, ⟨by first | exact Kd.R_nil _ _ _ _ _ | exact Kd.N_nil _ _ _ _ _ | exact Kd.V_nil _ _ _ _ _ | exact Kd.Q_nil _ _ _ _ _ | exact Kd.S_nil _ _ _ _ _⟩, ⟨by repeat (first | (with_reducible first | exact HB.out | apply below_alloc | apply pw_below_drewN | apply below_drew1) | exact HB.out)⟩⟩
 case round =>
  clear H'
  try clear c1
  try clear c2
  try clear p2
  obtain ⟨x5_1, x10_1, rfl, HA, HK1, HO_5, HB⟩ := hrel
  cases gk with
  | zero => exact absurd HA.out (by simp [kotatsulaw06_made.l0])
  | succ k1 =>
   have H := HA.out
   clear HA
   simp only [kotatsulaw06_made.l0] at H
   by_cases c3 : x10_1 < (l1.length : Int)
   ·rw [if_pos c3] at H
    have c3b0 : decide (x10_1 < (l1.length : Int)) = true := decide_eq_true c3
    clear c3
    by_cases c4 : 0 ≤ x10_1
    ·rw [if_pos c4] at H
     have c4b0 : decide (0 ≤ x10_1) = true := decide_eq_true c4
     clear c4
     by_cases c5 : x10_1 < (l1.length : Int)
     ·rw [if_pos c5] at H
      have c5b0 : decide (x10_1 < (l1.length : Int)) = true := decide_eq_true c5
      clear c5
      by_cases c6 : x10_1 < 6
      ·rw [if_pos c6] at H
       have c6b0 : decide (x10_1 < 6) = true := decide_eq_true c6
       clear c6
       replace H := Option.bind_eq_some_iff.mp H
       obtain ⟨t205, A70, H⟩ := H
       replace H : ((kotatsuref01_Cut.f k1 ((rd_T76 l1 x10_1).f2) 200).bind fun t206 => ((block_File.f ((rd_T76 l1 x10_1).f0) 0 t205 24576 0 t206).bind fun t209 => (if x5_1.length < 5864062014805 then (kotatsulaw06_made.l0 k1 a0 (x5_1 ++ [t209]) l1 (l1.length : Int) (wrap64 (x10_1 + 1))) else (none)))) = some r := H
       have A7 := Aside0.mk A70
       clear A70
       replace H := Option.bind_eq_some_iff.mp H
       obtain ⟨t206, A80, H⟩ := H
       replace H : ((block_File.f ((rd_T76 l1 x10_1).f0) 0 t205 24576 0 t206).bind fun t209 => (if x5_1.length < 5864062014805 then (kotatsulaw06_made.l0 k1 a0 (x5_1 ++ [t209]) l1 (l1.length : Int) (wrap64 (x10_1 + 1))) else (none))) = some r := H
       have A8 := Aside0.mk A80
       clear A80
       replace H := Option.bind_eq_some_iff.mp H
       obtain ⟨t209, A90, H⟩ := H
       replace H : (if x5_1.length < 5864062014805 then (kotatsulaw06_made.l0 k1 a0 (x5_1 ++ [t209]) l1 (l1.length : Int) (wrap64 (x10_1 + 1))) else (none)) = some r := H
       have A9 := Aside0.mk A90
       clear A90
       by_cases c10 : x5_1.length < 5864062014805
       ·rw [if_pos c10] at H
        have LMc10 := Aside0.mk c10
        clear c10
        obtain ⟨y212, hy212⟩ : ∃ y_ : List (List (S73)), y_ = (x5_1 ++ [t209]) := ⟨_, rfl⟩
        replace H : (kotatsulaw06_made.l0 k1 a0 y212 l1 (l1.length : Int) (wrap64 (x10_1 + 1))) = some r := by first | (rw [hy212]; with_reducible exact H) | (have H2_ := (Option.bind_some _ _).symm.trans H; rw [hy212]; with_reducible exact H2_) | (have H2_ := (Option.bind_some _ _).symm.trans H; with_reducible exact H2_) | with_reducible exact H | (rw [hy212]; exact H) | exact H
        have Ny212 := Aside0.mk hy212
        clear hy212
        have H' := Aside0.mk H
        clear H
        have p203 : 0 ≤ (x10_1 : Int) := of_decide_eq_true (by first | (with_reducible assumption) | assumption)
        have q203 : x10_1 < (l1.length : Int) := of_decide_eq_true (by first | (with_reducible assumption) | assumption)
        obtain ⟨ad203, A203_2, c203_2, e203, hx203_0, hx203_1, hx203_2, hl203_2, hi203_2⟩ := at_T76 HR1.out x10_1 p203 q203
        cases e203
        replace hx203_0 := (HB.out.cell (World.block_lt_of_cell? w _ hx203_0)).trans hx203_0
        replace hx203_1 := (HB.out.cell (World.block_lt_of_cell? w _ hx203_1)).trans hx203_1
        replace hx203_2 := (HB.out.cell (World.block_lt_of_cell? w _ hx203_2)).trans hx203_2
        have HR203_2 := Aside0.mk hi203_2
        have HC203_2 := Aside0.mk hl203_2
        clear hi203_2 hl203_2
        replace p203 := eq_true p203
        replace q203 := eq_true q203
        try go_wp2_with (first | ((with_reducible refine gate_dst (N := 7) rfl ?_); refine box_event ?hg (N := 7) ?hd (cs := #[.int .u8 0, .string (⟨#[]⟩ : ByteArray), .slice none 0 0]) (t := 76) ?hr ?_; (case hd => rfl); (case hg => rfl); (case hr => first | (go_simp; done) | (go_simp; rfl)); intro gb204 hg w11 hbox hb; have n0_ := Aside0.mk (Kd.N_below (Kd.N_elderB (by (with_reducible repeat (first | apply Kd.N_alloc | apply Kd.N_drewN | apply Kd.N_drew)); exact HO_5.out) gb204 (Nat.le_of_eq hg.symm)) hb); have n1_ := Aside0.mk (below_step (by repeat (first | (with_reducible first | exact HB.out | apply below_alloc | apply pw_below_drewN | apply below_drew1) | exact HB.out)) hb); have n2_ := Aside0.mk (hbox); have n3_ := Aside0.mk ((by rw [hg]; exact (below_size (by repeat (first | (with_reducible first | exact HB.out | apply below_alloc | apply pw_below_drewN | apply below_drew1) | exact HB.out))) : w.heap.size ≤ gb204)); have n4_ := Aside0.mk ((by rw [hg]; exact (below_size (by repeat (first | (with_reducible first | exact HB.out | apply below_alloc | apply pw_below_drewN | apply below_drew1) | exact HB.out))) : w.heap.size ≤ gb204)); clear HO_5; clear HB; have HO_5 := n0_; have HB := n1_; have BK204 := n2_; have GW204 := n3_; have GE204 := n4_; clear n0_ n1_ n2_ n3_ n4_; clear hb hbox hg; have hcz12_0 : w11.cell? ⟨gb204, 0, none⟩ = some (.int .u8 0) := (blk_cell BK204.out 0).trans rfl; have hcz12_1 : w11.cell? ⟨gb204, 1, none⟩ = some (.string (⟨#[]⟩ : ByteArray)) := (blk_cell BK204.out 1).trans rfl; have hcz12_2 : w11.cell? ⟨gb204, 2, none⟩ = some (.slice none 0 0) := (blk_cell BK204.out 2).trans rfl; have hfz12_0 := blk_frozen BK204.out 0; have hfz12_1 := blk_frozen BK204.out 1; have hfz12_2 := blk_frozen BK204.out 2))
        have n0_ : Aside0 (Kd.N (Kd.slice 73 k73) 45 (((w11.setCell ⟨gb204, 0, none⟩ (.int .u8 ((rd_T76 l1 x10_1).f0))).setCell ⟨gb204, 1, none⟩ (.string ((rd_T76 l1 x10_1).f1))).setCell ⟨gb204, 2, none⟩ (.slice A203_2 ((rd_T76 l1 x10_1).f2).length c203_2)) w.heap.size (fun k_ => (w.heap.size ≤ k_) ∧ k_ ≠ gb204) u5 x5_1) := ⟨by (with_reducible repeat (first | apply Kd.N_alloc | apply Kd.N_drewN | apply Kd.N_drew)); exact Kd.N_mono (Kd.N_far (p := ⟨gb204, 2, none⟩) (Kd.N_far (p := ⟨gb204, 1, none⟩) (Kd.N_far (p := ⟨gb204, 0, none⟩) (Kd.N_mono HO_5.out (fun k_ hk => (⟨hk, hk.2⟩ : _ ∧ k_ ≠ gb204))) (fun _ hk => hk.2) (.int .u8 ((rd_T76 l1 x10_1).f0))) (fun _ hk => hk.2) (.string ((rd_T76 l1 x10_1).f1))) (fun _ hk => hk.2) (.slice A203_2 ((rd_T76 l1 x10_1).f2).length c203_2)) (fun _ hk => ⟨hk.1.1, hk.1.2⟩)⟩
        have n1_ : Aside0 ((((w11.setCell ⟨gb204, 0, none⟩ (.int .u8 ((rd_T76 l1 x10_1).f0))).setCell ⟨gb204, 1, none⟩ (.string ((rd_T76 l1 x10_1).f1))).setCell ⟨gb204, 2, none⟩ (.slice A203_2 ((rd_T76 l1 x10_1).f2).length c203_2)).heap[gb204]? = some (.cells #[.int .u8 ((rd_T76 l1 x10_1).f0), .string ((rd_T76 l1 x10_1).f1), .slice A203_2 ((rd_T76 l1 x10_1).f2).length c203_2] 76 (0, 0))) := ⟨by (with_reducible repeat (first | refine blk_drewN ?_ _ | refine blk_drew ?_ | refine blk_alloc ?_ _)); refine blk_put (cs := #[.int .u8 ((rd_T76 l1 x10_1).f0), .string ((rd_T76 l1 x10_1).f1), .slice none 0 0]) ?_ 2 _ rfl; (with_reducible repeat (first | refine blk_drewN ?_ _ | refine blk_drew ?_ | refine blk_alloc ?_ _)); refine blk_put (cs := #[.int .u8 ((rd_T76 l1 x10_1).f0), .string (⟨#[]⟩ : ByteArray), .slice none 0 0]) ?_ 1 _ rfl; (with_reducible repeat (first | refine blk_drewN ?_ _ | refine blk_drew ?_ | refine blk_alloc ?_ _)); refine blk_put (cs := #[.int .u8 0, .string (⟨#[]⟩ : ByteArray), .slice none 0 0]) ?_ 0 _ rfl; (with_reducible repeat (first | refine blk_drewN ?_ _ | refine blk_drew ?_ | refine blk_alloc ?_ _)); exact BK204.out⟩
        have n2_ : Aside0 (Below w.heap.size w (((w11.setCell ⟨gb204, 0, none⟩ (.int .u8 ((rd_T76 l1 x10_1).f0))).setCell ⟨gb204, 1, none⟩ (.string ((rd_T76 l1 x10_1).f1))).setCell ⟨gb204, 2, none⟩ (.slice A203_2 ((rd_T76 l1 x10_1).f2).length c203_2))) := ⟨by repeat (first | (with_reducible first | exact HB.out | apply below_alloc | apply pw_below_drewN | apply below_drew1 | refine below_set ?_ GE204.out) | exact HB.out)⟩
        (try clear HO_5)
        (try clear BK204)
        (try clear HB)
        generalize (((w11.setCell ⟨gb204, 0, none⟩ (.int .u8 ((rd_T76 l1 x10_1).f0))).setCell ⟨gb204, 1, none⟩ (.string ((rd_T76 l1 x10_1).f1))).setCell ⟨gb204, 2, none⟩ (.slice A203_2 ((rd_T76 l1 x10_1).f2).length c203_2)) = w13 at n0_ n1_ n2_ ⊢
        have HO_5 := n0_
        have BK204 := n1_
        have HB := n2_
        clear n0_ n1_ n2_
        have n0_ := Aside0.mk (Kd.N_drew HO_5.out)
        have n1_ := Aside0.mk (blk_drew BK204.out)
        have n2_ := Aside0.mk (below_drew1 HB.out)
        clear HO_5
        clear BK204
        clear HB
        have HO_5 := n0_
        have BK204 := n1_
        have HB := n2_
        clear n0_ n1_ n2_
        refine start_ (n := 13) (S := fun w' => w'.cell? ⟨gb204, 0, none⟩ = some (.int .u8 ((rd_T76 l1 x10_1).f0)) ∧ w'.cell? ⟨gb204, 1, none⟩ = some (.string ((rd_T76 l1 x10_1).f1)) ∧ w'.cell? ⟨gb204, 2, none⟩ = some (.slice A203_2 ((rd_T76 l1 x10_1).f2).length c203_2)) (ds := []) #[false, false, false, false, false, false, false, false, false, false, false, false, false] (by kernel_rfl) rfl rfl ⟨(blk_cell BK204.out 0).trans rfl, (blk_cell BK204.out 1).trans rfl, (blk_cell BK204.out 2).trans rfl⟩ (fun hHeld => ?_); refine with_tabW kotatsulaw06_made.tab6 kotatsulaw06_made.bits6 (fun HT_ HW_ => ?_)
        generalize w13.drew = w14 at HO_5 BK204 HB hHeld ⊢
        refine pure_ (i := 0) (N := some 17) (v := ?_) (a' := ?_) #[true, false, false, false, false, false, false, false, false, false, false, false, false] rfl rfl (any_of HT_.out (by kernel_rfl)) (fun _ _ _ h => h) (Or.inl ⟨by rfl, ?_⟩) ?_ ?_
        rotate_left
        ·intro w'
         go_simp
         with_reducible rfl
        rotate_left
        ·simp only [Act.put, List.setIfInBounds_toArray, List.set_cons_zero, List.set_cons_succ, i64_w, i32_w]
         rfl
        refine pure_ (i := 1) (N := some 18) (v := ?_) (a' := ?_) #[true, true, false, false, false, false, false, false, false, false, false, false, false] rfl rfl (any_of HT_.out (by kernel_rfl)) (fun _ _ _ h => h) (Or.inl ⟨by rfl, ?_⟩) ?_ ?_
        rotate_left
        ·intro w'
         go_simp
         with_reducible rfl
        rotate_left
        ·simp only [Act.put, List.setIfInBounds_toArray, List.set_cons_zero, List.set_cons_succ, i64_w, i32_w]
         rfl
        refine pure_ (i := 3) (N := some 20) (v := ?_) (a' := ?_) #[true, true, false, true, false, false, false, false, false, false, false, false, false] rfl rfl (any_of HT_.out (by kernel_rfl)) (fun _ _ _ h => h) (Or.inl ⟨by rfl, ?_⟩) ?_ ?_
        rotate_left
        ·intro w'
         go_simp
         with_reducible rfl
        rotate_left
        ·simp only [Act.put, List.setIfInBounds_toArray, List.set_cons_zero, List.set_cons_succ, i64_w, i32_w]
         rfl
        refine pure_ (i := 6) (N := some 23) (v := ?_) (a' := ?_) #[true, true, false, true, false, false, true, false, false, false, false, false, false] rfl rfl (any_of HT_.out (by kernel_rfl)) (fun _ _ _ h => h) (Or.inl ⟨by rfl, ?_⟩) ?_ ?_
        rotate_left
        ·intro w'
         go_simp
         with_reducible rfl
        rotate_left
        ·simp only [Act.put, List.setIfInBounds_toArray, List.set_cons_zero, List.set_cons_succ, i64_w, i32_w]
         rfl
        refine take_ (i := 2) (N := some 19) (v := ?_) (a' := ?_) #[true, true, true, true, false, false, true, false, false, false, false, false, false] rfl rfl (take_ofW HT_.out HW_.out (by kernel_rfl)) (fun _ _ _ h => h) (Or.inl ⟨by rfl, ?_⟩) hHeld ?_ ?_
        rotate_left
        ·rintro w' ⟨s0, s1, s2⟩
         go_simp
         with_reducible rfl
        rotate_left
        ·simp only [Act.put, List.setIfInBounds_toArray, List.set_cons_zero, List.set_cons_succ, i64_w, i32_w]
         rfl
        refine take_ (i := 4) (N := some 21) (v := ?_) (a' := ?_) #[true, true, true, true, true, false, true, false, false, false, false, false, false] rfl rfl (take_ofW HT_.out HW_.out (by kernel_rfl)) (fun _ _ _ h => h) (Or.inl ⟨by rfl, ?_⟩) hHeld ?_ ?_
        rotate_left
        ·rintro w' ⟨s0, s1, s2⟩
         go_simp
         with_reducible rfl
        rotate_left
        ·simp only [Act.put, List.setIfInBounds_toArray, List.set_cons_zero, List.set_cons_succ, i64_w, i32_w]
         rfl
        refine take_ (i := 7) (N := some 24) (v := ?_) (a' := ?_) #[true, true, true, true, true, false, true, true, false, false, false, false, false] rfl rfl (take_ofW HT_.out HW_.out (by kernel_rfl)) (fun _ _ _ h => h) (Or.inl ⟨by rfl, ?_⟩) hHeld ?_ ?_
        rotate_left
        ·rintro w' ⟨s0, s1, s2⟩
         go_simp
         with_reducible rfl
        rotate_left
        ·simp only [Act.put, List.setIfInBounds_toArray, List.set_cons_zero, List.set_cons_succ, i64_w, i32_w]
         rfl
        refine one_ (i := 5) (N := some 22) #[true, true, true, true, true, true, true, true, false, false, false, false, false] rfl rfl (one_of HT_.out (by kernel_rfl)) (by decide) (fun K hK => ?_)
        refine goes_ Try.func38 (by kernel_rfl) rfl #[.string ((rd_T76 l1 x10_1).f1), .int .i64 8] (by rfl) rfl rfl (by (try simp only [List.map_toArray, List.map_cons, List.map_nil]); first | done | rfl | (simp only [List.length_drop, List.length_take]; rfl)) ?_
        with_reducible refine (kotatsuref01_Text.calls ((rd_T76 l1 x10_1).f1) 8 t205 _ A7.out).mono ?_
        rintro e w15 ⟨rfl, hb⟩
        refine ⟨_, rfl, ?_⟩
        have n0_ := Aside0.mk (Kd.N_below (by (with_reducible repeat (first | apply Kd.N_alloc | apply Kd.N_drewN | apply Kd.N_drew)); exact HO_5.out) hb)
        have n1_ := Aside0.mk (blk_below (g := gb204) (o := .cells #[.int .u8 ((rd_T76 l1 x10_1).f0), .string ((rd_T76 l1 x10_1).f1), .slice A203_2 ((rd_T76 l1 x10_1).f2).length c203_2] 76 (0, 0)) (by (with_reducible repeat (first | refine blk_drewN ?_ _ | refine blk_drew ?_ | refine blk_alloc ?_ _)); exact BK204.out) hb)
        have n2_ := Aside0.mk (below_step (by repeat (first | (with_reducible first | exact HB.out | apply below_alloc | apply pw_below_drewN | apply below_drew1 | refine below_set ?_ GE204.out) | exact HB.out)) hb)
        clear HO_5
        clear BK204
        clear HB
        have HO_5 := n0_
        have BK204 := n1_
        have HB := n2_
        clear n0_ n1_ n2_
        (try clear hb)
        (try clear hb2)
        (try clear hk)
        (try clear hi)
        refine hK.out _ _ ⟨(blk_cell BK204.out 0).trans rfl, (blk_cell BK204.out 1).trans rfl, (blk_cell BK204.out 2).trans rfl⟩ (fun hHeld => ?_)
        clear hK K
        refine norm_ (a' := ?_) ?_ ?_
        rotate_left
        ·show Act.put _ (some 22) _ = _
         simp only [Act.put, List.setIfInBounds_toArray, List.set_cons_zero, List.set_cons_succ, i64_w, i32_w]
         rfl
        refine one_ (i := 8) (N := some 25) #[true, true, true, true, true, true, true, true, true, false, false, false, false] rfl rfl (one_of HT_.out (by kernel_rfl)) (by decide) (fun K hK => ?_)
        refine goes_ Try.func10 (by kernel_rfl) rfl #[.slice A203_2 ((rd_T76 l1 x10_1).f2).length c203_2, .int .i64 200] (by rfl) rfl rfl (by (try simp only [List.map_toArray, List.map_cons, List.map_nil]); first | done | rfl | (simp only [List.length_drop, List.length_take]; rfl)) ?_
        with_reducible refine (kotatsuref01_Cut.calls k1 _ _ ((rd_T76 l1 x10_1).f2) 200 t206 _ ?side1 ?side2 A8.out).mono ?_
        (case side1 => repeat (first | exact (Kd.C_below HR203_2.out HB.out) | (with_reducible refine Kd.C_alloc ?_ _) | (with_reducible refine Kd.C_drewN ?_ _) | (with_reducible refine Kd.C_drew ?_)))
        (case side2 => exact HC203_2.out)
        rintro e w16 ⟨v207, rfl, ho0, hb⟩
        refine ⟨_, rfl, ?_⟩
        have n0_ := Aside0.mk (Kd.N_below (by (with_reducible repeat (first | apply Kd.N_alloc | apply Kd.N_drewN | apply Kd.N_drew)); exact HO_5.out) hb)
        have n1_ := Aside0.mk (Kd.V_lower (Kd.V_mono (ok' := fun k_ => (w.heap.size ≤ k_) ∧ some k_ ≠ (u5 : Value).ownBlock ∧ k_ ≠ gb204) ho0 (fun k_ hk_ => ⟨(Nat.le_trans (below_size (by repeat (first | (with_reducible first | exact HB.out | apply below_alloc | apply pw_below_drewN | apply below_drew1 | refine below_set ?_ GE204.out) | exact HB.out))) hk_), (Kd.fresh' (Kd.N_lt (by (with_reducible repeat (first | apply Kd.N_alloc | apply Kd.N_drewN | apply Kd.N_drew)); exact HO_5.out)) k_ hk_), (Kd.freshB (g := gb204) (o := .cells #[.int .u8 ((rd_T76 l1 x10_1).f0), .string ((rd_T76 l1 x10_1).f1), .slice A203_2 ((rd_T76 l1 x10_1).f2).length c203_2] 76 (0, 0)) (by (with_reducible repeat (first | refine blk_drewN ?_ _ | refine blk_drew ?_ | refine blk_alloc ?_ _)); exact BK204.out) k_ hk_)⟩)) (below_size (by repeat (first | (with_reducible first | exact HB.out | apply below_alloc | apply pw_below_drewN | apply below_drew1 | refine below_set ?_ GE204.out) | exact HB.out))))
        have n2_ := Aside0.mk (blk_below (g := gb204) (o := .cells #[.int .u8 ((rd_T76 l1 x10_1).f0), .string ((rd_T76 l1 x10_1).f1), .slice A203_2 ((rd_T76 l1 x10_1).f2).length c203_2] 76 (0, 0)) (by (with_reducible repeat (first | refine blk_drewN ?_ _ | refine blk_drew ?_ | refine blk_alloc ?_ _)); exact BK204.out) hb)
        have n3_ := Aside0.mk (below_step (by repeat (first | (with_reducible first | exact HB.out | apply below_alloc | apply pw_below_drewN | apply below_drew1 | refine below_set ?_ GE204.out) | exact HB.out)) hb)
        clear HO_5
        clear BK204
        clear HB
        have HO_5 := n0_
        have HO208 := n1_
        have BK204 := n2_
        have HB := n3_
        clear n0_ n1_ n2_ n3_
        (try clear hb)
        (try clear hb2)
        (try clear hk)
        (try clear hi)
        (try clear ho0)
        obtain ⟨Ao17, co17, eo17⟩ := Kd.V_slice HO208.out
        (first | subst eo17 | (injection eo17 with f1_ f2_ f3_; have f4_ := f1_.symm; have f5_ := f3_.symm; clear f1_ f2_ f3_; subst f4_; subst f5_))
        refine hK.out _ _ ⟨(blk_cell BK204.out 0).trans rfl, (blk_cell BK204.out 1).trans rfl, (blk_cell BK204.out 2).trans rfl⟩ (fun hHeld => ?_)
        clear hK K
        refine norm_ (a' := ?_) ?_ ?_
        rotate_left
        ·show Act.put _ (some 25) _ = _
         simp only [Act.put, List.setIfInBounds_toArray, List.set_cons_zero, List.set_cons_succ, i64_w, i32_w]
         rfl
        refine one_ (i := 9) (N := some 26) #[true, true, true, true, true, true, true, true, true, true, false, false, false] rfl rfl (one_of HT_.out (by kernel_rfl)) (by decide) (fun K hK => ?_)
        refine goes_ Try.func28 (by kernel_rfl) rfl #[.int .u8 ((rd_T76 l1 x10_1).f0), .int .u8 0, .string t205, .int .u16 24576, .int .u8 0, .slice Ao17 t206.length co17] (by rfl) rfl rfl (by (try simp only [List.map_toArray, List.map_cons, List.map_nil]); first | done | rfl | (simp only [List.length_drop, List.length_take]; rfl)) ?_
        with_reducible refine (block_File.calls ((rd_T76 l1 x10_1).f0) 0 t205 24576 0 _ _ t206 t209 _ ?side1 ?side2 A9.out).mono ?_
        (case side1 => repeat (first | exact (Kd.V_reads' HO208.out).2.2 | (with_reducible refine Kd.C_alloc ?_ _) | (with_reducible refine Kd.C_drewN ?_ _) | (with_reducible refine Kd.C_drew ?_)))
        (case side2 => exact (Kd.V_reads' HO208.out).2.1)
        rintro e w18 ⟨v210, rfl, ho0, hb⟩
        refine ⟨_, rfl, ?_⟩
        have n0_ := Aside0.mk (Kd.N_elder' (by (with_reducible repeat (first | apply Kd.N_alloc | apply Kd.N_drewN | apply Kd.N_drew)); exact HO_5.out) (Kd.N_base ho0) hb)
        have n1_ := Aside0.mk (Kd.V_elder' (by (with_reducible repeat (first | apply Kd.V_alloc | apply Kd.V_drewN | apply Kd.V_drew)); exact HO208.out) (Kd.N_base ho0) hb)
        have n2_ := Aside0.mk (Kd.N_lower (Kd.N_mono (ok' := fun k_ => (w.heap.size ≤ k_) ∧ some k_ ≠ (u5 : Value).ownBlock ∧ k_ ≠ gb204) ho0 (fun k_ hk_ => ⟨(Nat.le_trans (below_size (by repeat (first | (with_reducible first | exact HB.out | apply below_alloc | apply pw_below_drewN | apply below_drew1 | refine below_set ?_ GE204.out) | exact HB.out))) hk_), (Kd.fresh' (Kd.N_lt (by (with_reducible repeat (first | apply Kd.N_alloc | apply Kd.N_drewN | apply Kd.N_drew)); exact HO_5.out)) k_ hk_), (Kd.freshB (g := gb204) (o := .cells #[.int .u8 ((rd_T76 l1 x10_1).f0), .string ((rd_T76 l1 x10_1).f1), .slice A203_2 ((rd_T76 l1 x10_1).f2).length c203_2] 76 (0, 0)) (by (with_reducible repeat (first | refine blk_drewN ?_ _ | refine blk_drew ?_ | refine blk_alloc ?_ _)); exact BK204.out) k_ hk_)⟩)) (below_size (by repeat (first | (with_reducible first | exact HB.out | apply below_alloc | apply pw_below_drewN | apply below_drew1 | refine below_set ?_ GE204.out) | exact HB.out))))
        have n3_ := Aside0.mk (blk_below (g := gb204) (o := .cells #[.int .u8 ((rd_T76 l1 x10_1).f0), .string ((rd_T76 l1 x10_1).f1), .slice A203_2 ((rd_T76 l1 x10_1).f2).length c203_2] 76 (0, 0)) (by (with_reducible repeat (first | refine blk_drewN ?_ _ | refine blk_drew ?_ | refine blk_alloc ?_ _)); exact BK204.out) hb)
        have n4_ := Aside0.mk (below_step (by repeat (first | (with_reducible first | exact HB.out | apply below_alloc | apply pw_below_drewN | apply below_drew1 | refine below_set ?_ GE204.out) | exact HB.out)) hb)
        clear HO_5
        clear HO208
        clear BK204
        clear HB
        have HO_5 := n0_
        have HO208 := n1_
        have HO211 := n2_
        have BK204 := n3_
        have HB := n4_
        clear n0_ n1_ n2_ n3_ n4_
        (try clear hb)
        (try clear hb2)
        (try clear hk)
        (try clear hi)
        (try clear ho0)
        obtain ⟨Ao20, co20, eo20⟩ := Kd.N_slice HO211.out
        (first | subst eo20 | (injection eo20 with f1_ f2_ f3_; have f4_ := f1_.symm; have f5_ := f3_.symm; clear f1_ f2_ f3_; subst f4_; subst f5_))
        refine hK.out _ _ ⟨(blk_cell BK204.out 0).trans rfl, (blk_cell BK204.out 1).trans rfl, (blk_cell BK204.out 2).trans rfl⟩ (fun hHeld => ?_)
        clear hK K
        refine norm_ (a' := ?_) ?_ ?_
        rotate_left
        ·show Act.put _ (some 26) _ = _
         simp only [Act.put, List.setIfInBounds_toArray, List.set_cons_zero, List.set_cons_succ, i64_w, i32_w]
         rfl
        refine one_ (i := 10) (N := some 27) #[true, true, true, true, true, true, true, true, true, true, true, false, false] rfl rfl (one_of HT_.out (by kernel_rfl)) (by decide) (fun K hK => ?_)
        refine value_ (w1 := ?_) (v := ?_) (by rfl) rfl ?_ ?_
        rotate_left 2
        ·go_simp
         constructor
         ·rfl
         ·rfl
        refine hK.out _ _ ⟨(blk_cell (blk_alloc BK204.out _) 0).trans rfl, (blk_cell (blk_alloc BK204.out _) 1).trans rfl, (blk_cell (blk_alloc BK204.out _) 2).trans rfl⟩ (fun hHeld => ?_)
        clear hK K
        refine norm_ (a' := ?_) ?_ ?_
        rotate_left
        ·show Act.put _ (some 27) _ = _
         simp only [Act.put, List.setIfInBounds_toArray, List.set_cons_zero, List.set_cons_succ, i64_w, i32_w]
         rfl
        refine one_ (i := 11) (N := some 28) #[true, true, true, true, true, true, true, true, true, true, true, true, false] rfl rfl (one_of HT_.out (by kernel_rfl)) (by decide) (fun K hK => ?_)
        refine Kd.N_append_step (Kd.slice 73 k73) (w0 := w) w.heap.size (by rfl) (.tmp 17) (.tmp 27) 74 45 (.slice none 0 0) 24 rfl Try.underlying74 info45 rfl (by decide) (by omega) u5 x5_1 t209 [.slice Ao20 t209.length co20] (fun k_ => (w.heap.size ≤ k_) ∧ k_ ≠ gb204) (fun k_ => ((fun k_ => (w.heap.size ≤ k_) ∧ k_ ≠ gb204)) k_ ∧ some k_ ≠ (u5 : Value).ownBlock) rfl rfl ?aP (fun _ hk => hk) ?aF ?aO ?aB ?aS ?aL ?_
        (case aP => exact (Kd.FK_slice_mk (Kd.N_reads' (Kd.N_mono (ok' := (fun k_ => ((fun k_ => (w.heap.size ≤ k_) ∧ k_ ≠ gb204)) k_ ∧ some k_ ≠ (u5 : Value).ownBlock)) (HO211.out) (fun k_ hk => ⟨⟨hk.1, hk.2.2⟩, hk.2.1⟩))).2.1 (Kd.N_F (Kd.N_mono (ok' := (fun k_ => ((fun k_ => (w.heap.size ≤ k_) ∧ k_ ≠ gb204)) k_ ∧ some k_ ≠ (u5 : Value).ownBlock)) (HO211.out) (fun k_ hk => ⟨⟨hk.1, hk.2.2⟩, hk.2.1⟩)))))
        (case aB => exact (by repeat (first | (with_reducible first | exact HB.out | apply below_alloc | apply pw_below_drewN | apply below_drew1 | refine below_set ?_ GE204.out) | exact HB.out)))
        (case aF => exact (fun k_ hk => ⟨(Nat.le_trans (below_size (by repeat (first | (with_reducible first | exact HB.out | apply below_alloc | apply pw_below_drewN | apply below_drew1 | refine below_set ?_ GE204.out) | exact HB.out))) hk), Kd.freshB (g := gb204) (o := .cells #[.int .u8 ((rd_T76 l1 x10_1).f0), .string ((rd_T76 l1 x10_1).f1), .slice A203_2 ((rd_T76 l1 x10_1).f2).length c203_2] 76 (0, 0)) (by (with_reducible repeat (first | refine blk_drewN ?_ _ | refine blk_drew ?_ | refine blk_alloc ?_ _)); exact BK204.out) k_ hk⟩))
        (case aO => exact (by (with_reducible repeat (first | apply Kd.N_alloc | apply Kd.N_drewN | apply Kd.N_drew)); exact Kd.N_mono HO_5.out (fun _ hk => ⟨hk.1.1, hk.1.2⟩)))
        (case aS => exact (below_size (by repeat (first | (with_reducible first | exact HB.out | apply below_alloc | apply pw_below_drewN | apply below_drew1 | refine below_set ?_ GE204.out) | exact HB.out))))
        (case aL => have := LMc10.out; omega)
        intro v213 w19 ho hb hg hat
        rw [← Ny212.out] at ho
        have n0_ := Aside0.mk (blk_grown (g := gb204) (o := .cells #[.int .u8 ((rd_T76 l1 x10_1).f0), .string ((rd_T76 l1 x10_1).f1), .slice A203_2 ((rd_T76 l1 x10_1).f2).length c203_2] 76 (0, 0)) (by (with_reducible repeat (first | refine blk_drewN ?_ _ | refine blk_drew ?_ | refine blk_alloc ?_ _)); exact BK204.out) hg (Kd.N_ne HO_5.out BK204.out (by decide)))
        have n1_ := Aside0.mk (Kd.V_afterv (ok := (fun k_ => (w.heap.size ≤ k_) ∧ some k_ ≠ (.slice Ao20 t209.length co20 : Value).ownBlock ∧ k_ ≠ gb204)) (by (with_reducible repeat (first | apply Kd.V_alloc | apply Kd.V_drewN | apply Kd.V_drew)); exact Kd.V_mono HO208.out (fun _ hk => ⟨⟨hk.1.1, ⟨hk.2, hk.1.2.2⟩⟩, hk.1.2.1⟩)) hg hat)
        have n2_ := Aside0.mk (hb)
        have n3_ := Aside0.mk (ho)
        clear BK204
        clear HO208
        clear HB
        clear HO_5
        clear HO211
        have BK204 := n0_
        have HO208 := n1_
        have HB := n2_
        have HO214 := n3_
        clear n0_ n1_ n2_ n3_
        clear ho hb hg hat
        refine hK.out _ _ ⟨(blk_cell BK204.out 0).trans rfl, (blk_cell BK204.out 1).trans rfl, (blk_cell BK204.out 2).trans rfl⟩ (fun hHeld => ?_)
        clear hK K
        refine norm_ (a' := ?_) ?_ ?_
        rotate_left
        ·show Act.put _ (some 28) _ = _
         simp only [Act.put, List.setIfInBounds_toArray, List.set_cons_zero, List.set_cons_succ, i64_w, i32_w]
         rfl
        refine pure_ (i := 12) (N := some 5) (v := ?_) (a' := ?_) #[true, true, true, true, true, true, true, true, true, true, true, true, true] rfl rfl (any_of HT_.out (by kernel_rfl)) (fun _ _ _ h => h) (Or.inl ⟨by rfl, ?_⟩) ?_ ?_
        rotate_left
        ·intro w'
         go_simp
         with_reducible rfl
        rotate_left
        ·simp only [Act.put, List.setIfInBounds_toArray, List.set_cons_zero, List.set_cons_succ, i64_w, i32_w]
         rfl
        refine done_ (done_of HT_.out (by kernel_rfl)) ?_
        try go_wp2
        go_roundg k1
        case measure => have := HK1.out; omega
        case rel => exact ⟨(y212), (wrap64 (x10_1 + 1)), (by first | rfl | (simp; done) | (simp [*]; done)), H', ⟨by have := HK1.out; omega⟩, ⟨by (with_reducible repeat (first | apply Kd.N_alloc | apply Kd.N_drewN | apply Kd.N_drew)); exact Kd.N_mono HO214.out (fun _ hk => hk.1)⟩, ⟨by repeat (first | (with_reducible first | exact HB.out | apply below_alloc | apply pw_below_drewN | apply below_drew1 | refine below_set ?_ GE204.out) | exact HB.out)⟩⟩
       ·rw [if_neg c10] at H
        exact absurd H (by simp)
      ·rw [if_neg c6] at H
       have c6b0 : decide (x10_1 < 6) = false := decide_eq_false c6
       clear c6
       have H' := Aside0.mk H
       clear H
       have p203 : 0 ≤ (x10_1 : Int) := of_decide_eq_true (by first | (with_reducible assumption) | assumption)
       have q203 : x10_1 < (l1.length : Int) := of_decide_eq_true (by first | (with_reducible assumption) | assumption)
       obtain ⟨ad203, A203_2, c203_2, e203, hx203_0, hx203_1, hx203_2, hl203_2, hi203_2⟩ := at_T76 HR1.out x10_1 p203 q203
       cases e203
       replace hx203_0 := (HB.out.cell (World.block_lt_of_cell? w _ hx203_0)).trans hx203_0
       replace hx203_1 := (HB.out.cell (World.block_lt_of_cell? w _ hx203_1)).trans hx203_1
       replace hx203_2 := (HB.out.cell (World.block_lt_of_cell? w _ hx203_2)).trans hx203_2
       have HR203_2 := Aside0.mk hi203_2
       have HC203_2 := Aside0.mk hl203_2
       clear hi203_2 hl203_2
       replace p203 := eq_true p203
       replace q203 := eq_true q203
       go_wp2_with (first | ((with_reducible refine gate_dst (N := 7) rfl ?_); refine box_event ?hg (N := 7) ?hd (cs := #[.int .u8 0, .string (⟨#[]⟩ : ByteArray), .slice none 0 0]) (t := 76) ?hr ?_; (case hd => rfl); (case hg => rfl); (case hr => first | (go_simp; done) | (go_simp; rfl)); intro gb204 hg w21 hbox hb; have n0_ := Aside0.mk (Kd.N_below (Kd.N_elderB (by (with_reducible repeat (first | apply Kd.N_alloc | apply Kd.N_drewN | apply Kd.N_drew)); exact HO_5.out) gb204 (Nat.le_of_eq hg.symm)) hb); have n1_ := Aside0.mk (below_step (by repeat (first | (with_reducible first | exact HB.out | apply below_alloc | apply pw_below_drewN | apply below_drew1) | exact HB.out)) hb); have n2_ := Aside0.mk (hbox); have n3_ := Aside0.mk ((by rw [hg]; exact (below_size (by repeat (first | (with_reducible first | exact HB.out | apply below_alloc | apply pw_below_drewN | apply below_drew1) | exact HB.out))) : w.heap.size ≤ gb204)); have n4_ := Aside0.mk ((by rw [hg]; exact (below_size (by repeat (first | (with_reducible first | exact HB.out | apply below_alloc | apply pw_below_drewN | apply below_drew1) | exact HB.out))) : w.heap.size ≤ gb204)); clear HO_5; clear HB; have HO_5 := n0_; have HB := n1_; have BK204 := n2_; have GW204 := n3_; have GE204 := n4_; clear n0_ n1_ n2_ n3_ n4_; clear hb hbox hg; have hcz22_0 : w21.cell? ⟨gb204, 0, none⟩ = some (.int .u8 0) := (blk_cell BK204.out 0).trans rfl; have hcz22_1 : w21.cell? ⟨gb204, 1, none⟩ = some (.string (⟨#[]⟩ : ByteArray)) := (blk_cell BK204.out 1).trans rfl; have hcz22_2 : w21.cell? ⟨gb204, 2, none⟩ = some (.slice none 0 0) := (blk_cell BK204.out 2).trans rfl; have hfz22_0 := blk_frozen BK204.out 0; have hfz22_1 := blk_frozen BK204.out 1; have hfz22_2 := blk_frozen BK204.out 2))
       go_roundg k1
       case measure => have := HK1.out; omega
       case rel => exact ⟨(x5_1), (wrap64 (x10_1 + 1)), (by first | rfl | (simp; done) | (simp [*]; done)), H', ⟨by have := HK1.out; omega⟩, ⟨by (with_reducible repeat (first | apply Kd.N_alloc | apply Kd.N_drewN | apply Kd.N_drew)); exact Kd.N_mono (Kd.N_far (p := ⟨gb204, 2, none⟩) (Kd.N_far (p := ⟨gb204, 1, none⟩) (Kd.N_far (p := ⟨gb204, 0, none⟩) (Kd.N_mono HO_5.out (fun k_ hk => (⟨hk, hk.2⟩ : _ ∧ k_ ≠ gb204))) (fun _ hk => hk.2) (.int .u8 ((rd_T76 l1 x10_1).f0))) (fun _ hk => hk.2) (.string ((rd_T76 l1 x10_1).f1))) (fun _ hk => hk.2) (.slice A203_2 ((rd_T76 l1 x10_1).f2).length c203_2)) (fun _ hk => hk.1.1)⟩, ⟨by repeat (first | (with_reducible first | exact HB.out | apply below_alloc | apply pw_below_drewN | apply below_drew1 | refine below_set ?_ GE204.out) | exact HB.out)⟩⟩
     ·rw [if_neg c5] at H
      exact absurd H (by simp)
    ·rw [if_neg c4] at H
     exact absurd H (by simp)
   ·rw [if_neg c3] at H
    have c3b0 : decide (x10_1 < (l1.length : Int)) = false := decide_eq_false c3
    clear c3
    replace H := Option.bind_eq_some_iff.mp H
    obtain ⟨t200, A230, H⟩ := H
    replace H : (some t200) = some r := H
    have A23 := Aside0.mk A230
    clear A230
    obtain rfl := Option.some.inj H
    obtain ⟨Ao24, co24, eo24⟩ := Kd.N_slice HO_5.out
    subst eo24
    go_wp2_with (first | ((with_reducible refine gate_callee (f := 27) rfl ?_); refine goesL_ (some 32) rfl rfl Try.func27 (by kernel_rfl) rfl #[.string (⟨#[75]⟩ : ByteArray), .int .u8 a0, .slice Ao24 x5_1.length co24] rfl (by (try simp only [List.map_toArray, List.map_cons, List.map_nil]); first | done | rfl | (simp only [List.length_drop, List.length_take]; rfl)) ?_; (with_reducible refine (block_Disk.calls (⟨#[75]⟩ : ByteArray) a0 (fun k_ => (w.heap.size ≤ k_)) _ _ x5_1 t200 _ ?side1 A23.out).mono ?_); (case side1 => exact Kd.N_V (HO_5.out)); rintro e w25 ⟨v201, rfl, ho0, hb⟩; refine ⟨_, rfl, ?_⟩; have n0_ := Aside0.mk (Kd.N_elder' (by (with_reducible repeat (first | apply Kd.N_alloc | apply Kd.N_drewN | apply Kd.N_drew)); exact HO_5.out) (Kd.N_base ho0) hb); have n1_ := Aside0.mk (Kd.N_lower (Kd.N_mono (ok' := fun k_ => (w.heap.size ≤ k_)) ho0 (fun k_ hk_ => Or.elim hk_ (fun hs_ => hs_) (fun hn_ => (Nat.le_trans (below_size (by repeat (first | (with_reducible first | exact HB.out | apply below_alloc | apply pw_below_drewN | apply below_drew1) | exact HB.out))) hn_)))) (below_size (by repeat (first | (with_reducible first | exact HB.out | apply below_alloc | apply pw_below_drewN | apply below_drew1) | exact HB.out)))); have n2_ := Aside0.mk (below_step (by repeat (first | (with_reducible first | exact HB.out | apply below_alloc | apply pw_below_drewN | apply below_drew1) | exact HB.out)) hb); clear HO_5; clear HB; have HO_5 := n0_; have HO202 := n1_; have HB := n2_; clear n0_ n1_ n2_; (try clear hb); (try clear hb2); (try clear hk); (try clear hi); (try clear ho0)))
    go_ret
    exact ⟨_, by first | rfl | (simp [errW_none, errW_some] <;> rfl) | (simp [*, errW_none, errW_some] <;> rfl), by (with_reducible repeat (first | apply Kd.N_alloc | apply Kd.N_drewN | apply Kd.N_drew)); exact HO202.out, by repeat (first | (with_reducible first | exact HB.out | apply below_alloc | apply pw_below_drewN | apply below_drew1) | exact HB.out)⟩

/-! ### block_expects: function 54 -/
def block_expects.f (a0 : Int) (l1 : List Int) : Option (Int × Int) := if a0 ≥ 512 then (some (0, 0)) else (if a0 = 0 then (some (1, 55)) else (if a0 = 1 then (some (2, 1)) else (if (Int.tmod a0 2) = 0 then (some (3, 15)) else (if 12 < (l1.length : Int) then (if 13 < (l1.length : Int) then (some (4, Go.bits .or .i64 (wrap64 (rd l1 12)) (wrap64 ((wrap64 (rd l1 13)) * 256)))) else (none)) else (none)))))
set_option maxHeartbeats 8000000 in
set_option maxRecDepth 100000 in
theorem block_expects.calls (a0 : Int) (A1 : Option Addr) (c1 : Nat) (l1 : List Int) (r1 : Int) (r2 : Int) (w : World) (hr1 : Kd.C (Kd.int .u8) w A1 l1.length l1) (hc1 : l1.length ≤ c1) (h : block_expects.f a0 l1 = some (r1, r2)) :
  Calls Try.prog 54 #[.int .i64 a0, .slice A1 l1.length c1] w fun e w' => e = .returned (.tuple #[.int .u8 r1, .int .i64 r2]) ∧ Drawn0 w w' := by
 have HR1 := Aside0.mk hr1
 have HC1 := Aside0.mk hc1
 clear hr1 hc1
 have H : (if a0 ≥ 512 then (some (0, 0)) else (if a0 = 0 then (some (1, 55)) else (if a0 = 1 then (some (2, 1)) else (if (Int.tmod a0 2) = 0 then (some (3, 15)) else (if 12 < (l1.length : Int) then (if 13 < (l1.length : Int) then (some (4, Go.bits .or .i64 (wrap64 (rd l1 12)) (wrap64 ((wrap64 (rd l1 13)) * 256)))) else (none)) else (none)))))) = some (r1, r2) := h
 clear h
 by_cases c3 : a0 ≥ 512
 ·rw [if_pos c3] at H
  have c3b0 : decide (512 ≤ a0) = true := decide_eq_true c3
  clear c3
  simp only [Option.some.injEq, Prod.mk.injEq] at H
  obtain ⟨rfl, rfl⟩ := H
  go_enter Try.func54, Try.ntmps54
  go_wp2
  repeat (go_quiet (fail); try go_wp2)
  go_ret2
  exact ⟨by first | rfl | (simp; done) | (simp [*]; done), by repeat (first | exact Drawn0.refl _ | apply Drawn0.step)⟩
 ·rw [if_neg c3] at H
  have c3b0 : decide (512 ≤ a0) = false := decide_eq_false c3
  clear c3
  by_cases c4 : a0 = 0
  ·rw [if_pos c4] at H
   have c4b0 : (a0 == 0) = true := beq_iff_eq.mpr c4
   have c4b1 : (a0 != 0) = false := bne_eq_false_iff_eq.mpr c4
   clear c4
   simp only [Option.some.injEq, Prod.mk.injEq] at H
   obtain ⟨rfl, rfl⟩ := H
   go_enter Try.func54, Try.ntmps54
   go_wp2
   repeat (go_quiet (fail); try go_wp2)
   go_ret2
   exact ⟨by first | rfl | (simp; done) | (simp [*]; done), by repeat (first | exact Drawn0.refl _ | apply Drawn0.step)⟩
  ·rw [if_neg c4] at H
   have c4b0 : (a0 == 0) = false := beq_eq_false_iff_ne.mpr c4
   have c4b1 : (a0 != 0) = true := bne_iff_ne.mpr c4
   by_cases c5 : a0 = 1
   ·rw [if_pos c5] at H
    have c5b0 : (a0 == 1) = true := beq_iff_eq.mpr c5
    have c5b1 : (a0 != 1) = false := bne_eq_false_iff_eq.mpr c5
    clear c5
    simp only [Option.some.injEq, Prod.mk.injEq] at H
    obtain ⟨rfl, rfl⟩ := H
    go_enter Try.func54, Try.ntmps54
    go_wp2
    repeat (go_quiet (fail); try go_wp2)
    go_ret2
    exact ⟨by first | rfl | (simp; done) | (simp [*]; done), by repeat (first | exact Drawn0.refl _ | apply Drawn0.step)⟩
   ·rw [if_neg c5] at H
    have c5b0 : (a0 == 1) = false := beq_eq_false_iff_ne.mpr c5
    have c5b1 : (a0 != 1) = true := bne_iff_ne.mpr c5
    by_cases c6 : (Int.tmod a0 2) = 0
    ·rw [if_pos c6] at H
     have c6b0 : ((Int.tmod a0 2) == 0) = true := beq_iff_eq.mpr c6
     have c6b1 : ((Int.tmod a0 2) != 0) = false := bne_eq_false_iff_eq.mpr c6
     clear c6
     simp only [Option.some.injEq, Prod.mk.injEq] at H
     obtain ⟨rfl, rfl⟩ := H
     go_enter Try.func54, Try.ntmps54
     go_wp2
     repeat (go_quiet (fail); try go_wp2)
     go_ret2
     exact ⟨by first | rfl | (simp; done) | (simp [*]; done), by repeat (first | exact Drawn0.refl _ | apply Drawn0.step)⟩
    ·rw [if_neg c6] at H
     have c6b0 : ((Int.tmod a0 2) == 0) = false := beq_eq_false_iff_ne.mpr c6
     have c6b1 : ((Int.tmod a0 2) != 0) = true := bne_iff_ne.mpr c6
     by_cases c7 : 12 < (l1.length : Int)
     ·rw [if_pos c7] at H
      have c7b0 : decide (12 < (l1.length : Int)) = true := decide_eq_true c7
      have c7b1 : decide (12 < l1.length) = true := decide_eq_true (by omega)
      clear c7
      by_cases c8 : 13 < (l1.length : Int)
      ·rw [if_pos c8] at H
       have c8b0 : decide (13 < (l1.length : Int)) = true := decide_eq_true c8
       have c8b1 : decide (13 < l1.length) = true := decide_eq_true (by omega)
       clear c8
       simp only [Option.some.injEq, Prod.mk.injEq] at H
       obtain ⟨rfl, rfl⟩ := H
       have p215 : 0 ≤ (12 : Int) := (by omega)
       have q215 : 12 < (l1.length : Int) := of_decide_eq_true (by first | (with_reducible assumption) | assumption)
       obtain ⟨ad215, e215, hx215_0⟩ := Kd.at_int HR1.out 12 p215 q215
       cases e215
       (try simp only [show (12 : Int).toNat = 12 from rfl, Nat.reduceMul, Nat.reduceEqDiff, Go.Addr.add, ↓reduceIte] at hx215_0)
       have qi215 : (12 < l1.length) = True := eq_true (by omega)
       (try rw [show ((12 : Int)).toNat = 12 from rfl] at hx215_0)
       replace p215 := eq_true p215
       replace q215 := eq_true q215
       have p216 : 0 ≤ (13 : Int) := (by omega)
       have q216 : 13 < (l1.length : Int) := of_decide_eq_true (by first | (with_reducible assumption) | assumption)
       obtain ⟨ad216, e216, hx216_0⟩ := Kd.at_int HR1.out 13 p216 q216
       obtain rfl : ad215 = ad216 := (by injection e216)
       (try simp only [show (13 : Int).toNat = 13 from rfl, Nat.reduceMul, Nat.reduceEqDiff, Go.Addr.add, ↓reduceIte] at hx216_0)
       have qi216 : (13 < l1.length) = True := eq_true (by omega)
       (try rw [show ((13 : Int)).toNat = 13 from rfl] at hx216_0)
       replace p216 := eq_true p216
       replace q216 := eq_true q216
       go_enter Try.func54, Try.ntmps54
       go_wp2
       repeat (go_quiet (fail); try go_wp2)
       go_ret2
       exact ⟨by first | rfl | (simp; done) | (simp [*]; done), by repeat (first | exact Drawn0.refl _ | apply Drawn0.step)⟩
      ·rw [if_neg c8] at H
       exact absurd H (by simp)
     ·rw [if_neg c7] at H
      exact absurd H (by simp)

/-! ### block_Right: function 45 -/
def block_Right.l0 : Nat → List Int → List (S73) → Int → Int → Option (Bool)
 | 0, _, _, _, _ => none
 | k + 1, x3, x8, x9, x10 => if x10 < x9 then (if 0 ≤ x10 then (if x10 < (x8.length : Int) then ((block_expects.f x10 x3).bind fun bt219 => (if ((rd_T73 x8 x10).f0) = bt219.1 then (if (((rd_T73 x8 x10).f1).length : Int) = bt219.2 then (if bt219.1 = 0 then (some false) else (block_Right.l0 k ((rd_T73 x8 x10).f1) x8 x9 (wrap64 (x10 + 1)))) else (some false)) else (some false))) else (none)) else (none)) else (some true)
def block_Right.f (k : Nat) (l0 : List (S73)) : Option (Bool) := block_Right.l0 k ([] : List Int) l0 (l0.length : Int) 0
set_option maxHeartbeats 8000000 in
set_option maxRecDepth 100000 in
theorem block_Right.calls (k : Nat) (P0_ : Nat → Prop) (A0 : Option Addr) (c0 : Nat) (l0 : List (S73)) (r : Bool) (w : World) (hs0 : Kd.V k73 73 w w.heap.size (fun k_ => P0_ k_) (.slice A0 l0.length c0) l0) (h : block_Right.f k l0 = some r) :
  Calls Try.prog 45 #[.slice A0 l0.length c0] w fun e w' => e = .returned (.bool r) ∧ Below w.heap.size w w' := by
 have hu73 := Try.underlying73
 have HO0 := Aside0.mk (show Kd.V k73 73 w w.heap.size (fun k_ => (P0_ k_ ∨ w.heap.size ≤ k_)) (.slice A0 l0.length c0) l0 from Kd.V_mono hs0 (fun k_ hk => .inl hk))
 have HB := Aside0.mk (Below.refl w.heap.size w)
 have H : (block_Right.l0 k ([] : List Int) l0 (l0.length : Int) 0) = some r := h
 clear h
 have H' := Aside0.mk H
 clear H
 go_enter Try.func45, Try.ntmps45
 go_wp2
 go_loopg [3, 10] k (fun kq v3 v10 w' => ∃ (x3_1 : List Int) (x10_1 : Int), v10 = .int .i64 x10_1 ∧ Aside0 (block_Right.l0 kq x3_1 l0 (l0.length : Int) x10_1 = some r) ∧ Aside0 (kq ≤ k) ∧ Aside0 (Kd.V (Kd.int .u8) 5 w' w.heap.size (fun k_ => (P0_ k_ ∨ w.heap.size ≤ k_)) v3 x3_1) ∧ Aside0 (Kd.V k73 73 w' w.heap.size (fun k_ => (P0_ k_ ∨ w.heap.size ≤ k_)) (.slice A0 l0.length c0) l0) ∧ Aside0 (Below w.heap.size w w'))
 case atStart => exact ⟨(([] : List Int)), (0), (by first | rfl | (simp; done) | (simp [*]; done)), H', ⟨Nat.le_refl _⟩, ⟨Kd.V_nil _ _ _ _ _⟩, ⟨by (with_reducible repeat (first | apply Kd.V_alloc | apply Kd.V_drewN | apply Kd.V_drew)); exact HO0.out⟩, ⟨by repeat (first | (with_reducible first | exact HB.out | apply below_alloc | apply pw_below_drewN | apply below_drew1) | exact HB.out)⟩⟩
 case round =>
  clear H'
  obtain ⟨x3_1, x10_1, rfl, HA, HK1, HO_3, HO_8, HB⟩ := hrel
  cases gk with
  | zero => exact absurd HA.out (by simp [block_Right.l0])
  | succ k1 =>
   have H := HA.out
   clear HA
   simp only [block_Right.l0] at H
   by_cases c2 : x10_1 < (l0.length : Int)
   ·rw [if_pos c2] at H
    have c2b0 : decide (x10_1 < (l0.length : Int)) = true := decide_eq_true c2
    clear c2
    by_cases c3 : 0 ≤ x10_1
    ·rw [if_pos c3] at H
     have c3b0 : decide (0 ≤ x10_1) = true := decide_eq_true c3
     clear c3
     by_cases c4 : x10_1 < (l0.length : Int)
     ·rw [if_pos c4] at H
      have c4b0 : decide (x10_1 < (l0.length : Int)) = true := decide_eq_true c4
      clear c4
      replace H := Option.bind_eq_some_iff.mp H
      obtain ⟨⟨t219, t220⟩, A50, H⟩ := H
      replace H : (if ((rd_T73 l0 x10_1).f0) = t219 then (if (((rd_T73 l0 x10_1).f1).length : Int) = t220 then (if t219 = 0 then (some false) else (block_Right.l0 k1 ((rd_T73 l0 x10_1).f1) l0 (l0.length : Int) (wrap64 (x10_1 + 1)))) else (some false)) else (some false)) = some r := H
      have A5 := Aside0.mk A50
      clear A50
      by_cases c6 : ((rd_T73 l0 x10_1).f0) = t219
      ·rw [if_pos c6] at H
       have c6b0 : (((rd_T73 l0 x10_1).f0) == t219) = true := beq_iff_eq.mpr c6
       have c6b1 : (((rd_T73 l0 x10_1).f0) != t219) = false := bne_eq_false_iff_eq.mpr c6
       clear c6
       by_cases c7 : (((rd_T73 l0 x10_1).f1).length : Int) = t220
       ·rw [if_pos c7] at H
        have c7b0 : ((((rd_T73 l0 x10_1).f1).length : Int) == t220) = true := beq_iff_eq.mpr c7
        have c7b1 : ((((rd_T73 l0 x10_1).f1).length : Int) != t220) = false := bne_eq_false_iff_eq.mpr c7
        clear c7
        by_cases c8 : t219 = 0
        ·rw [if_pos c8] at H
         have c8b0 : (t219 == 0) = true := beq_iff_eq.mpr c8
         have c8b1 : (t219 != 0) = false := bne_eq_false_iff_eq.mpr c8
         clear c8
         obtain rfl := Option.some.inj H
         have p217 : 0 ≤ (x10_1 : Int) := of_decide_eq_true (by first | (with_reducible assumption) | assumption)
         have q217 : x10_1 < (l0.length : Int) := of_decide_eq_true (by first | (with_reducible assumption) | assumption)
         obtain ⟨ad217, A217_1, c217_1, e217, hx217_0, hx217_1, hl217_1, hi217_1⟩ := at_T73 (Kd.V_reads' HO_8.out).2.2 x10_1 p217 q217
         cases e217
         obtain ⟨ce217, hce217, hMe217, hcc217⟩ := Kd.V_get HO_8.out z73 x10_1 p217 (by first | exact q217 | exact of_decide_eq_true (by first | (with_reducible assumption) | assumption) | (have e_ := (Kd.V_reads' HO_8.out).1; omega))
         obtain ⟨ua217_1, uc217_1, rfl, ul217_1, ge217_1⟩ := k73_openF hMe217
         have hv217_1 := hcc217 1 _ rfl
         rw [add_field _ _ 1 (by omega)] at hv217_1
         replace hv217_1 := Option.some.inj (hv217_1.symm.trans hx217_1)
         injection hv217_1 with hva_ hvn_ hvc_
         rw [hva_] at ge217_1
         rw [hvc_] at ul217_1
         have HL217_1 := Aside0.mk (show Kd.V (Kd.int .u8) 5 _ w.heap.size _ _ ((rd_T73 l0 x10_1).f1) from Kd.V_mk ul217_1 ge217_1)
         clear hva_ hvn_ hvc_ ge217_1 ul217_1
         clear hcc217 hce217
         have HR217_1 := Aside0.mk hi217_1
         have HC217_1 := Aside0.mk hl217_1
         clear hi217_1 hl217_1
         replace p217 := eq_true p217
         replace q217 := eq_true q217
         go_wp2_with (first | ((with_reducible refine gate_dst (N := 5) rfl ?_); (try (refine gate_guard (by rfl) ?_; dsimp only)); refine box_event ?hg (N := 5) ?hd (cs := #[.int .u8 0, .slice none 0 0]) (t := 73) ?hr ?_; (case hd => rfl); (case hg => rfl); (case hr => first | (go_simp; done) | (go_simp; rfl)); intro gb218 hg w9 hbox hb; have n0_ := Aside0.mk (Kd.V_below (Kd.V_elderB (by (with_reducible repeat (first | apply Kd.V_alloc | apply Kd.V_drewN | apply Kd.V_drew)); exact HO_3.out) gb218 (Nat.le_of_eq hg.symm)) hb); have n1_ := Aside0.mk (Kd.V_below (Kd.V_elderB (by (with_reducible repeat (first | apply Kd.V_alloc | apply Kd.V_drewN | apply Kd.V_drew)); exact HO_8.out) gb218 (Nat.le_of_eq hg.symm)) hb); have n2_ := Aside0.mk (Kd.V_below (Kd.V_elderB (by (with_reducible repeat (first | apply Kd.V_alloc | apply Kd.V_drewN | apply Kd.V_drew)); exact HL217_1.out) gb218 (Nat.le_of_eq hg.symm)) hb); have n3_ := Aside0.mk (Kd.C_below (by repeat (first | (with_reducible exact HR217_1.out) | (with_reducible refine Kd.C_alloc ?_ _) | (with_reducible refine Kd.C_drewN ?_ _) | (with_reducible refine Kd.C_drew ?_) | exact HR217_1.out)) hb); have n4_ := Aside0.mk (below_step (by repeat (first | (with_reducible first | exact HB.out | apply below_alloc | apply pw_below_drewN | apply below_drew1) | exact HB.out)) hb); have n5_ := Aside0.mk (hbox); have n6_ := Aside0.mk ((by rw [hg]; exact (below_size (by repeat (first | (with_reducible first | exact HB.out | apply below_alloc | apply pw_below_drewN | apply below_drew1) | exact HB.out))) : w.heap.size ≤ gb218)); have n7_ := Aside0.mk ((by rw [hg]; exact (below_size (by repeat (first | (with_reducible first | exact HB.out | apply below_alloc | apply pw_below_drewN | apply below_drew1) | exact HB.out))) : w.heap.size ≤ gb218)); clear HO_3; clear HO_8; clear HL217_1; clear HR217_1; clear HB; have HO_3 := n0_; have HO_8 := n1_; have HL217_1 := n2_; have HR217_1 := n3_; have HB := n4_; have BK218 := n5_; have GW218 := n6_; have GE218 := n7_; clear n0_ n1_ n2_ n3_ n4_ n5_ n6_ n7_; clear hb hbox hg; have hcz10_0 : w9.cell? ⟨gb218, 0, none⟩ = some (.int .u8 0) := (blk_cell BK218.out 0).trans rfl; have hcz10_1 : w9.cell? ⟨gb218, 1, none⟩ = some (.slice none 0 0) := (blk_cell BK218.out 1).trans rfl; have hfz10_0 := blk_frozen BK218.out 0; have hfz10_1 := blk_frozen BK218.out 1; obtain ⟨Ao11, co11, eo11⟩ := Kd.V_slice HO_3.out; subst eo11) | ((with_reducible refine gate_callee (f := 54) rfl ?_); refine goesL_ (some 18) rfl rfl Try.func54 (by kernel_rfl) rfl #[.int .i64 x10_1, .slice Ao11 x3_1.length co11] rfl (by (try simp only [List.map_toArray, List.map_cons, List.map_nil]); first | done | rfl | (simp only [List.length_drop, List.length_take]; rfl)) ?_; (with_reducible refine (block_expects.calls x10_1 _ _ x3_1 t219 t220 _ ?side1 ?side2 A5.out).mono ?_); (case side1 => refine (Kd.V_reads' (e := 5) (base := w.heap.size) (ok := fun k_ => ((P0_ k_ ∨ w.heap.size ≤ k_) ∧ k_ ≠ gb218)) (n := x3_1.length) (c := co11) ?_).2.2; exact (by (with_reducible repeat (first | apply Kd.V_alloc | apply Kd.V_drewN | apply Kd.V_drew)); exact (Kd.V_mono (Kd.V_far (p := ⟨gb218, 1, none⟩) (Kd.V_far (p := ⟨gb218, 0, none⟩) (Kd.V_mono HO_3.out (fun k_ hk => (⟨hk, hk.2⟩ : _ ∧ k_ ≠ gb218))) (fun _ hk => hk.2) (.int .u8 ((rd_T73 l0 x10_1).f0))) (fun _ hk => hk.2) (.slice A217_1 ((rd_T73 l0 x10_1).f1).length c217_1)) (fun _ h_ => h_.1)))); (case side2 => exact (Kd.V_reads' HO_3.out).2.1); rintro e w' ⟨rfl, ⟨nd, rfl⟩⟩; refine ⟨_, rfl, ?_⟩))
         go_ret
         exact ⟨by first | rfl | (simp [errW_none, errW_some] <;> rfl) | (simp [*, errW_none, errW_some] <;> rfl), by repeat (first | (with_reducible first | exact HB.out | apply below_alloc | apply pw_below_drewN | apply below_drew1 | refine below_set ?_ GE218.out) | exact HB.out)⟩
        ·rw [if_neg c8] at H
         have c8b0 : (t219 == 0) = false := beq_eq_false_iff_ne.mpr c8
         have c8b1 : (t219 != 0) = true := bne_iff_ne.mpr c8
         have H' := Aside0.mk H
         clear H
         have p217 : 0 ≤ (x10_1 : Int) := of_decide_eq_true (by first | (with_reducible assumption) | assumption)
         have q217 : x10_1 < (l0.length : Int) := of_decide_eq_true (by first | (with_reducible assumption) | assumption)
         obtain ⟨ad217, A217_1, c217_1, e217, hx217_0, hx217_1, hl217_1, hi217_1⟩ := at_T73 (Kd.V_reads' HO_8.out).2.2 x10_1 p217 q217
         cases e217
         obtain ⟨ce217, hce217, hMe217, hcc217⟩ := Kd.V_get HO_8.out z73 x10_1 p217 (by first | exact q217 | exact of_decide_eq_true (by first | (with_reducible assumption) | assumption) | (have e_ := (Kd.V_reads' HO_8.out).1; omega))
         obtain ⟨ua217_1, uc217_1, rfl, ul217_1, ge217_1⟩ := k73_openF hMe217
         have hv217_1 := hcc217 1 _ rfl
         rw [add_field _ _ 1 (by omega)] at hv217_1
         replace hv217_1 := Option.some.inj (hv217_1.symm.trans hx217_1)
         injection hv217_1 with hva_ hvn_ hvc_
         rw [hva_] at ge217_1
         rw [hvc_] at ul217_1
         have HL217_1 := Aside0.mk (show Kd.V (Kd.int .u8) 5 _ w.heap.size _ _ ((rd_T73 l0 x10_1).f1) from Kd.V_mk ul217_1 ge217_1)
         clear hva_ hvn_ hvc_ ge217_1 ul217_1
         clear hcc217 hce217
         have HR217_1 := Aside0.mk hi217_1
         have HC217_1 := Aside0.mk hl217_1
         clear hi217_1 hl217_1
         replace p217 := eq_true p217
         replace q217 := eq_true q217
         go_wp2_with (first | ((with_reducible refine gate_dst (N := 5) rfl ?_); (try (refine gate_guard (by rfl) ?_; dsimp only)); refine box_event ?hg (N := 5) ?hd (cs := #[.int .u8 0, .slice none 0 0]) (t := 73) ?hr ?_; (case hd => rfl); (case hg => rfl); (case hr => first | (go_simp; done) | (go_simp; rfl)); intro gb218 hg w12 hbox hb; have n0_ := Aside0.mk (Kd.V_below (Kd.V_elderB (by (with_reducible repeat (first | apply Kd.V_alloc | apply Kd.V_drewN | apply Kd.V_drew)); exact HO_3.out) gb218 (Nat.le_of_eq hg.symm)) hb); have n1_ := Aside0.mk (Kd.V_below (Kd.V_elderB (by (with_reducible repeat (first | apply Kd.V_alloc | apply Kd.V_drewN | apply Kd.V_drew)); exact HO_8.out) gb218 (Nat.le_of_eq hg.symm)) hb); have n2_ := Aside0.mk (Kd.V_below (Kd.V_elderB (by (with_reducible repeat (first | apply Kd.V_alloc | apply Kd.V_drewN | apply Kd.V_drew)); exact HL217_1.out) gb218 (Nat.le_of_eq hg.symm)) hb); have n3_ := Aside0.mk (Kd.C_below (by repeat (first | (with_reducible exact HR217_1.out) | (with_reducible refine Kd.C_alloc ?_ _) | (with_reducible refine Kd.C_drewN ?_ _) | (with_reducible refine Kd.C_drew ?_) | exact HR217_1.out)) hb); have n4_ := Aside0.mk (below_step (by repeat (first | (with_reducible first | exact HB.out | apply below_alloc | apply pw_below_drewN | apply below_drew1) | exact HB.out)) hb); have n5_ := Aside0.mk (hbox); have n6_ := Aside0.mk ((by rw [hg]; exact (below_size (by repeat (first | (with_reducible first | exact HB.out | apply below_alloc | apply pw_below_drewN | apply below_drew1) | exact HB.out))) : w.heap.size ≤ gb218)); have n7_ := Aside0.mk ((by rw [hg]; exact (below_size (by repeat (first | (with_reducible first | exact HB.out | apply below_alloc | apply pw_below_drewN | apply below_drew1) | exact HB.out))) : w.heap.size ≤ gb218)); clear HO_3; clear HO_8; clear HL217_1; clear HR217_1; clear HB; have HO_3 := n0_; have HO_8 := n1_; have HL217_1 := n2_; have HR217_1 := n3_; have HB := n4_; have BK218 := n5_; have GW218 := n6_; have GE218 := n7_; clear n0_ n1_ n2_ n3_ n4_ n5_ n6_ n7_; clear hb hbox hg; have hcz13_0 : w12.cell? ⟨gb218, 0, none⟩ = some (.int .u8 0) := (blk_cell BK218.out 0).trans rfl; have hcz13_1 : w12.cell? ⟨gb218, 1, none⟩ = some (.slice none 0 0) := (blk_cell BK218.out 1).trans rfl; have hfz13_0 := blk_frozen BK218.out 0; have hfz13_1 := blk_frozen BK218.out 1; obtain ⟨Ao14, co14, eo14⟩ := Kd.V_slice HO_3.out; subst eo14) | ((with_reducible refine gate_callee (f := 54) rfl ?_); refine goesL_ (some 18) rfl rfl Try.func54 (by kernel_rfl) rfl #[.int .i64 x10_1, .slice Ao14 x3_1.length co14] rfl (by (try simp only [List.map_toArray, List.map_cons, List.map_nil]); first | done | rfl | (simp only [List.length_drop, List.length_take]; rfl)) ?_; (with_reducible refine (block_expects.calls x10_1 _ _ x3_1 t219 t220 _ ?side1 ?side2 A5.out).mono ?_); (case side1 => refine (Kd.V_reads' (e := 5) (base := w.heap.size) (ok := fun k_ => ((P0_ k_ ∨ w.heap.size ≤ k_) ∧ k_ ≠ gb218)) (n := x3_1.length) (c := co14) ?_).2.2; exact (by (with_reducible repeat (first | apply Kd.V_alloc | apply Kd.V_drewN | apply Kd.V_drew)); exact (Kd.V_mono (Kd.V_far (p := ⟨gb218, 1, none⟩) (Kd.V_far (p := ⟨gb218, 0, none⟩) (Kd.V_mono HO_3.out (fun k_ hk => (⟨hk, hk.2⟩ : _ ∧ k_ ≠ gb218))) (fun _ hk => hk.2) (.int .u8 ((rd_T73 l0 x10_1).f0))) (fun _ hk => hk.2) (.slice A217_1 ((rd_T73 l0 x10_1).f1).length c217_1)) (fun _ h_ => h_.1)))); (case side2 => exact (Kd.V_reads' HO_3.out).2.1); rintro e w' ⟨rfl, ⟨nd, rfl⟩⟩; refine ⟨_, rfl, ?_⟩))
         go_roundg k1
         case measure => have := HK1.out; omega
         case rel => exact ⟨((rd_T73 l0 x10_1).f1), (wrap64 (x10_1 + 1)), (by first | rfl | (simp; done) | (simp [*]; done)), H', ⟨by have := HK1.out; omega⟩, ⟨by (with_reducible repeat (first | apply Kd.V_alloc | apply Kd.V_drewN | apply Kd.V_drew)); exact Kd.V_mono (Kd.V_far (p := ⟨gb218, 1, none⟩) (Kd.V_far (p := ⟨gb218, 0, none⟩) (Kd.V_mono HL217_1.out (fun k_ hk => (⟨hk, hk.2⟩ : _ ∧ k_ ≠ gb218))) (fun _ hk => hk.2) (.int .u8 ((rd_T73 l0 x10_1).f0))) (fun _ hk => hk.2) (.slice A217_1 ((rd_T73 l0 x10_1).f1).length c217_1)) (fun _ hk => hk.1.1)⟩, ⟨by (with_reducible repeat (first | apply Kd.V_alloc | apply Kd.V_drewN | apply Kd.V_drew)); exact Kd.V_mono (Kd.V_far (p := ⟨gb218, 1, none⟩) (Kd.V_far (p := ⟨gb218, 0, none⟩) (Kd.V_mono HO_8.out (fun k_ hk => (⟨hk, hk.2⟩ : _ ∧ k_ ≠ gb218))) (fun _ hk => hk.2) (.int .u8 ((rd_T73 l0 x10_1).f0))) (fun _ hk => hk.2) (.slice A217_1 ((rd_T73 l0 x10_1).f1).length c217_1)) (fun _ hk => hk.1.1)⟩, ⟨by repeat (first | (with_reducible first | exact HB.out | apply below_alloc | apply pw_below_drewN | apply below_drew1 | refine below_set ?_ GE218.out) | exact HB.out)⟩⟩
       ·rw [if_neg c7] at H
        have c7b0 : ((((rd_T73 l0 x10_1).f1).length : Int) == t220) = false := beq_eq_false_iff_ne.mpr c7
        have c7b1 : ((((rd_T73 l0 x10_1).f1).length : Int) != t220) = true := bne_iff_ne.mpr c7
        obtain rfl := Option.some.inj H
        have p217 : 0 ≤ (x10_1 : Int) := of_decide_eq_true (by first | (with_reducible assumption) | assumption)
        have q217 : x10_1 < (l0.length : Int) := of_decide_eq_true (by first | (with_reducible assumption) | assumption)
        obtain ⟨ad217, A217_1, c217_1, e217, hx217_0, hx217_1, hl217_1, hi217_1⟩ := at_T73 (Kd.V_reads' HO_8.out).2.2 x10_1 p217 q217
        cases e217
        obtain ⟨ce217, hce217, hMe217, hcc217⟩ := Kd.V_get HO_8.out z73 x10_1 p217 (by first | exact q217 | exact of_decide_eq_true (by first | (with_reducible assumption) | assumption) | (have e_ := (Kd.V_reads' HO_8.out).1; omega))
        obtain ⟨ua217_1, uc217_1, rfl, ul217_1, ge217_1⟩ := k73_openF hMe217
        have hv217_1 := hcc217 1 _ rfl
        rw [add_field _ _ 1 (by omega)] at hv217_1
        replace hv217_1 := Option.some.inj (hv217_1.symm.trans hx217_1)
        injection hv217_1 with hva_ hvn_ hvc_
        rw [hva_] at ge217_1
        rw [hvc_] at ul217_1
        have HL217_1 := Aside0.mk (show Kd.V (Kd.int .u8) 5 _ w.heap.size _ _ ((rd_T73 l0 x10_1).f1) from Kd.V_mk ul217_1 ge217_1)
        clear hva_ hvn_ hvc_ ge217_1 ul217_1
        clear hcc217 hce217
        have HR217_1 := Aside0.mk hi217_1
        have HC217_1 := Aside0.mk hl217_1
        clear hi217_1 hl217_1
        replace p217 := eq_true p217
        replace q217 := eq_true q217
        go_wp2_with (first | ((with_reducible refine gate_dst (N := 5) rfl ?_); (try (refine gate_guard (by rfl) ?_; dsimp only)); refine box_event ?hg (N := 5) ?hd (cs := #[.int .u8 0, .slice none 0 0]) (t := 73) ?hr ?_; (case hd => rfl); (case hg => rfl); (case hr => first | (go_simp; done) | (go_simp; rfl)); intro gb218 hg w15 hbox hb; have n0_ := Aside0.mk (Kd.V_below (Kd.V_elderB (by (with_reducible repeat (first | apply Kd.V_alloc | apply Kd.V_drewN | apply Kd.V_drew)); exact HO_3.out) gb218 (Nat.le_of_eq hg.symm)) hb); have n1_ := Aside0.mk (Kd.V_below (Kd.V_elderB (by (with_reducible repeat (first | apply Kd.V_alloc | apply Kd.V_drewN | apply Kd.V_drew)); exact HO_8.out) gb218 (Nat.le_of_eq hg.symm)) hb); have n2_ := Aside0.mk (Kd.V_below (Kd.V_elderB (by (with_reducible repeat (first | apply Kd.V_alloc | apply Kd.V_drewN | apply Kd.V_drew)); exact HL217_1.out) gb218 (Nat.le_of_eq hg.symm)) hb); have n3_ := Aside0.mk (Kd.C_below (by repeat (first | (with_reducible exact HR217_1.out) | (with_reducible refine Kd.C_alloc ?_ _) | (with_reducible refine Kd.C_drewN ?_ _) | (with_reducible refine Kd.C_drew ?_) | exact HR217_1.out)) hb); have n4_ := Aside0.mk (below_step (by repeat (first | (with_reducible first | exact HB.out | apply below_alloc | apply pw_below_drewN | apply below_drew1) | exact HB.out)) hb); have n5_ := Aside0.mk (hbox); have n6_ := Aside0.mk ((by rw [hg]; exact (below_size (by repeat (first | (with_reducible first | exact HB.out | apply below_alloc | apply pw_below_drewN | apply below_drew1) | exact HB.out))) : w.heap.size ≤ gb218)); have n7_ := Aside0.mk ((by rw [hg]; exact (below_size (by repeat (first | (with_reducible first | exact HB.out | apply below_alloc | apply pw_below_drewN | apply below_drew1) | exact HB.out))) : w.heap.size ≤ gb218)); clear HO_3; clear HO_8; clear HL217_1; clear HR217_1; clear HB; have HO_3 := n0_; have HO_8 := n1_; have HL217_1 := n2_; have HR217_1 := n3_; have HB := n4_; have BK218 := n5_; have GW218 := n6_; have GE218 := n7_; clear n0_ n1_ n2_ n3_ n4_ n5_ n6_ n7_; clear hb hbox hg; have hcz16_0 : w15.cell? ⟨gb218, 0, none⟩ = some (.int .u8 0) := (blk_cell BK218.out 0).trans rfl; have hcz16_1 : w15.cell? ⟨gb218, 1, none⟩ = some (.slice none 0 0) := (blk_cell BK218.out 1).trans rfl; have hfz16_0 := blk_frozen BK218.out 0; have hfz16_1 := blk_frozen BK218.out 1; obtain ⟨Ao17, co17, eo17⟩ := Kd.V_slice HO_3.out; subst eo17) | ((with_reducible refine gate_callee (f := 54) rfl ?_); refine goesL_ (some 18) rfl rfl Try.func54 (by kernel_rfl) rfl #[.int .i64 x10_1, .slice Ao17 x3_1.length co17] rfl (by (try simp only [List.map_toArray, List.map_cons, List.map_nil]); first | done | rfl | (simp only [List.length_drop, List.length_take]; rfl)) ?_; (with_reducible refine (block_expects.calls x10_1 _ _ x3_1 t219 t220 _ ?side1 ?side2 A5.out).mono ?_); (case side1 => refine (Kd.V_reads' (e := 5) (base := w.heap.size) (ok := fun k_ => ((P0_ k_ ∨ w.heap.size ≤ k_) ∧ k_ ≠ gb218)) (n := x3_1.length) (c := co17) ?_).2.2; exact (by (with_reducible repeat (first | apply Kd.V_alloc | apply Kd.V_drewN | apply Kd.V_drew)); exact (Kd.V_mono (Kd.V_far (p := ⟨gb218, 1, none⟩) (Kd.V_far (p := ⟨gb218, 0, none⟩) (Kd.V_mono HO_3.out (fun k_ hk => (⟨hk, hk.2⟩ : _ ∧ k_ ≠ gb218))) (fun _ hk => hk.2) (.int .u8 ((rd_T73 l0 x10_1).f0))) (fun _ hk => hk.2) (.slice A217_1 ((rd_T73 l0 x10_1).f1).length c217_1)) (fun _ h_ => h_.1)))); (case side2 => exact (Kd.V_reads' HO_3.out).2.1); rintro e w' ⟨rfl, ⟨nd, rfl⟩⟩; refine ⟨_, rfl, ?_⟩))
        go_ret
        exact ⟨by first | rfl | (simp [errW_none, errW_some] <;> rfl) | (simp [*, errW_none, errW_some] <;> rfl), by repeat (first | (with_reducible first | exact HB.out | apply below_alloc | apply pw_below_drewN | apply below_drew1 | refine below_set ?_ GE218.out) | exact HB.out)⟩
      ·rw [if_neg c6] at H
       have c6b0 : (((rd_T73 l0 x10_1).f0) == t219) = false := beq_eq_false_iff_ne.mpr c6
       have c6b1 : (((rd_T73 l0 x10_1).f0) != t219) = true := bne_iff_ne.mpr c6
       obtain rfl := Option.some.inj H
       have p217 : 0 ≤ (x10_1 : Int) := of_decide_eq_true (by first | (with_reducible assumption) | assumption)
       have q217 : x10_1 < (l0.length : Int) := of_decide_eq_true (by first | (with_reducible assumption) | assumption)
       obtain ⟨ad217, A217_1, c217_1, e217, hx217_0, hx217_1, hl217_1, hi217_1⟩ := at_T73 (Kd.V_reads' HO_8.out).2.2 x10_1 p217 q217
       cases e217
       obtain ⟨ce217, hce217, hMe217, hcc217⟩ := Kd.V_get HO_8.out z73 x10_1 p217 (by first | exact q217 | exact of_decide_eq_true (by first | (with_reducible assumption) | assumption) | (have e_ := (Kd.V_reads' HO_8.out).1; omega))
       obtain ⟨ua217_1, uc217_1, rfl, ul217_1, ge217_1⟩ := k73_openF hMe217
       have hv217_1 := hcc217 1 _ rfl
       rw [add_field _ _ 1 (by omega)] at hv217_1
       replace hv217_1 := Option.some.inj (hv217_1.symm.trans hx217_1)
       injection hv217_1 with hva_ hvn_ hvc_
       rw [hva_] at ge217_1
       rw [hvc_] at ul217_1
       have HL217_1 := Aside0.mk (show Kd.V (Kd.int .u8) 5 _ w.heap.size _ _ ((rd_T73 l0 x10_1).f1) from Kd.V_mk ul217_1 ge217_1)
       clear hva_ hvn_ hvc_ ge217_1 ul217_1
       clear hcc217 hce217
       have HR217_1 := Aside0.mk hi217_1
       have HC217_1 := Aside0.mk hl217_1
       clear hi217_1 hl217_1
       replace p217 := eq_true p217
       replace q217 := eq_true q217
       go_wp2_with (first | ((with_reducible refine gate_dst (N := 5) rfl ?_); (try (refine gate_guard (by rfl) ?_; dsimp only)); refine box_event ?hg (N := 5) ?hd (cs := #[.int .u8 0, .slice none 0 0]) (t := 73) ?hr ?_; (case hd => rfl); (case hg => rfl); (case hr => first | (go_simp; done) | (go_simp; rfl)); intro gb218 hg w18 hbox hb; have n0_ := Aside0.mk (Kd.V_below (Kd.V_elderB (by (with_reducible repeat (first | apply Kd.V_alloc | apply Kd.V_drewN | apply Kd.V_drew)); exact HO_3.out) gb218 (Nat.le_of_eq hg.symm)) hb); have n1_ := Aside0.mk (Kd.V_below (Kd.V_elderB (by (with_reducible repeat (first | apply Kd.V_alloc | apply Kd.V_drewN | apply Kd.V_drew)); exact HO_8.out) gb218 (Nat.le_of_eq hg.symm)) hb); have n2_ := Aside0.mk (Kd.V_below (Kd.V_elderB (by (with_reducible repeat (first | apply Kd.V_alloc | apply Kd.V_drewN | apply Kd.V_drew)); exact HL217_1.out) gb218 (Nat.le_of_eq hg.symm)) hb); have n3_ := Aside0.mk (Kd.C_below (by repeat (first | (with_reducible exact HR217_1.out) | (with_reducible refine Kd.C_alloc ?_ _) | (with_reducible refine Kd.C_drewN ?_ _) | (with_reducible refine Kd.C_drew ?_) | exact HR217_1.out)) hb); have n4_ := Aside0.mk (below_step (by repeat (first | (with_reducible first | exact HB.out | apply below_alloc | apply pw_below_drewN | apply below_drew1) | exact HB.out)) hb); have n5_ := Aside0.mk (hbox); have n6_ := Aside0.mk ((by rw [hg]; exact (below_size (by repeat (first | (with_reducible first | exact HB.out | apply below_alloc | apply pw_below_drewN | apply below_drew1) | exact HB.out))) : w.heap.size ≤ gb218)); have n7_ := Aside0.mk ((by rw [hg]; exact (below_size (by repeat (first | (with_reducible first | exact HB.out | apply below_alloc | apply pw_below_drewN | apply below_drew1) | exact HB.out))) : w.heap.size ≤ gb218)); clear HO_3; clear HO_8; clear HL217_1; clear HR217_1; clear HB; have HO_3 := n0_; have HO_8 := n1_; have HL217_1 := n2_; have HR217_1 := n3_; have HB := n4_; have BK218 := n5_; have GW218 := n6_; have GE218 := n7_; clear n0_ n1_ n2_ n3_ n4_ n5_ n6_ n7_; clear hb hbox hg; have hcz19_0 : w18.cell? ⟨gb218, 0, none⟩ = some (.int .u8 0) := (blk_cell BK218.out 0).trans rfl; have hcz19_1 : w18.cell? ⟨gb218, 1, none⟩ = some (.slice none 0 0) := (blk_cell BK218.out 1).trans rfl; have hfz19_0 := blk_frozen BK218.out 0; have hfz19_1 := blk_frozen BK218.out 1; obtain ⟨Ao20, co20, eo20⟩ := Kd.V_slice HO_3.out; subst eo20) | ((with_reducible refine gate_callee (f := 54) rfl ?_); refine goesL_ (some 18) rfl rfl Try.func54 (by kernel_rfl) rfl #[.int .i64 x10_1, .slice Ao20 x3_1.length co20] rfl (by (try simp only [List.map_toArray, List.map_cons, List.map_nil]); first | done | rfl | (simp only [List.length_drop, List.length_take]; rfl)) ?_; (with_reducible refine (block_expects.calls x10_1 _ _ x3_1 t219 t220 _ ?side1 ?side2 A5.out).mono ?_); (case side1 => refine (Kd.V_reads' (e := 5) (base := w.heap.size) (ok := fun k_ => ((P0_ k_ ∨ w.heap.size ≤ k_) ∧ k_ ≠ gb218)) (n := x3_1.length) (c := co20) ?_).2.2; exact (by (with_reducible repeat (first | apply Kd.V_alloc | apply Kd.V_drewN | apply Kd.V_drew)); exact (Kd.V_mono (Kd.V_far (p := ⟨gb218, 1, none⟩) (Kd.V_far (p := ⟨gb218, 0, none⟩) (Kd.V_mono HO_3.out (fun k_ hk => (⟨hk, hk.2⟩ : _ ∧ k_ ≠ gb218))) (fun _ hk => hk.2) (.int .u8 ((rd_T73 l0 x10_1).f0))) (fun _ hk => hk.2) (.slice A217_1 ((rd_T73 l0 x10_1).f1).length c217_1)) (fun _ h_ => h_.1)))); (case side2 => exact (Kd.V_reads' HO_3.out).2.1); rintro e w' ⟨rfl, ⟨nd, rfl⟩⟩; refine ⟨_, rfl, ?_⟩))
       go_ret
       exact ⟨by first | rfl | (simp [errW_none, errW_some] <;> rfl) | (simp [*, errW_none, errW_some] <;> rfl), by repeat (first | (with_reducible first | exact HB.out | apply below_alloc | apply pw_below_drewN | apply below_drew1 | refine below_set ?_ GE218.out) | exact HB.out)⟩
     ·rw [if_neg c4] at H
      exact absurd H (by simp)
    ·rw [if_neg c3] at H
     exact absurd H (by simp)
   ·rw [if_neg c2] at H
    have c2b0 : decide (x10_1 < (l0.length : Int)) = false := decide_eq_false c2
    clear c2
    obtain rfl := Option.some.inj H
    go_wp2
    go_ret
    exact ⟨by first | rfl | (simp [errW_none, errW_some] <;> rfl) | (simp [*, errW_none, errW_some] <;> rfl), by repeat (first | (with_reducible first | exact HB.out | apply below_alloc | apply pw_below_drewN | apply below_drew1) | exact HB.out)⟩

end Go.Proofs.Ythnfmoaiejaheaa.PDiskWraps
