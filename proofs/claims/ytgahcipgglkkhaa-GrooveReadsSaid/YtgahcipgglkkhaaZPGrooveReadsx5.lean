-- made by a program of this repo (wip/patch_print.py); not trusted: Lean checks it
import Derived.Test.YtgahcipgglkkhaaZPGrooveReadsx0
import Derived.Test.YtgahcipgglkkhaaZPGrooveReadsx1
import Derived.Test.YtgahcipgglkkhaaZPGrooveReadsx2
import Derived.Test.YtgahcipgglkkhaaZPGrooveReadsx4
-- squeezed
namespace Go.Proofs.Ytgahcipgglkkhaa.PGrooveReads
open Go.RowKit Go.Proofs.YtgahcipgglkkhaaW.PrintWords Go.Proofs.YtgahcipgglkkhaaW.PrintLast Go.Proofs.YtgahcipgglkkhaaW.PrintMore
attribute [local go_sem] max2_int min2_int max_two min_two max_three min_three max_four min_four   -- for this text's walks alone
set_option linter.unusedVariables false
set_option linter.unusedSimpArgs false

/-! ### block_File: function 20, by hand -/
def block_File.head (a0 a1 : Int) (a2 : ByteArray) (a3 a4 n : Int) : List Int := [a0, a1] ++ H.spl (List.replicate 8 0) 0 ((bytesOf a2).take 8) ++ [a3 % 256, a3 / 256 % 256, n % 256, n / 256, a4]
def block_File.f (a0 a1 : Int) (a2 : ByteArray) (a3 a4 : Int) (l5 : List Int) : Option (List (S53)) :=
 if (l5.length : Int) > 65535 then some [] else some [⟨3, block_File.head a0 a1 a2 a3 a4 (l5.length : Int)⟩, ⟨4, l5⟩]
theorem block_File.spl_at (ys : List Int) (hl : ys.length ≤ 8) (a0 a1 a10 a11 a12 a13 a14 : Int) :
  (((((H.spl ((((List.replicate 15 0).set 0 a0)).set 1 a1) 2 ys).set 10 a10).set 11 a11).set 12 a12).set 13 a13).set 14 a14 = [a0, a1] ++ H.spl (List.replicate 8 0) 0 ys ++ [a10, a11, a12, a13, a14] := by
 rcases (show ys.length = 0 ∨ ys.length = 1 ∨ ys.length = 2 ∨ ys.length = 3 ∨ ys.length = 4 ∨ ys.length = 5 ∨ ys.length = 6 ∨ ys.length = 7 ∨ ys.length = 8 by omega) with h | h | h | h | h | h | h | h | h
 all_goals
  rcases ys with _ | ⟨y0, _ | ⟨y1, _ | ⟨y2, _ | ⟨y3, _ | ⟨y4, _ | ⟨y5, _ | ⟨y6, _ | ⟨y7, _ | ⟨y8, ys⟩⟩⟩⟩⟩⟩⟩⟩⟩ <;> first | rfl | (simp at h)
set_option maxHeartbeats 400000 in
set_option maxRecDepth 100000 in
theorem block_File.calls (a0 a1 : Int) (a2 : ByteArray) (a3 a4 : Int) (A5 : Option Addr) (c5 : Nat) (l5 : List Int) (r : List (S53)) (w : World) (hr5 : Kd.C (Kd.int .u8) w A5 l5.length l5) (hc5 : l5.length ≤ c5) (h : block_File.f a0 a1 a2 a3 a4 l5 = some r) :
  Calls Try.prog 20 #[.int .u8 a0, .int .u8 a1, .string a2, .int .u16 a3, .int .u8 a4, .slice A5 l5.length c5] w fun e w' => ∃ v0_ : Value, e = .returned (v0_) ∧ Kd.N k53 53 w' w.heap.size (fun k_ => (w.heap.size ≤ k_)) v0_ r ∧ Below w.heap.size w w' := by
 unfold block_File.f at h
 by_cases hl : (l5.length : Int) > 65535
 ·rw [if_pos hl] at h
  obtain rfl := Option.some.inj h
  have t1 : decide ((65535 : Int) < (l5.length : Int)) = true := decide_eq_true hl
  clear hr5 hc5 h
  go_enter Try.func20, Try.ntmps20
  go_wp2
  go_ret
  exact ⟨_, rfl, Kd.N_nil _ _ _ _ _, Below.refl _ _⟩
 ·rw [if_neg hl] at h
  obtain rfl := Option.some.inj h
  have t1 : decide ((65535 : Int) < (l5.length : Int)) = false := decide_eq_false hl
  have HR := Aside0.mk hr5
  have HC := Aside0.mk hc5
  have HL := Aside0.mk hl
  have hl2 : (l5.length : Int) ≤ 65535 := by omega
  clear hr5 hc5 h hl
  go_enter Try.func20, Try.ntmps20
  have HSZ5 := Aside0.mk (show (Try.prog.info? 5).map (·.size) = some 1 by kernel_rfl)
  go_wp2_with (first
   | ((with_reducible refine gate_dst (N := 17) rfl ?_); refine H.makeRow rfl 22 5 _ _ rfl 15 rfl rfl Try.underlying22 info5 (by decide) ?_; intro w1 hrow hb hsz; have ROW := Aside0.mk hrow; have HB := Aside0.mk hb; have HSZ := Aside0.mk hsz; have c0 := hrow.cell 0 (by decide); have c1 := hrow.cell 1 (by decide); have f0 := hrow.frozen 0; have f1 := hrow.frozen 1; clear hrow hb hsz)
   | ((with_reducible refine gate_dst (N := 27) rfl ?_); have HROWX := (ROW.out.set_ 0 a0).set_ 1 a1; have HBX : Below w.heap.size w ((w1.setCell ⟨w.heap.size, 0, none⟩ (.int .u8 a0)).setCell ⟨w.heap.size, 1, none⟩ (.int .u8 a1)) := (HB.out.setCell (p := ⟨w.heap.size, 0, none⟩) (Nat.le_refl _) _).setCell (p := ⟨w.heap.size, 1, none⟩) (Nat.le_refl _) _; refine H.copyStr rfl (.tmp 25) (.tmp 26) 22 9 rfl 5 Try.underlying22 HSZ5.out w.heap.size 2 8 13 a2 rfl rfl 5 _ HROWX (by simp) w.heap.size w HBX (Nat.le_refl _) ?_; clear HROWX HBX; intro w2 hrow hb hk hz; have HSZ2 := Aside0.mk (show w2.heap.size = w.heap.size + 1 by rw [hz]; simp [HSZ.out]); have ROW2 := Aside0.mk hrow; have HB2 := Aside0.mk hb; have hsl := H.spl_length (((List.replicate 15 0).set 0 a0).set 1 a1) ((bytesOf a2).take 8) 2 (by simp; omega); rw [show (((List.replicate 15 (0 : Int)).set 0 a0).set 1 a1).length = 15 by simp] at hsl; have d10 := hrow.cell 10 (by rw [hsl]; decide); have d11 := hrow.cell 11 (by rw [hsl]; decide); have d12 := hrow.cell 12 (by rw [hsl]; decide); have d13 := hrow.cell 13 (by rw [hsl]; decide); have d14 := hrow.cell 14 (by rw [hsl]; decide); have e10 := hrow.frozen 10; have e11 := hrow.frozen 11; have e12 := hrow.frozen 12; have e13 := hrow.frozen 13; have e14 := hrow.frozen 14; clear hrow hb hk hz hsl; clear c0 c1 f0 f1; generalize (H.spl (((List.replicate 15 0).set 0 a0).set 1 a1) 2 ((bytesOf a2).take 8)).getD 10 0 = x10 at *; generalize (H.spl (((List.replicate 15 0).set 0 a0).set 1 a1) 2 ((bytesOf a2).take 8)).getD 11 0 = x11 at *; generalize (H.spl (((List.replicate 15 0).set 0 a0).set 1 a1) 2 ((bytesOf a2).take 8)).getD 12 0 = x12 at *; generalize (H.spl (((List.replicate 15 0).set 0 a0).set 1 a1) 2 ((bytesOf a2).take 8)).getD 13 0 = x13 at *; generalize (H.spl (((List.replicate 15 0).set 0 a0).set 1 a1) 2 ((bytesOf a2).take 8)).getD 14 0 = x14 at *))
  have HT := Aside0.mk (block_File.spl_at ((bytesOf a2).take 8) (List.length_take_le _ _) a0 a1 (a3 % 256) (a3 / 256 % 256) ((l5.length : Int) % 256) ((l5.length : Int) / 256) a4)
  have ROW6 := Aside0.mk (((((ROW2.out.set_ 10 (a3 % 256)).set_ 11 (a3 / 256 % 256)).set_ 12 ((l5.length : Int) % 256)).set_ 13 ((l5.length : Int) / 256)).set_ 14 a4)
  rw [HT.out] at ROW6
  have HB6 := Aside0.mk (((((HB2.out.setCell (p := ⟨w.heap.size, 10, none⟩) (Nat.le_refl _) (.int .u8 (a3 % 256))).setCell (p := ⟨w.heap.size, 11, none⟩) (Nat.le_refl _) (.int .u8 (a3 / 256 % 256))).setCell (p := ⟨w.heap.size, 12, none⟩) (Nat.le_refl _) (.int .u8 ((l5.length : Int) % 256))).setCell (p := ⟨w.heap.size, 13, none⟩) (Nat.le_refl _) (.int .u8 ((l5.length : Int) / 256))).setCell (p := ⟨w.heap.size, 14, none⟩) (Nat.le_refl _) (.int .u8 a4))
  refine (bytes_Clone.calls A5 c5 l5 l5 _ (Kd.C_below HR.out HB6.out) HC.out (by unfold bytes_Clone.f; rw [if_pos (by omega)])).mono ?_
  rintro e w3 ⟨v3, rfl, ho, hb⟩
  have ROW7 := Aside0.mk (ROW6.out.below hb)
  have HB7 := Aside0.mk (HB6.out.trans (hb.mono (below_size HB6.out)))
  have HO := Aside0.mk (Kd.V_mono (ok' := fun k => w.heap.size ≤ k) ho (fun k hk => Nat.le_trans (below_size HB6.out) hk))
  clear ho hb ROW6 HB6 HT ROW2 HB2 ROW HB d10 d11 d12 d13 d14 e10 e11 e12 e13 e14
  obtain ⟨A3, c3, e3⟩ := Kd.V_slice HO.out
  subst e3
  have hhl : (block_File.head a0 a1 a2 a3 a4 (l5.length : Int)).length = 15 := by unfold block_File.head; simp [H.spl]; omega
  have HF1 := Aside0.mk (show Kd.F (Kd.int .u8) w3 (fun k => w.heap.size ≤ k) (some ⟨w.heap.size, 0, none⟩) (block_File.head a0 a1 a2 a3 a4 (l5.length : Int)).length (block_File.head a0 a1 a2 a3 a4 (l5.length : Int)) from Kd.F_mono (Kd.V_F (ROW7.out.V 0 (by rw [show ([a0, a1] ++ H.spl (List.replicate 8 0) 0 ((bytesOf a2).take 8) ++ [a3 % 256, a3 / 256 % 256, (l5.length : Int) % 256, (l5.length : Int) / 256, a4]).length = 15 from hhl]; decide))) (fun k hk => Nat.le_of_eq hk.symm))
  have HHL := Aside0.mk hhl
  clear ROW7 hhl
  have hrep := ((Reps.none (Kd.FK k53 w3 (fun k => w.heap.size ≤ k)) k53.sz).snoc (p := (⟨3, block_File.head a0 a1 a2 a3 a4 (l5.length : Int)⟩ : S53)) (k53_mkF w3 _ (⟨3, block_File.head a0 a1 a2 a3 a4 (l5.length : Int)⟩ : S53) (Nat.le_of_eq HHL.out) HF1.out) rfl).snoc (p := (⟨4, l5⟩ : S53)) (k53_mkF w3 _ (⟨4, l5⟩ : S53) (Kd.V_reads' HO.out).2.1 (Kd.V_F HO.out)) rfl
  simp only [List.nil_append, List.cons_append] at hrep
  rw [HHL.out] at hrep
  have HREP := Aside0.mk hrep
  clear hrep
  go_wp2
  go_ret
  exact ⟨_, rfl, H.litN k53 w.heap.size 53 HREP.out (fun _ h => h) (below_size HB7.out) (below_size HB7.out) (by simp), below_alloc HB7.out _⟩

/-! ### kotatsulaw07_made: function 14 -/
def kotatsulaw07_made.l0 : Nat → Int → List (List (S53)) → List (List Int) → Int → Int → Option ((List (S53)))
 | 0, _, _, _, _, _ => none
 | k + 1, x1, x5, x9, x10, x11 => if x11 < x10 then (if 0 ≤ x11 then (if x11 < (x9.length : Int) then (if x11 < 8 then ((kotatsuref01_Cut.f k (rd_L1 x9 x11) 200).bind fun t223 => ((block_File.f ((x11) % 256) 0 (⟨#[70]⟩ : ByteArray) 24576 0 t223).bind fun t226 => (if x5.length < 5864062014805 then (kotatsulaw07_made.l0 k x1 (x5 ++ [t226]) x9 x10 (wrap64 (x11 + 1))) else (none)))) else (kotatsulaw07_made.l0 k x1 x5 x9 x10 (wrap64 (x11 + 1)))) else (none)) else (none)) else ((block_Disk.f (⟨#[75]⟩ : ByteArray) 0 x5).bind fun t216 => (if 0 ≤ (mx 0 (wrap64 ((t216.length : Int) - (wrap64 (Int.tmod x1 4))))) then (if (mx 0 (wrap64 ((t216.length : Int) - (wrap64 (Int.tmod x1 4))))) ≤ (t216.length : Int) then (some (t216.take ((mx 0 (wrap64 ((t216.length : Int) - (wrap64 (Int.tmod x1 4))))) : Int).toNat)) else (none)) else (none)))
def kotatsulaw07_made.f (k : Nat) (l0 : List (List Int)) (a1 : Int) : Option ((List (S53))) := kotatsulaw07_made.l0 k a1 ([] : List (List (S53))) l0 (l0.length : Int) 0
set_option maxHeartbeats 8000000 in
set_option maxRecDepth 100000 in
theorem kotatsulaw07_made.calls (k : Nat) (A0 : Option Addr) (c0 : Nat) (l0 : List (List Int)) (a1 : Int) (r : List (S53)) (w : World) (hr0 : Kd.C (Kd.slice 5 (Kd.int .u8)) w A0 l0.length l0) (hc0 : l0.length ≤ c0) (h : kotatsulaw07_made.f k l0 a1 = some r) :
  Calls Try.prog 14 #[.slice A0 l0.length c0, .int .u8 a1] w fun e w' => ∃ v0_ : Value, e = .returned (v0_) ∧ Kd.N k53 53 w' w.heap.size (fun k_ => (w.heap.size ≤ k_)) v0_ r ∧ Below w.heap.size w w' := by
 have HR0 := Aside0.mk hr0
 have HC0 := Aside0.mk hc0
 clear hr0 hc0
 have HB := Aside0.mk (Below.refl w.heap.size w)
 have H : (kotatsulaw07_made.l0 k a1 ([] : List (List (S53))) l0 (l0.length : Int) 0) = some r := h
 clear h
 have H' := Aside0.mk H
 clear H
 go_enter Try.func14, Try.ntmps14
 go_wp2
 go_loopg [5, 11] k (fun kq v5 v11 w' => ∃ (x5_1 : List (List (S53))) (x11_1 : Int), v11 = .int .i64 x11_1 ∧ Aside0 (kotatsulaw07_made.l0 kq a1 x5_1 l0 (l0.length : Int) x11_1 = some r) ∧ Aside0 (kq ≤ k) ∧ Aside0 (Kd.N (Kd.slice 53 k53) 35 w' w.heap.size (fun k_ => (w.heap.size ≤ k_)) v5 x5_1) ∧ Aside0 (Below w.heap.size w w'))
 case atStart => exact ⟨(([] : List (List (S53)))), (0), (by first | rfl | (simp; done) | (simp [*]; done)), H', ⟨Nat.le_refl _⟩, ⟨by first | exact Kd.R_nil _ _ _ _ _ | exact Kd.N_nil _ _ _ _ _ | exact Kd.V_nil _ _ _ _ _ | exact Kd.Q_nil _ _ _ _ _ | exact Kd.S_nil _ _ _ _ _⟩, ⟨by repeat (first | (with_reducible first | exact HB.out | apply below_alloc | apply pw_below_drewN | apply below_drew1) | exact HB.out)⟩⟩
 case round =>
  clear H'
  try clear c1
  try clear p2
  obtain ⟨x5_1, x11_1, rfl, HA, HK1, HO_5, HB⟩ := hrel
  cases gk with
  | zero => exact absurd HA.out (by simp [kotatsulaw07_made.l0])
  | succ k1 =>
   have H := HA.out
   clear HA
   simp only [kotatsulaw07_made.l0] at H
   by_cases c3 : x11_1 < (l0.length : Int)
   ·rw [if_pos c3] at H
    have c3b0 : decide (x11_1 < (l0.length : Int)) = true := decide_eq_true c3
    clear c3
    by_cases c4 : 0 ≤ x11_1
    ·rw [if_pos c4] at H
     have c4b0 : decide (0 ≤ x11_1) = true := decide_eq_true c4
     clear c4
     by_cases c5 : x11_1 < (l0.length : Int)
     ·rw [if_pos c5] at H
      have c5b0 : decide (x11_1 < (l0.length : Int)) = true := decide_eq_true c5
      clear c5
      by_cases c6 : x11_1 < 8
      ·rw [if_pos c6] at H
       have c6b0 : decide (x11_1 < 8) = true := decide_eq_true c6
       clear c6
       replace H := Option.bind_eq_some_iff.mp H
       obtain ⟨t223, A70, H⟩ := H
       replace H : ((block_File.f ((x11_1) % 256) 0 (⟨#[70]⟩ : ByteArray) 24576 0 t223).bind fun t226 => (if x5_1.length < 5864062014805 then (kotatsulaw07_made.l0 k1 a1 (x5_1 ++ [t226]) l0 (l0.length : Int) (wrap64 (x11_1 + 1))) else (none))) = some r := H
       have A7 := Aside0.mk A70
       clear A70
       replace H := Option.bind_eq_some_iff.mp H
       obtain ⟨t226, A80, H⟩ := H
       replace H : (if x5_1.length < 5864062014805 then (kotatsulaw07_made.l0 k1 a1 (x5_1 ++ [t226]) l0 (l0.length : Int) (wrap64 (x11_1 + 1))) else (none)) = some r := H
       have A8 := Aside0.mk A80
       clear A80
       by_cases c9 : x5_1.length < 5864062014805
       ·rw [if_pos c9] at H
        have LMc9 := Aside0.mk c9
        clear c9
        obtain ⟨y229, hy229⟩ : ∃ y_ : List (List (S53)), y_ = (x5_1 ++ [t226]) := ⟨_, rfl⟩
        replace H : (kotatsulaw07_made.l0 k1 a1 y229 l0 (l0.length : Int) (wrap64 (x11_1 + 1))) = some r := by first | (rw [hy229]; with_reducible exact H) | (have H2_ := (Option.bind_some _ _).symm.trans H; rw [hy229]; with_reducible exact H2_) | (have H2_ := (Option.bind_some _ _).symm.trans H; with_reducible exact H2_) | with_reducible exact H | (rw [hy229]; exact H) | exact H
        have Ny229 := Aside0.mk hy229
        clear hy229
        have H' := Aside0.mk H
        clear H
        have p222 : 0 ≤ (x11_1 : Int) := of_decide_eq_true (by first | (with_reducible assumption) | assumption)
        have q222 : x11_1 < (l0.length : Int) := of_decide_eq_true (by first | (with_reducible assumption) | assumption)
        obtain ⟨ad222, A222_0, c222_0, e222, hx222_0, hl222_0, hi222_0⟩ := at_L1 HR0.out x11_1 p222 q222
        cases e222
        replace hx222_0 := (HB.out.cell (World.block_lt_of_cell? w _ hx222_0)).trans hx222_0
        have HR222_0 := Aside0.mk hi222_0
        have HC222_0 := Aside0.mk hl222_0
        clear hi222_0 hl222_0
        replace p222 := eq_true p222
        replace q222 := eq_true q222
        go_wp2_with (first | ((with_reducible refine gate_callee (f := 8) rfl ?_); refine goesL_ (some 22) rfl rfl Try.func8 (by kernel_rfl) rfl #[.slice A222_0 (rd_L1 l0 x11_1).length c222_0, .int .i64 200] rfl (by (try simp only [List.map_toArray, List.map_cons, List.map_nil]); first | done | rfl | (simp only [List.length_drop, List.length_take]; rfl)) ?_; (with_reducible refine (kotatsuref01_Cut.calls k1 _ _ (rd_L1 l0 x11_1) 200 t223 _ ?side1 ?side2 A7.out).mono ?_); (case side1 => repeat (first | exact (Kd.C_below HR222_0.out HB.out) | (with_reducible refine Kd.C_alloc ?_ _) | (with_reducible refine Kd.C_drewN ?_ _) | (with_reducible refine Kd.C_drew ?_))); (case side2 => exact HC222_0.out); rintro e w10 ⟨v224, rfl, ho0, hb⟩; refine ⟨_, rfl, ?_⟩; have n0_ := Aside0.mk (Kd.N_below (by (with_reducible repeat (first | apply Kd.N_alloc | apply Kd.N_drewN | apply Kd.N_drew)); exact HO_5.out) hb); have n1_ := Aside0.mk (Kd.V_lower (Kd.V_mono (ok' := fun k_ => (w.heap.size ≤ k_) ∧ some k_ ≠ (u5 : Value).ownBlock) ho0 (fun k_ hk_ => ⟨(Nat.le_trans (below_size (by repeat (first | (with_reducible first | exact HB.out | apply below_alloc | apply pw_below_drewN | apply below_drew1) | exact HB.out))) hk_), (Kd.fresh' (Kd.N_lt (by (with_reducible repeat (first | apply Kd.N_alloc | apply Kd.N_drewN | apply Kd.N_drew)); exact HO_5.out)) k_ hk_)⟩)) (below_size (by repeat (first | (with_reducible first | exact HB.out | apply below_alloc | apply pw_below_drewN | apply below_drew1) | exact HB.out)))); have n2_ := Aside0.mk (below_step (by repeat (first | (with_reducible first | exact HB.out | apply below_alloc | apply pw_below_drewN | apply below_drew1) | exact HB.out)) hb); clear HO_5; clear HB; have HO_5 := n0_; have HO225 := n1_; have HB := n2_; clear n0_ n1_ n2_; (try clear hb); (try clear hb2); (try clear hk); (try clear hi); (try clear ho0); obtain ⟨Ao11, co11, eo11⟩ := Kd.V_slice HO225.out; subst eo11) | ((with_reducible refine gate_callee (f := 20) rfl ?_); refine goesL_ (some 23) rfl rfl Try.func20 (by kernel_rfl) rfl #[.int .u8 ((x11_1) % 256), .int .u8 0, .string (⟨#[70]⟩ : ByteArray), .int .u16 24576, .int .u8 0, .slice Ao11 t223.length co11] rfl (by (try simp only [List.map_toArray, List.map_cons, List.map_nil]); first | done | rfl | (simp only [List.length_drop, List.length_take]; rfl)) ?_; (with_reducible refine (block_File.calls ((x11_1) % 256) 0 (⟨#[70]⟩ : ByteArray) 24576 0 _ _ t223 t226 _ ?side1 ?side2 A8.out).mono ?_); (case side1 => repeat (first | exact (Kd.V_reads' HO225.out).2.2 | (with_reducible refine Kd.C_alloc ?_ _) | (with_reducible refine Kd.C_drewN ?_ _) | (with_reducible refine Kd.C_drew ?_))); (case side2 => exact (Kd.V_reads' HO225.out).2.1); rintro e w12 ⟨v227, rfl, ho0, hb⟩; refine ⟨_, rfl, ?_⟩; have n0_ := Aside0.mk (Kd.N_elder' (by (with_reducible repeat (first | apply Kd.N_alloc | apply Kd.N_drewN | apply Kd.N_drew)); exact HO_5.out) (Kd.N_base ho0) hb); have n1_ := Aside0.mk (Kd.V_elder' (by (with_reducible repeat (first | apply Kd.V_alloc | apply Kd.V_drewN | apply Kd.V_drew)); exact HO225.out) (Kd.N_base ho0) hb); have n2_ := Aside0.mk (Kd.N_lower (Kd.N_mono (ok' := fun k_ => (w.heap.size ≤ k_) ∧ some k_ ≠ (u5 : Value).ownBlock) ho0 (fun k_ hk_ => ⟨(Nat.le_trans (below_size (by repeat (first | (with_reducible first | exact HB.out | apply below_alloc | apply pw_below_drewN | apply below_drew1) | exact HB.out))) hk_), (Kd.fresh' (Kd.N_lt (by (with_reducible repeat (first | apply Kd.N_alloc | apply Kd.N_drewN | apply Kd.N_drew)); exact HO_5.out)) k_ hk_)⟩)) (below_size (by repeat (first | (with_reducible first | exact HB.out | apply below_alloc | apply pw_below_drewN | apply below_drew1) | exact HB.out)))); have n3_ := Aside0.mk (below_step (by repeat (first | (with_reducible first | exact HB.out | apply below_alloc | apply pw_below_drewN | apply below_drew1) | exact HB.out)) hb); clear HO_5; clear HO225; clear HB; have HO_5 := n0_; have HO225 := n1_; have HO228 := n2_; have HB := n3_; clear n0_ n1_ n2_ n3_; (try clear hb); (try clear hb2); (try clear hk); (try clear hi); (try clear ho0); obtain ⟨Ao14, co14, eo14⟩ := Kd.N_slice HO228.out; subst eo14) | ((with_reducible refine gate_builtin (b := .append) (xs := #[.tmp 18, .tmp 24]) rfl ?_); at_builtin; refine Kd.N_append (Kd.slice 53 k53) (w0 := w) w.heap.size rfl (.tmp 18) (.tmp 24) 60 35 (.slice none 0 0) 24 rfl Try.underlying60 info35 rfl (by decide) (by omega) u5 x5_1 t226 [.slice Ao14 t226.length co14] (fun k_ => (w.heap.size ≤ k_)) (fun k_ => ((fun k_ => (w.heap.size ≤ k_))) k_ ∧ some k_ ≠ (u5 : Value).ownBlock) rfl rfl ?aP (fun _ hk => hk) ?aF ?aO ?aB ?aS ?aL ?_; (case aP => exact (Kd.FK_slice_mk (Kd.N_reads' (Kd.N_mono (ok' := (fun k_ => ((fun k_ => (w.heap.size ≤ k_))) k_ ∧ some k_ ≠ (u5 : Value).ownBlock)) (HO228.out) (fun k_ hk => ⟨hk.1, hk.2⟩))).2.1 (Kd.N_F (Kd.N_mono (ok' := (fun k_ => ((fun k_ => (w.heap.size ≤ k_))) k_ ∧ some k_ ≠ (u5 : Value).ownBlock)) (HO228.out) (fun k_ hk => ⟨hk.1, hk.2⟩))))); (case aB => exact (by repeat (first | (with_reducible first | exact HB.out | apply below_alloc | apply pw_below_drewN | apply below_drew1) | exact HB.out))); (case aF => exact (fun k_ hk => (Nat.le_trans (below_size (by repeat (first | (with_reducible first | exact HB.out | apply below_alloc | apply pw_below_drewN | apply below_drew1) | exact HB.out))) hk))); (case aO => exact (by (with_reducible repeat (first | apply Kd.N_alloc | apply Kd.N_drewN | apply Kd.N_drew)); exact Kd.N_mono HO_5.out (fun _ hk => hk.1))); (case aS => exact (below_size (by repeat (first | (with_reducible first | exact HB.out | apply below_alloc | apply pw_below_drewN | apply below_drew1) | exact HB.out)))); (case aL => have := LMc9.out; omega); intro v230 w13 ho hb hg hat; rw [← Ny229.out] at ho; have n0_ := Aside0.mk (Kd.V_afterv (ok := (fun k_ => (w.heap.size ≤ k_) ∧ some k_ ≠ (.slice Ao14 t226.length co14 : Value).ownBlock)) (by (with_reducible repeat (first | apply Kd.V_alloc | apply Kd.V_drewN | apply Kd.V_drew)); exact Kd.V_mono HO225.out (fun _ hk => ⟨⟨hk.1.1, hk.2⟩, hk.1.2⟩)) hg hat); have n1_ := Aside0.mk (hb); have n2_ := Aside0.mk (ho); clear HO225; clear HB; clear HO_5; clear HO228; have HO225 := n0_; have HB := n1_; have HO231 := n2_; clear n0_ n1_ n2_; clear ho hb hg hat))
        go_roundg k1
        case measure => have := HK1.out; omega
        case rel => exact ⟨(y229), (wrap64 (x11_1 + 1)), (by first | rfl | (simp; done) | (simp [*]; done)), H', ⟨by have := HK1.out; omega⟩, ⟨by (with_reducible repeat (first | apply Kd.N_alloc | apply Kd.N_drewN | apply Kd.N_drew)); exact HO231.out⟩, ⟨by repeat (first | (with_reducible first | exact HB.out | apply below_alloc | apply pw_below_drewN | apply below_drew1) | exact HB.out)⟩⟩
       ·rw [if_neg c9] at H
        exact absurd H (by simp)
      ·rw [if_neg c6] at H
       have c6b0 : decide (x11_1 < 8) = false := decide_eq_false c6
       clear c6
       have H' := Aside0.mk H
       clear H
       have p222 : 0 ≤ (x11_1 : Int) := of_decide_eq_true (by first | (with_reducible assumption) | assumption)
       have q222 : x11_1 < (l0.length : Int) := of_decide_eq_true (by first | (with_reducible assumption) | assumption)
       obtain ⟨ad222, A222_0, c222_0, e222, hx222_0, hl222_0, hi222_0⟩ := at_L1 HR0.out x11_1 p222 q222
       cases e222
       replace hx222_0 := (HB.out.cell (World.block_lt_of_cell? w _ hx222_0)).trans hx222_0
       have HR222_0 := Aside0.mk hi222_0
       have HC222_0 := Aside0.mk hl222_0
       clear hi222_0 hl222_0
       replace p222 := eq_true p222
       replace q222 := eq_true q222
       go_wp2
       go_roundg k1
       case measure => have := HK1.out; omega
       case rel => exact ⟨(x5_1), (wrap64 (x11_1 + 1)), (by first | rfl | (simp; done) | (simp [*]; done)), H', ⟨by have := HK1.out; omega⟩, ⟨by (with_reducible repeat (first | apply Kd.N_alloc | apply Kd.N_drewN | apply Kd.N_drew)); exact HO_5.out⟩, ⟨by repeat (first | (with_reducible first | exact HB.out | apply below_alloc | apply pw_below_drewN | apply below_drew1) | exact HB.out)⟩⟩
     ·rw [if_neg c5] at H
      exact absurd H (by simp)
    ·rw [if_neg c4] at H
     exact absurd H (by simp)
   ·rw [if_neg c3] at H
    have c3b0 : decide (x11_1 < (l0.length : Int)) = false := decide_eq_false c3
    clear c3
    replace H := Option.bind_eq_some_iff.mp H
    obtain ⟨t216, A150, H⟩ := H
    replace H : (if 0 ≤ (mx 0 (wrap64 ((t216.length : Int) - (wrap64 (Int.tmod a1 4))))) then (if (mx 0 (wrap64 ((t216.length : Int) - (wrap64 (Int.tmod a1 4))))) ≤ (t216.length : Int) then (some (t216.take ((mx 0 (wrap64 ((t216.length : Int) - (wrap64 (Int.tmod a1 4))))) : Int).toNat)) else (none)) else (none)) = some r := H
    have A15 := Aside0.mk A150
    clear A150
    obtain ⟨ji16, hji16⟩ : ∃ j_ : Int, (mx 0 (wrap64 ((t216.length : Int) - (wrap64 (Int.tmod a1 4))))) = j_ := ⟨_, rfl⟩
    replace H : (if 0 ≤ (ji16) then (if (ji16) ≤ (t216.length : Int) then (some (t216.take ((ji16) : Int).toNat)) else (none)) else (none)) = some r := by first | (rw [hji16] at H; exact H) | (simp only [hji16] at H ⊢; exact H)
    (try rw [hji16] at A15)
    have hji16_ : (if 0 < (wrap64 ((t216.length : Int) - (wrap64 (Int.tmod a1 4)))) then (wrap64 ((t216.length : Int) - (wrap64 (Int.tmod a1 4)))) else 0) = ji16 := hji16
    by_cases c17 : 0 ≤ (ji16)
    ·rw [if_pos c17] at H
     have c17b0 := eq_true c17
     have c17b1 : decide (0 ≤ (ji16)) = true := decide_eq_true c17
     clear c17
     by_cases c18 : (ji16) ≤ (t216.length : Int)
     ·rw [if_pos c18] at H
      have c18b0 := eq_true c18
      have c18b1 : decide ((ji16) ≤ (t216.length : Int)) = true := decide_eq_true c18
      clear c18
      obtain ⟨y219, hy219⟩ : ∃ y_ : List (S53), y_ = (t216.take ((ji16) : Int).toNat) := ⟨_, rfl⟩
      replace H : (some y219) = some r := by first | (rw [hy219]; with_reducible exact H) | (have H2_ := (Option.bind_some _ _).symm.trans H; rw [hy219]; with_reducible exact H2_) | (have H2_ := (Option.bind_some _ _).symm.trans H; with_reducible exact H2_) | with_reducible exact H | (rw [hy219]; exact H) | exact H
      have Ny219 := Aside0.mk hy219
      clear hy219
      obtain rfl := Option.some.inj H
      obtain ⟨Ao19, co19, eo19⟩ := Kd.N_slice HO_5.out
      subst eo19
      go_wp2_with (first | ((with_reducible refine gate_callee (f := 19) rfl ?_); refine goesL_ (some 28) rfl rfl Try.func19 (by kernel_rfl) rfl #[.string (⟨#[75]⟩ : ByteArray), .int .u8 0, .slice Ao19 x5_1.length co19] rfl (by (try simp only [List.map_toArray, List.map_cons, List.map_nil]); first | done | rfl | (simp only [List.length_drop, List.length_take]; rfl)) ?_; (with_reducible refine (block_Disk.calls (⟨#[75]⟩ : ByteArray) 0 (fun k_ => (w.heap.size ≤ k_)) _ _ x5_1 t216 _ ?side1 A15.out).mono ?_); (case side1 => exact Kd.N_V (HO_5.out)); rintro e w20 ⟨v217, rfl, ho0, hb⟩; refine ⟨_, rfl, ?_⟩; have n0_ := Aside0.mk (Kd.N_elder' (by (with_reducible repeat (first | apply Kd.N_alloc | apply Kd.N_drewN | apply Kd.N_drew)); exact HO_5.out) (Kd.N_base ho0) hb); have n1_ := Aside0.mk (Kd.N_lower (Kd.N_mono (ok' := fun k_ => (w.heap.size ≤ k_)) ho0 (fun k_ hk_ => Or.elim hk_ (fun hs_ => hs_) (fun hn_ => (Nat.le_trans (below_size (by repeat (first | (with_reducible first | exact HB.out | apply below_alloc | apply pw_below_drewN | apply below_drew1) | exact HB.out))) hn_)))) (below_size (by repeat (first | (with_reducible first | exact HB.out | apply below_alloc | apply pw_below_drewN | apply below_drew1) | exact HB.out)))); have n2_ := Aside0.mk (below_step (by repeat (first | (with_reducible first | exact HB.out | apply below_alloc | apply pw_below_drewN | apply below_drew1) | exact HB.out)) hb); clear HO_5; clear HB; have HO_5 := n0_; have HO218 := n1_; have HB := n2_; clear n0_ n1_ n2_; (try clear hb); (try clear hb2); (try clear hk); (try clear hi); (try clear ho0); obtain ⟨Ao21, co21, eo21⟩ := Kd.N_slice HO218.out; subst eo21; have q22 : ((ji16) : Int) ≤ ((t216.length : Int) : Int) := of_decide_eq_true (by first | (with_reducible assumption) | assumption); obtain ⟨i022, hi022, _, hsz22, _⟩ := info_parts info53; have hcut22 := cut_to (P := Try.prog) 35 53 .i64 Try.underlying35 hi022 Ao21 t216.length co21 (ji16) (of_decide_eq_true (by first | (with_reducible assumption) | assumption)) q22 (Kd.N_reads' HO218.out).2.1; have hr22 := Kd.N_take (m := ((ji16) : Int).toNat) HO218.out (by omega); have hy22 : y219.length = ((ji16) : Int).toNat := (by rw [Ny219.out, List.length_take]; omega); rw [← Ny219.out] at hr22; rw [← hy22] at hr22 hcut22; clear hy22 hi022 hsz22 HO218; have HO221 := Aside0.mk hr22; clear hr22; replace q22 := eq_true q22))
      go_ret
      exact ⟨_, by first | rfl | (simp [errW_none, errW_some] <;> rfl) | (simp only [← hji16]; first | rfl | (simp [errW_none, errW_some] <;> rfl)) | (simp [*, errW_none, errW_some] <;> rfl), by (with_reducible repeat (first | apply Kd.N_alloc | apply Kd.N_drewN | apply Kd.N_drew)); exact HO221.out, by repeat (first | (with_reducible first | exact HB.out | apply below_alloc | apply pw_below_drewN | apply below_drew1) | exact HB.out)⟩
     ·rw [if_neg c18] at H
      exact absurd H (by simp)
    ·rw [if_neg c17] at H
     exact absurd H (by simp)

/-! ### block_Want: function 39 -/
def block_Want.f (k : Nat) (l0 : List (S53)) : Option (Int × Int) := (block_Right.f k l0).bind fun t232 => (if t232 = true then (if (l0.length : Int) > 0 then (if 0 ≤ (wrap64 ((l0.length : Int) - 1)) then (if (wrap64 ((l0.length : Int) - 1)) < (l0.length : Int) then ((block_expects.f (l0.length : Int) ((rd_T53 l0 (wrap64 ((l0.length : Int) - 1))).f1)).bind fun bt234 => (some (bt234.1, bt234.2))) else (none)) else (none)) else ((block_expects.f (l0.length : Int) ([] : List Int)).bind fun bt236 => (some (bt236.1, bt236.2)))) else (some (0, 0)))
set_option maxHeartbeats 8000000 in
set_option maxRecDepth 100000 in
theorem block_Want.calls (k : Nat) (A0 : Option Addr) (c0 : Nat) (l0 : List (S53)) (r1 : Int) (r2 : Int) (w : World) (hr0 : Kd.C k53 w A0 l0.length l0) (hc0 : l0.length ≤ c0) (h : block_Want.f k l0 = some (r1, r2)) :
  Calls Try.prog 39 #[.slice A0 l0.length c0] w fun e w' => e = .returned (.tuple #[.int .u8 r1, .int .i64 r2]) ∧ Below w.heap.size w w' := by
 have HR0 := Aside0.mk hr0
 have HC0 := Aside0.mk hc0
 clear hr0 hc0
 have HB := Aside0.mk (Below.refl w.heap.size w)
 have H : ((block_Right.f k l0).bind fun t232 => (if t232 = true then (if (l0.length : Int) > 0 then (if 0 ≤ (wrap64 ((l0.length : Int) - 1)) then (if (wrap64 ((l0.length : Int) - 1)) < (l0.length : Int) then ((block_expects.f (l0.length : Int) ((rd_T53 l0 (wrap64 ((l0.length : Int) - 1))).f1)).bind fun bt234 => (some (bt234.1, bt234.2))) else (none)) else (none)) else ((block_expects.f (l0.length : Int) ([] : List Int)).bind fun bt236 => (some (bt236.1, bt236.2)))) else (some (0, 0)))) = some (r1, r2) := h
 clear h
 replace H := Option.bind_eq_some_iff.mp H
 obtain ⟨t232, A20, H⟩ := H
 replace H : (if t232 = true then (if (l0.length : Int) > 0 then (if 0 ≤ (wrap64 ((l0.length : Int) - 1)) then (if (wrap64 ((l0.length : Int) - 1)) < (l0.length : Int) then ((block_expects.f (l0.length : Int) ((rd_T53 l0 (wrap64 ((l0.length : Int) - 1))).f1)).bind fun bt234 => (some (bt234.1, bt234.2))) else (none)) else (none)) else ((block_expects.f (l0.length : Int) ([] : List Int)).bind fun bt236 => (some (bt236.1, bt236.2)))) else (some (0, 0))) = some (r1, r2) := H
 have A2 := Aside0.mk A20
 clear A20
 by_cases c3 : t232 = true
 ·subst c3
  have H1 : (if (l0.length : Int) > 0 then (if 0 ≤ (wrap64 ((l0.length : Int) - 1)) then (if (wrap64 ((l0.length : Int) - 1)) < (l0.length : Int) then ((block_expects.f (l0.length : Int) ((rd_T53 l0 (wrap64 ((l0.length : Int) - 1))).f1)).bind fun bt234 => (some (bt234.1, bt234.2))) else (none)) else (none)) else ((block_expects.f (l0.length : Int) ([] : List Int)).bind fun bt236 => (some (bt236.1, bt236.2)))) = some (r1, r2) := by rw [if_pos rfl] at H; exact H
  clear H
  have H := H1
  clear H1
  by_cases c4 : (l0.length : Int) > 0
  ·rw [if_pos c4] at H
   have c4b0 : decide (0 < (l0.length : Int)) = true := decide_eq_true c4
   have c4b1 : decide (0 < l0.length) = true := decide_eq_true (by omega)
   clear c4
   obtain ⟨ji5, hji5⟩ : ∃ j_ : Int, (wrap64 ((l0.length : Int) - 1)) = j_ := ⟨_, rfl⟩
   replace H : (if 0 ≤ (ji5) then (if (ji5) < (l0.length : Int) then ((block_expects.f (l0.length : Int) ((rd_T53 l0 (ji5)).f1)).bind fun bt234 => (some (bt234.1, bt234.2))) else (none)) else (none)) = some (r1, r2) := by first | (rw [hji5] at H; exact H) | (simp only [hji5] at H ⊢; exact H)
   (try rw [hji5] at A2)
   have hji5w : (IntKind.i64.wrap ((l0.length : Int) - 1)) = ji5 := (i64_w _).trans hji5
   by_cases c6 : 0 ≤ (ji5)
   ·rw [if_pos c6] at H
    have c6b0 : decide (0 ≤ (ji5)) = true := decide_eq_true c6
    clear c6
    by_cases c7 : (ji5) < (l0.length : Int)
    ·rw [if_pos c7] at H
     have c7b0 : decide ((ji5) < (l0.length : Int)) = true := decide_eq_true c7
     clear c7
     replace H := Option.bind_eq_some_iff.mp H
     obtain ⟨⟨t234, t235⟩, A80, H⟩ := H
     replace H : (some (t234, t235)) = some (r1, r2) := H
     have A8 := Aside0.mk A80
     clear A80
     simp only [Option.some.injEq, Prod.mk.injEq] at H
     obtain ⟨rfl, rfl⟩ := H
     go_enter Try.func39, Try.ntmps39
     go_wp2_with (first | ((with_reducible refine gate_callee (f := 33) rfl ?_); refine goesL_ (some 6) rfl rfl Try.func33 (by kernel_rfl) rfl #[.slice A0 l0.length c0] rfl (by (try simp only [List.map_toArray, List.map_cons, List.map_nil]); first | done | rfl | (simp only [List.length_drop, List.length_take]; rfl)) ?_; (with_reducible refine (block_Right.calls k (fun k_ => k_ < w.heap.size) _ _ l0 true _ ?side1 A2.out).mono ?_); (case side1 => exact Kd.V_mk HC0.out (Kd.F_below (Kd.C_F k53_heap HR0.out) (by repeat (first | (with_reducible first | exact HB.out | apply below_alloc | apply pw_below_drewN | apply below_drew1) | exact HB.out)))); rintro e w9 ⟨rfl, hb⟩; refine ⟨_, rfl, ?_⟩; have n0_ := Aside0.mk (below_step (by repeat (first | (with_reducible first | exact HB.out | apply below_alloc | apply pw_below_drewN | apply below_drew1) | exact HB.out)) hb); clear HB; have HB := n0_; clear n0_; (try clear hb); (try clear hb2); (try clear hk); (try clear hi); have p233 : 0 ≤ ((ji5) : Int) := of_decide_eq_true (by first | (with_reducible assumption) | assumption); have q233 : (ji5) < (l0.length : Int) := of_decide_eq_true (by first | (with_reducible assumption) | assumption); obtain ⟨ad233, A233_1, c233_1, e233, hx233_0, hx233_1, hl233_1, hi233_1⟩ := at_T53 HR0.out (ji5) p233 q233; cases e233; replace hx233_0 := (HB.out.cell (World.block_lt_of_cell? w _ hx233_0)).trans hx233_0; replace hx233_1 := (HB.out.cell (World.block_lt_of_cell? w _ hx233_1)).trans hx233_1; have HR233_1 := Aside0.mk hi233_1; have HC233_1 := Aside0.mk hl233_1; clear hi233_1 hl233_1; replace p233 := eq_true p233; replace q233 := eq_true q233) | ((with_reducible refine gate_callee (f := 41) rfl ?_); refine goesL_ (some 21) rfl rfl Try.func41 (by kernel_rfl) rfl #[.int .i64 (l0.length : Int), .slice A233_1 ((rd_T53 l0 (ji5)).f1).length c233_1] rfl (by (try simp only [List.map_toArray, List.map_cons, List.map_nil]); first | done | (simp only [hji5]; rfl) | rfl | (simp only [List.length_drop, List.length_take]; rfl)) ?_; (with_reducible refine (block_expects.calls (l0.length : Int) _ _ ((rd_T53 l0 (ji5)).f1) t234 t235 _ ?side1 ?side2 A8.out).mono ?_); (case side1 => repeat (first | exact (Kd.C_below HR233_1.out HB.out) | (with_reducible refine Kd.C_alloc ?_ _) | (with_reducible refine Kd.C_drewN ?_ _) | (with_reducible refine Kd.C_drew ?_))); (case side2 => exact HC233_1.out); rintro e w' ⟨rfl, ⟨nd, rfl⟩⟩; refine ⟨_, rfl, ?_⟩))
     go_ret2
     exact ⟨by first | rfl | (simp [errW_none, errW_some] <;> rfl) | (simp only [← hji5]; first | rfl | (simp [errW_none, errW_some] <;> rfl)) | (simp [*, errW_none, errW_some] <;> rfl), by repeat (first | (with_reducible first | exact HB.out | apply below_alloc | apply pw_below_drewN | apply below_drew1) | exact HB.out)⟩
    ·rw [if_neg c7] at H
     exact absurd H (by simp)
   ·rw [if_neg c6] at H
    exact absurd H (by simp)
  ·rw [if_neg c4] at H
   have c4b0 : decide (0 < (l0.length : Int)) = false := decide_eq_false c4
   have c4b1 : decide (0 < l0.length) = false := decide_eq_false (by omega)
   clear c4
   replace H := Option.bind_eq_some_iff.mp H
   obtain ⟨⟨t236, t237⟩, A100, H⟩ := H
   replace H : (some (t236, t237)) = some (r1, r2) := H
   have A10 := Aside0.mk A100
   clear A100
   simp only [Option.some.injEq, Prod.mk.injEq] at H
   obtain ⟨rfl, rfl⟩ := H
   go_enter Try.func39, Try.ntmps39
   go_wp2_with (first | ((with_reducible refine gate_callee (f := 33) rfl ?_); refine goesL_ (some 6) rfl rfl Try.func33 (by kernel_rfl) rfl #[.slice A0 l0.length c0] rfl (by (try simp only [List.map_toArray, List.map_cons, List.map_nil]); first | done | rfl | (simp only [List.length_drop, List.length_take]; rfl)) ?_; (with_reducible refine (block_Right.calls k (fun k_ => k_ < w.heap.size) _ _ l0 true _ ?side1 A2.out).mono ?_); (case side1 => exact Kd.V_mk HC0.out (Kd.F_below (Kd.C_F k53_heap HR0.out) (by repeat (first | (with_reducible first | exact HB.out | apply below_alloc | apply pw_below_drewN | apply below_drew1) | exact HB.out)))); rintro e w11 ⟨rfl, hb⟩; refine ⟨_, rfl, ?_⟩; have n0_ := Aside0.mk (below_step (by repeat (first | (with_reducible first | exact HB.out | apply below_alloc | apply pw_below_drewN | apply below_drew1) | exact HB.out)) hb); clear HB; have HB := n0_; clear n0_; (try clear hb); (try clear hb2); (try clear hk); (try clear hi)) | ((with_reducible refine gate_callee (f := 41) rfl ?_); refine goesL_ (some 21) rfl rfl Try.func41 (by kernel_rfl) rfl #[.int .i64 (l0.length : Int), .slice none 0 0] rfl (by (try simp only [List.map_toArray, List.map_cons, List.map_nil]); first | done | rfl | (simp only [List.length_drop, List.length_take]; rfl)) ?_; (refine (block_expects.calls (l0.length : Int) _ _ ([] : List Int) t236 t237 _ ?side1 ?side2 A10.out).mono ?_); (case side1 => exact Kd.C_nil _ _); (case side2 => exact Nat.le_refl _); rintro e w' ⟨rfl, ⟨nd, rfl⟩⟩; refine ⟨_, rfl, ?_⟩))
   go_ret2
   exact ⟨by first | rfl | (simp [errW_none, errW_some] <;> rfl) | (simp [*, errW_none, errW_some] <;> rfl), by repeat (first | (with_reducible first | exact HB.out | apply below_alloc | apply pw_below_drewN | apply below_drew1) | exact HB.out)⟩
 ·replace c3 := Bool.eq_false_iff.mpr c3
  subst c3
  have H1 : (some (0, 0)) = some (r1, r2) := by rw [if_neg (show ¬ (false = true) by decide)] at H; exact H
  clear H
  have H := H1
  clear H1
  simp only [Option.some.injEq, Prod.mk.injEq] at H
  obtain ⟨rfl, rfl⟩ := H
  go_enter Try.func39, Try.ntmps39
  go_wp2_with (first | ((with_reducible refine gate_callee (f := 33) rfl ?_); refine goesL_ (some 6) rfl rfl Try.func33 (by kernel_rfl) rfl #[.slice A0 l0.length c0] rfl (by (try simp only [List.map_toArray, List.map_cons, List.map_nil]); first | done | rfl | (simp only [List.length_drop, List.length_take]; rfl)) ?_; (with_reducible refine (block_Right.calls k (fun k_ => k_ < w.heap.size) _ _ l0 false _ ?side1 A2.out).mono ?_); (case side1 => exact Kd.V_mk HC0.out (Kd.F_below (Kd.C_F k53_heap HR0.out) (by repeat (first | (with_reducible first | exact HB.out | apply below_alloc | apply pw_below_drewN | apply below_drew1) | exact HB.out)))); rintro e w12 ⟨rfl, hb⟩; refine ⟨_, rfl, ?_⟩; have n0_ := Aside0.mk (below_step (by repeat (first | (with_reducible first | exact HB.out | apply below_alloc | apply pw_below_drewN | apply below_drew1) | exact HB.out)) hb); clear HB; have HB := n0_; clear n0_; (try clear hb); (try clear hb2); (try clear hk); (try clear hi)))
  go_ret2
  exact ⟨by first | rfl | (simp [errW_none, errW_some] <;> rfl) | (simp [*, errW_none, errW_some] <;> rfl), by repeat (first | (with_reducible first | exact HB.out | apply below_alloc | apply pw_below_drewN | apply below_drew1) | exact HB.out)⟩

/-! ### groove_one: function 27 -/
def groove_one.j0 : Nat → List Int → Int → Int → Int → Bool → Option (Int × List Int × Int × Int)
 | 0, _, _, _, _, _ => none
 | k + 1, x0, x1, x9, x11, x21 => if x21 = true then (some (0, ([] : List Int), 0, 2)) else (if 0 ≤ x1 then (if x1 ≤ x11 then (if x11 ≤ (x0.length : Int) then ((seal_Short.f k ((x0.take (x11 : Int).toNat).drop (x1 : Int).toNat)).bind fun t244 => (if 0 ≤ x11 then (if x11 < (x0.length : Int) then (if 0 ≤ (wrap64 (x11 + 1)) then (if (wrap64 (x11 + 1)) < (x0.length : Int) then (if t244 = (Go.bits .or .u16 (IntKind.u16.wrap (rd x0 x11)) (IntKind.u16.wrap ((IntKind.u16.wrap (rd x0 (wrap64 (x11 + 1)))) * 256))) then (if 0 ≤ (wrap64 (x1 + 2)) then (if (wrap64 (x1 + 2)) ≤ x11 then ((bytes_Clone.f ((x0.take (x11 : Int).toNat).drop ((wrap64 (x1 + 2)) : Int).toNat)).bind fun t248 => (some (x9, t248, wrap64 (x11 + 2), 0))) else (none)) else (none)) else (some (0, ([] : List Int), 0, 3))) else (none)) else (none)) else (none)) else (none))) else (none)) else (none)) else (none))
def groove_one.f (k : Nat) (l0 : List Int) (a1 : Int) (l2 : List (S53)) : Option (Int × List Int × Int × Int) := (block_Want.f k l2).bind fun bt239 => (if 0 ≤ a1 then (if a1 < (l0.length : Int) then (if (rd l0 a1) = 128 then (if (wrap64 ((wrap64 ((wrap64 (a1 + 2)) + bt239.2)) + 2)) > (l0.length : Int) then (groove_one.j0 k l0 a1 bt239.1 (wrap64 ((wrap64 (a1 + 2)) + bt239.2)) true) else (if 0 ≤ (wrap64 (a1 + 1)) then (if (wrap64 (a1 + 1)) < (l0.length : Int) then (groove_one.j0 k l0 a1 bt239.1 (wrap64 ((wrap64 (a1 + 2)) + bt239.2)) ((rd l0 (wrap64 (a1 + 1))) != bt239.1)) else (none)) else (none))) else (groove_one.j0 k l0 a1 bt239.1 (wrap64 ((wrap64 (a1 + 2)) + bt239.2)) true)) else (none)) else (none))
set_option maxHeartbeats 8000000 in
set_option maxRecDepth 100000 in
theorem groove_one.calls (k : Nat) (A0 : Option Addr) (c0 : Nat) (l0 : List Int) (a1 : Int) (A2 : Option Addr) (c2 : Nat) (l2 : List (S53)) (r1 : Int) (r2 : List Int) (r3 : Int) (r4 : Int) (w : World) (hr0 : Kd.C (Kd.int .u8) w A0 l0.length l0) (hc0 : l0.length ≤ c0) (hr2 : Kd.C k53 w A2 l2.length l2) (hc2 : l2.length ≤ c2) (h : groove_one.f k l0 a1 l2 = some (r1, r2, r3, r4)) :
  Calls Try.prog 27 #[.slice A0 l0.length c0, .int .i64 a1, .slice A2 l2.length c2] w fun e w' => ∃ v1_ : Value, e = .returned (.tuple #[.agg #[.int .u8 r1, v1_], .int .i64 r3, .int .i64 r4]) ∧ Kd.V (Kd.int .u8) 5 w' w.heap.size (fun k_ => (w.heap.size ≤ k_)) v1_ r2 ∧ Below w.heap.size w w' := by
 have hu53 := Try.underlying53
 have HR0 := Aside0.mk hr0
 have HC0 := Aside0.mk hc0
 clear hr0 hc0
 have HR2 := Aside0.mk hr2
 have HC2 := Aside0.mk hc2
 clear hr2 hc2
 have HB := Aside0.mk (Below.refl w.heap.size w)
 have H : ((block_Want.f k l2).bind fun bt239 => (if 0 ≤ a1 then (if a1 < (l0.length : Int) then (if (rd l0 a1) = 128 then (if (wrap64 ((wrap64 ((wrap64 (a1 + 2)) + bt239.2)) + 2)) > (l0.length : Int) then (groove_one.j0 k l0 a1 bt239.1 (wrap64 ((wrap64 (a1 + 2)) + bt239.2)) true) else (if 0 ≤ (wrap64 (a1 + 1)) then (if (wrap64 (a1 + 1)) < (l0.length : Int) then (groove_one.j0 k l0 a1 bt239.1 (wrap64 ((wrap64 (a1 + 2)) + bt239.2)) ((rd l0 (wrap64 (a1 + 1))) != bt239.1)) else (none)) else (none))) else (groove_one.j0 k l0 a1 bt239.1 (wrap64 ((wrap64 (a1 + 2)) + bt239.2)) true)) else (none)) else (none))) = some (r1, r2, r3, r4) := h
 clear h
 replace H := Option.bind_eq_some_iff.mp H
 obtain ⟨⟨t239, t240⟩, A40, H⟩ := H
 replace H : (if 0 ≤ a1 then (if a1 < (l0.length : Int) then (if (rd l0 a1) = 128 then (if (wrap64 ((wrap64 ((wrap64 (a1 + 2)) + t240)) + 2)) > (l0.length : Int) then (groove_one.j0 k l0 a1 t239 (wrap64 ((wrap64 (a1 + 2)) + t240)) true) else (if 0 ≤ (wrap64 (a1 + 1)) then (if (wrap64 (a1 + 1)) < (l0.length : Int) then (groove_one.j0 k l0 a1 t239 (wrap64 ((wrap64 (a1 + 2)) + t240)) ((rd l0 (wrap64 (a1 + 1))) != t239)) else (none)) else (none))) else (groove_one.j0 k l0 a1 t239 (wrap64 ((wrap64 (a1 + 2)) + t240)) true)) else (none)) else (none)) = some (r1, r2, r3, r4) := H
 have A4 := Aside0.mk A40
 clear A40
 have HC5 := Aside0.mk H
 clear H
 go_enter Try.func27, Try.ntmps27
 go_upto_region 3 with (first | ((with_reducible refine gate_dst (N := 6) rfl ?_); (try (refine gate_guard (by rfl) ?_; dsimp only)); refine box_event ?hg (N := 6) ?hd (cs := #[.int .u8 0, .slice none 0 0]) (t := 53) ?hr ?_; (case hd => rfl); (case hg => rfl); (case hr => first | (go_simp; done) | (go_simp; rfl)); intro gb238 hg w6 hbox hb; have n0_ := Aside0.mk (below_step (by repeat (first | (with_reducible first | exact HB.out | apply below_alloc | apply pw_below_drewN | apply below_drew1) | exact HB.out)) hb); have n1_ := Aside0.mk (hbox); have n2_ := Aside0.mk ((by rw [hg]; exact (below_size (by repeat (first | (with_reducible first | exact HB.out | apply below_alloc | apply pw_below_drewN | apply below_drew1) | exact HB.out))) : w.heap.size ≤ gb238)); have n3_ := Aside0.mk ((by rw [hg]; exact (below_size (by repeat (first | (with_reducible first | exact HB.out | apply below_alloc | apply pw_below_drewN | apply below_drew1) | exact HB.out))) : w.heap.size ≤ gb238)); clear HB; have HB := n0_; have BK238 := n1_; have GW238 := n2_; have GE238 := n3_; clear n0_ n1_ n2_ n3_; clear hb hbox hg) | (go_at_call 39; (with_reducible refine (block_Want.calls k _ _ l2 t239 t240 _ ?side1 ?side2 A4.out).mono ?_); (case side1 => repeat (first | exact (Kd.C_below HR2.out HB.out) | (with_reducible refine Kd.C_alloc ?_ _) | (with_reducible refine Kd.C_drewN ?_ _) | (with_reducible refine Kd.C_drew ?_))); (case side2 => exact HC2.out); rintro e w7 ⟨rfl, hb⟩; have n0_ := Aside0.mk (blk_below (g := gb238) (o := .cells #[.int .u8 0, .slice none 0 0] 53 (0, 0)) (by (with_reducible repeat (first | refine blk_drewN ?_ _ | refine blk_drew ?_ | refine blk_alloc ?_ _)); exact BK238.out) hb); have n1_ := Aside0.mk (below_step (by repeat (first | (with_reducible first | exact HB.out | apply below_alloc | apply pw_below_drewN | apply below_drew1 | refine below_set ?_ GE238.out) | exact HB.out)) hb); clear BK238; clear HB; have BK238 := n0_; have HB := n1_; clear n0_ n1_; (try clear hb); (try clear hb2); (try clear hk); (try clear hi)))
 repeat (go_quiet (first | ((with_reducible refine gate_dst (N := 6) rfl ?_); (try (refine gate_guard (by rfl) ?_; dsimp only)); refine box_event ?hg (N := 6) ?hd (cs := #[.int .u8 0, .slice none 0 0]) (t := 53) ?hr ?_; (case hd => rfl); (case hg => rfl); (case hr => first | (go_simp; done) | (go_simp; rfl)); intro gb238 hg w6 hbox hb; have n0_ := Aside0.mk (below_step (by repeat (first | (with_reducible first | exact HB.out | apply below_alloc | apply pw_below_drewN | apply below_drew1) | exact HB.out)) hb); have n1_ := Aside0.mk (hbox); have n2_ := Aside0.mk ((by rw [hg]; exact (below_size (by repeat (first | (with_reducible first | exact HB.out | apply below_alloc | apply pw_below_drewN | apply below_drew1) | exact HB.out))) : w.heap.size ≤ gb238)); have n3_ := Aside0.mk ((by rw [hg]; exact (below_size (by repeat (first | (with_reducible first | exact HB.out | apply below_alloc | apply pw_below_drewN | apply below_drew1) | exact HB.out))) : w.heap.size ≤ gb238)); clear HB; have HB := n0_; have BK238 := n1_; have GW238 := n2_; have GE238 := n3_; clear n0_ n1_ n2_ n3_; clear hb hbox hg) | (go_at_call 39; (with_reducible refine (block_Want.calls k _ _ l2 t239 t240 _ ?side1 ?side2 A4.out).mono ?_); (case side1 => repeat (first | exact (Kd.C_below HR2.out HB.out) | (with_reducible refine Kd.C_alloc ?_ _) | (with_reducible refine Kd.C_drewN ?_ _) | (with_reducible refine Kd.C_drew ?_))); (case side2 => exact HC2.out); rintro e w7 ⟨rfl, hb⟩; have n0_ := Aside0.mk (blk_below (g := gb238) (o := .cells #[.int .u8 0, .slice none 0 0] 53 (0, 0)) (by (with_reducible repeat (first | refine blk_drewN ?_ _ | refine blk_drew ?_ | refine blk_alloc ?_ _)); exact BK238.out) hb); have n1_ := Aside0.mk (below_step (by repeat (first | (with_reducible first | exact HB.out | apply below_alloc | apply pw_below_drewN | apply below_drew1 | refine below_set ?_ GE238.out) | exact HB.out)) hb); clear BK238; clear HB; have BK238 := n0_; have HB := n1_; clear n0_ n1_; (try clear hb); (try clear hb2); (try clear hk); (try clear hi))); go_upto_region 3 with (first | ((with_reducible refine gate_dst (N := 6) rfl ?_); (try (refine gate_guard (by rfl) ?_; dsimp only)); refine box_event ?hg (N := 6) ?hd (cs := #[.int .u8 0, .slice none 0 0]) (t := 53) ?hr ?_; (case hd => rfl); (case hg => rfl); (case hr => first | (go_simp; done) | (go_simp; rfl)); intro gb238 hg w6 hbox hb; have n0_ := Aside0.mk (below_step (by repeat (first | (with_reducible first | exact HB.out | apply below_alloc | apply pw_below_drewN | apply below_drew1) | exact HB.out)) hb); have n1_ := Aside0.mk (hbox); have n2_ := Aside0.mk ((by rw [hg]; exact (below_size (by repeat (first | (with_reducible first | exact HB.out | apply below_alloc | apply pw_below_drewN | apply below_drew1) | exact HB.out))) : w.heap.size ≤ gb238)); have n3_ := Aside0.mk ((by rw [hg]; exact (below_size (by repeat (first | (with_reducible first | exact HB.out | apply below_alloc | apply pw_below_drewN | apply below_drew1) | exact HB.out))) : w.heap.size ≤ gb238)); clear HB; have HB := n0_; have BK238 := n1_; have GW238 := n2_; have GE238 := n3_; clear n0_ n1_ n2_ n3_; clear hb hbox hg) | (go_at_call 39; (with_reducible refine (block_Want.calls k _ _ l2 t239 t240 _ ?side1 ?side2 A4.out).mono ?_); (case side1 => repeat (first | exact (Kd.C_below HR2.out HB.out) | (with_reducible refine Kd.C_alloc ?_ _) | (with_reducible refine Kd.C_drewN ?_ _) | (with_reducible refine Kd.C_drew ?_))); (case side2 => exact HC2.out); rintro e w7 ⟨rfl, hb⟩; have n0_ := Aside0.mk (blk_below (g := gb238) (o := .cells #[.int .u8 0, .slice none 0 0] 53 (0, 0)) (by (with_reducible repeat (first | refine blk_drewN ?_ _ | refine blk_drew ?_ | refine blk_alloc ?_ _)); exact BK238.out) hb); have n1_ := Aside0.mk (below_step (by repeat (first | (with_reducible first | exact HB.out | apply below_alloc | apply pw_below_drewN | apply below_drew1 | refine below_set ?_ GE238.out) | exact HB.out)) hb); clear BK238; clear HB; have BK238 := n0_; have HB := n1_; clear n0_ n1_; (try clear hb); (try clear hb2); (try clear hk); (try clear hi))))
 (try simp only [Act.put, List.setIfInBounds_toArray, List.set_cons_zero, List.set_cons_succ])
 go_cut [21] (fun v21 wc => ∃ (kq : Nat) (x21_4 : Bool), v21 = .bool x21_4 ∧ Aside0 (groove_one.j0 kq l0 a1 t239 (wrap64 ((wrap64 (a1 + 2)) + t240)) x21_4 = some (r1, r2, r3, r4)) ∧ Aside0 (kq ≤ k) ∧ Aside0 (wc.heap[gb238]? = some (.cells #[.int .u8 0, (.slice none 0 0)] 53 (0, 0))) ∧ Aside0 (Below w.heap.size w wc))
 case first =>
  have H := HC5.out
  clear HC5
  by_cases c8 : 0 ≤ a1
  ·rw [if_pos c8] at H
   have c8b0 : decide (0 ≤ a1) = true := decide_eq_true c8
   clear c8
   (first | rw [c8b0] | (simp only [i64_w, i32_w]; rw [c8b0]) | skip)
   by_cases c9 : a1 < (l0.length : Int)
   ·rw [if_pos c9] at H
    have c9b0 : decide (a1 < (l0.length : Int)) = true := decide_eq_true c9
    clear c9
    by_cases c10 : (rd l0 a1) = 128
    ·rw [if_pos c10] at H
     have c10b0 : ((rd l0 a1) == 128) = true := beq_iff_eq.mpr c10
     have c10b1 : ((rd l0 a1) != 128) = false := bne_eq_false_iff_eq.mpr c10
     clear c10
     by_cases c11 : (wrap64 ((wrap64 ((wrap64 (a1 + 2)) + t240)) + 2)) > (l0.length : Int)
     ·rw [if_pos c11] at H
      have c11b0 : decide ((l0.length : Int) < (wrap64 ((wrap64 ((wrap64 (a1 + 2)) + t240)) + 2))) = true := decide_eq_true c11
      clear c11
      have H' := Aside0.mk H
      clear H
      have p241 : 0 ≤ (a1 : Int) := of_decide_eq_true (by first | (with_reducible assumption) | assumption)
      have q241 : a1 < (l0.length : Int) := of_decide_eq_true (by first | (with_reducible assumption) | assumption)
      obtain ⟨ad241, e241, hx241_0⟩ := Kd.at_int HR0.out a1 p241 q241
      cases e241
      replace hx241_0 := (HB.out.cell (World.block_lt_of_cell? w _ hx241_0)).trans hx241_0
      replace p241 := eq_true p241
      replace q241 := eq_true q241
      go_wp2
      repeat (go_quiet (fail); try go_wp2)
      go_meet
      case rel => exact ⟨_, (true), (by first | rfl | (simp; done) | (simp [*]; done)), H', ⟨by first | omega | exact Nat.le_refl _⟩, ⟨by (with_reducible repeat (first | refine blk_drewN ?_ _ | refine blk_drew ?_ | refine blk_alloc ?_ _)); exact BK238.out⟩, ⟨by repeat (first | (with_reducible first | exact HB.out | apply below_alloc | apply pw_below_drewN | apply below_drew1 | refine below_set ?_ GE238.out) | exact HB.out)⟩⟩
     ·rw [if_neg c11] at H
      have c11b0 : decide ((l0.length : Int) < (wrap64 ((wrap64 ((wrap64 (a1 + 2)) + t240)) + 2))) = false := decide_eq_false c11
      clear c11
      obtain ⟨ji12, hji12⟩ : ∃ j_ : Int, (wrap64 (a1 + 1)) = j_ := ⟨_, rfl⟩
      replace H : (if 0 ≤ (ji12) then (if (ji12) < (l0.length : Int) then (groove_one.j0 k l0 a1 t239 (wrap64 ((wrap64 (a1 + 2)) + t240)) ((rd l0 (ji12)) != t239)) else (none)) else (none)) = some (r1, r2, r3, r4) := by first | (rw [hji12] at H; exact H) | (simp only [hji12] at H ⊢; exact H)
      have hji12w : (IntKind.i64.wrap (a1 + 1)) = ji12 := (i64_w _).trans hji12
      by_cases c13 : 0 ≤ (ji12)
      ·rw [if_pos c13] at H
       have c13b0 : decide (0 ≤ (ji12)) = true := decide_eq_true c13
       clear c13
       by_cases c14 : (ji12) < (l0.length : Int)
       ·rw [if_pos c14] at H
        have c14b0 : decide ((ji12) < (l0.length : Int)) = true := decide_eq_true c14
        clear c14
        have H' := Aside0.mk H
        clear H
        have p241 : 0 ≤ (a1 : Int) := of_decide_eq_true (by first | (with_reducible assumption) | assumption)
        have q241 : a1 < (l0.length : Int) := of_decide_eq_true (by first | (with_reducible assumption) | assumption)
        obtain ⟨ad241, e241, hx241_0⟩ := Kd.at_int HR0.out a1 p241 q241
        cases e241
        replace hx241_0 := (HB.out.cell (World.block_lt_of_cell? w _ hx241_0)).trans hx241_0
        replace p241 := eq_true p241
        replace q241 := eq_true q241
        have p242 : 0 ≤ ((ji12) : Int) := of_decide_eq_true (by first | (with_reducible assumption) | assumption)
        have q242 : (ji12) < (l0.length : Int) := of_decide_eq_true (by first | (with_reducible assumption) | assumption)
        obtain ⟨ad242, e242, hx242_0⟩ := Kd.at_int HR0.out (ji12) p242 q242
        obtain rfl : ad241 = ad242 := (by injection e242)
        replace hx242_0 := (HB.out.cell (World.block_lt_of_cell? w _ hx242_0)).trans hx242_0
        replace p242 := eq_true p242
        replace q242 := eq_true q242
        go_wp2
        try rw [hji12]
        repeat (go_quiet (fail); try go_wp2)
        go_meet
        case rel => exact ⟨_, (((rd l0 (ji12)) != t239)), (by first | rfl | (simp; done) | (simp only [← hji12] <;> (first | rfl | simp)) | (simp [*]; done)), H', ⟨by first | omega | exact Nat.le_refl _⟩, ⟨by (with_reducible repeat (first | refine blk_drewN ?_ _ | refine blk_drew ?_ | refine blk_alloc ?_ _)); exact BK238.out⟩, ⟨by repeat (first | (with_reducible first | exact HB.out | apply below_alloc | apply pw_below_drewN | apply below_drew1 | refine below_set ?_ GE238.out) | exact HB.out)⟩⟩
       ·rw [if_neg c14] at H
        exact absurd H (by simp)
      ·rw [if_neg c13] at H
       exact absurd H (by simp)
    ·rw [if_neg c10] at H
     have c10b0 : ((rd l0 a1) == 128) = false := beq_eq_false_iff_ne.mpr c10
     have c10b1 : ((rd l0 a1) != 128) = true := bne_iff_ne.mpr c10
     have H' := Aside0.mk H
     clear H
     have p241 : 0 ≤ (a1 : Int) := of_decide_eq_true (by first | (with_reducible assumption) | assumption)
     have q241 : a1 < (l0.length : Int) := of_decide_eq_true (by first | (with_reducible assumption) | assumption)
     obtain ⟨ad241, e241, hx241_0⟩ := Kd.at_int HR0.out a1 p241 q241
     cases e241
     replace hx241_0 := (HB.out.cell (World.block_lt_of_cell? w _ hx241_0)).trans hx241_0
     replace p241 := eq_true p241
     replace q241 := eq_true q241
     go_wp2
     repeat (go_quiet (fail); try go_wp2)
     go_meet
     case rel => exact ⟨_, (true), (by first | rfl | (simp; done) | (simp [*]; done)), H', ⟨by first | omega | exact Nat.le_refl _⟩, ⟨by (with_reducible repeat (first | refine blk_drewN ?_ _ | refine blk_drew ?_ | refine blk_alloc ?_ _)); exact BK238.out⟩, ⟨by repeat (first | (with_reducible first | exact HB.out | apply below_alloc | apply pw_below_drewN | apply below_drew1 | refine below_set ?_ GE238.out) | exact HB.out)⟩⟩
   ·rw [if_neg c9] at H
    exact absurd H (by simp)
  ·rw [if_neg c8] at H
   exact absurd H (by simp)
 case rest =>
  clear HC5
  try clear c1
  try clear c2
  try clear p2
  try clear q2
  try clear hx2
  try clear p6
  try clear c8
  try clear c8b0
  try clear c9
  try clear c9b0
  try clear c10
  try clear c10b0
  try clear c10b1
  try clear c11
  try clear c11b0
  try clear c13
  try clear c13b0
  try clear c14
  try clear c14b0
  try clear hx241_0
  try clear hx242_0
  try clear p241
  try clear p242
  try clear q241
  try clear q242
  obtain ⟨kq, x21_4, rfl, HA, HJ4, BK238, HB⟩ := hcut
  cases kq with
  | zero => exact absurd HA.out (by simp [groove_one.j0])
  | succ kj4 =>
   have H := HA.out
   clear HA
   simp only [groove_one.j0] at H
   by_cases c15 : x21_4 = true
   ·subst c15
    have H1 : (some (0, ([] : List Int), 0, 2)) = some (r1, r2, r3, r4) := by rw [if_pos rfl] at H; exact H
    clear H
    have H := H1
    clear H1
    simp only [Option.some.injEq, Prod.mk.injEq] at H
    obtain ⟨rfl, rfl, rfl, rfl⟩ := H
    have hcz16_0 : wc.cell? ⟨gb238, 0, none⟩ = some (.int .u8 0) := (blk_cell BK238.out 0).trans rfl
    have hcz16_1 : wc.cell? ⟨gb238, 1, none⟩ = some (.slice none 0 0) := (blk_cell BK238.out 1).trans rfl
    have hfz16_0 := blk_frozen BK238.out 0
    have hfz16_1 := blk_frozen BK238.out 1
    go_wp2
    repeat (go_quiet (fail); try go_wp2)
    refine bodyPost_ret (results_ctt rfl _ _ gb238 53 #[.int .u8 0, .slice none 0 0] (0, 0) _ rfl (by (with_reducible repeat (first | refine blk_drewN ?_ _ | refine blk_drew ?_ | refine blk_alloc ?_ _)); refine blk_put (cs := #[.int .u8 0, .slice none 0 0]) ?_ 1 _ rfl; (with_reducible repeat (first | refine blk_drewN ?_ _ | refine blk_drew ?_ | refine blk_alloc ?_ _)); refine blk_put (cs := #[.int .u8 0, .slice none 0 0]) ?_ 0 _ rfl; (with_reducible repeat (first | refine blk_drewN ?_ _ | refine blk_drew ?_ | refine blk_alloc ?_ _)); exact BK238.out) Try.underlying53 rfl (by kernel_rfl)) rfl ?_
    exact ⟨_, by first | rfl | (simp [errW_none, errW_some] <;> rfl) | (simp [*, errW_none, errW_some] <;> rfl), Kd.V_nil _ _ _ _ _, by repeat (first | (with_reducible first | exact HB.out | apply below_alloc | apply pw_below_drewN | apply below_drew1 | refine below_set ?_ GE238.out) | exact HB.out)⟩
   ·replace c15 := Bool.eq_false_iff.mpr c15
    subst c15
    have H1 : (if 0 ≤ a1 then (if a1 ≤ (wrap64 ((wrap64 (a1 + 2)) + t240)) then (if (wrap64 ((wrap64 (a1 + 2)) + t240)) ≤ (l0.length : Int) then ((seal_Short.f kj4 ((l0.take ((wrap64 ((wrap64 (a1 + 2)) + t240)) : Int).toNat).drop (a1 : Int).toNat)).bind fun t244 => (if 0 ≤ (wrap64 ((wrap64 (a1 + 2)) + t240)) then (if (wrap64 ((wrap64 (a1 + 2)) + t240)) < (l0.length : Int) then (if 0 ≤ (wrap64 ((wrap64 ((wrap64 (a1 + 2)) + t240)) + 1)) then (if (wrap64 ((wrap64 ((wrap64 (a1 + 2)) + t240)) + 1)) < (l0.length : Int) then (if t244 = (Go.bits .or .u16 (IntKind.u16.wrap (rd l0 (wrap64 ((wrap64 (a1 + 2)) + t240)))) (IntKind.u16.wrap ((IntKind.u16.wrap (rd l0 (wrap64 ((wrap64 ((wrap64 (a1 + 2)) + t240)) + 1)))) * 256))) then (if 0 ≤ (wrap64 (a1 + 2)) then (if (wrap64 (a1 + 2)) ≤ (wrap64 ((wrap64 (a1 + 2)) + t240)) then ((bytes_Clone.f ((l0.take ((wrap64 ((wrap64 (a1 + 2)) + t240)) : Int).toNat).drop ((wrap64 (a1 + 2)) : Int).toNat)).bind fun t248 => (some (t239, t248, wrap64 ((wrap64 ((wrap64 (a1 + 2)) + t240)) + 2), 0))) else (none)) else (none)) else (some (0, ([] : List Int), 0, 3))) else (none)) else (none)) else (none)) else (none))) else (none)) else (none)) else (none)) = some (r1, r2, r3, r4) := by rw [if_neg (show ¬ (false = true) by decide)] at H; exact H
    clear H
    have H := H1
    clear H1
    by_cases c17 : 0 ≤ a1
    ·rw [if_pos c17] at H
     have c17b0 := eq_true c17
     have c17b1 : decide (0 ≤ a1) = true := decide_eq_true c17
     clear c17
     by_cases c18 : a1 ≤ (wrap64 ((wrap64 (a1 + 2)) + t240))
     ·rw [if_pos c18] at H
      have c18b0 := eq_true c18
      have c18b1 : decide (a1 ≤ (wrap64 ((wrap64 (a1 + 2)) + t240))) = true := decide_eq_true c18
      by_cases c19 : (wrap64 ((wrap64 (a1 + 2)) + t240)) ≤ (l0.length : Int)
      ·rw [if_pos c19] at H
       have c19b0 := eq_true c19
       have c19b1 : decide ((wrap64 ((wrap64 (a1 + 2)) + t240)) ≤ (l0.length : Int)) = true := decide_eq_true c19
       replace H := Option.bind_eq_some_iff.mp H
       obtain ⟨t244, A200, H⟩ := H
       replace H : (if 0 ≤ (wrap64 ((wrap64 (a1 + 2)) + t240)) then (if (wrap64 ((wrap64 (a1 + 2)) + t240)) < (l0.length : Int) then (if 0 ≤ (wrap64 ((wrap64 ((wrap64 (a1 + 2)) + t240)) + 1)) then (if (wrap64 ((wrap64 ((wrap64 (a1 + 2)) + t240)) + 1)) < (l0.length : Int) then (if t244 = (Go.bits .or .u16 (IntKind.u16.wrap (rd l0 (wrap64 ((wrap64 (a1 + 2)) + t240)))) (IntKind.u16.wrap ((IntKind.u16.wrap (rd l0 (wrap64 ((wrap64 ((wrap64 (a1 + 2)) + t240)) + 1)))) * 256))) then (if 0 ≤ (wrap64 (a1 + 2)) then (if (wrap64 (a1 + 2)) ≤ (wrap64 ((wrap64 (a1 + 2)) + t240)) then ((bytes_Clone.f ((l0.take ((wrap64 ((wrap64 (a1 + 2)) + t240)) : Int).toNat).drop ((wrap64 (a1 + 2)) : Int).toNat)).bind fun t248 => (some (t239, t248, wrap64 ((wrap64 ((wrap64 (a1 + 2)) + t240)) + 2), 0))) else (none)) else (none)) else (some (0, ([] : List Int), 0, 3))) else (none)) else (none)) else (none)) else (none)) = some (r1, r2, r3, r4) := H
       have A20 := Aside0.mk A200
       clear A200
       obtain ⟨ji21, hji21⟩ : ∃ j_ : Int, (wrap64 ((wrap64 (a1 + 2)) + t240)) = j_ := ⟨_, rfl⟩
       replace H : (if 0 ≤ (ji21) then (if (ji21) < (l0.length : Int) then (if 0 ≤ (wrap64 ((ji21) + 1)) then (if (wrap64 ((ji21) + 1)) < (l0.length : Int) then (if t244 = (Go.bits .or .u16 (IntKind.u16.wrap (rd l0 (ji21))) (IntKind.u16.wrap ((IntKind.u16.wrap (rd l0 (wrap64 ((ji21) + 1)))) * 256))) then (if 0 ≤ (wrap64 (a1 + 2)) then (if (wrap64 (a1 + 2)) ≤ (ji21) then ((bytes_Clone.f ((l0.take ((ji21) : Int).toNat).drop ((wrap64 (a1 + 2)) : Int).toNat)).bind fun t248 => (some (t239, t248, wrap64 ((ji21) + 2), 0))) else (none)) else (none)) else (some (0, ([] : List Int), 0, 3))) else (none)) else (none)) else (none)) else (none)) = some (r1, r2, r3, r4) := by first | (rw [hji21] at H; exact H) | (simp only [hji21] at H ⊢; exact H)
       (try rw [hji21] at c18b0)
       (try rw [hji21] at c18b1)
       (try rw [hji21] at c18)
       (try rw [hji21] at c19b0)
       (try rw [hji21] at c19b1)
       (try rw [hji21] at c19)
       (try rw [hji21] at A20)
       have hji21w : (IntKind.i64.wrap ((wrap64 (a1 + 2)) + t240)) = ji21 := (i64_w _).trans hji21
       by_cases c22 : 0 ≤ (ji21)
       ·rw [if_pos c22] at H
        have c22b0 : decide (0 ≤ (ji21)) = true := decide_eq_true c22
        clear c22
        by_cases c23 : (ji21) < (l0.length : Int)
        ·rw [if_pos c23] at H
         have c23b0 : decide ((ji21) < (l0.length : Int)) = true := decide_eq_true c23
         clear c23
         obtain ⟨ji24, hji24⟩ : ∃ j_ : Int, (wrap64 ((ji21) + 1)) = j_ := ⟨_, rfl⟩
         replace H : (if 0 ≤ (ji24) then (if (ji24) < (l0.length : Int) then (if t244 = (Go.bits .or .u16 (IntKind.u16.wrap (rd l0 (ji21))) (IntKind.u16.wrap ((IntKind.u16.wrap (rd l0 (ji24))) * 256))) then (if 0 ≤ (wrap64 (a1 + 2)) then (if (wrap64 (a1 + 2)) ≤ (ji21) then ((bytes_Clone.f ((l0.take ((ji21) : Int).toNat).drop ((wrap64 (a1 + 2)) : Int).toNat)).bind fun t248 => (some (t239, t248, wrap64 ((ji21) + 2), 0))) else (none)) else (none)) else (some (0, ([] : List Int), 0, 3))) else (none)) else (none)) = some (r1, r2, r3, r4) := by first | (rw [hji24] at H; exact H) | (simp only [hji24] at H ⊢; exact H)
         (try rw [hji24] at A20)
         have hji24w : (IntKind.i64.wrap ((ji21) + 1)) = ji24 := (i64_w _).trans hji24
         by_cases c25 : 0 ≤ (ji24)
         ·rw [if_pos c25] at H
          have c25b0 : decide (0 ≤ (ji24)) = true := decide_eq_true c25
          clear c25
          by_cases c26 : (ji24) < (l0.length : Int)
          ·rw [if_pos c26] at H
           have c26b0 : decide ((ji24) < (l0.length : Int)) = true := decide_eq_true c26
           clear c26
           by_cases c27 : t244 = (Go.bits .or .u16 (IntKind.u16.wrap (rd l0 (ji21))) (IntKind.u16.wrap ((IntKind.u16.wrap (rd l0 (ji24))) * 256)))
           ·rw [if_pos c27] at H
            have c27b0 : (t244 == (Go.bits .or .u16 (IntKind.u16.wrap (rd l0 (ji21))) (IntKind.u16.wrap ((IntKind.u16.wrap (rd l0 (ji24))) * 256)))) = true := beq_iff_eq.mpr c27
            have c27b1 : (t244 != (Go.bits .or .u16 (IntKind.u16.wrap (rd l0 (ji21))) (IntKind.u16.wrap ((IntKind.u16.wrap (rd l0 (ji24))) * 256)))) = false := bne_eq_false_iff_eq.mpr c27
            clear c27
            obtain ⟨ji28, hji28⟩ : ∃ j_ : Int, (wrap64 (a1 + 2)) = j_ := ⟨_, rfl⟩
            replace H : (if 0 ≤ (ji28) then (if (ji28) ≤ (ji21) then ((bytes_Clone.f ((l0.take ((ji21) : Int).toNat).drop ((ji28) : Int).toNat)).bind fun t248 => (some (t239, t248, wrap64 ((ji21) + 2), 0))) else (none)) else (none)) = some (r1, r2, r3, r4) := by first | (rw [hji28] at H; exact H) | (simp only [hji28] at H ⊢; exact H)
            (try rw [hji28] at c18b0)
            (try rw [hji28] at c18b1)
            (try rw [hji28] at c18)
            (try rw [hji28] at c19b0)
            (try rw [hji28] at c19b1)
            (try rw [hji28] at c19)
            (try rw [hji28] at A20)
            have hji28w : (IntKind.i64.wrap (a1 + 2)) = ji28 := (i64_w _).trans hji28
            by_cases c29 : 0 ≤ (ji28)
            ·rw [if_pos c29] at H
             have c29b0 := eq_true c29
             have c29b1 : decide (0 ≤ (ji28)) = true := decide_eq_true c29
             clear c29
             by_cases c30 : (ji28) ≤ (ji21)
             ·rw [if_pos c30] at H
              have c30b0 := eq_true c30
              have c30b1 : decide ((ji28) ≤ (ji21)) = true := decide_eq_true c30
              clear c30
              have c31b0 := eq_true (of_decide_eq_true (by first | (with_reducible assumption) | assumption) : (ji21) ≤ (l0.length : Int))
              replace H := Option.bind_eq_some_iff.mp H
              obtain ⟨t248, A320, H⟩ := H
              replace H : (some (t239, t248, wrap64 ((ji21) + 2), 0)) = some (r1, r2, r3, r4) := H
              have A32 := Aside0.mk A320
              clear A320
              simp only [Option.some.injEq, Prod.mk.injEq] at H
              obtain ⟨rfl, rfl, rfl, rfl⟩ := H
              obtain ⟨i033, hi033, _, hsz33, _⟩ := info_parts info5
              obtain ⟨A33, hcut33, hA33, hC33⟩ := print_mid_of (P := Try.prog) (Value.int .u8) 0 22 5 .i64 .i64 Try.underlying22 hi033 hsz33 A0 c0 l0 a1 (ji21) (of_decide_eq_true (by first | (with_reducible assumption) | assumption)) (by first | omega | exact of_decide_eq_true (by first | (with_reducible assumption) | assumption)) (of_decide_eq_true (by first | (with_reducible assumption) | assumption)) HC0.out
              have HR243 := Aside0.mk (Kd.C_of_reads (h1 := fun _ => rfl) (hA33 _ (Kd.reads_of_C HR0.out)))
              have HC243 := Aside0.mk hC33
              clear hA33 hC33 hi033 hsz33
              go_wp2_with (first | (go_at_call 34; (try rw [show (ji21.toNat - a1.toNat) = ((l0.take (ji21 : Int).toNat).drop (a1 : Int).toNat).length from by rw [List.length_drop, List.length_take]; omega]); (with_reducible refine (seal_Short.calls kj4 _ _ ((l0.take (ji21 : Int).toNat).drop (a1 : Int).toNat) t244 _ ?side1 ?side2 A20.out).mono ?_); (case side1 => repeat (first | exact (Kd.C_below HR243.out HB.out) | (with_reducible refine Kd.C_alloc ?_ _) | (with_reducible refine Kd.C_drewN ?_ _) | (with_reducible refine Kd.C_drew ?_))); (case side2 => exact HC243.out); rintro e w' ⟨rfl, ⟨nd, rfl⟩⟩; (try first | exact ⟨rfl, _, World.drewN_drewN _ _ _⟩ | exact ⟨rfl, _, Eq.trans (World.drewN_drewN _ _ _) (congrArg (World.drewN _) (Nat.add_assoc _ _ _))⟩); have p245 : 0 ≤ ((ji21) : Int) := of_decide_eq_true (by first | (with_reducible assumption) | assumption); have q245 : (ji21) < (l0.length : Int) := of_decide_eq_true (by first | (with_reducible assumption) | assumption); obtain ⟨ad245, e245, hx245_0⟩ := Kd.at_int HR0.out (ji21) p245 q245; cases e245; replace hx245_0 := (HB.out.cell (World.block_lt_of_cell? w _ hx245_0)).trans hx245_0; replace p245 := eq_true p245; replace q245 := eq_true q245; have p246 : 0 ≤ ((ji24) : Int) := of_decide_eq_true (by first | (with_reducible assumption) | assumption); have q246 : (ji24) < (l0.length : Int) := of_decide_eq_true (by first | (with_reducible assumption) | assumption); obtain ⟨ad246, e246, hx246_0⟩ := Kd.at_int HR0.out (ji24) p246 q246; obtain rfl : ad245 = ad246 := (by injection e246); replace hx246_0 := (HB.out.cell (World.block_lt_of_cell? w _ hx246_0)).trans hx246_0; replace p246 := eq_true p246; replace q246 := eq_true q246; obtain ⟨i034, hi034, _, hsz34, _⟩ := info_parts info5; obtain ⟨A34, hcut34, hA34, hC34⟩ := print_mid_of (P := Try.prog) (Value.int .u8) 0 22 5 .i64 .i64 Try.underlying22 hi034 hsz34 (some ad245) c0 l0 (ji28) (ji21) (of_decide_eq_true (by first | (with_reducible assumption) | assumption)) (by first | omega | exact of_decide_eq_true (by first | (with_reducible assumption) | assumption)) (of_decide_eq_true (by first | (with_reducible assumption) | assumption)) HC0.out; have HR247 := Aside0.mk (Kd.C_of_reads (h1 := fun _ => rfl) (hA34 _ (Kd.reads_of_C HR0.out))); have HC247 := Aside0.mk hC34; clear hA34 hC34 hi034 hsz34) | (go_at_call 24; (try rw [show (ji21.toNat - ji28.toNat) = ((l0.take (ji21 : Int).toNat).drop (ji28 : Int).toNat).length from by rw [List.length_drop, List.length_take]; omega]); (with_reducible refine (bytes_Clone.calls _ _ ((l0.take (ji21 : Int).toNat).drop (ji28 : Int).toNat) t248 _ ?side1 ?side2 A32.out).mono ?_); (case side1 => repeat (first | exact (Kd.C_below HR247.out (by repeat (first | (with_reducible first | exact HB.out | apply below_alloc | apply pw_below_drewN | apply below_drew1 | refine below_set ?_ GE238.out) | exact HB.out))) | (with_reducible refine Kd.C_alloc ?_ _) | (with_reducible refine Kd.C_drewN ?_ _) | (with_reducible refine Kd.C_drew ?_))); (case side2 => exact HC247.out); rintro e w35 ⟨v249, rfl, ho0, hb⟩; have n0_ := Aside0.mk (Kd.V_lower (Kd.V_mono (ok' := fun k_ => (w.heap.size ≤ k_) ∧ k_ ≠ gb238) ho0 (fun k_ hk_ => ⟨(Nat.le_trans (below_size (by repeat (first | (with_reducible first | exact HB.out | apply below_alloc | apply pw_below_drewN | apply below_drew1 | refine below_set ?_ GE238.out) | exact HB.out))) hk_), (Kd.freshB (g := gb238) (o := .cells #[.int .u8 0, .slice none 0 0] 53 (0, 0)) (by (with_reducible repeat (first | refine blk_drewN ?_ _ | refine blk_drew ?_ | refine blk_alloc ?_ _)); exact BK238.out) k_ hk_)⟩)) (below_size (by repeat (first | (with_reducible first | exact HB.out | apply below_alloc | apply pw_below_drewN | apply below_drew1 | refine below_set ?_ GE238.out) | exact HB.out)))); have n1_ := Aside0.mk (blk_below (g := gb238) (o := .cells #[.int .u8 0, .slice none 0 0] 53 (0, 0)) (by (with_reducible repeat (first | refine blk_drewN ?_ _ | refine blk_drew ?_ | refine blk_alloc ?_ _)); exact BK238.out) hb); have n2_ := Aside0.mk (below_step (by repeat (first | (with_reducible first | exact HB.out | apply below_alloc | apply pw_below_drewN | apply below_drew1 | refine below_set ?_ GE238.out) | exact HB.out)) hb); clear BK238; clear HB; have HO250 := n0_; have BK238 := n1_; have HB := n2_; clear n0_ n1_ n2_; (try clear hb); (try clear hb2); (try clear hk); (try clear hi); (try clear ho0); obtain ⟨Ao36, co36, eo36⟩ := Kd.V_slice HO250.out; subst eo36; have hcz37_0 : w35.cell? ⟨gb238, 0, none⟩ = some (.int .u8 0) := (blk_cell BK238.out 0).trans rfl; have hcz37_1 : w35.cell? ⟨gb238, 1, none⟩ = some (.slice none 0 0) := (blk_cell BK238.out 1).trans rfl; have hfz37_0 := blk_frozen BK238.out 0; have hfz37_1 := blk_frozen BK238.out 1))
              try rw [hji21]
              try rw [hji24]
              try rw [hji28]
              repeat (go_quiet (first | (go_at_call 34; (try rw [show (ji21.toNat - a1.toNat) = ((l0.take (ji21 : Int).toNat).drop (a1 : Int).toNat).length from by rw [List.length_drop, List.length_take]; omega]); (with_reducible refine (seal_Short.calls kj4 _ _ ((l0.take (ji21 : Int).toNat).drop (a1 : Int).toNat) t244 _ ?side1 ?side2 A20.out).mono ?_); (case side1 => repeat (first | exact (Kd.C_below HR243.out HB.out) | (with_reducible refine Kd.C_alloc ?_ _) | (with_reducible refine Kd.C_drewN ?_ _) | (with_reducible refine Kd.C_drew ?_))); (case side2 => exact HC243.out); rintro e w' ⟨rfl, ⟨nd, rfl⟩⟩; (try first | exact ⟨rfl, _, World.drewN_drewN _ _ _⟩ | exact ⟨rfl, _, Eq.trans (World.drewN_drewN _ _ _) (congrArg (World.drewN _) (Nat.add_assoc _ _ _))⟩); have p245 : 0 ≤ ((ji21) : Int) := of_decide_eq_true (by first | (with_reducible assumption) | assumption); have q245 : (ji21) < (l0.length : Int) := of_decide_eq_true (by first | (with_reducible assumption) | assumption); obtain ⟨ad245, e245, hx245_0⟩ := Kd.at_int HR0.out (ji21) p245 q245; cases e245; replace hx245_0 := (HB.out.cell (World.block_lt_of_cell? w _ hx245_0)).trans hx245_0; replace p245 := eq_true p245; replace q245 := eq_true q245; have p246 : 0 ≤ ((ji24) : Int) := of_decide_eq_true (by first | (with_reducible assumption) | assumption); have q246 : (ji24) < (l0.length : Int) := of_decide_eq_true (by first | (with_reducible assumption) | assumption); obtain ⟨ad246, e246, hx246_0⟩ := Kd.at_int HR0.out (ji24) p246 q246; obtain rfl : ad245 = ad246 := (by injection e246); replace hx246_0 := (HB.out.cell (World.block_lt_of_cell? w _ hx246_0)).trans hx246_0; replace p246 := eq_true p246; replace q246 := eq_true q246; obtain ⟨i034, hi034, _, hsz34, _⟩ := info_parts info5; obtain ⟨A34, hcut34, hA34, hC34⟩ := print_mid_of (P := Try.prog) (Value.int .u8) 0 22 5 .i64 .i64 Try.underlying22 hi034 hsz34 (some ad245) c0 l0 (ji28) (ji21) (of_decide_eq_true (by first | (with_reducible assumption) | assumption)) (by first | omega | exact of_decide_eq_true (by first | (with_reducible assumption) | assumption)) (of_decide_eq_true (by first | (with_reducible assumption) | assumption)) HC0.out; have HR247 := Aside0.mk (Kd.C_of_reads (h1 := fun _ => rfl) (hA34 _ (Kd.reads_of_C HR0.out))); have HC247 := Aside0.mk hC34; clear hA34 hC34 hi034 hsz34) | (go_at_call 24; (try rw [show (ji21.toNat - ji28.toNat) = ((l0.take (ji21 : Int).toNat).drop (ji28 : Int).toNat).length from by rw [List.length_drop, List.length_take]; omega]); (with_reducible refine (bytes_Clone.calls _ _ ((l0.take (ji21 : Int).toNat).drop (ji28 : Int).toNat) t248 _ ?side1 ?side2 A32.out).mono ?_); (case side1 => repeat (first | exact (Kd.C_below HR247.out (by repeat (first | (with_reducible first | exact HB.out | apply below_alloc | apply pw_below_drewN | apply below_drew1 | refine below_set ?_ GE238.out) | exact HB.out))) | (with_reducible refine Kd.C_alloc ?_ _) | (with_reducible refine Kd.C_drewN ?_ _) | (with_reducible refine Kd.C_drew ?_))); (case side2 => exact HC247.out); rintro e w35 ⟨v249, rfl, ho0, hb⟩; have n0_ := Aside0.mk (Kd.V_lower (Kd.V_mono (ok' := fun k_ => (w.heap.size ≤ k_) ∧ k_ ≠ gb238) ho0 (fun k_ hk_ => ⟨(Nat.le_trans (below_size (by repeat (first | (with_reducible first | exact HB.out | apply below_alloc | apply pw_below_drewN | apply below_drew1 | refine below_set ?_ GE238.out) | exact HB.out))) hk_), (Kd.freshB (g := gb238) (o := .cells #[.int .u8 0, .slice none 0 0] 53 (0, 0)) (by (with_reducible repeat (first | refine blk_drewN ?_ _ | refine blk_drew ?_ | refine blk_alloc ?_ _)); exact BK238.out) k_ hk_)⟩)) (below_size (by repeat (first | (with_reducible first | exact HB.out | apply below_alloc | apply pw_below_drewN | apply below_drew1 | refine below_set ?_ GE238.out) | exact HB.out)))); have n1_ := Aside0.mk (blk_below (g := gb238) (o := .cells #[.int .u8 0, .slice none 0 0] 53 (0, 0)) (by (with_reducible repeat (first | refine blk_drewN ?_ _ | refine blk_drew ?_ | refine blk_alloc ?_ _)); exact BK238.out) hb); have n2_ := Aside0.mk (below_step (by repeat (first | (with_reducible first | exact HB.out | apply below_alloc | apply pw_below_drewN | apply below_drew1 | refine below_set ?_ GE238.out) | exact HB.out)) hb); clear BK238; clear HB; have HO250 := n0_; have BK238 := n1_; have HB := n2_; clear n0_ n1_ n2_; (try clear hb); (try clear hb2); (try clear hk); (try clear hi); (try clear ho0); obtain ⟨Ao36, co36, eo36⟩ := Kd.V_slice HO250.out; subst eo36; have hcz37_0 : w35.cell? ⟨gb238, 0, none⟩ = some (.int .u8 0) := (blk_cell BK238.out 0).trans rfl; have hcz37_1 : w35.cell? ⟨gb238, 1, none⟩ = some (.slice none 0 0) := (blk_cell BK238.out 1).trans rfl; have hfz37_0 := blk_frozen BK238.out 0; have hfz37_1 := blk_frozen BK238.out 1)); try go_wp2_with (first | (go_at_call 34; (try rw [show (ji21.toNat - a1.toNat) = ((l0.take (ji21 : Int).toNat).drop (a1 : Int).toNat).length from by rw [List.length_drop, List.length_take]; omega]); (with_reducible refine (seal_Short.calls kj4 _ _ ((l0.take (ji21 : Int).toNat).drop (a1 : Int).toNat) t244 _ ?side1 ?side2 A20.out).mono ?_); (case side1 => repeat (first | exact (Kd.C_below HR243.out HB.out) | (with_reducible refine Kd.C_alloc ?_ _) | (with_reducible refine Kd.C_drewN ?_ _) | (with_reducible refine Kd.C_drew ?_))); (case side2 => exact HC243.out); rintro e w' ⟨rfl, ⟨nd, rfl⟩⟩; (try first | exact ⟨rfl, _, World.drewN_drewN _ _ _⟩ | exact ⟨rfl, _, Eq.trans (World.drewN_drewN _ _ _) (congrArg (World.drewN _) (Nat.add_assoc _ _ _))⟩); have p245 : 0 ≤ ((ji21) : Int) := of_decide_eq_true (by first | (with_reducible assumption) | assumption); have q245 : (ji21) < (l0.length : Int) := of_decide_eq_true (by first | (with_reducible assumption) | assumption); obtain ⟨ad245, e245, hx245_0⟩ := Kd.at_int HR0.out (ji21) p245 q245; cases e245; replace hx245_0 := (HB.out.cell (World.block_lt_of_cell? w _ hx245_0)).trans hx245_0; replace p245 := eq_true p245; replace q245 := eq_true q245; have p246 : 0 ≤ ((ji24) : Int) := of_decide_eq_true (by first | (with_reducible assumption) | assumption); have q246 : (ji24) < (l0.length : Int) := of_decide_eq_true (by first | (with_reducible assumption) | assumption); obtain ⟨ad246, e246, hx246_0⟩ := Kd.at_int HR0.out (ji24) p246 q246; obtain rfl : ad245 = ad246 := (by injection e246); replace hx246_0 := (HB.out.cell (World.block_lt_of_cell? w _ hx246_0)).trans hx246_0; replace p246 := eq_true p246; replace q246 := eq_true q246; obtain ⟨i034, hi034, _, hsz34, _⟩ := info_parts info5; obtain ⟨A34, hcut34, hA34, hC34⟩ := print_mid_of (P := Try.prog) (Value.int .u8) 0 22 5 .i64 .i64 Try.underlying22 hi034 hsz34 (some ad245) c0 l0 (ji28) (ji21) (of_decide_eq_true (by first | (with_reducible assumption) | assumption)) (by first | omega | exact of_decide_eq_true (by first | (with_reducible assumption) | assumption)) (of_decide_eq_true (by first | (with_reducible assumption) | assumption)) HC0.out; have HR247 := Aside0.mk (Kd.C_of_reads (h1 := fun _ => rfl) (hA34 _ (Kd.reads_of_C HR0.out))); have HC247 := Aside0.mk hC34; clear hA34 hC34 hi034 hsz34) | (go_at_call 24; (try rw [show (ji21.toNat - ji28.toNat) = ((l0.take (ji21 : Int).toNat).drop (ji28 : Int).toNat).length from by rw [List.length_drop, List.length_take]; omega]); (with_reducible refine (bytes_Clone.calls _ _ ((l0.take (ji21 : Int).toNat).drop (ji28 : Int).toNat) t248 _ ?side1 ?side2 A32.out).mono ?_); (case side1 => repeat (first | exact (Kd.C_below HR247.out (by repeat (first | (with_reducible first | exact HB.out | apply below_alloc | apply pw_below_drewN | apply below_drew1 | refine below_set ?_ GE238.out) | exact HB.out))) | (with_reducible refine Kd.C_alloc ?_ _) | (with_reducible refine Kd.C_drewN ?_ _) | (with_reducible refine Kd.C_drew ?_))); (case side2 => exact HC247.out); rintro e w35 ⟨v249, rfl, ho0, hb⟩; have n0_ := Aside0.mk (Kd.V_lower (Kd.V_mono (ok' := fun k_ => (w.heap.size ≤ k_) ∧ k_ ≠ gb238) ho0 (fun k_ hk_ => ⟨(Nat.le_trans (below_size (by repeat (first | (with_reducible first | exact HB.out | apply below_alloc | apply pw_below_drewN | apply below_drew1 | refine below_set ?_ GE238.out) | exact HB.out))) hk_), (Kd.freshB (g := gb238) (o := .cells #[.int .u8 0, .slice none 0 0] 53 (0, 0)) (by (with_reducible repeat (first | refine blk_drewN ?_ _ | refine blk_drew ?_ | refine blk_alloc ?_ _)); exact BK238.out) k_ hk_)⟩)) (below_size (by repeat (first | (with_reducible first | exact HB.out | apply below_alloc | apply pw_below_drewN | apply below_drew1 | refine below_set ?_ GE238.out) | exact HB.out)))); have n1_ := Aside0.mk (blk_below (g := gb238) (o := .cells #[.int .u8 0, .slice none 0 0] 53 (0, 0)) (by (with_reducible repeat (first | refine blk_drewN ?_ _ | refine blk_drew ?_ | refine blk_alloc ?_ _)); exact BK238.out) hb); have n2_ := Aside0.mk (below_step (by repeat (first | (with_reducible first | exact HB.out | apply below_alloc | apply pw_below_drewN | apply below_drew1 | refine below_set ?_ GE238.out) | exact HB.out)) hb); clear BK238; clear HB; have HO250 := n0_; have BK238 := n1_; have HB := n2_; clear n0_ n1_ n2_; (try clear hb); (try clear hb2); (try clear hk); (try clear hi); (try clear ho0); obtain ⟨Ao36, co36, eo36⟩ := Kd.V_slice HO250.out; subst eo36; have hcz37_0 : w35.cell? ⟨gb238, 0, none⟩ = some (.int .u8 0) := (blk_cell BK238.out 0).trans rfl; have hcz37_1 : w35.cell? ⟨gb238, 1, none⟩ = some (.slice none 0 0) := (blk_cell BK238.out 1).trans rfl; have hfz37_0 := blk_frozen BK238.out 0; have hfz37_1 := blk_frozen BK238.out 1)))
              refine bodyPost_ret (results_ctt rfl _ _ gb238 53 #[.int .u8 t239, .slice Ao36 t248.length co36] (0, 0) _ rfl (by (with_reducible repeat (first | refine blk_drewN ?_ _ | refine blk_drew ?_ | refine blk_alloc ?_ _)); refine blk_put (cs := #[.int .u8 t239, .slice none 0 0]) ?_ 1 _ rfl; (with_reducible repeat (first | refine blk_drewN ?_ _ | refine blk_drew ?_ | refine blk_alloc ?_ _)); refine blk_put (cs := #[.int .u8 0, .slice none 0 0]) ?_ 0 _ rfl; (with_reducible repeat (first | refine blk_drewN ?_ _ | refine blk_drew ?_ | refine blk_alloc ?_ _)); exact BK238.out) Try.underlying53 rfl (by kernel_rfl)) rfl ?_
              exact ⟨_, by first | rfl | (simp [errW_none, errW_some] <;> rfl) | (simp only [← hji21, ← hji24, ← hji28]; first | rfl | (simp [errW_none, errW_some] <;> rfl)) | (simp [*, errW_none, errW_some] <;> rfl), by (with_reducible repeat (first | apply Kd.V_alloc | apply Kd.V_drewN | apply Kd.V_drew)); exact Kd.V_mono (Kd.V_far (p := ⟨gb238, 1, none⟩) (Kd.V_far (p := ⟨gb238, 0, none⟩) (Kd.V_mono HO250.out (fun k_ hk => (⟨hk, hk.2⟩ : _ ∧ k_ ≠ gb238))) (fun _ hk => hk.2) (.int .u8 t239)) (fun _ hk => hk.2) (.slice Ao36 t248.length co36)) (fun _ hk => hk.1.1), by repeat (first | (with_reducible first | exact HB.out | apply below_alloc | apply pw_below_drewN | apply below_drew1 | refine below_set ?_ GE238.out) | exact HB.out)⟩
             ·rw [if_neg c30] at H
              exact absurd H (by simp)
            ·rw [if_neg c29] at H
             exact absurd H (by simp)
           ·rw [if_neg c27] at H
            have c27b0 : (t244 == (Go.bits .or .u16 (IntKind.u16.wrap (rd l0 (ji21))) (IntKind.u16.wrap ((IntKind.u16.wrap (rd l0 (ji24))) * 256)))) = false := beq_eq_false_iff_ne.mpr c27
            have c27b1 : (t244 != (Go.bits .or .u16 (IntKind.u16.wrap (rd l0 (ji21))) (IntKind.u16.wrap ((IntKind.u16.wrap (rd l0 (ji24))) * 256)))) = true := bne_iff_ne.mpr c27
            simp only [Option.some.injEq, Prod.mk.injEq] at H
            obtain ⟨rfl, rfl, rfl, rfl⟩ := H
            obtain ⟨i038, hi038, _, hsz38, _⟩ := info_parts info5
            try clear hcut33
            obtain ⟨A38, hcut38, hA38, hC38⟩ := print_mid_of (P := Try.prog) (Value.int .u8) 0 22 5 .i64 .i64 Try.underlying22 hi038 hsz38 A0 c0 l0 a1 (ji21) (of_decide_eq_true (by first | (with_reducible assumption) | assumption)) (by first | omega | exact of_decide_eq_true (by first | (with_reducible assumption) | assumption)) (of_decide_eq_true (by first | (with_reducible assumption) | assumption)) HC0.out
            have HR243 := Aside0.mk (Kd.C_of_reads (h1 := fun _ => rfl) (hA38 _ (Kd.reads_of_C HR0.out)))
            have HC243 := Aside0.mk hC38
            clear hA38 hC38 hi038 hsz38
            go_wp2_with (first | (go_at_call 34; (try rw [show (ji21.toNat - a1.toNat) = ((l0.take (ji21 : Int).toNat).drop (a1 : Int).toNat).length from by rw [List.length_drop, List.length_take]; omega]); (with_reducible refine (seal_Short.calls kj4 _ _ ((l0.take (ji21 : Int).toNat).drop (a1 : Int).toNat) t244 _ ?side1 ?side2 A20.out).mono ?_); (case side1 => repeat (first | exact (Kd.C_below HR243.out HB.out) | (with_reducible refine Kd.C_alloc ?_ _) | (with_reducible refine Kd.C_drewN ?_ _) | (with_reducible refine Kd.C_drew ?_))); (case side2 => exact HC243.out); rintro e w' ⟨rfl, ⟨nd, rfl⟩⟩; (try first | exact ⟨rfl, _, World.drewN_drewN _ _ _⟩ | exact ⟨rfl, _, Eq.trans (World.drewN_drewN _ _ _) (congrArg (World.drewN _) (Nat.add_assoc _ _ _))⟩); have p245 : 0 ≤ ((ji21) : Int) := of_decide_eq_true (by first | (with_reducible assumption) | assumption); have q245 : (ji21) < (l0.length : Int) := of_decide_eq_true (by first | (with_reducible assumption) | assumption); obtain ⟨ad245, e245, hx245_0⟩ := Kd.at_int HR0.out (ji21) p245 q245; cases e245; replace hx245_0 := (HB.out.cell (World.block_lt_of_cell? w _ hx245_0)).trans hx245_0; replace p245 := eq_true p245; replace q245 := eq_true q245; have p246 : 0 ≤ ((ji24) : Int) := of_decide_eq_true (by first | (with_reducible assumption) | assumption); have q246 : (ji24) < (l0.length : Int) := of_decide_eq_true (by first | (with_reducible assumption) | assumption); obtain ⟨ad246, e246, hx246_0⟩ := Kd.at_int HR0.out (ji24) p246 q246; obtain rfl : ad245 = ad246 := (by injection e246); replace hx246_0 := (HB.out.cell (World.block_lt_of_cell? w _ hx246_0)).trans hx246_0; replace p246 := eq_true p246; replace q246 := eq_true q246; have hcz39_0 : wc.cell? ⟨gb238, 0, none⟩ = some (.int .u8 0) := (blk_cell BK238.out 0).trans rfl; have hcz39_1 : wc.cell? ⟨gb238, 1, none⟩ = some (.slice none 0 0) := (blk_cell BK238.out 1).trans rfl; have hfz39_0 := blk_frozen BK238.out 0; have hfz39_1 := blk_frozen BK238.out 1))
            try rw [hji21]
            try rw [hji24]
            repeat (go_quiet (first | (go_at_call 34; (try rw [show (ji21.toNat - a1.toNat) = ((l0.take (ji21 : Int).toNat).drop (a1 : Int).toNat).length from by rw [List.length_drop, List.length_take]; omega]); (with_reducible refine (seal_Short.calls kj4 _ _ ((l0.take (ji21 : Int).toNat).drop (a1 : Int).toNat) t244 _ ?side1 ?side2 A20.out).mono ?_); (case side1 => repeat (first | exact (Kd.C_below HR243.out HB.out) | (with_reducible refine Kd.C_alloc ?_ _) | (with_reducible refine Kd.C_drewN ?_ _) | (with_reducible refine Kd.C_drew ?_))); (case side2 => exact HC243.out); rintro e w' ⟨rfl, ⟨nd, rfl⟩⟩; (try first | exact ⟨rfl, _, World.drewN_drewN _ _ _⟩ | exact ⟨rfl, _, Eq.trans (World.drewN_drewN _ _ _) (congrArg (World.drewN _) (Nat.add_assoc _ _ _))⟩); have p245 : 0 ≤ ((ji21) : Int) := of_decide_eq_true (by first | (with_reducible assumption) | assumption); have q245 : (ji21) < (l0.length : Int) := of_decide_eq_true (by first | (with_reducible assumption) | assumption); obtain ⟨ad245, e245, hx245_0⟩ := Kd.at_int HR0.out (ji21) p245 q245; cases e245; replace hx245_0 := (HB.out.cell (World.block_lt_of_cell? w _ hx245_0)).trans hx245_0; replace p245 := eq_true p245; replace q245 := eq_true q245; have p246 : 0 ≤ ((ji24) : Int) := of_decide_eq_true (by first | (with_reducible assumption) | assumption); have q246 : (ji24) < (l0.length : Int) := of_decide_eq_true (by first | (with_reducible assumption) | assumption); obtain ⟨ad246, e246, hx246_0⟩ := Kd.at_int HR0.out (ji24) p246 q246; obtain rfl : ad245 = ad246 := (by injection e246); replace hx246_0 := (HB.out.cell (World.block_lt_of_cell? w _ hx246_0)).trans hx246_0; replace p246 := eq_true p246; replace q246 := eq_true q246; have hcz39_0 : wc.cell? ⟨gb238, 0, none⟩ = some (.int .u8 0) := (blk_cell BK238.out 0).trans rfl; have hcz39_1 : wc.cell? ⟨gb238, 1, none⟩ = some (.slice none 0 0) := (blk_cell BK238.out 1).trans rfl; have hfz39_0 := blk_frozen BK238.out 0; have hfz39_1 := blk_frozen BK238.out 1)); try go_wp2_with (first | (go_at_call 34; (try rw [show (ji21.toNat - a1.toNat) = ((l0.take (ji21 : Int).toNat).drop (a1 : Int).toNat).length from by rw [List.length_drop, List.length_take]; omega]); (with_reducible refine (seal_Short.calls kj4 _ _ ((l0.take (ji21 : Int).toNat).drop (a1 : Int).toNat) t244 _ ?side1 ?side2 A20.out).mono ?_); (case side1 => repeat (first | exact (Kd.C_below HR243.out HB.out) | (with_reducible refine Kd.C_alloc ?_ _) | (with_reducible refine Kd.C_drewN ?_ _) | (with_reducible refine Kd.C_drew ?_))); (case side2 => exact HC243.out); rintro e w' ⟨rfl, ⟨nd, rfl⟩⟩; (try first | exact ⟨rfl, _, World.drewN_drewN _ _ _⟩ | exact ⟨rfl, _, Eq.trans (World.drewN_drewN _ _ _) (congrArg (World.drewN _) (Nat.add_assoc _ _ _))⟩); have p245 : 0 ≤ ((ji21) : Int) := of_decide_eq_true (by first | (with_reducible assumption) | assumption); have q245 : (ji21) < (l0.length : Int) := of_decide_eq_true (by first | (with_reducible assumption) | assumption); obtain ⟨ad245, e245, hx245_0⟩ := Kd.at_int HR0.out (ji21) p245 q245; cases e245; replace hx245_0 := (HB.out.cell (World.block_lt_of_cell? w _ hx245_0)).trans hx245_0; replace p245 := eq_true p245; replace q245 := eq_true q245; have p246 : 0 ≤ ((ji24) : Int) := of_decide_eq_true (by first | (with_reducible assumption) | assumption); have q246 : (ji24) < (l0.length : Int) := of_decide_eq_true (by first | (with_reducible assumption) | assumption); obtain ⟨ad246, e246, hx246_0⟩ := Kd.at_int HR0.out (ji24) p246 q246; obtain rfl : ad245 = ad246 := (by injection e246); replace hx246_0 := (HB.out.cell (World.block_lt_of_cell? w _ hx246_0)).trans hx246_0; replace p246 := eq_true p246; replace q246 := eq_true q246; have hcz39_0 : wc.cell? ⟨gb238, 0, none⟩ = some (.int .u8 0) := (blk_cell BK238.out 0).trans rfl; have hcz39_1 : wc.cell? ⟨gb238, 1, none⟩ = some (.slice none 0 0) := (blk_cell BK238.out 1).trans rfl; have hfz39_0 := blk_frozen BK238.out 0; have hfz39_1 := blk_frozen BK238.out 1)))
            refine bodyPost_ret (results_ctt rfl _ _ gb238 53 #[.int .u8 0, .slice none 0 0] (0, 0) _ rfl (by (with_reducible repeat (first | refine blk_drewN ?_ _ | refine blk_drew ?_ | refine blk_alloc ?_ _)); refine blk_put (cs := #[.int .u8 0, .slice none 0 0]) ?_ 1 _ rfl; (with_reducible repeat (first | refine blk_drewN ?_ _ | refine blk_drew ?_ | refine blk_alloc ?_ _)); refine blk_put (cs := #[.int .u8 0, .slice none 0 0]) ?_ 0 _ rfl; (with_reducible repeat (first | refine blk_drewN ?_ _ | refine blk_drew ?_ | refine blk_alloc ?_ _)); exact BK238.out) Try.underlying53 rfl (by kernel_rfl)) rfl ?_
            exact ⟨_, by first | rfl | (simp [errW_none, errW_some] <;> rfl) | (simp only [← hji21, ← hji24]; first | rfl | (simp [errW_none, errW_some] <;> rfl)) | (simp [*, errW_none, errW_some] <;> rfl), Kd.V_nil _ _ _ _ _, by repeat (first | (with_reducible first | exact HB.out | apply below_alloc | apply pw_below_drewN | apply below_drew1 | refine below_set ?_ GE238.out) | exact HB.out)⟩
          ·rw [if_neg c26] at H
           exact absurd H (by simp)
         ·rw [if_neg c25] at H
          exact absurd H (by simp)
        ·rw [if_neg c23] at H
         exact absurd H (by simp)
       ·rw [if_neg c22] at H
        exact absurd H (by simp)
      ·rw [if_neg c19] at H
       exact absurd H (by simp)
     ·rw [if_neg c18] at H
      exact absurd H (by simp)
    ·rw [if_neg c17] at H
     exact absurd H (by simp)

end Go.Proofs.Ytgahcipgglkkhaa.PGrooveReads
