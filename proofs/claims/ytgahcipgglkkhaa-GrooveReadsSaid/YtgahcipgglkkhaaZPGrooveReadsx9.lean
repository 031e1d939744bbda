-- made by a program of this repo (wip/patch_print.py); not trusted: Lean checks it
import Derived.Test.YtgahcipgglkkhaaZPGrooveReadsx0
import Derived.Test.YtgahcipgglkkhaaZPGrooveReadsx2
import Derived.Test.YtgahcipgglkkhaaZPGrooveReadsx4
import Derived.Test.YtgahcipgglkkhaaZPGrooveReadsx5
import Derived.Test.YtgahcipgglkkhaaZPGrooveReadsx6
import Derived.Test.YtgahcipgglkkhaaZPGrooveReadsx7
import Derived.Test.YtgahcipgglkkhaaZPGrooveReadsx8
-- squeezed
namespace Go.Proofs.Ytgahcipgglkkhaa.PGrooveReads
open Go.RowKit Go.Proofs.YtgahcipgglkkhaaW.PrintWords Go.Proofs.YtgahcipgglkkhaaW.PrintLast Go.Proofs.YtgahcipgglkkhaaW.PrintMore
attribute [local go_sem] max2_int min2_int max_two min_two max_three min_three max_four min_four   -- for this text's walks alone
set_option linter.unusedVariables false
set_option linter.unusedSimpArgs false

/-! ### kotatsulaw07_GrooveReads: function 4 -/
mutual
def kotatsulaw07_GrooveReads.l0 : Nat → List Int → Int → List Int → List Int → Int → Int → Option (Bool)
 | 0, _, _, _, _, _, _ => none
 | k + 1, x0, x2, x9, x31, x32, x33 => if x33 < x32 then (if 0 ≤ x33 then (if x33 < (x31.length : Int) then (if (x9.length : Int) = 0 then (none) else (if 0 ≤ (Int.tmod (wrap64 ((wrap64 (x2)) + x33)) (x9.length : Int)) then (if (Int.tmod (wrap64 ((wrap64 (x2)) + x33)) (x9.length : Int)) < (x9.length : Int) then (kotatsulaw07_GrooveReads.l0 k x0 x2 (x9.set ((Int.tmod (wrap64 ((wrap64 (x2)) + x33)) (x9.length : Int)) : Int).toNat (rd x31 x33)) x31 x32 (wrap64 (x33 + 1))) else (none)) else (none))) else (none)) else (none)) else ((kotatsuref01_Cut.f k x0 100).bind fun t378 => (if (x9.length : Int) = 0 then (none) else (if 0 ≤ (Int.tmod (wrap64 (x2)) (x9.length : Int)) then (if (Int.tmod (wrap64 (x2)) (x9.length : Int)) ≤ (x9.length : Int) then ((some (([x9, t378, (x9.take ((Int.tmod (wrap64 (x2)) (x9.length : Int)) : Int).toNat)] : List (List Int)) : List (List Int))).bind fun y386 => (kotatsulaw07_GrooveReads.l1 k y386 (y386.length : Int) 0)) else (none)) else (none))))
def kotatsulaw07_GrooveReads.l1 : Nat → List (List Int) → Int → Int → Option (Bool)
 | 0, _, _, _ => none
 | k + 1, x59, x60, x61 => if x61 < x60 then (if 0 ≤ x61 then (if x61 < (x59.length : Int) then ((groove_Read.f k (rd_L1 x59 x61)).bind fun bt390 => ((kotatsuref07_Read.f k (rd_L1 x59 x61)).bind fun bt394 => (if bt390.2 = bt394.2 then ((kotatsulaw07_own.f k bt390.1).bind fun t398 => ((kotatsuref05_Same.f k t398 bt394.1).bind fun t401 => (if t401 = true then (kotatsulaw07_GrooveReads.l1 k x59 x60 (wrap64 (x61 + 1))) else (some false)))) else (some false)))) else (none)) else (none)) else (some true)
end
def kotatsulaw07_GrooveReads.f (k : Nat) (l0 : List Int) (l1 : List (List Int)) (a2 : Int) (a3 : Int) : Option (Bool) := (kotatsulaw07_awake.f k).bind fun t352 => (if t352 = true then ((kotatsulaw07_made.f k l1 0).bind fun t353 => ((kotatsulaw07_own.f k t353).bind fun t356 => ((kotatsuref07_Lay.f k t356).bind fun t359 => (if 0 ≤ (wrap64 (3500 - (wrap64 (a3)))) then (if (wrap64 (3500 - (wrap64 (a3)))) ≤ (t359.length : Int) then ((kotatsuref01_Join.f k (([(t359.drop ((wrap64 (3500 - (wrap64 (a3)))) : Int).toNat)] : List (List Int)))).bind fun t370 => ((kotatsuref01_Cut.f k l0 20).bind fun t373 => (kotatsulaw07_GrooveReads.l0 k l0 a2 t370 t373 (t373.length : Int) 0))) else (none)) else (none))))) else (some false))
def kotatsulaw07_GrooveReads.T9 : Bool × List (List Nat × List Nat) := (true, [([], []), ([], []), ([1], [1]), ([], []), ([], []), ([4], [4]), ([], []), ([6], [6]), ([5, 7], [5, 7]), ([3, 8], [3, 8]), ([0, 2, 9], [0, 2, 9]), ([10], [10]), ([], [])])
def kotatsulaw07_GrooveReads.B9 : List Nat := [0, 0, 2, 0, 0, 16, 0, 64, 240, 504, 1023, 2047, 0]
theorem kotatsulaw07_GrooveReads.tab9 : rtab .any (opsOf Try.f4 9) = kotatsulaw07_GrooveReads.T9 := by kernel_rfl
theorem kotatsulaw07_GrooveReads.bits9 : waitsOk kotatsulaw07_GrooveReads.T9.2 kotatsulaw07_GrooveReads.B9 = true := by kernel_rfl
set_option maxHeartbeats 8000000 in
set_option maxRecDepth 100000 in
theorem kotatsulaw07_GrooveReads.calls (k : Nat) (A0 : Option Addr) (c0 : Nat) (l0 : List Int) (A1 : Option Addr) (c1 : Nat) (l1 : List (List Int)) (a2 : Int) (a3 : Int) (r : Bool) (w : World) (hr0 : Kd.C (Kd.int .u8) w A0 l0.length l0) (hc0 : l0.length ≤ c0) (hr1 : Kd.C (Kd.slice 5 (Kd.int .u8)) w A1 l1.length l1) (hc1 : l1.length ≤ c1) (h : kotatsulaw07_GrooveReads.f k l0 l1 a2 a3 = some r) :
  Calls Try.prog 4 #[.slice A0 l0.length c0, .slice A1 l1.length c1, .int .u16 a2, .int .u8 a3] w fun e w' => e = .returned (.bool r) ∧ Below w.heap.size w w' := by
 have HR0 := Aside0.mk hr0
 have HC0 := Aside0.mk hc0
 clear hr0 hc0
 have HR1 := Aside0.mk hr1
 have HC1 := Aside0.mk hc1
 clear hr1 hc1
 have HB := Aside0.mk (Below.refl w.heap.size w)
 have H : ((kotatsulaw07_awake.f k).bind fun t352 => (if t352 = true then ((kotatsulaw07_made.f k l1 0).bind fun t353 => ((kotatsulaw07_own.f k t353).bind fun t356 => ((kotatsuref07_Lay.f k t356).bind fun t359 => (if 0 ≤ (wrap64 (3500 - (wrap64 (a3)))) then (if (wrap64 (3500 - (wrap64 (a3)))) ≤ (t359.length : Int) then ((kotatsuref01_Join.f k (([(t359.drop ((wrap64 (3500 - (wrap64 (a3)))) : Int).toNat)] : List (List Int)))).bind fun t370 => ((kotatsuref01_Cut.f k l0 20).bind fun t373 => (kotatsulaw07_GrooveReads.l0 k l0 a2 t370 t373 (t373.length : Int) 0))) else (none)) else (none))))) else (some false))) = some r := h
 clear h
 replace H := Option.bind_eq_some_iff.mp H
 obtain ⟨t352, A50, H⟩ := H
 replace H : (if t352 = true then ((kotatsulaw07_made.f k l1 0).bind fun t353 => ((kotatsulaw07_own.f k t353).bind fun t356 => ((kotatsuref07_Lay.f k t356).bind fun t359 => (if 0 ≤ (wrap64 (3500 - (wrap64 (a3)))) then (if (wrap64 (3500 - (wrap64 (a3)))) ≤ (t359.length : Int) then ((kotatsuref01_Join.f k (([(t359.drop ((wrap64 (3500 - (wrap64 (a3)))) : Int).toNat)] : List (List Int)))).bind fun t370 => ((kotatsuref01_Cut.f k l0 20).bind fun t373 => (kotatsulaw07_GrooveReads.l0 k l0 a2 t370 t373 (t373.length : Int) 0))) else (none)) else (none))))) else (some false)) = some r := H
 have A5 := Aside0.mk A50
 clear A50
 by_cases c6 : t352 = true
 ·subst c6
  have H1 : ((kotatsulaw07_made.f k l1 0).bind fun t353 => ((kotatsulaw07_own.f k t353).bind fun t356 => ((kotatsuref07_Lay.f k t356).bind fun t359 => (if 0 ≤ (wrap64 (3500 - (wrap64 (a3)))) then (if (wrap64 (3500 - (wrap64 (a3)))) ≤ (t359.length : Int) then ((kotatsuref01_Join.f k (([(t359.drop ((wrap64 (3500 - (wrap64 (a3)))) : Int).toNat)] : List (List Int)))).bind fun t370 => ((kotatsuref01_Cut.f k l0 20).bind fun t373 => (kotatsulaw07_GrooveReads.l0 k l0 a2 t370 t373 (t373.length : Int) 0))) else (none)) else (none))))) = some r := by rw [if_pos rfl] at H; exact H
  clear H
  have H := H1
  clear H1
  replace H := Option.bind_eq_some_iff.mp H
  obtain ⟨t353, A70, H⟩ := H
  replace H : ((kotatsulaw07_own.f k t353).bind fun t356 => ((kotatsuref07_Lay.f k t356).bind fun t359 => (if 0 ≤ (wrap64 (3500 - (wrap64 (a3)))) then (if (wrap64 (3500 - (wrap64 (a3)))) ≤ (t359.length : Int) then ((kotatsuref01_Join.f k (([(t359.drop ((wrap64 (3500 - (wrap64 (a3)))) : Int).toNat)] : List (List Int)))).bind fun t370 => ((kotatsuref01_Cut.f k l0 20).bind fun t373 => (kotatsulaw07_GrooveReads.l0 k l0 a2 t370 t373 (t373.length : Int) 0))) else (none)) else (none)))) = some r := H
  have A7 := Aside0.mk A70
  clear A70
  replace H := Option.bind_eq_some_iff.mp H
  obtain ⟨t356, A80, H⟩ := H
  replace H : ((kotatsuref07_Lay.f k t356).bind fun t359 => (if 0 ≤ (wrap64 (3500 - (wrap64 (a3)))) then (if (wrap64 (3500 - (wrap64 (a3)))) ≤ (t359.length : Int) then ((kotatsuref01_Join.f k (([(t359.drop ((wrap64 (3500 - (wrap64 (a3)))) : Int).toNat)] : List (List Int)))).bind fun t370 => ((kotatsuref01_Cut.f k l0 20).bind fun t373 => (kotatsulaw07_GrooveReads.l0 k l0 a2 t370 t373 (t373.length : Int) 0))) else (none)) else (none))) = some r := H
  have A8 := Aside0.mk A80
  clear A80
  replace H := Option.bind_eq_some_iff.mp H
  obtain ⟨t359, A90, H⟩ := H
  replace H : (if 0 ≤ (wrap64 (3500 - (wrap64 (a3)))) then (if (wrap64 (3500 - (wrap64 (a3)))) ≤ (t359.length : Int) then ((kotatsuref01_Join.f k (([(t359.drop ((wrap64 (3500 - (wrap64 (a3)))) : Int).toNat)] : List (List Int)))).bind fun t370 => ((kotatsuref01_Cut.f k l0 20).bind fun t373 => (kotatsulaw07_GrooveReads.l0 k l0 a2 t370 t373 (t373.length : Int) 0))) else (none)) else (none)) = some r := H
  have A9 := Aside0.mk A90
  clear A90
  obtain ⟨ji10, hji10⟩ : ∃ j_ : Int, (wrap64 (3500 - (wrap64 (a3)))) = j_ := ⟨_, rfl⟩
  replace H : (if 0 ≤ (ji10) then (if (ji10) ≤ (t359.length : Int) then ((kotatsuref01_Join.f k (([(t359.drop ((ji10) : Int).toNat)] : List (List Int)))).bind fun t370 => ((kotatsuref01_Cut.f k l0 20).bind fun t373 => (kotatsulaw07_GrooveReads.l0 k l0 a2 t370 t373 (t373.length : Int) 0))) else (none)) else (none)) = some r := by first | (rw [hji10] at H; exact H) | (simp only [hji10] at H ⊢; exact H)
  (try rw [hji10] at A5)
  (try rw [hji10] at A7)
  (try rw [hji10] at A8)
  (try rw [hji10] at A9)
  have hji10w : (IntKind.i64.wrap (3500 - (wrap64 (a3)))) = ji10 := (i64_w _).trans hji10
  by_cases c11 : 0 ≤ (ji10)
  ·rw [if_pos c11] at H
   have c11b0 := eq_true c11
   have c11b1 : decide (0 ≤ (ji10)) = true := decide_eq_true c11
   clear c11
   by_cases c12 : (ji10) ≤ (t359.length : Int)
   ·rw [if_pos c12] at H
    have c12b0 := eq_true c12
    have c12b1 : decide ((ji10) ≤ (t359.length : Int)) = true := decide_eq_true c12
    clear c12
    obtain ⟨y362, hy362⟩ : ∃ y_ : List Int, y_ = (t359.drop ((ji10) : Int).toNat) := ⟨_, rfl⟩
    replace H : ((kotatsuref01_Join.f k (([y362] : List (List Int)))).bind fun t370 => ((kotatsuref01_Cut.f k l0 20).bind fun t373 => (kotatsulaw07_GrooveReads.l0 k l0 a2 t370 t373 (t373.length : Int) 0))) = some r := by first | (rw [hy362]; with_reducible exact H) | (have H2_ := (Option.bind_some _ _).symm.trans H; rw [hy362]; with_reducible exact H2_) | (have H2_ := (Option.bind_some _ _).symm.trans H; with_reducible exact H2_) | with_reducible exact H | (rw [hy362]; exact H) | exact H
    have Ny362 := Aside0.mk hy362
    clear hy362
    obtain ⟨y367, hy367⟩ : ∃ y_ : List (List Int), y_ = (([y362] : List (List Int))) := ⟨_, rfl⟩
    replace H : ((kotatsuref01_Join.f k y367).bind fun t370 => ((kotatsuref01_Cut.f k l0 20).bind fun t373 => (kotatsulaw07_GrooveReads.l0 k l0 a2 t370 t373 (t373.length : Int) 0))) = some r := by first | (rw [hy367]; with_reducible exact H) | (have H2_ := (Option.bind_some _ _).symm.trans H; rw [hy367]; with_reducible exact H2_) | (have H2_ := (Option.bind_some _ _).symm.trans H; with_reducible exact H2_) | with_reducible exact H | (rw [hy367]; exact H) | exact H
    have Ny367 := Aside0.mk hy367
    clear hy367
    replace H := Option.bind_eq_some_iff.mp H
    obtain ⟨t370, A130, H⟩ := H
    replace H : ((kotatsuref01_Cut.f k l0 20).bind fun t373 => (kotatsulaw07_GrooveReads.l0 k l0 a2 t370 t373 (t373.length : Int) 0)) = some r := H
    have A13 := Aside0.mk A130
    clear A130
    replace H := Option.bind_eq_some_iff.mp H
    obtain ⟨t373, A140, H⟩ := H
    replace H : (kotatsulaw07_GrooveReads.l0 k l0 a2 t370 t373 (t373.length : Int) 0) = some r := H
    have A14 := Aside0.mk A140
    clear A140
    have H' := Aside0.mk H
    clear H
    go_enter Try.func4, Try.ntmps4
    go_wp2_with (first | ((with_reducible refine gate_callee (f := 7) rfl ?_); refine goesL_ (some 18) rfl rfl Try.func7 (by kernel_rfl) rfl #[] rfl (by (try simp only [List.map_toArray, List.map_cons, List.map_nil]); first | done | rfl | (simp only [List.length_drop, List.length_take]; rfl)) ?_; (with_reducible refine (kotatsulaw07_awake.calls k  true _ A5.out).mono ?_); rintro e w15 ⟨rfl, hb⟩; refine ⟨_, rfl, ?_⟩; have n0_ := Aside0.mk (below_step (by repeat (first | (with_reducible first | exact HB.out | apply below_alloc | apply pw_below_drewN | apply below_drew1) | exact HB.out)) hb); clear HB; have HB := n0_; clear n0_; (try clear hb); (try clear hb2); (try clear hk); (try clear hi)) | ((with_reducible refine gate_callee (f := 14) rfl ?_); refine goesL_ (some 21) rfl rfl Try.func14 (by kernel_rfl) rfl #[.slice A1 l1.length c1, .int .u8 0] rfl (by (try simp only [List.map_toArray, List.map_cons, List.map_nil]); first | done | rfl | (simp only [List.length_drop, List.length_take]; rfl)) ?_; (with_reducible refine (kotatsulaw07_made.calls k _ _ l1 0 t353 _ ?side1 ?side2 A7.out).mono ?_); (case side1 => repeat (first | exact (Kd.C_below HR1.out HB.out) | (with_reducible refine Kd.C_alloc ?_ _) | (with_reducible refine Kd.C_drewN ?_ _) | (with_reducible refine Kd.C_drew ?_))); (case side2 => exact HC1.out); rintro e w16 ⟨v354, rfl, ho0, hb⟩; refine ⟨_, rfl, ?_⟩; have n0_ := Aside0.mk (Kd.N_lower (Kd.N_mono (ok' := fun k_ => True) ho0 (fun k_ hk_ => trivial)) (below_size (by repeat (first | (with_reducible first | exact HB.out | apply below_alloc | apply pw_below_drewN | apply below_drew1) | exact HB.out)))); have n1_ := Aside0.mk (below_step (by repeat (first | (with_reducible first | exact HB.out | apply below_alloc | apply pw_below_drewN | apply below_drew1) | exact HB.out)) hb); clear HB; have HO355 := n0_; have HB := n1_; clear n0_ n1_; (try clear hb); (try clear hb2); (try clear hk); (try clear hi); (try clear ho0); obtain ⟨Ao17, co17, eo17⟩ := Kd.N_slice HO355.out; subst eo17) | ((with_reducible refine gate_callee (f := 13) rfl ?_); refine goesL_ (some 22) rfl rfl Try.func13 (by kernel_rfl) rfl #[.slice Ao17 t353.length co17] rfl (by (try simp only [List.map_toArray, List.map_cons, List.map_nil]); first | done | rfl | (simp only [List.length_drop, List.length_take]; rfl)) ?_; (with_reducible refine (kotatsulaw07_own.calls k (fun k_ => True) _ _ t353 t356 _ ?side1 A8.out).mono ?_); (case side1 => exact Kd.N_V (HO355.out)); rintro e w18 ⟨v357, rfl, ho0, hb⟩; refine ⟨_, rfl, ?_⟩; have n0_ := Aside0.mk (Kd.N_elder' (by (with_reducible repeat (first | apply Kd.N_alloc | apply Kd.N_drewN | apply Kd.N_drew)); exact HO355.out) (Kd.N_base ho0) hb); have n1_ := Aside0.mk (Kd.N_lower (Kd.N_mono (ok' := fun k_ => True) ho0 (fun k_ hk_ => trivial)) (below_size (by repeat (first | (with_reducible first | exact HB.out | apply below_alloc | apply pw_below_drewN | apply below_drew1) | exact HB.out)))); have n2_ := Aside0.mk (below_step (by repeat (first | (with_reducible first | exact HB.out | apply below_alloc | apply pw_below_drewN | apply below_drew1) | exact HB.out)) hb); clear HO355; clear HB; have HO355 := n0_; have HO358 := n1_; have HB := n2_; clear n0_ n1_ n2_; (try clear hb); (try clear hb2); (try clear hk); (try clear hi); (try clear ho0); obtain ⟨Ao19, co19, eo19⟩ := Kd.N_slice HO358.out; subst eo19) | ((with_reducible refine gate_callee (f := 12) rfl ?_); refine goesL_ (some 23) rfl rfl Try.func12 (by kernel_rfl) rfl #[.slice Ao19 t356.length co19] rfl (by (try simp only [List.map_toArray, List.map_cons, List.map_nil]); first | done | rfl | (simp only [List.length_drop, List.length_take]; rfl)) ?_; (with_reducible refine (kotatsuref07_Lay.calls k (fun k_ => True) _ _ t356 t359 _ ?side1 A9.out).mono ?_); (case side1 => exact Kd.N_V (HO358.out)); rintro e w20 ⟨v360, rfl, ho0, hb⟩; refine ⟨_, rfl, ?_⟩; have n0_ := Aside0.mk (Kd.N_elder' (by (with_reducible repeat (first | apply Kd.N_alloc | apply Kd.N_drewN | apply Kd.N_drew)); exact HO355.out) (Kd.R_base ho0) hb); have n1_ := Aside0.mk (Kd.N_elder' (by (with_reducible repeat (first | apply Kd.N_alloc | apply Kd.N_drewN | apply Kd.N_drew)); exact HO358.out) (Kd.R_base ho0) hb); have n2_ := Aside0.mk (Kd.R_lower (Kd.R_mono (ok' := fun k_ => True) ho0 (fun _ hk_ => trivial)) (below_size (by repeat (first | (with_reducible first | exact HB.out | apply below_alloc | apply pw_below_drewN | apply below_drew1) | exact HB.out)))); have n3_ := Aside0.mk (below_step (by repeat (first | (with_reducible first | exact HB.out | apply below_alloc | apply pw_below_drewN | apply below_drew1) | exact HB.out)) hb); clear HO355; clear HO358; clear HB; have HO355 := n0_; have HO358 := n1_; have HO361 := n2_; have HB := n3_; clear n0_ n1_ n2_ n3_; (try clear hb); (try clear hb2); (try clear hk); (try clear hi); (try clear ho0); obtain ⟨Ao22, co22, eo22⟩ := Kd.R_slice HO361.out; subst eo22; have q21 : ((ji10) : Int) ≤ ((t359.length : Int) : Int) := of_decide_eq_true (by first | (with_reducible assumption) | assumption); obtain ⟨i021, hi021, _, hsz21, _⟩ := info_parts info5; have hroom21 : t359.length ≤ co22 := (Kd.R_reads' HO361.out).2.1; have hC21 : Kd.F (Kd.int .u8) _ _ Ao22 t359.length t359 := (Kd.V_at (base := w.heap.size) (Kd.R_V (Kd.R_apart' (Kd.R_apart' (HO361.out) (Kd.N_typed HO355.out) (by decide)) (Kd.N_typed HO358.out) (by decide)))).2.2; have q021 : (0 : Int) ≤ ((ji10) : Int) := of_decide_eq_true (by first | (with_reducible assumption) | assumption); have hcut21 := cut_from (P := Try.prog) 22 5 .i64 Try.underlying22 hi021 1 hsz21 Ao22 t359.length co22 (ji10) q021 q21; have hr21 := Kd.F_cut (m := ((ji10) : Int).toNat) (c := co22) hC21 (by omega) hroom21; obtain ⟨A21, hA21⟩ : ∃ A1, A1 = (if co22 = ((ji10) : Int).toNat then Ao22 else (Ao22 : Option Addr).map (·.add (((ji10) : Int).toNat * 1))) := ⟨_, rfl⟩; obtain ⟨c21, hc21⟩ : ∃ c1, c1 = co22 - ((ji10) : Int).toNat := ⟨_, rfl⟩; have hy21 : y362.length = t359.length - ((ji10) : Int).toNat := (by rw [Ny362.out, List.length_drop] <;> omega); rw [show (t359).drop ((ji10) : Int).toNat = y362 from Ny362.out.symm] at hr21; replace hr21 : Kd.F (Kd.int .u8) _ _ A21 y362.length y362 := (by rw [hA21]; exact hr21); rw [← hy21, ← hA21, ← hc21] at hcut21; have HO366 := Aside0.mk (show Kd.V (Kd.int .u8) 5 _ w.heap.size _ (.slice A21 y362.length c21) y362 from Kd.V_mk (by rw [hy21, hc21]; exact Nat.sub_le_sub_right hroom21 _) hr21); have HC366 := Aside0.mk (show y362.length ≤ c21 from by rw [hy21, hc21]; exact Nat.sub_le_sub_right hroom21 _); clear hr21 hC21 hroom21 hi021 hsz21 hc21; have KY21 := Aside0.mk hy21; have KA21 := Aside0.mk hA21; clear hy21 hA21; replace q21 := eq_true q21) | ((with_reducible refine gate_dst (N := 28) rfl ?_); refine Kd.N_lit (Kd.slice 5 (Kd.int .u8)) _ 22 ?hg (N' := 28) ?hd (xs := ([y362] : List (List Int))) (inner := [.slice A21 y362.length c21]) (ok := (fun k_ => some k_ ≠ (.slice Ao17 t353.length co17 : Value).ownBlock ∧ some k_ ≠ (.slice Ao19 t356.length co19 : Value).ownBlock)) (okp := (fun k_ => some k_ ≠ (.slice Ao17 t353.length co17 : Value).ownBlock ∧ some k_ ≠ (.slice Ao19 t356.length co19 : Value).ownBlock)) ?hr ?hp (fun _ hk => hk) ((show ∀ k_, w20.heap.size ≤ k_ → (fun k_ => some k_ ≠ (.slice Ao17 t353.length co17 : Value).ownBlock ∧ some k_ ≠ (.slice Ao19 t356.length co19 : Value).ownBlock) k_ from fun k_ hk => ⟨Kd.fresh' (Kd.N_lt (by (with_reducible repeat (first | apply Kd.N_alloc | apply Kd.N_drewN | apply Kd.N_drew)); exact HO355.out)) k_ hk, Kd.fresh' (Kd.N_lt (by (with_reducible repeat (first | apply Kd.N_alloc | apply Kd.N_drewN | apply Kd.N_drew)); exact HO358.out)) k_ hk⟩) _ (Nat.le_refl _)) (Below.refl _ _) (Nat.le_refl _) (by simp) ?_; (case hd => rfl); (case hg => rfl); (case hr => first | (go_simp; done) | (go_simp; rfl)); (case hp => exact (Reps.one (show Kd.FK (Kd.slice 5 (Kd.int .u8)) _ _ y362 [.slice A21 y362.length c21] from (Kd.FK_slice_mk (Kd.V_reads' (e := 5) (base := w.heap.size) (Kd.V_mono (e := 5) (base := w.heap.size) (ok' := (fun k_ => some k_ ≠ (.slice Ao17 t353.length co17 : Value).ownBlock ∧ some k_ ≠ (.slice Ao19 t356.length co19 : Value).ownBlock)) (HO366.out) (fun k_ hk => ⟨hk.1.2, hk.2⟩))).2.1 (Kd.V_F (e := 5) (base := w.heap.size) (Kd.V_mono (e := 5) (base := w.heap.size) (ok' := (fun k_ => some k_ ≠ (.slice Ao17 t353.length co17 : Value).ownBlock ∧ some k_ ≠ (.slice Ao19 t356.length co19 : Value).ownBlock)) (HO366.out) (fun k_ hk => ⟨hk.1.2, hk.2⟩))))) (Reps.none _ _))); intro v368 w23 ho24 hb hg_ hnew_; clear hg_ hnew_; (first | rw [← Ny367.out] at ho24 | (simp only [Int.reduceToNat] at ho24; rw [← Ny367.out] at ho24)); have n0_ := Aside0.mk (Kd.N_elder' (by (with_reducible repeat (first | apply Kd.N_alloc | apply Kd.N_drewN | apply Kd.N_drew)); exact HO355.out) (Kd.N_base ho24) hb); have n1_ := Aside0.mk (Kd.N_elder' (by (with_reducible repeat (first | apply Kd.N_alloc | apply Kd.N_drewN | apply Kd.N_drew)); exact HO358.out) (Kd.N_base ho24) hb); have n2_ := Aside0.mk (Kd.R_below (by (with_reducible repeat (first | apply Kd.R_alloc | apply Kd.R_drewN | apply Kd.R_drew)); exact HO361.out) hb); have n3_ := Aside0.mk (Kd.V_elder' (by (with_reducible repeat (first | apply Kd.V_alloc | apply Kd.V_drewN | apply Kd.V_drew)); exact HO366.out) (Kd.N_base ho24) hb); have n4_ := Aside0.mk (Kd.N_lower ho24 (below_size (by repeat (first | (with_reducible first | exact HB.out | apply below_alloc | apply pw_below_drewN | apply below_drew1) | exact HB.out)))); have n5_ := Aside0.mk (below_step (by repeat (first | (with_reducible first | exact HB.out | apply below_alloc | apply pw_below_drewN | apply below_drew1) | exact HB.out)) hb); clear HO355; clear HO358; clear HO361; clear HO366; clear HB; have HO355 := n0_; have HO358 := n1_; have HO361 := n2_; have HO366 := n3_; have HO369 := n4_; have HB := n5_; clear n0_ n1_ n2_ n3_ n4_ n5_; clear hb ho24; obtain ⟨Ao25, co25, eo25⟩ := Kd.N_slice HO369.out; subst eo25) | ((with_reducible refine gate_callee (f := 9) rfl ?_); refine goesL_ (some 29) rfl rfl Try.func9 (by kernel_rfl) rfl #[.slice Ao25 y367.length co25] rfl (by (try simp only [List.map_toArray, List.map_cons, List.map_nil]); first | done | rfl | (simp only [List.length_drop, List.length_take]; rfl)) ?_; (with_reducible refine (kotatsuref01_Join.calls k _ _ y367 t370 _ ?side1 ?side2 A13.out).mono ?_); (case side1 => repeat (first | exact (Kd.N_reads' HO369.out).2.2 | (with_reducible refine Kd.C_alloc ?_ _) | (with_reducible refine Kd.C_drewN ?_ _) | (with_reducible refine Kd.C_drew ?_))); (case side2 => exact (Kd.N_reads' HO369.out).2.1); rintro e w26 ⟨v371, rfl, ho0, hb⟩; refine ⟨_, rfl, ?_⟩; have n0_ := Aside0.mk (Kd.N_elder' (by (with_reducible repeat (first | apply Kd.N_alloc | apply Kd.N_drewN | apply Kd.N_drew)); exact HO355.out) (Kd.R_base ho0) hb); have n1_ := Aside0.mk (Kd.N_elder' (by (with_reducible repeat (first | apply Kd.N_alloc | apply Kd.N_drewN | apply Kd.N_drew)); exact HO358.out) (Kd.R_base ho0) hb); have n2_ := Aside0.mk (Kd.R_elder' (by (with_reducible repeat (first | apply Kd.R_alloc | apply Kd.R_drewN | apply Kd.R_drew)); exact HO361.out) (Kd.R_base ho0) hb); have n3_ := Aside0.mk (Kd.V_elder' (by (with_reducible repeat (first | apply Kd.V_alloc | apply Kd.V_drewN | apply Kd.V_drew)); exact HO366.out) (Kd.R_base ho0) hb); have n4_ := Aside0.mk (Kd.N_elder' (by (with_reducible repeat (first | apply Kd.N_alloc | apply Kd.N_drewN | apply Kd.N_drew)); exact HO369.out) (Kd.R_base ho0) hb); have n5_ := Aside0.mk (Kd.R_lower (Kd.R_new' ho0 (Kd.R_lt (by (with_reducible repeat (first | apply Kd.R_alloc | apply Kd.R_drewN | apply Kd.R_drew)); exact HO361.out))) (below_size (by repeat (first | (with_reducible first | exact HB.out | apply below_alloc | apply pw_below_drewN | apply below_drew1) | exact HB.out)))); have n6_ := Aside0.mk (below_step (by repeat (first | (with_reducible first | exact HB.out | apply below_alloc | apply pw_below_drewN | apply below_drew1) | exact HB.out)) hb); clear HO355; clear HO358; clear HO361; clear HO366; clear HO369; clear HB; have HO355 := n0_; have HO358 := n1_; have HO361 := n2_; have HO366 := n3_; have HO369 := n4_; have HO372 := n5_; have HB := n6_; clear n0_ n1_ n2_ n3_ n4_ n5_ n6_; (try clear hb); (try clear hb2); (try clear hk); (try clear hi); (try clear ho0)) | ((with_reducible refine gate_callee (f := 8) rfl ?_); refine goesL_ (some 31) rfl rfl Try.func8 (by kernel_rfl) rfl #[.slice A0 l0.length c0, .int .i64 20] rfl (by (try simp only [List.map_toArray, List.map_cons, List.map_nil]); first | done | rfl | (simp only [List.length_drop, List.length_take]; rfl)) ?_; (with_reducible refine (kotatsuref01_Cut.calls k _ _ l0 20 t373 _ ?side1 ?side2 A14.out).mono ?_); (case side1 => repeat (first | exact (Kd.C_below HR0.out HB.out) | (with_reducible refine Kd.C_alloc ?_ _) | (with_reducible refine Kd.C_drewN ?_ _) | (with_reducible refine Kd.C_drew ?_))); (case side2 => exact HC0.out); rintro e w27 ⟨v374, rfl, ho0, hb⟩; refine ⟨_, rfl, ?_⟩; have n0_ := Aside0.mk (Kd.N_below (by (with_reducible repeat (first | apply Kd.N_alloc | apply Kd.N_drewN | apply Kd.N_drew)); exact HO355.out) hb); have n1_ := Aside0.mk (Kd.N_below (by (with_reducible repeat (first | apply Kd.N_alloc | apply Kd.N_drewN | apply Kd.N_drew)); exact HO358.out) hb); have n2_ := Aside0.mk (Kd.R_below (by (with_reducible repeat (first | apply Kd.R_alloc | apply Kd.R_drewN | apply Kd.R_drew)); exact HO361.out) hb); have n3_ := Aside0.mk (Kd.V_below (by (with_reducible repeat (first | apply Kd.V_alloc | apply Kd.V_drewN | apply Kd.V_drew)); exact HO366.out) hb); have n4_ := Aside0.mk (Kd.N_below (by (with_reducible repeat (first | apply Kd.N_alloc | apply Kd.N_drewN | apply Kd.N_drew)); exact HO369.out) hb); have n5_ := Aside0.mk (Kd.R_below (by (with_reducible repeat (first | apply Kd.R_alloc | apply Kd.R_drewN | apply Kd.R_drew)); exact HO372.out) hb); have n6_ := Aside0.mk (Kd.V_lower (Kd.V_mono (ok' := fun k_ => some k_ ≠ (.slice Ao17 t353.length co17 : Value).ownBlock ∧ some k_ ≠ (.slice Ao19 t356.length co19 : Value).ownBlock ∧ some k_ ≠ (.slice Ao22 t359.length co22 : Value).ownBlock ∧ some k_ ≠ (.slice Ao25 y367.length co25 : Value).ownBlock ∧ some k_ ≠ (v371 : Value).ownBlock) ho0 (fun k_ hk_ => ⟨(Kd.fresh' (Kd.N_lt (by (with_reducible repeat (first | apply Kd.N_alloc | apply Kd.N_drewN | apply Kd.N_drew)); exact HO355.out)) k_ hk_), (Kd.fresh' (Kd.N_lt (by (with_reducible repeat (first | apply Kd.N_alloc | apply Kd.N_drewN | apply Kd.N_drew)); exact HO358.out)) k_ hk_), (Kd.fresh' (Kd.R_lt (by (with_reducible repeat (first | apply Kd.R_alloc | apply Kd.R_drewN | apply Kd.R_drew)); exact HO361.out)) k_ hk_), (Kd.fresh' (Kd.N_lt (by (with_reducible repeat (first | apply Kd.N_alloc | apply Kd.N_drewN | apply Kd.N_drew)); exact HO369.out)) k_ hk_), (Kd.fresh' (Kd.R_lt (by (with_reducible repeat (first | apply Kd.R_alloc | apply Kd.R_drewN | apply Kd.R_drew)); exact HO372.out)) k_ hk_)⟩)) (below_size (by repeat (first | (with_reducible first | exact HB.out | apply below_alloc | apply pw_below_drewN | apply below_drew1) | exact HB.out)))); have n7_ := Aside0.mk (below_step (by repeat (first | (with_reducible first | exact HB.out | apply below_alloc | apply pw_below_drewN | apply below_drew1) | exact HB.out)) hb); clear HO355; clear HO358; clear HO361; clear HO366; clear HO369; clear HO372; clear HB; have HO355 := n0_; have HO358 := n1_; have HO361 := n2_; have HO366 := n3_; have HO369 := n4_; have HO372 := n5_; have HO375 := n6_; have HB := n7_; clear n0_ n1_ n2_ n3_ n4_ n5_ n6_ n7_; (try clear hb); (try clear hb2); (try clear hk); (try clear hi); (try clear ho0); obtain ⟨Ao28, co28, eo28⟩ := Kd.V_slice HO375.out; subst eo28))
    go_loopg [33] k (fun kq v33 w' => ∃ (x9_1 : List Int) (x33_1 : Int), v33 = .int .i64 x33_1 ∧ Aside0 (kotatsulaw07_GrooveReads.l0 kq l0 a2 x9_1 t373 (t373.length : Int) x33_1 = some r) ∧ Aside0 (kq ≤ k) ∧ Aside0 (Kd.R (Kd.int .u8) 5 w' w.heap.size (fun _ => True) v371 x9_1) ∧ Aside0 (Kd.V (Kd.int .u8) 5 w' w.heap.size (fun k_ => some k_ ≠ (v371 : Value).ownBlock) (.slice Ao28 t373.length co28) t373) ∧ Aside0 (Below w.heap.size w w'))
    case atStart => exact ⟨(t370), (0), (by first | rfl | (simp; done) | (simp [*]; done)), H', ⟨Nat.le_refl _⟩, ⟨by (with_reducible repeat (first | apply Kd.R_alloc | apply Kd.R_drewN | apply Kd.R_drew)); exact Kd.R_mono HO372.out (fun _ hk => trivial)⟩, ⟨by (with_reducible repeat (first | apply Kd.V_alloc | apply Kd.V_drewN | apply Kd.V_drew)); exact Kd.V_mono HO375.out (fun _ hk => hk.2.2.2.2)⟩, ⟨by repeat (first | (with_reducible first | exact HB.out | apply below_alloc | apply pw_below_drewN | apply below_drew1) | exact HB.out)⟩⟩
    case round =>
     clear H'
     try clear c1
     try clear c2
     try clear p2
     try clear q2
     try clear c4
     try clear c6
     try clear p6
     try clear c7
     try clear c8
     try clear c9
     try clear c11
     try clear c11b0
     try clear c11b1
     try clear c12
     try clear c12b0
     try clear c12b1
     try clear c13
     try clear c14
     try clear c21
     try clear q21
     try clear q021
     try clear q21
     obtain ⟨x9_1, x33_1, rfl, HA, HK1, HO_9, HO_31, HB⟩ := hrel
     cases gk with
     | zero => exact absurd HA.out (by simp [kotatsulaw07_GrooveReads.l0])
     | succ k1 =>
      have H := HA.out
      clear HA
      simp only [kotatsulaw07_GrooveReads.l0] at H
      by_cases c29 : x33_1 < (t373.length : Int)
      ·rw [if_pos c29] at H
       have c29b0 : decide (x33_1 < (t373.length : Int)) = true := decide_eq_true c29
       clear c29
       by_cases c30 : 0 ≤ x33_1
       ·rw [if_pos c30] at H
        have c30b0 : decide (0 ≤ x33_1) = true := decide_eq_true c30
        clear c30
        by_cases c31 : x33_1 < (t373.length : Int)
        ·rw [if_pos c31] at H
         have c31b0 : decide (x33_1 < (t373.length : Int)) = true := decide_eq_true c31
         clear c31
         by_cases c32 : (x9_1.length : Int) = 0
         ·rw [if_pos c32] at H
          exact absurd H (by simp)
         ·rw [if_neg c32] at H
          have c32b0 : ((x9_1.length : Int) == 0) = false := beq_eq_false_iff_ne.mpr c32
          have c32b1 : ((x9_1.length : Int) != 0) = true := bne_iff_ne.mpr c32
          have c32b2 : ¬ (x9_1 = []) := fun h_ => c32 (by rw [h_]; rfl)
          obtain ⟨ji33, hji33⟩ : ∃ j_ : Int, (Int.tmod (wrap64 ((wrap64 (a2)) + x33_1)) (x9_1.length : Int)) = j_ := ⟨_, rfl⟩
          replace H : (if 0 ≤ (ji33) then (if (ji33) < (x9_1.length : Int) then (kotatsulaw07_GrooveReads.l0 k1 l0 a2 (x9_1.set ((ji33) : Int).toNat (rd t373 x33_1)) t373 (t373.length : Int) (wrap64 (x33_1 + 1))) else (none)) else (none)) = some r := by first | (rw [hji33] at H; exact H) | (simp only [hji33] at H ⊢; exact H)
          by_cases c34 : 0 ≤ (ji33)
          ·rw [if_pos c34] at H
           have c34b0 : decide (0 ≤ (ji33)) = true := decide_eq_true c34
           clear c34
           by_cases c35 : (ji33) < (x9_1.length : Int)
           ·rw [if_pos c35] at H
            have c35b0 : decide ((ji33) < (x9_1.length : Int)) = true := decide_eq_true c35
            clear c35
            obtain ⟨y377, hy377⟩ : ∃ y_ : List Int, y_ = (x9_1.set ((ji33) : Int).toNat (rd t373 x33_1)) := ⟨_, rfl⟩
            replace H : (kotatsulaw07_GrooveReads.l0 k1 l0 a2 y377 t373 (t373.length : Int) (wrap64 (x33_1 + 1))) = some r := by first | (rw [hy377]; with_reducible exact H) | (have H2_ := (Option.bind_some _ _).symm.trans H; rw [hy377]; with_reducible exact H2_) | (have H2_ := (Option.bind_some _ _).symm.trans H; with_reducible exact H2_) | with_reducible exact H | (rw [hy377]; exact H) | exact H
            have Ny377 := Aside0.mk hy377
            clear hy377
            have H' := Aside0.mk H
            clear H
            have p376 : 0 ≤ (x33_1 : Int) := of_decide_eq_true (by first | (with_reducible assumption) | assumption)
            have q376 : x33_1 < (t373.length : Int) := of_decide_eq_true (by first | (with_reducible assumption) | assumption)
            obtain ⟨ad376, e376, hx376_0⟩ := Kd.at_int (Kd.V_reads' HO_31.out).2.2 x33_1 p376 q376
            cases e376
            replace p376 := eq_true p376
            replace q376 := eq_true q376
            obtain ⟨Ao37, co37, eo37⟩ := Kd.R_slice HO_9.out
            subst eo37
            have p36 : 0 ≤ ((ji33) : Int) := of_decide_eq_true (by first | (with_reducible assumption) | assumption)
            have q36 : ((ji33) : Int) < ((x9_1.length : Int) : Int) := of_decide_eq_true (by first | (with_reducible assumption) | assumption)
            obtain ⟨go36, co36, eo36, gb36, gl36, cl36, HG36⟩ := Kd.R_form HO_9.out (by omega)
            (first | cases eo36 | (injection eo36 with ea_ en_ ec_; (first | subst ea_ | (injection ea_ with ea_; subst ea_)); subst ec_; clear en_))
            have GB36 := Aside0.mk gb36
            have GG36 := Aside0.mk HG36
            clear gb36 gl36 HG36
            obtain ⟨hx36_0, hf36_0⟩ := Kd.R_celln 0 HO_9.out ((ji33) : Int) p36 q36
            replace p36 := eq_true p36
            replace q36 := eq_true q36
            have HP38 := Kd.R_putg HO_9.out ((ji33) : Int) (rd t373 x33_1)
            go_wp2_with (first | ((with_reducible refine gate_store (t := 5) (p := 47) rfl ?_); refine store_event (t := 5) (p := 47) (v := ?vo_w39) (w1 := (wr.setCell ⟨go36, ((ji33) : Int).toNat, none⟩ (.int .u8 (rd t373 x33_1)))) ?hg ?ho ?hn ?hr ?_; (case ho => rfl); (case hg => rfl); (case hn => rfl); (case hr => first | (go_simp; done) | (go_simp; rfl)); intro w39 hw; have hg : wr.grownBy w39 (some go36) := (by rw [hw]; exact HP38.2); have hp_ : Kd.R (Kd.int .u8) 5 w39 w.heap.size (fun _ => True) (.slice (some ⟨go36, 0, none⟩) x9_1.length co37) y377 := (by rw [hw, Ny377.out]; exact HP38.1); clear HP38; have n0_ := Aside0.mk (hp_); have n1_ := Aside0.mk (Kd.V_afterv (v := (.slice (some ⟨go36, 0, none⟩) x9_1.length co37)) (v1 := (.slice (some ⟨go36, 0, none⟩) x9_1.length co37)) (ok := (fun _ => True)) (by (with_reducible repeat (first | apply Kd.V_alloc | apply Kd.V_drewN | apply Kd.V_drew)); exact Kd.V_mono HO_31.out (fun _ hk => ⟨trivial, hk⟩)) hg (.inl rfl)); have n2_ := Aside0.mk ((by rw [hw]; exact below_set (HB.out) GB36.out : Below w.heap.size w w39)); clear HO_9; clear HO_31; clear HB; have HO_9 := n0_; have HO_31 := n1_; have HB := n2_; clear n0_ n1_ n2_; clear hg hw hp_))
            go_roundg k1
            case measure => have := HK1.out; omega
            case rel => exact ⟨(y377), (wrap64 (x33_1 + 1)), (by first | rfl | (simp; done) | (simp [*]; done)), H', ⟨by have := HK1.out; omega⟩, ⟨by (with_reducible repeat (first | apply Kd.R_alloc | apply Kd.R_drewN | apply Kd.R_drew)); exact HO_9.out⟩, ⟨by (with_reducible repeat (first | apply Kd.V_alloc | apply Kd.V_drewN | apply Kd.V_drew)); exact Kd.V_mono HO_31.out (fun _ hk => hk.2)⟩, ⟨by repeat (first | (with_reducible first | exact HB.out | apply below_alloc | apply pw_below_drewN | apply below_drew1) | exact HB.out)⟩⟩
           ·rw [if_neg c35] at H
            exact absurd H (by simp)
          ·rw [if_neg c34] at H
           exact absurd H (by simp)
        ·rw [if_neg c31] at H
         exact absurd H (by simp)
       ·rw [if_neg c30] at H
        exact absurd H (by simp)
      ·rw [if_neg c29] at H
       have c29b0 : decide (x33_1 < (t373.length : Int)) = false := decide_eq_false c29
       clear c29
       replace H := Option.bind_eq_some_iff.mp H
       obtain ⟨t378, A400, H⟩ := H
       replace H : (if (x9_1.length : Int) = 0 then (none) else (if 0 ≤ (Int.tmod (wrap64 (a2)) (x9_1.length : Int)) then (if (Int.tmod (wrap64 (a2)) (x9_1.length : Int)) ≤ (x9_1.length : Int) then ((some (([x9_1, t378, (x9_1.take ((Int.tmod (wrap64 (a2)) (x9_1.length : Int)) : Int).toNat)] : List (List Int)) : List (List Int))).bind fun y386 => (kotatsulaw07_GrooveReads.l1 k1 y386 (y386.length : Int) 0)) else (none)) else (none))) = some r := H
       have A40 := Aside0.mk A400
       clear A400
       by_cases c41 : (x9_1.length : Int) = 0
       ·rw [if_pos c41] at H
        exact absurd H (by simp)
       ·rw [if_neg c41] at H
        have c41b0 : ((x9_1.length : Int) == 0) = false := beq_eq_false_iff_ne.mpr c41
        have c41b1 : ((x9_1.length : Int) != 0) = true := bne_iff_ne.mpr c41
        have c41b2 : ¬ (x9_1 = []) := fun h_ => c41 (by rw [h_]; rfl)
        obtain ⟨ji42, hji42⟩ : ∃ j_ : Int, (Int.tmod (wrap64 (a2)) (x9_1.length : Int)) = j_ := ⟨_, rfl⟩
        replace H : (if 0 ≤ (ji42) then (if (ji42) ≤ (x9_1.length : Int) then ((some (([x9_1, t378, (x9_1.take ((ji42) : Int).toNat)] : List (List Int)) : List (List Int))).bind fun y386 => (kotatsulaw07_GrooveReads.l1 k1 y386 (y386.length : Int) 0)) else (none)) else (none)) = some r := by first | (rw [hji42] at H; exact H) | (simp only [hji42] at H ⊢; exact H)
        (try rw [hji42] at A40)
        by_cases c43 : 0 ≤ (ji42)
        ·rw [if_pos c43] at H
         have c43b0 := eq_true c43
         have c43b1 : decide (0 ≤ (ji42)) = true := decide_eq_true c43
         clear c43
         by_cases c44 : (ji42) ≤ (x9_1.length : Int)
         ·rw [if_pos c44] at H
          have c44b0 := eq_true c44
          have c44b1 : decide ((ji42) ≤ (x9_1.length : Int)) = true := decide_eq_true c44
          clear c44
          obtain ⟨y381, hy381⟩ : ∃ y_ : List Int, y_ = (x9_1.take ((ji42) : Int).toNat) := ⟨_, rfl⟩
          replace H : ((some (([x9_1, t378, y381] : List (List Int)) : List (List Int))).bind fun y386 => (kotatsulaw07_GrooveReads.l1 k1 y386 (y386.length : Int) 0)) = some r := by first | (rw [hy381]; with_reducible exact H) | (have H2_ := (Option.bind_some _ _).symm.trans H; rw [hy381]; with_reducible exact H2_) | (have H2_ := (Option.bind_some _ _).symm.trans H; with_reducible exact H2_) | with_reducible exact H | (rw [hy381]; exact H) | exact H
          have Ny381 := Aside0.mk hy381
          clear hy381
          obtain ⟨y386, hy386⟩ : ∃ y_ : List (List Int), y_ = (([x9_1, t378, y381] : List (List Int))) := ⟨_, rfl⟩
          replace H : (kotatsulaw07_GrooveReads.l1 k1 y386 (y386.length : Int) 0) = some r := by first | (rw [hy386]; with_reducible exact H) | (have H2_ := (Option.bind_some _ _).symm.trans H; rw [hy386]; with_reducible exact H2_) | (have H2_ := (Option.bind_some _ _).symm.trans H; with_reducible exact H2_) | with_reducible exact H | (rw [hy386]; exact H) | exact H
          have Ny386 := Aside0.mk hy386
          clear hy386
          have H' := Aside0.mk H
          clear H
          try go_wp2
          have n0_ := Aside0.mk (Kd.R_drew HO_9.out)
          have n1_ := Aside0.mk (Kd.V_drew HO_31.out)
          have n2_ := Aside0.mk (below_drew1 HB.out)
          clear HO_9
          clear HO_31
          clear HB
          have HO_9 := n0_
          have HO_31 := n1_
          have HB := n2_
          clear n0_ n1_ n2_
          obtain ⟨Ao46, co46, eo46⟩ := Kd.R_slice HO_9.out
          (first | subst eo46 | (injection eo46 with f1_ f2_ f3_; have f4_ := f1_.symm; have f5_ := f3_.symm; clear f1_ f2_ f3_; subst f4_; subst f5_))
          have q47 : ((ji42) : Int) ≤ ((x9_1.length : Int) : Int) := of_decide_eq_true (by first | (with_reducible assumption) | assumption)
          obtain ⟨i047, hi047, _, hsz47, _⟩ := info_parts info5
          have hroom47 : x9_1.length ≤ co46 := (Kd.R_reads' HO_9.out).2.1
          have hC47 : Kd.F (Kd.int .u8) _ _ Ao46 x9_1.length x9_1 := (Kd.V_at (base := w.heap.size) (Kd.R_V HO_9.out)).2.2
          have hcut47 := cut_to (P := Try.prog) 22 5 .i64 Try.underlying22 hi047 Ao46 x9_1.length co46 (ji42) (of_decide_eq_true (by first | (with_reducible assumption) | assumption)) q47 hroom47
          have hr47 := Kd.F_take (m := ((ji42) : Int).toNat) hC47 (by omega)
          have hy47 : y381.length = ((ji42) : Int).toNat := (by rw [Ny381.out, List.length_take]; omega)
          rw [← Ny381.out] at hr47
          rw [← hy47] at hcut47
          have HO385 := Aside0.mk (show Kd.V (Kd.int .u8) 5 _ w.heap.size _ (.slice Ao46 y381.length co46) y381 from Kd.V_mk (by omega) hr47)
          have HC385 := Aside0.mk (show y381.length ≤ co46 from by omega)
          clear hr47 hC47 hroom47 hi047 hsz47
          have KY47 := Aside0.mk hy47
          clear hy47
          replace q47 := eq_true q47
          refine start_ (n := 13) (S := fun w' => True) (ds := []) #[false, false, false, false, false, false, false, false, false, false, false, false, false] (by kernel_rfl) rfl rfl trivial (fun hHeld => ?_); refine with_tabW kotatsulaw07_GrooveReads.tab9 kotatsulaw07_GrooveReads.bits9 (fun HT_ HW_ => ?_)
          generalize wr.drew = w45 at HO_9 HO_31 HB HO385 hHeld ⊢
          refine pure_ (i := 0) (N := some 49) (v := ?_) (a' := ?_) #[true, false, false, false, false, false, false, false, false, false, false, false, false] rfl rfl (any_of HT_.out (by kernel_rfl)) (fun _ _ _ h => h) (Or.inl ⟨by rfl, ?_⟩) ?_ ?_
          rotate_left
          ·intro w'
           go_simp
           with_reducible rfl
          rotate_left
          ·simp only [Act.put, List.setIfInBounds_toArray, List.set_cons_zero, List.set_cons_succ, i64_w, i32_w]
           rfl
          refine pure_ (i := 1) (N := some 50) (v := ?_) (a' := ?_) #[true, true, false, false, false, false, false, false, false, false, false, false, false] rfl rfl (any_of HT_.out (by kernel_rfl)) (fun _ _ _ h => h) (Or.inl ⟨by rfl, ?_⟩) ?_ ?_
          rotate_left
          ·intro w'
           go_simp
           with_reducible rfl
          rotate_left
          ·simp only [Act.put, List.setIfInBounds_toArray, List.set_cons_zero, List.set_cons_succ, i64_w, i32_w]
           rfl
          refine pure_ (i := 3) (N := some 52) (v := ?_) (a' := ?_) #[true, true, false, true, false, false, false, false, false, false, false, false, false] rfl rfl (any_of HT_.out (by kernel_rfl)) (fun _ _ _ h => h) (Or.inl ⟨by rfl, ?_⟩) ?_ ?_
          rotate_left
          ·intro w'
           go_simp
           with_reducible rfl
          rotate_left
          ·simp only [Act.put, List.setIfInBounds_toArray, List.set_cons_zero, List.set_cons_succ, i64_w, i32_w]
           rfl
          refine pure_ (i := 4) (N := some 53) (v := ?_) (a' := ?_) #[true, true, false, true, true, false, false, false, false, false, false, false, false] rfl rfl (any_of HT_.out (by kernel_rfl)) (fun _ _ _ h => h) (Or.inl ⟨by rfl, ?_⟩) ?_ ?_
          rotate_left
          ·intro w'
           go_simp
           with_reducible rfl
          rotate_left
          ·simp only [Act.put, List.setIfInBounds_toArray, List.set_cons_zero, List.set_cons_succ, i64_w, i32_w]
           rfl
          refine pure_ (i := 5) (N := some 54) (v := ?_) (a' := ?_) #[true, true, false, true, true, true, false, false, false, false, false, false, false] rfl rfl (any_of HT_.out (by kernel_rfl)) (fun _ _ _ h => h) (Or.inl ⟨by rfl, ?_⟩) ?_ ?_
          rotate_left
          ·intro w'
           go_simp
           with_reducible rfl
          rotate_left
          ·simp only [Act.put, List.setIfInBounds_toArray, List.set_cons_zero, List.set_cons_succ, i64_w, i32_w]
           rfl
          refine pure_ (i := 6) (N := some 55) (v := ?_) (a' := ?_) #[true, true, false, true, true, true, true, false, false, false, false, false, false] rfl rfl (any_of HT_.out (by kernel_rfl)) (fun _ _ _ h => h) (Or.inl ⟨by rfl, ?_⟩) ?_ ?_
          rotate_left
          ·intro w'
           go_simp
           with_reducible rfl
          rotate_left
          ·simp only [Act.put, List.setIfInBounds_toArray, List.set_cons_zero, List.set_cons_succ, i64_w, i32_w]
           rfl
          refine pure_ (i := 7) (N := some 56) (v := ?_) (a' := ?_) #[true, true, false, true, true, true, true, true, false, false, false, false, false] rfl rfl (any_of HT_.out (by kernel_rfl)) (fun _ _ _ h => h) (Or.inl ⟨by rfl, ?_⟩) ?_ ?_
          rotate_left
          ·intro w'
           go_simp
           with_reducible rfl
          rotate_left
          ·simp only [Act.put, List.setIfInBounds_toArray, List.set_cons_zero, List.set_cons_succ, i64_w, i32_w]
           rfl
          refine pure_ (i := 8) (N := some 57) (v := ?_) (a' := ?_) #[true, true, false, true, true, true, true, true, true, false, false, false, false] rfl rfl (any_of HT_.out (by kernel_rfl)) (fun _ _ _ h => h) (Or.inl ⟨by rfl, ?_⟩) ?_ ?_
          rotate_left
          ·intro w'
           go_simp
           with_reducible rfl
          rotate_left
          ·simp only [Act.put, List.setIfInBounds_toArray, List.set_cons_zero, List.set_cons_succ, i64_w, i32_w]
           rfl
          refine pure_ (i := 9) (N := some 58) (v := ?_) (a' := ?_) #[true, true, false, true, true, true, true, true, true, true, false, false, false] rfl rfl (any_of HT_.out (by kernel_rfl)) (fun _ _ _ h => h) (Or.inl ⟨by rfl, ?_⟩) ?_ ?_
          rotate_left
          ·intro w'
           go_simp
           with_reducible rfl
          rotate_left
          ·simp only [Act.put, List.setIfInBounds_toArray, List.set_cons_zero, List.set_cons_succ, i64_w, i32_w]
           rfl
          refine pure_ (i := 12) (N := some 61) (v := ?_) (a' := ?_) #[true, true, false, true, true, true, true, true, true, true, false, false, true] rfl rfl (any_of HT_.out (by kernel_rfl)) (fun _ _ _ h => h) (Or.inl ⟨by rfl, ?_⟩) ?_ ?_
          rotate_left
          ·intro w'
           go_simp
           with_reducible rfl
          rotate_left
          ·simp only [Act.put, List.setIfInBounds_toArray, List.set_cons_zero, List.set_cons_succ, i64_w, i32_w]
           rfl
          refine one_ (i := 2) (N := some 51) #[true, true, true, true, true, true, true, true, true, true, false, false, true] rfl rfl (one_of HT_.out (by kernel_rfl)) (by decide) (fun K hK => ?_)
          refine goes_ Try.func8 (by kernel_rfl) rfl #[.slice A0 l0.length c0, .int .i64 100] (by rfl) rfl rfl (by (try simp only [List.map_toArray, List.map_cons, List.map_nil]); first | done | rfl | (simp only [List.length_drop, List.length_take]; rfl)) ?_
          with_reducible refine (kotatsuref01_Cut.calls k1 _ _ l0 100 t378 _ ?side1 ?side2 A40.out).mono ?_
          (case side1 => repeat (first | exact (Kd.C_below HR0.out HB.out) | (with_reducible refine Kd.C_alloc ?_ _) | (with_reducible refine Kd.C_drewN ?_ _) | (with_reducible refine Kd.C_drew ?_)))
          (case side2 => exact HC0.out)
          rintro e w48 ⟨v379, rfl, ho0, hb⟩
          refine ⟨_, rfl, ?_⟩
          have n0_ := Aside0.mk (Kd.R_below (by (with_reducible repeat (first | apply Kd.R_alloc | apply Kd.R_drewN | apply Kd.R_drew)); exact HO_9.out) hb)
          have n1_ := Aside0.mk (Kd.V_below (by (with_reducible repeat (first | apply Kd.V_alloc | apply Kd.V_drewN | apply Kd.V_drew)); exact HO_31.out) hb)
          have n2_ := Aside0.mk (Kd.V_below (by (with_reducible repeat (first | apply Kd.V_alloc | apply Kd.V_drewN | apply Kd.V_drew)); exact HO385.out) hb)
          have n3_ := Aside0.mk (Kd.V_lower (Kd.V_mono (ok' := fun k_ => some k_ ≠ (.slice Ao46 x9_1.length co46 : Value).ownBlock) ho0 (fun k_ hk_ => (Kd.fresh' (Kd.R_lt (by (with_reducible repeat (first | apply Kd.R_alloc | apply Kd.R_drewN | apply Kd.R_drew)); exact HO_9.out)) k_ hk_))) (below_size (by repeat (first | (with_reducible first | exact HB.out | apply below_alloc | apply pw_below_drewN | apply below_drew1) | exact HB.out))))
          have n4_ := Aside0.mk (below_step (by repeat (first | (with_reducible first | exact HB.out | apply below_alloc | apply pw_below_drewN | apply below_drew1) | exact HB.out)) hb)
          clear HO_9
          clear HO_31
          clear HO385
          clear HB
          have HO_9 := n0_
          have HO_31 := n1_
          have HO385 := n2_
          have HO380 := n3_
          have HB := n4_
          clear n0_ n1_ n2_ n3_ n4_
          (try clear hb)
          (try clear hb2)
          (try clear hk)
          (try clear hi)
          (try clear ho0)
          obtain ⟨Ao49, co49, eo49⟩ := Kd.V_slice HO380.out
          (first | subst eo49 | (injection eo49 with f1_ f2_ f3_; have f4_ := f1_.symm; have f5_ := f3_.symm; clear f1_ f2_ f3_; subst f4_; subst f5_))
          refine hK.out _ _ trivial (fun hHeld => ?_)
          clear hK K
          refine norm_ (a' := ?_) ?_ ?_
          rotate_left
          ·show Act.put _ (some 51) _ = _
           simp only [Act.put, List.setIfInBounds_toArray, List.set_cons_zero, List.set_cons_succ, i64_w, i32_w]
           rfl
          refine one_ (i := 10) (N := some 59) #[true, true, true, true, true, true, true, true, true, true, true, false, true] rfl rfl (one_of HT_.out (by kernel_rfl)) (by decide) (fun K hK => ?_)
          refine Kd.N_lit_step (Kd.slice 5 (Kd.int .u8)) _ 22 ?hg (N' := 59) ?hd (xs := ([x9_1, t378, y381] : List (List Int))) (inner := [.slice Ao46 x9_1.length co46, .slice Ao49 t378.length co49, .slice Ao46 y381.length co46]) (ok := (fun _ => True)) (okp := (fun _ => True)) ?hr ?hp (fun _ hk => hk) ((show ∀ k_, w48.heap.size ≤ k_ → (fun _ => True) k_ from fun k_ hk => trivial) _ (Nat.le_refl _)) (Below.refl _ _) (Nat.le_refl _) (by simp) ?_; (case hd => rfl); (case hg => rfl); (case hr => first | (go_simp; done) | (go_simp; rfl)); (case hp => exact (Reps.one (show Kd.FK (Kd.slice 5 (Kd.int .u8)) _ _ x9_1 [.slice Ao46 x9_1.length co46] from (Kd.FK_slice_mk (Kd.R_reads' (Kd.R_mono (ok' := (fun _ => True)) (HO_9.out) (fun k_ hk => trivial))).2.1 (Kd.R_F (Kd.R_mono (ok' := (fun _ => True)) (HO_9.out) (fun k_ hk => trivial))))) (Reps.one (show Kd.FK (Kd.slice 5 (Kd.int .u8)) _ _ t378 [.slice Ao49 t378.length co49] from (Kd.FK_slice_mk (Kd.V_reads' (e := 5) (base := w.heap.size) (Kd.V_mono (e := 5) (base := w.heap.size) (ok' := (fun _ => True)) (HO380.out) (fun k_ hk => trivial))).2.1 (Kd.V_F (e := 5) (base := w.heap.size) (Kd.V_mono (e := 5) (base := w.heap.size) (ok' := (fun _ => True)) (HO380.out) (fun k_ hk => trivial))))) (Reps.one (show Kd.FK (Kd.slice 5 (Kd.int .u8)) _ _ y381 [.slice Ao46 y381.length co46] from (Kd.FK_slice_mk (Kd.V_reads' (e := 5) (base := w.heap.size) (Kd.V_mono (e := 5) (base := w.heap.size) (ok' := (fun _ => True)) (HO385.out) (fun k_ hk => trivial))).2.1 (Kd.V_F (e := 5) (base := w.heap.size) (Kd.V_mono (e := 5) (base := w.heap.size) (ok' := (fun _ => True)) (HO385.out) (fun k_ hk => trivial))))) (Reps.none _ _)))))
          intro v387 w50 ho51 hb hg_ hnew_
          clear hg_ hnew_
          (first | rw [← Ny386.out] at ho51 | (simp only [Int.reduceToNat] at ho51; rw [← Ny386.out] at ho51))
          have n0_ := Aside0.mk (Kd.V_elder' (by (with_reducible repeat (first | apply Kd.V_alloc | apply Kd.V_drewN | apply Kd.V_drew)); exact HO_31.out) (Kd.N_base ho51) hb)
          have n1_ := Aside0.mk (Kd.V_elder' (by (with_reducible repeat (first | apply Kd.V_alloc | apply Kd.V_drewN | apply Kd.V_drew)); exact HO385.out) (Kd.N_base ho51) hb)
          have n2_ := Aside0.mk (Kd.V_elder' (by (with_reducible repeat (first | apply Kd.V_alloc | apply Kd.V_drewN | apply Kd.V_drew)); exact HO380.out) (Kd.N_base ho51) hb)
          have n3_ := Aside0.mk (Kd.N_lower ho51 (below_size (by repeat (first | (with_reducible first | exact HB.out | apply below_alloc | apply pw_below_drewN | apply below_drew1) | exact HB.out))))
          have n4_ := Aside0.mk (below_step (by repeat (first | (with_reducible first | exact HB.out | apply below_alloc | apply pw_below_drewN | apply below_drew1) | exact HB.out)) hb)
          clear HO_31
          clear HO385
          clear HO380
          clear HB
          clear HO_9
          have HO_31 := n0_
          have HO385 := n1_
          have HO380 := n2_
          have HO388 := n3_
          have HB := n4_
          clear n0_ n1_ n2_ n3_ n4_
          clear hb ho51
          obtain ⟨Ao52, co52, eo52⟩ := Kd.N_slice HO388.out
          (first | subst eo52 | (injection eo52 with f1_ f2_ f3_; have f4_ := f1_.symm; have f5_ := f3_.symm; clear f1_ f2_ f3_; subst f4_; subst f5_))
          refine hK.out _ _ trivial (fun hHeld => ?_)
          clear hK K
          refine norm_ (a' := ?_) ?_ ?_
          rotate_left
          ·show Act.put _ (some 59) _ = _
           simp only [Act.put, List.setIfInBounds_toArray, List.set_cons_zero, List.set_cons_succ, i64_w, i32_w]
           rfl
          refine pure_ (i := 11) (N := some 60) (v := ?_) (a' := ?_) #[true, true, true, true, true, true, true, true, true, true, true, true, true] rfl rfl (any_of HT_.out (by kernel_rfl)) (fun _ _ _ h => h) (Or.inl ⟨by rfl, ?_⟩) ?_ ?_
          rotate_left
          ·intro w'
           go_simp
           with_reducible rfl
          rotate_left
          ·simp only [Act.put, List.setIfInBounds_toArray, List.set_cons_zero, List.set_cons_succ, i64_w, i32_w]
           rfl
          refine done_ (done_of HT_.out (by kernel_rfl)) ?_
          try go_wp2
          go_loopg [61] k1 (fun kq v61 w' => ∃ (x61_2 : Int), v61 = .int .i64 x61_2 ∧ Aside0 (kotatsulaw07_GrooveReads.l1 kq y386 (y386.length : Int) x61_2 = some r) ∧ Aside0 (kq ≤ k1) ∧ Aside0 (Kd.N (Kd.slice 5 (Kd.int .u8)) 22 w' w.heap.size (fun _ => True) (.slice Ao52 y386.length co52) y386) ∧ Aside0 (Below w.heap.size w w'))
          case atStart => exact ⟨(0), (by first | rfl | (simp; done) | (simp [*]; done)), H', ⟨Nat.le_refl _⟩, ⟨by (with_reducible repeat (first | apply Kd.N_alloc | apply Kd.N_drewN | apply Kd.N_drew)); exact HO388.out⟩, ⟨by repeat (first | (with_reducible first | exact HB.out | apply below_alloc | apply pw_below_drewN | apply below_drew1) | exact HB.out)⟩⟩
          case round =>
           clear H'
           try clear c1
           try clear c2
           try clear p2
           try clear q2
           try clear c3
           try clear p3
           try clear q3
           try clear hx3
           try clear c4
           try clear q4
           try clear c6
           try clear p6
           try clear c7
           try clear c8
           try clear c9
           try clear c11
           try clear c11b0
           try clear c11b1
           try clear c12
           try clear c12b0
           try clear c12b1
           try clear c13
           try clear c14
           try clear c21
           try clear q21
           try clear c29
           try clear c29b0
           try clear c30
           try clear c30b0
           try clear c31
           try clear c31b0
           try clear c32
           try clear c32b0
           try clear c32b1
           try clear c32b2
           try clear c34
           try clear c34b0
           try clear c35
           try clear c35b0
           try clear p36
           try clear q36
           try clear hx36
           try clear hf36
           try clear p37
           try clear q37
           try clear hx37
           try clear c41
           try clear c41b0
           try clear c41b1
           try clear c41b2
           try clear c43
           try clear c43b0
           try clear c43b1
           try clear c44
           try clear c44b0
           try clear c44b1
           try clear q47
           try clear hx36_0
           try clear hx376_0
           try clear p2
           try clear p36
           try clear p376
           try clear p6
           try clear q021
           try clear q2
           try clear q21
           try clear q36
           try clear q376
           try clear q47
           obtain ⟨x61_2, rfl, HA, HK2, HO_59, HB⟩ := hrel
           cases gk with
           | zero => exact absurd HA.out (by simp [kotatsulaw07_GrooveReads.l1])
           | succ k2 =>
            have H := HA.out
            clear HA
            simp only [kotatsulaw07_GrooveReads.l1] at H
            by_cases c53 : x61_2 < (y386.length : Int)
            ·rw [if_pos c53] at H
             have c53b0 : decide (x61_2 < (y386.length : Int)) = true := decide_eq_true c53
             clear c53
             by_cases c54 : 0 ≤ x61_2
             ·rw [if_pos c54] at H
              have c54b0 : decide (0 ≤ x61_2) = true := decide_eq_true c54
              clear c54
              by_cases c55 : x61_2 < (y386.length : Int)
              ·rw [if_pos c55] at H
               have c55b0 : decide (x61_2 < (y386.length : Int)) = true := decide_eq_true c55
               clear c55
               replace H := Option.bind_eq_some_iff.mp H
               obtain ⟨⟨t390, t393⟩, A560, H⟩ := H
               replace H : ((kotatsuref07_Read.f k2 (rd_L1 y386 x61_2)).bind fun bt394 => (if t393 = bt394.2 then ((kotatsulaw07_own.f k2 t390).bind fun t398 => ((kotatsuref05_Same.f k2 t398 bt394.1).bind fun t401 => (if t401 = true then (kotatsulaw07_GrooveReads.l1 k2 y386 (y386.length : Int) (wrap64 (x61_2 + 1))) else (some false)))) else (some false))) = some r := H
               have A56 := Aside0.mk A560
               clear A560
               replace H := Option.bind_eq_some_iff.mp H
               obtain ⟨⟨t394, t397⟩, A570, H⟩ := H
               replace H : (if t393 = t397 then ((kotatsulaw07_own.f k2 t390).bind fun t398 => ((kotatsuref05_Same.f k2 t398 t394).bind fun t401 => (if t401 = true then (kotatsulaw07_GrooveReads.l1 k2 y386 (y386.length : Int) (wrap64 (x61_2 + 1))) else (some false)))) else (some false)) = some r := H
               have A57 := Aside0.mk A570
               clear A570
               by_cases c58 : t393 = t397
               ·rw [if_pos c58] at H
                have c58b0 : (t393 == t397) = true := beq_iff_eq.mpr c58
                have c58b1 : (t393 != t397) = false := bne_eq_false_iff_eq.mpr c58
                clear c58
                replace H := Option.bind_eq_some_iff.mp H
                obtain ⟨t398, A590, H⟩ := H
                replace H : ((kotatsuref05_Same.f k2 t398 t394).bind fun t401 => (if t401 = true then (kotatsulaw07_GrooveReads.l1 k2 y386 (y386.length : Int) (wrap64 (x61_2 + 1))) else (some false))) = some r := H
                have A59 := Aside0.mk A590
                clear A590
                replace H := Option.bind_eq_some_iff.mp H
                obtain ⟨t401, A600, H⟩ := H
                replace H : (if t401 = true then (kotatsulaw07_GrooveReads.l1 k2 y386 (y386.length : Int) (wrap64 (x61_2 + 1))) else (some false)) = some r := H
                have A60 := Aside0.mk A600
                clear A600
                by_cases c61 : t401 = true
                ·subst c61
                 have H1 : (kotatsulaw07_GrooveReads.l1 k2 y386 (y386.length : Int) (wrap64 (x61_2 + 1))) = some r := by rw [if_pos rfl] at H; exact H
                 clear H
                 have H := H1
                 clear H1
                 have H' := Aside0.mk H
                 clear H
                 have p389 : 0 ≤ (x61_2 : Int) := of_decide_eq_true (by first | (with_reducible assumption) | assumption)
                 have q389 : x61_2 < (y386.length : Int) := of_decide_eq_true (by first | (with_reducible assumption) | assumption)
                 obtain ⟨ad389, A389_0, c389_0, e389, hx389_0, hl389_0, hi389_0⟩ := at_L1 (Kd.N_reads' HO_59.out).2.2 x61_2 p389 q389
                 cases e389
                 obtain ⟨ce389, hce389, hMe389, hcc389⟩ := Kd.N_get HO_59.out [] x61_2 p389 (by first | exact q389 | exact of_decide_eq_true (by first | (with_reducible assumption) | assumption) | (have e_ := (Kd.N_reads' HO_59.out).1; omega))
                 obtain ⟨ua389_0, uc389_0, rfl, ul389_0, ge389_0⟩ := Kd.FK_slice_open hMe389
                 have hv389_0 := hcc389 0 _ rfl
                 rw [Nat.add_zero, show ((Kd.slice 5 (Kd.int .u8))).sz = 1 from rfl, Nat.mul_one] at hv389_0
                 replace hv389_0 := Option.some.inj (hv389_0.symm.trans hx389_0)
                 injection hv389_0 with hva_ hvn_ hvc_
                 rw [hva_] at ge389_0
                 rw [hvc_] at ul389_0
                 have HL389_0 := Aside0.mk (show Kd.V (Kd.int .u8) 5 _ w.heap.size _ _ (rd_L1 y386 x61_2) from Kd.V_mk ul389_0 ge389_0)
                 clear hva_ hvn_ hvc_ ge389_0 ul389_0
                 clear hcc389 hce389
                 have HR389_0 := Aside0.mk hi389_0
                 have HC389_0 := Aside0.mk hl389_0
                 clear hi389_0 hl389_0
                 replace p389 := eq_true p389
                 replace q389 := eq_true q389
                 go_wp2_with (first | ((with_reducible refine gate_callee (f := 15) rfl ?_); refine goesL_ (some 67) rfl rfl Try.func15 (by kernel_rfl) rfl #[.slice A389_0 (rd_L1 y386 x61_2).length c389_0] rfl (by (try simp only [List.map_toArray, List.map_cons, List.map_nil]); first | done | rfl | (simp only [List.length_drop, List.length_take]; rfl)) ?_; (with_reducible refine (groove_Read.calls k2 _ _ (rd_L1 y386 x61_2) t390 t393 _ ?side1 ?side2 A56.out).mono ?_); (case side1 => repeat (first | exact (by repeat (first | (with_reducible exact HR389_0.out) | (with_reducible refine Kd.C_alloc ?_ _) | (with_reducible refine Kd.C_drewN ?_ _) | (with_reducible refine Kd.C_drew ?_) | exact HR389_0.out)) | (with_reducible refine Kd.C_alloc ?_ _) | (with_reducible refine Kd.C_drewN ?_ _) | (with_reducible refine Kd.C_drew ?_))); (case side2 => exact HC389_0.out); rintro e w62 ⟨v391, rfl, ho0, hb⟩; refine ⟨_, rfl, ?_⟩; have n0_ := Aside0.mk (Kd.N_elder' (by (with_reducible repeat (first | apply Kd.N_alloc | apply Kd.N_drewN | apply Kd.N_drew)); exact HO_59.out) (Kd.N_base ho0) hb); have n1_ := Aside0.mk (Kd.V_elder' (by (with_reducible repeat (first | apply Kd.V_alloc | apply Kd.V_drewN | apply Kd.V_drew)); exact HL389_0.out) (Kd.N_base ho0) hb); have n2_ := Aside0.mk (Kd.N_lower (Kd.N_mono (ok' := fun k_ => some k_ ≠ (.slice (some ad389) y386.length co52 : Value).ownBlock) ho0 (fun k_ hk_ => (Kd.fresh' (Kd.N_lt (by (with_reducible repeat (first | apply Kd.N_alloc | apply Kd.N_drewN | apply Kd.N_drew)); exact HO_59.out)) k_ hk_))) (below_size (by repeat (first | (with_reducible first | exact HB.out | apply below_alloc | apply pw_below_drewN | apply below_drew1) | exact HB.out)))); have n3_ := Aside0.mk (Kd.C_below (by repeat (first | (with_reducible exact HR389_0.out) | (with_reducible refine Kd.C_alloc ?_ _) | (with_reducible refine Kd.C_drewN ?_ _) | (with_reducible refine Kd.C_drew ?_) | exact HR389_0.out)) hb); have n4_ := Aside0.mk (below_step (by repeat (first | (with_reducible first | exact HB.out | apply below_alloc | apply pw_below_drewN | apply below_drew1) | exact HB.out)) hb); clear HO_59; clear HL389_0; clear HR389_0; clear HB; have HO_59 := n0_; have HL389_0 := n1_; have HO392 := n2_; have HR389_0 := n3_; have HB := n4_; clear n0_ n1_ n2_ n3_ n4_; (try clear hb); (try clear hb2); (try clear hk); (try clear hi); (try clear ho0)) | ((with_reducible refine gate_callee (f := 16) rfl ?_); refine goesL_ (some 72) rfl rfl Try.func16 (by kernel_rfl) rfl #[.slice A389_0 (rd_L1 y386 x61_2).length c389_0] rfl (by (try simp only [List.map_toArray, List.map_cons, List.map_nil]); first | done | rfl | (simp only [List.length_drop, List.length_take]; rfl)) ?_; (with_reducible refine (kotatsuref07_Read.calls k2 (fun k_ => ((True ∧ some k_ ≠ (.slice (some ad389) y386.length co52 : Value).ownBlock) ∧ some k_ ≠ (v391 : Value).ownBlock)) _ _ (rd_L1 y386 x61_2) t394 t397 _ ?side1 A57.out).mono ?_); (case side1 => exact HL389_0.out); rintro e w63 ⟨v395, rfl, ho0, hb⟩; refine ⟨_, rfl, ?_⟩; have n0_ := Aside0.mk (Kd.N_elder' (by (with_reducible repeat (first | apply Kd.N_alloc | apply Kd.N_drewN | apply Kd.N_drew)); exact HO_59.out) (Kd.N_base ho0) hb); have n1_ := Aside0.mk (Kd.V_elder' (by (with_reducible repeat (first | apply Kd.V_alloc | apply Kd.V_drewN | apply Kd.V_drew)); exact HL389_0.out) (Kd.N_base ho0) hb); have n2_ := Aside0.mk (Kd.N_elder' (by (with_reducible repeat (first | apply Kd.N_alloc | apply Kd.N_drewN | apply Kd.N_drew)); exact HO392.out) (Kd.N_base ho0) hb); have n3_ := Aside0.mk (Kd.N_lower (Kd.N_mono (ok' := fun k_ => some k_ ≠ (.slice (some ad389) y386.length co52 : Value).ownBlock ∧ some k_ ≠ (v391 : Value).ownBlock) ho0 (fun k_ hk_ => ⟨Or.elim hk_ (fun hs_ => hs_.1.2) (fun hn_ => (Kd.fresh' (Kd.N_lt (by (with_reducible repeat (first | apply Kd.N_alloc | apply Kd.N_drewN | apply Kd.N_drew)); exact HO_59.out)) k_ hn_)), Or.elim hk_ (fun hs_ => hs_.2) (fun hn_ => (Kd.fresh' (Kd.N_lt (by (with_reducible repeat (first | apply Kd.N_alloc | apply Kd.N_drewN | apply Kd.N_drew)); exact HO392.out)) k_ hn_))⟩)) (below_size (by repeat (first | (with_reducible first | exact HB.out | apply below_alloc | apply pw_below_drewN | apply below_drew1) | exact HB.out)))); have n4_ := Aside0.mk (Kd.C_below (by repeat (first | (with_reducible exact HR389_0.out) | (with_reducible refine Kd.C_alloc ?_ _) | (with_reducible refine Kd.C_drewN ?_ _) | (with_reducible refine Kd.C_drew ?_) | exact HR389_0.out)) hb); have n5_ := Aside0.mk (below_step (by repeat (first | (with_reducible first | exact HB.out | apply below_alloc | apply pw_below_drewN | apply below_drew1) | exact HB.out)) hb); clear HO_59; clear HL389_0; clear HO392; clear HR389_0; clear HB; have HO_59 := n0_; have HL389_0 := n1_; have HO392 := n2_; have HO396 := n3_; have HR389_0 := n4_; have HB := n5_; clear n0_ n1_ n2_ n3_ n4_ n5_; (try clear hb); (try clear hb2); (try clear hk); (try clear hi); (try clear ho0); obtain ⟨Ao64, co64, eo64⟩ := Kd.N_slice HO392.out; subst eo64) | (go_at_call 13; (with_reducible refine (kotatsulaw07_own.calls k2 (fun k_ => (some k_ ≠ (.slice (some ad389) y386.length co52 : Value).ownBlock ∧ some k_ ≠ (v395 : Value).ownBlock)) _ _ t390 t398 _ ?side1 A59.out).mono ?_); (case side1 => exact Kd.N_V (HO392.out)); rintro e w65 ⟨v399, rfl, ho0, hb⟩; have n0_ := Aside0.mk (Kd.N_elder' (by (with_reducible repeat (first | apply Kd.N_alloc | apply Kd.N_drewN | apply Kd.N_drew)); exact HO_59.out) (Kd.N_base ho0) hb); have n1_ := Aside0.mk (Kd.V_elder' (by (with_reducible repeat (first | apply Kd.V_alloc | apply Kd.V_drewN | apply Kd.V_drew)); exact HL389_0.out) (Kd.N_base ho0) hb); have n2_ := Aside0.mk (Kd.N_elder' (by (with_reducible repeat (first | apply Kd.N_alloc | apply Kd.N_drewN | apply Kd.N_drew)); exact HO392.out) (Kd.N_base ho0) hb); have n3_ := Aside0.mk (Kd.N_elder' (by (with_reducible repeat (first | apply Kd.N_alloc | apply Kd.N_drewN | apply Kd.N_drew)); exact HO396.out) (Kd.N_base ho0) hb); have n4_ := Aside0.mk (Kd.N_lower (Kd.N_mono (ok' := fun k_ => some k_ ≠ (.slice (some ad389) y386.length co52 : Value).ownBlock ∧ some k_ ≠ (v395 : Value).ownBlock) ho0 (fun k_ hk_ => ⟨Or.elim hk_ (fun hs_ => hs_.1) (fun hn_ => (Kd.fresh' (Kd.N_lt (by (with_reducible repeat (first | apply Kd.N_alloc | apply Kd.N_drewN | apply Kd.N_drew)); exact HO_59.out)) k_ hn_)), Or.elim hk_ (fun hs_ => hs_.2) (fun hn_ => (Kd.fresh' (Kd.N_lt (by (with_reducible repeat (first | apply Kd.N_alloc | apply Kd.N_drewN | apply Kd.N_drew)); exact HO396.out)) k_ hn_))⟩)) (below_size (by repeat (first | (with_reducible first | exact HB.out | apply below_alloc | apply pw_below_drewN | apply below_drew1) | exact HB.out)))); have n5_ := Aside0.mk (Kd.C_below (by repeat (first | (with_reducible exact HR389_0.out) | (with_reducible refine Kd.C_alloc ?_ _) | (with_reducible refine Kd.C_drewN ?_ _) | (with_reducible refine Kd.C_drew ?_) | exact HR389_0.out)) hb); have n6_ := Aside0.mk (below_step (by repeat (first | (with_reducible first | exact HB.out | apply below_alloc | apply pw_below_drewN | apply below_drew1) | exact HB.out)) hb); clear HO_59; clear HL389_0; clear HO392; clear HO396; clear HR389_0; clear HB; have HO_59 := n0_; have HL389_0 := n1_; have HO392 := n2_; have HO396 := n3_; have HO400 := n4_; have HR389_0 := n5_; have HB := n6_; clear n0_ n1_ n2_ n3_ n4_ n5_ n6_; (try clear hb); (try clear hb2); (try clear hk); (try clear hi); (try clear ho0); obtain ⟨Ao66, co66, eo66⟩ := Kd.N_slice HO400.out; subst eo66; obtain ⟨Ao67, co67, eo67⟩ := Kd.N_slice HO396.out; subst eo67) | (go_at_call 17; (with_reducible refine (kotatsuref05_Same.calls k2 _ _ t398 _ _ t394 true _ ?side1 ?side2 ?side3 ?side4 A60.out).mono ?_); (case side1 => repeat (first | exact (Kd.N_reads' HO400.out).2.2 | (with_reducible refine Kd.C_alloc ?_ _) | (with_reducible refine Kd.C_drewN ?_ _) | (with_reducible refine Kd.C_drew ?_))); (case side2 => exact (Kd.N_reads' HO400.out).2.1); (case side3 => repeat (first | exact (Kd.N_reads' HO396.out).2.2 | (with_reducible refine Kd.C_alloc ?_ _) | (with_reducible refine Kd.C_drewN ?_ _) | (with_reducible refine Kd.C_drew ?_))); (case side4 => exact (Kd.N_reads' HO396.out).2.1); rintro e w' ⟨rfl, ⟨nd, rfl⟩⟩))
                 go_roundg k2
                 case measure => have := HK1.out; have := HK2.out; omega
                 case rel => exact ⟨(wrap64 (x61_2 + 1)), (by first | rfl | (simp; done) | (simp [*]; done)), H', ⟨by have := HK1.out; have := HK2.out; omega⟩, ⟨by (with_reducible repeat (first | apply Kd.N_alloc | apply Kd.N_drewN | apply Kd.N_drew)); exact Kd.N_mono HO_59.out (fun _ hk => trivial)⟩, ⟨by repeat (first | (with_reducible first | exact HB.out | apply below_alloc | apply pw_below_drewN | apply below_drew1) | exact HB.out)⟩⟩
                ·replace c61 := Bool.eq_false_iff.mpr c61
                 subst c61
                 have H1 : (some false) = some r := by rw [if_neg (show ¬ (false = true) by decide)] at H; exact H
                 clear H
                 have H := H1
                 clear H1
                 obtain rfl := Option.some.inj H
                 have p389 : 0 ≤ (x61_2 : Int) := of_decide_eq_true (by first | (with_reducible assumption) | assumption)
                 have q389 : x61_2 < (y386.length : Int) := of_decide_eq_true (by first | (with_reducible assumption) | assumption)
                 obtain ⟨ad389, A389_0, c389_0, e389, hx389_0, hl389_0, hi389_0⟩ := at_L1 (Kd.N_reads' HO_59.out).2.2 x61_2 p389 q389
                 cases e389
                 obtain ⟨ce389, hce389, hMe389, hcc389⟩ := Kd.N_get HO_59.out [] x61_2 p389 (by first | exact q389 | exact of_decide_eq_true (by first | (with_reducible assumption) | assumption) | (have e_ := (Kd.N_reads' HO_59.out).1; omega))
                 obtain ⟨ua389_0, uc389_0, rfl, ul389_0, ge389_0⟩ := Kd.FK_slice_open hMe389
                 have hv389_0 := hcc389 0 _ rfl
                 rw [Nat.add_zero, show ((Kd.slice 5 (Kd.int .u8))).sz = 1 from rfl, Nat.mul_one] at hv389_0
                 replace hv389_0 := Option.some.inj (hv389_0.symm.trans hx389_0)
                 injection hv389_0 with hva_ hvn_ hvc_
                 rw [hva_] at ge389_0
                 rw [hvc_] at ul389_0
                 have HL389_0 := Aside0.mk (show Kd.V (Kd.int .u8) 5 _ w.heap.size _ _ (rd_L1 y386 x61_2) from Kd.V_mk ul389_0 ge389_0)
                 clear hva_ hvn_ hvc_ ge389_0 ul389_0
                 clear hcc389 hce389
                 have HR389_0 := Aside0.mk hi389_0
                 have HC389_0 := Aside0.mk hl389_0
                 clear hi389_0 hl389_0
                 replace p389 := eq_true p389
                 replace q389 := eq_true q389
                 go_wp2_with (first | ((with_reducible refine gate_callee (f := 15) rfl ?_); refine goesL_ (some 67) rfl rfl Try.func15 (by kernel_rfl) rfl #[.slice A389_0 (rd_L1 y386 x61_2).length c389_0] rfl (by (try simp only [List.map_toArray, List.map_cons, List.map_nil]); first | done | rfl | (simp only [List.length_drop, List.length_take]; rfl)) ?_; (with_reducible refine (groove_Read.calls k2 _ _ (rd_L1 y386 x61_2) t390 t393 _ ?side1 ?side2 A56.out).mono ?_); (case side1 => repeat (first | exact (by repeat (first | (with_reducible exact HR389_0.out) | (with_reducible refine Kd.C_alloc ?_ _) | (with_reducible refine Kd.C_drewN ?_ _) | (with_reducible refine Kd.C_drew ?_) | exact HR389_0.out)) | (with_reducible refine Kd.C_alloc ?_ _) | (with_reducible refine Kd.C_drewN ?_ _) | (with_reducible refine Kd.C_drew ?_))); (case side2 => exact HC389_0.out); rintro e w68 ⟨v391, rfl, ho0, hb⟩; refine ⟨_, rfl, ?_⟩; have n0_ := Aside0.mk (Kd.N_elder' (by (with_reducible repeat (first | apply Kd.N_alloc | apply Kd.N_drewN | apply Kd.N_drew)); exact HO_59.out) (Kd.N_base ho0) hb); have n1_ := Aside0.mk (Kd.V_elder' (by (with_reducible repeat (first | apply Kd.V_alloc | apply Kd.V_drewN | apply Kd.V_drew)); exact HL389_0.out) (Kd.N_base ho0) hb); have n2_ := Aside0.mk (Kd.N_lower (Kd.N_mono (ok' := fun k_ => some k_ ≠ (.slice (some ad389) y386.length co52 : Value).ownBlock) ho0 (fun k_ hk_ => (Kd.fresh' (Kd.N_lt (by (with_reducible repeat (first | apply Kd.N_alloc | apply Kd.N_drewN | apply Kd.N_drew)); exact HO_59.out)) k_ hk_))) (below_size (by repeat (first | (with_reducible first | exact HB.out | apply below_alloc | apply pw_below_drewN | apply below_drew1) | exact HB.out)))); have n3_ := Aside0.mk (Kd.C_below (by repeat (first | (with_reducible exact HR389_0.out) | (with_reducible refine Kd.C_alloc ?_ _) | (with_reducible refine Kd.C_drewN ?_ _) | (with_reducible refine Kd.C_drew ?_) | exact HR389_0.out)) hb); have n4_ := Aside0.mk (below_step (by repeat (first | (with_reducible first | exact HB.out | apply below_alloc | apply pw_below_drewN | apply below_drew1) | exact HB.out)) hb); clear HO_59; clear HL389_0; clear HR389_0; clear HB; have HO_59 := n0_; have HL389_0 := n1_; have HO392 := n2_; have HR389_0 := n3_; have HB := n4_; clear n0_ n1_ n2_ n3_ n4_; (try clear hb); (try clear hb2); (try clear hk); (try clear hi); (try clear ho0)) | ((with_reducible refine gate_callee (f := 16) rfl ?_); refine goesL_ (some 72) rfl rfl Try.func16 (by kernel_rfl) rfl #[.slice A389_0 (rd_L1 y386 x61_2).length c389_0] rfl (by (try simp only [List.map_toArray, List.map_cons, List.map_nil]); first | done | rfl | (simp only [List.length_drop, List.length_take]; rfl)) ?_; (with_reducible refine (kotatsuref07_Read.calls k2 (fun k_ => ((True ∧ some k_ ≠ (.slice (some ad389) y386.length co52 : Value).ownBlock) ∧ some k_ ≠ (v391 : Value).ownBlock)) _ _ (rd_L1 y386 x61_2) t394 t397 _ ?side1 A57.out).mono ?_); (case side1 => exact HL389_0.out); rintro e w69 ⟨v395, rfl, ho0, hb⟩; refine ⟨_, rfl, ?_⟩; have n0_ := Aside0.mk (Kd.N_elder' (by (with_reducible repeat (first | apply Kd.N_alloc | apply Kd.N_drewN | apply Kd.N_drew)); exact HO_59.out) (Kd.N_base ho0) hb); have n1_ := Aside0.mk (Kd.V_elder' (by (with_reducible repeat (first | apply Kd.V_alloc | apply Kd.V_drewN | apply Kd.V_drew)); exact HL389_0.out) (Kd.N_base ho0) hb); have n2_ := Aside0.mk (Kd.N_elder' (by (with_reducible repeat (first | apply Kd.N_alloc | apply Kd.N_drewN | apply Kd.N_drew)); exact HO392.out) (Kd.N_base ho0) hb); have n3_ := Aside0.mk (Kd.N_lower (Kd.N_mono (ok' := fun k_ => some k_ ≠ (.slice (some ad389) y386.length co52 : Value).ownBlock ∧ some k_ ≠ (v391 : Value).ownBlock) ho0 (fun k_ hk_ => ⟨Or.elim hk_ (fun hs_ => hs_.1.2) (fun hn_ => (Kd.fresh' (Kd.N_lt (by (with_reducible repeat (first | apply Kd.N_alloc | apply Kd.N_drewN | apply Kd.N_drew)); exact HO_59.out)) k_ hn_)), Or.elim hk_ (fun hs_ => hs_.2) (fun hn_ => (Kd.fresh' (Kd.N_lt (by (with_reducible repeat (first | apply Kd.N_alloc | apply Kd.N_drewN | apply Kd.N_drew)); exact HO392.out)) k_ hn_))⟩)) (below_size (by repeat (first | (with_reducible first | exact HB.out | apply below_alloc | apply pw_below_drewN | apply below_drew1) | exact HB.out)))); have n4_ := Aside0.mk (Kd.C_below (by repeat (first | (with_reducible exact HR389_0.out) | (with_reducible refine Kd.C_alloc ?_ _) | (with_reducible refine Kd.C_drewN ?_ _) | (with_reducible refine Kd.C_drew ?_) | exact HR389_0.out)) hb); have n5_ := Aside0.mk (below_step (by repeat (first | (with_reducible first | exact HB.out | apply below_alloc | apply pw_below_drewN | apply below_drew1) | exact HB.out)) hb); clear HO_59; clear HL389_0; clear HO392; clear HR389_0; clear HB; have HO_59 := n0_; have HL389_0 := n1_; have HO392 := n2_; have HO396 := n3_; have HR389_0 := n4_; have HB := n5_; clear n0_ n1_ n2_ n3_ n4_ n5_; (try clear hb); (try clear hb2); (try clear hk); (try clear hi); (try clear ho0); obtain ⟨Ao70, co70, eo70⟩ := Kd.N_slice HO392.out; subst eo70) | (go_at_call 13; (with_reducible refine (kotatsulaw07_own.calls k2 (fun k_ => (some k_ ≠ (.slice (some ad389) y386.length co52 : Value).ownBlock ∧ some k_ ≠ (v395 : Value).ownBlock)) _ _ t390 t398 _ ?side1 A59.out).mono ?_); (case side1 => exact Kd.N_V (HO392.out)); rintro e w71 ⟨v399, rfl, ho0, hb⟩; have n0_ := Aside0.mk (Kd.N_elder' (by (with_reducible repeat (first | apply Kd.N_alloc | apply Kd.N_drewN | apply Kd.N_drew)); exact HO_59.out) (Kd.N_base ho0) hb); have n1_ := Aside0.mk (Kd.V_elder' (by (with_reducible repeat (first | apply Kd.V_alloc | apply Kd.V_drewN | apply Kd.V_drew)); exact HL389_0.out) (Kd.N_base ho0) hb); have n2_ := Aside0.mk (Kd.N_elder' (by (with_reducible repeat (first | apply Kd.N_alloc | apply Kd.N_drewN | apply Kd.N_drew)); exact HO392.out) (Kd.N_base ho0) hb); have n3_ := Aside0.mk (Kd.N_elder' (by (with_reducible repeat (first | apply Kd.N_alloc | apply Kd.N_drewN | apply Kd.N_drew)); exact HO396.out) (Kd.N_base ho0) hb); have n4_ := Aside0.mk (Kd.N_lower (Kd.N_mono (ok' := fun k_ => some k_ ≠ (.slice (some ad389) y386.length co52 : Value).ownBlock ∧ some k_ ≠ (v395 : Value).ownBlock) ho0 (fun k_ hk_ => ⟨Or.elim hk_ (fun hs_ => hs_.1) (fun hn_ => (Kd.fresh' (Kd.N_lt (by (with_reducible repeat (first | apply Kd.N_alloc | apply Kd.N_drewN | apply Kd.N_drew)); exact HO_59.out)) k_ hn_)), Or.elim hk_ (fun hs_ => hs_.2) (fun hn_ => (Kd.fresh' (Kd.N_lt (by (with_reducible repeat (first | apply Kd.N_alloc | apply Kd.N_drewN | apply Kd.N_drew)); exact HO396.out)) k_ hn_))⟩)) (below_size (by repeat (first | (with_reducible first | exact HB.out | apply below_alloc | apply pw_below_drewN | apply below_drew1) | exact HB.out)))); have n5_ := Aside0.mk (Kd.C_below (by repeat (first | (with_reducible exact HR389_0.out) | (with_reducible refine Kd.C_alloc ?_ _) | (with_reducible refine Kd.C_drewN ?_ _) | (with_reducible refine Kd.C_drew ?_) | exact HR389_0.out)) hb); have n6_ := Aside0.mk (below_step (by repeat (first | (with_reducible first | exact HB.out | apply below_alloc | apply pw_below_drewN | apply below_drew1) | exact HB.out)) hb); clear HO_59; clear HL389_0; clear HO392; clear HO396; clear HR389_0; clear HB; have HO_59 := n0_; have HL389_0 := n1_; have HO392 := n2_; have HO396 := n3_; have HO400 := n4_; have HR389_0 := n5_; have HB := n6_; clear n0_ n1_ n2_ n3_ n4_ n5_ n6_; (try clear hb); (try clear hb2); (try clear hk); (try clear hi); (try clear ho0); obtain ⟨Ao72, co72, eo72⟩ := Kd.N_slice HO400.out; subst eo72; obtain ⟨Ao73, co73, eo73⟩ := Kd.N_slice HO396.out; subst eo73) | (go_at_call 17; (with_reducible refine (kotatsuref05_Same.calls k2 _ _ t398 _ _ t394 false _ ?side1 ?side2 ?side3 ?side4 A60.out).mono ?_); (case side1 => repeat (first | exact (Kd.N_reads' HO400.out).2.2 | (with_reducible refine Kd.C_alloc ?_ _) | (with_reducible refine Kd.C_drewN ?_ _) | (with_reducible refine Kd.C_drew ?_))); (case side2 => exact (Kd.N_reads' HO400.out).2.1); (case side3 => repeat (first | exact (Kd.N_reads' HO396.out).2.2 | (with_reducible refine Kd.C_alloc ?_ _) | (with_reducible refine Kd.C_drewN ?_ _) | (with_reducible refine Kd.C_drew ?_))); (case side4 => exact (Kd.N_reads' HO396.out).2.1); rintro e w' ⟨rfl, ⟨nd, rfl⟩⟩))
                 go_ret
                 exact ⟨by first | rfl | (simp [errW_none, errW_some] <;> rfl) | (simp only [← hji10, ← hji42]; first | rfl | (simp [errW_none, errW_some] <;> rfl)) | (simp [*, errW_none, errW_some] <;> rfl), by repeat (first | (with_reducible first | exact HB.out | apply below_alloc | apply pw_below_drewN | apply below_drew1) | exact HB.out)⟩
               ·rw [if_neg c58] at H
                have c58b0 : (t393 == t397) = false := beq_eq_false_iff_ne.mpr c58
                have c58b1 : (t393 != t397) = true := bne_iff_ne.mpr c58
                obtain rfl := Option.some.inj H
                have p389 : 0 ≤ (x61_2 : Int) := of_decide_eq_true (by first | (with_reducible assumption) | assumption)
                have q389 : x61_2 < (y386.length : Int) := of_decide_eq_true (by first | (with_reducible assumption) | assumption)
                obtain ⟨ad389, A389_0, c389_0, e389, hx389_0, hl389_0, hi389_0⟩ := at_L1 (Kd.N_reads' HO_59.out).2.2 x61_2 p389 q389
                cases e389
                obtain ⟨ce389, hce389, hMe389, hcc389⟩ := Kd.N_get HO_59.out [] x61_2 p389 (by first | exact q389 | exact of_decide_eq_true (by first | (with_reducible assumption) | assumption) | (have e_ := (Kd.N_reads' HO_59.out).1; omega))
                obtain ⟨ua389_0, uc389_0, rfl, ul389_0, ge389_0⟩ := Kd.FK_slice_open hMe389
                have hv389_0 := hcc389 0 _ rfl
                rw [Nat.add_zero, show ((Kd.slice 5 (Kd.int .u8))).sz = 1 from rfl, Nat.mul_one] at hv389_0
                replace hv389_0 := Option.some.inj (hv389_0.symm.trans hx389_0)
                injection hv389_0 with hva_ hvn_ hvc_
                rw [hva_] at ge389_0
                rw [hvc_] at ul389_0
                have HL389_0 := Aside0.mk (show Kd.V (Kd.int .u8) 5 _ w.heap.size _ _ (rd_L1 y386 x61_2) from Kd.V_mk ul389_0 ge389_0)
                clear hva_ hvn_ hvc_ ge389_0 ul389_0
                clear hcc389 hce389
                have HR389_0 := Aside0.mk hi389_0
                have HC389_0 := Aside0.mk hl389_0
                clear hi389_0 hl389_0
                replace p389 := eq_true p389
                replace q389 := eq_true q389
                go_wp2_with (first | ((with_reducible refine gate_callee (f := 15) rfl ?_); refine goesL_ (some 67) rfl rfl Try.func15 (by kernel_rfl) rfl #[.slice A389_0 (rd_L1 y386 x61_2).length c389_0] rfl (by (try simp only [List.map_toArray, List.map_cons, List.map_nil]); first | done | rfl | (simp only [List.length_drop, List.length_take]; rfl)) ?_; (with_reducible refine (groove_Read.calls k2 _ _ (rd_L1 y386 x61_2) t390 t393 _ ?side1 ?side2 A56.out).mono ?_); (case side1 => repeat (first | exact (by repeat (first | (with_reducible exact HR389_0.out) | (with_reducible refine Kd.C_alloc ?_ _) | (with_reducible refine Kd.C_drewN ?_ _) | (with_reducible refine Kd.C_drew ?_) | exact HR389_0.out)) | (with_reducible refine Kd.C_alloc ?_ _) | (with_reducible refine Kd.C_drewN ?_ _) | (with_reducible refine Kd.C_drew ?_))); (case side2 => exact HC389_0.out); rintro e w74 ⟨v391, rfl, ho0, hb⟩; refine ⟨_, rfl, ?_⟩; have n0_ := Aside0.mk (Kd.N_elder' (by (with_reducible repeat (first | apply Kd.N_alloc | apply Kd.N_drewN | apply Kd.N_drew)); exact HO_59.out) (Kd.N_base ho0) hb); have n1_ := Aside0.mk (Kd.V_elder' (by (with_reducible repeat (first | apply Kd.V_alloc | apply Kd.V_drewN | apply Kd.V_drew)); exact HL389_0.out) (Kd.N_base ho0) hb); have n2_ := Aside0.mk (Kd.N_lower (Kd.N_mono (ok' := fun k_ => some k_ ≠ (.slice (some ad389) y386.length co52 : Value).ownBlock) ho0 (fun k_ hk_ => (Kd.fresh' (Kd.N_lt (by (with_reducible repeat (first | apply Kd.N_alloc | apply Kd.N_drewN | apply Kd.N_drew)); exact HO_59.out)) k_ hk_))) (below_size (by repeat (first | (with_reducible first | exact HB.out | apply below_alloc | apply pw_below_drewN | apply below_drew1) | exact HB.out)))); have n3_ := Aside0.mk (Kd.C_below (by repeat (first | (with_reducible exact HR389_0.out) | (with_reducible refine Kd.C_alloc ?_ _) | (with_reducible refine Kd.C_drewN ?_ _) | (with_reducible refine Kd.C_drew ?_) | exact HR389_0.out)) hb); have n4_ := Aside0.mk (below_step (by repeat (first | (with_reducible first | exact HB.out | apply below_alloc | apply pw_below_drewN | apply below_drew1) | exact HB.out)) hb); clear HO_59; clear HL389_0; clear HR389_0; clear HB; have HO_59 := n0_; have HL389_0 := n1_; have HO392 := n2_; have HR389_0 := n3_; have HB := n4_; clear n0_ n1_ n2_ n3_ n4_; (try clear hb); (try clear hb2); (try clear hk); (try clear hi); (try clear ho0)) | ((with_reducible refine gate_callee (f := 16) rfl ?_); refine goesL_ (some 72) rfl rfl Try.func16 (by kernel_rfl) rfl #[.slice A389_0 (rd_L1 y386 x61_2).length c389_0] rfl (by (try simp only [List.map_toArray, List.map_cons, List.map_nil]); first | done | rfl | (simp only [List.length_drop, List.length_take]; rfl)) ?_; (with_reducible refine (kotatsuref07_Read.calls k2 (fun k_ => ((True ∧ some k_ ≠ (.slice (some ad389) y386.length co52 : Value).ownBlock) ∧ some k_ ≠ (v391 : Value).ownBlock)) _ _ (rd_L1 y386 x61_2) t394 t397 _ ?side1 A57.out).mono ?_); (case side1 => exact HL389_0.out); rintro e w75 ⟨v395, rfl, ho0, hb⟩; refine ⟨_, rfl, ?_⟩; have n0_ := Aside0.mk (Kd.N_elder' (by (with_reducible repeat (first | apply Kd.N_alloc | apply Kd.N_drewN | apply Kd.N_drew)); exact HO_59.out) (Kd.N_base ho0) hb); have n1_ := Aside0.mk (Kd.V_elder' (by (with_reducible repeat (first | apply Kd.V_alloc | apply Kd.V_drewN | apply Kd.V_drew)); exact HL389_0.out) (Kd.N_base ho0) hb); have n2_ := Aside0.mk (Kd.N_elder' (by (with_reducible repeat (first | apply Kd.N_alloc | apply Kd.N_drewN | apply Kd.N_drew)); exact HO392.out) (Kd.N_base ho0) hb); have n3_ := Aside0.mk (Kd.N_lower (Kd.N_mono (ok' := fun k_ => some k_ ≠ (.slice (some ad389) y386.length co52 : Value).ownBlock ∧ some k_ ≠ (v391 : Value).ownBlock) ho0 (fun k_ hk_ => ⟨Or.elim hk_ (fun hs_ => hs_.1.2) (fun hn_ => (Kd.fresh' (Kd.N_lt (by (with_reducible repeat (first | apply Kd.N_alloc | apply Kd.N_drewN | apply Kd.N_drew)); exact HO_59.out)) k_ hn_)), Or.elim hk_ (fun hs_ => hs_.2) (fun hn_ => (Kd.fresh' (Kd.N_lt (by (with_reducible repeat (first | apply Kd.N_alloc | apply Kd.N_drewN | apply Kd.N_drew)); exact HO392.out)) k_ hn_))⟩)) (below_size (by repeat (first | (with_reducible first | exact HB.out | apply below_alloc | apply pw_below_drewN | apply below_drew1) | exact HB.out)))); have n4_ := Aside0.mk (Kd.C_below (by repeat (first | (with_reducible exact HR389_0.out) | (with_reducible refine Kd.C_alloc ?_ _) | (with_reducible refine Kd.C_drewN ?_ _) | (with_reducible refine Kd.C_drew ?_) | exact HR389_0.out)) hb); have n5_ := Aside0.mk (below_step (by repeat (first | (with_reducible first | exact HB.out | apply below_alloc | apply pw_below_drewN | apply below_drew1) | exact HB.out)) hb); clear HO_59; clear HL389_0; clear HO392; clear HR389_0; clear HB; have HO_59 := n0_; have HL389_0 := n1_; have HO392 := n2_; have HO396 := n3_; have HR389_0 := n4_; have HB := n5_; clear n0_ n1_ n2_ n3_ n4_ n5_; (try clear hb); (try clear hb2); (try clear hk); (try clear hi); (try clear ho0)))
                go_ret
                exact ⟨by first | rfl | (simp [errW_none, errW_some] <;> rfl) | (simp only [← hji10, ← hji42]; first | rfl | (simp [errW_none, errW_some] <;> rfl)) | (simp [*, errW_none, errW_some] <;> rfl), by repeat (first | (with_reducible first | exact HB.out | apply below_alloc | apply pw_below_drewN | apply below_drew1) | exact HB.out)⟩
              ·rw [if_neg c55] at H
               exact absurd H (by simp)
             ·rw [if_neg c54] at H
              exact absurd H (by simp)
            ·rw [if_neg c53] at H
             have c53b0 : decide (x61_2 < (y386.length : Int)) = false := decide_eq_false c53
             clear c53
             obtain rfl := Option.some.inj H
             go_wp2
             go_ret
             exact ⟨by first | rfl | (simp [errW_none, errW_some] <;> rfl) | (simp only [← hji10, ← hji42]; first | rfl | (simp [errW_none, errW_some] <;> rfl)) | (simp [*, errW_none, errW_some] <;> rfl), by repeat (first | (with_reducible first | exact HB.out | apply below_alloc | apply pw_below_drewN | apply below_drew1) | exact HB.out)⟩
         ·rw [if_neg c44] at H
          exact absurd H (by simp)
        ·rw [if_neg c43] at H
         exact absurd H (by simp)
   ·rw [if_neg c12] at H
    exact absurd H (by simp)
  ·rw [if_neg c11] at H
   exact absurd H (by simp)
 ·replace c6 := Bool.eq_false_iff.mpr c6
  subst c6
  have H1 : (some false) = some r := by rw [if_neg (show ¬ (false = true) by decide)] at H; exact H
  clear H
  have H := H1
  clear H1
  obtain rfl := Option.some.inj H
  go_enter Try.func4, Try.ntmps4
  go_wp2_with (first | ((with_reducible refine gate_callee (f := 7) rfl ?_); refine goesL_ (some 18) rfl rfl Try.func7 (by kernel_rfl) rfl #[] rfl (by (try simp only [List.map_toArray, List.map_cons, List.map_nil]); first | done | rfl | (simp only [List.length_drop, List.length_take]; rfl)) ?_; (with_reducible refine (kotatsulaw07_awake.calls k  false _ A5.out).mono ?_); rintro e w76 ⟨rfl, hb⟩; refine ⟨_, rfl, ?_⟩; have n0_ := Aside0.mk (below_step (by repeat (first | (with_reducible first | exact HB.out | apply below_alloc | apply pw_below_drewN | apply below_drew1) | exact HB.out)) hb); clear HB; have HB := n0_; clear n0_; (try clear hb); (try clear hb2); (try clear hk); (try clear hi)))
  go_ret
  exact ⟨by first | rfl | (simp [errW_none, errW_some] <;> rfl) | (simp [*, errW_none, errW_some] <;> rfl), by repeat (first | (with_reducible first | exact HB.out | apply below_alloc | apply pw_below_drewN | apply below_drew1) | exact HB.out)⟩

end Go.Proofs.Ytgahcipgglkkhaa.PGrooveReads
